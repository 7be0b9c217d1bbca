/- LineInsts: part 2 of the proof that, whatever the input, the law returns true and the input reads as it did; its conditions are those of the given row. -/
import Derived.Test.YtblfhkldljfhiaaGreatDoorZLineInsts1
import Derived.Test.YtblfhkldljfhiaaGreatDoorProg
set_option linter.unusedVariables false
set_option linter.unusedSimpArgs false
namespace Go.Ab
open Go.Proofs
def UP (x : ByteArray) : List AV := [.sc (.string x)]
def Ql (l : List ByteArray) : List (List AV) := l.map UP
theorem Vp (l : List ByteArray) : l.map UP = Ql l := rfl
theorem Qd2 (l m : List ByteArray) : Ql l ++ Ql m = Ql (l ++ m) := by simp only [← Vp, List.map_append]
theorem Qni (l : List ByteArray) (i : Nat) (a : ByteArray) : (Ql l).set i (UP a) = Ql (l.set i a) := by simp only [← Vp, List.map_set]
theorem Vq {l : List ByteArray} {n : Nat} {a : ByteArray} (h : l[n]? = some a) : (Ql l)[n]? = some (UP a) := by rw [← Vp]; exact FT h
theorem Qho (l : List ByteArray) : (Ql l).all (fun r => r.length == 1) = true := by rw [← Vp]; exact QfV (C := UP) (fun _ => rfl) l
theorem Jy (l : List ByteArray) : (Ql l).length = l.length := by rw [← Vp, List.length_map]
def C_u8 (x : Int) : List AV := [.sc (.int .u8 x)]
def R_u8 (l : List Int) : List (List AV) := l.map C_u8
theorem QrW (l : List Int) : l.map C_u8 = R_u8 l := rfl
def XG (x : Int) : List AV := [.sc (.int .i64 x)]
def QH (l : List Int) : List (List AV) := l.map XG
theorem UF (l : List Int) : l.map XG = QH l := rfl
theorem Qhp (l m : List Int) : QH l ++ QH m = QH (l ++ m) := by simp only [← UF, List.map_append]
theorem Vl {l : List Int} {n : Nat} {a : Int} (h : l[n]? = some a) : (QH l)[n]? = some (XG a) := by rw [← UF]; exact FT h
theorem Ql1 (l : List Int) : (QH l).all (fun r => r.length == 1) = true := by rw [← UF]; exact QfV (C := XG) (fun _ => rfl) l
theorem VU (l : List Int) : (QH l).length = l.length := by rw [← UF, List.length_map]
structure Qd where
  Kind : Int
  N : Int
  Name : ByteArray
  L : (List Qd)
deriving Inhabited
mutual
def Qkd : Qd → List AV
  | ⟨x0, x1, x2, x3⟩ => [.sc (.int .i64 x0), .sc (.int .i64 x1), .sc (.string x2), .sl (V2 x3)]
def V2 : List Qd → List (List AV)
  | [] => []
  | x :: l => Qkd x :: V2 l
end
def UB (x : Qd) : List AV := [.sc (.int .i64 x.Kind), .sc (.int .i64 x.N), .sc (.string x.Name), .sl (V2 x.L)]
theorem Qbi (l : List Qd) : l.map UB = V2 l := by
  induction l with
  | nil => rw [V2]; rfl
  | cons x l ih => rw [V2, List.map_cons, ih]; congr 1; cases x; rw [Qkd]; rfl
theorem Qe4 {l : List Qd} {n : Nat} {a : Qd} (h : l[n]? = some a) : (V2 l)[n]? = some (UB a) := by rw [← Qbi]; exact FT h
structure Qg where
  Reg : Int
  E : Qd
deriving Inhabited
def Ec (x : Qg) : List AV := [.sc (.int .i64 x.Reg), .sc (.int .i64 x.E.Kind), .sc (.int .i64 x.E.N), .sc (.string x.E.Name), .sl (V2 x.E.L)]
def QJ (l : List Qg) : List (List AV) := l.map Ec
theorem YW (l : List Qg) : l.map Ec = QJ l := rfl
theorem Qdl (l m : List Qg) : QJ l ++ QJ m = QJ (l ++ m) := by simp only [← YW, List.map_append]
theorem Si {l : List Qg} {n : Nat} {a : Qg} (h : l[n]? = some a) : (QJ l)[n]? = some (Ec a) := by rw [← YW]; exact FT h
theorem Qgx (l : List Qg) : (QJ l).all (fun r => r.length == 5) = true := by rw [← YW]; exact QfV (C := Ec) (fun _ => rfl) l
theorem Fz (l : List Qg) : (QJ l).length = l.length := by rw [← YW, List.length_map]
structure Qf where
  Line : Int
  Label : ByteArray
  Kind : Int
  Op : Int
  Text : ByteArray
  Args : (List Qg)
deriving Inhabited
def Qke (x : Qf) : List AV := [.sc (.int .i64 x.Line), .sc (.string x.Label), .sc (.int .i64 x.Kind), .sc (.int .i64 x.Op), .sc (.string x.Text), .sl (QJ x.Args)]
structure Qb where
  x : Qf
deriving Inhabited
structure Qc where
  name : ByteArray
  bits : Int
  kinds : ByteArray
deriving Inhabited
def FU (x : Qc) : List AV := [.sc (.string x.name), .sc (.int .u32 x.bits), .sc (.string x.kinds)]
def ZB (l : List Qc) : List (List AV) := l.map FU
theorem Qcz (l : List Qc) : l.map FU = ZB l := rfl
theorem Qgy {l : List Qc} {n : Nat} {a : Qc} (h : l[n]? = some a) : (ZB l)[n]? = some (FU a) := by rw [← Qcz]; exact FT h
theorem Qgz (l : List Qc) : (ZB l).length = l.length := by rw [← Qcz, List.length_map]
def Qhq (x : Nat) : List AV := [.fn (.func x) [] []]
def UD (l : List Nat) : List (List AV) := l.map Qhq
theorem Ed (l : List Nat) : l.map Qhq = UD l := rfl
theorem QcA (l m : List Nat) : UD l ++ UD m = UD (l ++ m) := by simp only [← Ed, List.map_append]
theorem Qqe {l : List Nat} {n : Nat} {a : Nat} (h : l[n]? = some a) : (UD l)[n]? = some (Qhq a) := by rw [← Ed]; exact FT h
theorem QfY (l : List Nat) : (UD l).all (fun r => r.length == 1) = true := by rw [← Ed]; exact QfV (C := Qhq) (fun _ => rfl) l
theorem Ga (l : List Nat) : (UD l).length = l.length := by rw [← Ed, List.length_map]
structure Qa where
  left : ByteArray
  deep : Int
  bad : Bool
deriving Inhabited
def QW (x : Qa) : List AV := [.sc (.string x.left), .sc (.int .i64 x.deep), .sc (.bool x.bad)]
def Qhr (x : (List Int)) : List AV := [.sl (QH x)]
def Qb3 (l : List (List Int)) : List (List AV) := l.map Qhr
theorem QfZ (l : List (List Int)) : l.map Qhr = Qb3 l := rfl
theorem Qkf {l : List (List Int)} {n : Nat} {a : (List Int)} (h : l[n]? = some a) : (Qb3 l)[n]? = some (Qhr a) := by rw [← QfZ]; exact FT h
theorem Qqf (l : List (List Int)) : (Qb3 l).length = l.length := by rw [← QfZ, List.length_map]
structure Qy where
  Name : ByteArray
  Bits : ByteArray
  Kinds : ByteArray
deriving Inhabited
def Qf0 (x : Qy) : List AV := [.sc (.string x.Name), .sc (.string x.Bits), .sc (.string x.Kinds)]
structure Qe where
  S : ByteArray
  P : Int
  Deep : Int
  Bad : Bool
deriving Inhabited
structure J6 where
  Op : Int
  F : (List Int)
deriving Inhabited
def SU (x : J6) : List AV := [.sc (.int .i64 x.Op), .sl (QH x.F)]
structure Ut where
  Name : ByteArray
  Value : Int
deriving Inhabited
def Qb4 (x : Ut) : List AV := [.sc (.string x.Name), .sc (.int .i64 x.Value)]
def Fh (l : List Ut) : List (List AV) := l.map Qb4
theorem QgA (l : List Ut) : l.map Qb4 = Fh l := rfl
theorem QgB {l : List Ut} {n : Nat} {a : Ut} (h : l[n]? = some a) : (Fh l)[n]? = some (Qb4 a) := by rw [← QgA]; exact FT h
theorem Qmv (l : List Ut) : (Fh l).length = l.length := by rw [← QgA, List.length_map]
def listB (l : List Int) : List UInt8 := l.map fun n => UInt8.ofNat n.toNat
theorem Qq7 (l : List Int) : bytesOfRows (R_u8 l) = some (listB l) := by
  induction l with
  | nil => rfl
  | cons x l ih => simp only [R_u8, listB, List.map_cons] at ih ⊢; simp only [bytesOfRows, C_u8, rowByte, ih, Option.bind_some, Option.map_some]
def h_20 : ByteArray := ⟨#[32]⟩
def Xe : ByteArray := ⟨#[32, 9]⟩
def Qe5 : ByteArray := ⟨#[32, 49]⟩
def UG : ByteArray := ⟨#[32, 88, 32, 89, 32, 68, 32, 65, 32, 66, 32]⟩
def h_26 : ByteArray := ⟨#[38]⟩
def h_28 : ByteArray := ⟨#[40]⟩
def h_29 : ByteArray := ⟨#[41]⟩
def h_2a : ByteArray := ⟨#[42]⟩
def h_2b : ByteArray := ⟨#[43]⟩
def h_2c : ByteArray := ⟨#[44]⟩
def Qbj : ByteArray := ⟨#[44, 32, 49]⟩
def h_2d : ByteArray := ⟨#[45]⟩
def h_2e : ByteArray := ⟨#[46]⟩
def J7 : ByteArray := ⟨#[46, 97, 108, 105, 103, 110]⟩
def Zc : ByteArray := ⟨#[46, 97, 115, 99, 105, 105]⟩
def JN : ByteArray := ⟨#[46, 98, 121, 116, 101]⟩
def Fj : ByteArray := ⟨#[46, 101, 113, 117]⟩
def JO : ByteArray := ⟨#[46, 104, 97, 108, 102]⟩
def JP : ByteArray := ⟨#[46, 108, 111, 110, 103]⟩
def J8 : ByteArray := ⟨#[46, 115, 112, 97, 99, 101]⟩
def Qe6 : ByteArray := ⟨#[60, 60]⟩
def Qe7 : ByteArray := ⟨#[62, 62]⟩
def VH : ByteArray := ⟨#[65, 32, 68, 32, 66]⟩
def U1 : ByteArray := ⟨#[65, 32, 68, 32, 67, 56]⟩
def VI : ByteArray := ⟨#[68, 32, 65, 32, 66]⟩
def E3 : ByteArray := ⟨#[68, 32, 65, 32, 67, 56]⟩
def GD : ByteArray := ⟨#[68, 32, 65, 32, 83, 49, 54]⟩
def FV : ByteArray := ⟨#[68, 32, 76, 50, 48]⟩
def Qv : ByteArray := ⟨#[68, 32, 83, 49, 54, 32, 65]⟩
def ZC : ByteArray := ⟨#[79, 49, 32, 73, 50, 32, 84, 56]⟩
def Vd : ByteArray := ⟨#[79, 50, 32, 73, 52, 32, 84, 49, 53]⟩
def WD : ByteArray := ⟨#[88, 32, 79, 53]⟩
def JR : ByteArray := ⟨#[88, 32, 85, 53]⟩
def SV : ByteArray := ⟨#[88, 32, 85, 55]⟩
def Jf : ByteArray := ⟨#[88, 32, 89]⟩
def WQ : ByteArray := ⟨#[89, 32, 77, 49, 32, 88]⟩
def WR : ByteArray := ⟨#[89, 32, 77, 50, 32, 88]⟩
def WS : ByteArray := ⟨#[89, 32, 77, 52, 32, 88]⟩
def h_7c : ByteArray := ⟨#[124]⟩
def Qi : ByteArray := ⟨#[115, 101, 95, 105, 108, 108, 101, 103, 97, 108, 58, 48, 48, 48, 48, 58, 124, 115, 101, 95, 105, 115, 121, 110, 99, 58, 48, 48, 48, 49, 58, 124, 115, 101, 95, 115, 99, 58, 48, 48, 48, 50, 58, 124, 115, 101, 95, 98, 108, 114, 58, 48, 48, 48, 52, 58, 124, 115, 101, 95, 98, 99, 116, 114, 58, 48, 48, 48, 54, 58, 124, 115, 101, 95, 110, 111, 116, 58, 48, 48, 50, 48, 58, 88, 124, 115, 101, 95, 110, 101, 103, 58, 48, 48, 51, 48, 58, 88, 124, 115, 101, 95, 109, 102, 108, 114, 58, 48, 48, 56, 48, 58, 88, 124, 115, 101, 95, 109, 116, 108, 114, 58, 48, 48, 57, 48, 58, 88, 124, 115, 101, 95, 109, 102, 99, 116, 114, 58, 48, 48, 97, 48, 58, 88, 124, 115, 101, 95, 109, 116, 99, 116, 114, 58, 48, 48, 98, 48, 58, 88, 124, 115, 101, 95, 101, 120, 116, 122, 98, 58, 48, 48, 99, 48, 58, 88, 124, 115, 101, 95, 101, 120, 116, 115, 98, 58, 48, 48, 100, 48, 58, 88, 124, 115, 101, 95, 101, 120, 116, 122, 104, 58, 48, 48, 101, 48, 58, 88, 124, 115, 101, 95, 101, 120, 116, 115, 104, 58, 48, 48, 102, 48, 58, 88, 124, 115, 101, 95, 109, 114, 58, 48, 49, 48, 48, 58, 88, 32, 89, 124, 115, 101, 95, 97, 100, 100, 58, 48, 52, 48, 48, 58, 88, 32, 89, 124, 115, 101, 95, 109, 117, 108, 108, 119, 58, 48, 53, 48, 48, 58, 88, 32, 89, 124, 115, 101, 95, 115, 117, 98, 58, 48, 54, 48, 48, 58, 88, 32, 89, 124, 115, 101, 95, 99, 109, 112, 58, 48, 99, 48, 48, 58, 88, 32, 89, 124, 115, 101, 95, 99, 109, 112, 108, 58, 48, 100, 48, 48, 58, 88, 32, 89, 124, 115, 101, 95, 97, 100, 100, 105, 58, 50, 48, 48, 48, 58, 88, 32, 79, 53, 124, 115, 101, 95, 99, 109, 112, 108, 105, 58, 50, 50, 48, 48, 58, 88, 32, 79, 53, 124, 115, 101, 95, 115, 117, 98, 105, 58, 50, 52, 48, 48, 58, 88, 32, 79, 53, 124, 115, 101, 95, 99, 109, 112, 105, 58, 50, 97, 48, 48, 58, 88, 32, 85, 53, 124, 115, 101, 95, 111, 114, 58, 52, 52, 48, 48, 58, 88, 32, 89, 124, 115, 101, 95, 97, 110, 100, 99, 58, 52, 53, 48, 48, 58, 88, 32, 89, 124, 115, 101, 95, 97, 110, 100, 58, 52, 54, 48, 48, 58, 88, 32, 89, 124, 115, 101, 95, 108, 105, 58, 52, 56, 48, 48, 58, 88, 32, 85, 55, 124, 115, 101, 95, 98, 99, 108, 114, 105, 58, 54, 48, 48, 48, 58, 88, 32, 85, 53, 124, 115, 101, 95, 98, 115, 101, 116, 105, 58, 54, 52, 48, 48, 58, 88, 32, 85, 53, 124, 115, 101, 95, 98, 116, 115, 116, 105, 58, 54, 54, 48, 48, 58, 88, 32, 85, 53, 124, 115, 101, 95, 115, 114, 119, 105, 58, 54, 56, 48, 48, 58, 88, 32, 85, 53, 124, 115, 101, 95, 115, 108, 119, 105, 58, 54, 99, 48, 48, 58, 88, 32, 85, 53, 124, 115, 101, 95, 108, 98, 122, 58, 56, 48, 48, 48, 58, 89, 32, 77, 49, 32, 88, 124, 115, 101, 95, 115, 116, 98, 58, 57, 48, 48, 48, 58, 89, 32, 77, 49, 32, 88, 124, 115, 101, 95, 108, 104, 122, 58, 97, 48, 48, 48, 58, 89, 32, 77, 50, 32, 88, 124, 115, 101, 95, 115, 116, 104, 58, 98, 48, 48, 48, 58, 89, 32, 77, 50, 32, 88, 124, 115, 101, 95, 108, 119, 122, 58, 99, 48, 48, 48, 58, 89, 32, 77, 52, 32, 88, 124, 115, 101, 95, 115, 116, 119, 58, 100, 48, 48, 48, 58, 89, 32, 77, 52, 32, 88, 124, 115, 101, 95, 98, 99, 58, 101, 48, 48, 48, 58, 79, 49, 32, 73, 50, 32, 84, 56, 124, 115, 101, 95, 98, 58, 101, 56, 48, 48, 58, 84, 56, 124, 115, 101, 95, 98, 108, 58, 101, 57, 48, 48, 58, 84, 56, 124, 101, 95, 97, 100, 100, 49, 54, 105, 58, 49, 99, 48, 48, 48, 48, 48, 48, 58, 68, 32, 65, 32, 83, 49, 54, 124, 101, 95, 97, 100, 100, 105, 58, 49, 56, 48, 48, 56, 48, 48, 48, 58, 68, 32, 65, 32, 67, 56, 124, 101, 95, 97, 110, 100, 105, 58, 49, 56, 48, 48, 99, 48, 48, 48, 58, 65, 32, 68, 32, 67, 56, 124, 101, 95, 111, 114, 105, 58, 49, 56, 48, 48, 100, 48, 48, 48, 58, 65, 32, 68, 32, 67, 56, 124, 101, 95, 120, 111, 114, 105, 58, 49, 56, 48, 48, 101, 48, 48, 48, 58, 65, 32, 68, 32, 67, 56, 124, 101, 95, 108, 105, 58, 55, 48, 48, 48, 48, 48, 48, 48, 58, 68, 32, 76, 50, 48, 124, 101, 95, 108, 98, 122, 58, 51, 48, 48, 48, 48, 48, 48, 48, 58, 68, 32, 83, 49, 54, 32, 65, 124, 101, 95, 115, 116, 98, 58, 51, 52, 48, 48, 48, 48, 48, 48, 58, 68, 32, 83, 49, 54, 32, 65, 124, 101, 95, 108, 104, 97, 58, 51, 56, 48, 48, 48, 48, 48, 48, 58, 68, 32, 83, 49, 54, 32, 65, 124, 101, 95, 108, 119, 122, 58, 53, 48, 48, 48, 48, 48, 48, 48, 58, 68, 32, 83, 49, 54, 32, 65, 124, 101, 95, 115, 116, 119, 58, 53, 52, 48, 48, 48, 48, 48, 48, 58, 68, 32, 83, 49, 54, 32, 65, 124, 101, 95, 108, 104, 122, 58, 53, 56, 48, 48, 48, 48, 48, 48, 58, 68, 32, 83, 49, 54, 32, 65, 124, 101, 95, 115, 116, 104, 58, 53, 99, 48, 48, 48, 48, 48, 48, 58, 68, 32, 83, 49, 54, 32, 65, 124, 101, 95, 98, 58, 55, 56, 48, 48, 48, 48, 48, 48, 58, 84, 50, 52, 124, 101, 95, 98, 108, 58, 55, 56, 48, 48, 48, 48, 48, 49, 58, 84, 50, 52, 124, 101, 95, 98, 99, 58, 55, 97, 48, 48, 48, 48, 48, 48, 58, 79, 50, 32, 73, 52, 32, 84, 49, 53, 124, 101, 95, 98, 99, 108, 58, 55, 97, 48, 48, 48, 48, 48, 49, 58, 79, 50, 32, 73, 52, 32, 84, 49, 53, 124, 97, 100, 100, 58, 55, 99, 48, 48, 48, 50, 49, 52, 58, 68, 32, 65, 32, 66, 124, 115, 117, 98, 102, 58, 55, 99, 48, 48, 48, 48, 53, 48, 58, 68, 32, 65, 32, 66, 124, 109, 117, 108, 108, 119, 58, 55, 99, 48, 48, 48, 49, 100, 54, 58, 68, 32, 65, 32, 66, 124, 97, 110, 100, 58, 55, 99, 48, 48, 48, 48, 51, 56, 58, 65, 32, 68, 32, 66, 124, 111, 114, 58, 55, 99, 48, 48, 48, 51, 55, 56, 58, 65, 32, 68, 32, 66, 124, 120, 111, 114, 58, 55, 99, 48, 48, 48, 50, 55, 56, 58, 65, 32, 68, 32, 66, 124]⟩
def s_ : ByteArray := ⟨#[]⟩
def s_0x : ByteArray := ⟨#[48, 120]⟩
def s_A : ByteArray := ⟨#[65]⟩
def s_B : ByteArray := ⟨#[66]⟩
def s_D : ByteArray := ⟨#[68]⟩
def s_I2 : ByteArray := ⟨#[73, 50]⟩
def s_I4 : ByteArray := ⟨#[73, 52]⟩
def Qsw : ByteArray := ⟨#[76, 50, 48]⟩
def s_M1 : ByteArray := ⟨#[77, 49]⟩
def s_M2 : ByteArray := ⟨#[77, 50]⟩
def s_M4 : ByteArray := ⟨#[77, 52]⟩
def s_O1 : ByteArray := ⟨#[79, 49]⟩
def s_O2 : ByteArray := ⟨#[79, 50]⟩
def s_O5 : ByteArray := ⟨#[79, 53]⟩
def Qsx : ByteArray := ⟨#[83, 49, 54]⟩
def Qsy : ByteArray := ⟨#[84, 49, 53]⟩
def Sj : ByteArray := ⟨#[84, 50, 52]⟩
def s_T8 : ByteArray := ⟨#[84, 56]⟩
def s_U5 : ByteArray := ⟨#[85, 53]⟩
def s_U7 : ByteArray := ⟨#[85, 55]⟩
def s_X : ByteArray := ⟨#[88]⟩
def s_Y : ByteArray := ⟨#[89]⟩
def s__ : ByteArray := ⟨#[95]⟩
def Qkg : ByteArray := ⟨#[97, 100, 100]⟩
def Qkh : ByteArray := ⟨#[97, 110, 100]⟩
def s_b : ByteArray := ⟨#[98]⟩
def s_bc : ByteArray := ⟨#[98, 99]⟩
def s_bl : ByteArray := ⟨#[98, 108]⟩
def SW : ByteArray := ⟨#[101, 95, 97, 100, 100, 49, 54, 105]⟩
def Qdm : ByteArray := ⟨#[101, 95, 97, 100, 100, 105]⟩
def Qdn : ByteArray := ⟨#[101, 95, 97, 110, 100, 105]⟩
def Qki : ByteArray := ⟨#[101, 95, 98]⟩
def Qhs : ByteArray := ⟨#[101, 95, 98, 99]⟩
def Qe8 : ByteArray := ⟨#[101, 95, 98, 99, 108]⟩
def Qht : ByteArray := ⟨#[101, 95, 98, 108]⟩
def Qe9 : ByteArray := ⟨#[101, 95, 108, 98, 122]⟩
def Qfa : ByteArray := ⟨#[101, 95, 108, 104, 97]⟩
def Qfb : ByteArray := ⟨#[101, 95, 108, 104, 122]⟩
def Qhu : ByteArray := ⟨#[101, 95, 108, 105]⟩
def Qfc : ByteArray := ⟨#[101, 95, 108, 119, 122]⟩
def Qfd : ByteArray := ⟨#[101, 95, 111, 114, 105]⟩
def Qfe : ByteArray := ⟨#[101, 95, 115, 116, 98]⟩
def Qff : ByteArray := ⟨#[101, 95, 115, 116, 104]⟩
def Qfg : ByteArray := ⟨#[101, 95, 115, 116, 119]⟩
def Qdo : ByteArray := ⟨#[101, 95, 120, 111, 114, 105]⟩
def Qfh : ByteArray := ⟨#[109, 117, 108, 108, 119]⟩
def s_or : ByteArray := ⟨#[111, 114]⟩
def s_r : ByteArray := ⟨#[114]⟩
def Qdp : ByteArray := ⟨#[115, 101, 95, 97, 100, 100]⟩
def Qb5 : ByteArray := ⟨#[115, 101, 95, 97, 100, 100, 105]⟩
def Qdq : ByteArray := ⟨#[115, 101, 95, 97, 110, 100]⟩
def Qb6 : ByteArray := ⟨#[115, 101, 95, 97, 110, 100, 99]⟩
def Qhv : ByteArray := ⟨#[115, 101, 95, 98]⟩
def Qfi : ByteArray := ⟨#[115, 101, 95, 98, 99]⟩
def SX : ByteArray := ⟨#[115, 101, 95, 98, 99, 108, 114, 105]⟩
def Qb7 : ByteArray := ⟨#[115, 101, 95, 98, 99, 116, 114]⟩
def Qfj : ByteArray := ⟨#[115, 101, 95, 98, 108]⟩
def Qdr : ByteArray := ⟨#[115, 101, 95, 98, 108, 114]⟩
def SY : ByteArray := ⟨#[115, 101, 95, 98, 115, 101, 116, 105]⟩
def SZ : ByteArray := ⟨#[115, 101, 95, 98, 116, 115, 116, 105]⟩
def Qds : ByteArray := ⟨#[115, 101, 95, 99, 109, 112]⟩
def Qb8 : ByteArray := ⟨#[115, 101, 95, 99, 109, 112, 105]⟩
def Qb9 : ByteArray := ⟨#[115, 101, 95, 99, 109, 112, 108]⟩
def S6 : ByteArray := ⟨#[115, 101, 95, 99, 109, 112, 108, 105]⟩
def S7 : ByteArray := ⟨#[115, 101, 95, 101, 120, 116, 115, 98]⟩
def S8 : ByteArray := ⟨#[115, 101, 95, 101, 120, 116, 115, 104]⟩
def S9 : ByteArray := ⟨#[115, 101, 95, 101, 120, 116, 122, 98]⟩
def Qaa : ByteArray := ⟨#[115, 101, 95, 101, 120, 116, 122, 104]⟩
def FW : ByteArray := ⟨#[115, 101, 95, 105, 108, 108, 101, 103, 97, 108]⟩
def Qab : ByteArray := ⟨#[115, 101, 95, 105, 115, 121, 110, 99]⟩
def Qdt : ByteArray := ⟨#[115, 101, 95, 108, 98, 122]⟩
def Qdu : ByteArray := ⟨#[115, 101, 95, 108, 104, 122]⟩
def Qfk : ByteArray := ⟨#[115, 101, 95, 108, 105]⟩
def Qdv : ByteArray := ⟨#[115, 101, 95, 108, 119, 122]⟩
def Qac : ByteArray := ⟨#[115, 101, 95, 109, 102, 99, 116, 114]⟩
def Qca : ByteArray := ⟨#[115, 101, 95, 109, 102, 108, 114]⟩
def Qfl : ByteArray := ⟨#[115, 101, 95, 109, 114]⟩
def Qad : ByteArray := ⟨#[115, 101, 95, 109, 116, 99, 116, 114]⟩
def Qcb : ByteArray := ⟨#[115, 101, 95, 109, 116, 108, 114]⟩
def Qae : ByteArray := ⟨#[115, 101, 95, 109, 117, 108, 108, 119]⟩
def Qdw : ByteArray := ⟨#[115, 101, 95, 110, 101, 103]⟩
def Qdx : ByteArray := ⟨#[115, 101, 95, 110, 111, 116]⟩
def Qfm : ByteArray := ⟨#[115, 101, 95, 111, 114]⟩
def Qfn : ByteArray := ⟨#[115, 101, 95, 115, 99]⟩
def Qcc : ByteArray := ⟨#[115, 101, 95, 115, 108, 119, 105]⟩
def Qcd : ByteArray := ⟨#[115, 101, 95, 115, 114, 119, 105]⟩
def Qdy : ByteArray := ⟨#[115, 101, 95, 115, 116, 98]⟩
def Qdz : ByteArray := ⟨#[115, 101, 95, 115, 116, 104]⟩
def QdA : ByteArray := ⟨#[115, 101, 95, 115, 116, 119]⟩
def QdB : ByteArray := ⟨#[115, 101, 95, 115, 117, 98]⟩
def Qce : ByteArray := ⟨#[115, 101, 95, 115, 117, 98, 105]⟩
def Qhw : ByteArray := ⟨#[115, 117, 98, 102]⟩
def s_x : ByteArray := ⟨#[120]⟩
def Qkj : ByteArray := ⟨#[120, 111, 114]⟩
def anT : List (Nat × List (Nat × Ann)) := [
  (10, [(7, { keep := [2, 7, 8, 9, 10], out := [2, 7, 8, 9], res := [6], own := [], full := false }), (19, { keep := [2, 7, 8, 9, 11, 13], out := [2, 7, 8, 9], res := [6], own := [], full := false })]),
  (35, [(4, { keep := [1, 4, 5, 6, 7], out := [4, 5], res := [4], own := [], full := false })]),
  (36, [(4, { keep := [0, 3, 4, 5], out := [3], res := [2], own := [(3, 1)], full := false })]),
  (39, [(2, { keep := [0, 3], out := [], res := [2], own := [], full := false })]),
  (41, [(8, { keep := [2, 3, 8], out := [], res := [6, 7], own := [], full := false })]),
  (58, [(5, { keep := [0, 1, 4, 7, 8, 9, 10, 11], out := [4], res := [4, 5, 6], own := [], full := false })]),
  (71, [(3, { keep := [0, 3, 4], out := [], res := [2], own := [], full := false })]),
  (72, [(2, { keep := [0, 1, 5], out := [5], res := [4], own := [], full := false })]),
  (83, [(5, { keep := [0, 3, 4], out := [3], res := [2], own := [], full := false })]),
  (116, [(1, { keep := [0, 1], out := [0], res := [4], own := [], full := false })]),
  (123, [(5, { keep := [3, 10, 11], out := [3], res := [2], own := [(3, 1)], full := true })]),
  (125, [(3, { keep := [0, 1, 5, 14, 15, 16], out := [1, 5], res := [4], own := [(5, 200)], full := false })]),
  (126, [(2, { keep := [0, 1, 7, 8], out := [], res := [4], own := [], full := false })]),
  (127, [(3, { keep := [0, 1, 5, 6], out := [5], res := [4], own := [], full := false })]),
  (128, [(3, { keep := [0, 5, 6, 7], out := [5], res := [4], own := [(5, 200)], full := false })]),
  (159, [(4, { keep := [0, 1, 4, 5], out := [], res := [4], own := [], full := false })]),
  (160, [(0, { keep := [0], out := [], res := [], own := [], full := false })]),
  (175, [(2, { keep := [0, 1, 7, 8], out := [], res := [4], own := [], full := false })]),
  (207, [(2, { keep := [0, 1, 5], out := [], res := [4], own := [], full := false })]),
  (215, [(5, { keep := [0, 1, 4, 5, 6], out := [4, 5], res := [4], own := [], full := false })]),
  (235, [(2, { keep := [0, 1, 4, 5, 6], out := [0, 4, 5, 6], res := [4], own := [], full := false })]),
  (237, [(2, { keep := [0, 2, 3], out := [0, 2, 3], res := [2], own := [], full := false })]),
  (244, [(2, { keep := [0, 7, 8, 9], out := [], res := [4], own := [], full := false })]),
  (266, [(2, { keep := [0, 1, 8], out := [0], res := [4], own := [], full := false })]),
  (269, [(3, { keep := [0, 1, 2, 6, 7, 12], out := [0, 1, 6, 7], res := [6], own := [], full := false })])]
def kdT : List (Nat × List Nat) := [(37, [0, 0, 0, 0, 0, 5]), (56, [129, 131, 178]), (60, [0, 1]), (113, [0, 0, 0, 0, 0, 5])]
def extT : List (Nat × (List AV → Heap → Option (AV × Heap))) := [(23, knownX), (70, indexByteX), (74, trimX), (77, (cloneF 5 64)), (79, splitX), (145, fieldsX), (177, containsX), (241, atoiX)]
def G : Cfg := { ext := fun f => get f extT, an := fun f r => ((get f anT).bind (get r)).getD {}, kd := fun t => (get t kdT).getD [] }
def anT0 : List (Nat × List (Nat × Ann)) := [
  (26, [(15, { keep := [1, 3, 4, 40, 41, 42], out := [1, 3, 4], res := [2], own := [(4, 1)], full := false })]),
  (31, [(2, { keep := [2, 3, 9, 10, 11], out := [2, 3], res := [2, 3], own := [(2, 6), (3, 1)], full := false })]),
  (71, [(3, { keep := [0, 3, 4], out := [], res := [2], own := [], full := false })]),
  (72, [(2, { keep := [0, 1, 5], out := [5], res := [4], own := [], full := false })]),
  (116, [(1, { keep := [0, 1], out := [0], res := [4], own := [], full := false })]),
  (123, [(5, { keep := [3, 10, 11], out := [3], res := [2], own := [(3, 1)], full := true })]),
  (125, [(3, { keep := [0, 1, 5, 14, 15, 16], out := [1, 5], res := [4], own := [(5, 200)], full := false })]),
  (126, [(2, { keep := [0, 1, 7, 8], out := [], res := [4], own := [], full := false })]),
  (127, [(3, { keep := [0, 1, 5, 6], out := [5], res := [4], own := [], full := false })]),
  (128, [(3, { keep := [0, 5, 6, 7], out := [5], res := [4], own := [(5, 200)], full := false })]),
  (175, [(2, { keep := [0, 1, 7, 8], out := [], res := [4], own := [], full := false })]),
  (215, [(5, { keep := [0, 1, 4, 5, 6], out := [4, 5], res := [4], own := [], full := false })]),
  (244, [(2, { keep := [0, 7, 8, 9], out := [], res := [4], own := [], full := false })]),
  (266, [(2, { keep := [0, 1, 8], out := [0], res := [4], own := [], full := false })]),
  (269, [(3, { keep := [0, 1, 2, 6, 7, 12], out := [0, 1, 6, 7], res := [6], own := [], full := false })])]
def kdT0 : List (Nat × List Nat) := [(37, [0, 0, 0, 0, 0, 5]), (56, [129, 131, 178]), (113, [0, 0, 0, 0, 0, 5])]
def extT0 : List (Nat × (List AV → Heap → Option (AV × Heap))) := [(69, joinX), (70, indexByteX), (74, trimX), (77, (cloneF 5 64)), (79, splitX), (80, (cloneF 6 80)), (81, (cloneV 8)), (93, itoaX), (145, fieldsX), (177, containsX), (241, atoiX)]
def G0 : Cfg := { ext := fun f => get f extT0, an := fun f r => ((get f anT0).bind (get r)).getD {}, kd := fun t => (get t kdT0).getD [] }
theorem Qqg : evalFn Tryz.prog G0 2000 23 [] [] = some (.sc (.bool true), []) := by kernel_rfl
noncomputable abbrev pp : Program := Tryz.prog
noncomputable abbrev ev (k : Nat) : CallF := evalFn Tryz.prog G k
abbrev Cf := CallF
abbrev Pg := Program
abbrev AH := AV × Heap
abbrev XS := Ex × St
abbrev Lo := Loops
def Qf1 (r : Bool) : AV × Heap := (.sc (.bool r), [])
def Xk.s : Nat → Option Bool
  | 0 => none
  | _ + 1 => (some true)
theorem Xk.ok : ∀ (k : Nat), ∀ (r : Bool), Xk.s k = some r → evalFn pp G k 23 [] [] = some (Qf1 r)
  | 0, _, h => (nomatch h)
  | k + 1, r, h => QrV h
abbrev FX := Option Bool
abbrev Qkk : List AV × Heap := ([], [])
abbrev Qkl (w : Cf) : Option AH := w 23 (Qkk ).1 (Qkk ).2
abbrev Qq8 (w : Cf) (c : FX) : Prop := ∀ (r : Bool), c = some r → Qkl w = some (Qf1 r)
noncomputable def Xk : Option Bool := (some true)
theorem Xk.mono (k : Nat) : Le (Xk.s k ) (Xk.s (k + 1) ) := by
  cases k with
  | zero => exact fun r h => nomatch h
  | succ k => exact Le.refl _
theorem Xk.cv : Cv (fun k => Xk.s k ) (Xk ) := ⟨fun k => Xk.mono k , fun r => ⟨fun h => ⟨1, h⟩, fun ⟨k, h⟩ => by
  cases k with
  | zero => cases h
  | succ k => exact h⟩⟩
def FF (r : Int) : AV × Heap := (xi r, [])
abbrev Fk := Int → Int → Option Int
abbrev QbB (a0 : Int) (a1 : Int) : List AV × Heap := ([xi a0, xi a1], [])
abbrev Qey (w : Cf) (a0 : Int) (a1 : Int) : Option AH := w 29 (QbB a0 a1).1 (QbB a0 a1).2
abbrev Qkm (w : Cf) (c : Fk) : Prop := ∀ (a0 : Int) (a1 : Int) (r : Int), c a0 a1 = some r → Qey w a0 a1 = some (FF r)
def Qez (a0 : Int) (a1 : Int) : Option Int := (bif (decide (a1 ≠ 0)) then (bif (decide ((Int.tmod a0 a1) < 0)) then (some (w64 ((Int.tmod a0 a1) + a1))) else (some (Int.tmod a0 a1))) else none)
def QbC (P : Pg) (w : Cf) (a0 : Int) (a1 : Int) : Tr Int AH := (.as (decide (a1 ≠ 0)) (.as (decide ((Int.tmod a0 a1) < 0)) (rt FF (w64 ((Int.tmod a0 a1) + a1))) (rt FF (Int.tmod a0 a1))) .fail)
theorem QoF (w : Cf) (a0 : Int) (a1 : Int) : (QbC pp w a0 a1).norm (bodyT pp w G 29 (QbB a0 a1).1 (QbB a0 a1).2) = QbC pp w a0 a1 := by kernel_rfl
theorem QoG (P : Pg) (w : Cf) (lp : Lo) (a0 : Int) (a1 : Int) : (QbC P w a0 a1).ok lp FF := ⟨rfl, fun q0 => ⟨rfl, fun q1 => rfl, fun q1 => rfl⟩, fun q0 => trivial⟩
def WW.s : Nat → Int → Int → Option Int
  | 0, _, _ => none
  | k + 1, a0, a1 => Qez a0 a1
theorem WW.ok : ∀ (k : Nat), Qkm (ev k) (WW.s k)
  | 0, _, _, _, h => (nomatch h)
  | k + 1, a0, a1, r, h => fn_ok rfl (QbC pp (ev k) a0 a1) (QoF _ a0 a1) (QoG _ _ _ a0 a1) h
noncomputable def WW (a0 : Int) (a1 : Int) : Option Int := Qez a0 a1
theorem WW.cv (a0 : Int) (a1 : Int) : Cv (fun k => WW.s k a0 a1) (WW a0 a1) := .un rfl (by exact .const _)
theorem WW.eq (a0 : Int) (a1 : Int) : WW a0 a1 = Qez a0 a1 := rfl
def ZD (r : Bool) : AV × Heap := (xo r, [])
abbrev Uc := Int → Option Bool
abbrev Qaf (a0 : Int) : List AV × Heap := ([xb a0], [])
abbrev FY (w : Cf) (a0 : Int) : Option AH := w 82 (Qaf a0).1 (Qaf a0).2
abbrev PZ (w : Cf) (c : Uc) : Prop := ∀ (a0 : Int) (r : Bool), c a0 = some r → FY w a0 = some (ZD r)
def Qag (a0 : Int) : Option Bool := (bif (decide (a0 ≥ 48)) then (some (decide (a0 ≤ (57 : Int)))) else (some false))
def Qah (P : Pg) (w : Cf) (a0 : Int) : Tr Bool AH := (let u1 := (decide (a0 ≥ 48)); .as u1 (yesN 2 u1 (rt ZD (decide (a0 ≤ (zi 57))))) (noN 2 u1 (rt ZD false)))
theorem Qnj (w : Cf) (a0 : Int) : (Qah pp w a0).norm (bodyT pp w G 82 (Qaf a0).1 (Qaf a0).2) = Qah pp w a0 := by kernel_rfl
theorem Qnk (P : Pg) (w : Cf) (lp : Lo) (a0 : Int) : (Qah P w a0).ok lp ZD := ⟨rfl, fun q0 => Qr 2 (q0) (rfl), fun q0 => noN_ok 2 (q0) (rfl)⟩
def JS.s : Nat → Int → Option Bool
  | 0, _ => none
  | k + 1, a0 => Qag a0
theorem JS.ok : ∀ (k : Nat), PZ (ev k) (JS.s k)
  | 0, _, _, h => (nomatch h)
  | k + 1, a0, r, h => fn_ok rfl (Qah pp (ev k) a0) (Qnj _ a0) (Qnk _ _ _ a0) h
noncomputable def JS (a0 : Int) : Option Bool := Qag a0
theorem JS.cv (a0 : Int) : Cv (fun k => JS.s k a0) (JS a0) := .un rfl (by exact .const _)
theorem JS.eq (a0 : Int) : JS a0 = Qag a0 := rfl
def ZE (r : Bool) : AV × Heap := (xo r, [])
abbrev Xx := Int → Option Bool
abbrev Qai (a0 : Int) : List AV × Heap := ([xb a0], [])
abbrev Qhx (w : Cf) (a0 : Int) : Option AH := w 73 (Qai a0).1 (Qai a0).2
abbrev QeA (w : Cf) (c : Xx) : Prop := ∀ (a0 : Int) (r : Bool), c a0 = some r → Qhx w a0 = some (ZE r)
def GE (C0 : Uc) (a0 : Int) : Option Bool := (bif (decide (a0 ≥ 97)) then (bif (decide (a0 ≤ (122 : Int))) then (some true) else (bif (a0 == 95) then (some true) else ((C0 a0).bind fun r1 => (some r1)))) else (bif (a0 == 95) then (some true) else ((C0 a0).bind fun r2 => (some r2))))
def Qaj (P : Pg) (w : Cf) (C0 : Uc) (a0 : Int) : Tr Bool AH := (let u5 := (decide (a0 ≥ 97)); .as u5 (yesN 2 u5 (let u3 := (decide (a0 ≤ (zi 122))); .as u3 (yesN 2 u3 (yesN 3 true (rt ZE true))) (noN 2 u3 (let u2 := (a0 == 95); .as u2 (yesN 2 u2 (rt ZE true)) (.no u2 (.call (FY w a0) (C0 a0) ZD fun r1 => (.no u2 (rt ZE r1)))))))) (noN 2 u5 (noN 3 false (let u4 := (a0 == 95); .as u4 (yesN 2 u4 (rt ZE true)) (.no u4 (.call (FY w a0) (C0 a0) ZD fun r2 => (.no u4 (rt ZE r2))))))))
theorem Qnl (w : Cf) (C0 : Uc) (a0 : Int) : (Qaj pp w C0 a0).norm (bodyT pp w G 73 (Qai a0).1 (Qai a0).2) = Qaj pp w C0 a0 := by kernel_rfl
theorem Qnm (P : Pg) (w : Cf) (lp : Lo) (C0 : Uc) (K0 : PZ w C0) (a0 : Int) : (Qaj P w C0 a0).ok lp ZE := ⟨rfl, fun q0 => Qr 2 (q0) (⟨rfl, fun q1 => Qr 2 (q1) (Qr 3 (rfl) (rfl)), fun q1 => noN_ok 2 (q1) (⟨rfl, fun q2 => Qr 2 (q2) (rfl), fun q2 => ⟨q2, fun r1 hr1 => ⟨K0 _ _ hr1, ⟨q2, rfl⟩⟩⟩⟩)⟩), fun q0 => noN_ok 2 (q0) (noN_ok 3 (rfl) (⟨rfl, fun q1 => Qr 2 (q1) (rfl), fun q1 => ⟨q1, fun r2 hr2 => ⟨K0 _ _ hr2, ⟨q1, rfl⟩⟩⟩⟩))⟩
theorem Qnn {C0 : Nat → Uc} {D0 : Uc} (H0 : Cv1 C0 D0) (a0 : Int) : Cv (fun k => GE (C0 k) a0) (GE D0 a0) := by
  unfold GE
  exact .cond (.cond cst (.cond cst (.bind (H0 _) fun r1 => by exact .const _))) (.cond cst (.bind (H0 _) fun r2 => by exact .const _))
def VN.s : Nat → Int → Option Bool
  | 0, _ => none
  | k + 1, a0 => GE (JS.s k) a0
theorem VN.ok : ∀ (k : Nat), QeA (ev k) (VN.s k)
  | 0, _, _, h => (nomatch h)
  | k + 1, a0, r, h => fn_ok rfl (Qaj pp (ev k) (JS.s k) a0) (Qnl _ _ a0) (Qnm _ _ _ _ (JS.ok k) a0) h
noncomputable def VN (a0 : Int) : Option Bool := GE JS a0
theorem VN.cv (a0 : Int) : Cv (fun k => VN.s k a0) (VN a0) := .un rfl (Qnn JS.cv a0)
theorem VN.eq (a0 : Int) : VN a0 = GE JS a0 := rfl
def FZ (r : Int) : AV × Heap := (xi r, [])
abbrev WT := ByteArray → Option Int
abbrev Qak (a0 : ByteArray) : List AV × Heap := ([xs a0, .fn (.func 73) [] []], [])
abbrev QdC (w : Cf) (a0 : ByteArray) : Option AH := w 72 (Qak a0).1 (Qak a0).2
abbrev QeB (w : Cf) (c : WT) : Prop := ∀ (a0 : ByteArray) (r : Int), c a0 = some r → QdC w a0 = some (FZ r)
structure Ju where
  x0 : ByteArray
  x5 : Int
def ZK (a : Ju) : St := { n := 20, nx := 0, env := [(0, xs a.x0), (1, .fn (.func 73) [] []), (5, xi a.x5)], heap := [] }
def ZL (a : Int) : Ex × St := (.exit 0, { n := 20, nx := 0, env := [(5, xi a)], heap := [] })
abbrev Zd := Ju → Option Int
abbrev Qlb (P : Pg) (lp : Lo) (l : Zd) : Prop := ∀ (a : Ju) (r : Int), l a = some r → lp (loopAt P 72 2) (ZK a) = some (ZL r)
def YA (C0 : Xx) (a : Ju) : Option (Ju ⊕ Int) := (bif (decide (a.x5 < ((a.x0.size : Nat) : Int))) then (bif (decide (0 ≤ a.x5 ∧ a.x5 < ((a.x0.size : Nat) : Int))) then ((C0 ((a.x0.data.getD (Int.toNat a.x5) 0).toNat : Int)).bind fun r1 => (bif r1 then (some (.inl (Ju.mk a.x0 (w64 (a.x5 + 1))))) else (some (.inr a.x5)))) else none) else (some (.inr a.x5)))
def FL (P : Pg) (w : Cf) (C0 : Xx) (a : Ju) : Tr (Ju ⊕ Int) XS := (let u6 := (decide (a.x5 < (zz a.x0))); .as u6 (yesN 3 u6 (.as (in1 a.x5 (zz a.x0)) (.yes u6 (.call (Qhx w (gb a.x0 a.x5)) (C0 (gb a.x0 a.x5)) ZE fun r1 => (.yes u6 (.as r1 (lf ZK (Ju.mk a.x0 (w64 (a.x5 + 1)))) (rx ZL a.x5))))) .fail)) (noN 5 u6 (.no false (rx ZL a.x5))))
theorem Qkn (w : Cf) (C0 : Xx) (a : Ju) : (FL pp w C0 a).norm (roundT pp G.kd w 0 (G.an 72) (loopAt pp 72 2) (ZK a)) = FL pp w C0 a := by kernel_rfl
theorem Qko (P : Pg) (w : Cf) (lp : Lo) (C0 : Xx) (K0 : QeA w C0) (a : Ju) : (FL P w C0 a).ok lp (Sum.elim (fun a => (.norm, ZK a)) ZL) := ⟨rfl, fun q0 => Qr 3 (q0) (⟨rfl, fun q1 => ⟨q0, fun r1 hr1 => ⟨K0 _ _ hr1, ⟨q0, ⟨rfl, fun q2 => rfl, fun q2 => rfl⟩⟩⟩⟩, fun q1 => trivial⟩), fun q0 => noN_ok 5 (q0) (⟨rfl, rfl⟩)⟩
theorem Qkp {C0 : Nat → Xx} {D0 : Xx} (H0 : Cv1 C0 D0) (a : Ju) : Cv (fun k => YA (C0 k) a) (YA D0 a) := by
  unfold YA
  exact .cond (.cond (.bind (H0 _) fun r1 => by exact .const _) cst) cst
def U7.s (k : Nat) (C0 : Xx) : Ju → Option Int := iter (YA C0) k
theorem QjB (w : Cf) (k : Nat) (C0 : Xx) (K0 : QeA w C0) (a : Ju) (r : Int) (h : U7.s k C0 a = some r) : loopsF pp G.kd w 0 (G.an 72) k (loopAt pp 72 2) (ZK a) = some (ZL r) :=
  VZ (fun a => FL pp w C0 a) (fun _ => rfl) (fun a => Qkn w _ a) (fun a => Qko _ w _ _ K0 a) (fun r => nofun) h
noncomputable def U7.w (C0 : Xx) : Ju → Option Int := loopW (YA C0)
theorem U7.cv (C0 : Nat → Xx) (D0 : Xx) (H0 : Cv1 C0 D0) (a : Ju) : Cv (fun k => U7.s k (C0 k) a) (U7.w D0 a) := Cv.iter (fun a => Qkp H0 a) a
def GF (L0 : Zd) (a0 : ByteArray) : Option Int := ((L0 (Ju.mk a0 (0 : Int))).bind (fun (o1 : Int) => (some o1)))
def Qal (P : Pg) (w : Cf) (L0 : Zd) (a0 : ByteArray) : Tr Int AH := (.loop (loopAt P 72 2) (ZK (Ju.mk a0 i0)) (L0 (Ju.mk a0 i0)) ZL (fun (o1 : Int) => (rt FZ o1)))
theorem Qno (w : Cf) (L0 : Zd) (a0 : ByteArray) : (Qal pp w L0 a0).norm (bodyT pp w G 72 (Qak a0).1 (Qak a0).2) = Qal pp w L0 a0 := by kernel_rfl
theorem Qnp (P : Pg) (w : Cf) (lp : Lo) (L0 : Zd) (N0 : Qlb P lp L0) (a0 : ByteArray) : (Qal P w L0 a0).ok lp FZ := fun o1 ho1 => ⟨N0 _ _ ho1, rfl⟩
theorem Qnq {L0 : Nat → Zd} {M0 : Zd} (N0 : Cv1 L0 M0) (a0 : ByteArray) : Cv (fun k => GF (L0 k) a0) (GF M0 a0) := by
  unfold GF
  exact .bind (N0 _) (fun o1 => by exact .const _)
def US.s : Nat → ByteArray → Option Int
  | 0, _ => none
  | k + 1, a0 => GF (U7.s k (VN.s k)) a0
theorem US.ok : ∀ (k : Nat), QeB (ev k) (US.s k)
  | 0, _, _, h => (nomatch h)
  | k + 1, a0, r, h => fn_ok rfl (Qal pp (ev k) (U7.s k (VN.s k)) a0) (Qno _ _ a0) (Qnp _ _ _ _ (QjB _ k _ (VN.ok k)) a0) h
noncomputable def U7 : Ju → Option Int := U7.w VN
theorem U7.eq (a : Ju) : U7 a = (YA VN a).bind (Sum.elim U7 some) := UO _ _
noncomputable def US (a0 : ByteArray) : Option Int := GF U7 a0
theorem US.cv (a0 : ByteArray) : Cv (fun k => US.s k a0) (US a0) := .un rfl (Qnq (U7.cv (fun k => VN.s k) VN VN.cv) a0)
theorem US.eq (a0 : ByteArray) : US a0 = GF U7 a0 := rfl
def E4 (r : Int) : AV × Heap := (xi r, [])
abbrev V0 := ByteArray → Option Int
abbrev Pu (a0 : ByteArray) : List AV × Heap := ([xs a0, .fn (.func 82) [] []], [])
abbrev Qbk (w : Cf) (a0 : ByteArray) : Option AH := w 72 (Pu a0).1 (Pu a0).2
abbrev QcB (w : Cf) (c : V0) : Prop := ∀ (a0 : ByteArray) (r : Int), c a0 = some r → Qbk w a0 = some (E4 r)
structure Jb where
  x0 : ByteArray
  x5 : Int
def YM (a : Jb) : St := { n := 20, nx := 0, env := [(0, xs a.x0), (1, .fn (.func 82) [] []), (5, xi a.x5)], heap := [] }
def YN (a : Int) : Ex × St := (.exit 0, { n := 20, nx := 0, env := [(5, xi a)], heap := [] })
abbrev X9 := Jb → Option Int
abbrev QjC (P : Pg) (lp : Lo) (l : X9) : Prop := ∀ (a : Jb) (r : Int), l a = some r → lp (loopAt P 72 2) (YM a) = some (YN r)
def XQ (C0 : Uc) (a : Jb) : Option (Jb ⊕ Int) := (bif (decide (a.x5 < ((a.x0.size : Nat) : Int))) then (bif (decide (0 ≤ a.x5 ∧ a.x5 < ((a.x0.size : Nat) : Int))) then ((C0 ((a.x0.data.getD (Int.toNat a.x5) 0).toNat : Int)).bind fun r1 => (bif r1 then (some (.inl (Jb.mk a.x0 (w64 (a.x5 + 1))))) else (some (.inr a.x5)))) else none) else (some (.inr a.x5)))
def ER (P : Pg) (w : Cf) (C0 : Uc) (a : Jb) : Tr (Jb ⊕ Int) XS := (let u7 := (decide (a.x5 < (zz a.x0))); .as u7 (yesN 3 u7 (.as (in1 a.x5 (zz a.x0)) (.yes u7 (.call (FY w (gb a.x0 a.x5)) (C0 (gb a.x0 a.x5)) ZD fun r1 => (.yes u7 (.as r1 (lf YM (Jb.mk a.x0 (w64 (a.x5 + 1)))) (rx YN a.x5))))) .fail)) (noN 5 u7 (.no false (rx YN a.x5))))
theorem QiH (w : Cf) (C0 : Uc) (a : Jb) : (ER pp w C0 a).norm (roundT pp G.kd w 0 (G.an 72) (loopAt pp 72 2) (YM a)) = ER pp w C0 a := by kernel_rfl
theorem QiI (P : Pg) (w : Cf) (lp : Lo) (C0 : Uc) (K0 : PZ w C0) (a : Jb) : (ER P w C0 a).ok lp (Sum.elim (fun a => (.norm, YM a)) YN) := ⟨rfl, fun q0 => Qr 3 (q0) (⟨rfl, fun q1 => ⟨q0, fun r1 hr1 => ⟨K0 _ _ hr1, ⟨q0, ⟨rfl, fun q2 => rfl, fun q2 => rfl⟩⟩⟩⟩, fun q1 => trivial⟩), fun q0 => noN_ok 5 (q0) (⟨rfl, rfl⟩)⟩
theorem QiJ {C0 : Nat → Uc} {D0 : Uc} (H0 : Cv1 C0 D0) (a : Jb) : Cv (fun k => XQ (C0 k) a) (XQ D0 a) := by
  unfold XQ
  exact .cond (.cond (.bind (H0 _) fun r1 => by exact .const _) cst) cst
def Uq.s (k : Nat) (C0 : Uc) : Jb → Option Int := iter (XQ C0) k
theorem Qhy (w : Cf) (k : Nat) (C0 : Uc) (K0 : PZ w C0) (a : Jb) (r : Int) (h : Uq.s k C0 a = some r) : loopsF pp G.kd w 0 (G.an 72) k (loopAt pp 72 2) (YM a) = some (YN r) :=
  VZ (fun a => ER pp w C0 a) (fun _ => rfl) (fun a => QiH w _ a) (fun a => QiI _ w _ _ K0 a) (fun r => nofun) h
noncomputable def Uq.w (C0 : Uc) : Jb → Option Int := loopW (XQ C0)
theorem Uq.cv (C0 : Nat → Uc) (D0 : Uc) (H0 : Cv1 C0 D0) (a : Jb) : Cv (fun k => Uq.s k (C0 k) a) (Uq.w D0 a) := Cv.iter (fun a => QiJ H0 a) a
def Ze (L0 : X9) (a0 : ByteArray) : Option Int := ((L0 (Jb.mk a0 (0 : Int))).bind (fun (o1 : Int) => (some o1)))
def Pv (P : Pg) (w : Cf) (L0 : X9) (a0 : ByteArray) : Tr Int AH := (.loop (loopAt P 72 2) (YM (Jb.mk a0 i0)) (L0 (Jb.mk a0 i0)) YN (fun (o1 : Int) => (rt E4 o1)))
theorem Qlc (w : Cf) (L0 : X9) (a0 : ByteArray) : (Pv pp w L0 a0).norm (bodyT pp w G 72 (Pu a0).1 (Pu a0).2) = Pv pp w L0 a0 := by kernel_rfl
theorem Qld (P : Pg) (w : Cf) (lp : Lo) (L0 : X9) (N0 : QjC P lp L0) (a0 : ByteArray) : (Pv P w L0 a0).ok lp E4 := fun o1 ho1 => ⟨N0 _ _ ho1, rfl⟩
theorem Qle {L0 : Nat → X9} {M0 : X9} (N0 : Cv1 L0 M0) (a0 : ByteArray) : Cv (fun k => Ze (L0 k) a0) (Ze M0 a0) := by
  unfold Ze
  exact .bind (N0 _) (fun o1 => by exact .const _)
def Ua.s : Nat → ByteArray → Option Int
  | 0, _ => none
  | k + 1, a0 => Ze (Uq.s k (JS.s k)) a0
theorem Ua.ok : ∀ (k : Nat), QcB (ev k) (Ua.s k)
  | 0, _, _, h => (nomatch h)
  | k + 1, a0, r, h => fn_ok rfl (Pv pp (ev k) (Uq.s k (JS.s k)) a0) (Qlc _ _ a0) (Qld _ _ _ _ (Qhy _ k _ (JS.ok k)) a0) h
noncomputable def Uq : Jb → Option Int := Uq.w JS
theorem Uq.eq (a : Jb) : Uq a = (XQ JS a).bind (Sum.elim Uq some) := UO _ _
noncomputable def Ua (a0 : ByteArray) : Option Int := Ze Uq a0
theorem Ua.cv (a0 : ByteArray) : Cv (fun k => Ua.s k a0) (Ua a0) := .un rfl (Qle (Uq.cv (fun k => JS.s k) JS JS.cv) a0)
theorem Ua.eq (a0 : ByteArray) : Ua a0 = Ze Uq a0 := rfl
def X5 (r : Bool) : AV × Heap := (xo r, [])
abbrev XH := ByteArray → Option Bool
abbrev QbD (a0 : ByteArray) : List AV × Heap := ([xs a0], [])
abbrev QeC (w : Cf) (a0 : ByteArray) : Option AH := w 33 (QbD a0).1 (QbD a0).2
abbrev Qf2 (w : Cf) (c : XH) : Prop := ∀ (a0 : ByteArray) (r : Bool), c a0 = some r → QeC w a0 = some (X5 r)
def EA (C0 : Uc) (C1 : WT) (C2 : V0) (a0 : ByteArray) : Option Bool := (bif (eqS a0 s_) then (some false) else (bif (decide (((a0.size : Nat) : Int) > 12)) then (some false) else (bif (decide (0 ≤ (0 : Int) ∧ (0 : Int) < ((a0.size : Nat) : Int))) then ((C0 ((a0.data.getD (Int.toNat 0) 0).toNat : Int)).bind fun r1 => (bif r1 then (some false) else ((C1 a0).bind fun r2 => (bif (r2 != ((a0.size : Nat) : Int)) then (some false) else (bif (((a0.data.getD (Int.toNat 0) 0).toNat : Int) != 114) then (some true) else (bif (((a0.size : Nat) : Int) == 1) then (some true) else (bif (decide (0 ≤ (1 : Int) ∧ (1 : Int) ≤ ((a0.size : Nat) : Int) ∧ ((a0.size : Nat) : Int) ≤ ((a0.size : Nat) : Int))) then ((C2 (a0.extract (Int.toNat 1) (Int.toNat ((a0.size : Nat) : Int)))).bind fun r3 => (some (r3 != (w64 (((a0.size : Nat) : Int) - 1))))) else none))))))) else none)))
def QbE (P : Pg) (w : Cf) (C0 : Uc) (C1 : WT) (C2 : V0) (a0 : ByteArray) : Tr Bool AH := (let u12 := (eqS a0 s_); .as u12 (yesN 3 u12 (yesN 11 true (rt X5 false))) (noN 3 u12 (let u11 := (decide ((zz a0) > 12)); .as u11 (yesN 3 u11 (yesN 7 true (rt X5 false))) (.no u11 (let u10 := (in1 i0 (zz a0)); .as u10 (.no u11 (.call (FY w (gb a0 i0)) (C0 (gb a0 i0)) ZD fun r1 => (.no u11 (.as r1 (yesN 5 r1 (.yes true (rt X5 false))) (.no r1 (.call (QdC w a0) (C1 a0) FZ fun r2 => (noN 4 r1 (.as (r2 != (zz a0)) (rt X5 false) (.yes u10 (let u9 := ((gb a0 i0) != 114); .as u9 (yesN 3 u9 (yesN 8 true (rt X5 true))) (noN 3 u9 (let u8 := ((zz a0) == 1); .as u8 (yesN 7 u8 (rt X5 true)) (.no u8 (.as (in2 (zi 1) (zz a0) (zz a0)) (.no u8 (.call (Qbk w (cu a0 (zi 1) (zz a0))) (C2 (cu a0 (zi 1) (zz a0))) E4 fun r3 => (noN 5 u8 (rt X5 (r3 != (w64 ((zz a0) - 1))))))) .fail)))))))))))))) .fail)))))
theorem QoH (w : Cf) (C0 : Uc) (C1 : WT) (C2 : V0) (a0 : ByteArray) : (QbE pp w C0 C1 C2 a0).norm (bodyT pp w G 33 (QbD a0).1 (QbD a0).2) = QbE pp w C0 C1 C2 a0 := by kernel_rfl
theorem QoI (P : Pg) (w : Cf) (lp : Lo) (C0 : Uc) (C1 : WT) (C2 : V0) (K0 : PZ w C0) (K1 : QeB w C1) (K2 : QcB w C2) (a0 : ByteArray) : (QbE P w C0 C1 C2 a0).ok lp X5 := ⟨rfl, fun q0 => Qr 3 (q0) (Qr 11 (rfl) (rfl)), fun q0 => noN_ok 3 (q0) (⟨rfl, fun q1 => Qr 3 (q1) (Qr 7 (rfl) (rfl)), fun q1 => ⟨q1, ⟨rfl, fun q2 => ⟨q1, fun r1 hr1 => ⟨K0 _ _ hr1, ⟨q1, ⟨rfl, fun q3 => Qr 5 (q3) (⟨rfl, rfl⟩), fun q3 => ⟨q3, fun r2 hr2 => ⟨K1 _ _ hr2, noN_ok 4 (q3) (⟨rfl, fun q4 => rfl, fun q4 => ⟨q2, ⟨rfl, fun q5 => Qr 3 (q5) (Qr 8 (rfl) (rfl)), fun q5 => noN_ok 3 (q5) (⟨rfl, fun q6 => Qr 7 (q6) (rfl), fun q6 => ⟨q6, ⟨rfl, fun q7 => ⟨q6, fun r3 hr3 => ⟨K2 _ _ hr3, noN_ok 5 (q6) (rfl)⟩⟩, fun q7 => trivial⟩⟩⟩)⟩⟩⟩)⟩⟩⟩⟩⟩⟩, fun q2 => trivial⟩⟩⟩)⟩
theorem QoJ {C0 : Nat → Uc} {D0 : Uc} (H0 : Cv1 C0 D0) {C1 : Nat → WT} {D1 : WT} (H1 : Cv1 C1 D1) {C2 : Nat → V0} {D2 : V0} (H2 : Cv1 C2 D2) (a0 : ByteArray) : Cv (fun k => EA (C0 k) (C1 k) (C2 k) a0) (EA D0 D1 D2 a0) := by
  unfold EA
  exact .cond cst (.cond cst (.cond (.bind (H0 _) fun r1 => .cond cst (.bind (H1 _) fun r2 => .cond cst (.cond cst (.cond cst (.cond (.bind (H2 _) fun r3 => by exact .const _) cst))))) cst))
def Vm.s : Nat → ByteArray → Option Bool
  | 0, _ => none
  | k + 1, a0 => EA (JS.s k) (US.s k) (Ua.s k) a0
theorem Vm.ok : ∀ (k : Nat), Qf2 (ev k) (Vm.s k)
  | 0, _, _, h => (nomatch h)
  | k + 1, a0, r, h => fn_ok rfl (QbE pp (ev k) (JS.s k) (US.s k) (Ua.s k) a0) (QoH _ _ _ _ a0) (QoI _ _ _ _ _ _ (JS.ok k) (US.ok k) (Ua.ok k) a0) h
noncomputable def Vm (a0 : ByteArray) : Option Bool := EA JS US Ua a0
theorem Vm.cv (a0 : ByteArray) : Cv (fun k => Vm.s k a0) (Vm a0) := .un rfl (QoJ JS.cv US.cv Ua.cv a0)
theorem Vm.eq (a0 : ByteArray) : Vm a0 = EA JS US Ua a0 := rfl
abbrev QjD := ByteArray → Option Bool
structure Ji where
  x0 : ByteArray
  x3 : Bool
  x4 : Int
abbrev QeD := Ji → Option (Bool ⊕ Bool)
def GG (a : Ji) : Option (Ji ⊕ (Bool ⊕ Bool)) := (bif (decide (a.x4 < ((a.x0.size : Nat) : Int))) then (bif (decide (0 ≤ a.x4 ∧ a.x4 < ((a.x0.size : Nat) : Int))) then (bif (decide (((a.x0.data.getD (Int.toNat a.x4) 0).toNat : Int) ≥ 48)) then (bif (decide (((a.x0.data.getD (Int.toNat a.x4) 0).toNat : Int) ≥ 97)) then (bif (!(decide (((a.x0.data.getD (Int.toNat a.x4) 0).toNat : Int) ≤ 122))) then (bif (((a.x0.data.getD (Int.toNat a.x4) 0).toNat : Int) != 95) then (bif (a.x4 == 0) then (some (.inr (.inl false))) else (bif (!(decide (((a.x0.data.getD (Int.toNat a.x4) 0).toNat : Int) ≤ 57))) then (some (.inr (.inl false))) else (bif (decide (a.x4 > 0)) then (some (.inl (Ji.mk a.x0 a.x3 (w64 (a.x4 + 1))))) else (some (.inl (Ji.mk a.x0 a.x3 (w64 (a.x4 + 1)))))))) else (bif (decide (a.x4 > 0)) then (bif (!(decide (((a.x0.data.getD (Int.toNat a.x4) 0).toNat : Int) ≤ 57))) then (some (.inl (Ji.mk a.x0 false (w64 (a.x4 + 1))))) else (some (.inl (Ji.mk a.x0 a.x3 (w64 (a.x4 + 1)))))) else (some (.inl (Ji.mk a.x0 a.x3 (w64 (a.x4 + 1))))))) else (bif (decide (a.x4 > 0)) then (bif (!(decide (((a.x0.data.getD (Int.toNat a.x4) 0).toNat : Int) ≤ 57))) then (some (.inl (Ji.mk a.x0 false (w64 (a.x4 + 1))))) else (some (.inl (Ji.mk a.x0 a.x3 (w64 (a.x4 + 1)))))) else (some (.inl (Ji.mk a.x0 a.x3 (w64 (a.x4 + 1))))))) else (bif (((a.x0.data.getD (Int.toNat a.x4) 0).toNat : Int) != 95) then (bif (a.x4 == 0) then (some (.inr (.inl false))) else (bif (!(decide (((a.x0.data.getD (Int.toNat a.x4) 0).toNat : Int) ≤ 57))) then (some (.inr (.inl false))) else (bif (decide (a.x4 > 0)) then (some (.inl (Ji.mk a.x0 a.x3 (w64 (a.x4 + 1))))) else (some (.inl (Ji.mk a.x0 a.x3 (w64 (a.x4 + 1)))))))) else (bif (decide (a.x4 > 0)) then (bif (!(decide (((a.x0.data.getD (Int.toNat a.x4) 0).toNat : Int) ≤ 57))) then (some (.inl (Ji.mk a.x0 false (w64 (a.x4 + 1))))) else (some (.inl (Ji.mk a.x0 a.x3 (w64 (a.x4 + 1)))))) else (some (.inl (Ji.mk a.x0 a.x3 (w64 (a.x4 + 1)))))))) else (bif (decide (((a.x0.data.getD (Int.toNat a.x4) 0).toNat : Int) ≥ 97)) then (bif (!(decide (((a.x0.data.getD (Int.toNat a.x4) 0).toNat : Int) ≤ 122))) then (bif (((a.x0.data.getD (Int.toNat a.x4) 0).toNat : Int) != 95) then (bif (a.x4 == 0) then (some (.inr (.inl false))) else (some (.inr (.inl false)))) else (bif (decide (a.x4 > 0)) then (some (.inl (Ji.mk a.x0 false (w64 (a.x4 + 1))))) else (some (.inl (Ji.mk a.x0 a.x3 (w64 (a.x4 + 1))))))) else (bif (decide (a.x4 > 0)) then (some (.inl (Ji.mk a.x0 false (w64 (a.x4 + 1))))) else (some (.inl (Ji.mk a.x0 a.x3 (w64 (a.x4 + 1))))))) else (bif (((a.x0.data.getD (Int.toNat a.x4) 0).toNat : Int) != 95) then (bif (a.x4 == 0) then (some (.inr (.inl false))) else (some (.inr (.inl false)))) else (bif (decide (a.x4 > 0)) then (some (.inl (Ji.mk a.x0 false (w64 (a.x4 + 1))))) else (some (.inl (Ji.mk a.x0 a.x3 (w64 (a.x4 + 1))))))))) else none) else (some (.inr (.inr a.x3))))
def VO.s (k : Nat) : Ji → Option (Bool ⊕ Bool) := iter (GG ) k
noncomputable def VO.w : Ji → Option (Bool ⊕ Bool) := loopW (GG )
theorem VO.cv (a : Ji) : Cv (fun k => VO.s k a) (VO.w a) := Cv.iter (fun a => by exact .const _) a
def F1 (L0 : QeD) (a0 : ByteArray) : Option Bool := (bif (decide (((a0.size : Nat) : Int) < 1)) then (some false) else (bif (decide (((a0.size : Nat) : Int) > 12)) then (some false) else (bif (decide (0 ≤ (0 : Int) ∧ (0 : Int) < ((a0.size : Nat) : Int))) then (bif (((a0.data.getD (Int.toNat 0) 0).toNat : Int) == 114) then ((L0 (Ji.mk a0 (decide (((a0.size : Nat) : Int) > 1)) (0 : Int))).bind fun x => Sum.elim (fun (o1 : Bool) => (some o1)) (fun (o2 : Bool) => (some (!o2))) x) else ((L0 (Ji.mk a0 false (0 : Int))).bind fun x => Sum.elim (fun (o3 : Bool) => (some o3)) (fun (o4 : Bool) => (some (!o4))) x)) else none)))
theorem Qq9 {L0 : Nat → QeD} {M0 : QeD} (N0 : Cv1 L0 M0) (a0 : ByteArray) : Cv (fun k => F1 (L0 k) a0) (F1 M0 a0) := by
  unfold F1
  exact .cond cst (.cond cst (.cond (.cond (.bind (N0 _) fun x => .sum (fun o1 => by exact .const _) (fun o2 => by exact .const _) x) (.bind (N0 _) fun x => .sum (fun o3 => by exact .const _) (fun o4 => by exact .const _) x)) cst))
def G9.s : Nat → ByteArray → Option Bool
  | 0, _ => none
  | k + 1, a0 => F1 (VO.s k) a0
noncomputable def VO : Ji → Option (Bool ⊕ Bool) := VO.w
theorem VO.eq (a : Ji) : VO a = (GG a).bind (Sum.elim VO some) := UO _ _
noncomputable def G9 (a0 : ByteArray) : Option Bool := F1 VO a0
theorem G9.cv (a0 : ByteArray) : Cv (fun k => G9.s k a0) (G9 a0) := .un rfl (Qq9 (VO.cv) a0)
theorem G9.eq (a0 : ByteArray) : G9 a0 = F1 VO a0 := rfl
def FJ (r : Int) : AV × Heap := (.sc (.int .i64 r), [])
def JX.s : Nat → ByteArray → Int → Option Int
  | 0, _, _ => none
  | _ + 1, a0, a1 => indexByteS a0 a1
theorem JX.ok : ∀ (k : Nat), ∀ (a0 : ByteArray) (a1 : Int) (r : Int), JX.s k a0 a1 = some r → evalFn pp G k 70 [.sc (.string a0), .sc (.int .u8 a1)] [] = some (FJ r)
  | 0, _, _, _, h => (nomatch h)
  | k + 1, a0, a1, r, h => Qnh h
abbrev Xl := ByteArray → Int → Option Int
abbrev Qa5 (a0 : ByteArray) (a1 : Int) : List AV × Heap := ([xs a0, xb a1], [])
abbrev Qa6 (w : Cf) (a0 : ByteArray) (a1 : Int) : Option AH := w 70 (Qa5 a0 a1).1 (Qa5 a0 a1).2
abbrev Qhz (w : Cf) (c : Xl) : Prop := ∀ (a0 : ByteArray) (a1 : Int) (r : Int), c a0 a1 = some r → Qa6 w a0 a1 = some (FJ r)
noncomputable def JX (a0 : ByteArray) (a1 : Int) : Option Int := indexByteS a0 a1
theorem JX.mono (k : Nat) (a0 : ByteArray) (a1 : Int) : Le (JX.s k a0 a1) (JX.s (k + 1) a0 a1) := by
  cases k with
  | zero => exact fun r h => nomatch h
  | succ k => exact Le.refl _
theorem JX.cv (a0 : ByteArray) (a1 : Int) : Cv (fun k => JX.s k a0 a1) (JX a0 a1) := ⟨fun k => JX.mono k a0 a1, fun r => ⟨fun h => ⟨1, h⟩, fun ⟨k, h⟩ => by
  cases k with
  | zero => cases h
  | succ k => exact h⟩⟩
def XI (r : ByteArray) : AV × Heap := (.sc (.string r), [])
def QY.s : Nat → ByteArray → ByteArray → Option ByteArray
  | 0, _, _ => none
  | _ + 1, a0, a1 => trimS2 a0 a1
theorem QY.ok : ∀ (k : Nat), ∀ (a0 : ByteArray) (a1 : ByteArray) (r : ByteArray), QY.s k a0 a1 = some r → evalFn pp G k 74 [.sc (.string a0), .sc (.string a1)] [] = some (XI r)
  | 0, _, _, _, h => (nomatch h)
  | k + 1, a0, a1, r, h => QsO h
abbrev Q8 := ByteArray → ByteArray → Option ByteArray
abbrev Qfo (a0 : ByteArray) (a1 : ByteArray) : List AV × Heap := ([xs a0, xs a1], [])
abbrev Yi (w : Cf) (a0 : ByteArray) (a1 : ByteArray) : Option AH := w 74 (Qfo a0 a1).1 (Qfo a0 a1).2
abbrev FA (w : Cf) (c : Q8) : Prop := ∀ (a0 : ByteArray) (a1 : ByteArray) (r : ByteArray), c a0 a1 = some r → Yi w a0 a1 = some (XI r)
noncomputable def QY (a0 : ByteArray) (a1 : ByteArray) : Option ByteArray := trimS2 a0 a1
theorem QY.mono (k : Nat) (a0 : ByteArray) (a1 : ByteArray) : Le (QY.s k a0 a1) (QY.s (k + 1) a0 a1) := by
  cases k with
  | zero => exact fun r h => nomatch h
  | succ k => exact Le.refl _
theorem QY.cv (a0 : ByteArray) (a1 : ByteArray) : Cv (fun k => QY.s k a0 a1) (QY a0 a1) := ⟨fun k => QY.mono k a0 a1, fun r => ⟨fun h => ⟨1, h⟩, fun ⟨k, h⟩ => by
  cases k with
  | zero => cases h
  | succ k => exact h⟩⟩
def QbF (r : ByteArray) : AV × Heap := (xs r, [])
abbrev Fl := ByteArray → Option ByteArray
abbrev QbG (a0 : ByteArray) : List AV × Heap := ([xs a0], [])
abbrev Qjf (w : Cf) (a0 : ByteArray) : Option AH := w 71 (QbG a0).1 (QbG a0).2
abbrev Qkq (w : Cf) (c : Fl) : Prop := ∀ (a0 : ByteArray) (r : ByteArray), c a0 = some r → Qjf w a0 = some (QbF r)
structure Q6 where
  x0 : ByteArray
  x3 : Bool
  x4 : Int
def XJ (a : Q6) : St := { n := 31, nx := 0, env := [(0, xs a.x0), (3, xo a.x3), (4, xi a.x4)], heap := [] }
def Gu (a : ByteArray) : Ex × St := (.ret, { n := 31, nx := 0, env := [(2, xs a)], heap := [] })
abbrev ZV := Q6 → Option ByteArray
abbrev Qmw (P : Pg) (lp : Lo) (l : ZV) : Prop := ∀ (a : Q6) (r : ByteArray), l a = some r → lp (loopAt P 71 3) (XJ a) = some (Gu r)
def Yj (C0 : Q8) (a : Q6) : Option (Q6 ⊕ ByteArray) := (bif (a.x4 == ((a.x0.size : Nat) : Int)) then (bif (decide (0 ≤ (0 : Int) ∧ (0 : Int) ≤ a.x4 ∧ a.x4 ≤ ((a.x0.size : Nat) : Int))) then ((C0 (a.x0.extract (Int.toNat 0) (Int.toNat a.x4)) Xe).bind fun r1 => (some (.inr r1))) else none) else (bif (decide (0 ≤ a.x4 ∧ a.x4 < ((a.x0.size : Nat) : Int))) then (bif (((a.x0.data.getD (Int.toNat a.x4) 0).toNat : Int) == 35) then (bif (!a.x3) then (bif (decide (0 ≤ (0 : Int) ∧ (0 : Int) ≤ a.x4 ∧ a.x4 ≤ ((a.x0.size : Nat) : Int))) then ((C0 (a.x0.extract (Int.toNat 0) (Int.toNat a.x4)) Xe).bind fun r2 => (some (.inr r2))) else none) else (bif (((a.x0.data.getD (Int.toNat a.x4) 0).toNat : Int) == 34) then (some (.inl (Q6.mk a.x0 (!a.x3) (w64 (a.x4 + 1))))) else (some (.inl (Q6.mk a.x0 a.x3 (w64 (a.x4 + 1))))))) else (bif (((a.x0.data.getD (Int.toNat a.x4) 0).toNat : Int) == 34) then (some (.inl (Q6.mk a.x0 (!a.x3) (w64 (a.x4 + 1))))) else (some (.inl (Q6.mk a.x0 a.x3 (w64 (a.x4 + 1))))))) else none))
def Pw (P : Pg) (w : Cf) (C0 : Q8) (a : Q6) : Tr (Q6 ⊕ ByteArray) XS := (let u40 := (a.x4 == (zz a.x0)); .as u40 (yesN 6 u40 (.yes true (.as (in2 i0 a.x4 (zz a.x0)) (.call (Yi w (cu a.x0 i0 a.x4) Xe) (C0 (cu a.x0 i0 a.x4) Xe) XI fun r1 => (rx Gu r1)) .fail))) (noN 2 u40 (let u39 := (in1 a.x4 (zz a.x0)); .as u39 (noN 2 u40 (let u38 := ((gb a.x0 a.x4) == 35); .as u38 (.yes u38 (.no u40 (.yes u38 (.no u40 (.as (!a.x3) (.as (in2 i0 a.x4 (zz a.x0)) (.call (Yi w (cu a.x0 i0 a.x4) Xe) (C0 (cu a.x0 i0 a.x4) Xe) XI fun r2 => (rx Gu r2)) .fail) (.yes u39 (.as ((gb a.x0 a.x4) == 34) (lf XJ (Q6.mk a.x0 (!a.x3) (w64 (a.x4 + 1)))) (lf XJ (Q6.mk a.x0 a.x3 (w64 (a.x4 + 1))))))))))) (.no u38 (.no u40 (.no u38 (.no u40 (.no false (.yes u39 (.as ((gb a.x0 a.x4) == 34) (lf XJ (Q6.mk a.x0 (!a.x3) (w64 (a.x4 + 1)))) (lf XJ (Q6.mk a.x0 a.x3 (w64 (a.x4 + 1))))))))))))) .fail)))
theorem Qlf (w : Cf) (C0 : Q8) (a : Q6) : (Pw pp w C0 a).norm (roundT pp G.kd w 0 (G.an 71) (loopAt pp 71 3) (XJ a)) = Pw pp w C0 a := by kernel_rfl
theorem Qlg (P : Pg) (w : Cf) (lp : Lo) (C0 : Q8) (K0 : FA w C0) (a : Q6) : (Pw P w C0 a).ok lp (Sum.elim (fun a => (.norm, XJ a)) Gu) := ⟨rfl, fun q0 => Qr 6 (q0) (⟨rfl, ⟨rfl, fun q1 => fun r1 hr1 => ⟨K0 _ _ _ hr1, rfl⟩, fun q1 => trivial⟩⟩), fun q0 => noN_ok 2 (q0) (⟨rfl, fun q1 => noN_ok 2 (q0) (⟨rfl, fun q2 => ⟨q2, ⟨q0, ⟨q2, ⟨q0, ⟨rfl, fun q3 => ⟨rfl, fun q4 => fun r2 hr2 => ⟨K0 _ _ _ hr2, rfl⟩, fun q4 => trivial⟩, fun q3 => ⟨q1, ⟨rfl, fun q4 => rfl, fun q4 => rfl⟩⟩⟩⟩⟩⟩⟩, fun q2 => ⟨q2, ⟨q0, ⟨q2, ⟨q0, ⟨rfl, ⟨q1, ⟨rfl, fun q3 => rfl, fun q3 => rfl⟩⟩⟩⟩⟩⟩⟩⟩), fun q1 => trivial⟩)⟩
theorem Qlh {C0 : Nat → Q8} {D0 : Q8} (H0 : Cv2 C0 D0) (a : Q6) : Cv (fun k => Yj (C0 k) a) (Yj D0 a) := by
  unfold Yj
  exact .cond (.cond (.bind (H0 _ _) fun r1 => by exact .const _) cst) (.cond (.cond (.cond (.cond (.bind (H0 _ _) fun r2 => by exact .const _) cst) cst) cst) cst)
def Uu.s (k : Nat) (C0 : Q8) : Q6 → Option ByteArray := iter (Yj C0) k
theorem Qkr (w : Cf) (k : Nat) (C0 : Q8) (K0 : FA w C0) (a : Q6) (r : ByteArray) (h : Uu.s k C0 a = some r) : loopsF pp G.kd w 0 (G.an 71) k (loopAt pp 71 3) (XJ a) = some (Gu r) :=
  VZ (fun a => Pw pp w C0 a) (fun _ => rfl) (fun a => Qlf w _ a) (fun a => Qlg _ w _ _ K0 a) (fun r => nofun) h
noncomputable def Uu.w (C0 : Q8) : Q6 → Option ByteArray := loopW (Yj C0)
theorem Uu.cv (C0 : Nat → Q8) (D0 : Q8) (H0 : Cv2 C0 D0) (a : Q6) : Cv (fun k => Uu.s k (C0 k) a) (Uu.w D0 a) := Cv.iter (fun a => Qlh H0 a) a
def EB (L0 : ZV) (a0 : ByteArray) : Option ByteArray := ((L0 (Q6.mk a0 false (0 : Int))).bind (fun (o1 : ByteArray) => (some o1)))
def QbH (P : Pg) (w : Cf) (L0 : ZV) (a0 : ByteArray) : Tr ByteArray AH := (.loop (loopAt P 71 3) (XJ (Q6.mk a0 false i0)) (L0 (Q6.mk a0 false i0)) Gu (fun (o1 : ByteArray) => (rt QbF o1)))
theorem QoK (w : Cf) (L0 : ZV) (a0 : ByteArray) : (QbH pp w L0 a0).norm (bodyT pp w G 71 (QbG a0).1 (QbG a0).2) = QbH pp w L0 a0 := by kernel_rfl
theorem QoL (P : Pg) (w : Cf) (lp : Lo) (L0 : ZV) (N0 : Qmw P lp L0) (a0 : ByteArray) : (QbH P w L0 a0).ok lp QbF := fun o1 ho1 => ⟨N0 _ _ ho1, rfl⟩
theorem QoM {L0 : Nat → ZV} {M0 : ZV} (N0 : Cv1 L0 M0) (a0 : ByteArray) : Cv (fun k => EB (L0 k) a0) (EB M0 a0) := by
  unfold EB
  exact .bind (N0 _) (fun o1 => by exact .const _)
def WX.s : Nat → ByteArray → Option ByteArray
  | 0, _ => none
  | k + 1, a0 => EB (Uu.s k (QY.s k)) a0
theorem WX.ok : ∀ (k : Nat), Qkq (ev k) (WX.s k)
  | 0, _, _, h => (nomatch h)
  | k + 1, a0, r, h => fn_ok rfl (QbH pp (ev k) (Uu.s k (QY.s k)) a0) (QoK _ _ a0) (QoL _ _ _ _ (Qkr _ k _ (QY.ok k)) a0) h
noncomputable def Uu : Q6 → Option ByteArray := Uu.w QY
theorem Uu.eq (a : Q6) : Uu a = (Yj QY a).bind (Sum.elim Uu some) := UO _ _
noncomputable def WX (a0 : ByteArray) : Option ByteArray := EB Uu a0
theorem WX.cv (a0 : ByteArray) : Cv (fun k => WX.s k a0) (WX a0) := .un rfl (QoM (Uu.cv (fun k => QY.s k) QY QY.cv) a0)
theorem WX.eq (a0 : ByteArray) : WX a0 = EB Uu a0 := rfl
def F2 (r : Bool) : AV × Heap := (xo r, [])
abbrev Xy := Int → Option Bool
abbrev Qam (a0 : Int) : List AV × Heap := ([xb a0], [])
abbrev QhA (w : Cf) (a0 : Int) : Option AH := w 75 (Qam a0).1 (Qam a0).2
abbrev QeE (w : Cf) (c : Xy) : Prop := ∀ (a0 : Int) (r : Bool), c a0 = some r → QhA w a0 = some (F2 r)
def Qan (a0 : Int) : Option Bool := (bif (a0 != 32) then (some (a0 != 9)) else (some false))
def Qao (P : Pg) (w : Cf) (a0 : Int) : Tr Bool AH := (let u41 := (a0 != 32); .as u41 (yesN 2 u41 (rt F2 (a0 != 9))) (noN 2 u41 (rt F2 false)))
theorem Qnr (w : Cf) (a0 : Int) : (Qao pp w a0).norm (bodyT pp w G 75 (Qam a0).1 (Qam a0).2) = Qao pp w a0 := by kernel_rfl
theorem Qns (P : Pg) (w : Cf) (lp : Lo) (a0 : Int) : (Qao P w a0).ok lp F2 := ⟨rfl, fun q0 => Qr 2 (q0) (rfl), fun q0 => noN_ok 2 (q0) (rfl)⟩
def VP.s : Nat → Int → Option Bool
  | 0, _ => none
  | k + 1, a0 => Qan a0
theorem VP.ok : ∀ (k : Nat), QeE (ev k) (VP.s k)
  | 0, _, _, h => (nomatch h)
  | k + 1, a0, r, h => fn_ok rfl (Qao pp (ev k) a0) (Qnr _ a0) (Qns _ _ _ a0) h
noncomputable def VP (a0 : Int) : Option Bool := Qan a0
theorem VP.cv (a0 : Int) : Cv (fun k => VP.s k a0) (VP a0) := .un rfl (by exact .const _)
theorem VP.eq (a0 : Int) : VP a0 = Qan a0 := rfl
def Gv (r : Int) : AV × Heap := (xi r, [])
abbrev ZW := ByteArray → Option Int
abbrev Px (a0 : ByteArray) : List AV × Heap := ([xs a0, .fn (.func 75) [] []], [])
abbrev Py (w : Cf) (a0 : ByteArray) : Option AH := w 72 (Px a0).1 (Px a0).2
abbrev QgC (w : Cf) (c : ZW) : Prop := ∀ (a0 : ByteArray) (r : Int), c a0 = some r → Py w a0 = some (Gv r)
structure Jc where
  x0 : ByteArray
  x5 : Int
def YO (a : Jc) : St := { n := 20, nx := 0, env := [(0, xs a.x0), (1, .fn (.func 75) [] []), (5, xi a.x5)], heap := [] }
def YP (a : Int) : Ex × St := (.exit 0, { n := 20, nx := 0, env := [(5, xi a)], heap := [] })
abbrev Ya := Jc → Option Int
abbrev QjE (P : Pg) (lp : Lo) (l : Ya) : Prop := ∀ (a : Jc) (r : Int), l a = some r → lp (loopAt P 72 2) (YO a) = some (YP r)
def XR (C0 : Xy) (a : Jc) : Option (Jc ⊕ Int) := (bif (decide (a.x5 < ((a.x0.size : Nat) : Int))) then (bif (decide (0 ≤ a.x5 ∧ a.x5 < ((a.x0.size : Nat) : Int))) then ((C0 ((a.x0.data.getD (Int.toNat a.x5) 0).toNat : Int)).bind fun r1 => (bif r1 then (some (.inl (Jc.mk a.x0 (w64 (a.x5 + 1))))) else (some (.inr a.x5)))) else none) else (some (.inr a.x5)))
def ES (P : Pg) (w : Cf) (C0 : Xy) (a : Jc) : Tr (Jc ⊕ Int) XS := (let u42 := (decide (a.x5 < (zz a.x0))); .as u42 (yesN 3 u42 (.as (in1 a.x5 (zz a.x0)) (.yes u42 (.call (QhA w (gb a.x0 a.x5)) (C0 (gb a.x0 a.x5)) F2 fun r1 => (.yes u42 (.as r1 (lf YO (Jc.mk a.x0 (w64 (a.x5 + 1)))) (rx YP a.x5))))) .fail)) (noN 5 u42 (.no false (rx YP a.x5))))
theorem QiK (w : Cf) (C0 : Xy) (a : Jc) : (ES pp w C0 a).norm (roundT pp G.kd w 0 (G.an 72) (loopAt pp 72 2) (YO a)) = ES pp w C0 a := by kernel_rfl
theorem QiL (P : Pg) (w : Cf) (lp : Lo) (C0 : Xy) (K0 : QeE w C0) (a : Jc) : (ES P w C0 a).ok lp (Sum.elim (fun a => (.norm, YO a)) YP) := ⟨rfl, fun q0 => Qr 3 (q0) (⟨rfl, fun q1 => ⟨q0, fun r1 hr1 => ⟨K0 _ _ hr1, ⟨q0, ⟨rfl, fun q2 => rfl, fun q2 => rfl⟩⟩⟩⟩, fun q1 => trivial⟩), fun q0 => noN_ok 5 (q0) (⟨rfl, rfl⟩)⟩
theorem QiM {C0 : Nat → Xy} {D0 : Xy} (H0 : Cv1 C0 D0) (a : Jc) : Cv (fun k => XR (C0 k) a) (XR D0 a) := by
  unfold XR
  exact .cond (.cond (.bind (H0 _) fun r1 => by exact .const _) cst) cst
def Ur.s (k : Nat) (C0 : Xy) : Jc → Option Int := iter (XR C0) k
theorem QhB (w : Cf) (k : Nat) (C0 : Xy) (K0 : QeE w C0) (a : Jc) (r : Int) (h : Ur.s k C0 a = some r) : loopsF pp G.kd w 0 (G.an 72) k (loopAt pp 72 2) (YO a) = some (YP r) :=
  VZ (fun a => ES pp w C0 a) (fun _ => rfl) (fun a => QiK w _ a) (fun a => QiL _ w _ _ K0 a) (fun r => nofun) h
noncomputable def Ur.w (C0 : Xy) : Jc → Option Int := loopW (XR C0)
theorem Ur.cv (C0 : Nat → Xy) (D0 : Xy) (H0 : Cv1 C0 D0) (a : Jc) : Cv (fun k => Ur.s k (C0 k) a) (Ur.w D0 a) := Cv.iter (fun a => QiM H0 a) a
def Zf (L0 : Ya) (a0 : ByteArray) : Option Int := ((L0 (Jc.mk a0 (0 : Int))).bind (fun (o1 : Int) => (some o1)))
def Pz (P : Pg) (w : Cf) (L0 : Ya) (a0 : ByteArray) : Tr Int AH := (.loop (loopAt P 72 2) (YO (Jc.mk a0 i0)) (L0 (Jc.mk a0 i0)) YP (fun (o1 : Int) => (rt Gv o1)))
theorem Qli (w : Cf) (L0 : Ya) (a0 : ByteArray) : (Pz pp w L0 a0).norm (bodyT pp w G 72 (Px a0).1 (Px a0).2) = Pz pp w L0 a0 := by kernel_rfl
theorem Qlj (P : Pg) (w : Cf) (lp : Lo) (L0 : Ya) (N0 : QjE P lp L0) (a0 : ByteArray) : (Pz P w L0 a0).ok lp Gv := fun o1 ho1 => ⟨N0 _ _ ho1, rfl⟩
theorem Qlk {L0 : Nat → Ya} {M0 : Ya} (N0 : Cv1 L0 M0) (a0 : ByteArray) : Cv (fun k => Zf (L0 k) a0) (Zf M0 a0) := by
  unfold Zf
  exact .bind (N0 _) (fun o1 => by exact .const _)
def UU.s : Nat → ByteArray → Option Int
  | 0, _ => none
  | k + 1, a0 => Zf (Ur.s k (VP.s k)) a0
theorem UU.ok : ∀ (k : Nat), QgC (ev k) (UU.s k)
  | 0, _, _, h => (nomatch h)
  | k + 1, a0, r, h => fn_ok rfl (Pz pp (ev k) (Ur.s k (VP.s k)) a0) (Qli _ _ a0) (Qlj _ _ _ _ (QhB _ k _ (VP.ok k)) a0) h
noncomputable def Ur : Jc → Option Int := Ur.w VP
theorem Ur.eq (a : Jc) : Ur a = (XR VP a).bind (Sum.elim Ur some) := UO _ _
noncomputable def UU (a0 : ByteArray) : Option Int := Zf Ur a0
theorem UU.cv (a0 : ByteArray) : Cv (fun k => UU.s k a0) (UU a0) := .un rfl (Qlk (Ur.cv (fun k => VP.s k) VP VP.cv) a0)
theorem UU.eq (a0 : ByteArray) : UU a0 = Zf Ur a0 := rfl
def Qap (r : (List ByteArray)) : AV × Heap := (.arr 0, [(0, .arr false 1 (Ql r))])
def UL.s : Nat → ByteArray → ByteArray → Option (List ByteArray)
  | 0, _, _ => none
  | _ + 1, a0, a1 => splitS a0 a1
theorem UL.ok : ∀ (k : Nat), ∀ (a0 : ByteArray) (a1 : ByteArray) (r : (List ByteArray)), UL.s k a0 a1 = some r → evalFn pp G k 79 [.sc (.string a0), .sc (.string a1)] [] = some (Qap r)
  | 0, _, _, _, h => (nomatch h)
  | k + 1, a0, a1, r, h => QrU h
abbrev Zg := ByteArray → ByteArray → Option (List ByteArray)
abbrev Qd3 (a0 : ByteArray) (a1 : ByteArray) : List AV × Heap := ([xs a0, xs a1], [])
abbrev Qd4 (w : Cf) (a0 : ByteArray) (a1 : ByteArray) : Option AH := w 79 (Qd3 a0 a1).1 (Qd3 a0 a1).2
abbrev Qll (w : Cf) (c : Zg) : Prop := ∀ (a0 : ByteArray) (a1 : ByteArray) (r : (List ByteArray)), c a0 a1 = some r → Qd4 w a0 a1 = some (Qap r)
noncomputable def UL (a0 : ByteArray) (a1 : ByteArray) : Option (List ByteArray) := splitS a0 a1
theorem UL.mono (k : Nat) (a0 : ByteArray) (a1 : ByteArray) : Le (UL.s k a0 a1) (UL.s (k + 1) a0 a1) := by
  cases k with
  | zero => exact fun r h => nomatch h
  | succ k => exact Le.refl _
theorem UL.cv (a0 : ByteArray) (a1 : ByteArray) : Cv (fun k => UL.s k a0 a1) (UL a0 a1) := ⟨fun k => UL.mono k a0 a1, fun r => ⟨fun h => ⟨1, h⟩, fun ⟨k, h⟩ => by
  cases k with
  | zero => cases h
  | succ k => exact h⟩⟩
def Ee (r : (List ByteArray)) : AV × Heap := (.sl (Ql r), [])
abbrev Zh := ByteArray → Option (List ByteArray)
abbrev FM (a0 : ByteArray) : List AV × Heap := ([xs a0], [])
abbrev Qd5 (w : Cf) (a0 : ByteArray) : Option AH := w 123 (FM a0).1 (FM a0).2
abbrev Qfp (w : Cf) (c : Zh) : Prop := ∀ (a0 : ByteArray) (r : (List ByteArray)), c a0 = some r → Qd5 w a0 = some (Ee r)
structure Q5 where
  x10 : Int
  x11 : Int
  r0 : (List ByteArray)
def Yk (a : Q5) : St := { n := 24, nx := 1, env := [(3, .arr 0), (10, xi a.x10), (11, xi a.x11)], heap := [(0, .arr false 1 (Ql a.r0))] }
def ZF (a : (List ByteArray)) : Ex × St := (.exit 0, { n := 24, nx := 1, env := [(3, .arr 0)], heap := [(0, .arr false 1 (Ql a))] })
abbrev XT := Q5 → Option (List ByteArray)
abbrev QiN (P : Pg) (lp : Lo) (l : XT) : Prop := ∀ (a : Q5) (r : (List ByteArray)), l a = some r → lp (loopAt P 123 5) (Yk a) = some (ZF r)
def Wy (C0 : Q8) (a : Q5) : Option (Q5 ⊕ (List ByteArray)) := (bif (decide (a.x11 < a.x10)) then (bif (decide (0 ≤ a.x11 ∧ a.x11 < ((a.r0.length : Nat) : Int))) then ((a.r0[(Int.toNat a.x11)]?).bind fun e1 => ((C0 e1 Xe).bind fun r2 => ((a.r0[(Int.toNat a.x11)]?).bind fun e3 => (some (.inl (Q5.mk a.x10 (w64 (a.x11 + 1)) (a.r0.set (Int.toNat a.x11) r2))))))) else none) else (some (.inr a.r0)))
def Ef (P : Pg) (w : Cf) (C0 : Q8) (a : Q5) : Tr (Q5 ⊕ (List ByteArray)) XS := (.as (decide (a.x11 < a.x10)) (let u43 := (in1 a.x11 (((Ql a.r0).length : Nat) : Int)); .ask u43 (in1 a.x11 ((a.r0.length : Nat) : Int)) (.row ((Ql a.r0)[(Int.toNat a.x11)]?) (a.r0[(Int.toNat a.x11)]?) UP fun (e1 : ByteArray) => (.call (Yi w e1 Xe) (C0 e1 Xe) XI fun r2 => (.yes u43 (.row ((Ql a.r0)[(Int.toNat a.x11)]?) (a.r0[(Int.toNat a.x11)]?) UP fun (e3 : ByteArray) => (.rows ((Ql a.r0).set (Int.toNat a.x11) [xs r2]) (Ql (a.r0.set (Int.toNat a.x11) r2)) (lf Yk (Q5.mk a.x10 (w64 (a.x11 + 1)) (a.r0.set (Int.toNat a.x11) r2)))))))) .fail) (rx ZF a.r0))
theorem QhC (w : Cf) (C0 : Q8) (a : Q5) : (Ef pp w C0 a).norm (roundT pp G.kd w 0 (G.an 123) (loopAt pp 123 5) (Yk a)) = Ef pp w C0 a := by kernel_rfl
theorem QhD (P : Pg) (w : Cf) (lp : Lo) (C0 : Q8) (K0 : FA w C0) (a : Q5) : (Ef P w C0 a).ok lp (Sum.elim (fun a => (.norm, Yk a)) ZF) := ⟨rfl, fun q0 => ⟨(by rw [Jy]), fun q1 => fun e1 h => ⟨Vq h, fun r2 hr2 => ⟨K0 _ _ _ hr2, ⟨(show (decide (0 ≤ a.x11 ∧ a.x11 < (((Ql a.r0).length : Nat) : Int))) = (decide (0 ≤ a.x11 ∧ a.x11 < ((a.r0.length : Nat) : Int))) from (by rw [Jy])).trans q1, fun e3 h => ⟨Vq h, ⟨(Qni a.r0 (Int.toNat a.x11) r2), rfl⟩⟩⟩⟩⟩, fun q1 => trivial⟩, fun q0 => rfl⟩
theorem QhE {C0 : Nat → Q8} {D0 : Q8} (H0 : Cv2 C0 D0) (a : Q5) : Cv (fun k => Wy (C0 k) a) (Wy D0 a) := by
  unfold Wy
  exact .cond (.cond (.bind (.const _) fun e1 => .bind (H0 _ _) fun r2 => by exact .const _) cst) cst
def JE.s (k : Nat) (C0 : Q8) : Q5 → Option (List ByteArray) := iter (Wy C0) k
theorem QgP (w : Cf) (k : Nat) (C0 : Q8) (K0 : FA w C0) (a : Q5) (r : (List ByteArray)) (h : JE.s k C0 a = some r) : loopsF pp G.kd w 0 (G.an 123) k (loopAt pp 123 5) (Yk a) = some (ZF r) :=
  VZ (fun a => Ef pp w C0 a) (fun _ => rfl) (fun a => QhC w _ a) (fun a => QhD _ w _ _ K0 a) (fun r => nofun) h
noncomputable def JE.w (C0 : Q8) : Q5 → Option (List ByteArray) := loopW (Wy C0)
theorem JE.cv (C0 : Nat → Q8) (D0 : Q8) (H0 : Cv2 C0 D0) (a : Q5) : Cv (fun k => JE.s k (C0 k) a) (JE.w D0 a) := Cv.iter (fun a => QhE H0 a) a
def YB (C0 : Zg) (L1 : XT) (a0 : ByteArray) : Option (List ByteArray) := (bif (eqS a0 s_) then (some ([] : List ByteArray)) else ((C0 a0 h_2c).bind fun r1 => ((L1 (Q5.mk (((r1.length) : Nat) : Int) (0 : Int) r1)).bind (fun (o2 : (List ByteArray)) => (some o2)))))
def FN (P : Pg) (w : Cf) (C0 : Zg) (L1 : XT) (a0 : ByteArray) : Tr (List ByteArray) AH := (.as (eqS a0 s_) (rt Ee ([] : List ByteArray)) (.call (Qd4 w a0 h_2c) (C0 a0 h_2c) Qap fun r1 => (.num ((Ql r1).length) (r1.length) (.loop (loopAt P 123 5) (Yk (Q5.mk (((r1.length) : Nat) : Int) i0 r1)) (L1 (Q5.mk (((r1.length) : Nat) : Int) i0 r1)) ZF (fun (o2 : (List ByteArray)) => (rt Ee o2))))))
theorem Qks (w : Cf) (C0 : Zg) (L1 : XT) (a0 : ByteArray) : (FN pp w C0 L1 a0).norm (bodyT pp w G 123 (FM a0).1 (FM a0).2) = FN pp w C0 L1 a0 := by kernel_rfl
theorem Qkt (P : Pg) (w : Cf) (lp : Lo) (C0 : Zg) (L1 : XT) (K0 : Qll w C0) (N1 : QiN P lp L1) (a0 : ByteArray) : (FN P w C0 L1 a0).ok lp Ee := ⟨rfl, fun q0 => rfl, fun q0 => fun r1 hr1 => ⟨K0 _ _ _ hr1, ⟨(Jy _), fun o2 ho2 => ⟨N1 _ _ ho2, rfl⟩⟩⟩⟩
theorem Qku {C0 : Nat → Zg} {D0 : Zg} (H0 : Cv2 C0 D0) {L1 : Nat → XT} {M1 : XT} (N1 : Cv1 L1 M1) (a0 : ByteArray) : Cv (fun k => YB (C0 k) (L1 k) a0) (YB D0 M1 a0) := by
  unfold YB
  exact .cond cst (.bind (H0 _ _) fun r1 => .bind (N1 _) (fun o2 => by exact .const _))
def U8.s : Nat → ByteArray → Option (List ByteArray)
  | 0, _ => none
  | k + 1, a0 => YB (UL.s k) (JE.s k (QY.s k)) a0
theorem U8.ok : ∀ (k : Nat), Qfp (ev k) (U8.s k)
  | 0, _, _, h => (nomatch h)
  | k + 1, a0, r, h => fn_ok rfl (FN pp (ev k) (UL.s k) (JE.s k (QY.s k)) a0) (Qks _ _ _ a0) (Qkt _ _ _ _ _ (UL.ok k) (QgP _ k _ (QY.ok k)) a0) h
noncomputable def JE : Q5 → Option (List ByteArray) := JE.w QY
theorem JE.eq (a : Q5) : JE a = (Wy QY a).bind (Sum.elim JE some) := UO _ _
noncomputable def U8 (a0 : ByteArray) : Option (List ByteArray) := YB UL JE a0
theorem U8.cv (a0 : ByteArray) : Cv (fun k => U8.s k a0) (U8 a0) := .un rfl (Qku UL.cv (JE.cv (fun k => QY.s k) QY QY.cv) a0)
theorem U8.eq (a0 : ByteArray) : U8 a0 = YB UL JE a0 := rfl
def P0 (r : (List Qc)) : AV × Heap := (.sl (ZB r), [])
abbrev XK := Option (List Qc)
abbrev QbI : List AV × Heap := ([], [])
abbrev QeF (w : Cf) : Option AH := w 139 (QbI ).1 (QbI ).2
abbrev Qf3 (w : Cf) (c : XK) : Prop := ∀ (r : (List Qc)), c = some r → QeF w = some (P0 r)
def Qjg : Option (List Qc) := (some [(Qc.mk FW (0 : Int) s_), (Qc.mk Qab (1 : Int) s_), (Qc.mk Qfn (2 : Int) s_), (Qc.mk Qdr (4 : Int) s_), (Qc.mk Qb7 (6 : Int) s_), (Qc.mk Qdx (32 : Int) s_X), (Qc.mk Qdw (48 : Int) s_X), (Qc.mk Qca (128 : Int) s_X), (Qc.mk Qcb (144 : Int) s_X), (Qc.mk Qac (160 : Int) s_X), (Qc.mk Qad (176 : Int) s_X), (Qc.mk S9 (192 : Int) s_X), (Qc.mk S7 (208 : Int) s_X), (Qc.mk Qaa (224 : Int) s_X), (Qc.mk S8 (240 : Int) s_X), (Qc.mk Qfl (256 : Int) Jf), (Qc.mk Qdp (1024 : Int) Jf), (Qc.mk Qae (1280 : Int) Jf), (Qc.mk QdB (1536 : Int) Jf), (Qc.mk Qds (3072 : Int) Jf), (Qc.mk Qb9 (3328 : Int) Jf), (Qc.mk Qb5 (8192 : Int) WD), (Qc.mk S6 (8704 : Int) WD), (Qc.mk Qce (9216 : Int) WD), (Qc.mk Qb8 (10752 : Int) JR), (Qc.mk Qfm (17408 : Int) Jf), (Qc.mk Qb6 (17664 : Int) Jf), (Qc.mk Qdq (17920 : Int) Jf), (Qc.mk Qfk (18432 : Int) SV), (Qc.mk SX (24576 : Int) JR), (Qc.mk SY (25600 : Int) JR), (Qc.mk SZ (26112 : Int) JR), (Qc.mk Qcd (26624 : Int) JR), (Qc.mk Qcc (27648 : Int) JR), (Qc.mk Qdt (32768 : Int) WQ), (Qc.mk Qdy (36864 : Int) WQ), (Qc.mk Qdu (40960 : Int) WR), (Qc.mk Qdz (45056 : Int) WR), (Qc.mk Qdv (49152 : Int) WS), (Qc.mk QdA (53248 : Int) WS), (Qc.mk Qfi (57344 : Int) ZC), (Qc.mk Qhv (59392 : Int) s_T8), (Qc.mk Qfj (59648 : Int) s_T8), (Qc.mk SW (469762048 : Int) GD), (Qc.mk Qdm (402685952 : Int) E3), (Qc.mk Qdn (402702336 : Int) U1), (Qc.mk Qfd (402706432 : Int) U1), (Qc.mk Qdo (402710528 : Int) U1), (Qc.mk Qhu (1879048192 : Int) FV), (Qc.mk Qe9 (805306368 : Int) Qv), (Qc.mk Qfe (872415232 : Int) Qv), (Qc.mk Qfa (939524096 : Int) Qv), (Qc.mk Qfc (1342177280 : Int) Qv), (Qc.mk Qfg (1409286144 : Int) Qv), (Qc.mk Qfb (1476395008 : Int) Qv), (Qc.mk Qff (1543503872 : Int) Qv), (Qc.mk Qki (2013265920 : Int) Sj), (Qc.mk Qht (2013265921 : Int) Sj), (Qc.mk Qhs (2046820352 : Int) Vd), (Qc.mk Qe8 (2046820353 : Int) Vd), (Qc.mk Qkg (2080375316 : Int) VI), (Qc.mk Qhw (2080374864 : Int) VI), (Qc.mk Qfh (2080375254 : Int) VI), (Qc.mk Qkh (2080374840 : Int) VH), (Qc.mk s_or (2080375672 : Int) VH), (Qc.mk Qkj (2080375416 : Int) VH)])
def QbJ (P : Pg) (w : Cf) : Tr (List Qc) AH := (.rows [[xs FW, .sc (.int .u32 i0), xs s_], [xs Qab, .sc (.int .u32 (zi 1)), xs s_], [xs Qfn, .sc (.int .u32 (zi 2)), xs s_], [xs Qdr, .sc (.int .u32 (zi 4)), xs s_], [xs Qb7, .sc (.int .u32 (zi 6)), xs s_], [xs Qdx, .sc (.int .u32 (zi 32)), xs s_X], [xs Qdw, .sc (.int .u32 (zi 48)), xs s_X], [xs Qca, .sc (.int .u32 (zi 128)), xs s_X], [xs Qcb, .sc (.int .u32 (zi 144)), xs s_X], [xs Qac, .sc (.int .u32 (zi 160)), xs s_X], [xs Qad, .sc (.int .u32 (zi 176)), xs s_X], [xs S9, .sc (.int .u32 (zi 192)), xs s_X], [xs S7, .sc (.int .u32 (zi 208)), xs s_X], [xs Qaa, .sc (.int .u32 (zi 224)), xs s_X], [xs S8, .sc (.int .u32 (zi 240)), xs s_X], [xs Qfl, .sc (.int .u32 (zi 256)), xs Jf], [xs Qdp, .sc (.int .u32 (zi 1024)), xs Jf], [xs Qae, .sc (.int .u32 (zi 1280)), xs Jf], [xs QdB, .sc (.int .u32 (zi 1536)), xs Jf], [xs Qds, .sc (.int .u32 (zi 3072)), xs Jf], [xs Qb9, .sc (.int .u32 (zi 3328)), xs Jf], [xs Qb5, .sc (.int .u32 (zi 8192)), xs WD], [xs S6, .sc (.int .u32 (zi 8704)), xs WD], [xs Qce, .sc (.int .u32 (zi 9216)), xs WD], [xs Qb8, .sc (.int .u32 (zi 10752)), xs JR], [xs Qfm, .sc (.int .u32 (zi 17408)), xs Jf], [xs Qb6, .sc (.int .u32 (zi 17664)), xs Jf], [xs Qdq, .sc (.int .u32 (zi 17920)), xs Jf], [xs Qfk, .sc (.int .u32 (zi 18432)), xs SV], [xs SX, .sc (.int .u32 (zi 24576)), xs JR], [xs SY, .sc (.int .u32 (zi 25600)), xs JR], [xs SZ, .sc (.int .u32 (zi 26112)), xs JR], [xs Qcd, .sc (.int .u32 (zi 26624)), xs JR], [xs Qcc, .sc (.int .u32 (zi 27648)), xs JR], [xs Qdt, .sc (.int .u32 (zi 32768)), xs WQ], [xs Qdy, .sc (.int .u32 (zi 36864)), xs WQ], [xs Qdu, .sc (.int .u32 (zi 40960)), xs WR], [xs Qdz, .sc (.int .u32 (zi 45056)), xs WR], [xs Qdv, .sc (.int .u32 (zi 49152)), xs WS], [xs QdA, .sc (.int .u32 (zi 53248)), xs WS], [xs Qfi, .sc (.int .u32 (zi 57344)), xs ZC], [xs Qhv, .sc (.int .u32 (zi 59392)), xs s_T8], [xs Qfj, .sc (.int .u32 (zi 59648)), xs s_T8], [xs SW, .sc (.int .u32 (zi 469762048)), xs GD], [xs Qdm, .sc (.int .u32 (zi 402685952)), xs E3], [xs Qdn, .sc (.int .u32 (zi 402702336)), xs U1], [xs Qfd, .sc (.int .u32 (zi 402706432)), xs U1], [xs Qdo, .sc (.int .u32 (zi 402710528)), xs U1], [xs Qhu, .sc (.int .u32 (zi 1879048192)), xs FV], [xs Qe9, .sc (.int .u32 (zi 805306368)), xs Qv], [xs Qfe, .sc (.int .u32 (zi 872415232)), xs Qv], [xs Qfa, .sc (.int .u32 (zi 939524096)), xs Qv], [xs Qfc, .sc (.int .u32 (zi 1342177280)), xs Qv], [xs Qfg, .sc (.int .u32 (zi 1409286144)), xs Qv], [xs Qfb, .sc (.int .u32 (zi 1476395008)), xs Qv], [xs Qff, .sc (.int .u32 (zi 1543503872)), xs Qv], [xs Qki, .sc (.int .u32 (zi 2013265920)), xs Sj], [xs Qht, .sc (.int .u32 (zi 2013265921)), xs Sj], [xs Qhs, .sc (.int .u32 (zi 2046820352)), xs Vd], [xs Qe8, .sc (.int .u32 (zi 2046820353)), xs Vd], [xs Qkg, .sc (.int .u32 (zi 2080375316)), xs VI], [xs Qhw, .sc (.int .u32 (zi 2080374864)), xs VI], [xs Qfh, .sc (.int .u32 (zi 2080375254)), xs VI], [xs Qkh, .sc (.int .u32 (zi 2080374840)), xs VH], [xs s_or, .sc (.int .u32 (zi 2080375672)), xs VH], [xs Qkj, .sc (.int .u32 (zi 2080375416)), xs VH]] (ZB [(Qc.mk FW i0 s_), (Qc.mk Qab (zi 1) s_), (Qc.mk Qfn (zi 2) s_), (Qc.mk Qdr (zi 4) s_), (Qc.mk Qb7 (zi 6) s_), (Qc.mk Qdx (zi 32) s_X), (Qc.mk Qdw (zi 48) s_X), (Qc.mk Qca (zi 128) s_X), (Qc.mk Qcb (zi 144) s_X), (Qc.mk Qac (zi 160) s_X), (Qc.mk Qad (zi 176) s_X), (Qc.mk S9 (zi 192) s_X), (Qc.mk S7 (zi 208) s_X), (Qc.mk Qaa (zi 224) s_X), (Qc.mk S8 (zi 240) s_X), (Qc.mk Qfl (zi 256) Jf), (Qc.mk Qdp (zi 1024) Jf), (Qc.mk Qae (zi 1280) Jf), (Qc.mk QdB (zi 1536) Jf), (Qc.mk Qds (zi 3072) Jf), (Qc.mk Qb9 (zi 3328) Jf), (Qc.mk Qb5 (zi 8192) WD), (Qc.mk S6 (zi 8704) WD), (Qc.mk Qce (zi 9216) WD), (Qc.mk Qb8 (zi 10752) JR), (Qc.mk Qfm (zi 17408) Jf), (Qc.mk Qb6 (zi 17664) Jf), (Qc.mk Qdq (zi 17920) Jf), (Qc.mk Qfk (zi 18432) SV), (Qc.mk SX (zi 24576) JR), (Qc.mk SY (zi 25600) JR), (Qc.mk SZ (zi 26112) JR), (Qc.mk Qcd (zi 26624) JR), (Qc.mk Qcc (zi 27648) JR), (Qc.mk Qdt (zi 32768) WQ), (Qc.mk Qdy (zi 36864) WQ), (Qc.mk Qdu (zi 40960) WR), (Qc.mk Qdz (zi 45056) WR), (Qc.mk Qdv (zi 49152) WS), (Qc.mk QdA (zi 53248) WS), (Qc.mk Qfi (zi 57344) ZC), (Qc.mk Qhv (zi 59392) s_T8), (Qc.mk Qfj (zi 59648) s_T8), (Qc.mk SW (zi 469762048) GD), (Qc.mk Qdm (zi 402685952) E3), (Qc.mk Qdn (zi 402702336) U1), (Qc.mk Qfd (zi 402706432) U1), (Qc.mk Qdo (zi 402710528) U1), (Qc.mk Qhu (zi 1879048192) FV), (Qc.mk Qe9 (zi 805306368) Qv), (Qc.mk Qfe (zi 872415232) Qv), (Qc.mk Qfa (zi 939524096) Qv), (Qc.mk Qfc (zi 1342177280) Qv), (Qc.mk Qfg (zi 1409286144) Qv), (Qc.mk Qfb (zi 1476395008) Qv), (Qc.mk Qff (zi 1543503872) Qv), (Qc.mk Qki (zi 2013265920) Sj), (Qc.mk Qht (zi 2013265921) Sj), (Qc.mk Qhs (zi 2046820352) Vd), (Qc.mk Qe8 (zi 2046820353) Vd), (Qc.mk Qkg (zi 2080375316) VI), (Qc.mk Qhw (zi 2080374864) VI), (Qc.mk Qfh (zi 2080375254) VI), (Qc.mk Qkh (zi 2080374840) VH), (Qc.mk s_or (zi 2080375672) VH), (Qc.mk Qkj (zi 2080375416) VH)]) (rt P0 [(Qc.mk FW i0 s_), (Qc.mk Qab (zi 1) s_), (Qc.mk Qfn (zi 2) s_), (Qc.mk Qdr (zi 4) s_), (Qc.mk Qb7 (zi 6) s_), (Qc.mk Qdx (zi 32) s_X), (Qc.mk Qdw (zi 48) s_X), (Qc.mk Qca (zi 128) s_X), (Qc.mk Qcb (zi 144) s_X), (Qc.mk Qac (zi 160) s_X), (Qc.mk Qad (zi 176) s_X), (Qc.mk S9 (zi 192) s_X), (Qc.mk S7 (zi 208) s_X), (Qc.mk Qaa (zi 224) s_X), (Qc.mk S8 (zi 240) s_X), (Qc.mk Qfl (zi 256) Jf), (Qc.mk Qdp (zi 1024) Jf), (Qc.mk Qae (zi 1280) Jf), (Qc.mk QdB (zi 1536) Jf), (Qc.mk Qds (zi 3072) Jf), (Qc.mk Qb9 (zi 3328) Jf), (Qc.mk Qb5 (zi 8192) WD), (Qc.mk S6 (zi 8704) WD), (Qc.mk Qce (zi 9216) WD), (Qc.mk Qb8 (zi 10752) JR), (Qc.mk Qfm (zi 17408) Jf), (Qc.mk Qb6 (zi 17664) Jf), (Qc.mk Qdq (zi 17920) Jf), (Qc.mk Qfk (zi 18432) SV), (Qc.mk SX (zi 24576) JR), (Qc.mk SY (zi 25600) JR), (Qc.mk SZ (zi 26112) JR), (Qc.mk Qcd (zi 26624) JR), (Qc.mk Qcc (zi 27648) JR), (Qc.mk Qdt (zi 32768) WQ), (Qc.mk Qdy (zi 36864) WQ), (Qc.mk Qdu (zi 40960) WR), (Qc.mk Qdz (zi 45056) WR), (Qc.mk Qdv (zi 49152) WS), (Qc.mk QdA (zi 53248) WS), (Qc.mk Qfi (zi 57344) ZC), (Qc.mk Qhv (zi 59392) s_T8), (Qc.mk Qfj (zi 59648) s_T8), (Qc.mk SW (zi 469762048) GD), (Qc.mk Qdm (zi 402685952) E3), (Qc.mk Qdn (zi 402702336) U1), (Qc.mk Qfd (zi 402706432) U1), (Qc.mk Qdo (zi 402710528) U1), (Qc.mk Qhu (zi 1879048192) FV), (Qc.mk Qe9 (zi 805306368) Qv), (Qc.mk Qfe (zi 872415232) Qv), (Qc.mk Qfa (zi 939524096) Qv), (Qc.mk Qfc (zi 1342177280) Qv), (Qc.mk Qfg (zi 1409286144) Qv), (Qc.mk Qfb (zi 1476395008) Qv), (Qc.mk Qff (zi 1543503872) Qv), (Qc.mk Qki (zi 2013265920) Sj), (Qc.mk Qht (zi 2013265921) Sj), (Qc.mk Qhs (zi 2046820352) Vd), (Qc.mk Qe8 (zi 2046820353) Vd), (Qc.mk Qkg (zi 2080375316) VI), (Qc.mk Qhw (zi 2080374864) VI), (Qc.mk Qfh (zi 2080375254) VI), (Qc.mk Qkh (zi 2080374840) VH), (Qc.mk s_or (zi 2080375672) VH), (Qc.mk Qkj (zi 2080375416) VH)]))
theorem QoN (w : Cf) : (QbJ pp w ).norm (bodyT pp w G 139 (QbI ).1 (QbI ).2) = QbJ pp w := by kernel_rfl
theorem QoO (P : Pg) (w : Cf) (lp : Lo) : (QbJ P w ).ok lp P0 := ⟨(Qcz [(Qc.mk FW (0 : Int) s_), (Qc.mk Qab (1 : Int) s_), (Qc.mk Qfn (2 : Int) s_), (Qc.mk Qdr (4 : Int) s_), (Qc.mk Qb7 (6 : Int) s_), (Qc.mk Qdx (32 : Int) s_X), (Qc.mk Qdw (48 : Int) s_X), (Qc.mk Qca (128 : Int) s_X), (Qc.mk Qcb (144 : Int) s_X), (Qc.mk Qac (160 : Int) s_X), (Qc.mk Qad (176 : Int) s_X), (Qc.mk S9 (192 : Int) s_X), (Qc.mk S7 (208 : Int) s_X), (Qc.mk Qaa (224 : Int) s_X), (Qc.mk S8 (240 : Int) s_X), (Qc.mk Qfl (256 : Int) Jf), (Qc.mk Qdp (1024 : Int) Jf), (Qc.mk Qae (1280 : Int) Jf), (Qc.mk QdB (1536 : Int) Jf), (Qc.mk Qds (3072 : Int) Jf), (Qc.mk Qb9 (3328 : Int) Jf), (Qc.mk Qb5 (8192 : Int) WD), (Qc.mk S6 (8704 : Int) WD), (Qc.mk Qce (9216 : Int) WD), (Qc.mk Qb8 (10752 : Int) JR), (Qc.mk Qfm (17408 : Int) Jf), (Qc.mk Qb6 (17664 : Int) Jf), (Qc.mk Qdq (17920 : Int) Jf), (Qc.mk Qfk (18432 : Int) SV), (Qc.mk SX (24576 : Int) JR), (Qc.mk SY (25600 : Int) JR), (Qc.mk SZ (26112 : Int) JR), (Qc.mk Qcd (26624 : Int) JR), (Qc.mk Qcc (27648 : Int) JR), (Qc.mk Qdt (32768 : Int) WQ), (Qc.mk Qdy (36864 : Int) WQ), (Qc.mk Qdu (40960 : Int) WR), (Qc.mk Qdz (45056 : Int) WR), (Qc.mk Qdv (49152 : Int) WS), (Qc.mk QdA (53248 : Int) WS), (Qc.mk Qfi (57344 : Int) ZC), (Qc.mk Qhv (59392 : Int) s_T8), (Qc.mk Qfj (59648 : Int) s_T8), (Qc.mk SW (469762048 : Int) GD), (Qc.mk Qdm (402685952 : Int) E3), (Qc.mk Qdn (402702336 : Int) U1), (Qc.mk Qfd (402706432 : Int) U1), (Qc.mk Qdo (402710528 : Int) U1), (Qc.mk Qhu (1879048192 : Int) FV), (Qc.mk Qe9 (805306368 : Int) Qv), (Qc.mk Qfe (872415232 : Int) Qv), (Qc.mk Qfa (939524096 : Int) Qv), (Qc.mk Qfc (1342177280 : Int) Qv), (Qc.mk Qfg (1409286144 : Int) Qv), (Qc.mk Qfb (1476395008 : Int) Qv), (Qc.mk Qff (1543503872 : Int) Qv), (Qc.mk Qki (2013265920 : Int) Sj), (Qc.mk Qht (2013265921 : Int) Sj), (Qc.mk Qhs (2046820352 : Int) Vd), (Qc.mk Qe8 (2046820353 : Int) Vd), (Qc.mk Qkg (2080375316 : Int) VI), (Qc.mk Qhw (2080374864 : Int) VI), (Qc.mk Qfh (2080375254 : Int) VI), (Qc.mk Qkh (2080374840 : Int) VH), (Qc.mk s_or (2080375672 : Int) VH), (Qc.mk Qkj (2080375416 : Int) VH)]), rfl⟩
def VV.s : Nat → Option (List Qc)
  | 0 => none
  | k + 1 => Qjg
theorem VV.ok : ∀ (k : Nat), Qf3 (ev k) (VV.s k)
  | 0, _, h => (nomatch h)
  | k + 1, r, h => fn_ok rfl (QbJ pp (ev k) ) (QoN _ ) (QoO _ _ _ ) h
noncomputable def VV : Option (List Qc) := Qjg
theorem VV.cv : Cv (fun k => VV.s k ) (VV ) := .un rfl (by exact .const _)
def Qaq (r : (Bool × ByteArray)) : AV × Heap := (xo r.1, [(0, .box [] (UP r.2))])
abbrev Xz := Qc → ByteArray → Option (Bool × ByteArray)
abbrev Qar (a0 : Qc) (h0 : ByteArray) : List AV × Heap := ([.agg (FU a0), .ptr 0 0], [(0, .box [] (UP h0))])
abbrev QhF (w : Cf) (a0 : Qc) (h0 : ByteArray) : Option AH := w 176 (Qar a0 h0).1 (Qar a0 h0).2
abbrev QeG (w : Cf) (c : Xz) : Prop := ∀ (a0 : Qc) (h0 : ByteArray) (r : (Bool × ByteArray)), c a0 h0 = some r → QhF w a0 h0 = some (Qaq r)
def Qas (a0 : Qc) (h0 : ByteArray) : Option (Bool × ByteArray) := (some ((eqS a0.name h0), h0))
def Qat (P : Pg) (w : Cf) (a0 : Qc) (h0 : ByteArray) : Tr (Bool × ByteArray) AH := (rt Qaq ((eqS a0.name h0), h0))
theorem Qnt (w : Cf) (a0 : Qc) (h0 : ByteArray) : (Qat pp w a0 h0).norm (bodyT pp w G 176 (Qar a0 h0).1 (Qar a0 h0).2) = Qat pp w a0 h0 := by kernel_rfl
theorem Qnu (P : Pg) (w : Cf) (lp : Lo) (a0 : Qc) (h0 : ByteArray) : (Qat P w a0 h0).ok lp Qaq := rfl
def V3.s : Nat → Qc → ByteArray → Option (Bool × ByteArray)
  | 0, _, _ => none
  | k + 1, a0, h0 => Qas a0 h0
theorem V3.ok : ∀ (k : Nat), QeG (ev k) (V3.s k)
  | 0, _, _, _, h => (nomatch h)
  | k + 1, a0, h0, r, h => fn_ok rfl (Qat pp (ev k) a0 h0) (Qnt _ a0 h0) (Qnu _ _ _ a0 h0) h
noncomputable def V3 (a0 : Qc) (h0 : ByteArray) : Option (Bool × ByteArray) := Qas a0 h0
theorem V3.cv (a0 : Qc) (h0 : ByteArray) : Cv (fun k => V3.s k a0 h0) (V3 a0 h0) := .un rfl (by exact .const _)
theorem V3.eq (a0 : Qc) (h0 : ByteArray) : V3 a0 h0 = Qas a0 h0 := rfl
def ZG (r : (Int × ByteArray)) : AV × Heap := (xi r.1, [(0, .box [] (UP r.2))])
abbrev XU := (List Qc) → ByteArray → Option (Int × ByteArray)
abbrev Eg (a0 : (List Qc)) (h0 : ByteArray) : List AV × Heap := ([.sl (ZB a0), .fn (.func 176) [] [.ptr 0 0]], [(0, .box [] (UP h0))])
abbrev Qcf (w : Cf) (a0 : (List Qc)) (h0 : ByteArray) : Option AH := w 175 (Eg a0 h0).1 (Eg a0 h0).2
abbrev QcF (w : Cf) (c : XU) : Prop := ∀ (a0 : (List Qc)) (h0 : ByteArray) (r : (Int × ByteArray)), c a0 h0 = some r → Qcf w a0 h0 = some (ZG r)
structure QM where
  x0 : (List Qc)
  x7 : Int
  x8 : Int
  h0 : ByteArray
structure Jv where
  x4 : Int
  h0 : ByteArray
def Xh (a : QM) : St := { n := 19, nx := 1, env := [(0, .sl (ZB a.x0)), (1, .fn (.func 176) [] [.ptr 0 0]), (7, xi a.x7), (8, xi a.x8)], heap := [(0, .box [] (UP a.h0))] }
def P1 (a : Jv) : Ex × St := (.ret, { n := 19, nx := 1, env := [(4, xi a.x4)], heap := [(0, .box [] (UP a.h0))] })
def P2 (a : ByteArray) : Ex × St := (.exit 0, { n := 19, nx := 1, env := [], heap := [(0, .box [] (UP a))] })
def Yl (a : (Jv ⊕ ByteArray)) : Ex × St := Sum.elim P1 P2 a
abbrev WE := QM → Option (Jv ⊕ ByteArray)
abbrev Qf4 (P : Pg) (lp : Lo) (l : WE) : Prop := ∀ (a : QM) (r : (Jv ⊕ ByteArray)), l a = some r → lp (loopAt P 175 2) (Xh a) = some (Yl r)
def Wq (C0 : Xz) (a : QM) : Option (QM ⊕ (Jv ⊕ ByteArray)) := (bif (decide (a.x8 < a.x7)) then (bif (decide (0 ≤ a.x8)) then ((a.x0[(Int.toNat a.x8)]?).bind fun e1 => ((C0 e1 a.h0).bind fun r2 => (bif r2.1 then (some (.inr (.inl (Jv.mk a.x8 r2.2)))) else (some (.inl (QM.mk a.x0 a.x7 (w64 (a.x8 + 1)) r2.2)))))) else none) else (some (.inr (.inr a.h0))))
def ZM (P : Pg) (w : Cf) (C0 : Xz) (a : QM) : Tr (QM ⊕ (Jv ⊕ ByteArray)) XS := (.as (decide (a.x8 < a.x7)) (.as (decide (0 ≤ a.x8)) (.row ((ZB a.x0)[(Int.toNat a.x8)]?) (a.x0[(Int.toNat a.x8)]?) FU fun (e1 : Qc) => (.call (QhF w e1 a.h0) (C0 e1 a.h0) Qaq fun r2 => (.as r2.1 (rx Yl (.inl (Jv.mk a.x8 r2.2))) (lf Xh (QM.mk a.x0 a.x7 (w64 (a.x8 + 1)) r2.2))))) .fail) (rx Yl (.inr a.h0)))
theorem Qfq (w : Cf) (C0 : Xz) (a : QM) : (ZM pp w C0 a).norm (roundT pp G.kd w 1 (G.an 175) (loopAt pp 175 2) (Xh a)) = ZM pp w C0 a := by kernel_rfl
theorem Qfr (P : Pg) (w : Cf) (lp : Lo) (C0 : Xz) (K0 : QeG w C0) (a : QM) : (ZM P w C0 a).ok lp (Sum.elim (fun a => (.norm, Xh a)) Yl) := ⟨rfl, fun q0 => ⟨rfl, fun q1 => fun e1 h => ⟨Qgy h, fun r2 hr2 => ⟨K0 _ _ _ hr2, ⟨rfl, fun q2 => rfl, fun q2 => rfl⟩⟩⟩, fun q1 => trivial⟩, fun q0 => rfl⟩
theorem Qfs {C0 : Nat → Xz} {D0 : Xz} (H0 : Cv2 C0 D0) (a : QM) : Cv (fun k => Wq (C0 k) a) (Wq D0 a) := by
  unfold Wq
  exact .cond (.cond (.bind (.const _) fun e1 => .bind (H0 _ _) fun r2 => by exact .const _) cst) cst
def Jp.s (k : Nat) (C0 : Xz) : QM → Option (Jv ⊕ ByteArray) := iter (Wq C0) k
theorem QeH (w : Cf) (k : Nat) (C0 : Xz) (K0 : QeG w C0) (a : QM) (r : (Jv ⊕ ByteArray)) (h : Jp.s k C0 a = some r) : loopsF pp G.kd w 1 (G.an 175) k (loopAt pp 175 2) (Xh a) = some (Yl r) :=
  VZ (fun a => ZM pp w C0 a) (fun _ => rfl) (fun a => Qfq w _ a) (fun a => Qfr _ w _ _ K0 a) (fun r => by cases r <;> nofun) h
noncomputable def Jp.w (C0 : Xz) : QM → Option (Jv ⊕ ByteArray) := loopW (Wq C0)
theorem Jp.cv (C0 : Nat → Xz) (D0 : Xz) (H0 : Cv2 C0 D0) (a : QM) : Cv (fun k => Jp.s k (C0 k) a) (Jp.w D0 a) := Cv.iter (fun a => Qfs H0 a) a
def Xm (L0 : WE) (a0 : (List Qc)) (h0 : ByteArray) : Option (Int × ByteArray) := ((L0 (QM.mk a0 (((a0.length) : Nat) : Int) (0 : Int) h0)).bind fun x => Sum.elim (fun (o1 : Jv) => (some (o1.x4, o1.h0))) (fun (o2 : ByteArray) => (some ((-1 : Int), o2))) x)
def Eh (P : Pg) (w : Cf) (L0 : WE) (a0 : (List Qc)) (h0 : ByteArray) : Tr (Int × ByteArray) AH := (.num ((ZB a0).length) (a0.length) (.loop2 (loopAt P 175 2) (Xh (QM.mk a0 (((a0.length) : Nat) : Int) i0 h0)) (L0 (QM.mk a0 (((a0.length) : Nat) : Int) i0 h0)) P1 P2 (fun (o1 : Jv) => (rt ZG (o1.x4, o1.h0))) (fun (o2 : ByteArray) => (rt ZG ((-1 : Int), o2)))))
theorem QhG (w : Cf) (L0 : WE) (a0 : (List Qc)) (h0 : ByteArray) : (Eh pp w L0 a0 h0).norm (bodyT pp w G 175 (Eg a0 h0).1 (Eg a0 h0).2) = Eh pp w L0 a0 h0 := by kernel_rfl
theorem QhH (P : Pg) (w : Cf) (lp : Lo) (L0 : WE) (N0 : Qf4 P lp L0) (a0 : (List Qc)) (h0 : ByteArray) : (Eh P w L0 a0 h0).ok lp ZG := ⟨(Qgz _), ⟨fun o1 ho1 => ⟨N0 _ (.inl _) ho1, rfl⟩, fun o2 ho2 => ⟨N0 _ (.inr _) ho2, rfl⟩⟩⟩
theorem QhI {L0 : Nat → WE} {M0 : WE} (N0 : Cv1 L0 M0) (a0 : (List Qc)) (h0 : ByteArray) : Cv (fun k => Xm (L0 k) a0 h0) (Xm M0 a0 h0) := by
  unfold Xm
  exact .bind (N0 _) fun x => .sum (fun o1 => by exact .const _) (fun o2 => by exact .const _) x
def Up.s : Nat → (List Qc) → ByteArray → Option (Int × ByteArray)
  | 0, _, _ => none
  | k + 1, a0, h0 => Xm (Jp.s k (V3.s k)) a0 h0
theorem Up.ok : ∀ (k : Nat), QcF (ev k) (Up.s k)
  | 0, _, _, _, h => (nomatch h)
  | k + 1, a0, h0, r, h => fn_ok rfl (Eh pp (ev k) (Jp.s k (V3.s k)) a0 h0) (QhG _ _ a0 h0) (QhH _ _ _ _ (QeH _ k _ (V3.ok k)) a0 h0) h
noncomputable def Jp : QM → Option (Jv ⊕ ByteArray) := Jp.w V3
theorem Jp.eq (a : QM) : Jp a = (Wq V3 a).bind (Sum.elim Jp some) := UO _ _
noncomputable def Up (a0 : (List Qc)) (h0 : ByteArray) : Option (Int × ByteArray) := Xm Jp a0 h0
theorem Up.cv (a0 : (List Qc)) (h0 : ByteArray) : Cv (fun k => Up.s k a0 h0) (Up a0 h0) := .un rfl (QhI (Jp.cv (fun k => V3.s k) V3 V3.cv) a0 h0)
theorem Up.eq (a0 : (List Qc)) (h0 : ByteArray) : Up a0 h0 = Xm Jp a0 h0 := rfl
def QcQ (r : (Int × Bool)) : AV × Heap := (.tup [xi r.1, xo r.2], [])
abbrev F3 := ByteArray → Option (Int × Bool)
abbrev QcR (a0 : ByteArray) : List AV × Heap := ([xs a0], [])
abbrev Qkv (w : Cf) (a0 : ByteArray) : Option AH := w 124 (QcR a0).1 (QcR a0).2
abbrev Ql2 (w : Cf) (c : F3) : Prop := ∀ (a0 : ByteArray) (r : (Int × Bool)), c a0 = some r → Qkv w a0 = some (QcQ r)
def Fm (C0 : XK) (C1 : XU) (a0 : ByteArray) : Option (Int × Bool) := ((C0).bind fun r1 => ((C1 r1 a0).bind fun r2 => (some ((if (0 : Int) > r2.1 then (0 : Int) else r2.1), (decide (r2.1 ≥ 0))))))
def QcS (P : Pg) (w : Cf) (C0 : XK) (C1 : XU) (a0 : ByteArray) : Tr (Int × Bool) AH := (.call (QeF w) (C0) P0 fun r1 => (.call (Qcf w r1 a0) (C1 r1 a0) ZG fun r2 => (rt QcQ ((if i0 > r2.1 then i0 else r2.1), (decide (r2.1 ≥ 0))))))
theorem Qqh (w : Cf) (C0 : XK) (C1 : XU) (a0 : ByteArray) : (QcS pp w C0 C1 a0).norm (bodyT pp w G 124 (QcR a0).1 (QcR a0).2) = QcS pp w C0 C1 a0 := by kernel_rfl
theorem Qqi (P : Pg) (w : Cf) (lp : Lo) (C0 : XK) (C1 : XU) (K0 : Qf3 w C0) (K1 : QcF w C1) (a0 : ByteArray) : (QcS P w C0 C1 a0).ok lp QcQ := fun r1 hr1 => ⟨K0 _ hr1, fun r2 hr2 => ⟨K1 _ _ _ hr2, rfl⟩⟩
theorem Qqj {C0 : Nat → XK} {D0 : XK} (H0 : Cv C0 D0) {C1 : Nat → XU} {D1 : XU} (H1 : Cv2 C1 D1) (a0 : ByteArray) : Cv (fun k => Fm (C0 k) (C1 k) a0) (Fm D0 D1 a0) := by
  unfold Fm
  exact .bind (H0) fun r1 => .bind (H1 _ _) fun r2 => by exact .const _
def WF.s : Nat → ByteArray → Option (Int × Bool)
  | 0, _ => none
  | k + 1, a0 => Fm (VV.s k) (Up.s k) a0
theorem WF.ok : ∀ (k : Nat), Ql2 (ev k) (WF.s k)
  | 0, _, _, h => (nomatch h)
  | k + 1, a0, r, h => fn_ok rfl (QcS pp (ev k) (VV.s k) (Up.s k) a0) (Qqh _ _ _ a0) (Qqi _ _ _ _ _ (VV.ok k) (Up.ok k) a0) h
noncomputable def WF (a0 : ByteArray) : Option (Int × Bool) := Fm VV Up a0
theorem WF.cv (a0 : ByteArray) : Cv (fun k => WF.s k a0) (WF a0) := .un rfl (Qqj VV.cv Up.cv a0)
theorem WF.eq (a0 : ByteArray) : WF a0 = Fm VV Up a0 := rfl
def Ei (r : ByteArray) : AV × Heap := (xs r, [])
abbrev XV := Qc → Option ByteArray
abbrev Ej (a0 : Qc) : List AV × Heap := ([.agg (FU a0)], [])
abbrev Qcg (w : Cf) (a0 : Qc) : Option AH := w 200 (Ej a0).1 (Ej a0).2
abbrev QcG (w : Cf) (c : XV) : Prop := ∀ (a0 : Qc) (r : ByteArray), c a0 = some r → Qcg w a0 = some (Ei r)
def Qch (a0 : Qc) : Option ByteArray := (some a0.kinds)
def Ek (P : Pg) (w : Cf) (a0 : Qc) : Tr ByteArray AH := (rt Ei a0.kinds)
theorem QhJ (w : Cf) (a0 : Qc) : (Ek pp w a0).norm (bodyT pp w G 200 (Ej a0).1 (Ej a0).2) = Ek pp w a0 := by kernel_rfl
theorem QhK (P : Pg) (w : Cf) (lp : Lo) (a0 : Qc) : (Ek P w a0).ok lp Ei := rfl
def VJ.s : Nat → Qc → Option ByteArray
  | 0, _ => none
  | k + 1, a0 => Qch a0
theorem VJ.ok : ∀ (k : Nat), QcG (ev k) (VJ.s k)
  | 0, _, _, h => (nomatch h)
  | k + 1, a0, r, h => fn_ok rfl (Ek pp (ev k) a0) (QhJ _ a0) (QhK _ _ _ a0) h
noncomputable def VJ (a0 : Qc) : Option ByteArray := Qch a0
theorem VJ.cv (a0 : Qc) : Cv (fun k => VJ.s k a0) (VJ a0) := .un rfl (by exact .const _)
def Qbl (r : ByteArray) : AV × Heap := (xs r, [])
abbrev Qbm := Int → Option ByteArray
abbrev Qf5 (a0 : Int) : List AV × Heap := ([xi a0, .fn (.func 200) [] []], [])
abbrev Qnv (w : Cf) (a0 : Int) : Option AH := w 166 (Qf5 a0).1 (Qf5 a0).2
abbrev Qpw (w : Cf) (c : Qbm) : Prop := ∀ (a0 : Int) (r : ByteArray), c a0 = some r → Qnv w a0 = some (Qbl r)
def QdD (C0 : XK) (C1 : XV) (a0 : Int) : Option ByteArray := ((C0).bind fun r1 => (bif (decide (a0 ≥ 0)) then (bif (decide (a0 < (((r1.length) : Nat) : Int))) then (bif (decide (0 ≤ a0)) then ((r1[(Int.toNat a0)]?).bind fun e2 => ((C1 e2).bind fun r3 => (some r3))) else none) else (some s_)) else (some s_)))
def Qf6 (P : Pg) (w : Cf) (C0 : XK) (C1 : XV) (a0 : Int) : Tr ByteArray AH := (.call (QeF w) (C0) P0 fun r1 => (let u44 := (decide (a0 ≥ 0)); .as u44 (yesN 2 u44 (.num ((ZB r1).length) (r1.length) (yesN 2 u44 (.as (decide (a0 < (((r1.length) : Nat) : Int))) (.as (decide (0 ≤ a0)) (.row ((ZB r1)[(Int.toNat a0)]?) (r1[(Int.toNat a0)]?) FU fun (e2 : Qc) => (.call (Qcg w e2) (C1 e2) Ei fun r3 => (rt Qbl r3))) .fail) (rt Qbl s_))))) (noN 4 u44 (.no false (rt Qbl s_)))))
theorem QrX (w : Cf) (C0 : XK) (C1 : XV) (a0 : Int) : (Qf6 pp w C0 C1 a0).norm (bodyT pp w G 166 (Qf5 a0).1 (Qf5 a0).2) = Qf6 pp w C0 C1 a0 := by kernel_rfl
theorem QrY (P : Pg) (w : Cf) (lp : Lo) (C0 : XK) (C1 : XV) (K0 : Qf3 w C0) (K1 : QcG w C1) (a0 : Int) : (Qf6 P w C0 C1 a0).ok lp Qbl := fun r1 hr1 => ⟨K0 _ hr1, ⟨rfl, fun q0 => Qr 2 (q0) (⟨(Qgz _), Qr 2 (q0) (⟨rfl, fun q1 => ⟨rfl, fun q2 => fun e2 h => ⟨Qgy h, fun r3 hr3 => ⟨K1 _ _ hr3, rfl⟩⟩, fun q2 => trivial⟩, fun q1 => rfl⟩)⟩), fun q0 => noN_ok 4 (q0) (⟨rfl, rfl⟩)⟩⟩
theorem QrZ {C0 : Nat → XK} {D0 : XK} (H0 : Cv C0 D0) {C1 : Nat → XV} {D1 : XV} (H1 : Cv1 C1 D1) (a0 : Int) : Cv (fun k => QdD (C0 k) (C1 k) a0) (QdD D0 D1 a0) := by
  unfold QdD
  exact .bind (H0) fun r1 => .cond (.cond (.cond (.bind (.const _) fun e2 => .bind (H1 _) fun r3 => by exact .const _) cst) cst) cst
def F4.s : Nat → Int → Option ByteArray
  | 0, _ => none
  | k + 1, a0 => QdD (VV.s k) (VJ.s k) a0
theorem F4.ok : ∀ (k : Nat), Qpw (ev k) (F4.s k)
  | 0, _, _, h => (nomatch h)
  | k + 1, a0, r, h => fn_ok rfl (Qf6 pp (ev k) (VV.s k) (VJ.s k) a0) (QrX _ _ _ a0) (QrY _ _ _ _ _ (VV.ok k) (VJ.ok k) a0) h
noncomputable def F4 (a0 : Int) : Option ByteArray := QdD VV VJ a0
theorem F4.cv (a0 : Int) : Cv (fun k => F4.s k a0) (F4 a0) := .un rfl (QrZ VV.cv VJ.cv a0)
def QbK (r : ByteArray) : AV × Heap := (xs r, [])
abbrev Fo := Int → Option ByteArray
abbrev QbL (a0 : Int) : List AV × Heap := ([xi a0], [])
abbrev Qjh (w : Cf) (a0 : Int) : Option AH := w 146 (QbL a0).1 (QbL a0).2
abbrev Qkw (w : Cf) (c : Fo) : Prop := ∀ (a0 : Int) (r : ByteArray), c a0 = some r → Qjh w a0 = some (QbK r)
def P4 (C0 : Qbm) (a0 : Int) : Option ByteArray := ((C0 a0).bind fun r1 => (some r1))
def QbM (P : Pg) (w : Cf) (C0 : Qbm) (a0 : Int) : Tr ByteArray AH := (.call (Qnv w a0) (C0 a0) Qbl fun r1 => (rt QbK r1))
theorem QoP (w : Cf) (C0 : Qbm) (a0 : Int) : (QbM pp w C0 a0).norm (bodyT pp w G 146 (QbL a0).1 (QbL a0).2) = QbM pp w C0 a0 := by kernel_rfl
theorem QoQ (P : Pg) (w : Cf) (lp : Lo) (C0 : Qbm) (K0 : Qpw w C0) (a0 : Int) : (QbM P w C0 a0).ok lp QbK := fun r1 hr1 => ⟨K0 _ _ hr1, rfl⟩
theorem QoR {C0 : Nat → Qbm} {D0 : Qbm} (H0 : Cv1 C0 D0) (a0 : Int) : Cv (fun k => P4 (C0 k) a0) (P4 D0 a0) := by
  unfold P4
  exact .bind (H0 _) fun r1 => by exact .const _
def WY.s : Nat → Int → Option ByteArray
  | 0, _ => none
  | k + 1, a0 => P4 (F4.s k) a0
theorem WY.ok : ∀ (k : Nat), Qkw (ev k) (WY.s k)
  | 0, _, _, h => (nomatch h)
  | k + 1, a0, r, h => fn_ok rfl (QbM pp (ev k) (F4.s k) a0) (QoP _ _ a0) (QoQ _ _ _ _ (F4.ok k) a0) h
noncomputable def WY (a0 : Int) : Option ByteArray := P4 F4 a0
theorem WY.cv (a0 : Int) : Cv (fun k => WY.s k a0) (WY a0) := .un rfl (QoR F4.cv a0)
def Ss (r : (List ByteArray)) : AV × Heap := (.sl (Ql r), [])
def Uv.s : Nat → ByteArray → Option (List ByteArray)
  | 0, _ => none
  | _ + 1, a0 => fieldsS a0
theorem Uv.ok : ∀ (k : Nat), ∀ (a0 : ByteArray) (r : (List ByteArray)), Uv.s k a0 = some r → evalFn pp G k 145 [.sc (.string a0)] [] = some (Ss r)
  | 0, _, _, h => (nomatch h)
  | k + 1, a0, r, h => Qq2 h
abbrev YC := ByteArray → Option (List ByteArray)
abbrev QdE (a0 : ByteArray) : List AV × Heap := ([xs a0], [])
abbrev QdF (w : Cf) (a0 : ByteArray) : Option AH := w 145 (QdE a0).1 (QdE a0).2
abbrev Qkx (w : Cf) (c : YC) : Prop := ∀ (a0 : ByteArray) (r : (List ByteArray)), c a0 = some r → QdF w a0 = some (Ss r)
noncomputable def Uv (a0 : ByteArray) : Option (List ByteArray) := fieldsS a0
theorem Uv.mono (k : Nat) (a0 : ByteArray) : Le (Uv.s k a0) (Uv.s (k + 1) a0) := by
  cases k with
  | zero => exact fun r h => nomatch h
  | succ k => exact Le.refl _
theorem Uv.cv (a0 : ByteArray) : Cv (fun k => Uv.s k a0) (Uv a0) := ⟨fun k => Uv.mono k a0, fun r => ⟨fun h => ⟨1, h⟩, fun ⟨k, h⟩ => by
  cases k with
  | zero => cases h
  | succ k => exact h⟩⟩
def F5 (r : Bool) : AV × Heap := (.sc (.bool r), [])
def JF.s : Nat → ByteArray → ByteArray → Option Bool
  | 0, _, _ => none
  | _ + 1, a0, a1 => containsS a0 a1
theorem JF.ok : ∀ (k : Nat), ∀ (a0 : ByteArray) (a1 : ByteArray) (r : Bool), JF.s k a0 a1 = some r → evalFn pp G k 177 [.sc (.string a0), .sc (.string a1)] [] = some (F5 r)
  | 0, _, _, _, h => (nomatch h)
  | k + 1, a0, a1, r, h => QoC h
abbrev U9 := ByteArray → ByteArray → Option Bool
abbrev Qci (a0 : ByteArray) (a1 : ByteArray) : List AV × Heap := ([xs a0, xs a1], [])
abbrev Qcj (w : Cf) (a0 : ByteArray) (a1 : ByteArray) : Option AH := w 177 (Qci a0 a1).1 (Qci a0 a1).2
abbrev QcH (w : Cf) (c : U9) : Prop := ∀ (a0 : ByteArray) (a1 : ByteArray) (r : Bool), c a0 a1 = some r → Qcj w a0 a1 = some (F5 r)
noncomputable def JF (a0 : ByteArray) (a1 : ByteArray) : Option Bool := containsS a0 a1
theorem JF.mono (k : Nat) (a0 : ByteArray) (a1 : ByteArray) : Le (JF.s k a0 a1) (JF.s (k + 1) a0 a1) := by
  cases k with
  | zero => exact fun r h => nomatch h
  | succ k => exact Le.refl _
theorem JF.cv (a0 : ByteArray) (a1 : ByteArray) : Cv (fun k => JF.s k a0 a1) (JF a0 a1) := ⟨fun k => JF.mono k a0 a1, fun r => ⟨fun h => ⟨1, h⟩, fun ⟨k, h⟩ => by
  cases k with
  | zero => cases h
  | succ k => exact h⟩⟩
def Ea (r : (List (List Int))) : AV × Heap := (.sl (Qb3 r), [])
abbrev Uw := Option (List (List Int))
abbrev Sk : List AV × Heap := ([], [])
abbrev Sl (w : Cf) : Option AH := w 242 (Sk ).1 (Sk ).2
abbrev Qau (w : Cf) (c : Uw) : Prop := ∀ (r : (List (List Int))), c = some r → Sl w = some (Ea r)
def QcC : Option (List (List Int)) := (some [[(9 : Int)], [(8 : Int)], [(10 : Int), (11 : Int)], [(5 : Int), (6 : Int)], [(7 : Int)]])
def Sm (P : Pg) (w : Cf) : Tr (List (List Int)) AH := (.rows [[xi (zi 9)]] (QH [(zi 9)]) (.rows [[xi (zi 8)]] (QH [(zi 8)]) (.rows [[xi (zi 10)], [xi (zi 11)]] (QH [(zi 10), (zi 11)]) (.rows [[xi (zi 5)], [xi (zi 6)]] (QH [(zi 5), (zi 6)]) (.rows [[xi (zi 7)]] (QH [(zi 7)]) (.rows [[.sl (QH [(zi 9)])], [.sl (QH [(zi 8)])], [.sl (QH [(zi 10), (zi 11)])], [.sl (QH [(zi 5), (zi 6)])], [.sl (QH [(zi 7)])]] (Qb3 [[(zi 9)], [(zi 8)], [(zi 10), (zi 11)], [(zi 5), (zi 6)], [(zi 7)]]) (rt Ea [[(zi 9)], [(zi 8)], [(zi 10), (zi 11)], [(zi 5), (zi 6)], [(zi 7)]])))))))
theorem Qmx (w : Cf) : (Sm pp w ).norm (bodyT pp w G 242 (Sk ).1 (Sk ).2) = Sm pp w := by kernel_rfl
theorem Qmy (P : Pg) (w : Cf) (lp : Lo) : (Sm P w ).ok lp Ea := ⟨(UF [(9 : Int)]), ⟨(UF [(8 : Int)]), ⟨(UF [(10 : Int), (11 : Int)]), ⟨(UF [(5 : Int), (6 : Int)]), ⟨(UF [(7 : Int)]), ⟨(QfZ [[(9 : Int)], [(8 : Int)], [(10 : Int), (11 : Int)], [(5 : Int), (6 : Int)], [(7 : Int)]]), rfl⟩⟩⟩⟩⟩⟩
def JT.s : Nat → Option (List (List Int))
  | 0 => none
  | k + 1 => QcC
theorem JT.ok : ∀ (k : Nat), Qau (ev k) (JT.s k)
  | 0, _, h => (nomatch h)
  | k + 1, r, h => fn_ok rfl (Sm pp (ev k) ) (Qmx _ ) (Qmy _ _ _ ) h
noncomputable def JT : Option (List (List Int)) := QcC
theorem JT.cv : Cv (fun k => JT.s k ) (JT ) := .un rfl (by exact .const _)
theorem JT.eq : JT = QcC := rfl
def Zs (r : ByteArray) : AV × Heap := (xs r, [])
abbrev Wr := ByteArray → Int → Option ByteArray
abbrev Zt (a0 : ByteArray) (a1 : Int) : List AV × Heap := ([xs a0, xb a1], [])
abbrev P5 (w : Cf) (a0 : ByteArray) (a1 : Int) : Option AH := w 116 (Zt a0 a1).1 (Zt a0 a1).2
abbrev SC (w : Cf) (c : Wr) : Prop := ∀ (a0 : ByteArray) (a1 : Int) (r : ByteArray), c a0 a1 = some r → P5 w a0 a1 = some (Zs r)
structure QB where
  x0 : ByteArray
  x1 : Int
def Wc (a : QB) : St := { n := 17, nx := 0, env := [(0, xs a.x0), (1, xb a.x1)], heap := [] }
def Wd (a : ByteArray) : Ex × St := (.exit 0, { n := 17, nx := 0, env := [(0, xs a)], heap := [] })
abbrev VK := QB → Option ByteArray
abbrev QdG (P : Pg) (lp : Lo) (l : VK) : Prop := ∀ (a : QB) (r : ByteArray), l a = some r → lp (loopAt P 116 1) (Wc a) = some (Wd r)
def Yu (a : QB) : Option (QB ⊕ ByteArray) := (bif (decide (((a.x0.size : Nat) : Int) > 0)) then (bif (decide (0 ≤ (0 : Int) ∧ (0 : Int) < ((a.x0.size : Nat) : Int))) then (bif (((a.x0.data.getD (Int.toNat 0) 0).toNat : Int) == a.x1) then (bif (decide (0 ≤ (1 : Int) ∧ (1 : Int) ≤ ((a.x0.size : Nat) : Int) ∧ ((a.x0.size : Nat) : Int) ≤ ((a.x0.size : Nat) : Int))) then (some (.inl (QB.mk (a.x0.extract (Int.toNat 1) (Int.toNat ((a.x0.size : Nat) : Int))) a.x1))) else none) else (some (.inr a.x0))) else none) else (some (.inr a.x0)))
def Yv (P : Pg) (w : Cf) (a : QB) : Tr (QB ⊕ ByteArray) XS := (let u45 := (decide ((zz a.x0) > 0)); .as u45 (.yes u45 (.as (in1 i0 (zz a.x0)) (yesN 3 u45 (.as ((gb a.x0 i0) == a.x1) (.as (in2 (zi 1) (zz a.x0) (zz a.x0)) (lf Wc (QB.mk (cu a.x0 (zi 1) (zz a.x0)) a.x1)) .fail) (rx Wd a.x0))) .fail)) (noN 4 u45 (.no false (rx Wd a.x0))))
theorem QcT (w : Cf) (a : QB) : (Yv pp w a).norm (roundT pp G.kd w 0 (G.an 116) (loopAt pp 116 1) (Wc a)) = Yv pp w a := by kernel_rfl
theorem QcU (P : Pg) (w : Cf) (lp : Lo) (a : QB) : (Yv P w a).ok lp (Sum.elim (fun a => (.norm, Wc a)) Wd) := ⟨rfl, fun q0 => ⟨q0, ⟨rfl, fun q1 => Qr 3 (q0) (⟨rfl, fun q2 => ⟨rfl, fun q3 => rfl, fun q3 => trivial⟩, fun q2 => rfl⟩), fun q1 => trivial⟩⟩, fun q0 => noN_ok 4 (q0) (⟨rfl, rfl⟩)⟩
def QU.s (k : Nat) : QB → Option ByteArray := iter (Yu ) k
theorem QcD (w : Cf) (k : Nat) (a : QB) (r : ByteArray) (h : QU.s k a = some r) : loopsF pp G.kd w 0 (G.an 116) k (loopAt pp 116 1) (Wc a) = some (Wd r) :=
  VZ (fun a => Yv pp w a) (fun _ => rfl) (fun a => QcT w a) (fun a => QcU _ w _ a) (fun r => nofun) h
noncomputable def QU.w : QB → Option ByteArray := loopW (Yu )
theorem QU.cv (a : QB) : Cv (fun k => QU.s k a) (QU.w a) := Cv.iter (fun a => by exact .const _) a
def V5 (L0 : VK) (a0 : ByteArray) (a1 : Int) : Option ByteArray := ((L0 (QB.mk a0 a1)).bind (fun (o1 : ByteArray) => (some o1)))
def Zu (P : Pg) (w : Cf) (L0 : VK) (a0 : ByteArray) (a1 : Int) : Tr ByteArray AH := (.loop (loopAt P 116 1) (Wc (QB.mk a0 a1)) (L0 (QB.mk a0 a1)) Wd (fun (o1 : ByteArray) => (rt Zs o1)))
theorem QeI (w : Cf) (L0 : VK) (a0 : ByteArray) (a1 : Int) : (Zu pp w L0 a0 a1).norm (bodyT pp w G 116 (Zt a0 a1).1 (Zt a0 a1).2) = Zu pp w L0 a0 a1 := by kernel_rfl
theorem QeJ (P : Pg) (w : Cf) (lp : Lo) (L0 : VK) (N0 : QdG P lp L0) (a0 : ByteArray) (a1 : Int) : (Zu P w L0 a0 a1).ok lp Zs := fun o1 ho1 => ⟨N0 _ _ ho1, rfl⟩
theorem QeK {L0 : Nat → VK} {M0 : VK} (N0 : Cv1 L0 M0) (a0 : ByteArray) (a1 : Int) : Cv (fun k => V5 (L0 k) a0 a1) (V5 M0 a0 a1) := by
  unfold V5
  exact .bind (N0 _) (fun o1 => by exact .const _)
def JG.s : Nat → ByteArray → Int → Option ByteArray
  | 0, _, _ => none
  | k + 1, a0, a1 => V5 (QU.s k) a0 a1
theorem JG.ok : ∀ (k : Nat), SC (ev k) (JG.s k)
  | 0, _, _, _, h => (nomatch h)
  | k + 1, a0, a1, r, h => fn_ok rfl (Zu pp (ev k) (QU.s k) a0 a1) (QeI _ _ a0 a1) (QeJ _ _ _ _ (QcD _ k) a0 a1) h
noncomputable def QU : QB → Option ByteArray := QU.w
theorem QU.eq (a : QB) : QU a = (Yu a).bind (Sum.elim QU some) := UO _ _
noncomputable def JG (a0 : ByteArray) (a1 : Int) : Option ByteArray := V5 QU a0 a1
theorem JG.cv (a0 : ByteArray) (a1 : Int) : Cv (fun k => JG.s k a0 a1) (JG a0 a1) := .un rfl (QeK (QU.cv) a0 a1)
theorem JG.eq (a0 : ByteArray) (a1 : Int) : JG a0 a1 = V5 QU a0 a1 := rfl
def ZH (r : ByteArray) : AV × Heap := (xs r, [])
abbrev XW := ByteArray → Option ByteArray
abbrev El (a0 : ByteArray) : List AV × Heap := ([xs a0, xs h_20], [])
abbrev Qck (w : Cf) (a0 : ByteArray) : Option AH := w 245 (El a0).1 (El a0).2
abbrev QcI (w : Cf) (c : XW) : Prop := ∀ (a0 : ByteArray) (r : ByteArray), c a0 = some r → Qck w a0 = some (ZH r)
def Xn (C0 : Wr) (a0 : ByteArray) : Option ByteArray := (bif (eqS a0 s_) then (some a0) else ((C0 a0 (32 : Int)).bind fun r1 => (some r1)))
def Em (P : Pg) (w : Cf) (C0 : Wr) (a0 : ByteArray) : Tr ByteArray AH := (let u46 := (eqS a0 s_); .as u46 (yesN 2 u46 (.yes true (rt ZH a0))) (noN 2 u46 (.no false (yesN 2 true (.yes (in1 i0 (zz h_20)) (yesN 3 true (.yes (in1 i0 (zz h_20)) (.call (P5 w a0 (zi 32)) (C0 a0 (zi 32)) Zs fun r1 => (rt ZH r1)))))))))
theorem QhL (w : Cf) (C0 : Wr) (a0 : ByteArray) : (Em pp w C0 a0).norm (bodyT pp w G 245 (El a0).1 (El a0).2) = Em pp w C0 a0 := by kernel_rfl
theorem QhM (P : Pg) (w : Cf) (lp : Lo) (C0 : Wr) (K0 : SC w C0) (a0 : ByteArray) : (Em P w C0 a0).ok lp ZH := ⟨rfl, fun q0 => Qr 2 (q0) (⟨rfl, rfl⟩), fun q0 => noN_ok 2 (q0) (⟨rfl, Qr 2 (rfl) (⟨(by decide), Qr 3 (rfl) (⟨(by decide), fun r1 hr1 => ⟨K0 _ _ _ hr1, rfl⟩⟩)⟩)⟩)⟩
theorem QhN {C0 : Nat → Wr} {D0 : Wr} (H0 : Cv2 C0 D0) (a0 : ByteArray) : Cv (fun k => Xn (C0 k) a0) (Xn D0 a0) := by
  unfold Xn
  exact .cond cst (.bind (H0 _ _) fun r1 => by exact .const _)
def Ue.s : Nat → ByteArray → Option ByteArray
  | 0, _ => none
  | k + 1, a0 => Xn (JG.s k) a0
theorem Ue.ok : ∀ (k : Nat), QcI (ev k) (Ue.s k)
  | 0, _, _, h => (nomatch h)
  | k + 1, a0, r, h => fn_ok rfl (Em pp (ev k) (JG.s k) a0) (QhL _ _ a0) (QhM _ _ _ _ (JG.ok k) a0) h
noncomputable def Ue (a0 : ByteArray) : Option ByteArray := Xn JG a0
theorem Ue.cv (a0 : ByteArray) : Cv (fun k => Ue.s k a0) (Ue a0) := .un rfl (QhN JG.cv a0)
theorem Ue.eq (a0 : ByteArray) : Ue a0 = Xn JG a0 := rfl
def YD (r : Qa) : AV × Heap := (.tup [], [(0, .box [] (QW r))])
abbrev Ui := Qa → Option Qa
abbrev Gb (h0 : Qa) : List AV × Heap := ([.ptr 0 0], [(0, .box [] (QW h0))])
abbrev Fp (w : Cf) (h0 : Qa) : Option AH := w 216 (Gb h0).1 (Gb h0).2
abbrev FK (w : Cf) (c : Ui) : Prop := ∀ (h0 : Qa) (r : Qa), c h0 = some r → Fp w h0 = some (YD r)
def WG (C0 : XW) (h0 : Qa) : Option Qa := ((C0 h0.left).bind fun r1 => (some (Qa.mk r1 h0.deep h0.bad)))
def Gc (P : Pg) (w : Cf) (C0 : XW) (h0 : Qa) : Tr Qa AH := (.call (Qck w h0.left) (C0 h0.left) ZH fun r1 => (rt YD (Qa.mk r1 h0.deep h0.bad)))
theorem Qf7 (w : Cf) (C0 : XW) (h0 : Qa) : (Gc pp w C0 h0).norm (bodyT pp w G 216 (Gb h0).1 (Gb h0).2) = Gc pp w C0 h0 := by kernel_rfl
theorem Qf8 (P : Pg) (w : Cf) (lp : Lo) (C0 : XW) (K0 : QcI w C0) (h0 : Qa) : (Gc P w C0 h0).ok lp YD := fun r1 hr1 => ⟨K0 _ _ hr1, rfl⟩
theorem Qf9 {C0 : Nat → XW} {D0 : XW} (H0 : Cv1 C0 D0) (h0 : Qa) : Cv (fun k => WG (C0 k) h0) (WG D0 h0) := by
  unfold WG
  exact .bind (H0 _) fun r1 => by exact .const _
def Q0.s : Nat → Qa → Option Qa
  | 0, _ => none
  | k + 1, h0 => WG (Ue.s k) h0
theorem Q0.ok : ∀ (k : Nat), FK (ev k) (Q0.s k)
  | 0, _, _, h => (nomatch h)
  | k + 1, h0, r, h => fn_ok rfl (Gc pp (ev k) (Ue.s k) h0) (Qf7 _ _ h0) (Qf8 _ _ _ _ (Ue.ok k) h0) h
noncomputable def Q0 (h0 : Qa) : Option Qa := WG Ue h0
theorem Q0.cv (h0 : Qa) : Cv (fun k => Q0.s k h0) (Q0 h0) := .un rfl (Qf9 Ue.cv h0)
theorem Q0.eq (h0 : Qa) : Q0 h0 = WG Ue h0 := rfl
def WB (r : Bool) : AV × Heap := (xo r, [])
abbrev JU := ByteArray → ByteArray → Option Bool
abbrev Y1 (a0 : ByteArray) (a1 : ByteArray) : List AV × Heap := ([xs a0, xs a1], [])
abbrev G7 (w : Cf) (a0 : ByteArray) (a1 : ByteArray) : Option AH := w 284 (Y1 a0 a1).1 (Y1 a0 a1).2
abbrev EC (w : Cf) (c : JU) : Prop := ∀ (a0 : ByteArray) (a1 : ByteArray) (r : Bool), c a0 a1 = some r → G7 w a0 a1 = some (WB r)
def Y2 (a0 : ByteArray) (a1 : ByteArray) : Option Bool := (bif (decide (((a0.size : Nat) : Int) ≥ ((a1.size : Nat) : Int))) then (bif (decide (0 ≤ (0 : Int) ∧ (0 : Int) ≤ ((a1.size : Nat) : Int) ∧ ((a1.size : Nat) : Int) ≤ ((a0.size : Nat) : Int))) then (some (eqS (a0.extract (Int.toNat 0) (Int.toNat ((a1.size : Nat) : Int))) a1)) else none) else (some false))
def Y3 (P : Pg) (w : Cf) (a0 : ByteArray) (a1 : ByteArray) : Tr Bool AH := (let u47 := (decide ((zz a0) ≥ (zz a1))); .as u47 (yesN 3 u47 (.as (in2 i0 (zz a1) (zz a0)) (yesN 3 u47 (rt WB (eqS (cu a0 i0 (zz a1)) a1))) .fail)) (noN 6 u47 (rt WB false)))
theorem QdP (w : Cf) (a0 : ByteArray) (a1 : ByteArray) : (Y3 pp w a0 a1).norm (bodyT pp w G 284 (Y1 a0 a1).1 (Y1 a0 a1).2) = Y3 pp w a0 a1 := by kernel_rfl
theorem QdQ (P : Pg) (w : Cf) (lp : Lo) (a0 : ByteArray) (a1 : ByteArray) : (Y3 P w a0 a1).ok lp WB := ⟨rfl, fun q0 => Qr 3 (q0) (⟨rfl, fun q1 => Qr 3 (q0) (rfl), fun q1 => trivial⟩), fun q0 => noN_ok 6 (q0) (rfl)⟩
def QN.s : Nat → ByteArray → ByteArray → Option Bool
  | 0, _, _ => none
  | k + 1, a0, a1 => Y2 a0 a1
theorem QN.ok : ∀ (k : Nat), EC (ev k) (QN.s k)
  | 0, _, _, _, h => (nomatch h)
  | k + 1, a0, a1, r, h => fn_ok rfl (Y3 pp (ev k) a0 a1) (QdP _ a0 a1) (QdQ _ _ _ a0 a1) h
noncomputable def QN (a0 : ByteArray) (a1 : ByteArray) : Option Bool := Y2 a0 a1
theorem QN.cv (a0 : ByteArray) (a1 : ByteArray) : Cv (fun k => QN.s k a0 a1) (QN a0 a1) := .un rfl (by exact .const _)
theorem QN.eq (a0 : ByteArray) (a1 : ByteArray) : QN a0 a1 = Y2 a0 a1 := rfl
def GP (r : Bool) : AV × Heap := (xo r, [])
abbrev Xo := ByteArray → ByteArray → Option Bool
abbrev GQ (a0 : ByteArray) (a1 : ByteArray) : List AV × Heap := ([xs a0, xs a1], [])
abbrev Qa7 (w : Cf) (a0 : ByteArray) (a1 : ByteArray) : Option AH := w 265 (GQ a0 a1).1 (GQ a0 a1).2
abbrev Qcl (w : Cf) (c : Xo) : Prop := ∀ (a0 : ByteArray) (a1 : ByteArray) (r : Bool), c a0 a1 = some r → Qa7 w a0 a1 = some (GP r)
def Wg (C0 : JU) (a0 : ByteArray) (a1 : ByteArray) : Option Bool := ((C0 a0 a1).bind fun r1 => (some r1))
def GR (P : Pg) (w : Cf) (C0 : JU) (a0 : ByteArray) (a1 : ByteArray) : Tr Bool AH := (.call (G7 w a0 a1) (C0 a0 a1) WB fun r1 => (rt GP r1))
theorem QgQ (w : Cf) (C0 : JU) (a0 : ByteArray) (a1 : ByteArray) : (GR pp w C0 a0 a1).norm (bodyT pp w G 265 (GQ a0 a1).1 (GQ a0 a1).2) = GR pp w C0 a0 a1 := by kernel_rfl
theorem QgR (P : Pg) (w : Cf) (lp : Lo) (C0 : JU) (K0 : EC w C0) (a0 : ByteArray) (a1 : ByteArray) : (GR P w C0 a0 a1).ok lp GP := fun r1 hr1 => ⟨K0 _ _ _ hr1, rfl⟩
theorem QgS {C0 : Nat → JU} {D0 : JU} (H0 : Cv2 C0 D0) (a0 : ByteArray) (a1 : ByteArray) : Cv (fun k => Wg (C0 k) a0 a1) (Wg D0 a0 a1) := by
  unfold Wg
  exact .bind (H0 _ _) fun r1 => by exact .const _
def JY.s : Nat → ByteArray → ByteArray → Option Bool
  | 0, _, _ => none
  | k + 1, a0, a1 => Wg (QN.s k) a0 a1
theorem JY.ok : ∀ (k : Nat), Qcl (ev k) (JY.s k)
  | 0, _, _, _, h => (nomatch h)
  | k + 1, a0, a1, r, h => fn_ok rfl (GR pp (ev k) (QN.s k) a0 a1) (QgQ _ _ a0 a1) (QgR _ _ _ _ (QN.ok k) a0 a1) h
noncomputable def JY (a0 : ByteArray) (a1 : ByteArray) : Option Bool := Wg QN a0 a1
theorem JY.cv (a0 : ByteArray) (a1 : ByteArray) : Cv (fun k => JY.s k a0 a1) (JY a0 a1) := .un rfl (QgS QN.cv a0 a1)
theorem JY.eq (a0 : ByteArray) (a1 : ByteArray) : JY a0 a1 = Wg QN a0 a1 := rfl
def VA (r : (Bool × Qa)) : AV × Heap := (xo r.1, [(0, .box [] (QW r.2))])
abbrev QX := ByteArray → Qa → Option (Bool × Qa)
abbrev En (a1 : ByteArray) (h0 : Qa) : List AV × Heap := ([.ptr 0 0, xs a1], [(0, .box [] (QW h0))])
abbrev Ym (w : Cf) (a1 : ByteArray) (h0 : Qa) : Option AH := w 261 (En a1 h0).1 (En a1 h0).2
abbrev Z5 (w : Cf) (c : QX) : Prop := ∀ (a1 : ByteArray) (h0 : Qa) (r : (Bool × Qa)), c a1 h0 = some r → Ym w a1 h0 = some (VA r)
def Xp (C0 : Ui) (C1 : Xo) (a1 : ByteArray) (h0 : Qa) : Option (Bool × Qa) := ((C0 h0).bind fun r1 => (bif r1.bad then (some (false, r1)) else ((C1 r1.left a1).bind fun r2 => (bif (!r2) then (some (false, r1)) else (bif (decide (0 ≤ ((a1.size : Nat) : Int) ∧ ((a1.size : Nat) : Int) ≤ ((r1.left.size : Nat) : Int) ∧ ((r1.left.size : Nat) : Int) ≤ ((r1.left.size : Nat) : Int))) then (some (true, (Qa.mk (r1.left.extract (Int.toNat ((a1.size : Nat) : Int)) (Int.toNat ((r1.left.size : Nat) : Int))) r1.deep r1.bad))) else none)))))
def Eo (P : Pg) (w : Cf) (C0 : Ui) (C1 : Xo) (a1 : ByteArray) (h0 : Qa) : Tr (Bool × Qa) AH := (.call (Fp w h0) (C0 h0) YD fun r1 => (.as r1.bad (yesN 7 r1.bad (.yes true (rt VA (false, r1)))) (noN 5 r1.bad (.call (Qa7 w r1.left a1) (C1 r1.left a1) GP fun r2 => (noN 2 r1.bad (.as (!r2) (rt VA (false, r1)) (.as (in2 (zz a1) (zz r1.left) (zz r1.left)) (rt VA (true, (Qa.mk (cu r1.left (zz a1) (zz r1.left)) r1.deep r1.bad))) .fail)))))))
theorem QhO (w : Cf) (C0 : Ui) (C1 : Xo) (a1 : ByteArray) (h0 : Qa) : (Eo pp w C0 C1 a1 h0).norm (bodyT pp w G 261 (En a1 h0).1 (En a1 h0).2) = Eo pp w C0 C1 a1 h0 := by kernel_rfl
theorem QhP (P : Pg) (w : Cf) (lp : Lo) (C0 : Ui) (C1 : Xo) (K0 : FK w C0) (K1 : Qcl w C1) (a1 : ByteArray) (h0 : Qa) : (Eo P w C0 C1 a1 h0).ok lp VA := fun r1 hr1 => ⟨K0 _ _ hr1, ⟨rfl, fun q0 => Qr 7 (q0) (⟨rfl, rfl⟩), fun q0 => noN_ok 5 (q0) (fun r2 hr2 => ⟨K1 _ _ _ hr2, noN_ok 2 (q0) (⟨rfl, fun q1 => rfl, fun q1 => ⟨rfl, fun q2 => rfl, fun q2 => trivial⟩⟩)⟩)⟩⟩
theorem QhQ {C0 : Nat → Ui} {D0 : Ui} (H0 : Cv1 C0 D0) {C1 : Nat → Xo} {D1 : Xo} (H1 : Cv2 C1 D1) (a1 : ByteArray) (h0 : Qa) : Cv (fun k => Xp (C0 k) (C1 k) a1 h0) (Xp D0 D1 a1 h0) := by
  unfold Xp
  exact .bind (H0 _) fun r1 => .cond cst (.bind (H1 _ _) fun r2 => by exact .const _)
def QD.s : Nat → ByteArray → Qa → Option (Bool × Qa)
  | 0, _, _ => none
  | k + 1, a1, h0 => Xp (Q0.s k) (JY.s k) a1 h0
theorem QD.ok : ∀ (k : Nat), Z5 (ev k) (QD.s k)
  | 0, _, _, _, h => (nomatch h)
  | k + 1, a1, h0, r, h => fn_ok rfl (Eo pp (ev k) (Q0.s k) (JY.s k) a1 h0) (QhO _ _ _ a1 h0) (QhP _ _ _ _ _ (Q0.ok k) (JY.ok k) a1 h0) h
noncomputable def QD (a1 : ByteArray) (h0 : Qa) : Option (Bool × Qa) := Xp Q0 JY a1 h0
theorem QD.cv (a1 : ByteArray) (h0 : Qa) : Cv (fun k => QD.s k a1 h0) (QD a1 h0) := .un rfl (QhQ Q0.cv JY.cv a1 h0)
theorem QD.eq (a1 : ByteArray) (h0 : Qa) : QD a1 h0 = Xp Q0 JY a1 h0 := rfl
def Ve (r : (Qd × Qa)) : AV × Heap := (.agg (UB r.1), [(0, .box [] (QW r.2))])
abbrev Qm := Qa → Option (Qd × Qa)
abbrev Ep (h0 : Qa) : List AV × Heap := ([.ptr 0 0], [(0, .box [] (QW h0))])
abbrev V4 (w : Cf) (h0 : Qa) : Option AH := w 273 (Ep h0).1 (Ep h0).2
abbrev WZ (w : Cf) (c : Qm) : Prop := ∀ (h0 : Qa) (r : (Qd × Qa)), c h0 = some r → V4 w h0 = some (Ve r)
def F6 (h0 : Qa) : Option (Qd × Qa) := (some ((Qd.mk (0 : Int) (0 : Int) s_ ([] : List Qd)), (Qa.mk h0.left h0.deep true)))
def Eq (P : Pg) (w : Cf) (h0 : Qa) : Tr (Qd × Qa) AH := (rt Ve ((Qd.mk i0 i0 s_ ([] : List Qd)), (Qa.mk h0.left h0.deep true)))
theorem QhR (w : Cf) (h0 : Qa) : (Eq pp w h0).norm (bodyT pp w G 273 (Ep h0).1 (Ep h0).2) = Eq pp w h0 := by kernel_rfl
theorem QhS (P : Pg) (w : Cf) (lp : Lo) (h0 : Qa) : (Eq P w h0).ok lp Ve := rfl
def Qk.s : Nat → Qa → Option (Qd × Qa)
  | 0, _ => none
  | k + 1, h0 => F6 h0
theorem Qk.ok : ∀ (k : Nat), WZ (ev k) (Qk.s k)
  | 0, _, _, h => (nomatch h)
  | k + 1, h0, r, h => fn_ok rfl (Eq pp (ev k) h0) (QhR _ h0) (QhS _ _ _ h0) h
noncomputable def Qk (h0 : Qa) : Option (Qd × Qa) := F6 h0
theorem Qk.cv (h0 : Qa) : Cv (fun k => Qk.s k h0) (Qk h0) := .un rfl (by exact .const _)
theorem Qk.eq (h0 : Qa) : Qk h0 = F6 h0 := rfl
def ZN (r : Bool) : AV × Heap := (xo r, [])
abbrev WH := ByteArray → Option Bool
abbrev ZO (a0 : ByteArray) : List AV × Heap := ([xs a0, xs s_0x], [])
abbrev SD (w : Cf) (a0 : ByteArray) : Option AH := w 265 (ZO a0).1 (ZO a0).2
abbrev Qav (w : Cf) (c : WH) : Prop := ∀ (a0 : ByteArray) (r : Bool), c a0 = some r → SD w a0 = some (ZN r)
def Ws (C0 : JU) (a0 : ByteArray) : Option Bool := ((C0 a0 s_0x).bind fun r1 => (some r1))
def ZP (P : Pg) (w : Cf) (C0 : JU) (a0 : ByteArray) : Tr Bool AH := (.call (G7 w a0 s_0x) (C0 a0 s_0x) WB fun r1 => (rt ZN r1))
theorem Qft (w : Cf) (C0 : JU) (a0 : ByteArray) : (ZP pp w C0 a0).norm (bodyT pp w G 265 (ZO a0).1 (ZO a0).2) = ZP pp w C0 a0 := by kernel_rfl
theorem Qfu (P : Pg) (w : Cf) (lp : Lo) (C0 : JU) (K0 : EC w C0) (a0 : ByteArray) : (ZP P w C0 a0).ok lp ZN := fun r1 hr1 => ⟨K0 _ _ _ hr1, rfl⟩
theorem Qfv {C0 : Nat → JU} {D0 : JU} (H0 : Cv2 C0 D0) (a0 : ByteArray) : Cv (fun k => Ws (C0 k) a0) (Ws D0 a0) := by
  unfold Ws
  exact .bind (H0 _ _) fun r1 => by exact .const _
def Jz.s : Nat → ByteArray → Option Bool
  | 0, _ => none
  | k + 1, a0 => Ws (QN.s k) a0
theorem Jz.ok : ∀ (k : Nat), Qav (ev k) (Jz.s k)
  | 0, _, _, h => (nomatch h)
  | k + 1, a0, r, h => fn_ok rfl (ZP pp (ev k) (QN.s k) a0) (Qft _ _ a0) (Qfu _ _ _ _ (QN.ok k) a0) h
noncomputable def Jz (a0 : ByteArray) : Option Bool := Ws QN a0
theorem Jz.cv (a0 : ByteArray) : Cv (fun k => Jz.s k a0) (Jz a0) := .un rfl (Qfv QN.cv a0)
theorem Jz.eq (a0 : ByteArray) : Jz a0 = Ws QN a0 := rfl
def ZI (r : Bool) : AV × Heap := (xo r, [])
abbrev Jr := Int → Option Bool
abbrev Qaw (a0 : Int) : List AV × Heap := ([.sc (.int .i32 a0)], [])
abbrev F7 (w : Cf) (a0 : Int) : Option AH := w 270 (Qaw a0).1 (Qaw a0).2
abbrev FG (w : Cf) (c : Jr) : Prop := ∀ (a0 : Int) (r : Bool), c a0 = some r → F7 w a0 = some (ZI r)
def Qax (a0 : Int) : Option Bool := (bif (decide (a0 ≥ 48)) then (some (decide (a0 ≤ (57 : Int)))) else (some false))
def Qay (P : Pg) (w : Cf) (a0 : Int) : Tr Bool AH := (let u48 := (decide (a0 ≥ 48)); .as u48 (yesN 2 u48 (rt ZI (decide (a0 ≤ (zi 57))))) (noN 2 u48 (rt ZI false)))
theorem Qnw (w : Cf) (a0 : Int) : (Qay pp w a0).norm (bodyT pp w G 270 (Qaw a0).1 (Qaw a0).2) = Qay pp w a0 := by kernel_rfl
theorem Qnx (P : Pg) (w : Cf) (lp : Lo) (a0 : Int) : (Qay P w a0).ok lp ZI := ⟨rfl, fun q0 => Qr 2 (q0) (rfl), fun q0 => noN_ok 2 (q0) (rfl)⟩
def Je.s : Nat → Int → Option Bool
  | 0, _ => none
  | k + 1, a0 => Qax a0
theorem Je.ok : ∀ (k : Nat), FG (ev k) (Je.s k)
  | 0, _, _, h => (nomatch h)
  | k + 1, a0, r, h => fn_ok rfl (Qay pp (ev k) a0) (Qnw _ a0) (Qnx _ _ _ a0) h
noncomputable def Je (a0 : Int) : Option Bool := Qax a0
theorem Je.cv (a0 : Int) : Cv (fun k => Je.s k a0) (Je a0) := .un rfl (by exact .const _)
theorem Je.eq (a0 : Int) : Je a0 = Qax a0 := rfl
def PB (r : Bool) : AV × Heap := (xo r, [])
abbrev YX := Int → Option Bool
abbrev QcV (a0 : Int) : List AV × Heap := ([.sc (.int .i32 a0)], [])
abbrev Qky (w : Cf) (a0 : Int) : Option AH := w 267 (QcV a0).1 (QcV a0).2
abbrev QhT (w : Cf) (c : YX) : Prop := ∀ (a0 : Int) (r : Bool), c a0 = some r → Qky w a0 = some (PB r)
def Fq (C0 : Jr) (a0 : Int) : Option Bool := ((C0 a0).bind fun r1 => (bif r1 then (some true) else (bif (decide (a0 ≥ 97)) then (some (decide (a0 ≤ (102 : Int)))) else (some false))))
def QcW (P : Pg) (w : Cf) (C0 : Jr) (a0 : Int) : Tr Bool AH := (.call (F7 w a0) (C0 a0) ZI fun r1 => (.as r1 (yesN 4 r1 (rt PB true)) (noN 2 r1 (let u49 := (decide (a0 ≥ 97)); .as u49 (.yes u49 (.no r1 (.yes u49 (.no r1 (rt PB (decide (a0 ≤ (zi 102)))))))) (.no u49 (.no r1 (.no u49 (.no r1 (rt PB false)))))))))
theorem Qqk (w : Cf) (C0 : Jr) (a0 : Int) : (QcW pp w C0 a0).norm (bodyT pp w G 267 (QcV a0).1 (QcV a0).2) = QcW pp w C0 a0 := by kernel_rfl
theorem Qql (P : Pg) (w : Cf) (lp : Lo) (C0 : Jr) (K0 : FG w C0) (a0 : Int) : (QcW P w C0 a0).ok lp PB := fun r1 hr1 => ⟨K0 _ _ hr1, ⟨rfl, fun q0 => Qr 4 (q0) (rfl), fun q0 => noN_ok 2 (q0) (⟨rfl, fun q1 => ⟨q1, ⟨q0, ⟨q1, ⟨q0, rfl⟩⟩⟩⟩, fun q1 => ⟨q1, ⟨q0, ⟨q1, ⟨q0, rfl⟩⟩⟩⟩⟩)⟩⟩
theorem Qqm {C0 : Nat → Jr} {D0 : Jr} (H0 : Cv1 C0 D0) (a0 : Int) : Cv (fun k => Fq (C0 k) a0) (Fq D0 a0) := by
  unfold Fq
  exact .bind (H0 _) fun r1 => by exact .const _
def W4.s : Nat → Int → Option Bool
  | 0, _ => none
  | k + 1, a0 => Fq (Je.s k) a0
theorem W4.ok : ∀ (k : Nat), QhT (ev k) (W4.s k)
  | 0, _, _, h => (nomatch h)
  | k + 1, a0, r, h => fn_ok rfl (QcW pp (ev k) (Je.s k) a0) (Qqk _ _ a0) (Qql _ _ _ _ (Je.ok k) a0) h
noncomputable def W4 (a0 : Int) : Option Bool := Fq Je a0
theorem W4.cv (a0 : Int) : Cv (fun k => W4.s k a0) (W4 a0) := .un rfl (Qqm Je.cv a0)
theorem W4.eq (a0 : Int) : W4 a0 = Fq Je a0 := rfl
def SE (r : ByteArray) : AV × Heap := (xs r, [])
abbrev Su := ByteArray → Option ByteArray
abbrev Qd6 (a0 : ByteArray) : List AV × Heap := ([xs a0, .fn (.func 267) [] []], [])
abbrev QhU (w : Cf) (a0 : ByteArray) : Option AH := w 266 (Qd6 a0).1 (Qd6 a0).2
abbrev Qny (w : Cf) (c : Su) : Prop := ∀ (a0 : ByteArray) (r : ByteArray), c a0 = some r → QhU w a0 = some (SE r)
structure Uk where
  x0 : ByteArray
  i0s : ByteArray
  i0p : Nat
def E5 (a : Uk) : St := { n := 21, nx := 1, env := [(0, xs a.x0), (1, .fn (.func 267) [] []), (8, .it 0)], heap := [(0, .iter a.i0s a.i0p)] }
def QgD (a : ByteArray) : Ex × St := (.ret, { n := 21, nx := 0, env := [(4, xs a)], heap := [] })
def QgE (a : ByteArray) : Ex × St := (.exit 0, { n := 21, nx := 0, env := [(0, xs a)], heap := [] })
def F8 (a : (ByteArray ⊕ ByteArray)) : Ex × St := Sum.elim QgD QgE a
abbrev ED := Uk → Option (ByteArray ⊕ ByteArray)
abbrev QoS (P : Pg) (lp : Lo) (l : ED) : Prop := ∀ (a : Uk) (r : (ByteArray ⊕ ByteArray)), l a = some r → lp (loopAt P 266 2) (E5 a) = some (F8 r)
def GH (C0 : YX) (a : Uk) : Option (Uk ⊕ (ByteArray ⊕ ByteArray)) := (bif (decide (a.i0p < a.i0s.size)) then ((C0 (((Utf8.decode a.i0s a.i0p).1 : Nat) : Int)).bind fun r1 => (bif (!r1) then (bif (decide (0 ≤ (0 : Int) ∧ (0 : Int) ≤ ((a.i0p : Nat) : Int) ∧ ((a.i0p : Nat) : Int) ≤ ((a.x0.size : Nat) : Int))) then (some (.inr (.inl (a.x0.extract (Int.toNat 0) (Int.toNat ((a.i0p : Nat) : Int)))))) else none) else (some (.inl (Uk.mk a.x0 a.i0s (a.i0p + (Utf8.decode a.i0s a.i0p).2)))))) else (some (.inr (.inr a.x0))))
def Qaz (P : Pg) (w : Cf) (C0 : YX) (a : Uk) : Tr (Uk ⊕ (ByteArray ⊕ ByteArray)) XS := (.as (decide (a.i0p < a.i0s.size)) (.yes true (.call (Qky w (((Utf8.decode a.i0s a.i0p).1 : Nat) : Int)) (C0 (((Utf8.decode a.i0s a.i0p).1 : Nat) : Int)) PB fun r1 => (.as (!r1) (.as (in2 i0 ((a.i0p : Nat) : Int) (zz a.x0)) (rx F8 (.inl (cu a.x0 i0 ((a.i0p : Nat) : Int)))) .fail) (lf E5 (Uk.mk a.x0 a.i0s (a.i0p + (Utf8.decode a.i0s a.i0p).2)))))) (.no false (rx F8 (.inr a.x0))))
theorem Qnz (w : Cf) (C0 : YX) (a : Uk) : (Qaz pp w C0 a).norm (roundT pp G.kd w 0 (G.an 266) (loopAt pp 266 2) (E5 a)) = Qaz pp w C0 a := by kernel_rfl
theorem QnA (P : Pg) (w : Cf) (lp : Lo) (C0 : YX) (K0 : QhT w C0) (a : Uk) : (Qaz P w C0 a).ok lp (Sum.elim (fun a => (.norm, E5 a)) F8) := ⟨rfl, fun q0 => ⟨rfl, fun r1 hr1 => ⟨K0 _ _ hr1, ⟨rfl, fun q1 => ⟨rfl, fun q2 => rfl, fun q2 => trivial⟩, fun q1 => rfl⟩⟩⟩, fun q0 => ⟨rfl, rfl⟩⟩
theorem QnB {C0 : Nat → YX} {D0 : YX} (H0 : Cv1 C0 D0) (a : Uk) : Cv (fun k => GH (C0 k) a) (GH D0 a) := by
  unfold GH
  exact .cond (.bind (H0 _) fun r1 => by exact .const _) cst
def Wj.s (k : Nat) (C0 : YX) : Uk → Option (ByteArray ⊕ ByteArray) := iter (GH C0) k
theorem Qmz (w : Cf) (k : Nat) (C0 : YX) (K0 : QhT w C0) (a : Uk) (r : (ByteArray ⊕ ByteArray)) (h : Wj.s k C0 a = some r) : loopsF pp G.kd w 0 (G.an 266) k (loopAt pp 266 2) (E5 a) = some (F8 r) :=
  VZ (fun a => Qaz pp w C0 a) (fun _ => rfl) (fun a => Qnz w _ a) (fun a => QnA _ w _ _ K0 a) (fun r => by cases r <;> nofun) h
noncomputable def Wj.w (C0 : YX) : Uk → Option (ByteArray ⊕ ByteArray) := loopW (GH C0)
theorem Wj.cv (C0 : Nat → YX) (D0 : YX) (H0 : Cv1 C0 D0) (a : Uk) : Cv (fun k => Wj.s k (C0 k) a) (Wj.w D0 a) := Cv.iter (fun a => QnB H0 a) a
def F9 (L0 : ED) (a0 : ByteArray) : Option ByteArray := ((L0 (Uk.mk a0 a0 0)).bind fun x => Sum.elim (fun (o1 : ByteArray) => (some o1)) (fun (o2 : ByteArray) => (some o2)) x)
def Qd7 (P : Pg) (w : Cf) (L0 : ED) (a0 : ByteArray) : Tr ByteArray AH := (.loop2 (loopAt P 266 2) (E5 (Uk.mk a0 a0 0)) (L0 (Uk.mk a0 a0 0)) QgD QgE (fun (o1 : ByteArray) => (rt SE o1)) (fun (o2 : ByteArray) => (rt SE o2)))
theorem Qra (w : Cf) (L0 : ED) (a0 : ByteArray) : (Qd7 pp w L0 a0).norm (bodyT pp w G 266 (Qd6 a0).1 (Qd6 a0).2) = Qd7 pp w L0 a0 := by kernel_rfl
theorem Qrb (P : Pg) (w : Cf) (lp : Lo) (L0 : ED) (N0 : QoS P lp L0) (a0 : ByteArray) : (Qd7 P w L0 a0).ok lp SE := ⟨fun o1 ho1 => ⟨N0 _ (.inl _) ho1, rfl⟩, fun o2 ho2 => ⟨N0 _ (.inr _) ho2, rfl⟩⟩
theorem Qrc {L0 : Nat → ED} {M0 : ED} (N0 : Cv1 L0 M0) (a0 : ByteArray) : Cv (fun k => F9 (L0 k) a0) (F9 M0 a0) := by
  unfold F9
  exact .bind (N0 _) fun x => .sum (fun o1 => by exact .const _) (fun o2 => by exact .const _) x
def YQ.s : Nat → ByteArray → Option ByteArray
  | 0, _ => none
  | k + 1, a0 => F9 (Wj.s k (W4.s k)) a0
theorem YQ.ok : ∀ (k : Nat), Qny (ev k) (YQ.s k)
  | 0, _, _, h => (nomatch h)
  | k + 1, a0, r, h => fn_ok rfl (Qd7 pp (ev k) (Wj.s k (W4.s k)) a0) (Qra _ _ a0) (Qrb _ _ _ _ (Qmz _ k _ (W4.ok k)) a0) h
noncomputable def Wj : Uk → Option (ByteArray ⊕ ByteArray) := Wj.w W4
theorem Wj.eq (a : Uk) : Wj a = (GH W4 a).bind (Sum.elim Wj some) := UO _ _
noncomputable def YQ (a0 : ByteArray) : Option ByteArray := F9 Wj a0
theorem YQ.cv (a0 : ByteArray) : Cv (fun k => YQ.s k a0) (YQ a0) := .un rfl (Qrc (Wj.cv (fun k => W4.s k) W4 W4.cv) a0)
theorem YQ.eq (a0 : ByteArray) : YQ a0 = F9 Wj a0 := rfl
def WI (r : (Qd × Qa)) : AV × Heap := (.agg (UB r.1), [(0, .box [] (QW r.2))])
abbrev W5 := ByteArray → Int → Qa → Option (Qd × Qa)
abbrev Gd (a1 : ByteArray) (a2 : Int) (h0 : Qa) : List AV × Heap := ([.ptr 0 0, xs a1, xi a2], [(0, .box [] (QW h0))])
abbrev Ge (w : Cf) (a1 : ByteArray) (a2 : Int) (h0 : Qa) : Option AH := w 269 (Gd a1 a2 h0).1 (Gd a1 a2 h0).2
abbrev Qa8 (w : Cf) (c : W5) : Prop := ∀ (a1 : ByteArray) (a2 : Int) (h0 : Qa) (r : (Qd × Qa)), c a1 a2 h0 = some r → Ge w a1 a2 h0 = some (WI r)
structure Qx where
  x1 : ByteArray
  x2 : Int
  x7 : Int
  h0 : Qa
  h1 : Qd
  i2s : ByteArray
  i2p : Nat
structure Q2 where
  h0 : Qa
  h1 : Qd
structure Jj where
  x1 : ByteArray
  x7 : Int
  h0 : Qa
  h1 : Qd
def VW (a : Qx) : St := { n := 46, nx := 3, env := [(0, .ptr 0 0), (1, xs a.x1), (2, xi a.x2), (6, .ptr 1 0), (7, xi a.x7), (12, .it 2)], heap := [(0, .box [] (QW a.h0)), (1, .box [] (UB a.h1)), (2, .iter a.i2s a.i2p)] }
def Pa (a : Q2) : Ex × St := (.ret, { n := 46, nx := 2, env := [(6, .ptr 1 0)], heap := [(0, .box [] (QW a.h0)), (1, .box [] (UB a.h1))] })
def Pb (a : Jj) : Ex × St := (.exit 0, { n := 46, nx := 2, env := [(0, .ptr 0 0), (1, xs a.x1), (6, .ptr 1 0), (7, xi a.x7)], heap := [(0, .box [] (QW a.h0)), (1, .box [] (UB a.h1))] })
def WC (a : (Q2 ⊕ Jj)) : Ex × St := Sum.elim Pa Pb a
abbrev V6 := Qx → Option (Q2 ⊕ Jj)
abbrev QeL (P : Pg) (lp : Lo) (l : V6) : Prop := ∀ (a : Qx) (r : (Q2 ⊕ Jj)), l a = some r → lp (loopAt P 269 3) (VW a) = some (WC r)
def VX (C0 : Qm) (a : Qx) : Option (Qx ⊕ (Q2 ⊕ Jj)) := (bif (decide (a.i2p < a.i2s.size)) then (bif (decide ((((Utf8.decode a.i2s a.i2p).1 : Nat) : Int) ≥ 97)) then (bif (decide ((w64 ((w64 (a.x7 * a.x2)) + (w64 ((w64 (IntKind.i32.wrap ((((Utf8.decode a.i2s a.i2p).1 : Nat) : Int) - 97))) + 10)))) ≥ 4294967296)) then ((C0 a.h0).bind fun r1 => (some (.inr (.inl (Q2.mk r1.2 r1.1))))) else (some (.inl (Qx.mk a.x1 a.x2 (w64 ((w64 (a.x7 * a.x2)) + (w64 ((w64 (IntKind.i32.wrap ((((Utf8.decode a.i2s a.i2p).1 : Nat) : Int) - 97))) + 10)))) a.h0 a.h1 a.i2s (a.i2p + (Utf8.decode a.i2s a.i2p).2))))) else (bif (decide ((w64 ((w64 (a.x7 * a.x2)) + (w64 (IntKind.i32.wrap ((((Utf8.decode a.i2s a.i2p).1 : Nat) : Int) - 48))))) ≥ 4294967296)) then ((C0 a.h0).bind fun r2 => (some (.inr (.inl (Q2.mk r2.2 r2.1))))) else (some (.inl (Qx.mk a.x1 a.x2 (w64 ((w64 (a.x7 * a.x2)) + (w64 (IntKind.i32.wrap ((((Utf8.decode a.i2s a.i2p).1 : Nat) : Int) - 48))))) a.h0 a.h1 a.i2s (a.i2p + (Utf8.decode a.i2s a.i2p).2)))))) else (some (.inr (.inr (Jj.mk a.x1 a.x7 a.h0 a.h1)))))
def Y4 (P : Pg) (w : Cf) (C0 : Qm) (a : Qx) : Tr (Qx ⊕ (Q2 ⊕ Jj)) XS := (.as (decide (a.i2p < a.i2s.size)) (.yes true (.as (decide ((((Utf8.decode a.i2s a.i2p).1 : Nat) : Int) ≥ 97)) (.as (decide ((w64 ((w64 (a.x7 * a.x2)) + (w64 ((w64 (IntKind.i32.wrap ((((Utf8.decode a.i2s a.i2p).1 : Nat) : Int) - 97))) + 10)))) ≥ 4294967296)) (.call (V4 w a.h0) (C0 a.h0) Ve fun r1 => (rx WC (.inl (Q2.mk r1.2 r1.1)))) (lf VW (Qx.mk a.x1 a.x2 (w64 ((w64 (a.x7 * a.x2)) + (w64 ((w64 (IntKind.i32.wrap ((((Utf8.decode a.i2s a.i2p).1 : Nat) : Int) - 97))) + 10)))) a.h0 a.h1 a.i2s (a.i2p + (Utf8.decode a.i2s a.i2p).2)))) (.as (decide ((w64 ((w64 (a.x7 * a.x2)) + (w64 (IntKind.i32.wrap ((((Utf8.decode a.i2s a.i2p).1 : Nat) : Int) - 48))))) ≥ 4294967296)) (.call (V4 w a.h0) (C0 a.h0) Ve fun r2 => (rx WC (.inl (Q2.mk r2.2 r2.1)))) (lf VW (Qx.mk a.x1 a.x2 (w64 ((w64 (a.x7 * a.x2)) + (w64 (IntKind.i32.wrap ((((Utf8.decode a.i2s a.i2p).1 : Nat) : Int) - 48))))) a.h0 a.h1 a.i2s (a.i2p + (Utf8.decode a.i2s a.i2p).2)))))) (.no false (rx WC (.inr (Jj.mk a.x1 a.x7 a.h0 a.h1)))))
theorem QdR (w : Cf) (C0 : Qm) (a : Qx) : (Y4 pp w C0 a).norm (roundT pp G.kd w 1 (G.an 269) (loopAt pp 269 3) (VW a)) = Y4 pp w C0 a := by kernel_rfl
theorem QdS (P : Pg) (w : Cf) (lp : Lo) (C0 : Qm) (K0 : WZ w C0) (a : Qx) : (Y4 P w C0 a).ok lp (Sum.elim (fun a => (.norm, VW a)) WC) := ⟨rfl, fun q0 => ⟨rfl, ⟨rfl, fun q1 => ⟨rfl, fun q2 => fun r1 hr1 => ⟨K0 _ _ hr1, rfl⟩, fun q2 => rfl⟩, fun q1 => ⟨rfl, fun q2 => fun r2 hr2 => ⟨K0 _ _ hr2, rfl⟩, fun q2 => rfl⟩⟩⟩, fun q0 => ⟨rfl, rfl⟩⟩
theorem QdT {C0 : Nat → Qm} {D0 : Qm} (H0 : Cv1 C0 D0) (a : Qx) : Cv (fun k => VX (C0 k) a) (VX D0 a) := by
  unfold VX
  exact .cond (.cond (.cond (.bind (H0 _) fun r1 => by exact .const _) cst) (.cond (.bind (H0 _) fun r2 => by exact .const _) cst)) cst
def Jk.s (k : Nat) (C0 : Qm) : Qx → Option (Q2 ⊕ Jj) := iter (VX C0) k
theorem QdH (w : Cf) (k : Nat) (C0 : Qm) (K0 : WZ w C0) (a : Qx) (r : (Q2 ⊕ Jj)) (h : Jk.s k C0 a = some r) : loopsF pp G.kd w 1 (G.an 269) k (loopAt pp 269 3) (VW a) = some (WC r) :=
  VZ (fun a => Y4 pp w C0 a) (fun _ => rfl) (fun a => QdR w _ a) (fun a => QdS _ w _ _ K0 a) (fun r => by cases r <;> nofun) h
noncomputable def Jk.w (C0 : Qm) : Qx → Option (Q2 ⊕ Jj) := loopW (VX C0)
theorem Jk.cv (C0 : Nat → Qm) (D0 : Qm) (H0 : Cv1 C0 D0) (a : Qx) : Cv (fun k => Jk.s k (C0 k) a) (Jk.w D0 a) := Cv.iter (fun a => QdT H0 a) a
def WJ (L0 : V6) (a1 : ByteArray) (a2 : Int) (h0 : Qa) : Option (Qd × Qa) := ((L0 (Qx.mk a1 a2 (0 : Int) h0 (Qd.mk (0 : Int) (0 : Int) s_ ([] : List Qd)) a1 0)).bind fun x => Sum.elim (fun (o1 : Q2) => (some (o1.h1, o1.h0))) (fun (o2 : Jj) => (bif (decide (0 ≤ ((o2.x1.size : Nat) : Int) ∧ ((o2.x1.size : Nat) : Int) ≤ ((o2.h0.left.size : Nat) : Int) ∧ ((o2.h0.left.size : Nat) : Int) ≤ ((o2.h0.left.size : Nat) : Int))) then (some ((Qd.mk (1 : Int) o2.x7 s_ ([] : List Qd)), (Qa.mk (o2.h0.left.extract (Int.toNat ((o2.x1.size : Nat) : Int)) (Int.toNat ((o2.h0.left.size : Nat) : Int))) o2.h0.deep o2.h0.bad))) else none)) x)
def Gf (P : Pg) (w : Cf) (L0 : V6) (a1 : ByteArray) (a2 : Int) (h0 : Qa) : Tr (Qd × Qa) AH := (.loop2 (loopAt P 269 3) (VW (Qx.mk a1 a2 i0 h0 (Qd.mk i0 i0 s_ ([] : List Qd)) a1 0)) (L0 (Qx.mk a1 a2 i0 h0 (Qd.mk i0 i0 s_ ([] : List Qd)) a1 0)) Pa Pb (fun (o1 : Q2) => (rt WI (o1.h1, o1.h0))) (fun (o2 : Jj) => (.as (in2 (zz o2.x1) (zz o2.h0.left) (zz o2.h0.left)) (rt WI ((Qd.mk (zi 1) o2.x7 s_ ([] : List Qd)), (Qa.mk (cu o2.h0.left (zz o2.x1) (zz o2.h0.left)) o2.h0.deep o2.h0.bad))) .fail)))
theorem Qga (w : Cf) (L0 : V6) (a1 : ByteArray) (a2 : Int) (h0 : Qa) : (Gf pp w L0 a1 a2 h0).norm (bodyT pp w G 269 (Gd a1 a2 h0).1 (Gd a1 a2 h0).2) = Gf pp w L0 a1 a2 h0 := by kernel_rfl
theorem Qgb (P : Pg) (w : Cf) (lp : Lo) (L0 : V6) (N0 : QeL P lp L0) (a1 : ByteArray) (a2 : Int) (h0 : Qa) : (Gf P w L0 a1 a2 h0).ok lp WI := ⟨fun o1 ho1 => ⟨N0 _ (.inl _) ho1, rfl⟩, fun o2 ho2 => ⟨N0 _ (.inr _) ho2, ⟨rfl, fun q0 => rfl, fun q0 => trivial⟩⟩⟩
theorem Qgc {L0 : Nat → V6} {M0 : V6} (N0 : Cv1 L0 M0) (a1 : ByteArray) (a2 : Int) (h0 : Qa) : Cv (fun k => WJ (L0 k) a1 a2 h0) (WJ M0 a1 a2 h0) := by
  unfold WJ
  exact .bind (N0 _) fun x => .sum (fun o1 => by exact .const _) (fun o2 => by exact .const _) x
def Jq.s : Nat → ByteArray → Int → Qa → Option (Qd × Qa)
  | 0, _, _, _ => none
  | k + 1, a1, a2, h0 => WJ (Jk.s k (Qk.s k)) a1 a2 h0
theorem Jq.ok : ∀ (k : Nat), Qa8 (ev k) (Jq.s k)
  | 0, _, _, _, _, h => (nomatch h)
  | k + 1, a1, a2, h0, r, h => fn_ok rfl (Gf pp (ev k) (Jk.s k (Qk.s k)) a1 a2 h0) (Qga _ _ a1 a2 h0) (Qgb _ _ _ _ (QdH _ k _ (Qk.ok k)) a1 a2 h0) h
noncomputable def Jk : Qx → Option (Q2 ⊕ Jj) := Jk.w Qk
theorem Jk.eq (a : Qx) : Jk a = (VX Qk a).bind (Sum.elim Jk some) := UO _ _
noncomputable def Jq (a1 : ByteArray) (a2 : Int) (h0 : Qa) : Option (Qd × Qa) := WJ Jk a1 a2 h0
theorem Jq.cv (a1 : ByteArray) (a2 : Int) (h0 : Qa) : Cv (fun k => Jq.s k a1 a2 h0) (Jq a1 a2 h0) := .un rfl (Qgc (Jk.cv (fun k => Qk.s k) Qk Qk.cv) a1 a2 h0)
theorem Jq.eq (a1 : ByteArray) (a2 : Int) (h0 : Qa) : Jq a1 a2 h0 = WJ Jk a1 a2 h0 := rfl
def E6 (r : Bool) : AV × Heap := (xo r, [])
abbrev EE := Int → Option Bool
abbrev QaA (a0 : Int) : List AV × Heap := ([.sc (.int .i32 a0)], [])
abbrev QhV (w : Cf) (a0 : Int) : Option AH := w 285 (QaA a0).1 (QaA a0).2
abbrev Qji (w : Cf) (c : EE) : Prop := ∀ (a0 : Int) (r : Bool), c a0 = some r → QhV w a0 = some (E6 r)
def QaB (a0 : Int) : Option Bool := (bif (decide (a0 ≥ 97)) then (bif (decide (a0 ≤ (122 : Int))) then (some true) else (some (a0 == 95))) else (some (a0 == 95)))
def QaC (P : Pg) (w : Cf) (a0 : Int) : Tr Bool AH := (let u51 := (decide (a0 ≥ 97)); .as u51 (yesN 2 u51 (let u50 := (decide (a0 ≤ (zi 122))); .as u50 (yesN 2 u50 (rt E6 true)) (noN 2 u50 (rt E6 (a0 == 95))))) (noN 2 u51 (noN 3 false (rt E6 (a0 == 95)))))
theorem QnC (w : Cf) (a0 : Int) : (QaC pp w a0).norm (bodyT pp w G 285 (QaA a0).1 (QaA a0).2) = QaC pp w a0 := by kernel_rfl
theorem QnD (P : Pg) (w : Cf) (lp : Lo) (a0 : Int) : (QaC P w a0).ok lp E6 := ⟨rfl, fun q0 => Qr 2 (q0) (⟨rfl, fun q1 => Qr 2 (q1) (rfl), fun q1 => noN_ok 2 (q1) (rfl)⟩), fun q0 => noN_ok 2 (q0) (noN_ok 3 (rfl) (rfl))⟩
def Wk.s : Nat → Int → Option Bool
  | 0, _ => none
  | k + 1, a0 => QaB a0
theorem Wk.ok : ∀ (k : Nat), Qji (ev k) (Wk.s k)
  | 0, _, _, h => (nomatch h)
  | k + 1, a0, r, h => fn_ok rfl (QaC pp (ev k) a0) (QnC _ a0) (QnD _ _ _ a0) h
noncomputable def Wk (a0 : Int) : Option Bool := QaB a0
theorem Wk.cv (a0 : Int) : Cv (fun k => Wk.s k a0) (Wk a0) := .un rfl (by exact .const _)
theorem Wk.eq (a0 : Int) : Wk a0 = QaB a0 := rfl
def Pc (r : Bool) : AV × Heap := (xo r, [])
abbrev XA := Int → Option Bool
abbrev QaD (a0 : Int) : List AV × Heap := ([.sc (.int .i32 a0)], [])
abbrev QhW (w : Cf) (a0 : Int) : Option AH := w 271 (QaD a0).1 (QaD a0).2
abbrev QeM (w : Cf) (c : XA) : Prop := ∀ (a0 : Int) (r : Bool), c a0 = some r → QhW w a0 = some (Pc r)
def GI (C0 : EE) (C1 : Jr) (a0 : Int) : Option Bool := ((C0 a0).bind fun r1 => (bif r1 then (some true) else ((C1 a0).bind fun r2 => (some r2))))
def QaE (P : Pg) (w : Cf) (C0 : EE) (C1 : Jr) (a0 : Int) : Tr Bool AH := (.call (QhV w a0) (C0 a0) E6 fun r1 => (.as r1 (yesN 2 r1 (rt Pc true)) (.no r1 (.call (F7 w a0) (C1 a0) ZI fun r2 => (.no r1 (rt Pc r2))))))
theorem QnE (w : Cf) (C0 : EE) (C1 : Jr) (a0 : Int) : (QaE pp w C0 C1 a0).norm (bodyT pp w G 271 (QaD a0).1 (QaD a0).2) = QaE pp w C0 C1 a0 := by kernel_rfl
theorem QnF (P : Pg) (w : Cf) (lp : Lo) (C0 : EE) (C1 : Jr) (K0 : Qji w C0) (K1 : FG w C1) (a0 : Int) : (QaE P w C0 C1 a0).ok lp Pc := fun r1 hr1 => ⟨K0 _ _ hr1, ⟨rfl, fun q0 => Qr 2 (q0) (rfl), fun q0 => ⟨q0, fun r2 hr2 => ⟨K1 _ _ hr2, ⟨q0, rfl⟩⟩⟩⟩⟩
theorem QnG {C0 : Nat → EE} {D0 : EE} (H0 : Cv1 C0 D0) {C1 : Nat → Jr} {D1 : Jr} (H1 : Cv1 C1 D1) (a0 : Int) : Cv (fun k => GI (C0 k) (C1 k) a0) (GI D0 D1 a0) := by
  unfold GI
  exact .bind (H0 _) fun r1 => .cond cst (.bind (H1 _) fun r2 => by exact .const _)
def VQ.s : Nat → Int → Option Bool
  | 0, _ => none
  | k + 1, a0 => GI (Wk.s k) (Je.s k) a0
theorem VQ.ok : ∀ (k : Nat), QeM (ev k) (VQ.s k)
  | 0, _, _, h => (nomatch h)
  | k + 1, a0, r, h => fn_ok rfl (QaE pp (ev k) (Wk.s k) (Je.s k) a0) (QnE _ _ _ a0) (QnF _ _ _ _ _ (Wk.ok k) (Je.ok k) a0) h
noncomputable def VQ (a0 : Int) : Option Bool := GI Wk Je a0
theorem VQ.cv (a0 : Int) : Cv (fun k => VQ.s k a0) (VQ a0) := .un rfl (QnG Wk.cv Je.cv a0)
theorem VQ.eq (a0 : Int) : VQ a0 = GI Wk Je a0 := rfl
def Gq (r : ByteArray) : AV × Heap := (xs r, [])
abbrev Vv := ByteArray → Option ByteArray
abbrev QbN (a0 : ByteArray) : List AV × Heap := ([xs a0, .fn (.func 271) [] []], [])
abbrev P6 (w : Cf) (a0 : ByteArray) : Option AH := w 266 (QbN a0).1 (QbN a0).2
abbrev QcX (w : Cf) (c : Vv) : Prop := ∀ (a0 : ByteArray) (r : ByteArray), c a0 = some r → P6 w a0 = some (Gq r)
structure JV where
  x0 : ByteArray
  i0s : ByteArray
  i0p : Nat
def Gw (a : JV) : St := { n := 21, nx := 1, env := [(0, xs a.x0), (1, .fn (.func 271) [] []), (8, .it 0)], heap := [(0, .iter a.i0s a.i0p)] }
def Qd8 (a : ByteArray) : Ex × St := (.ret, { n := 21, nx := 0, env := [(4, xs a)], heap := [] })
def Qd9 (a : ByteArray) : Ex × St := (.exit 0, { n := 21, nx := 0, env := [(0, xs a)], heap := [] })
def E7 (a : (ByteArray ⊕ ByteArray)) : Ex × St := Sum.elim Qd8 Qd9 a
abbrev ZX := JV → Option (ByteArray ⊕ ByteArray)
abbrev QmA (P : Pg) (lp : Lo) (l : ZX) : Prop := ∀ (a : JV) (r : (ByteArray ⊕ ByteArray)), l a = some r → lp (loopAt P 266 2) (Gw a) = some (E7 r)
def Zi (C0 : XA) (a : JV) : Option (JV ⊕ (ByteArray ⊕ ByteArray)) := (bif (decide (a.i0p < a.i0s.size)) then ((C0 (((Utf8.decode a.i0s a.i0p).1 : Nat) : Int)).bind fun r1 => (bif (!r1) then (bif (decide (0 ≤ (0 : Int) ∧ (0 : Int) ≤ ((a.i0p : Nat) : Int) ∧ ((a.i0p : Nat) : Int) ≤ ((a.x0.size : Nat) : Int))) then (some (.inr (.inl (a.x0.extract (Int.toNat 0) (Int.toNat ((a.i0p : Nat) : Int)))))) else none) else (some (.inl (JV.mk a.x0 a.i0s (a.i0p + (Utf8.decode a.i0s a.i0p).2)))))) else (some (.inr (.inr a.x0))))
def PC (P : Pg) (w : Cf) (C0 : XA) (a : JV) : Tr (JV ⊕ (ByteArray ⊕ ByteArray)) XS := (.as (decide (a.i0p < a.i0s.size)) (.yes true (.call (QhW w (((Utf8.decode a.i0s a.i0p).1 : Nat) : Int)) (C0 (((Utf8.decode a.i0s a.i0p).1 : Nat) : Int)) Pc fun r1 => (.as (!r1) (.as (in2 i0 ((a.i0p : Nat) : Int) (zz a.x0)) (rx E7 (.inl (cu a.x0 i0 ((a.i0p : Nat) : Int)))) .fail) (lf Gw (JV.mk a.x0 a.i0s (a.i0p + (Utf8.decode a.i0s a.i0p).2)))))) (.no false (rx E7 (.inr a.x0))))
theorem Qlm (w : Cf) (C0 : XA) (a : JV) : (PC pp w C0 a).norm (roundT pp G.kd w 0 (G.an 266) (loopAt pp 266 2) (Gw a)) = PC pp w C0 a := by kernel_rfl
theorem Qln (P : Pg) (w : Cf) (lp : Lo) (C0 : XA) (K0 : QeM w C0) (a : JV) : (PC P w C0 a).ok lp (Sum.elim (fun a => (.norm, Gw a)) E7) := ⟨rfl, fun q0 => ⟨rfl, fun r1 hr1 => ⟨K0 _ _ hr1, ⟨rfl, fun q1 => ⟨rfl, fun q2 => rfl, fun q2 => trivial⟩, fun q1 => rfl⟩⟩⟩, fun q0 => ⟨rfl, rfl⟩⟩
theorem Qlo {C0 : Nat → XA} {D0 : XA} (H0 : Cv1 C0 D0) (a : JV) : Cv (fun k => Zi (C0 k) a) (Zi D0 a) := by
  unfold Zi
  exact .cond (.bind (H0 _) fun r1 => by exact .const _) cst
def Vr.s (k : Nat) (C0 : XA) : JV → Option (ByteArray ⊕ ByteArray) := iter (Zi C0) k
theorem Qkz (w : Cf) (k : Nat) (C0 : XA) (K0 : QeM w C0) (a : JV) (r : (ByteArray ⊕ ByteArray)) (h : Vr.s k C0 a = some r) : loopsF pp G.kd w 0 (G.an 266) k (loopAt pp 266 2) (Gw a) = some (E7 r) :=
  VZ (fun a => PC pp w C0 a) (fun _ => rfl) (fun a => Qlm w _ a) (fun a => Qln _ w _ _ K0 a) (fun r => by cases r <;> nofun) h
noncomputable def Vr.w (C0 : XA) : JV → Option (ByteArray ⊕ ByteArray) := loopW (Zi C0)
theorem Vr.cv (C0 : Nat → XA) (D0 : XA) (H0 : Cv1 C0 D0) (a : JV) : Cv (fun k => Vr.s k (C0 k) a) (Vr.w D0 a) := Cv.iter (fun a => Qlo H0 a) a
def EF (L0 : ZX) (a0 : ByteArray) : Option ByteArray := ((L0 (JV.mk a0 a0 0)).bind fun x => Sum.elim (fun (o1 : ByteArray) => (some o1)) (fun (o2 : ByteArray) => (some o2)) x)
def QbO (P : Pg) (w : Cf) (L0 : ZX) (a0 : ByteArray) : Tr ByteArray AH := (.loop2 (loopAt P 266 2) (Gw (JV.mk a0 a0 0)) (L0 (JV.mk a0 a0 0)) Qd8 Qd9 (fun (o1 : ByteArray) => (rt Gq o1)) (fun (o2 : ByteArray) => (rt Gq o2)))
theorem QoT (w : Cf) (L0 : ZX) (a0 : ByteArray) : (QbO pp w L0 a0).norm (bodyT pp w G 266 (QbN a0).1 (QbN a0).2) = QbO pp w L0 a0 := by kernel_rfl
theorem QoU (P : Pg) (w : Cf) (lp : Lo) (L0 : ZX) (N0 : QmA P lp L0) (a0 : ByteArray) : (QbO P w L0 a0).ok lp Gq := ⟨fun o1 ho1 => ⟨N0 _ (.inl _) ho1, rfl⟩, fun o2 ho2 => ⟨N0 _ (.inr _) ho2, rfl⟩⟩
theorem QoV {L0 : Nat → ZX} {M0 : ZX} (N0 : Cv1 L0 M0) (a0 : ByteArray) : Cv (fun k => EF (L0 k) a0) (EF M0 a0) := by
  unfold EF
  exact .bind (N0 _) fun x => .sum (fun o1 => by exact .const _) (fun o2 => by exact .const _) x
def Ul.s : Nat → ByteArray → Option ByteArray
  | 0, _ => none
  | k + 1, a0 => EF (Vr.s k (VQ.s k)) a0
theorem Ul.ok : ∀ (k : Nat), QcX (ev k) (Ul.s k)
  | 0, _, _, h => (nomatch h)
  | k + 1, a0, r, h => fn_ok rfl (QbO pp (ev k) (Vr.s k (VQ.s k)) a0) (QoT _ _ a0) (QoU _ _ _ _ (Qkz _ k _ (VQ.ok k)) a0) h
noncomputable def Vr : JV → Option (ByteArray ⊕ ByteArray) := Vr.w VQ
theorem Vr.eq (a : JV) : Vr a = (Zi VQ a).bind (Sum.elim Vr some) := UO _ _
noncomputable def Ul (a0 : ByteArray) : Option ByteArray := EF Vr a0
theorem Ul.cv (a0 : ByteArray) : Cv (fun k => Ul.s k a0) (Ul a0) := .un rfl (QoV (Vr.cv (fun k => VQ.s k) VQ VQ.cv) a0)
theorem Ul.eq (a0 : ByteArray) : Ul a0 = EF Vr a0 := rfl
def W6 (r : (Qd × Qa)) : AV × Heap := (.agg (UB r.1), [(0, .box [] (QW r.2))])
abbrev Xq := Qd → Qa → Option (Qd × Qa)
abbrev GS (a1 : Qd) (h0 : Qa) : List AV × Heap := ([.ptr 0 0, .agg (UB a1)], [(0, .box [] (QW h0))])
abbrev GT (w : Cf) (a1 : Qd) (h0 : Qa) : Option AH := w 268 (GS a1 h0).1 (GS a1 h0).2
abbrev Qcm (w : Cf) (c : Xq) : Prop := ∀ (a1 : Qd) (h0 : Qa) (r : (Qd × Qa)), c a1 h0 = some r → GT w a1 h0 = some (W6 r)
def W7 (C0 : Vv) (C1 : Qm) (a1 : Qd) (h0 : Qa) : Option (Qd × Qa) := ((C0 h0.left).bind fun r1 => (bif (!(eqS r1 s_)) then ((C1 h0).bind fun r2 => (some (r2.1, r2.2))) else (some (a1, h0))))
def GU (P : Pg) (w : Cf) (C0 : Vv) (C1 : Qm) (a1 : Qd) (h0 : Qa) : Tr (Qd × Qa) AH := (.call (P6 w h0.left) (C0 h0.left) Gq fun r1 => (.as (!(eqS r1 s_)) (.call (V4 w h0) (C1 h0) Ve fun r2 => (rt W6 (r2.1, r2.2))) (rt W6 (a1, h0))))
theorem QgT (w : Cf) (C0 : Vv) (C1 : Qm) (a1 : Qd) (h0 : Qa) : (GU pp w C0 C1 a1 h0).norm (bodyT pp w G 268 (GS a1 h0).1 (GS a1 h0).2) = GU pp w C0 C1 a1 h0 := by kernel_rfl
theorem QgU (P : Pg) (w : Cf) (lp : Lo) (C0 : Vv) (C1 : Qm) (K0 : QcX w C0) (K1 : WZ w C1) (a1 : Qd) (h0 : Qa) : (GU P w C0 C1 a1 h0).ok lp W6 := fun r1 hr1 => ⟨K0 _ _ hr1, ⟨rfl, fun q0 => fun r2 hr2 => ⟨K1 _ _ hr2, rfl⟩, fun q0 => rfl⟩⟩
theorem QgV {C0 : Nat → Vv} {D0 : Vv} (H0 : Cv1 C0 D0) {C1 : Nat → Qm} {D1 : Qm} (H1 : Cv1 C1 D1) (a1 : Qd) (h0 : Qa) : Cv (fun k => W7 (C0 k) (C1 k) a1 h0) (W7 D0 D1 a1 h0) := by
  unfold W7
  exact .bind (H0 _) fun r1 => .cond (.bind (H1 _) fun r2 => by exact .const _) cst
def JA.s : Nat → Qd → Qa → Option (Qd × Qa)
  | 0, _, _ => none
  | k + 1, a1, h0 => W7 (Ul.s k) (Qk.s k) a1 h0
theorem JA.ok : ∀ (k : Nat), Qcm (ev k) (JA.s k)
  | 0, _, _, _, h => (nomatch h)
  | k + 1, a1, h0, r, h => fn_ok rfl (GU pp (ev k) (Ul.s k) (Qk.s k) a1 h0) (QgT _ _ _ a1 h0) (QgU _ _ _ _ _ (Ul.ok k) (Qk.ok k) a1 h0) h
noncomputable def JA (a1 : Qd) (h0 : Qa) : Option (Qd × Qa) := W7 Ul Qk a1 h0
theorem JA.cv (a1 : Qd) (h0 : Qa) : Cv (fun k => JA.s k a1 h0) (JA a1 h0) := .un rfl (QgV Ul.cv Qk.cv a1 h0)
theorem JA.eq (a1 : Qd) (h0 : Qa) : JA a1 h0 = W7 Ul Qk a1 h0 := rfl
def EG (r : ByteArray) : AV × Heap := (xs r, [])
abbrev XL := ByteArray → Option ByteArray
abbrev QbP (a0 : ByteArray) : List AV × Heap := ([xs a0, .fn (.func 270) [] []], [])
abbrev QbQ (w : Cf) (a0 : ByteArray) : Option AH := w 266 (QbP a0).1 (QbP a0).2
abbrev Qgd (w : Cf) (c : XL) : Prop := ∀ (a0 : ByteArray) (r : ByteArray), c a0 = some r → QbQ w a0 = some (EG r)
structure JW where
  x0 : ByteArray
  i0s : ByteArray
  i0p : Nat
def Gx (a : JW) : St := { n := 21, nx := 1, env := [(0, xs a.x0), (1, .fn (.func 270) [] []), (8, .it 0)], heap := [(0, .iter a.i0s a.i0p)] }
def Qea (a : ByteArray) : Ex × St := (.ret, { n := 21, nx := 0, env := [(4, xs a)], heap := [] })
def Qeb (a : ByteArray) : Ex × St := (.exit 0, { n := 21, nx := 0, env := [(0, xs a)], heap := [] })
def E8 (a : (ByteArray ⊕ ByteArray)) : Ex × St := Sum.elim Qea Qeb a
abbrev ZY := JW → Option (ByteArray ⊕ ByteArray)
abbrev QmB (P : Pg) (lp : Lo) (l : ZY) : Prop := ∀ (a : JW) (r : (ByteArray ⊕ ByteArray)), l a = some r → lp (loopAt P 266 2) (Gx a) = some (E8 r)
def Zj (C0 : Jr) (a : JW) : Option (JW ⊕ (ByteArray ⊕ ByteArray)) := (bif (decide (a.i0p < a.i0s.size)) then ((C0 (((Utf8.decode a.i0s a.i0p).1 : Nat) : Int)).bind fun r1 => (bif (!r1) then (bif (decide (0 ≤ (0 : Int) ∧ (0 : Int) ≤ ((a.i0p : Nat) : Int) ∧ ((a.i0p : Nat) : Int) ≤ ((a.x0.size : Nat) : Int))) then (some (.inr (.inl (a.x0.extract (Int.toNat 0) (Int.toNat ((a.i0p : Nat) : Int)))))) else none) else (some (.inl (JW.mk a.x0 a.i0s (a.i0p + (Utf8.decode a.i0s a.i0p).2)))))) else (some (.inr (.inr a.x0))))
def PD (P : Pg) (w : Cf) (C0 : Jr) (a : JW) : Tr (JW ⊕ (ByteArray ⊕ ByteArray)) XS := (.as (decide (a.i0p < a.i0s.size)) (.yes true (.call (F7 w (((Utf8.decode a.i0s a.i0p).1 : Nat) : Int)) (C0 (((Utf8.decode a.i0s a.i0p).1 : Nat) : Int)) ZI fun r1 => (.as (!r1) (.as (in2 i0 ((a.i0p : Nat) : Int) (zz a.x0)) (rx E8 (.inl (cu a.x0 i0 ((a.i0p : Nat) : Int)))) .fail) (lf Gx (JW.mk a.x0 a.i0s (a.i0p + (Utf8.decode a.i0s a.i0p).2)))))) (.no false (rx E8 (.inr a.x0))))
theorem Qlp (w : Cf) (C0 : Jr) (a : JW) : (PD pp w C0 a).norm (roundT pp G.kd w 0 (G.an 266) (loopAt pp 266 2) (Gx a)) = PD pp w C0 a := by kernel_rfl
theorem Qlq (P : Pg) (w : Cf) (lp : Lo) (C0 : Jr) (K0 : FG w C0) (a : JW) : (PD P w C0 a).ok lp (Sum.elim (fun a => (.norm, Gx a)) E8) := ⟨rfl, fun q0 => ⟨rfl, fun r1 hr1 => ⟨K0 _ _ hr1, ⟨rfl, fun q1 => ⟨rfl, fun q2 => rfl, fun q2 => trivial⟩, fun q1 => rfl⟩⟩⟩, fun q0 => ⟨rfl, rfl⟩⟩
theorem Qlr {C0 : Nat → Jr} {D0 : Jr} (H0 : Cv1 C0 D0) (a : JW) : Cv (fun k => Zj (C0 k) a) (Zj D0 a) := by
  unfold Zj
  exact .cond (.bind (H0 _) fun r1 => by exact .const _) cst
def Vs.s (k : Nat) (C0 : Jr) : JW → Option (ByteArray ⊕ ByteArray) := iter (Zj C0) k
theorem QkA (w : Cf) (k : Nat) (C0 : Jr) (K0 : FG w C0) (a : JW) (r : (ByteArray ⊕ ByteArray)) (h : Vs.s k C0 a = some r) : loopsF pp G.kd w 0 (G.an 266) k (loopAt pp 266 2) (Gx a) = some (E8 r) :=
  VZ (fun a => PD pp w C0 a) (fun _ => rfl) (fun a => Qlp w _ a) (fun a => Qlq _ w _ _ K0 a) (fun r => by cases r <;> nofun) h
noncomputable def Vs.w (C0 : Jr) : JW → Option (ByteArray ⊕ ByteArray) := loopW (Zj C0)
theorem Vs.cv (C0 : Nat → Jr) (D0 : Jr) (H0 : Cv1 C0 D0) (a : JW) : Cv (fun k => Vs.s k (C0 k) a) (Vs.w D0 a) := Cv.iter (fun a => Qlr H0 a) a
def EH (L0 : ZY) (a0 : ByteArray) : Option ByteArray := ((L0 (JW.mk a0 a0 0)).bind fun x => Sum.elim (fun (o1 : ByteArray) => (some o1)) (fun (o2 : ByteArray) => (some o2)) x)
def QbR (P : Pg) (w : Cf) (L0 : ZY) (a0 : ByteArray) : Tr ByteArray AH := (.loop2 (loopAt P 266 2) (Gx (JW.mk a0 a0 0)) (L0 (JW.mk a0 a0 0)) Qea Qeb (fun (o1 : ByteArray) => (rt EG o1)) (fun (o2 : ByteArray) => (rt EG o2)))
theorem QoW (w : Cf) (L0 : ZY) (a0 : ByteArray) : (QbR pp w L0 a0).norm (bodyT pp w G 266 (QbP a0).1 (QbP a0).2) = QbR pp w L0 a0 := by kernel_rfl
theorem QoX (P : Pg) (w : Cf) (lp : Lo) (L0 : ZY) (N0 : QmB P lp L0) (a0 : ByteArray) : (QbR P w L0 a0).ok lp EG := ⟨fun o1 ho1 => ⟨N0 _ (.inl _) ho1, rfl⟩, fun o2 ho2 => ⟨N0 _ (.inr _) ho2, rfl⟩⟩
theorem QoY {L0 : Nat → ZY} {M0 : ZY} (N0 : Cv1 L0 M0) (a0 : ByteArray) : Cv (fun k => EH (L0 k) a0) (EH M0 a0) := by
  unfold EH
  exact .bind (N0 _) fun x => .sum (fun o1 => by exact .const _) (fun o2 => by exact .const _) x
def Vn.s : Nat → ByteArray → Option ByteArray
  | 0, _ => none
  | k + 1, a0 => EH (Vs.s k (Je.s k)) a0
theorem Vn.ok : ∀ (k : Nat), Qgd (ev k) (Vn.s k)
  | 0, _, _, h => (nomatch h)
  | k + 1, a0, r, h => fn_ok rfl (QbR pp (ev k) (Vs.s k (Je.s k)) a0) (QoW _ _ a0) (QoX _ _ _ _ (QkA _ k _ (Je.ok k)) a0) h
noncomputable def Vs : JW → Option (ByteArray ⊕ ByteArray) := Vs.w Je
theorem Vs.eq (a : JW) : Vs a = (Zj Je a).bind (Sum.elim Vs some) := UO _ _
noncomputable def Vn (a0 : ByteArray) : Option ByteArray := EH Vs a0
theorem Vn.cv (a0 : ByteArray) : Cv (fun k => Vn.s k a0) (Vn a0) := .un rfl (QoY (Vs.cv (fun k => Je.s k) Je Je.cv) a0)
theorem Vn.eq (a0 : ByteArray) : Vn a0 = EH Vs a0 := rfl
def X6 (r : Bool) : AV × Heap := (xo r, [])
abbrev Fr := ByteArray → Option Bool
abbrev QbS (a0 : ByteArray) : List AV × Heap := ([xs a0], [])
abbrev QeN (w : Cf) (a0 : ByteArray) : Option AH := w 272 (QbS a0).1 (QbS a0).2
abbrev QkB (w : Cf) (c : Fr) : Prop := ∀ (a0 : ByteArray) (r : Bool), c a0 = some r → QeN w a0 = some (X6 r)
def EI (C0 : Jr) (C1 : Vv) (C2 : XL) (a0 : ByteArray) : Option Bool := (bif (eqS a0 s_) then (some false) else (bif (decide (((a0.size : Nat) : Int) > 12)) then (some false) else (bif (decide (0 ≤ (0 : Int) ∧ (0 : Int) < ((a0.size : Nat) : Int))) then ((C0 (IntKind.i32.wrap ((a0.data.getD (Int.toNat 0) 0).toNat : Int))).bind fun r1 => (bif r1 then (some false) else ((C1 a0).bind fun r2 => (bif (!(eqS r2 a0)) then (some false) else (bif (((a0.data.getD (Int.toNat 0) 0).toNat : Int) != 114) then (some true) else (bif (((a0.size : Nat) : Int) == 1) then (some true) else (bif (decide (0 ≤ (1 : Int) ∧ (1 : Int) ≤ ((a0.size : Nat) : Int) ∧ ((a0.size : Nat) : Int) ≤ ((a0.size : Nat) : Int))) then ((C2 (a0.extract (Int.toNat 1) (Int.toNat ((a0.size : Nat) : Int)))).bind fun r3 => (some (!(eqS r3 (a0.extract (Int.toNat 1) (Int.toNat ((a0.size : Nat) : Int))))))) else none))))))) else none)))
def QbT (P : Pg) (w : Cf) (C0 : Jr) (C1 : Vv) (C2 : XL) (a0 : ByteArray) : Tr Bool AH := (let u57 := (eqS a0 s_); .as u57 (yesN 3 u57 (yesN 11 true (rt X6 false))) (noN 3 u57 (let u56 := (decide ((zz a0) > 12)); .as u56 (yesN 4 u56 (yesN 6 true (rt X6 false))) (.no u56 (let u55 := (in1 i0 (zz a0)); .as u55 (noN 2 u56 (.call (F7 w (IntKind.i32.wrap (gb a0 i0))) (C0 (IntKind.i32.wrap (gb a0 i0))) ZI fun r1 => (.no u56 (.as r1 (yesN 4 r1 (.yes true (rt X6 false))) (.no r1 (.call (P6 w a0) (C1 a0) Gq fun r2 => (noN 3 r1 (.as (!(eqS r2 a0)) (rt X6 false) (.yes u55 (let u54 := ((gb a0 i0) != 114); .as u54 (yesN 3 u54 (yesN 7 true (rt X6 true))) (noN 3 u54 (let u53 := ((zz a0) == 1); .as u53 (yesN 6 u53 (rt X6 true)) (.no u53 (let u52 := (in2 (zi 1) (zz a0) (zz a0)); .as u52 (.no u53 (.call (QbQ w (cu a0 (zi 1) (zz a0))) (C2 (cu a0 (zi 1) (zz a0))) EG fun r3 => (noN 2 u53 (.yes u52 (noN 2 u53 (rt X6 (!(eqS r3 (cu a0 (zi 1) (zz a0)))))))))) .fail)))))))))))))) .fail)))))
theorem QoZ (w : Cf) (C0 : Jr) (C1 : Vv) (C2 : XL) (a0 : ByteArray) : (QbT pp w C0 C1 C2 a0).norm (bodyT pp w G 272 (QbS a0).1 (QbS a0).2) = QbT pp w C0 C1 C2 a0 := by kernel_rfl
theorem Qo0 (P : Pg) (w : Cf) (lp : Lo) (C0 : Jr) (C1 : Vv) (C2 : XL) (K0 : FG w C0) (K1 : QcX w C1) (K2 : Qgd w C2) (a0 : ByteArray) : (QbT P w C0 C1 C2 a0).ok lp X6 := ⟨rfl, fun q0 => Qr 3 (q0) (Qr 11 (rfl) (rfl)), fun q0 => noN_ok 3 (q0) (⟨rfl, fun q1 => Qr 4 (q1) (Qr 6 (rfl) (rfl)), fun q1 => ⟨q1, ⟨rfl, fun q2 => noN_ok 2 (q1) (fun r1 hr1 => ⟨K0 _ _ hr1, ⟨q1, ⟨rfl, fun q3 => Qr 4 (q3) (⟨rfl, rfl⟩), fun q3 => ⟨q3, fun r2 hr2 => ⟨K1 _ _ hr2, noN_ok 3 (q3) (⟨rfl, fun q4 => rfl, fun q4 => ⟨q2, ⟨rfl, fun q5 => Qr 3 (q5) (Qr 7 (rfl) (rfl)), fun q5 => noN_ok 3 (q5) (⟨rfl, fun q6 => Qr 6 (q6) (rfl), fun q6 => ⟨q6, ⟨rfl, fun q7 => ⟨q6, fun r3 hr3 => ⟨K2 _ _ hr3, noN_ok 2 (q6) (⟨q7, noN_ok 2 (q6) (rfl)⟩)⟩⟩, fun q7 => trivial⟩⟩⟩)⟩⟩⟩)⟩⟩⟩⟩⟩), fun q2 => trivial⟩⟩⟩)⟩
theorem Qo1 {C0 : Nat → Jr} {D0 : Jr} (H0 : Cv1 C0 D0) {C1 : Nat → Vv} {D1 : Vv} (H1 : Cv1 C1 D1) {C2 : Nat → XL} {D2 : XL} (H2 : Cv1 C2 D2) (a0 : ByteArray) : Cv (fun k => EI (C0 k) (C1 k) (C2 k) a0) (EI D0 D1 D2 a0) := by
  unfold EI
  exact .cond cst (.cond cst (.cond (.bind (H0 _) fun r1 => .cond cst (.bind (H1 _) fun r2 => .cond cst (.cond cst (.cond cst (.cond (.bind (H2 _) fun r3 => by exact .const _) cst))))) cst))
def W0.s : Nat → ByteArray → Option Bool
  | 0, _ => none
  | k + 1, a0 => EI (Je.s k) (Ul.s k) (Vn.s k) a0
theorem W0.ok : ∀ (k : Nat), QkB (ev k) (W0.s k)
  | 0, _, _, h => (nomatch h)
  | k + 1, a0, r, h => fn_ok rfl (QbT pp (ev k) (Je.s k) (Ul.s k) (Vn.s k) a0) (QoZ _ _ _ _ a0) (Qo0 _ _ _ _ _ _ (Je.ok k) (Ul.ok k) (Vn.ok k) a0) h
noncomputable def W0 (a0 : ByteArray) : Option Bool := EI Je Ul Vn a0
theorem W0.cv (a0 : ByteArray) : Cv (fun k => W0.s k a0) (W0 a0) := .un rfl (Qo1 Je.cv Ul.cv Vn.cv a0)
theorem W0.eq (a0 : ByteArray) : W0 a0 = EI Je Ul Vn a0 := rfl
def QaF (r : (List ByteArray)) : AV × Heap := (.sl (Ql r), [])
abbrev XB := Option (List ByteArray)
abbrev QaG : List AV × Heap := ([], [])
abbrev QhX (w : Cf) : Option AH := w 208 (QaG ).1 (QaG ).2
abbrev QeO (w : Cf) (c : XB) : Prop := ∀ (r : (List ByteArray)), c = some r → QhX w = some (QaF r)
def QdI : Option (List ByteArray) := (some [s_, s_, s_, h_2e, h_2d, h_2b, h_2d, h_2a, h_26, h_7c, Qe6, Qe7])
def QaH (P : Pg) (w : Cf) : Tr (List ByteArray) AH := (.rows [[xs s_], [xs s_], [xs s_], [xs h_2e], [xs h_2d], [xs h_2b], [xs h_2d], [xs h_2a], [xs h_26], [xs h_7c], [xs Qe6], [xs Qe7]] (Ql [s_, s_, s_, h_2e, h_2d, h_2b, h_2d, h_2a, h_26, h_7c, Qe6, Qe7]) (rt QaF [s_, s_, s_, h_2e, h_2d, h_2b, h_2d, h_2a, h_26, h_7c, Qe6, Qe7]))
theorem QnH (w : Cf) : (QaH pp w ).norm (bodyT pp w G 208 (QaG ).1 (QaG ).2) = QaH pp w := by kernel_rfl
theorem QnI (P : Pg) (w : Cf) (lp : Lo) : (QaH P w ).ok lp QaF := ⟨(Vp [s_, s_, s_, h_2e, h_2d, h_2b, h_2d, h_2a, h_26, h_7c, Qe6, Qe7]), rfl⟩
def VR.s : Nat → Option (List ByteArray)
  | 0 => none
  | k + 1 => QdI
theorem VR.ok : ∀ (k : Nat), QeO (ev k) (VR.s k)
  | 0, _, h => (nomatch h)
  | k + 1, r, h => fn_ok rfl (QaH pp (ev k) ) (QnH _ ) (QnI _ _ _ ) h
noncomputable def VR : Option (List ByteArray) := QdI
theorem VR.cv : Cv (fun k => VR.s k ) (VR ) := .un rfl (by exact .const _)
theorem VR.eq : VR = QdI := rfl
def Yn (r : (Int × Qa)) : AV × Heap := (xi r.1, [(0, .box [] (QW r.2))])
abbrev Jl := (List Int) → Qa → Option (Int × Qa)
abbrev Er (a1 : (List Int)) (h0 : Qa) : List AV × Heap := ([.ptr 0 0, .sl (QH a1)], [(0, .box [] (QW h0))])
abbrev Pd (w : Cf) (a1 : (List Int)) (h0 : Qa) : Option AH := w 244 (Er a1 h0).1 (Er a1 h0).2
abbrev ET (w : Cf) (c : Jl) : Prop := ∀ (a1 : (List Int)) (h0 : Qa) (r : (Int × Qa)), c a1 h0 = some r → Pd w a1 h0 = some (Yn r)
structure QO where
  x7 : (List Int)
  x8 : Int
  x9 : Int
  h0 : Qa
structure Jw where
  x4 : Int
  h0 : Qa
def Xi (a : QO) : St := { n := 21, nx := 1, env := [(0, .ptr 0 0), (7, .sl (QH a.x7)), (8, xi a.x8), (9, xi a.x9)], heap := [(0, .box [] (QW a.h0))] }
def P7 (a : Jw) : Ex × St := (.ret, { n := 21, nx := 1, env := [(4, xi a.x4)], heap := [(0, .box [] (QW a.h0))] })
def P8 (a : Qa) : Ex × St := (.exit 0, { n := 21, nx := 1, env := [], heap := [(0, .box [] (QW a))] })
def Yo (a : (Jw ⊕ Qa)) : Ex × St := Sum.elim P7 P8 a
abbrev WK := QO → Option (Jw ⊕ Qa)
abbrev Qge (P : Pg) (lp : Lo) (l : WK) : Prop := ∀ (a : QO) (r : (Jw ⊕ Qa)), l a = some r → lp (loopAt P 244 2) (Xi a) = some (Yo r)
def Wt (C0 : XB) (C1 : QX) (a : QO) : Option (QO ⊕ (Jw ⊕ Qa)) := (bif (decide (a.x9 < a.x8)) then (bif (decide (0 ≤ a.x9)) then ((a.x7[(Int.toNat a.x9)]?).bind fun e1 => ((C0).bind fun r2 => (bif (decide (0 ≤ e1)) then ((r2[(Int.toNat e1)]?).bind fun e3 => ((C1 e3 a.h0).bind fun r4 => (bif r4.1 then (some (.inr (.inl (Jw.mk e1 r4.2)))) else (some (.inl (QO.mk a.x7 a.x8 (w64 (a.x9 + 1)) r4.2)))))) else none))) else none) else (some (.inr (.inr a.h0))))
def ZQ (P : Pg) (w : Cf) (C0 : XB) (C1 : QX) (a : QO) : Tr (QO ⊕ (Jw ⊕ Qa)) XS := (.as (decide (a.x9 < a.x8)) (.as (decide (0 ≤ a.x9)) (.row ((QH a.x7)[(Int.toNat a.x9)]?) (a.x7[(Int.toNat a.x9)]?) XG fun (e1 : Int) => (.call (QhX w) (C0) QaF fun r2 => (.as (decide (0 ≤ e1)) (.row ((Ql r2)[(Int.toNat e1)]?) (r2[(Int.toNat e1)]?) UP fun (e3 : ByteArray) => (.call (Ym w e3 a.h0) (C1 e3 a.h0) VA fun r4 => (.as r4.1 (rx Yo (.inl (Jw.mk e1 r4.2))) (lf Xi (QO.mk a.x7 a.x8 (w64 (a.x9 + 1)) r4.2))))) .fail))) .fail) (rx Yo (.inr a.h0)))
theorem Qfw (w : Cf) (C0 : XB) (C1 : QX) (a : QO) : (ZQ pp w C0 C1 a).norm (roundT pp G.kd w 1 (G.an 244) (loopAt pp 244 2) (Xi a)) = ZQ pp w C0 C1 a := by kernel_rfl
theorem Qfx (P : Pg) (w : Cf) (lp : Lo) (C0 : XB) (C1 : QX) (K0 : QeO w C0) (K1 : Z5 w C1) (a : QO) : (ZQ P w C0 C1 a).ok lp (Sum.elim (fun a => (.norm, Xi a)) Yo) := ⟨rfl, fun q0 => ⟨rfl, fun q1 => fun e1 h => ⟨Vl h, fun r2 hr2 => ⟨K0 _ hr2, ⟨rfl, fun q2 => fun e3 h => ⟨Vq h, fun r4 hr4 => ⟨K1 _ _ _ hr4, ⟨rfl, fun q3 => rfl, fun q3 => rfl⟩⟩⟩, fun q2 => trivial⟩⟩⟩, fun q1 => trivial⟩, fun q0 => rfl⟩
theorem Qfy {C0 : Nat → XB} {D0 : XB} (H0 : Cv C0 D0) {C1 : Nat → QX} {D1 : QX} (H1 : Cv2 C1 D1) (a : QO) : Cv (fun k => Wt (C0 k) (C1 k) a) (Wt D0 D1 a) := by
  unfold Wt
  exact .cond (.cond (.bind (.const _) fun e1 => .bind (H0) fun r2 => .cond (.bind (.const _) fun e3 => .bind (H1 _ _) fun r4 => by exact .const _) cst) cst) cst
def JB.s (k : Nat) (C0 : XB) (C1 : QX) : QO → Option (Jw ⊕ Qa) := iter (Wt C0 C1) k
theorem QeP (w : Cf) (k : Nat) (C0 : XB) (C1 : QX) (K0 : QeO w C0) (K1 : Z5 w C1) (a : QO) (r : (Jw ⊕ Qa)) (h : JB.s k C0 C1 a = some r) : loopsF pp G.kd w 1 (G.an 244) k (loopAt pp 244 2) (Xi a) = some (Yo r) :=
  VZ (fun a => ZQ pp w C0 C1 a) (fun _ => rfl) (fun a => Qfw w _ _ a) (fun a => Qfx _ w _ _ _ K0 K1 a) (fun r => by cases r <;> nofun) h
noncomputable def JB.w (C0 : XB) (C1 : QX) : QO → Option (Jw ⊕ Qa) := loopW (Wt C0 C1)
theorem JB.cv (C0 : Nat → XB) (C1 : Nat → QX) (D0 : XB) (D1 : QX) (H0 : Cv C0 D0) (H1 : Cv2 C1 D1) (a : QO) : Cv (fun k => JB.s k (C0 k) (C1 k) a) (JB.w D0 D1 a) := Cv.iter (fun a => Qfy H0 H1 a) a
def Xr (L0 : WK) (a1 : (List Int)) (h0 : Qa) : Option (Int × Qa) := ((L0 (QO.mk a1 (((a1.length) : Nat) : Int) (0 : Int) h0)).bind fun x => Sum.elim (fun (o1 : Jw) => (some (o1.x4, o1.h0))) (fun (o2 : Qa) => (some ((0 : Int), o2))) x)
def Es (P : Pg) (w : Cf) (L0 : WK) (a1 : (List Int)) (h0 : Qa) : Tr (Int × Qa) AH := (.num ((QH a1).length) (a1.length) (.loop2 (loopAt P 244 2) (Xi (QO.mk a1 (((a1.length) : Nat) : Int) i0 h0)) (L0 (QO.mk a1 (((a1.length) : Nat) : Int) i0 h0)) P7 P8 (fun (o1 : Jw) => (rt Yn (o1.x4, o1.h0))) (fun (o2 : Qa) => (rt Yn (i0, o2)))))
theorem QhY (w : Cf) (L0 : WK) (a1 : (List Int)) (h0 : Qa) : (Es pp w L0 a1 h0).norm (bodyT pp w G 244 (Er a1 h0).1 (Er a1 h0).2) = Es pp w L0 a1 h0 := by kernel_rfl
theorem QhZ (P : Pg) (w : Cf) (lp : Lo) (L0 : WK) (N0 : Qge P lp L0) (a1 : (List Int)) (h0 : Qa) : (Es P w L0 a1 h0).ok lp Yn := ⟨(VU _), ⟨fun o1 ho1 => ⟨N0 _ (.inl _) ho1, rfl⟩, fun o2 ho2 => ⟨N0 _ (.inr _) ho2, rfl⟩⟩⟩
theorem Qh0 {L0 : Nat → WK} {M0 : WK} (N0 : Cv1 L0 M0) (a1 : (List Int)) (h0 : Qa) : Cv (fun k => Xr (L0 k) a1 h0) (Xr M0 a1 h0) := by
  unfold Xr
  exact .bind (N0 _) fun x => .sum (fun o1 => by exact .const _) (fun o2 => by exact .const _) x
def QI.s : Nat → (List Int) → Qa → Option (Int × Qa)
  | 0, _, _ => none
  | k + 1, a1, h0 => Xr (JB.s k (VR.s k) (QD.s k)) a1 h0
theorem QI.ok : ∀ (k : Nat), ET (ev k) (QI.s k)
  | 0, _, _, _, h => (nomatch h)
  | k + 1, a1, h0, r, h => fn_ok rfl (Es pp (ev k) (JB.s k (VR.s k) (QD.s k)) a1 h0) (QhY _ _ a1 h0) (QhZ _ _ _ _ (QeP _ k _ _ (VR.ok k) (QD.ok k)) a1 h0) h
noncomputable def JB : QO → Option (Jw ⊕ Qa) := JB.w VR QD
theorem JB.eq (a : QO) : JB a = (Wt VR QD a).bind (Sum.elim JB some) := UO _ _
noncomputable def QI (a1 : (List Int)) (h0 : Qa) : Option (Int × Qa) := Xr JB a1 h0
theorem QI.cv (a1 : (List Int)) (h0 : Qa) : Cv (fun k => QI.s k a1 h0) (QI a1 h0) := .un rfl (Qh0 (JB.cv (fun k => VR.s k) (fun k => QD.s k) VR QD VR.cv QD.cv) a1 h0)
theorem QI.eq (a1 : (List Int)) (h0 : Qa) : QI a1 h0 = Xr JB a1 h0 := rfl
def Y8 (r : (Qd × Qa)) : AV × Heap := (.agg (UB r.1), [(0, .box [] (QW r.2))])
def YE (r : (Qd × Qa)) : AV × Heap := (.agg (UB r.1), [(0, .box [] (QW r.2))])
def GV (r : (Qd × Qa)) : AV × Heap := (.agg (UB r.1), [(0, .box [] (QW r.2))])
def X7 (r : (Qd × Qa)) : AV × Heap := (.agg (UB r.1), [(0, .box [] (QW r.2))])
def Uf (r : (Qd × Qa)) : AV × Heap := (.agg (UB r.1), [(0, .box [] (QW r.2))])
def W1 (r : (Qd × Qa)) : AV × Heap := (.agg (UB r.1), [(0, .box [] (QW r.2))])
abbrev Xs := Qa → Option (Qd × Qa)
abbrev GW (h0 : Qa) : List AV × Heap := ([.ptr 0 0], [(0, .box [] (QW h0))])
abbrev Qa9 (w : Cf) (h0 : Qa) : Option AH := w 263 (GW h0).1 (GW h0).2
abbrev Qcn (w : Cf) (c : Xs) : Prop := ∀ (h0 : Qa) (r : (Qd × Qa)), c h0 = some r → Qa9 w h0 = some (Y8 r)
abbrev W8 := Qa → Option (Qd × Qa)
abbrev Gg (h0 : Qa) : List AV × Heap := ([.ptr 0 0, .fn (.func 263) [.ptr 0 0] []], [(0, .box [] (QW h0))])
abbrev QaI (w : Cf) (h0 : Qa) : Option AH := w 262 (Gg h0).1 (Gg h0).2
abbrev Qba (w : Cf) (c : W8) : Prop := ∀ (h0 : Qa) (r : (Qd × Qa)), c h0 = some r → QaI w h0 = some (YE r)
abbrev Xt := Qa → Option (Qd × Qa)
abbrev GX (h0 : Qa) : List AV × Heap := ([.ptr 0 0], [(0, .box [] (QW h0))])
abbrev Qbb (w : Cf) (h0 : Qa) : Option AH := w 264 (GX h0).1 (GX h0).2
abbrev Qco (w : Cf) (c : Xt) : Prop := ∀ (h0 : Qa) (r : (Qd × Qa)), c h0 = some r → Qbb w h0 = some (GV r)
abbrev Wu := Qa → Option (Qd × Qa)
abbrev Zv (h0 : Qa) : List AV × Heap := ([.ptr 0 0, .fn (.func 264) [.ptr 0 0] []], [(0, .box [] (QW h0))])
abbrev P9 (w : Cf) (h0 : Qa) : Option AH := w 262 (Zv h0).1 (Zv h0).2
abbrev SF (w : Cf) (c : Wu) : Prop := ∀ (h0 : Qa) (r : (Qd × Qa)), c h0 = some r → P9 w h0 = some (X7 r)
abbrev U2 := Qa → Option (Qd × Qa)
abbrev EU (h0 : Qa) : List AV × Heap := ([.ptr 0 0], [(0, .box [] (QW h0))])
abbrev PU (w : Cf) (h0 : Qa) : Option AH := w 243 (EU h0).1 (EU h0).2
abbrev Sv (w : Cf) (c : U2) : Prop := ∀ (h0 : Qa) (r : (Qd × Qa)), c h0 = some r → PU w h0 = some (Uf r)
abbrev QA := Int → Qa → Option (Qd × Qa)
abbrev EV (a1 : Int) (h0 : Qa) : List AV × Heap := ([.ptr 0 0, xi a1], [(0, .box [] (QW h0))])
abbrev Z6 (w : Cf) (a1 : Int) (h0 : Qa) : Option AH := w 215 (EV a1 h0).1 (EV a1 h0).2
abbrev Yb (w : Cf) (c : QA) : Prop := ∀ (a1 : Int) (h0 : Qa) (r : (Qd × Qa)), c a1 h0 = some r → Z6 w a1 h0 = some (W1 r)
def X1 (C0 : QA) (C1 : QX) (C2 : Qm) (h0 : Qa) : Option (Qd × Qa) := ((C0 (0 : Int) h0).bind fun r1 => ((C1 h_29 r1.2).bind fun r2 => (bif (!r2.1) then ((C2 r2.2).bind fun r3 => (some (r3.1, r3.2))) else (some (r1.1, r2.2)))))
def GY (P : Pg) (w : Cf) (C0 : QA) (C1 : QX) (C2 : Qm) (h0 : Qa) : Tr (Qd × Qa) AH := (.call (Z6 w i0 h0) (C0 i0 h0) W1 fun r1 => (.call (Ym w h_29 r1.2) (C1 h_29 r1.2) VA fun r2 => (.as (!r2.1) (.call (V4 w r2.2) (C2 r2.2) Ve fun r3 => (rt Y8 (r3.1, r3.2))) (rt Y8 (r1.1, r2.2)))))
theorem QgW (w : Cf) (C0 : QA) (C1 : QX) (C2 : Qm) (h0 : Qa) : (GY pp w C0 C1 C2 h0).norm (bodyT pp w G 263 (GW h0).1 (GW h0).2) = GY pp w C0 C1 C2 h0 := by kernel_rfl
theorem QgX (P : Pg) (w : Cf) (lp : Lo) (C0 : QA) (C1 : QX) (C2 : Qm) (K0 : Yb w C0) (K1 : Z5 w C1) (K2 : WZ w C2) (h0 : Qa) : (GY P w C0 C1 C2 h0).ok lp Y8 := fun r1 hr1 => ⟨K0 _ _ _ hr1, fun r2 hr2 => ⟨K1 _ _ _ hr2, ⟨rfl, fun q0 => fun r3 hr3 => ⟨K2 _ _ hr3, rfl⟩, fun q0 => rfl⟩⟩⟩
theorem Qbc {C0 : Nat → QA} {D0 : QA} (H0 : Cv2 C0 D0) {C1 : Nat → QX} {D1 : QX} (H1 : Cv2 C1 D1) {C2 : Nat → Qm} {D2 : Qm} (H2 : Cv1 C2 D2) (h0 : Qa) : Cv (fun k => X1 (C0 k) (C1 k) (C2 k) h0) (X1 D0 D1 D2 h0) := by
  unfold X1
  exact .bind (H0 _ _) fun r1 => .bind (H1 _ _) fun r2 => .cond (.bind (H2 _) fun r3 => by exact .const _) cst
def WL (C0 : Qm) (C1 : Xs) (h0 : Qa) : Option (Qd × Qa) := (bif (decide (h0.deep ≥ 12)) then ((C0 h0).bind fun r1 => (some (r1.1, r1.2))) else ((C1 (Qa.mk h0.left (w64 (h0.deep + 1)) h0.bad)).bind fun r2 => (some (r2.1, (Qa.mk r2.2.left (w64 (r2.2.deep - 1)) r2.2.bad)))))
def Gh (P : Pg) (w : Cf) (C0 : Qm) (C1 : Xs) (h0 : Qa) : Tr (Qd × Qa) AH := (.as (decide (h0.deep ≥ 12)) (.call (V4 w h0) (C0 h0) Ve fun r1 => (rt YE (r1.1, r1.2))) (.call (Qa9 w (Qa.mk h0.left (w64 (h0.deep + 1)) h0.bad)) (C1 (Qa.mk h0.left (w64 (h0.deep + 1)) h0.bad)) Y8 fun r2 => (rt YE (r2.1, (Qa.mk r2.2.left (w64 (r2.2.deep - 1)) r2.2.bad)))))
theorem Qgf (w : Cf) (C0 : Qm) (C1 : Xs) (h0 : Qa) : (Gh pp w C0 C1 h0).norm (bodyT pp w G 262 (Gg h0).1 (Gg h0).2) = Gh pp w C0 C1 h0 := by kernel_rfl
theorem Qgg (P : Pg) (w : Cf) (lp : Lo) (C0 : Qm) (C1 : Xs) (K0 : WZ w C0) (K1 : Qcn w C1) (h0 : Qa) : (Gh P w C0 C1 h0).ok lp YE := ⟨rfl, fun q0 => fun r1 hr1 => ⟨K0 _ _ hr1, rfl⟩, fun q0 => fun r2 hr2 => ⟨K1 _ _ hr2, rfl⟩⟩
theorem QaJ {C0 : Nat → Qm} {D0 : Qm} (H0 : Cv1 C0 D0) {C1 : Nat → Xs} {D1 : Xs} (H1 : Cv1 C1 D1) (h0 : Qa) : Cv (fun k => WL (C0 k) (C1 k) h0) (WL D0 D1 h0) := by
  unfold WL
  exact .cond (.bind (H0 _) fun r1 => by exact .const _) (.bind (H1 _) fun r2 => by exact .const _)
def X2 (C0 : U2) (h0 : Qa) : Option (Qd × Qa) := ((C0 h0).bind fun r1 => (some ((Qd.mk (4 : Int) (0 : Int) s_ [r1.1]), r1.2)))
def GZ (P : Pg) (w : Cf) (C0 : U2) (h0 : Qa) : Tr (Qd × Qa) AH := (.call (PU w h0) (C0 h0) Uf fun r1 => (.rows [[xi r1.1.Kind, xi r1.1.N, xs r1.1.Name, .sl (V2 r1.1.L)]] (V2 [r1.1]) (rt GV ((Qd.mk (zi 4) i0 s_ [r1.1]), r1.2))))
theorem QgY (w : Cf) (C0 : U2) (h0 : Qa) : (GZ pp w C0 h0).norm (bodyT pp w G 264 (GX h0).1 (GX h0).2) = GZ pp w C0 h0 := by kernel_rfl
theorem QgZ (P : Pg) (w : Cf) (lp : Lo) (C0 : U2) (K0 : Sv w C0) (h0 : Qa) : (GZ P w C0 h0).ok lp GV := fun r1 hr1 => ⟨K0 _ _ hr1, ⟨(Qbi [r1.1]), rfl⟩⟩
theorem Qbd {C0 : Nat → U2} {D0 : U2} (H0 : Cv1 C0 D0) (h0 : Qa) : Cv (fun k => X2 (C0 k) h0) (X2 D0 h0) := by
  unfold X2
  exact .bind (H0 _) fun r1 => by exact .const _
def V7 (C0 : Qm) (C1 : Xt) (h0 : Qa) : Option (Qd × Qa) := (bif (decide (h0.deep ≥ 12)) then ((C0 h0).bind fun r1 => (some (r1.1, r1.2))) else ((C1 (Qa.mk h0.left (w64 (h0.deep + 1)) h0.bad)).bind fun r2 => (some (r2.1, (Qa.mk r2.2.left (w64 (r2.2.deep - 1)) r2.2.bad)))))
def Zw (P : Pg) (w : Cf) (C0 : Qm) (C1 : Xt) (h0 : Qa) : Tr (Qd × Qa) AH := (.as (decide (h0.deep ≥ 12)) (.call (V4 w h0) (C0 h0) Ve fun r1 => (rt X7 (r1.1, r1.2))) (.call (Qbb w (Qa.mk h0.left (w64 (h0.deep + 1)) h0.bad)) (C1 (Qa.mk h0.left (w64 (h0.deep + 1)) h0.bad)) GV fun r2 => (rt X7 (r2.1, (Qa.mk r2.2.left (w64 (r2.2.deep - 1)) r2.2.bad)))))
theorem QeQ (w : Cf) (C0 : Qm) (C1 : Xt) (h0 : Qa) : (Zw pp w C0 C1 h0).norm (bodyT pp w G 262 (Zv h0).1 (Zv h0).2) = Zw pp w C0 C1 h0 := by kernel_rfl
theorem QeR (P : Pg) (w : Cf) (lp : Lo) (C0 : Qm) (C1 : Xt) (K0 : WZ w C0) (K1 : Qco w C1) (h0 : Qa) : (Zw P w C0 C1 h0).ok lp X7 := ⟨rfl, fun q0 => fun r1 hr1 => ⟨K0 _ _ hr1, rfl⟩, fun q0 => fun r2 hr2 => ⟨K1 _ _ hr2, rfl⟩⟩
theorem Sa {C0 : Nat → Qm} {D0 : Qm} (H0 : Cv1 C0 D0) {C1 : Nat → Xt} {D1 : Xt} (H1 : Cv1 C1 D1) (h0 : Qa) : Cv (fun k => V7 (C0 k) (C1 k) h0) (V7 D0 D1 h0) := by
  unfold V7
  exact .cond (.bind (H0 _) fun r1 => by exact .const _) (.bind (H1 _) fun r2 => by exact .const _)
def Wl (C0 : QX) (C1 : W8) (C2 : Wu) (C3 : WH) (C4 : Su) (C5 : W5) (C6 : Xq) (C7 : XL) (C8 : Vv) (C9 : Fr) (C10 : Qm) (h0 : Qa) : Option (Qd × Qa) := ((C0 h_28 h0).bind fun r1 => (bif r1.1 then ((C1 r1.2).bind fun r2 => (some (r2.1, r2.2))) else ((C0 h_2d r1.2).bind fun r3 => (bif r3.1 then ((C2 r3.2).bind fun r4 => (some (r4.1, r4.2))) else ((C0 h_2e r3.2).bind fun r5 => (bif r5.1 then (some ((Qd.mk (3 : Int) (0 : Int) s_ ([] : List Qd)), r5.2)) else (bif r5.2.bad then (some ((Qd.mk (0 : Int) (0 : Int) s_ ([] : List Qd)), r5.2)) else ((C3 r5.2.left).bind fun r6 => (bif r6 then (bif (decide (0 ≤ (2 : Int) ∧ (2 : Int) ≤ ((r5.2.left.size : Nat) : Int) ∧ ((r5.2.left.size : Nat) : Int) ≤ ((r5.2.left.size : Nat) : Int))) then ((C4 (r5.2.left.extract (Int.toNat 2) (Int.toNat ((r5.2.left.size : Nat) : Int)))).bind fun r7 => (bif (!(eqS r7 s_)) then ((C4 (r5.2.left.extract (Int.toNat 2) (Int.toNat ((r5.2.left.size : Nat) : Int)))).bind fun r8 => ((C5 r8 (16 : Int) (Qa.mk (r5.2.left.extract (Int.toNat 2) (Int.toNat ((r5.2.left.size : Nat) : Int))) r5.2.deep r5.2.bad)).bind fun r9 => ((C6 r9.1 r9.2).bind fun r10 => (some (r10.1, r10.2))))) else ((C7 r5.2.left).bind fun r11 => (bif (!(eqS r11 s_)) then ((C5 r11 (10 : Int) r5.2).bind fun r12 => ((C6 r12.1 r12.2).bind fun r13 => (some (r13.1, r13.2)))) else ((C8 r5.2.left).bind fun r14 => ((C9 r14).bind fun r15 => (bif r15 then (bif (decide (0 ≤ ((r14.size : Nat) : Int) ∧ ((r14.size : Nat) : Int) ≤ ((r5.2.left.size : Nat) : Int) ∧ ((r5.2.left.size : Nat) : Int) ≤ ((r5.2.left.size : Nat) : Int))) then (some ((Qd.mk (2 : Int) (0 : Int) r14 ([] : List Qd)), (Qa.mk (r5.2.left.extract (Int.toNat ((r14.size : Nat) : Int)) (Int.toNat ((r5.2.left.size : Nat) : Int))) r5.2.deep r5.2.bad))) else none) else ((C10 r5.2).bind fun r16 => (some (r16.1, r16.2)))))))))) else none) else ((C7 r5.2.left).bind fun r17 => (bif (!(eqS r17 s_)) then ((C5 r17 (10 : Int) r5.2).bind fun r18 => ((C6 r18.1 r18.2).bind fun r19 => (some (r19.1, r19.2)))) else ((C8 r5.2.left).bind fun r20 => ((C9 r20).bind fun r21 => (bif r21 then (bif (decide (0 ≤ ((r20.size : Nat) : Int) ∧ ((r20.size : Nat) : Int) ≤ ((r5.2.left.size : Nat) : Int) ∧ ((r5.2.left.size : Nat) : Int) ≤ ((r5.2.left.size : Nat) : Int))) then (some ((Qd.mk (2 : Int) (0 : Int) r20 ([] : List Qd)), (Qa.mk (r5.2.left.extract (Int.toNat ((r20.size : Nat) : Int)) (Int.toNat ((r5.2.left.size : Nat) : Int))) r5.2.deep r5.2.bad))) else none) else ((C10 r5.2).bind fun r22 => (some (r22.1, r22.2)))))))))))))))))
def EW (P : Pg) (w : Cf) (C0 : QX) (C1 : W8) (C2 : Wu) (C3 : WH) (C4 : Su) (C5 : W5) (C6 : Xq) (C7 : XL) (C8 : Vv) (C9 : Fr) (C10 : Qm) (h0 : Qa) : Tr (Qd × Qa) AH := (.call (Ym w h_28 h0) (C0 h_28 h0) VA fun r1 => (.as r1.1 (.call (QaI w r1.2) (C1 r1.2) YE fun r2 => (rt Uf (r2.1, r2.2))) (.call (Ym w h_2d r1.2) (C0 h_2d r1.2) VA fun r3 => (.as r3.1 (.call (P9 w r3.2) (C2 r3.2) X7 fun r4 => (rt Uf (r4.1, r4.2))) (.call (Ym w h_2e r3.2) (C0 h_2e r3.2) VA fun r5 => (.as r5.1 (rt Uf ((Qd.mk (zi 3) i0 s_ ([] : List Qd)), r5.2)) (.as r5.2.bad (rt Uf ((Qd.mk i0 i0 s_ ([] : List Qd)), r5.2)) (.call (SD w r5.2.left) (C3 r5.2.left) ZN fun r6 => (.as r6 (yesN 4 r6 (let u58 := (in2 (zi 2) (zz r5.2.left) (zz r5.2.left)); .as u58 (.yes r6 (.call (QhU w (cu r5.2.left (zi 2) (zz r5.2.left))) (C4 (cu r5.2.left (zi 2) (zz r5.2.left))) SE fun r7 => (yesN 2 r6 (.as (!(eqS r7 s_)) (.yes u58 (.call (QhU w (cu r5.2.left (zi 2) (zz r5.2.left))) (C4 (cu r5.2.left (zi 2) (zz r5.2.left))) SE fun r8 => (.call (Ge w r8 (zi 16) (Qa.mk (cu r5.2.left (zi 2) (zz r5.2.left)) r5.2.deep r5.2.bad)) (C5 r8 (zi 16) (Qa.mk (cu r5.2.left (zi 2) (zz r5.2.left)) r5.2.deep r5.2.bad)) WI fun r9 => (.call (GT w r9.1 r9.2) (C6 r9.1 r9.2) W6 fun r10 => (rt Uf (r10.1, r10.2)))))) (.call (QbQ w r5.2.left) (C7 r5.2.left) EG fun r11 => (.as (!(eqS r11 s_)) (.call (Ge w r11 (zi 10) r5.2) (C5 r11 (zi 10) r5.2) WI fun r12 => (.call (GT w r12.1 r12.2) (C6 r12.1 r12.2) W6 fun r13 => (rt Uf (r13.1, r13.2)))) (.call (P6 w r5.2.left) (C8 r5.2.left) Gq fun r14 => (.call (QeN w r14) (C9 r14) X6 fun r15 => (.as r15 (.as (in2 (zz r14) (zz r5.2.left) (zz r5.2.left)) (rt Uf ((Qd.mk (zi 2) i0 r14 ([] : List Qd)), (Qa.mk (cu r5.2.left (zz r14) (zz r5.2.left)) r5.2.deep r5.2.bad))) .fail) (.call (V4 w r5.2) (C10 r5.2) Ve fun r16 => (rt Uf (r16.1, r16.2)))))))))))) .fail)) (noN 7 r6 (.no false (.call (QbQ w r5.2.left) (C7 r5.2.left) EG fun r17 => (.as (!(eqS r17 s_)) (.call (Ge w r17 (zi 10) r5.2) (C5 r17 (zi 10) r5.2) WI fun r18 => (.call (GT w r18.1 r18.2) (C6 r18.1 r18.2) W6 fun r19 => (rt Uf (r19.1, r19.2)))) (.call (P6 w r5.2.left) (C8 r5.2.left) Gq fun r20 => (.call (QeN w r20) (C9 r20) X6 fun r21 => (.as r21 (.as (in2 (zz r20) (zz r5.2.left) (zz r5.2.left)) (rt Uf ((Qd.mk (zi 2) i0 r20 ([] : List Qd)), (Qa.mk (cu r5.2.left (zz r20) (zz r5.2.left)) r5.2.deep r5.2.bad))) .fail) (.call (V4 w r5.2) (C10 r5.2) Ve fun r22 => (rt Uf (r22.1, r22.2)))))))))))))))))))
theorem QiO (w : Cf) (C0 : QX) (C1 : W8) (C2 : Wu) (C3 : WH) (C4 : Su) (C5 : W5) (C6 : Xq) (C7 : XL) (C8 : Vv) (C9 : Fr) (C10 : Qm) (h0 : Qa) : (EW pp w C0 C1 C2 C3 C4 C5 C6 C7 C8 C9 C10 h0).norm (bodyT pp w G 243 (EU h0).1 (EU h0).2) = EW pp w C0 C1 C2 C3 C4 C5 C6 C7 C8 C9 C10 h0 := by kernel_rfl
theorem QiP (P : Pg) (w : Cf) (lp : Lo) (C0 : QX) (C1 : W8) (C2 : Wu) (C3 : WH) (C4 : Su) (C5 : W5) (C6 : Xq) (C7 : XL) (C8 : Vv) (C9 : Fr) (C10 : Qm) (K0 : Z5 w C0) (K1 : Qba w C1) (K2 : SF w C2) (K3 : Qav w C3) (K4 : Qny w C4) (K5 : Qa8 w C5) (K6 : Qcm w C6) (K7 : Qgd w C7) (K8 : QcX w C8) (K9 : QkB w C9) (K10 : WZ w C10) (h0 : Qa) : (EW P w C0 C1 C2 C3 C4 C5 C6 C7 C8 C9 C10 h0).ok lp Uf := fun r1 hr1 => ⟨K0 _ _ _ hr1, ⟨rfl, fun q0 => fun r2 hr2 => ⟨K1 _ _ hr2, rfl⟩, fun q0 => fun r3 hr3 => ⟨K0 _ _ _ hr3, ⟨rfl, fun q1 => fun r4 hr4 => ⟨K2 _ _ hr4, rfl⟩, fun q1 => fun r5 hr5 => ⟨K0 _ _ _ hr5, ⟨rfl, fun q2 => rfl, fun q2 => ⟨rfl, fun q3 => rfl, fun q3 => fun r6 hr6 => ⟨K3 _ _ hr6, ⟨rfl, fun q4 => Qr 4 (q4) (⟨rfl, fun q5 => ⟨q4, fun r7 hr7 => ⟨K4 _ _ hr7, Qr 2 (q4) (⟨rfl, fun q6 => ⟨q5, fun r8 hr8 => ⟨K4 _ _ hr8, fun r9 hr9 => ⟨K5 _ _ _ _ hr9, fun r10 hr10 => ⟨K6 _ _ _ hr10, rfl⟩⟩⟩⟩, fun q6 => fun r11 hr11 => ⟨K7 _ _ hr11, ⟨rfl, fun q7 => fun r12 hr12 => ⟨K5 _ _ _ _ hr12, fun r13 hr13 => ⟨K6 _ _ _ hr13, rfl⟩⟩, fun q7 => fun r14 hr14 => ⟨K8 _ _ hr14, fun r15 hr15 => ⟨K9 _ _ hr15, ⟨rfl, fun q8 => ⟨rfl, fun q9 => rfl, fun q9 => trivial⟩, fun q8 => fun r16 hr16 => ⟨K10 _ _ hr16, rfl⟩⟩⟩⟩⟩⟩⟩)⟩⟩, fun q5 => trivial⟩), fun q4 => noN_ok 7 (q4) (⟨rfl, fun r17 hr17 => ⟨K7 _ _ hr17, ⟨rfl, fun q5 => fun r18 hr18 => ⟨K5 _ _ _ _ hr18, fun r19 hr19 => ⟨K6 _ _ _ hr19, rfl⟩⟩, fun q5 => fun r20 hr20 => ⟨K8 _ _ hr20, fun r21 hr21 => ⟨K9 _ _ hr21, ⟨rfl, fun q6 => ⟨rfl, fun q7 => rfl, fun q7 => trivial⟩, fun q6 => fun r22 hr22 => ⟨K10 _ _ hr22, rfl⟩⟩⟩⟩⟩⟩⟩)⟩⟩⟩⟩⟩⟩⟩⟩⟩
theorem QcJ {C0 : Nat → QX} {D0 : QX} (H0 : Cv2 C0 D0) {C1 : Nat → W8} {D1 : W8} (H1 : Cv1 C1 D1) {C2 : Nat → Wu} {D2 : Wu} (H2 : Cv1 C2 D2) {C3 : Nat → WH} {D3 : WH} (H3 : Cv1 C3 D3) {C4 : Nat → Su} {D4 : Su} (H4 : Cv1 C4 D4) {C5 : Nat → W5} {D5 : W5} (H5 : Cv3 C5 D5) {C6 : Nat → Xq} {D6 : Xq} (H6 : Cv2 C6 D6) {C7 : Nat → XL} {D7 : XL} (H7 : Cv1 C7 D7) {C8 : Nat → Vv} {D8 : Vv} (H8 : Cv1 C8 D8) {C9 : Nat → Fr} {D9 : Fr} (H9 : Cv1 C9 D9) {C10 : Nat → Qm} {D10 : Qm} (H10 : Cv1 C10 D10) (h0 : Qa) : Cv (fun k => Wl (C0 k) (C1 k) (C2 k) (C3 k) (C4 k) (C5 k) (C6 k) (C7 k) (C8 k) (C9 k) (C10 k) h0) (Wl D0 D1 D2 D3 D4 D5 D6 D7 D8 D9 D10 h0) := by
  unfold Wl
  exact .bind (H0 _ _) fun r1 => .cond (.bind (H1 _) fun r2 => by exact .const _) (.bind (H0 _ _) fun r3 => .cond (.bind (H2 _) fun r4 => by exact .const _) (.bind (H0 _ _) fun r5 => .cond cst (.cond cst (.bind (H3 _) fun r6 => .cond (.cond (.bind (H4 _) fun r7 => .cond (.bind (H4 _) fun r8 => .bind (H5 _ _ _) fun r9 => .bind (H6 _ _) fun r10 => by exact .const _) (.bind (H7 _) fun r11 => .cond (.bind (H5 _ _ _) fun r12 => .bind (H6 _ _) fun r13 => by exact .const _) (.bind (H8 _) fun r14 => .bind (H9 _) fun r15 => .cond cst (.bind (H10 _) fun r16 => by exact .const _)))) cst) (.bind (H7 _) fun r17 => .cond (.bind (H5 _ _ _) fun r18 => .bind (H6 _ _) fun r19 => by exact .const _) (.bind (H8 _) fun r20 => .bind (H9 _) fun r21 => .cond cst (.bind (H10 _) fun r22 => by exact .const _)))))))
structure QP where
  x1 : Int
  x6 : Int
  h0 : Qa
  h1 : Qd
  h2 : Qd
structure Jt where
  h0 : Qa
  h1 : Qd
  h2 : Qd
def XM (a : QP) : St := { n := 47, nx := 3, env := [(0, .ptr 0 0), (1, xi a.x1), (4, .ptr 1 0), (5, .ptr 2 0), (6, xi a.x6)], heap := [(0, .box [] (QW a.h0)), (1, .box [] (UB a.h1)), (2, .box [] (UB a.h2))] }
def XN (a : Jt) : Ex × St := (.exit 0, { n := 47, nx := 3, env := [(4, .ptr 1 0), (5, .ptr 2 0)], heap := [(0, .box [] (QW a.h0)), (1, .box [] (UB a.h1)), (2, .box [] (UB a.h2))] })
abbrev W9 := QP → Option Jt
abbrev Qg0 (P : Pg) (lp : Lo) (l : W9) : Prop := ∀ (a : QP) (r : Jt), l a = some r → lp (loopAt P 215 5) (XM a) = some (XN r)
def WM (C0 : QA) (C1 : Uw) (C2 : Jl) (a : QP) : Option (QP ⊕ Jt) := (bif (a.x6 != 0) then (bif (!a.h0.bad) then ((C0 (w64 (a.x1 + 1)) a.h0).bind fun r1 => ((C1).bind fun r2 => (bif (decide (0 ≤ a.x1)) then ((r2[(Int.toNat a.x1)]?).bind fun e3 => ((C2 e3 r1.2).bind fun r4 => (some (.inl (QP.mk a.x1 r4.1 r4.2 a.h1 (Qd.mk a.x6 (0 : Int) s_ [a.h2, r1.1])))))) else none))) else (some (.inr (Jt.mk a.h0 a.h1 a.h2)))) else (some (.inr (Jt.mk a.h0 a.h1 a.h2))))
def Gi (P : Pg) (w : Cf) (C0 : QA) (C1 : Uw) (C2 : Jl) (a : QP) : Tr (QP ⊕ Jt) XS := (let u59 := (a.x6 != 0); .as u59 (yesN 5 u59 (.as (!a.h0.bad) (.call (Z6 w (w64 (a.x1 + 1)) a.h0) (C0 (w64 (a.x1 + 1)) a.h0) W1 fun r1 => (.rows [[xi a.h2.Kind, xi a.h2.N, xs a.h2.Name, .sl (V2 a.h2.L)], [xi r1.1.Kind, xi r1.1.N, xs r1.1.Name, .sl (V2 r1.1.L)]] (V2 [a.h2, r1.1]) (.call (Sl w) (C1) Ea fun r2 => (.as (decide (0 ≤ a.x1)) (.row ((Qb3 r2)[(Int.toNat a.x1)]?) (r2[(Int.toNat a.x1)]?) Qhr fun (e3 : (List Int)) => (.call (Pd w e3 r1.2) (C2 e3 r1.2) Yn fun r4 => (lf XM (QP.mk a.x1 r4.1 r4.2 a.h1 (Qd.mk a.x6 i0 s_ [a.h2, r1.1]))))) .fail)))) (rx XN (Jt.mk a.h0 a.h1 a.h2)))) (noN 5 u59 (.no false (rx XN (Jt.mk a.h0 a.h1 a.h2)))))
theorem Qgh (w : Cf) (C0 : QA) (C1 : Uw) (C2 : Jl) (a : QP) : (Gi pp w C0 C1 C2 a).norm (roundT pp G.kd w 1 (G.an 215) (loopAt pp 215 5) (XM a)) = Gi pp w C0 C1 C2 a := by kernel_rfl
theorem Qgi (P : Pg) (w : Cf) (lp : Lo) (C0 : QA) (C1 : Uw) (C2 : Jl) (K0 : Yb w C0) (K1 : Qau w C1) (K2 : ET w C2) (a : QP) : (Gi P w C0 C1 C2 a).ok lp (Sum.elim (fun a => (.norm, XM a)) XN) := ⟨rfl, fun q0 => Qr 5 (q0) (⟨rfl, fun q1 => fun r1 hr1 => ⟨K0 _ _ _ hr1, ⟨(Qbi [a.h2, r1.1]), fun r2 hr2 => ⟨K1 _ hr2, ⟨rfl, fun q2 => fun e3 h => ⟨Qkf h, fun r4 hr4 => ⟨K2 _ _ _ hr4, rfl⟩⟩, fun q2 => trivial⟩⟩⟩⟩, fun q1 => rfl⟩), fun q0 => noN_ok 5 (q0) (⟨rfl, rfl⟩)⟩
theorem QaK {C0 : Nat → QA} {D0 : QA} (H0 : Cv2 C0 D0) {C1 : Nat → Uw} {D1 : Uw} (H1 : Cv C1 D1) {C2 : Nat → Jl} {D2 : Jl} (H2 : Cv2 C2 D2) (a : QP) : Cv (fun k => WM (C0 k) (C1 k) (C2 k) a) (WM D0 D1 D2 a) := by
  unfold WM
  exact .cond (.cond (.bind (H0 _ _) fun r1 => .bind (H1) fun r2 => .cond (.bind (.const _) fun e3 => .bind (H2 _ _) fun r4 => by exact .const _) cst) cst) cst
def Q1.s (k : Nat) (C0 : QA) (C1 : Uw) (C2 : Jl) : QP → Option Jt := iter (WM C0 C1 C2) k
theorem Qfz (w : Cf) (k : Nat) (C0 : QA) (C1 : Uw) (C2 : Jl) (K0 : Yb w C0) (K1 : Qau w C1) (K2 : ET w C2) (a : QP) (r : Jt) (h : Q1.s k C0 C1 C2 a = some r) : loopsF pp G.kd w 1 (G.an 215) k (loopAt pp 215 5) (XM a) = some (XN r) :=
  VZ (fun a => Gi pp w C0 C1 C2 a) (fun _ => rfl) (fun a => Qgh w _ _ _ a) (fun a => Qgi _ w _ _ _ _ K0 K1 K2 a) (fun r => nofun) h
theorem Q1.m {j k : Nat} (hj : j ≤ k) (C0 : QA) (C1 : Uw) (C2 : Jl) (D0 : QA) (D1 : Uw) (D2 : Jl) (H0 : Le2 C0 D0) (H1 : Le C1 D1) (H2 : Le2 C2 D2) (a : QP) : Le (Q1.s j C0 C1 C2 a) (Q1.s k D0 D1 D2 a) := Le.iter (fun a => (QaK (tw2 H0) (.two H1) (tw2 H2) a).1 0) hj a
noncomputable def Q1.w (C0 : QA) (C1 : Uw) (C2 : Jl) : QP → Option Jt := loopW (WM C0 C1 C2)
theorem Q1.cv (C0 : Nat → QA) (C1 : Nat → Uw) (C2 : Nat → Jl) (D0 : QA) (D1 : Uw) (D2 : Jl) (H0 : Cv2 C0 D0) (H1 : Cv C1 D1) (H2 : Cv2 C2 D2) (a : QP) : Cv (fun k => Q1.s k (C0 k) (C1 k) (C2 k) a) (Q1.w D0 D1 D2 a) := Cv.iter (fun a => QaK H0 H1 H2 a) a
def XX (C0 : Uw) (C1 : U2) (C2 : QA) (C3 : Jl) (L4 : W9) (a1 : Int) (h0 : Qa) : Option (Qd × Qa) := ((C0).bind fun r1 => (bif (a1 == (((r1.length) : Nat) : Int)) then ((C1 h0).bind fun r2 => (some (r2.1, r2.2))) else ((C2 (w64 (a1 + 1)) h0).bind fun r3 => ((C0).bind fun r4 => (bif (decide (0 ≤ a1)) then ((r4[(Int.toNat a1)]?).bind fun e5 => ((C3 e5 r3.2).bind fun r6 => ((L4 (QP.mk a1 r6.1 r6.2 (Qd.mk (0 : Int) (0 : Int) s_ ([] : List Qd)) r3.1)).bind (fun (o7 : Jt) => (some (o7.h2, o7.h0)))))) else none)))))
def EX (P : Pg) (w : Cf) (C0 : Uw) (C1 : U2) (C2 : QA) (C3 : Jl) (L4 : W9) (a1 : Int) (h0 : Qa) : Tr (Qd × Qa) AH := (.call (Sl w) (C0) Ea fun r1 => (.num ((Qb3 r1).length) (r1.length) (.as (a1 == (((r1.length) : Nat) : Int)) (.call (PU w h0) (C1 h0) Uf fun r2 => (rt W1 (r2.1, r2.2))) (.call (Z6 w (w64 (a1 + 1)) h0) (C2 (w64 (a1 + 1)) h0) W1 fun r3 => (.call (Sl w) (C0) Ea fun r4 => (.as (decide (0 ≤ a1)) (.row ((Qb3 r4)[(Int.toNat a1)]?) (r4[(Int.toNat a1)]?) Qhr fun (e5 : (List Int)) => (.call (Pd w e5 r3.2) (C3 e5 r3.2) Yn fun r6 => (.loop (loopAt P 215 5) (XM (QP.mk a1 r6.1 r6.2 (Qd.mk i0 i0 s_ ([] : List Qd)) r3.1)) (L4 (QP.mk a1 r6.1 r6.2 (Qd.mk i0 i0 s_ ([] : List Qd)) r3.1)) XN (fun (o7 : Jt) => (rt W1 (o7.h2, o7.h0)))))) .fail))))))
theorem QiQ (w : Cf) (C0 : Uw) (C1 : U2) (C2 : QA) (C3 : Jl) (L4 : W9) (a1 : Int) (h0 : Qa) : (EX pp w C0 C1 C2 C3 L4 a1 h0).norm (bodyT pp w G 215 (EV a1 h0).1 (EV a1 h0).2) = EX pp w C0 C1 C2 C3 L4 a1 h0 := by kernel_rfl
theorem QiR (P : Pg) (w : Cf) (lp : Lo) (C0 : Uw) (C1 : U2) (C2 : QA) (C3 : Jl) (L4 : W9) (K0 : Qau w C0) (K1 : Sv w C1) (K2 : Yb w C2) (K3 : ET w C3) (N4 : Qg0 P lp L4) (a1 : Int) (h0 : Qa) : (EX P w C0 C1 C2 C3 L4 a1 h0).ok lp W1 := fun r1 hr1 => ⟨K0 _ hr1, ⟨(Qqf _), ⟨rfl, fun q0 => fun r2 hr2 => ⟨K1 _ _ hr2, rfl⟩, fun q0 => fun r3 hr3 => ⟨K2 _ _ _ hr3, fun r4 hr4 => ⟨K0 _ hr4, ⟨rfl, fun q1 => fun e5 h => ⟨Qkf h, fun r6 hr6 => ⟨K3 _ _ _ hr6, fun o7 ho7 => ⟨N4 _ _ ho7, rfl⟩⟩⟩, fun q1 => trivial⟩⟩⟩⟩⟩⟩
theorem QcK {C0 : Nat → Uw} {D0 : Uw} (H0 : Cv C0 D0) {C1 : Nat → U2} {D1 : U2} (H1 : Cv1 C1 D1) {C2 : Nat → QA} {D2 : QA} (H2 : Cv2 C2 D2) {C3 : Nat → Jl} {D3 : Jl} (H3 : Cv2 C3 D3) {L4 : Nat → W9} {M4 : W9} (N4 : Cv1 L4 M4) (a1 : Int) (h0 : Qa) : Cv (fun k => XX (C0 k) (C1 k) (C2 k) (C3 k) (L4 k) a1 h0) (XX D0 D1 D2 D3 M4 a1 h0) := by
  unfold XX
  exact .bind (H0) fun r1 => .cond (.bind (H1 _) fun r2 => by exact .const _) (.bind (H2 _ _) fun r3 => .bind (H0) fun r4 => .cond (.bind (.const _) fun e5 => .bind (H3 _ _) fun r6 => .bind (N4 _) (fun o7 => by exact .const _)) cst)
mutual
def Jm.s : Nat → Qa → Option (Qd × Qa)
  | 0, _ => none
  | k + 1, h0 => X1 (fun a1 h0 => Qh.s k a1 h0) (QD.s k) (Qk.s k) h0
termination_by structural k => k
def QG.s : Nat → Qa → Option (Qd × Qa)
  | 0, _ => none
  | k + 1, h0 => WL (Qk.s k) (fun h0 => Jm.s k h0) h0
termination_by structural k => k
def Jn.s : Nat → Qa → Option (Qd × Qa)
  | 0, _ => none
  | k + 1, h0 => X2 (fun h0 => Qu.s k h0) h0
termination_by structural k => k
def Qz.s : Nat → Qa → Option (Qd × Qa)
  | 0, _ => none
  | k + 1, h0 => V7 (Qk.s k) (fun h0 => Jn.s k h0) h0
termination_by structural k => k
def Qu.s : Nat → Qa → Option (Qd × Qa)
  | 0, _ => none
  | k + 1, h0 => Wl (QD.s k) (fun h0 => QG.s k h0) (fun h0 => Qz.s k h0) (Jz.s k) (YQ.s k) (Jq.s k) (JA.s k) (Vn.s k) (Ul.s k) (W0.s k) (Qk.s k) h0
termination_by structural k => k
def Qh.s : Nat → Int → Qa → Option (Qd × Qa)
  | 0, _, _ => none
  | k + 1, a1, h0 => XX (JT.s k) (fun h0 => Qu.s k h0) (fun a1 h0 => Qh.s k a1 h0) (QI.s k) (Q1.s k (fun a1 h0 => Qh.s k a1 h0) (JT.s k) (QI.s k)) a1 h0
termination_by structural k => k
end
theorem SG : ∀ (k : Nat), (Qcn (ev k) (Jm.s k)) ∧ (Qba (ev k) (QG.s k)) ∧ (Qco (ev k) (Jn.s k)) ∧ (SF (ev k) (Qz.s k)) ∧ (Sv (ev k) (Qu.s k)) ∧ (Yb (ev k) (Qh.s k))
  | 0 => ⟨fun _ _ h => (nomatch h), fun _ _ h => (nomatch h), fun _ _ h => (nomatch h), fun _ _ h => (nomatch h), fun _ _ h => (nomatch h), fun _ _ _ h => (nomatch h)⟩
  | k + 1 => by
    obtain ⟨i_expr_parser_group, i_expr_parser_within, i_expr_parser_minus, i_expr_parser_within_2, i_expr_parser_one, i_expr_parser_two⟩ := SG k
    exact ⟨fun h0 r h => fn_ok rfl (GY pp (ev k) (Qh.s k) (QD.s k) (Qk.s k) h0) (QgW _ _ _ _ h0) (QgX _ _ _ _ _ _ (i_expr_parser_two) (QD.ok k) (Qk.ok k) h0) h,
      fun h0 r h => fn_ok rfl (Gh pp (ev k) (Qk.s k) (Jm.s k) h0) (Qgf _ _ _ h0) (Qgg _ _ _ _ _ (Qk.ok k) (i_expr_parser_group) h0) h,
      fun h0 r h => fn_ok rfl (GZ pp (ev k) (Qu.s k) h0) (QgY _ _ h0) (QgZ _ _ _ _ (i_expr_parser_one) h0) h,
      fun h0 r h => fn_ok rfl (Zw pp (ev k) (Qk.s k) (Jn.s k) h0) (QeQ _ _ _ h0) (QeR _ _ _ _ _ (Qk.ok k) (i_expr_parser_minus) h0) h,
      fun h0 r h => fn_ok rfl (EW pp (ev k) (QD.s k) (QG.s k) (Qz.s k) (Jz.s k) (YQ.s k) (Jq.s k) (JA.s k) (Vn.s k) (Ul.s k) (W0.s k) (Qk.s k) h0) (QiO _ _ _ _ _ _ _ _ _ _ _ _ h0) (QiP _ _ _ _ _ _ _ _ _ _ _ _ _ _ (QD.ok k) (i_expr_parser_within) (i_expr_parser_within_2) (Jz.ok k) (YQ.ok k) (Jq.ok k) (JA.ok k) (Vn.ok k) (Ul.ok k) (W0.ok k) (Qk.ok k) h0) h,
      fun a1 h0 r h => fn_ok rfl (EX pp (ev k) (JT.s k) (Qu.s k) (Qh.s k) (QI.s k) (Q1.s k (Qh.s k) (JT.s k) (QI.s k)) a1 h0) (QiQ _ _ _ _ _ _ a1 h0) (QiR _ _ _ _ _ _ _ _ (JT.ok k) (i_expr_parser_one) (i_expr_parser_two) (QI.ok k) (Qfz _ k _ _ _ (i_expr_parser_two) (JT.ok k) (QI.ok k)) a1 h0) h⟩
theorem Qh.ok (k : Nat) : Yb (ev k) (Qh.s k) := (SG k).2.2.2.2.2
theorem V8 : ∀ (k : Nat), (∀ (h0 : Qa), Le (Jm.s k h0) (Jm.s (k + 1) h0)) ∧ (∀ (h0 : Qa), Le (QG.s k h0) (QG.s (k + 1) h0)) ∧ (∀ (h0 : Qa), Le (Jn.s k h0) (Jn.s (k + 1) h0)) ∧ (∀ (h0 : Qa), Le (Qz.s k h0) (Qz.s (k + 1) h0)) ∧ (∀ (h0 : Qa), Le (Qu.s k h0) (Qu.s (k + 1) h0)) ∧ (∀ (a1 : Int) (h0 : Qa), Le (Qh.s k a1 h0) (Qh.s (k + 1) a1 h0))
  | 0 => ⟨fun _ _ h => (nomatch h), fun _ _ h => (nomatch h), fun _ _ h => (nomatch h), fun _ _ h => (nomatch h), fun _ _ h => (nomatch h), fun _ _ _ h => (nomatch h)⟩
  | k + 1 => by
    obtain ⟨i_expr_parser_group, i_expr_parser_within, i_expr_parser_minus, i_expr_parser_within_2, i_expr_parser_one, i_expr_parser_two⟩ := V8 k
    exact ⟨fun h0 => (Qbc (tw2 (i_expr_parser_two)) (tw2 (fun a1 h0 => (QD.cv a1 h0).1 k)) (tw1 (fun h0 => (Qk.cv h0).1 k)) h0).1 0,
      fun h0 => (QaJ (tw1 (fun h0 => (Qk.cv h0).1 k)) (tw1 (i_expr_parser_group)) h0).1 0,
      fun h0 => (Qbd (tw1 (i_expr_parser_one)) h0).1 0,
      fun h0 => (Sa (tw1 (fun h0 => (Qk.cv h0).1 k)) (tw1 (i_expr_parser_minus)) h0).1 0,
      fun h0 => (QcJ (tw2 (fun a1 h0 => (QD.cv a1 h0).1 k)) (tw1 (i_expr_parser_within)) (tw1 (i_expr_parser_within_2)) (tw1 (fun a0 => (Jz.cv a0).1 k)) (tw1 (fun a0 => (YQ.cv a0).1 k)) (tw3 (fun a1 a2 h0 => (Jq.cv a1 a2 h0).1 k)) (tw2 (fun a1 h0 => (JA.cv a1 h0).1 k)) (tw1 (fun a0 => (Vn.cv a0).1 k)) (tw1 (fun a0 => (Ul.cv a0).1 k)) (tw1 (fun a0 => (W0.cv a0).1 k)) (tw1 (fun h0 => (Qk.cv h0).1 k)) h0).1 0,
      fun a1 h0 => (QcK (.two (JT.cv.1 k)) (tw1 (i_expr_parser_one)) (tw2 (i_expr_parser_two)) (tw2 (fun a1 h0 => (QI.cv a1 h0).1 k)) (tw1 (Q1.m (Nat.le_succ k) (Qh.s k) (JT.s k) (QI.s k) (Qh.s (k + 1)) (JT.s (k + 1)) (QI.s (k + 1)) (i_expr_parser_two) (JT.cv.1 k) (fun a1 h0 => (QI.cv a1 h0).1 k))) a1 h0).1 0⟩
theorem Jm.mono (k : Nat) : ∀ (h0 : Qa), Le (Jm.s k h0) (Jm.s (k + 1) h0) := (V8 k).1
theorem QG.mono (k : Nat) : ∀ (h0 : Qa), Le (QG.s k h0) (QG.s (k + 1) h0) := (V8 k).2.1
theorem Jn.mono (k : Nat) : ∀ (h0 : Qa), Le (Jn.s k h0) (Jn.s (k + 1) h0) := (V8 k).2.2.1
theorem Qz.mono (k : Nat) : ∀ (h0 : Qa), Le (Qz.s k h0) (Qz.s (k + 1) h0) := (V8 k).2.2.2.1
theorem Qu.mono (k : Nat) : ∀ (h0 : Qa), Le (Qu.s k h0) (Qu.s (k + 1) h0) := (V8 k).2.2.2.2.1
theorem Qh.mono (k : Nat) : ∀ (a1 : Int) (h0 : Qa), Le (Qh.s k a1 h0) (Qh.s (k + 1) a1 h0) := (V8 k).2.2.2.2.2
noncomputable def Jm (h0 : Qa) : Option (Qd × Qa) := lim fun k => Jm.s k h0
theorem Jm.cv (h0 : Qa) : Cv (fun k => Jm.s k h0) (Jm h0) := .lim fun k => Jm.mono k h0
noncomputable def QG (h0 : Qa) : Option (Qd × Qa) := lim fun k => QG.s k h0
theorem QG.cv (h0 : Qa) : Cv (fun k => QG.s k h0) (QG h0) := .lim fun k => QG.mono k h0
noncomputable def Jn (h0 : Qa) : Option (Qd × Qa) := lim fun k => Jn.s k h0
theorem Jn.cv (h0 : Qa) : Cv (fun k => Jn.s k h0) (Jn h0) := .lim fun k => Jn.mono k h0
noncomputable def Qz (h0 : Qa) : Option (Qd × Qa) := lim fun k => Qz.s k h0
theorem Qz.cv (h0 : Qa) : Cv (fun k => Qz.s k h0) (Qz h0) := .lim fun k => Qz.mono k h0
noncomputable def Qu (h0 : Qa) : Option (Qd × Qa) := lim fun k => Qu.s k h0
theorem Qu.cv (h0 : Qa) : Cv (fun k => Qu.s k h0) (Qu h0) := .lim fun k => Qu.mono k h0
noncomputable def Qh (a1 : Int) (h0 : Qa) : Option (Qd × Qa) := lim fun k => Qh.s k a1 h0
theorem Qh.cv (a1 : Int) (h0 : Qa) : Cv (fun k => Qh.s k a1 h0) (Qh a1 h0) := .lim fun k => Qh.mono k a1 h0
noncomputable def Q1 : QP → Option Jt := Q1.w Qh JT QI
theorem Q1.eq (a : QP) : Q1 a = (WM Qh JT QI a).bind (Sum.elim Q1 some) := UO _ _
theorem Jm.eq (h0 : Qa) : Jm h0 = X1 Qh QD Qk h0 := Cv.uniq (Jm.cv h0).shift (Qbc Qh.cv QD.cv Qk.cv h0)
theorem QG.eq (h0 : Qa) : QG h0 = WL Qk Jm h0 := Cv.uniq (QG.cv h0).shift (QaJ Qk.cv Jm.cv h0)
theorem Jn.eq (h0 : Qa) : Jn h0 = X2 Qu h0 := Cv.uniq (Jn.cv h0).shift (Qbd Qu.cv h0)
theorem Qz.eq (h0 : Qa) : Qz h0 = V7 Qk Jn h0 := Cv.uniq (Qz.cv h0).shift (Sa Qk.cv Jn.cv h0)
theorem Qu.eq (h0 : Qa) : Qu h0 = Wl QD QG Qz Jz YQ Jq JA Vn Ul W0 Qk h0 := Cv.uniq (Qu.cv h0).shift (QcJ QD.cv QG.cv Qz.cv Jz.cv YQ.cv Jq.cv JA.cv Vn.cv Ul.cv W0.cv Qk.cv h0)
theorem Qh.eq (a1 : Int) (h0 : Qa) : Qh a1 h0 = XX JT Qu Qh QI Q1 a1 h0 := Cv.uniq (Qh.cv a1 h0).shift (QcK JT.cv Qu.cv Qh.cv QI.cv (Q1.cv (fun k => Qh.s k) (fun k => JT.s k) (fun k => QI.s k) Qh JT QI Qh.cv JT.cv QI.cv) a1 h0)
def E9 (r : (Qd × Bool)) : AV × Heap := (.tup [.agg (UB r.1), xo r.2], [])
abbrev EJ := ByteArray → Option (Qd × Bool)
abbrev QaL (a0 : ByteArray) : List AV × Heap := ([xs a0], [])
abbrev Qh1 (w : Cf) (a0 : ByteArray) : Option AH := w 179 (QaL a0).1 (QaL a0).2
abbrev Qjj (w : Cf) (c : EJ) : Prop := ∀ (a0 : ByteArray) (r : (Qd × Bool)), c a0 = some r → Qh1 w a0 = some (E9 r)
def GJ (C0 : QA) (C1 : Ui) (a0 : ByteArray) : Option (Qd × Bool) := ((C0 (0 : Int) (Qa.mk a0 (0 : Int) false)).bind fun r1 => ((C1 r1.2).bind fun r2 => (bif r2.bad then (some ((Qd.mk (0 : Int) (0 : Int) s_ ([] : List Qd)), false)) else (bif (!(eqS r2.left s_)) then (some ((Qd.mk (0 : Int) (0 : Int) s_ ([] : List Qd)), false)) else (some (r1.1, true))))))
def QaM (P : Pg) (w : Cf) (C0 : QA) (C1 : Ui) (a0 : ByteArray) : Tr (Qd × Bool) AH := (.call (Z6 w i0 (Qa.mk a0 i0 false)) (C0 i0 (Qa.mk a0 i0 false)) W1 fun r1 => (.call (Fp w r1.2) (C1 r1.2) YD fun r2 => (.as r2.bad (yesN 5 r2.bad (.yes true (rt E9 ((Qd.mk i0 i0 s_ ([] : List Qd)), false)))) (noN 5 r2.bad (.as (!(eqS r2.left s_)) (rt E9 ((Qd.mk i0 i0 s_ ([] : List Qd)), false)) (rt E9 (r1.1, true)))))))
theorem QnJ (w : Cf) (C0 : QA) (C1 : Ui) (a0 : ByteArray) : (QaM pp w C0 C1 a0).norm (bodyT pp w G 179 (QaL a0).1 (QaL a0).2) = QaM pp w C0 C1 a0 := by kernel_rfl
theorem QnK (P : Pg) (w : Cf) (lp : Lo) (C0 : QA) (C1 : Ui) (K0 : Yb w C0) (K1 : FK w C1) (a0 : ByteArray) : (QaM P w C0 C1 a0).ok lp E9 := fun r1 hr1 => ⟨K0 _ _ _ hr1, fun r2 hr2 => ⟨K1 _ _ hr2, ⟨rfl, fun q0 => Qr 5 (q0) (⟨rfl, rfl⟩), fun q0 => noN_ok 5 (q0) (⟨rfl, fun q1 => rfl, fun q1 => rfl⟩)⟩⟩⟩
theorem QnL {C0 : Nat → QA} {D0 : QA} (H0 : Cv2 C0 D0) {C1 : Nat → Ui} {D1 : Ui} (H1 : Cv1 C1 D1) (a0 : ByteArray) : Cv (fun k => GJ (C0 k) (C1 k) a0) (GJ D0 D1 a0) := by
  unfold GJ
  exact .bind (H0 _ _) fun r1 => .bind (H1 _) fun r2 => by exact .const _
def Vg.s : Nat → ByteArray → Option (Qd × Bool)
  | 0, _ => none
  | k + 1, a0 => GJ (Qh.s k) (Q0.s k) a0
theorem Vg.ok : ∀ (k : Nat), Qjj (ev k) (Vg.s k)
  | 0, _, _, h => (nomatch h)
  | k + 1, a0, r, h => fn_ok rfl (QaM pp (ev k) (Qh.s k) (Q0.s k) a0) (QnJ _ _ _ a0) (QnK _ _ _ _ _ (Qh.ok k) (Q0.ok k) a0) h
noncomputable def Vg (a0 : ByteArray) : Option (Qd × Bool) := GJ Qh Q0 a0
theorem Vg.cv (a0 : ByteArray) : Cv (fun k => Vg.s k a0) (Vg a0) := .un rfl (QnL Qh.cv Q0.cv a0)
theorem Vg.eq (a0 : ByteArray) : Vg a0 = GJ Qh Q0 a0 := rfl
def G2 (r : (Bool × Qb)) : AV × Heap := (xo r.1, [(0, .box [0, 0, 0, 0, 0, 5] [xi r.2.x.Line, xs r.2.x.Label, xi r.2.x.Kind, xi r.2.x.Op, xs r.2.x.Text, .arr 2]), (2, .arr true 5 (QJ r.2.x.Args))])
abbrev UM := ByteArray → Qb → Option (Bool × Qb)
abbrev G3 (a1 : ByteArray) (h0 : Qb) : List AV × Heap := ([.ptr 0 0, xs a1], [(0, .box [0, 0, 0, 0, 0, 5] [xi h0.x.Line, xs h0.x.Label, xi h0.x.Kind, xi h0.x.Op, xs h0.x.Text, .arr 1]), (1, .arr true 5 (QJ h0.x.Args))])
abbrev Qbe (w : Cf) (a1 : ByteArray) (h0 : Qb) : Option AH := w 129 (G3 a1 h0).1 (G3 a1 h0).2
abbrev Pe (w : Cf) (c : UM) : Prop := ∀ (a1 : ByteArray) (h0 : Qb) (r : (Bool × Qb)), c a1 h0 = some r → Qbe w a1 h0 = some (G2 r)
def Xa (C0 : EJ) (a1 : ByteArray) (h0 : Qb) : Option (Bool × Qb) := ((C0 a1).bind fun r1 => (bif (decide ((h0.x.Args.length + [(Qg.mk (-1 : Int) r1.1)].length) * 64 ≤ most)) then (some (r1.2, (Qb.mk (Qf.mk h0.x.Line h0.x.Label h0.x.Kind h0.x.Op h0.x.Text (h0.x.Args ++ [(Qg.mk (-1 : Int) r1.1)]))))) else none))
def G4 (P : Pg) (w : Cf) (C0 : EJ) (a1 : ByteArray) (h0 : Qb) : Tr (Bool × Qb) AH := (.call (Qh1 w a1) (C0 a1) E9 fun r1 => (.rows [[xi (-1 : Int), xi r1.1.Kind, xi r1.1.N, xs r1.1.Name, .sl (V2 r1.1.L)]] (QJ [(Qg.mk (-1 : Int) r1.1)]) (.yes (decide ((QJ [(Qg.mk (-1 : Int) r1.1)]).all (fun r => r.length == 5) = true)) (.ask (decide (((QJ h0.x.Args).length + (QJ [(Qg.mk (-1 : Int) r1.1)]).length) * 64 ≤ most)) (decide ((h0.x.Args.length + [(Qg.mk (-1 : Int) r1.1)].length) * 64 ≤ most)) (.rows ((QJ h0.x.Args) ++ (QJ [(Qg.mk (-1 : Int) r1.1)])) (QJ (h0.x.Args ++ [(Qg.mk (-1 : Int) r1.1)])) (rt G2 (r1.2, (Qb.mk (Qf.mk h0.x.Line h0.x.Label h0.x.Kind h0.x.Op h0.x.Text (h0.x.Args ++ [(Qg.mk (-1 : Int) r1.1)])))))) .fail))))
theorem Qg1 (w : Cf) (C0 : EJ) (a1 : ByteArray) (h0 : Qb) : (G4 pp w C0 a1 h0).norm (bodyT pp w G 129 (G3 a1 h0).1 (G3 a1 h0).2) = G4 pp w C0 a1 h0 := by kernel_rfl
theorem Qg2 (P : Pg) (w : Cf) (lp : Lo) (C0 : EJ) (K0 : Qjj w C0) (a1 : ByteArray) (h0 : Qb) : (G4 P w C0 a1 h0).ok lp G2 := fun r1 hr1 => ⟨K0 _ _ hr1, ⟨(YW [(Qg.mk (-1 : Int) r1.1)]), ⟨(decide_eq_true (Qgx _)), ⟨(by rw [Fz, Fz]), fun q0 => ⟨(Qdl _ _), rfl⟩, fun q0 => trivial⟩⟩⟩⟩
theorem Qg3 {C0 : Nat → EJ} {D0 : EJ} (H0 : Cv1 C0 D0) (a1 : ByteArray) (h0 : Qb) : Cv (fun k => Xa (C0 k) a1 h0) (Xa D0 a1 h0) := by
  unfold Xa
  exact .bind (H0 _) fun r1 => by exact .const _
def JC.s : Nat → ByteArray → Qb → Option (Bool × Qb)
  | 0, _, _ => none
  | k + 1, a1, h0 => Xa (Vg.s k) a1 h0
theorem JC.ok : ∀ (k : Nat), Pe (ev k) (JC.s k)
  | 0, _, _, _, h => (nomatch h)
  | k + 1, a1, h0, r, h => fn_ok rfl (G4 pp (ev k) (Vg.s k) a1 h0) (Qg1 _ _ a1 h0) (Qg2 _ _ _ _ (Vg.ok k) a1 h0) h
noncomputable def JC (a1 : ByteArray) (h0 : Qb) : Option (Bool × Qb) := Xa Vg a1 h0
theorem JC.cv (a1 : ByteArray) (h0 : Qb) : Cv (fun k => JC.s k a1 h0) (JC a1 h0) := .un rfl (Qg3 Vg.cv a1 h0)
theorem JC.eq (a1 : ByteArray) (h0 : Qb) : JC a1 h0 = Xa Vg a1 h0 := rfl
def Et (r : (Bool × Qb)) : AV × Heap := (xo r.1, [(0, .box [0, 0, 0, 0, 0, 5] [xi r.2.x.Line, xs r.2.x.Label, xi r.2.x.Kind, xi r.2.x.Op, xs r.2.x.Text, .arr 2]), (2, .arr true 5 (QJ r.2.x.Args))])
abbrev Va := ByteArray → Qb → Option (Bool × Qb)
abbrev Eu (a1 : ByteArray) (h0 : Qb) : List AV × Heap := ([.ptr 0 0, xs a1], [(0, .box [0, 0, 0, 0, 0, 5] [xi h0.x.Line, xs h0.x.Label, xi h0.x.Kind, xi h0.x.Op, xs h0.x.Text, .arr 1]), (1, .arr true 5 (QJ h0.x.Args))])
abbrev Qcp (w : Cf) (a1 : ByteArray) (h0 : Qb) : Option AH := w 131 (Eu a1 h0).1 (Eu a1 h0).2
abbrev PV (w : Cf) (c : Va) : Prop := ∀ (a1 : ByteArray) (h0 : Qb) (r : (Bool × Qb)), c a1 h0 = some r → Qcp w a1 h0 = some (Et r)
def Xu (C0 : XH) (a1 : ByteArray) (h0 : Qb) : Option (Bool × Qb) := ((C0 a1).bind fun r1 => (some (r1, (Qb.mk (Qf.mk h0.x.Line h0.x.Label h0.x.Kind h0.x.Op a1 h0.x.Args)))))
def Ev (P : Pg) (w : Cf) (C0 : XH) (a1 : ByteArray) (h0 : Qb) : Tr (Bool × Qb) AH := (.call (QeC w a1) (C0 a1) X5 fun r1 => (rt Et (r1, (Qb.mk (Qf.mk h0.x.Line h0.x.Label h0.x.Kind h0.x.Op a1 h0.x.Args)))))
theorem Qh2 (w : Cf) (C0 : XH) (a1 : ByteArray) (h0 : Qb) : (Ev pp w C0 a1 h0).norm (bodyT pp w G 131 (Eu a1 h0).1 (Eu a1 h0).2) = Ev pp w C0 a1 h0 := by kernel_rfl
theorem Qh3 (P : Pg) (w : Cf) (lp : Lo) (C0 : XH) (K0 : Qf2 w C0) (a1 : ByteArray) (h0 : Qb) : (Ev P w C0 a1 h0).ok lp Et := fun r1 hr1 => ⟨K0 _ _ hr1, rfl⟩
theorem Qh4 {C0 : Nat → XH} {D0 : XH} (H0 : Cv1 C0 D0) (a1 : ByteArray) (h0 : Qb) : Cv (fun k => Xu (C0 k) a1 h0) (Xu D0 a1 h0) := by
  unfold Xu
  exact .bind (H0 _) fun r1 => by exact .const _
def J0.s : Nat → ByteArray → Qb → Option (Bool × Qb)
  | 0, _, _ => none
  | k + 1, a1, h0 => Xu (Vm.s k) a1 h0
theorem J0.ok : ∀ (k : Nat), PV (ev k) (J0.s k)
  | 0, _, _, _, h => (nomatch h)
  | k + 1, a1, h0, r, h => fn_ok rfl (Ev pp (ev k) (Vm.s k) a1 h0) (Qh2 _ _ a1 h0) (Qh3 _ _ _ _ (Vm.ok k) a1 h0) h
noncomputable def J0 (a1 : ByteArray) (h0 : Qb) : Option (Bool × Qb) := Xu Vm a1 h0
theorem J0.cv (a1 : ByteArray) (h0 : Qb) : Cv (fun k => J0.s k a1 h0) (J0 a1 h0) := .un rfl (Qh4 Vm.cv a1 h0)
theorem J0.eq (a1 : ByteArray) (h0 : Qb) : J0 a1 h0 = Xu Vm a1 h0 := rfl
def PE (r : Int) : AV × Heap := (.tup [.sc (.int .i64 r), .sc .nilIface], [])
def UV.s : Nat → ByteArray → Option Int
  | 0, _ => none
  | _ + 1, a0 => atoiS a0
theorem UV.ok : ∀ (k : Nat), ∀ (a0 : ByteArray) (r : Int), UV.s k a0 = some r → evalFn pp G k 241 [.sc (.string a0)] [] = some (PE r)
  | 0, _, _, h => (nomatch h)
  | k + 1, a0, r, h => QsQ h
abbrev ZZ := ByteArray → Option Int
abbrev QfA (a0 : ByteArray) : List AV × Heap := ([xs a0], [])
abbrev Qbn (w : Cf) (a0 : ByteArray) : Option AH := w 241 (QfA a0).1 (QfA a0).2
abbrev QmC (w : Cf) (c : ZZ) : Prop := ∀ (a0 : ByteArray) (r : Int), c a0 = some r → Qbn w a0 = some (PE r)
noncomputable def UV (a0 : ByteArray) : Option Int := atoiS a0
theorem UV.mono (k : Nat) (a0 : ByteArray) : Le (UV.s k a0) (UV.s (k + 1) a0) := by
  cases k with
  | zero => exact fun r h => nomatch h
  | succ k => exact Le.refl _
theorem UV.cv (a0 : ByteArray) : Cv (fun k => UV.s k a0) (UV a0) := ⟨fun k => UV.mono k a0, fun r => ⟨fun h => ⟨1, h⟩, fun ⟨k, h⟩ => by
  cases k with
  | zero => cases h
  | succ k => exact h⟩⟩
def Wx (r : (Int × Bool)) : AV × Heap := (.tup [xi r.1, xo r.2], [])
abbrev Zk := ByteArray → Option (Int × Bool)
abbrev FO (a0 : ByteArray) : List AV × Heap := ([xs a0], [])
abbrev Qec (w : Cf) (a0 : ByteArray) : Option AH := w 214 (FO a0).1 (FO a0).2
abbrev QfB (w : Cf) (c : Zk) : Prop := ∀ (a0 : ByteArray) (r : (Int × Bool)), c a0 = some r → Qec w a0 = some (Wx r)
def YF (C0 : V0) (C1 : ZZ) (a0 : ByteArray) : Option (Int × Bool) := (bif (decide (((a0.size : Nat) : Int) < 2)) then (some ((0 : Int), false)) else (bif (decide (((a0.size : Nat) : Int) > 3)) then (some ((0 : Int), false)) else (bif (decide (0 ≤ (0 : Int) ∧ (0 : Int) < ((a0.size : Nat) : Int))) then (bif (((a0.data.getD (Int.toNat 0) 0).toNat : Int) != 114) then (some ((0 : Int), false)) else (bif (decide (0 ≤ (1 : Int) ∧ (1 : Int) ≤ ((a0.size : Nat) : Int) ∧ ((a0.size : Nat) : Int) ≤ ((a0.size : Nat) : Int))) then ((C0 (a0.extract (Int.toNat 1) (Int.toNat ((a0.size : Nat) : Int)))).bind fun r1 => (bif (r1 != (w64 (((a0.size : Nat) : Int) - 1))) then (some ((0 : Int), false)) else (bif (((a0.size : Nat) : Int) == 3) then (bif (decide (0 ≤ (1 : Int) ∧ (1 : Int) < ((a0.size : Nat) : Int))) then (bif (((a0.data.getD (Int.toNat 1) 0).toNat : Int) == 48) then (some ((0 : Int), false)) else ((C1 (a0.extract (Int.toNat 1) (Int.toNat ((a0.size : Nat) : Int)))).bind fun r2 => (some (r2, (decide (r2 < 32)))))) else none) else ((C1 (a0.extract (Int.toNat 1) (Int.toNat ((a0.size : Nat) : Int)))).bind fun r3 => (some (r3, (decide (r3 < 32)))))))) else none)) else none)))
def FP (P : Pg) (w : Cf) (C0 : V0) (C1 : ZZ) (a0 : ByteArray) : Tr (Int × Bool) AH := (let u65 := (decide ((zz a0) < 2)); .as u65 (yesN 3 u65 (yesN 19 true (rt Wx (i0, false)))) (noN 3 u65 (let u64 := (decide ((zz a0) > 3)); .as u64 (yesN 3 u64 (yesN 15 true (rt Wx (i0, false)))) (.no u64 (.as (in1 i0 (zz a0)) (noN 2 u64 (let u63 := ((gb a0 i0) != 114); .as u63 (yesN 7 u63 (yesN 7 true (rt Wx (i0, false)))) (.no u63 (let u62 := (in2 (zi 1) (zz a0) (zz a0)); .as u62 (.no u63 (.call (Qbk w (cu a0 (zi 1) (zz a0))) (C0 (cu a0 (zi 1) (zz a0))) E4 fun r1 => (noN 5 u63 (let u61 := (r1 != (w64 ((zz a0) - 1))); .as u61 (yesN 5 u61 (.yes true (rt Wx (i0, false)))) (noN 3 u61 (let u60 := ((zz a0) == 3); .as u60 (.yes u60 (.as (in1 (zi 1) (zz a0)) (.yes u60 (.no u61 (.yes u60 (.no u61 (.as ((gb a0 (zi 1)) == 48) (rt Wx (i0, false)) (.yes u62 (.call (Qbn w (cu a0 (zi 1) (zz a0))) (C1 (cu a0 (zi 1) (zz a0))) PE fun r2 => (rt Wx (r2, (decide (r2 < 32))))))))))) .fail)) (noN 2 u60 (.no u61 (.no u60 (.no u61 (.no false (.yes u62 (.call (Qbn w (cu a0 (zi 1) (zz a0))) (C1 (cu a0 (zi 1) (zz a0))) PE fun r3 => (rt Wx (r3, (decide (r3 < 32))))))))))))))))) .fail)))) .fail)))))
theorem QkC (w : Cf) (C0 : V0) (C1 : ZZ) (a0 : ByteArray) : (FP pp w C0 C1 a0).norm (bodyT pp w G 214 (FO a0).1 (FO a0).2) = FP pp w C0 C1 a0 := by kernel_rfl
theorem QkD (P : Pg) (w : Cf) (lp : Lo) (C0 : V0) (C1 : ZZ) (K0 : QcB w C0) (K1 : QmC w C1) (a0 : ByteArray) : (FP P w C0 C1 a0).ok lp Wx := ⟨rfl, fun q0 => Qr 3 (q0) (Qr 19 (rfl) (rfl)), fun q0 => noN_ok 3 (q0) (⟨rfl, fun q1 => Qr 3 (q1) (Qr 15 (rfl) (rfl)), fun q1 => ⟨q1, ⟨rfl, fun q2 => noN_ok 2 (q1) (⟨rfl, fun q3 => Qr 7 (q3) (Qr 7 (rfl) (rfl)), fun q3 => ⟨q3, ⟨rfl, fun q4 => ⟨q3, fun r1 hr1 => ⟨K0 _ _ hr1, noN_ok 5 (q3) (⟨rfl, fun q5 => Qr 5 (q5) (⟨rfl, rfl⟩), fun q5 => noN_ok 3 (q5) (⟨rfl, fun q6 => ⟨q6, ⟨rfl, fun q7 => ⟨q6, ⟨q5, ⟨q6, ⟨q5, ⟨rfl, fun q8 => rfl, fun q8 => ⟨q4, fun r2 hr2 => ⟨K1 _ _ hr2, rfl⟩⟩⟩⟩⟩⟩⟩, fun q7 => trivial⟩⟩, fun q6 => noN_ok 2 (q6) (⟨q5, ⟨q6, ⟨q5, ⟨rfl, ⟨q4, fun r3 hr3 => ⟨K1 _ _ hr3, rfl⟩⟩⟩⟩⟩⟩)⟩)⟩)⟩⟩, fun q4 => trivial⟩⟩⟩), fun q2 => trivial⟩⟩⟩)⟩
theorem QkE {C0 : Nat → V0} {D0 : V0} (H0 : Cv1 C0 D0) {C1 : Nat → ZZ} {D1 : ZZ} (H1 : Cv1 C1 D1) (a0 : ByteArray) : Cv (fun k => YF (C0 k) (C1 k) a0) (YF D0 D1 a0) := by
  unfold YF
  exact .cond cst (.cond cst (.cond (.cond cst (.cond (.bind (H0 _) fun r1 => .cond cst (.cond (.cond (.cond cst (.bind (H1 _) fun r2 => by exact .const _)) cst) (.bind (H1 _) fun r3 => by exact .const _))) cst)) cst))
def Vb.s : Nat → ByteArray → Option (Int × Bool)
  | 0, _ => none
  | k + 1, a0 => YF (Ua.s k) (UV.s k) a0
theorem Vb.ok : ∀ (k : Nat), QfB (ev k) (Vb.s k)
  | 0, _, _, h => (nomatch h)
  | k + 1, a0, r, h => fn_ok rfl (FP pp (ev k) (Ua.s k) (UV.s k) a0) (QkC _ _ _ a0) (QkD _ _ _ _ _ (Ua.ok k) (UV.ok k) a0) h
noncomputable def Vb (a0 : ByteArray) : Option (Int × Bool) := YF Ua UV a0
theorem Vb.cv (a0 : ByteArray) : Cv (fun k => Vb.s k a0) (Vb a0) := .un rfl (QkE Ua.cv UV.cv a0)
theorem Vb.eq (a0 : ByteArray) : Vb a0 = YF Ua UV a0 := rfl
def Zx (r : (Bool × Qb)) : AV × Heap := (xo r.1, [(0, .box [0, 0, 0, 0, 0, 5] [xi r.2.x.Line, xs r.2.x.Label, xi r.2.x.Kind, xi r.2.x.Op, xs r.2.x.Text, .arr 2]), (2, .arr true 5 (QJ r.2.x.Args))])
abbrev Ud := ByteArray → Qb → Option (Bool × Qb)
abbrev Zy (a1 : ByteArray) (h0 : Qb) : List AV × Heap := ([.ptr 0 0, xs a1], [(0, .box [0, 0, 0, 0, 0, 5] [xi h0.x.Line, xs h0.x.Label, xi h0.x.Kind, xi h0.x.Op, xs h0.x.Text, .arr 1]), (1, .arr true 5 (QJ h0.x.Args))])
abbrev Sb (w : Cf) (a1 : ByteArray) (h0 : Qb) : Option AH := w 178 (Zy a1 h0).1 (Zy a1 h0).2
abbrev Fa (w : Cf) (c : Ud) : Prop := ∀ (a1 : ByteArray) (h0 : Qb) (r : (Bool × Qb)), c a1 h0 = some r → Sb w a1 h0 = some (Zx r)
def V9 (C0 : Zk) (a1 : ByteArray) (h0 : Qb) : Option (Bool × Qb) := ((C0 a1).bind fun r1 => (bif (decide ((h0.x.Args.length + [(Qg.mk r1.1 (Qd.mk (0 : Int) (0 : Int) s_ ([] : List Qd)))].length) * 64 ≤ most)) then (some (r1.2, (Qb.mk (Qf.mk h0.x.Line h0.x.Label h0.x.Kind h0.x.Op h0.x.Text (h0.x.Args ++ [(Qg.mk r1.1 (Qd.mk (0 : Int) (0 : Int) s_ ([] : List Qd)))]))))) else none))
def Zz (P : Pg) (w : Cf) (C0 : Zk) (a1 : ByteArray) (h0 : Qb) : Tr (Bool × Qb) AH := (.call (Qec w a1) (C0 a1) Wx fun r1 => (.rows [[xi r1.1, xi i0, xi i0, xs s_, .sl (V2 ([] : List Qd))]] (QJ [(Qg.mk r1.1 (Qd.mk i0 i0 s_ ([] : List Qd)))]) (.yes (decide ((QJ [(Qg.mk r1.1 (Qd.mk i0 i0 s_ ([] : List Qd)))]).all (fun r => r.length == 5) = true)) (.ask (decide (((QJ h0.x.Args).length + (QJ [(Qg.mk r1.1 (Qd.mk i0 i0 s_ ([] : List Qd)))]).length) * 64 ≤ most)) (decide ((h0.x.Args.length + [(Qg.mk r1.1 (Qd.mk i0 i0 s_ ([] : List Qd)))].length) * 64 ≤ most)) (.rows ((QJ h0.x.Args) ++ (QJ [(Qg.mk r1.1 (Qd.mk i0 i0 s_ ([] : List Qd)))])) (QJ (h0.x.Args ++ [(Qg.mk r1.1 (Qd.mk i0 i0 s_ ([] : List Qd)))])) (rt Zx (r1.2, (Qb.mk (Qf.mk h0.x.Line h0.x.Label h0.x.Kind h0.x.Op h0.x.Text (h0.x.Args ++ [(Qg.mk r1.1 (Qd.mk i0 i0 s_ ([] : List Qd)))])))))) .fail))))
theorem QeS (w : Cf) (C0 : Zk) (a1 : ByteArray) (h0 : Qb) : (Zz pp w C0 a1 h0).norm (bodyT pp w G 178 (Zy a1 h0).1 (Zy a1 h0).2) = Zz pp w C0 a1 h0 := by kernel_rfl
theorem QeT (P : Pg) (w : Cf) (lp : Lo) (C0 : Zk) (K0 : QfB w C0) (a1 : ByteArray) (h0 : Qb) : (Zz P w C0 a1 h0).ok lp Zx := fun r1 hr1 => ⟨K0 _ _ hr1, ⟨(YW [(Qg.mk r1.1 (Qd.mk (0 : Int) (0 : Int) s_ ([] : List Qd)))]), ⟨(decide_eq_true (Qgx _)), ⟨(by rw [Fz, Fz]), fun q0 => ⟨(Qdl _ _), rfl⟩, fun q0 => trivial⟩⟩⟩⟩
theorem QeU {C0 : Nat → Zk} {D0 : Zk} (H0 : Cv1 C0 D0) (a1 : ByteArray) (h0 : Qb) : Cv (fun k => V9 (C0 k) a1 h0) (V9 D0 a1 h0) := by
  unfold V9
  exact .bind (H0 _) fun r1 => by exact .const _
def Q9.s : Nat → ByteArray → Qb → Option (Bool × Qb)
  | 0, _, _ => none
  | k + 1, a1, h0 => V9 (Vb.s k) a1 h0
theorem Q9.ok : ∀ (k : Nat), Fa (ev k) (Q9.s k)
  | 0, _, _, _, h => (nomatch h)
  | k + 1, a1, h0, r, h => fn_ok rfl (Zz pp (ev k) (Vb.s k) a1 h0) (QeS _ _ a1 h0) (QeT _ _ _ _ (Vb.ok k) a1 h0) h
noncomputable def Q9 (a1 : ByteArray) (h0 : Qb) : Option (Bool × Qb) := V9 Vb a1 h0
theorem Q9.cv (a1 : ByteArray) (h0 : Qb) : Cv (fun k => Q9.s k a1 h0) (Q9 a1 h0) := .un rfl (QeU Vb.cv a1 h0)
theorem Q9.eq (a1 : ByteArray) (h0 : Qb) : Q9 a1 h0 = V9 Vb a1 h0 := rfl
def YG (r : (Bool × Qb)) : AV × Heap := (xo r.1, [(1, .box [0, 0, 0, 0, 0, 5] [xi r.2.x.Line, xs r.2.x.Label, xi r.2.x.Kind, xi r.2.x.Op, xs r.2.x.Text, .arr 3]), (3, .arr true 5 (QJ r.2.x.Args))])
abbrev Yp := (List ByteArray) → Qb → (List Nat) → Option (Bool × Qb)
abbrev QcY (a0 : (List ByteArray)) (h1 : Qb) (r0 : (List Nat)) : List AV × Heap := ([.sl (Ql a0), .arr 0], [(0, .fs (some 1) (UD r0)), (1, .box [0, 0, 0, 0, 0, 5] [xi h1.x.Line, xs h1.x.Label, xi h1.x.Kind, xi h1.x.Op, xs h1.x.Text, .arr 2]), (2, .arr true 5 (QJ h1.x.Args))])
abbrev Gj (w : Cf) (a0 : (List ByteArray)) (h1 : Qb) (r0 : (List Nat)) : Option AH := w 127 (QcY a0 h1 r0).1 (QcY a0 h1 r0).2
abbrev Qh5 (w : Cf) (c : Yp) : Prop := ∀ (a0 : (List ByteArray)) (h1 : Qb) (r0 : (List Nat)) (r : (Bool × Qb)), c a0 h1 r0 = some r → Gj w a0 h1 r0 = some (YG r)
structure Js where
  x0 : (List ByteArray)
  x5 : Bool
  x6 : Int
  h1 : Qb
  r4 : (List Nat)
structure U3 where
  x5 : Bool
  h1 : Qb
def YY (a : Js) : St := { n := 31, nx := 5, env := [(0, .sl (Ql a.x0)), (1, .arr 4), (5, xo a.x5), (6, xi a.x6)], heap := [(1, .box [0, 0, 0, 0, 0, 5] [xi a.h1.x.Line, xs a.h1.x.Label, xi a.h1.x.Kind, xi a.h1.x.Op, xs a.h1.x.Text, .arr 3]), (3, .arr true 5 (QJ a.h1.x.Args)), (4, .fs (some 1) (UD a.r4))] }
def Eb (a : U3) : Ex × St := (.exit 0, { n := 31, nx := 4, env := [(5, xo a.x5)], heap := [(1, .box [0, 0, 0, 0, 0, 5] [xi a.h1.x.Line, xs a.h1.x.Label, xi a.h1.x.Kind, xi a.h1.x.Op, xs a.h1.x.Text, .arr 3]), (3, .arr true 5 (QJ a.h1.x.Args))] })
abbrev GK := Js → Option U3
abbrev QnM (P : Pg) (lp : Lo) (l : GK) : Prop := ∀ (a : Js) (r : U3), l a = some r → lp (loopAt P 127 3) (YY a) = some (Eb r)
def Wp (C0 : UM) (C1 : Va) (C2 : Ud) (a : Js) : Option (Js ⊕ U3) := (bif (decide (a.x6 < (((a.r4.length) : Nat) : Int))) then (bif a.x5 then (bif (decide (0 ≤ a.x6 ∧ a.x6 < ((a.r4.length : Nat) : Int))) then ((a.r4[(Int.toNat a.x6)]?).bind fun e1 => (bif (decide (e1 = 129)) then (bif (decide (0 ≤ a.x6)) then ((a.x0[(Int.toNat a.x6)]?).bind fun e2 => ((C0 e2 a.h1).bind fun r3 => (some (.inl (Js.mk a.x0 r3.1 (w64 (a.x6 + 1)) r3.2 a.r4))))) else none) else (bif (decide (e1 = 131)) then (bif (decide (0 ≤ a.x6)) then ((a.x0[(Int.toNat a.x6)]?).bind fun e4 => ((C1 e4 a.h1).bind fun r5 => (some (.inl (Js.mk a.x0 r5.1 (w64 (a.x6 + 1)) r5.2 a.r4))))) else none) else (bif (decide (e1 = 178)) then (bif (decide (0 ≤ a.x6)) then ((a.x0[(Int.toNat a.x6)]?).bind fun e6 => ((C2 e6 a.h1).bind fun r7 => (some (.inl (Js.mk a.x0 r7.1 (w64 (a.x6 + 1)) r7.2 a.r4))))) else none) else none)))) else none) else (some (.inr (U3.mk a.x5 a.h1)))) else (some (.inr (U3.mk a.x5 a.h1))))
def Sn (P : Pg) (w : Cf) (C0 : UM) (C1 : Va) (C2 : Ud) (a : Js) : Tr (Js ⊕ U3) XS := (.num ((UD a.r4).length) (a.r4.length) (let u66 := (decide (a.x6 < (((a.r4.length) : Nat) : Int))); .as u66 (.yes u66 (.as a.x5 (.ask (in1 a.x6 (((UD a.r4).length : Nat) : Int)) (in1 a.x6 ((a.r4.length : Nat) : Int)) (.row ((UD a.r4)[(Int.toNat a.x6)]?) (a.r4[(Int.toNat a.x6)]?) Qhq fun (e1 : Nat) => (.as (decide (e1 = 129)) (.as (decide (0 ≤ a.x6)) (.row ((Ql a.x0)[(Int.toNat a.x6)]?) (a.x0[(Int.toNat a.x6)]?) UP fun (e2 : ByteArray) => (.call (Qbe w e2 a.h1) (C0 e2 a.h1) G2 fun r3 => (lf YY (Js.mk a.x0 r3.1 (w64 (a.x6 + 1)) r3.2 a.r4)))) .fail) (.as (decide (e1 = 131)) (.as (decide (0 ≤ a.x6)) (.row ((Ql a.x0)[(Int.toNat a.x6)]?) (a.x0[(Int.toNat a.x6)]?) UP fun (e4 : ByteArray) => (.call (Qcp w e4 a.h1) (C1 e4 a.h1) Et fun r5 => (lf YY (Js.mk a.x0 r5.1 (w64 (a.x6 + 1)) r5.2 a.r4)))) .fail) (.as (decide (e1 = 178)) (.as (decide (0 ≤ a.x6)) (.row ((Ql a.x0)[(Int.toNat a.x6)]?) (a.x0[(Int.toNat a.x6)]?) UP fun (e6 : ByteArray) => (.call (Sb w e6 a.h1) (C2 e6 a.h1) Zx fun r7 => (lf YY (Js.mk a.x0 r7.1 (w64 (a.x6 + 1)) r7.2 a.r4)))) .fail) .fail)))) .fail) (rx Eb (U3.mk a.x5 a.h1)))) (.no u66 (.no false (rx Eb (U3.mk a.x5 a.h1))))))
theorem QmD (w : Cf) (C0 : UM) (C1 : Va) (C2 : Ud) (a : Js) : (Sn pp w C0 C1 C2 a).norm (roundT pp G.kd w 3 (G.an 127) (loopAt pp 127 3) (YY a)) = Sn pp w C0 C1 C2 a := by kernel_rfl
theorem QmE (P : Pg) (w : Cf) (lp : Lo) (C0 : UM) (C1 : Va) (C2 : Ud) (K0 : Pe w C0) (K1 : PV w C1) (K2 : Fa w C2) (a : Js) : (Sn P w C0 C1 C2 a).ok lp (Sum.elim (fun a => (.norm, YY a)) Eb) := ⟨(Ga _), ⟨rfl, fun q0 => ⟨q0, ⟨rfl, fun q1 => ⟨(by rw [Ga]), fun q2 => fun e1 h => ⟨Qqe h, ⟨rfl, fun q3 => ⟨rfl, fun q4 => fun e2 h => ⟨Vq h, fun r3 hr3 => ⟨K0 _ _ _ hr3, rfl⟩⟩, fun q4 => trivial⟩, fun q3 => ⟨rfl, fun q4 => ⟨rfl, fun q5 => fun e4 h => ⟨Vq h, fun r5 hr5 => ⟨K1 _ _ _ hr5, rfl⟩⟩, fun q5 => trivial⟩, fun q4 => ⟨rfl, fun q5 => ⟨rfl, fun q6 => fun e6 h => ⟨Vq h, fun r7 hr7 => ⟨K2 _ _ _ hr7, rfl⟩⟩, fun q6 => trivial⟩, fun q5 => trivial⟩⟩⟩⟩, fun q2 => trivial⟩, fun q1 => rfl⟩⟩, fun q0 => ⟨q0, ⟨rfl, rfl⟩⟩⟩⟩
theorem QmF {C0 : Nat → UM} {D0 : UM} (H0 : Cv2 C0 D0) {C1 : Nat → Va} {D1 : Va} (H1 : Cv2 C1 D1) {C2 : Nat → Ud} {D2 : Ud} (H2 : Cv2 C2 D2) (a : Js) : Cv (fun k => Wp (C0 k) (C1 k) (C2 k) a) (Wp D0 D1 D2 a) := by
  unfold Wp
  exact .cond (.cond (.cond (.bind (.const _) fun e1 => .cond (.cond (.bind (.const _) fun e2 => .bind (H0 _ _) fun r3 => by exact .const _) cst) (.cond (.cond (.bind (.const _) fun e4 => .bind (H1 _ _) fun r5 => by exact .const _) cst) (.cond (.cond (.bind (.const _) fun e6 => .bind (H2 _ _) fun r7 => by exact .const _) cst) cst))) cst) cst) cst
def Jx.s (k : Nat) (C0 : UM) (C1 : Va) (C2 : Ud) : Js → Option U3 := iter (Wp C0 C1 C2) k
theorem Qls (w : Cf) (k : Nat) (C0 : UM) (C1 : Va) (C2 : Ud) (K0 : Pe w C0) (K1 : PV w C1) (K2 : Fa w C2) (a : Js) (r : U3) (h : Jx.s k C0 C1 C2 a = some r) : loopsF pp G.kd w 3 (G.an 127) k (loopAt pp 127 3) (YY a) = some (Eb r) :=
  VZ (fun a => Sn pp w C0 C1 C2 a) (fun _ => rfl) (fun a => QmD w _ _ _ a) (fun a => QmE _ w _ _ _ _ K0 K1 K2 a) (fun r => nofun) h
noncomputable def Jx.w (C0 : UM) (C1 : Va) (C2 : Ud) : Js → Option U3 := loopW (Wp C0 C1 C2)
theorem Jx.cv (C0 : Nat → UM) (C1 : Nat → Va) (C2 : Nat → Ud) (D0 : UM) (D1 : Va) (D2 : Ud) (H0 : Cv2 C0 D0) (H1 : Cv2 C1 D1) (H2 : Cv2 C2 D2) (a : Js) : Cv (fun k => Jx.s k (C0 k) (C1 k) (C2 k) a) (Jx.w D0 D1 D2 a) := Cv.iter (fun a => QmF H0 H1 H2 a) a
def Ew (L0 : GK) (a0 : (List ByteArray)) (h1 : Qb) (r0 : (List Nat)) : Option (Bool × Qb) := ((L0 (Js.mk a0 ((((a0.length) : Nat) : Int) == (((r0.length) : Nat) : Int)) (0 : Int) h1 r0)).bind (fun (o1 : U3) => (some (o1.x5, o1.h1))))
def QcZ (P : Pg) (w : Cf) (L0 : GK) (a0 : (List ByteArray)) (h1 : Qb) (r0 : (List Nat)) : Tr (Bool × Qb) AH := (.num ((Ql a0).length) (a0.length) (.num ((UD r0).length) (r0.length) (.loop (loopAt P 127 3) (YY (Js.mk a0 ((((a0.length) : Nat) : Int) == (((r0.length) : Nat) : Int)) i0 h1 r0)) (L0 (Js.mk a0 ((((a0.length) : Nat) : Int) == (((r0.length) : Nat) : Int)) i0 h1 r0)) Eb (fun (o1 : U3) => (rt YG (o1.x5, o1.h1))))))
theorem Qqn (w : Cf) (L0 : GK) (a0 : (List ByteArray)) (h1 : Qb) (r0 : (List Nat)) : (QcZ pp w L0 a0 h1 r0).norm (bodyT pp w G 127 (QcY a0 h1 r0).1 (QcY a0 h1 r0).2) = QcZ pp w L0 a0 h1 r0 := by kernel_rfl
theorem Qqo (P : Pg) (w : Cf) (lp : Lo) (L0 : GK) (N0 : QnM P lp L0) (a0 : (List ByteArray)) (h1 : Qb) (r0 : (List Nat)) : (QcZ P w L0 a0 h1 r0).ok lp YG := ⟨(Jy _), ⟨(Ga _), fun o1 ho1 => ⟨N0 _ _ ho1, rfl⟩⟩⟩
theorem Qqp {L0 : Nat → GK} {M0 : GK} (N0 : Cv1 L0 M0) (a0 : (List ByteArray)) (h1 : Qb) (r0 : (List Nat)) : Cv (fun k => Ew (L0 k) a0 h1 r0) (Ew M0 a0 h1 r0) := by
  unfold Ew
  exact .bind (N0 _) (fun o1 => by exact .const _)
def U4.s : Nat → (List ByteArray) → Qb → (List Nat) → Option (Bool × Qb)
  | 0, _, _, _ => none
  | k + 1, a0, h1, r0 => Ew (Jx.s k (JC.s k) (J0.s k) (Q9.s k)) a0 h1 r0
theorem U4.ok : ∀ (k : Nat), Qh5 (ev k) (U4.s k)
  | 0, _, _, _, _, h => (nomatch h)
  | k + 1, a0, h1, r0, r, h => fn_ok rfl (QcZ pp (ev k) (Jx.s k (JC.s k) (J0.s k) (Q9.s k)) a0 h1 r0) (Qqn _ _ a0 h1 r0) (Qqo _ _ _ _ (Qls _ k _ _ _ (JC.ok k) (J0.ok k) (Q9.ok k)) a0 h1 r0) h
noncomputable def Jx : Js → Option U3 := Jx.w JC J0 Q9
theorem Jx.eq (a : Js) : Jx a = (Wp JC J0 Q9 a).bind (Sum.elim Jx some) := UO _ _
noncomputable def U4 (a0 : (List ByteArray)) (h1 : Qb) (r0 : (List Nat)) : Option (Bool × Qb) := Ew Jx a0 h1 r0
theorem U4.cv (a0 : (List ByteArray)) (h1 : Qb) (r0 : (List Nat)) : Cv (fun k => U4.s k a0 h1 r0) (U4 a0 h1 r0) := .un rfl (Qqp (Jx.cv (fun k => JC.s k) (fun k => J0.s k) (fun k => Q9.s k) JC J0 Q9 JC.cv J0.cv Q9.cv) a0 h1 r0)
theorem U4.eq (a0 : (List ByteArray)) (h1 : Qb) (r0 : (List Nat)) : U4 a0 h1 r0 = Ew Jx a0 h1 r0 := rfl
def Yw (r : (Bool × Qb)) : AV × Heap := (xo r.1, [(0, .box [0, 0, 0, 0, 0, 5] [xi r.2.x.Line, xs r.2.x.Label, xi r.2.x.Kind, xi r.2.x.Op, xs r.2.x.Text, .arr 2]), (2, .arr true 5 (QJ r.2.x.Args))])
abbrev VL := (List ByteArray) → Qb → Option (Bool × Qb)
abbrev Yx (a1 : (List ByteArray)) (h0 : Qb) : List AV × Heap := ([.ptr 0 0, .sl (Ql a1)], [(0, .box [0, 0, 0, 0, 0, 5] [xi h0.x.Line, xs h0.x.Label, xi h0.x.Kind, xi h0.x.Op, xs h0.x.Text, .arr 1]), (1, .arr true 5 (QJ h0.x.Args))])
abbrev FQ (w : Cf) (a1 : (List ByteArray)) (h0 : Qb) : Option AH := w 125 (Yx a1 h0).1 (Yx a1 h0).2
abbrev Pf (w : Cf) (c : VL) : Prop := ∀ (a1 : (List ByteArray)) (h0 : Qb) (r : (Bool × Qb)), c a1 h0 = some r → FQ w a1 h0 = some (Yw r)
structure Qp where
  x1 : (List ByteArray)
  x14 : (List ByteArray)
  x15 : Int
  x16 : Int
  h0 : Qb
  r3 : (List Nat)
structure Q4 where
  x1 : (List ByteArray)
  h0 : Qb
  r3 : (List Nat)
def U5 (a : Qp) : St := { n := 38, nx := 4, env := [(0, .ptr 0 0), (1, .sl (Ql a.x1)), (5, .arr 3), (14, .sl (Ql a.x14)), (15, xi a.x15), (16, xi a.x16)], heap := [(0, .box [0, 0, 0, 0, 0, 5] [xi a.h0.x.Line, xs a.h0.x.Label, xi a.h0.x.Kind, xi a.h0.x.Op, xs a.h0.x.Text, .arr 2]), (2, .arr true 5 (QJ a.h0.x.Args)), (3, .fs (some 0) (UD a.r3))] }
def Wv (a : Q4) : Ex × St := (.exit 0, { n := 38, nx := 4, env := [(1, .sl (Ql a.x1)), (5, .arr 3)], heap := [(0, .box [0, 0, 0, 0, 0, 5] [xi a.h0.x.Line, xs a.h0.x.Label, xi a.h0.x.Kind, xi a.h0.x.Op, xs a.h0.x.Text, .arr 2]), (2, .arr true 5 (QJ a.h0.x.Args)), (3, .fs (some 0) (UD a.r3))] })
abbrev Vf := Qp → Option Q4
abbrev Qcq (P : Pg) (lp : Lo) (l : Vf) : Prop := ∀ (a : Qp) (r : Q4), l a = some r → lp (loopAt P 125 3) (U5 a) = some (Wv r)
def Ux (C0 : U9) (a : Qp) : Option (Qp ⊕ Q4) := (bif (decide (a.x16 < a.x15)) then (bif (decide (0 ≤ a.x16)) then ((a.x14[(Int.toNat a.x16)]?).bind fun e1 => (bif (decide (((h_20.size + e1.size : Nat) : Int) ≤ IntKind.i64.max)) then (bif (decide ((((h_20 ++ e1).size + h_20.size : Nat) : Int) ≤ IntKind.i64.max)) then ((C0 UG ((h_20 ++ e1) ++ h_20)).bind fun r2 => (bif r2 then (bif (decide ((a.r3.length + [178].length) * 8 ≤ most)) then (some (.inl (Qp.mk a.x1 a.x14 a.x15 (w64 (a.x16 + 1)) a.h0 (a.r3 ++ [178])))) else none) else (bif (decide ((a.r3.length + [129].length) * 8 ≤ most)) then (some (.inl (Qp.mk a.x1 a.x14 a.x15 (w64 (a.x16 + 1)) a.h0 (a.r3 ++ [129])))) else none))) else none) else none)) else none) else (some (.inr (Q4.mk a.x1 a.h0 a.r3))))
def XO (P : Pg) (w : Cf) (C0 : U9) (a : Qp) : Tr (Qp ⊕ Q4) XS := (.as (decide (a.x16 < a.x15)) (.as (decide (0 ≤ a.x16)) (.row ((Ql a.x14)[(Int.toNat a.x16)]?) (a.x14[(Int.toNat a.x16)]?) UP fun (e1 : ByteArray) => (.as (decide (((h_20.size + e1.size : Nat) : Int) ≤ IntKind.i64.max)) (.as (decide ((((h_20 ++ e1).size + h_20.size : Nat) : Int) ≤ IntKind.i64.max)) (.call (Qcj w UG ((h_20 ++ e1) ++ h_20)) (C0 UG ((h_20 ++ e1) ++ h_20)) F5 fun r2 => (.as r2 (.rows [[.fn (.func 178) [] []]] (UD [178]) (.yes (decide ((UD [178]).all (fun r => r.length == 1) = true)) (.ask (decide (((UD a.r3).length + (UD [178]).length) * 8 ≤ most)) (decide ((a.r3.length + [178].length) * 8 ≤ most)) (.rows ((UD a.r3) ++ (UD [178])) (UD (a.r3 ++ [178])) (lf U5 (Qp.mk a.x1 a.x14 a.x15 (w64 (a.x16 + 1)) a.h0 (a.r3 ++ [178])))) .fail))) (.rows [[.fn (.func 129) [] []]] (UD [129]) (.yes (decide ((UD [129]).all (fun r => r.length == 1) = true)) (.ask (decide (((UD a.r3).length + (UD [129]).length) * 8 ≤ most)) (decide ((a.r3.length + [129].length) * 8 ≤ most)) (.rows ((UD a.r3) ++ (UD [129])) (UD (a.r3 ++ [129])) (lf U5 (Qp.mk a.x1 a.x14 a.x15 (w64 (a.x16 + 1)) a.h0 (a.r3 ++ [129])))) .fail))))) .fail) .fail)) .fail) (rx Wv (Q4.mk a.x1 a.h0 a.r3)))
theorem Qbo (w : Cf) (C0 : U9) (a : Qp) : (XO pp w C0 a).norm (roundT pp G.kd w 2 (G.an 125) (loopAt pp 125 3) (U5 a)) = XO pp w C0 a := by kernel_rfl
theorem Qbp (P : Pg) (w : Cf) (lp : Lo) (C0 : U9) (K0 : QcH w C0) (a : Qp) : (XO P w C0 a).ok lp (Sum.elim (fun a => (.norm, U5 a)) Wv) := ⟨rfl, fun q0 => ⟨rfl, fun q1 => fun e1 h => ⟨Vq h, ⟨rfl, fun q2 => ⟨rfl, fun q3 => fun r2 hr2 => ⟨K0 _ _ _ hr2, ⟨rfl, fun q4 => ⟨(Ed [178]), ⟨(decide_eq_true (QfY _)), ⟨(by rw [Ga, Ga]), fun q5 => ⟨(QcA _ _), rfl⟩, fun q5 => trivial⟩⟩⟩, fun q4 => ⟨(Ed [129]), ⟨(decide_eq_true (QfY _)), ⟨(by rw [Ga, Ga]), fun q5 => ⟨(QcA _ _), rfl⟩, fun q5 => trivial⟩⟩⟩⟩⟩, fun q3 => trivial⟩, fun q2 => trivial⟩⟩, fun q1 => trivial⟩, fun q0 => rfl⟩
theorem Qbq {C0 : Nat → U9} {D0 : U9} (H0 : Cv2 C0 D0) (a : Qp) : Cv (fun k => Ux (C0 k) a) (Ux D0 a) := by
  unfold Ux
  exact .cond (.cond (.bind (.const _) fun e1 => .cond (.cond (.bind (H0 _ _) fun r2 => by exact .const _) cst) cst) cst) cst
def Qw.s (k : Nat) (C0 : U9) : Qp → Option Q4 := iter (Ux C0) k
theorem Qa4 (w : Cf) (k : Nat) (C0 : U9) (K0 : QcH w C0) (a : Qp) (r : Q4) (h : Qw.s k C0 a = some r) : loopsF pp G.kd w 2 (G.an 125) k (loopAt pp 125 3) (U5 a) = some (Wv r) :=
  VZ (fun a => XO pp w C0 a) (fun _ => rfl) (fun a => Qbo w _ a) (fun a => Qbp _ w _ _ K0 a) (fun r => nofun) h
noncomputable def Qw.w (C0 : U9) : Qp → Option Q4 := loopW (Ux C0)
theorem Qw.cv (C0 : Nat → U9) (D0 : U9) (H0 : Cv2 C0 D0) (a : Qp) : Cv (fun k => Qw.s k (C0 k) a) (Qw.w D0 a) := Cv.iter (fun a => Qbq H0 a) a
def Vw (C0 : Fo) (C1 : YC) (C2 : Yp) (L3 : Vf) (a1 : (List ByteArray)) (h0 : Qb) : Option (Bool × Qb) := ((C0 h0.x.Op).bind fun r1 => ((C1 r1).bind fun r2 => ((L3 (Qp.mk a1 r2 (((r2.length) : Nat) : Int) (0 : Int) h0 ([] : List Nat))).bind (fun (o3 : Q4) => ((C2 o3.x1 o3.h0 o3.r3).bind fun r4 => (some (r4.1, r4.2)))))))
def Yy (P : Pg) (w : Cf) (C0 : Fo) (C1 : YC) (C2 : Yp) (L3 : Vf) (a1 : (List ByteArray)) (h0 : Qb) : Tr (Bool × Qb) AH := (.call (Qjh w h0.x.Op) (C0 h0.x.Op) QbK fun r1 => (.call (QdF w r1) (C1 r1) Ss fun r2 => (.num ((Ql r2).length) (r2.length) (.loop (loopAt P 125 3) (U5 (Qp.mk a1 r2 (((r2.length) : Nat) : Int) i0 h0 ([] : List Nat))) (L3 (Qp.mk a1 r2 (((r2.length) : Nat) : Int) i0 h0 ([] : List Nat))) Wv (fun (o3 : Q4) => (.call (Gj w o3.x1 o3.h0 o3.r3) (C2 o3.x1 o3.h0 o3.r3) YG fun r4 => (rt Yw (r4.1, r4.2))))))))
theorem Qc0 (w : Cf) (C0 : Fo) (C1 : YC) (C2 : Yp) (L3 : Vf) (a1 : (List ByteArray)) (h0 : Qb) : (Yy pp w C0 C1 C2 L3 a1 h0).norm (bodyT pp w G 125 (Yx a1 h0).1 (Yx a1 h0).2) = Yy pp w C0 C1 C2 L3 a1 h0 := by kernel_rfl
theorem Qc1 (P : Pg) (w : Cf) (lp : Lo) (C0 : Fo) (C1 : YC) (C2 : Yp) (L3 : Vf) (K0 : Qkw w C0) (K1 : Qkx w C1) (K2 : Qh5 w C2) (N3 : Qcq P lp L3) (a1 : (List ByteArray)) (h0 : Qb) : (Yy P w C0 C1 C2 L3 a1 h0).ok lp Yw := fun r1 hr1 => ⟨K0 _ _ hr1, fun r2 hr2 => ⟨K1 _ _ hr2, ⟨(Jy _), fun o3 ho3 => ⟨N3 _ _ ho3, fun r4 hr4 => ⟨K2 _ _ _ _ hr4, rfl⟩⟩⟩⟩⟩
theorem Qc2 {C0 : Nat → Fo} {D0 : Fo} (H0 : Cv1 C0 D0) {C1 : Nat → YC} {D1 : YC} (H1 : Cv1 C1 D1) {C2 : Nat → Yp} {D2 : Yp} (H2 : Cv3 C2 D2) {L3 : Nat → Vf} {M3 : Vf} (N3 : Cv1 L3 M3) (a1 : (List ByteArray)) (h0 : Qb) : Cv (fun k => Vw (C0 k) (C1 k) (C2 k) (L3 k) a1 h0) (Vw D0 D1 D2 M3 a1 h0) := by
  unfold Vw
  exact .bind (H0 _) fun r1 => .bind (H1 _) fun r2 => .bind (N3 _) (fun o3 => .bind (H2 _ _ _) fun r4 => by exact .const _)
def Q7.s : Nat → (List ByteArray) → Qb → Option (Bool × Qb)
  | 0, _, _ => none
  | k + 1, a1, h0 => Vw (WY.s k) (Uv.s k) (U4.s k) (Qw.s k (JF.s k)) a1 h0
theorem Q7.ok : ∀ (k : Nat), Pf (ev k) (Q7.s k)
  | 0, _, _, _, h => (nomatch h)
  | k + 1, a1, h0, r, h => fn_ok rfl (Yy pp (ev k) (WY.s k) (Uv.s k) (U4.s k) (Qw.s k (JF.s k)) a1 h0) (Qc0 _ _ _ _ _ a1 h0) (Qc1 _ _ _ _ _ _ _ (WY.ok k) (Uv.ok k) (U4.ok k) (Qa4 _ k _ (JF.ok k)) a1 h0) h
noncomputable def Qw : Qp → Option Q4 := Qw.w JF
theorem Qw.eq (a : Qp) : Qw a = (Ux JF a).bind (Sum.elim Qw some) := UO _ _
noncomputable def Q7 (a1 : (List ByteArray)) (h0 : Qb) : Option (Bool × Qb) := Vw WY Uv U4 Qw a1 h0
theorem Q7.cv (a1 : (List ByteArray)) (h0 : Qb) : Cv (fun k => Q7.s k a1 h0) (Q7 a1 h0) := .un rfl (Qc2 WY.cv Uv.cv U4.cv (Qw.cv (fun k => JF.s k) JF JF.cv) a1 h0)
theorem Q7.eq (a1 : (List ByteArray)) (h0 : Qb) : Q7 a1 h0 = Vw WY Uv U4 Qw a1 h0 := rfl
def QaN (r : (List ByteArray)) : AV × Heap := (.sl (Ql r), [])
abbrev EK := Option (List ByteArray)
abbrev QaO : List AV × Heap := ([], [])
abbrev Qh6 (w : Cf) : Option AH := w 111 (QaO ).1 (QaO ).2
abbrev Qjk (w : Cf) (c : EK) : Prop := ∀ (r : (List ByteArray)), c = some r → Qh6 w = some (QaN r)
def QdJ : Option (List ByteArray) := (some [s_b, s_bl, s_bc])
def QaP (P : Pg) (w : Cf) : Tr (List ByteArray) AH := (.rows [[xs s_b], [xs s_bl], [xs s_bc]] (Ql [s_b, s_bl, s_bc]) (rt QaN [s_b, s_bl, s_bc]))
theorem QnN (w : Cf) : (QaP pp w ).norm (bodyT pp w G 111 (QaO ).1 (QaO ).2) = QaP pp w := by kernel_rfl
theorem QnO (P : Pg) (w : Cf) (lp : Lo) : (QaP P w ).ok lp QaN := ⟨(Vp [s_b, s_bl, s_bc]), rfl⟩
def Wm.s : Nat → Option (List ByteArray)
  | 0 => none
  | k + 1 => QdJ
theorem Wm.ok : ∀ (k : Nat), Qjk (ev k) (Wm.s k)
  | 0, _, h => (nomatch h)
  | k + 1, r, h => fn_ok rfl (QaP pp (ev k) ) (QnN _ ) (QnO _ _ _ ) h
noncomputable def Wm : Option (List ByteArray) := QdJ
theorem Wm.cv : Cv (fun k => Wm.s k ) (Wm ) := .un rfl (by exact .const _)
theorem Wm.eq : Wm = QdJ := rfl
def WU (r : Int) : AV × Heap := (xi r, [])
abbrev Z0 := (List ByteArray) → ByteArray → Option Int
abbrev PF (a0 : (List ByteArray)) (a1 : ByteArray) : List AV × Heap := ([.sl (Ql a0), xs a1], [])
abbrev Zl (w : Cf) (a0 : (List ByteArray)) (a1 : ByteArray) : Option AH := w 126 (PF a0 a1).1 (PF a0 a1).2
abbrev QgF (w : Cf) (c : Z0) : Prop := ∀ (a0 : (List ByteArray)) (a1 : ByteArray) (r : Int), c a0 a1 = some r → Zl w a0 a1 = some (WU r)
structure Jo where
  x0 : (List ByteArray)
  x1 : ByteArray
  x7 : Int
  x8 : Int
def YR (a : Jo) : St := { n := 19, nx := 0, env := [(0, .sl (Ql a.x0)), (1, xs a.x1), (7, xi a.x7), (8, xi a.x8)], heap := [] }
def Qcr (a : Int) : Ex × St := (.ret, { n := 19, nx := 0, env := [(4, xi a)], heap := [] })
def Qcs (a : Unit) : Ex × St := (.exit 0, { n := 19, nx := 0, env := [], heap := [] })
def Z7 (a : (Int ⊕ Unit)) : Ex × St := Sum.elim Qcr Qcs a
abbrev Yc := Jo → Option (Int ⊕ Unit)
abbrev QjF (P : Pg) (lp : Lo) (l : Yc) : Prop := ∀ (a : Jo) (r : (Int ⊕ Unit)), l a = some r → lp (loopAt P 126 2) (YR a) = some (Z7 r)
def Z8 (a : Jo) : Option (Jo ⊕ (Int ⊕ Unit)) := (bif (decide (a.x8 < a.x7)) then (bif (decide (0 ≤ a.x8)) then ((a.x0[(Int.toNat a.x8)]?).bind fun e1 => (bif (eqS a.x1 e1) then (some (.inr (.inl a.x8))) else (some (.inl (Jo.mk a.x0 a.x1 a.x7 (w64 (a.x8 + 1))))))) else none) else (some (.inr (.inr ()))))
def EY (P : Pg) (w : Cf) (a : Jo) : Tr (Jo ⊕ (Int ⊕ Unit)) XS := (.as (decide (a.x8 < a.x7)) (.as (decide (0 ≤ a.x8)) (.row ((Ql a.x0)[(Int.toNat a.x8)]?) (a.x0[(Int.toNat a.x8)]?) UP fun (e1 : ByteArray) => (.as (eqS a.x1 e1) (rx Z7 (.inl a.x8)) (lf YR (Jo.mk a.x0 a.x1 a.x7 (w64 (a.x8 + 1)))))) .fail) (rx Z7 (.inr ())))
theorem QiS (w : Cf) (a : Jo) : (EY pp w a).norm (roundT pp G.kd w 0 (G.an 126) (loopAt pp 126 2) (YR a)) = EY pp w a := by kernel_rfl
theorem QiT (P : Pg) (w : Cf) (lp : Lo) (a : Jo) : (EY P w a).ok lp (Sum.elim (fun a => (.norm, YR a)) Z7) := ⟨rfl, fun q0 => ⟨rfl, fun q1 => fun e1 h => ⟨Vq h, ⟨rfl, fun q2 => rfl, fun q2 => rfl⟩⟩, fun q1 => trivial⟩, fun q0 => rfl⟩
def QL.s (k : Nat) : Jo → Option (Int ⊕ Unit) := iter (Z8 ) k
theorem Qh7 (w : Cf) (k : Nat) (a : Jo) (r : (Int ⊕ Unit)) (h : QL.s k a = some r) : loopsF pp G.kd w 0 (G.an 126) k (loopAt pp 126 2) (YR a) = some (Z7 r) :=
  VZ (fun a => EY pp w a) (fun _ => rfl) (fun a => QiS w a) (fun a => QiT _ w _ a) (fun r => by cases r <;> nofun) h
noncomputable def QL.w : Jo → Option (Int ⊕ Unit) := loopW (Z8 )
theorem QL.cv (a : Jo) : Cv (fun k => QL.s k a) (QL.w a) := Cv.iter (fun a => by exact .const _) a
def Yq (L0 : Yc) (a0 : (List ByteArray)) (a1 : ByteArray) : Option Int := ((L0 (Jo.mk a0 a1 (((a0.length) : Nat) : Int) (0 : Int))).bind fun x => Sum.elim (fun (o1 : Int) => (some o1)) (fun (o2 : Unit) => (some (-1 : Int))) x)
def PG (P : Pg) (w : Cf) (L0 : Yc) (a0 : (List ByteArray)) (a1 : ByteArray) : Tr Int AH := (.num ((Ql a0).length) (a0.length) (.loop2 (loopAt P 126 2) (YR (Jo.mk a0 a1 (((a0.length) : Nat) : Int) i0)) (L0 (Jo.mk a0 a1 (((a0.length) : Nat) : Int) i0)) Qcr Qcs (fun (o1 : Int) => (rt WU o1)) (fun (o2 : Unit) => (rt WU (-1 : Int)))))
theorem Qlt (w : Cf) (L0 : Yc) (a0 : (List ByteArray)) (a1 : ByteArray) : (PG pp w L0 a0 a1).norm (bodyT pp w G 126 (PF a0 a1).1 (PF a0 a1).2) = PG pp w L0 a0 a1 := by kernel_rfl
theorem Qlu (P : Pg) (w : Cf) (lp : Lo) (L0 : Yc) (N0 : QjF P lp L0) (a0 : (List ByteArray)) (a1 : ByteArray) : (PG P w L0 a0 a1).ok lp WU := ⟨(Jy _), ⟨fun o1 ho1 => ⟨N0 _ (.inl _) ho1, rfl⟩, fun o2 ho2 => ⟨N0 _ (.inr _) ho2, rfl⟩⟩⟩
theorem Qlv {L0 : Nat → Yc} {M0 : Yc} (N0 : Cv1 L0 M0) (a0 : (List ByteArray)) (a1 : ByteArray) : Cv (fun k => Yq (L0 k) a0 a1) (Yq M0 a0 a1) := by
  unfold Yq
  exact .bind (N0 _) fun x => .sum (fun o1 => by exact .const _) (fun o2 => by exact .const _) x
def UW.s : Nat → (List ByteArray) → ByteArray → Option Int
  | 0, _, _ => none
  | k + 1, a0, a1 => Yq (QL.s k) a0 a1
theorem UW.ok : ∀ (k : Nat), QgF (ev k) (UW.s k)
  | 0, _, _, _, h => (nomatch h)
  | k + 1, a0, a1, r, h => fn_ok rfl (PG pp (ev k) (QL.s k) a0 a1) (Qlt _ _ a0 a1) (Qlu _ _ _ _ (Qh7 _ k) a0 a1) h
noncomputable def QL : Jo → Option (Int ⊕ Unit) := QL.w
theorem QL.eq (a : Jo) : QL a = (Z8 a).bind (Sum.elim QL some) := UO _ _
noncomputable def UW (a0 : (List ByteArray)) (a1 : ByteArray) : Option Int := Yq QL a0 a1
theorem UW.cv (a0 : (List ByteArray)) (a1 : ByteArray) : Cv (fun k => UW.s k a0 a1) (UW a0 a1) := .un rfl (Qlv (QL.cv) a0 a1)
theorem UW.eq (a0 : (List ByteArray)) (a1 : ByteArray) : UW a0 a1 = Yq QL a0 a1 := rfl
def ZA (r : (Qb × (List Nat))) : AV × Heap := (.arr 3, [(0, .box [0, 0, 0, 0, 0, 5] [xi r.1.x.Line, xs r.1.x.Label, xi r.1.x.Kind, xi r.1.x.Op, xs r.1.x.Text, .arr 2]), (2, .arr true 5 (QJ r.1.x.Args)), (3, .fs (some 0) (UD r.2))])
abbrev Fs := Int → Qb → Option (Qb × (List Nat))
abbrev QbU (a1 : Int) (h0 : Qb) : List AV × Heap := ([.fn (.func 129) [.ptr 0 0] [], xi a1], [(0, .box [0, 0, 0, 0, 0, 5] [xi h0.x.Line, xs h0.x.Label, xi h0.x.Kind, xi h0.x.Op, xs h0.x.Text, .arr 1]), (1, .arr true 5 (QJ h0.x.Args))])
abbrev EL (w : Cf) (a1 : Int) (h0 : Qb) : Option AH := w 128 (QbU a1 h0).1 (QbU a1 h0).2
abbrev QkF (w : Cf) (c : Fs) : Prop := ∀ (a1 : Int) (h0 : Qb) (r : (Qb × (List Nat))), c a1 h0 = some r → EL w a1 h0 = some (ZA r)
structure J2 where
  x6 : Int
  x7 : Int
  h0 : Qb
  r3 : (List Nat)
structure Vh where
  h0 : Qb
  r3 : (List Nat)
def Gy (a : J2) : St := { n := 15, nx := 4, env := [(0, .fn (.func 129) [.ptr 0 0] []), (5, .arr 3), (6, xi a.x6), (7, xi a.x7)], heap := [(0, .box [0, 0, 0, 0, 0, 5] [xi a.h0.x.Line, xs a.h0.x.Label, xi a.h0.x.Kind, xi a.h0.x.Op, xs a.h0.x.Text, .arr 2]), (2, .arr true 5 (QJ a.h0.x.Args)), (3, .fs (some 0) (UD a.r3))] }
def Fb (a : Vh) : Ex × St := (.exit 0, { n := 15, nx := 4, env := [(5, .arr 3)], heap := [(0, .box [0, 0, 0, 0, 0, 5] [xi a.h0.x.Line, xs a.h0.x.Label, xi a.h0.x.Kind, xi a.h0.x.Op, xs a.h0.x.Text, .arr 2]), (2, .arr true 5 (QJ a.h0.x.Args)), (3, .fs (some 0) (UD a.r3))] })
abbrev Z1 := J2 → Option Vh
abbrev QmG (P : Pg) (lp : Lo) (l : Z1) : Prop := ∀ (a : J2) (r : Vh), l a = some r → lp (loopAt P 128 3) (Gy a) = some (Fb r)
def Fc (a : J2) : Option (J2 ⊕ Vh) := (bif (decide (a.x7 < a.x6)) then (bif (decide ((a.r3.length + [129].length) * 8 ≤ most)) then (some (.inl (J2.mk a.x6 (w64 (a.x7 + 1)) a.h0 (a.r3 ++ [129])))) else none) else (some (.inr (Vh.mk a.h0 a.r3))))
def PH (P : Pg) (w : Cf) (a : J2) : Tr (J2 ⊕ Vh) XS := (.as (decide (a.x7 < a.x6)) (.rows [[.fn (.func 129) [] []]] (UD [129]) (.yes (decide ((UD [129]).all (fun r => r.length == 1) = true)) (.ask (decide (((UD a.r3).length + (UD [129]).length) * 8 ≤ most)) (decide ((a.r3.length + [129].length) * 8 ≤ most)) (.rows ((UD a.r3) ++ (UD [129])) (UD (a.r3 ++ [129])) (lf Gy (J2.mk a.x6 (w64 (a.x7 + 1)) a.h0 (a.r3 ++ [129])))) .fail))) (rx Fb (Vh.mk a.h0 a.r3)))
theorem Qlw (w : Cf) (a : J2) : (PH pp w a).norm (roundT pp G.kd w 2 (G.an 128) (loopAt pp 128 3) (Gy a)) = PH pp w a := by kernel_rfl
theorem Qlx (P : Pg) (w : Cf) (lp : Lo) (a : J2) : (PH P w a).ok lp (Sum.elim (fun a => (.norm, Gy a)) Fb) := ⟨rfl, fun q0 => ⟨(Ed [129]), ⟨(decide_eq_true (QfY _)), ⟨(by rw [Ga, Ga]), fun q1 => ⟨(QcA _ _), rfl⟩, fun q1 => trivial⟩⟩⟩, fun q0 => rfl⟩
def UH.s (k : Nat) : J2 → Option Vh := iter (Fc ) k
theorem QkG (w : Cf) (k : Nat) (a : J2) (r : Vh) (h : UH.s k a = some r) : loopsF pp G.kd w 2 (G.an 128) k (loopAt pp 128 3) (Gy a) = some (Fb r) :=
  VZ (fun a => PH pp w a) (fun _ => rfl) (fun a => Qlw w a) (fun a => Qlx _ w _ a) (fun r => nofun) h
noncomputable def UH.w : J2 → Option Vh := loopW (Fc )
theorem UH.cv (a : J2) : Cv (fun k => UH.s k a) (UH.w a) := Cv.iter (fun a => by exact .const _) a
def EM (L0 : Z1) (a1 : Int) (h0 : Qb) : Option (Qb × (List Nat)) := ((L0 (J2.mk a1 (0 : Int) h0 ([] : List Nat))).bind (fun (o1 : Vh) => (some (o1.h0, o1.r3))))
def QbV (P : Pg) (w : Cf) (L0 : Z1) (a1 : Int) (h0 : Qb) : Tr (Qb × (List Nat)) AH := (.loop (loopAt P 128 3) (Gy (J2.mk a1 i0 h0 ([] : List Nat))) (L0 (J2.mk a1 i0 h0 ([] : List Nat))) Fb (fun (o1 : Vh) => (rt ZA (o1.h0, o1.r3))))
theorem Qo2 (w : Cf) (L0 : Z1) (a1 : Int) (h0 : Qb) : (QbV pp w L0 a1 h0).norm (bodyT pp w G 128 (QbU a1 h0).1 (QbU a1 h0).2) = QbV pp w L0 a1 h0 := by kernel_rfl
theorem Qo3 (P : Pg) (w : Cf) (lp : Lo) (L0 : Z1) (N0 : QmG P lp L0) (a1 : Int) (h0 : Qb) : (QbV P w L0 a1 h0).ok lp ZA := fun o1 ho1 => ⟨N0 _ _ ho1, rfl⟩
theorem Qo4 {L0 : Nat → Z1} {M0 : Z1} (N0 : Cv1 L0 M0) (a1 : Int) (h0 : Qb) : Cv (fun k => EM (L0 k) a1 h0) (EM M0 a1 h0) := by
  unfold EM
  exact .bind (N0 _) (fun o1 => by exact .const _)
def Wh.s : Nat → Int → Qb → Option (Qb × (List Nat))
  | 0, _, _ => none
  | k + 1, a1, h0 => EM (UH.s k) a1 h0
theorem Wh.ok : ∀ (k : Nat), QkF (ev k) (Wh.s k)
  | 0, _, _, _, h => (nomatch h)
  | k + 1, a1, h0, r, h => fn_ok rfl (QbV pp (ev k) (UH.s k) a1 h0) (Qo2 _ _ a1 h0) (Qo3 _ _ _ _ (QkG _ k) a1 h0) h
noncomputable def UH : J2 → Option Vh := UH.w
theorem UH.eq (a : J2) : UH a = (Fc a).bind (Sum.elim UH some) := UO _ _
noncomputable def Wh (a1 : Int) (h0 : Qb) : Option (Qb × (List Nat)) := EM UH a1 h0
theorem Wh.cv (a1 : Int) (h0 : Qb) : Cv (fun k => Wh.s k a1 h0) (Wh a1 h0) := .un rfl (Qo4 (UH.cv) a1 h0)
theorem Wh.eq (a1 : Int) (h0 : Qb) : Wh a1 h0 = EM UH a1 h0 := rfl
def Xj (r : Bool) : AV × Heap := (xo r, [])
abbrev Un := Int → Option Bool
abbrev ZR (a0 : Int) : List AV × Heap := ([xb a0], [])
abbrev SH (w : Cf) (a0 : Int) : Option AH := w 180 (ZR a0).1 (ZR a0).2
abbrev Ft (w : Cf) (c : Un) : Prop := ∀ (a0 : Int) (r : Bool), c a0 = some r → SH w a0 = some (Xj r)
def ZS (a0 : Int) : Option Bool := (bif (decide (a0 ≥ 32)) then (bif (decide (a0 ≤ (126 : Int))) then (some (a0 != 34)) else (some false)) else (some false))
def ZT (P : Pg) (w : Cf) (a0 : Int) : Tr Bool AH := (let u68 := (decide (a0 ≥ 32)); .as u68 (yesN 2 u68 (let u67 := (decide (a0 ≤ (zi 126))); .as u67 (yesN 2 u67 (rt Xj (a0 != 34))) (noN 2 u67 (rt Xj false)))) (noN 2 u68 (noN 3 false (rt Xj false))))
theorem QfC (w : Cf) (a0 : Int) : (ZT pp w a0).norm (bodyT pp w G 180 (ZR a0).1 (ZR a0).2) = ZT pp w a0 := by kernel_rfl
theorem QfD (P : Pg) (w : Cf) (lp : Lo) (a0 : Int) : (ZT P w a0).ok lp Xj := ⟨rfl, fun q0 => Qr 2 (q0) (⟨rfl, fun q1 => Qr 2 (q1) (rfl), fun q1 => noN_ok 2 (q1) (rfl)⟩), fun q0 => noN_ok 2 (q0) (noN_ok 3 (rfl) (rfl))⟩
def Jh.s : Nat → Int → Option Bool
  | 0, _ => none
  | k + 1, a0 => ZS a0
theorem Jh.ok : ∀ (k : Nat), Ft (ev k) (Jh.s k)
  | 0, _, _, h => (nomatch h)
  | k + 1, a0, r, h => fn_ok rfl (ZT pp (ev k) a0) (QfC _ a0) (QfD _ _ _ a0) h
noncomputable def Jh (a0 : Int) : Option Bool := ZS a0
theorem Jh.cv (a0 : Int) : Cv (fun k => Jh.s k a0) (Jh a0) := .un rfl (by exact .const _)
theorem Jh.eq (a0 : Int) : Jh a0 = ZS a0 := rfl
def PI (r : Int) : AV × Heap := (xi r, [])
abbrev Z2 := ByteArray → Option Int
abbrev PJ (a0 : ByteArray) : List AV × Heap := ([xs a0, .fn (.func 180) [] []], [])
abbrev QfE (w : Cf) (a0 : ByteArray) : Option AH := w 72 (PJ a0).1 (PJ a0).2
abbrev QgG (w : Cf) (c : Z2) : Prop := ∀ (a0 : ByteArray) (r : Int), c a0 = some r → QfE w a0 = some (PI r)
structure Jd where
  x0 : ByteArray
  x5 : Int
def YS (a : Jd) : St := { n := 20, nx := 0, env := [(0, xs a.x0), (1, .fn (.func 180) [] []), (5, xi a.x5)], heap := [] }
def YT (a : Int) : Ex × St := (.exit 0, { n := 20, nx := 0, env := [(5, xi a)], heap := [] })
abbrev Yd := Jd → Option Int
abbrev QjG (P : Pg) (lp : Lo) (l : Yd) : Prop := ∀ (a : Jd) (r : Int), l a = some r → lp (loopAt P 72 2) (YS a) = some (YT r)
def XY (C0 : Un) (a : Jd) : Option (Jd ⊕ Int) := (bif (decide (a.x5 < ((a.x0.size : Nat) : Int))) then (bif (decide (0 ≤ a.x5 ∧ a.x5 < ((a.x0.size : Nat) : Int))) then ((C0 ((a.x0.data.getD (Int.toNat a.x5) 0).toNat : Int)).bind fun r1 => (bif r1 then (some (.inl (Jd.mk a.x0 (w64 (a.x5 + 1))))) else (some (.inr a.x5)))) else none) else (some (.inr a.x5)))
def EZ (P : Pg) (w : Cf) (C0 : Un) (a : Jd) : Tr (Jd ⊕ Int) XS := (let u69 := (decide (a.x5 < (zz a.x0))); .as u69 (yesN 3 u69 (.as (in1 a.x5 (zz a.x0)) (.yes u69 (.call (SH w (gb a.x0 a.x5)) (C0 (gb a.x0 a.x5)) Xj fun r1 => (.yes u69 (.as r1 (lf YS (Jd.mk a.x0 (w64 (a.x5 + 1)))) (rx YT a.x5))))) .fail)) (noN 5 u69 (.no false (rx YT a.x5))))
theorem QiU (w : Cf) (C0 : Un) (a : Jd) : (EZ pp w C0 a).norm (roundT pp G.kd w 0 (G.an 72) (loopAt pp 72 2) (YS a)) = EZ pp w C0 a := by kernel_rfl
theorem QiV (P : Pg) (w : Cf) (lp : Lo) (C0 : Un) (K0 : Ft w C0) (a : Jd) : (EZ P w C0 a).ok lp (Sum.elim (fun a => (.norm, YS a)) YT) := ⟨rfl, fun q0 => Qr 3 (q0) (⟨rfl, fun q1 => ⟨q0, fun r1 hr1 => ⟨K0 _ _ hr1, ⟨q0, ⟨rfl, fun q2 => rfl, fun q2 => rfl⟩⟩⟩⟩, fun q1 => trivial⟩), fun q0 => noN_ok 5 (q0) (⟨rfl, rfl⟩)⟩
theorem QiW {C0 : Nat → Un} {D0 : Un} (H0 : Cv1 C0 D0) (a : Jd) : Cv (fun k => XY (C0 k) a) (XY D0 a) := by
  unfold XY
  exact .cond (.cond (.bind (H0 _) fun r1 => by exact .const _) cst) cst
def Us.s (k : Nat) (C0 : Un) : Jd → Option Int := iter (XY C0) k
theorem Qh8 (w : Cf) (k : Nat) (C0 : Un) (K0 : Ft w C0) (a : Jd) (r : Int) (h : Us.s k C0 a = some r) : loopsF pp G.kd w 0 (G.an 72) k (loopAt pp 72 2) (YS a) = some (YT r) :=
  VZ (fun a => EZ pp w C0 a) (fun _ => rfl) (fun a => QiU w _ a) (fun a => QiV _ w _ _ K0 a) (fun r => nofun) h
noncomputable def Us.w (C0 : Un) : Jd → Option Int := loopW (XY C0)
theorem Us.cv (C0 : Nat → Un) (D0 : Un) (H0 : Cv1 C0 D0) (a : Jd) : Cv (fun k => Us.s k (C0 k) a) (Us.w D0 a) := Cv.iter (fun a => QiW H0 a) a
def Zm (L0 : Yd) (a0 : ByteArray) : Option Int := ((L0 (Jd.mk a0 (0 : Int))).bind (fun (o1 : Int) => (some o1)))
def PK (P : Pg) (w : Cf) (L0 : Yd) (a0 : ByteArray) : Tr Int AH := (.loop (loopAt P 72 2) (YS (Jd.mk a0 i0)) (L0 (Jd.mk a0 i0)) YT (fun (o1 : Int) => (rt PI o1)))
theorem Qly (w : Cf) (L0 : Yd) (a0 : ByteArray) : (PK pp w L0 a0).norm (bodyT pp w G 72 (PJ a0).1 (PJ a0).2) = PK pp w L0 a0 := by kernel_rfl
theorem Qlz (P : Pg) (w : Cf) (lp : Lo) (L0 : Yd) (N0 : QjG P lp L0) (a0 : ByteArray) : (PK P w L0 a0).ok lp PI := fun o1 ho1 => ⟨N0 _ _ ho1, rfl⟩
theorem QlA {L0 : Nat → Yd} {M0 : Yd} (N0 : Cv1 L0 M0) (a0 : ByteArray) : Cv (fun k => Zm (L0 k) a0) (Zm M0 a0) := by
  unfold Zm
  exact .bind (N0 _) (fun o1 => by exact .const _)
def Vt.s : Nat → ByteArray → Option Int
  | 0, _ => none
  | k + 1, a0 => Zm (Us.s k (Jh.s k)) a0
theorem Vt.ok : ∀ (k : Nat), QgG (ev k) (Vt.s k)
  | 0, _, _, h => (nomatch h)
  | k + 1, a0, r, h => fn_ok rfl (PK pp (ev k) (Us.s k (Jh.s k)) a0) (Qly _ _ a0) (Qlz _ _ _ _ (Qh8 _ k _ (Jh.ok k)) a0) h
noncomputable def Us : Jd → Option Int := Us.w Jh
theorem Us.eq (a : Jd) : Us a = (XY Jh a).bind (Sum.elim Us some) := UO _ _
noncomputable def Vt (a0 : ByteArray) : Option Int := Zm Us a0
theorem Vt.cv (a0 : ByteArray) : Cv (fun k => Vt.s k a0) (Vt a0) := .un rfl (QlA (Us.cv (fun k => Jh.s k) Jh Jh.cv) a0)
theorem Vt.eq (a0 : ByteArray) : Vt a0 = Zm Us a0 := rfl
def Wi (r : (Bool × Qb)) : AV × Heap := (xo r.1, [(0, .box [0, 0, 0, 0, 0, 5] [xi r.2.x.Line, xs r.2.x.Label, xi r.2.x.Kind, xi r.2.x.Op, xs r.2.x.Text, .arr 2]), (2, .arr true 5 (QJ r.2.x.Args))])
abbrev Xv := ByteArray → Qb → Option (Bool × Qb)
abbrev G5 (a1 : ByteArray) (h0 : Qb) : List AV × Heap := ([.ptr 0 0, xs a1], [(0, .box [0, 0, 0, 0, 0, 5] [xi h0.x.Line, xs h0.x.Label, xi h0.x.Kind, xi h0.x.Op, xs h0.x.Text, .arr 1]), (1, .arr true 5 (QJ h0.x.Args))])
abbrev Qbf (w : Cf) (a1 : ByteArray) (h0 : Qb) : Option AH := w 130 (G5 a1 h0).1 (G5 a1 h0).2
abbrev Qct (w : Cf) (c : Xv) : Prop := ∀ (a1 : ByteArray) (h0 : Qb) (r : (Bool × Qb)), c a1 h0 = some r → Qbf w a1 h0 = some (Wi r)
def Xb (C0 : Z2) (a1 : ByteArray) (h0 : Qb) : Option (Bool × Qb) := (bif (decide (((a1.size : Nat) : Int) < 2)) then (some (false, h0)) else (bif (decide (((a1.size : Nat) : Int) > 62)) then (some (false, h0)) else (bif (decide (0 ≤ (0 : Int) ∧ (0 : Int) < ((a1.size : Nat) : Int))) then (bif (((a1.data.getD (Int.toNat 0) 0).toNat : Int) != 34) then (some (false, h0)) else (bif (decide (0 ≤ (w64 (((a1.size : Nat) : Int) - 1)) ∧ (w64 (((a1.size : Nat) : Int) - 1)) < ((a1.size : Nat) : Int))) then (bif (((a1.data.getD (Int.toNat (w64 (((a1.size : Nat) : Int) - 1))) 0).toNat : Int) != 34) then (some (false, h0)) else (bif (decide (0 ≤ (1 : Int) ∧ (1 : Int) ≤ (w64 (((a1.size : Nat) : Int) - 1)) ∧ (w64 (((a1.size : Nat) : Int) - 1)) ≤ ((a1.size : Nat) : Int))) then ((C0 (a1.extract (Int.toNat 1) (Int.toNat (w64 (((a1.size : Nat) : Int) - 1))))).bind fun r1 => (some ((r1 == (((a1.extract (Int.toNat 1) (Int.toNat (w64 (((a1.size : Nat) : Int) - 1)))).size : Nat) : Int)), (Qb.mk (Qf.mk h0.x.Line h0.x.Label h0.x.Kind h0.x.Op (a1.extract (Int.toNat 1) (Int.toNat (w64 (((a1.size : Nat) : Int) - 1)))) h0.x.Args))))) else none)) else none)) else none)))
def G6 (P : Pg) (w : Cf) (C0 : Z2) (a1 : ByteArray) (h0 : Qb) : Tr (Bool × Qb) AH := (let u72 := (decide ((zz a1) < 2)); .as u72 (yesN 3 u72 (yesN 12 true (rt Wi (false, h0)))) (noN 3 u72 (let u71 := (decide ((zz a1) > 62)); .as u71 (yesN 3 u71 (yesN 8 true (rt Wi (false, h0)))) (.no u71 (.as (in1 i0 (zz a1)) (noN 2 u71 (let u70 := ((gb a1 i0) != 34); .as u70 (yesN 6 u70 (.yes true (rt Wi (false, h0)))) (noN 4 u70 (.as (in1 (w64 ((zz a1) - 1)) (zz a1)) (noN 2 u70 (.as ((gb a1 (w64 ((zz a1) - 1))) != 34) (rt Wi (false, h0)) (.as (in2 (zi 1) (w64 ((zz a1) - 1)) (zz a1)) (.call (QfE w (cu a1 (zi 1) (w64 ((zz a1) - 1)))) (C0 (cu a1 (zi 1) (w64 ((zz a1) - 1)))) PI fun r1 => (rt Wi ((r1 == (zz (cu a1 (zi 1) (w64 ((zz a1) - 1))))), (Qb.mk (Qf.mk h0.x.Line h0.x.Label h0.x.Kind h0.x.Op (cu a1 (zi 1) (w64 ((zz a1) - 1))) h0.x.Args))))) .fail))) .fail)))) .fail)))))
theorem Qg4 (w : Cf) (C0 : Z2) (a1 : ByteArray) (h0 : Qb) : (G6 pp w C0 a1 h0).norm (bodyT pp w G 130 (G5 a1 h0).1 (G5 a1 h0).2) = G6 pp w C0 a1 h0 := by kernel_rfl
theorem Qg5 (P : Pg) (w : Cf) (lp : Lo) (C0 : Z2) (K0 : QgG w C0) (a1 : ByteArray) (h0 : Qb) : (G6 P w C0 a1 h0).ok lp Wi := ⟨rfl, fun q0 => Qr 3 (q0) (Qr 12 (rfl) (rfl)), fun q0 => noN_ok 3 (q0) (⟨rfl, fun q1 => Qr 3 (q1) (Qr 8 (rfl) (rfl)), fun q1 => ⟨q1, ⟨rfl, fun q2 => noN_ok 2 (q1) (⟨rfl, fun q3 => Qr 6 (q3) (⟨rfl, rfl⟩), fun q3 => noN_ok 4 (q3) (⟨rfl, fun q4 => noN_ok 2 (q3) (⟨rfl, fun q5 => rfl, fun q5 => ⟨rfl, fun q6 => fun r1 hr1 => ⟨K0 _ _ hr1, rfl⟩, fun q6 => trivial⟩⟩), fun q4 => trivial⟩)⟩), fun q2 => trivial⟩⟩⟩)⟩
theorem Qg6 {C0 : Nat → Z2} {D0 : Z2} (H0 : Cv1 C0 D0) (a1 : ByteArray) (h0 : Qb) : Cv (fun k => Xb (C0 k) a1 h0) (Xb D0 a1 h0) := by
  unfold Xb
  exact .cond cst (.cond cst (.cond (.cond cst (.cond (.cond cst (.cond (.bind (H0 _) fun r1 => by exact .const _) cst)) cst)) cst))
def J3.s : Nat → ByteArray → Qb → Option (Bool × Qb)
  | 0, _, _ => none
  | k + 1, a1, h0 => Xb (Vt.s k) a1 h0
theorem J3.ok : ∀ (k : Nat), Qct (ev k) (J3.s k)
  | 0, _, _, _, h => (nomatch h)
  | k + 1, a1, h0, r, h => fn_ok rfl (G6 pp (ev k) (Vt.s k) a1 h0) (Qg4 _ _ a1 h0) (Qg5 _ _ _ _ (Vt.ok k) a1 h0) h
noncomputable def J3 (a1 : ByteArray) (h0 : Qb) : Option (Bool × Qb) := Xb Vt a1 h0
theorem J3.cv (a1 : ByteArray) (h0 : Qb) : Cv (fun k => J3.s k a1 h0) (J3 a1 h0) := .un rfl (Qg6 Vt.cv a1 h0)
theorem J3.eq (a1 : ByteArray) (h0 : Qb) : J3 a1 h0 = Xb Vt a1 h0 := rfl
def QC (r : (Bool × Qb)) : AV × Heap := (xo r.1, [(0, .box [0, 0, 0, 0, 0, 5] [xi r.2.x.Line, xs r.2.x.Label, xi r.2.x.Kind, xi r.2.x.Op, xs r.2.x.Text, .arr 2]), (2, .arr true 5 (QJ r.2.x.Args))])
abbrev Wa := ByteArray → ByteArray → Qb → Option (Bool × Qb)
abbrev Y5 (a1 : ByteArray) (a2 : ByteArray) (h0 : Qb) : List AV × Heap := ([.ptr 0 0, xs a1, xs a2], [(0, .box [0, 0, 0, 0, 0, 5] [xi h0.x.Line, xs h0.x.Label, xi h0.x.Kind, xi h0.x.Op, xs h0.x.Text, .arr 1]), (1, .arr true 5 (QJ h0.x.Args))])
abbrev Y6 (w : Cf) (a1 : ByteArray) (a2 : ByteArray) (h0 : Qb) : Option AH := w 76 (Y5 a1 a2 h0).1 (Y5 a1 a2 h0).2
abbrev Sc (w : Cf) (c : Wa) : Prop := ∀ (a1 : ByteArray) (a2 : ByteArray) (h0 : Qb) (r : (Bool × Qb)), c a1 a2 h0 = some r → Y6 w a1 a2 h0 = some (QC r)
def VY (C0 : Zh) (C1 : F3) (C2 : VL) (C3 : EK) (C4 : Z0) (C5 : Fs) (C6 : Yp) (C7 : Xv) (a1 : ByteArray) (a2 : ByteArray) (h0 : Qb) : Option (Bool × Qb) := ((C0 a2).bind fun r1 => ((C1 a1).bind fun r2 => (bif r2.2 then ((C2 r1 (Qb.mk (Qf.mk h0.x.Line h0.x.Label (1 : Int) r2.1 h0.x.Text h0.x.Args))).bind fun r3 => (some (r3.1, r3.2))) else ((C3).bind fun r4 => ((C4 r4 a1).bind fun r5 => (bif (decide (r5 ≥ 0)) then ((C5 (w64 ((1 : Int) + (w64 ((w64 (Int.tdiv r5 (2 : Int))) * (2 : Int))))) (Qb.mk (Qf.mk h0.x.Line h0.x.Label (2 : Int) r5 h0.x.Text h0.x.Args))).bind fun r6 => ((C6 r1 r6.1 r6.2).bind fun r7 => (some (r7.1, r7.2)))) else (bif (eqS a1 JN) then ((C4 [JN, JO, JP] a1).bind fun r8 => (bif (decide ((((r1.length) : Nat) : Int) ≥ 1)) then (bif (decide ((((r1.length) : Nat) : Int) ≤ 16)) then ((C5 (((r1.length) : Nat) : Int) (Qb.mk (Qf.mk h0.x.Line h0.x.Label (w64 ((3 : Int) + r8)) h0.x.Op h0.x.Text h0.x.Args))).bind fun r9 => ((C6 r1 r9.1 r9.2).bind fun r10 => (some (r10.1, r10.2)))) else (some (false, (Qb.mk (Qf.mk h0.x.Line h0.x.Label (w64 ((3 : Int) + r8)) h0.x.Op h0.x.Text h0.x.Args))))) else (some (false, (Qb.mk (Qf.mk h0.x.Line h0.x.Label (w64 ((3 : Int) + r8)) h0.x.Op h0.x.Text h0.x.Args)))))) else (bif (eqS a1 JO) then ((C4 [JN, JO, JP] a1).bind fun r11 => (bif (decide ((((r1.length) : Nat) : Int) ≥ 1)) then (bif (decide ((((r1.length) : Nat) : Int) ≤ 16)) then ((C5 (((r1.length) : Nat) : Int) (Qb.mk (Qf.mk h0.x.Line h0.x.Label (w64 ((3 : Int) + r11)) h0.x.Op h0.x.Text h0.x.Args))).bind fun r12 => ((C6 r1 r12.1 r12.2).bind fun r13 => (some (r13.1, r13.2)))) else (some (false, (Qb.mk (Qf.mk h0.x.Line h0.x.Label (w64 ((3 : Int) + r11)) h0.x.Op h0.x.Text h0.x.Args))))) else (some (false, (Qb.mk (Qf.mk h0.x.Line h0.x.Label (w64 ((3 : Int) + r11)) h0.x.Op h0.x.Text h0.x.Args)))))) else (bif (eqS a1 JP) then ((C4 [JN, JO, JP] a1).bind fun r14 => (bif (decide ((((r1.length) : Nat) : Int) ≥ 1)) then (bif (decide ((((r1.length) : Nat) : Int) ≤ 16)) then ((C5 (((r1.length) : Nat) : Int) (Qb.mk (Qf.mk h0.x.Line h0.x.Label (w64 ((3 : Int) + r14)) h0.x.Op h0.x.Text h0.x.Args))).bind fun r15 => ((C6 r1 r15.1 r15.2).bind fun r16 => (some (r16.1, r16.2)))) else (some (false, (Qb.mk (Qf.mk h0.x.Line h0.x.Label (w64 ((3 : Int) + r14)) h0.x.Op h0.x.Text h0.x.Args))))) else (some (false, (Qb.mk (Qf.mk h0.x.Line h0.x.Label (w64 ((3 : Int) + r14)) h0.x.Op h0.x.Text h0.x.Args)))))) else (bif (eqS a1 Zc) then ((C7 a2 (Qb.mk (Qf.mk h0.x.Line h0.x.Label (6 : Int) h0.x.Op h0.x.Text h0.x.Args))).bind fun r17 => (some (r17.1, r17.2))) else (bif (eqS a1 J7) then ((C4 [J7, J8] a1).bind fun r18 => ((C5 (1 : Int) (Qb.mk (Qf.mk h0.x.Line h0.x.Label (w64 ((7 : Int) + r18)) h0.x.Op h0.x.Text h0.x.Args))).bind fun r19 => ((C6 r1 r19.1 r19.2).bind fun r20 => (some (r20.1, r20.2))))) else (bif (eqS a1 J8) then ((C4 [J7, J8] a1).bind fun r21 => ((C5 (1 : Int) (Qb.mk (Qf.mk h0.x.Line h0.x.Label (w64 ((7 : Int) + r21)) h0.x.Op h0.x.Text h0.x.Args))).bind fun r22 => ((C6 r1 r22.1 r22.2).bind fun r23 => (some (r23.1, r23.2))))) else (bif (eqS a1 Fj) then ((C6 r1 (Qb.mk (Qf.mk h0.x.Line h0.x.Label (9 : Int) h0.x.Op h0.x.Text h0.x.Args)) [131, 129]).bind fun r24 => (some (r24.1, r24.2))) else (some (false, h0)))))))))))))))
def Y7 (P : Pg) (w : Cf) (C0 : Zh) (C1 : F3) (C2 : VL) (C3 : EK) (C4 : Z0) (C5 : Fs) (C6 : Yp) (C7 : Xv) (a1 : ByteArray) (a2 : ByteArray) (h0 : Qb) : Tr (Bool × Qb) AH := (.call (Qd5 w a2) (C0 a2) Ee fun r1 => (.call (Qkv w a1) (C1 a1) QcQ fun r2 => (.as r2.2 (.call (FQ w r1 (Qb.mk (Qf.mk h0.x.Line h0.x.Label (zi 1) r2.1 h0.x.Text h0.x.Args))) (C2 r1 (Qb.mk (Qf.mk h0.x.Line h0.x.Label (zi 1) r2.1 h0.x.Text h0.x.Args))) Yw fun r3 => (rt QC (r3.1, r3.2))) (.call (Qh6 w) (C3) QaN fun r4 => (.call (Zl w r4 a1) (C4 r4 a1) WU fun r5 => (.as (decide (r5 ≥ 0)) (.yes (decide ((zi 2) ≠ 0)) (.call (EL w (w64 ((zi 1) + (w64 ((w64 (Int.tdiv r5 (zi 2))) * (zi 2))))) (Qb.mk (Qf.mk h0.x.Line h0.x.Label (zi 2) r5 h0.x.Text h0.x.Args))) (C5 (w64 ((zi 1) + (w64 ((w64 (Int.tdiv r5 (zi 2))) * (zi 2))))) (Qb.mk (Qf.mk h0.x.Line h0.x.Label (zi 2) r5 h0.x.Text h0.x.Args))) ZA fun r6 => (.call (Gj w r1 r6.1 r6.2) (C6 r1 r6.1 r6.2) YG fun r7 => (rt QC (r7.1, r7.2))))) (let u81 := (eqS a1 JN); .as u81 (.yes u81 (.rows [[xs JN], [xs JO], [xs JP]] (Ql [JN, JO, JP]) (.call (Zl w [JN, JO, JP] a1) (C4 [JN, JO, JP] a1) WU fun r8 => (.num ((Ql r1).length) (r1.length) (let u74 := (decide ((((r1.length) : Nat) : Int) ≥ 1)); .as u74 (.yes u74 (.num ((Ql r1).length) (r1.length) (yesN 2 u74 (let u73 := (decide ((((r1.length) : Nat) : Int) ≤ 16)); .as u73 (yesN 4 u73 (.num ((Ql r1).length) (r1.length) (.yes u73 (.call (EL w (((r1.length) : Nat) : Int) (Qb.mk (Qf.mk h0.x.Line h0.x.Label (w64 ((zi 3) + r8)) h0.x.Op h0.x.Text h0.x.Args))) (C5 (((r1.length) : Nat) : Int) (Qb.mk (Qf.mk h0.x.Line h0.x.Label (w64 ((zi 3) + r8)) h0.x.Op h0.x.Text h0.x.Args))) ZA fun r9 => (.yes u73 (.call (Gj w r1 r9.1 r9.2) (C6 r1 r9.1 r9.2) YG fun r10 => (.yes u73 (rt QC (r10.1, r10.2))))))))) (noN 7 u73 (rt QC (false, (Qb.mk (Qf.mk h0.x.Line h0.x.Label (w64 ((zi 3) + r8)) h0.x.Op h0.x.Text h0.x.Args))))))))) (noN 3 u74 (noN 8 false (rt QC (false, (Qb.mk (Qf.mk h0.x.Line h0.x.Label (w64 ((zi 3) + r8)) h0.x.Op h0.x.Text h0.x.Args))))))))))) (let u80 := (eqS a1 JO); .as u80 (.yes u80 (.rows [[xs JN], [xs JO], [xs JP]] (Ql [JN, JO, JP]) (.call (Zl w [JN, JO, JP] a1) (C4 [JN, JO, JP] a1) WU fun r11 => (.num ((Ql r1).length) (r1.length) (let u76 := (decide ((((r1.length) : Nat) : Int) ≥ 1)); .as u76 (.yes u76 (.num ((Ql r1).length) (r1.length) (yesN 2 u76 (let u75 := (decide ((((r1.length) : Nat) : Int) ≤ 16)); .as u75 (yesN 4 u75 (.num ((Ql r1).length) (r1.length) (.yes u75 (.call (EL w (((r1.length) : Nat) : Int) (Qb.mk (Qf.mk h0.x.Line h0.x.Label (w64 ((zi 3) + r11)) h0.x.Op h0.x.Text h0.x.Args))) (C5 (((r1.length) : Nat) : Int) (Qb.mk (Qf.mk h0.x.Line h0.x.Label (w64 ((zi 3) + r11)) h0.x.Op h0.x.Text h0.x.Args))) ZA fun r12 => (.yes u75 (.call (Gj w r1 r12.1 r12.2) (C6 r1 r12.1 r12.2) YG fun r13 => (.yes u75 (rt QC (r13.1, r13.2))))))))) (noN 7 u75 (rt QC (false, (Qb.mk (Qf.mk h0.x.Line h0.x.Label (w64 ((zi 3) + r11)) h0.x.Op h0.x.Text h0.x.Args))))))))) (noN 3 u76 (noN 8 false (rt QC (false, (Qb.mk (Qf.mk h0.x.Line h0.x.Label (w64 ((zi 3) + r11)) h0.x.Op h0.x.Text h0.x.Args))))))))))) (.as (eqS a1 JP) (.rows [[xs JN], [xs JO], [xs JP]] (Ql [JN, JO, JP]) (.call (Zl w [JN, JO, JP] a1) (C4 [JN, JO, JP] a1) WU fun r14 => (.num ((Ql r1).length) (r1.length) (let u78 := (decide ((((r1.length) : Nat) : Int) ≥ 1)); .as u78 (.yes u78 (.num ((Ql r1).length) (r1.length) (yesN 2 u78 (let u77 := (decide ((((r1.length) : Nat) : Int) ≤ 16)); .as u77 (yesN 4 u77 (.num ((Ql r1).length) (r1.length) (.yes u77 (.call (EL w (((r1.length) : Nat) : Int) (Qb.mk (Qf.mk h0.x.Line h0.x.Label (w64 ((zi 3) + r14)) h0.x.Op h0.x.Text h0.x.Args))) (C5 (((r1.length) : Nat) : Int) (Qb.mk (Qf.mk h0.x.Line h0.x.Label (w64 ((zi 3) + r14)) h0.x.Op h0.x.Text h0.x.Args))) ZA fun r15 => (.yes u77 (.call (Gj w r1 r15.1 r15.2) (C6 r1 r15.1 r15.2) YG fun r16 => (.yes u77 (rt QC (r16.1, r16.2))))))))) (noN 7 u77 (rt QC (false, (Qb.mk (Qf.mk h0.x.Line h0.x.Label (w64 ((zi 3) + r14)) h0.x.Op h0.x.Text h0.x.Args))))))))) (noN 3 u78 (noN 8 false (rt QC (false, (Qb.mk (Qf.mk h0.x.Line h0.x.Label (w64 ((zi 3) + r14)) h0.x.Op h0.x.Text h0.x.Args)))))))))) (.as (eqS a1 Zc) (.call (Qbf w a2 (Qb.mk (Qf.mk h0.x.Line h0.x.Label (zi 6) h0.x.Op h0.x.Text h0.x.Args))) (C7 a2 (Qb.mk (Qf.mk h0.x.Line h0.x.Label (zi 6) h0.x.Op h0.x.Text h0.x.Args))) Wi fun r17 => (rt QC (r17.1, r17.2))) (let u79 := (eqS a1 J7); .as u79 (.yes u79 (.rows [[xs J7], [xs J8]] (Ql [J7, J8]) (.call (Zl w [J7, J8] a1) (C4 [J7, J8] a1) WU fun r18 => (.call (EL w (zi 1) (Qb.mk (Qf.mk h0.x.Line h0.x.Label (w64 ((zi 7) + r18)) h0.x.Op h0.x.Text h0.x.Args))) (C5 (zi 1) (Qb.mk (Qf.mk h0.x.Line h0.x.Label (w64 ((zi 7) + r18)) h0.x.Op h0.x.Text h0.x.Args))) ZA fun r19 => (.call (Gj w r1 r19.1 r19.2) (C6 r1 r19.1 r19.2) YG fun r20 => (rt QC (r20.1, r20.2))))))) (.as (eqS a1 J8) (.rows [[xs J7], [xs J8]] (Ql [J7, J8]) (.call (Zl w [J7, J8] a1) (C4 [J7, J8] a1) WU fun r21 => (.call (EL w (zi 1) (Qb.mk (Qf.mk h0.x.Line h0.x.Label (w64 ((zi 7) + r21)) h0.x.Op h0.x.Text h0.x.Args))) (C5 (zi 1) (Qb.mk (Qf.mk h0.x.Line h0.x.Label (w64 ((zi 7) + r21)) h0.x.Op h0.x.Text h0.x.Args))) ZA fun r22 => (.call (Gj w r1 r22.1 r22.2) (C6 r1 r22.1 r22.2) YG fun r23 => (rt QC (r23.1, r23.2)))))) (.as (eqS a1 Fj) (.rows [[.fn (.func 131) [] []], [.fn (.func 129) [] []]] (UD [131, 129]) (.call (Gj w r1 (Qb.mk (Qf.mk h0.x.Line h0.x.Label (zi 9) h0.x.Op h0.x.Text h0.x.Args)) [131, 129]) (C6 r1 (Qb.mk (Qf.mk h0.x.Line h0.x.Label (zi 9) h0.x.Op h0.x.Text h0.x.Args)) [131, 129]) YG fun r24 => (rt QC (r24.1, r24.2)))) (rt QC (false, h0)))))))))))))))
theorem QdU (w : Cf) (C0 : Zh) (C1 : F3) (C2 : VL) (C3 : EK) (C4 : Z0) (C5 : Fs) (C6 : Yp) (C7 : Xv) (a1 : ByteArray) (a2 : ByteArray) (h0 : Qb) : (Y7 pp w C0 C1 C2 C3 C4 C5 C6 C7 a1 a2 h0).norm (bodyT pp w G 76 (Y5 a1 a2 h0).1 (Y5 a1 a2 h0).2) = Y7 pp w C0 C1 C2 C3 C4 C5 C6 C7 a1 a2 h0 := by kernel_rfl
theorem QdV (P : Pg) (w : Cf) (lp : Lo) (C0 : Zh) (C1 : F3) (C2 : VL) (C3 : EK) (C4 : Z0) (C5 : Fs) (C6 : Yp) (C7 : Xv) (K0 : Qfp w C0) (K1 : Ql2 w C1) (K2 : Pf w C2) (K3 : Qjk w C3) (K4 : QgF w C4) (K5 : QkF w C5) (K6 : Qh5 w C6) (K7 : Qct w C7) (a1 : ByteArray) (a2 : ByteArray) (h0 : Qb) : (Y7 P w C0 C1 C2 C3 C4 C5 C6 C7 a1 a2 h0).ok lp QC := fun r1 hr1 => ⟨K0 _ _ hr1, fun r2 hr2 => ⟨K1 _ _ hr2, ⟨rfl, fun q0 => fun r3 hr3 => ⟨K2 _ _ _ hr3, rfl⟩, fun q0 => fun r4 hr4 => ⟨K3 _ hr4, fun r5 hr5 => ⟨K4 _ _ _ hr5, ⟨rfl, fun q1 => ⟨rfl, fun r6 hr6 => ⟨K5 _ _ _ hr6, fun r7 hr7 => ⟨K6 _ _ _ _ hr7, rfl⟩⟩⟩, fun q1 => ⟨rfl, fun q2 => ⟨q2, ⟨(Vp [JN, JO, JP]), fun r8 hr8 => ⟨K4 _ _ _ hr8, ⟨(Jy _), ⟨rfl, fun q3 => ⟨q3, ⟨(Jy _), Qr 2 (q3) (⟨rfl, fun q4 => Qr 4 (q4) (⟨(Jy _), ⟨q4, fun r9 hr9 => ⟨K5 _ _ _ hr9, ⟨q4, fun r10 hr10 => ⟨K6 _ _ _ _ hr10, ⟨q4, rfl⟩⟩⟩⟩⟩⟩), fun q4 => noN_ok 7 (q4) (rfl)⟩)⟩⟩, fun q3 => noN_ok 3 (q3) (noN_ok 8 (rfl) (rfl))⟩⟩⟩⟩⟩, fun q2 => ⟨rfl, fun q3 => ⟨q3, ⟨(Vp [JN, JO, JP]), fun r11 hr11 => ⟨K4 _ _ _ hr11, ⟨(Jy _), ⟨rfl, fun q4 => ⟨q4, ⟨(Jy _), Qr 2 (q4) (⟨rfl, fun q5 => Qr 4 (q5) (⟨(Jy _), ⟨q5, fun r12 hr12 => ⟨K5 _ _ _ hr12, ⟨q5, fun r13 hr13 => ⟨K6 _ _ _ _ hr13, ⟨q5, rfl⟩⟩⟩⟩⟩⟩), fun q5 => noN_ok 7 (q5) (rfl)⟩)⟩⟩, fun q4 => noN_ok 3 (q4) (noN_ok 8 (rfl) (rfl))⟩⟩⟩⟩⟩, fun q3 => ⟨rfl, fun q4 => ⟨(Vp [JN, JO, JP]), fun r14 hr14 => ⟨K4 _ _ _ hr14, ⟨(Jy _), ⟨rfl, fun q5 => ⟨q5, ⟨(Jy _), Qr 2 (q5) (⟨rfl, fun q6 => Qr 4 (q6) (⟨(Jy _), ⟨q6, fun r15 hr15 => ⟨K5 _ _ _ hr15, ⟨q6, fun r16 hr16 => ⟨K6 _ _ _ _ hr16, ⟨q6, rfl⟩⟩⟩⟩⟩⟩), fun q6 => noN_ok 7 (q6) (rfl)⟩)⟩⟩, fun q5 => noN_ok 3 (q5) (noN_ok 8 (rfl) (rfl))⟩⟩⟩⟩, fun q4 => ⟨rfl, fun q5 => fun r17 hr17 => ⟨K7 _ _ _ hr17, rfl⟩, fun q5 => ⟨rfl, fun q6 => ⟨q6, ⟨(Vp [J7, J8]), fun r18 hr18 => ⟨K4 _ _ _ hr18, fun r19 hr19 => ⟨K5 _ _ _ hr19, fun r20 hr20 => ⟨K6 _ _ _ _ hr20, rfl⟩⟩⟩⟩⟩, fun q6 => ⟨rfl, fun q7 => ⟨(Vp [J7, J8]), fun r21 hr21 => ⟨K4 _ _ _ hr21, fun r22 hr22 => ⟨K5 _ _ _ hr22, fun r23 hr23 => ⟨K6 _ _ _ _ hr23, rfl⟩⟩⟩⟩, fun q7 => ⟨rfl, fun q8 => ⟨(Ed [131, 129]), fun r24 hr24 => ⟨K6 _ _ _ _ hr24, rfl⟩⟩, fun q8 => rfl⟩⟩⟩⟩⟩⟩⟩⟩⟩⟩⟩⟩⟩
theorem QdW {C0 : Nat → Zh} {D0 : Zh} (H0 : Cv1 C0 D0) {C1 : Nat → F3} {D1 : F3} (H1 : Cv1 C1 D1) {C2 : Nat → VL} {D2 : VL} (H2 : Cv2 C2 D2) {C3 : Nat → EK} {D3 : EK} (H3 : Cv C3 D3) {C4 : Nat → Z0} {D4 : Z0} (H4 : Cv2 C4 D4) {C5 : Nat → Fs} {D5 : Fs} (H5 : Cv2 C5 D5) {C6 : Nat → Yp} {D6 : Yp} (H6 : Cv3 C6 D6) {C7 : Nat → Xv} {D7 : Xv} (H7 : Cv2 C7 D7) (a1 : ByteArray) (a2 : ByteArray) (h0 : Qb) : Cv (fun k => VY (C0 k) (C1 k) (C2 k) (C3 k) (C4 k) (C5 k) (C6 k) (C7 k) a1 a2 h0) (VY D0 D1 D2 D3 D4 D5 D6 D7 a1 a2 h0) := by
  unfold VY
  exact .bind (H0 _) fun r1 => .bind (H1 _) fun r2 => .cond (.bind (H2 _ _) fun r3 => by exact .const _) (.bind (H3) fun r4 => .bind (H4 _ _) fun r5 => .cond (.bind (H5 _ _) fun r6 => .bind (H6 _ _ _) fun r7 => by exact .const _) (.cond (.bind (H4 _ _) fun r8 => .cond (.cond (.bind (H5 _ _) fun r9 => .bind (H6 _ _ _) fun r10 => by exact .const _) cst) cst) (.cond (.bind (H4 _ _) fun r11 => .cond (.cond (.bind (H5 _ _) fun r12 => .bind (H6 _ _ _) fun r13 => by exact .const _) cst) cst) (.cond (.bind (H4 _ _) fun r14 => .cond (.cond (.bind (H5 _ _) fun r15 => .bind (H6 _ _ _) fun r16 => by exact .const _) cst) cst) (.cond (.bind (H7 _ _) fun r17 => by exact .const _) (.cond (.bind (H4 _ _) fun r18 => .bind (H5 _ _) fun r19 => .bind (H6 _ _ _) fun r20 => by exact .const _) (.cond (.bind (H4 _ _) fun r21 => .bind (H5 _ _) fun r22 => .bind (H6 _ _ _) fun r23 => by exact .const _) (.cond (.bind (H6 _ _ _) fun r24 => by exact .const _) cst))))))))
def Ja.s : Nat → ByteArray → ByteArray → Qb → Option (Bool × Qb)
  | 0, _, _, _ => none
  | k + 1, a1, a2, h0 => VY (U8.s k) (WF.s k) (Q7.s k) (Wm.s k) (UW.s k) (Wh.s k) (U4.s k) (J3.s k) a1 a2 h0
theorem Ja.ok : ∀ (k : Nat), Sc (ev k) (Ja.s k)
  | 0, _, _, _, _, h => (nomatch h)
  | k + 1, a1, a2, h0, r, h => fn_ok rfl (Y7 pp (ev k) (U8.s k) (WF.s k) (Q7.s k) (Wm.s k) (UW.s k) (Wh.s k) (U4.s k) (J3.s k) a1 a2 h0) (QdU _ _ _ _ _ _ _ _ _ a1 a2 h0) (QdV _ _ _ _ _ _ _ _ _ _ _ (U8.ok k) (WF.ok k) (Q7.ok k) (Wm.ok k) (UW.ok k) (Wh.ok k) (U4.ok k) (J3.ok k) a1 a2 h0) h
noncomputable def Ja (a1 : ByteArray) (a2 : ByteArray) (h0 : Qb) : Option (Bool × Qb) := VY U8 WF Q7 Wm UW Wh U4 J3 a1 a2 h0
theorem Ja.cv (a1 : ByteArray) (a2 : ByteArray) (h0 : Qb) : Cv (fun k => Ja.s k a1 a2 h0) (Ja a1 a2 h0) := .un rfl (QdW U8.cv WF.cv Q7.cv Wm.cv UW.cv Wh.cv U4.cv J3.cv a1 a2 h0)
theorem Ja.eq (a1 : ByteArray) (a2 : ByteArray) (h0 : Qb) : Ja a1 a2 h0 = VY U8 WF Q7 Wm UW Wh U4 J3 a1 a2 h0 := rfl
def Fd (r : (List Qg)) : AV × Heap := (.sl (QJ r), [])
def UX.s : Nat → (List Qg) → Option (List Qg)
  | 0, _ => none
  | _ + 1, a0 => cloneT 64 a0
theorem UX.ok : ∀ (k : Nat), ∀ (a0 : (List Qg)) (r : (List Qg)), UX.s k a0 = some r → evalFn pp G k 77 [.sl (QJ a0)] [] = some (Fd r)
  | 0, _, _, h => (nomatch h)
  | k + 1, a0, r, h => Qq5 Ec (fun _ => rfl) (fun _ => rfl) (YW _) (YW _) h
abbrev Z3 := (List Qg) → Option (List Qg)
abbrev QfF (a0 : (List Qg)) : List AV × Heap := ([.sl (QJ a0)], [])
abbrev PM (w : Cf) (a0 : (List Qg)) : Option AH := w 77 (QfF a0).1 (QfF a0).2
abbrev QmH (w : Cf) (c : Z3) : Prop := ∀ (a0 : (List Qg)) (r : (List Qg)), c a0 = some r → PM w a0 = some (Fd r)
noncomputable def UX (a0 : (List Qg)) : Option (List Qg) := cloneT 64 a0
theorem UX.mono (k : Nat) (a0 : (List Qg)) : Le (UX.s k a0) (UX.s (k + 1) a0) := by
  cases k with
  | zero => exact fun r h => nomatch h
  | succ k => exact Le.refl _
theorem UX.cv (a0 : (List Qg)) : Cv (fun k => UX.s k a0) (UX a0) := ⟨fun k => UX.mono k a0, fun r => ⟨fun h => ⟨1, h⟩, fun ⟨k, h⟩ => by
  cases k with
  | zero => cases h
  | succ k => exact h⟩⟩
def Vx (r : (Qf × Bool)) : AV × Heap := (.tup [.agg (Qke r.1), xo r.2], [])
abbrev Ph := ByteArray → Option (Qf × Bool)
abbrev Qc3 (a0 : ByteArray) : List AV × Heap := ([xs a0], [])
abbrev PN (w : Cf) (a0 : ByteArray) : Option AH := w 27 (Qc3 a0).1 (Qc3 a0).2
abbrev Ql3 (w : Cf) (c : Ph) : Prop := ∀ (a0 : ByteArray) (r : (Qf × Bool)), c a0 = some r → PN w a0 = some (Vx r)
def Fu (C0 : Xl) (C1 : Fl) (C2 : WT) (C3 : XH) (C4 : Q8) (C5 : ZW) (C6 : Wa) (C7 : Z3) (a0 : ByteArray) : Option (Qf × Bool) := ((C0 a0 (10 : Int)).bind fun r1 => (bif (decide (r1 ≥ 0)) then (some ((Qf.mk (0 : Int) s_ (0 : Int) (0 : Int) s_ ([] : List Qg)), false)) else ((C1 a0).bind fun r2 => ((C2 r2).bind fun r3 => (bif (decide (r3 < ((r2.size : Nat) : Int))) then (bif (decide (0 ≤ r3 ∧ r3 < ((r2.size : Nat) : Int))) then (bif (((r2.data.getD (Int.toNat r3) 0).toNat : Int) == 58) then (bif (decide (0 ≤ (0 : Int) ∧ (0 : Int) ≤ r3 ∧ r3 ≤ ((r2.size : Nat) : Int))) then ((C3 (r2.extract (Int.toNat 0) (Int.toNat r3))).bind fun r4 => (bif (!r4) then (some ((Qf.mk (0 : Int) s_ (0 : Int) (0 : Int) s_ ([] : List Qg)), false)) else (bif (decide (0 ≤ (w64 (r3 + 1)) ∧ (w64 (r3 + 1)) ≤ ((r2.size : Nat) : Int) ∧ ((r2.size : Nat) : Int) ≤ ((r2.size : Nat) : Int))) then ((C4 (r2.extract (Int.toNat (w64 (r3 + 1))) (Int.toNat ((r2.size : Nat) : Int))) Xe).bind fun r5 => (bif (eqS r5 s_) then (bif (eqS (r2.extract (Int.toNat 0) (Int.toNat r3)) s_) then (some ((Qf.mk (0 : Int) s_ (0 : Int) (0 : Int) s_ ([] : List Qg)), true)) else (some ((Qf.mk (1 : Int) (r2.extract (Int.toNat 0) (Int.toNat r3)) (0 : Int) (0 : Int) s_ ([] : List Qg)), true))) else ((C5 r5).bind fun r6 => (bif (decide (0 ≤ (0 : Int) ∧ (0 : Int) ≤ r6 ∧ r6 ≤ ((r5.size : Nat) : Int))) then (bif (decide (0 ≤ r6 ∧ r6 ≤ ((r5.size : Nat) : Int) ∧ ((r5.size : Nat) : Int) ≤ ((r5.size : Nat) : Int))) then ((C4 (r5.extract (Int.toNat r6) (Int.toNat ((r5.size : Nat) : Int))) Xe).bind fun r7 => ((C6 (r5.extract (Int.toNat 0) (Int.toNat r6)) r7 (Qb.mk (Qf.mk (1 : Int) (r2.extract (Int.toNat 0) (Int.toNat r3)) (0 : Int) (0 : Int) s_ ([] : List Qg)))).bind fun r8 => (bif (!r8.1) then (some ((Qf.mk (0 : Int) s_ (0 : Int) (0 : Int) s_ ([] : List Qg)), false)) else ((C7 r8.2.x.Args).bind fun r9 => (some ((Qf.mk r8.2.x.Line r8.2.x.Label r8.2.x.Kind r8.2.x.Op r8.2.x.Text r9), true)))))) else none) else none)))) else none))) else none) else (bif (eqS r2 s_) then (some ((Qf.mk (0 : Int) s_ (0 : Int) (0 : Int) s_ ([] : List Qg)), true)) else ((C5 r2).bind fun r10 => (bif (decide (0 ≤ (0 : Int) ∧ (0 : Int) ≤ r10 ∧ r10 ≤ ((r2.size : Nat) : Int))) then (bif (decide (0 ≤ r10 ∧ r10 ≤ ((r2.size : Nat) : Int) ∧ ((r2.size : Nat) : Int) ≤ ((r2.size : Nat) : Int))) then ((C4 (r2.extract (Int.toNat r10) (Int.toNat ((r2.size : Nat) : Int))) Xe).bind fun r11 => ((C6 (r2.extract (Int.toNat 0) (Int.toNat r10)) r11 (Qb.mk (Qf.mk (1 : Int) s_ (0 : Int) (0 : Int) s_ ([] : List Qg)))).bind fun r12 => (bif (!r12.1) then (some ((Qf.mk (0 : Int) s_ (0 : Int) (0 : Int) s_ ([] : List Qg)), false)) else ((C7 r12.2.x.Args).bind fun r13 => (some ((Qf.mk r12.2.x.Line r12.2.x.Label r12.2.x.Kind r12.2.x.Op r12.2.x.Text r13), true)))))) else none) else none)))) else none) else (bif (eqS r2 s_) then (some ((Qf.mk (0 : Int) s_ (0 : Int) (0 : Int) s_ ([] : List Qg)), true)) else ((C5 r2).bind fun r14 => (bif (decide (0 ≤ (0 : Int) ∧ (0 : Int) ≤ r14 ∧ r14 ≤ ((r2.size : Nat) : Int))) then (bif (decide (0 ≤ r14 ∧ r14 ≤ ((r2.size : Nat) : Int) ∧ ((r2.size : Nat) : Int) ≤ ((r2.size : Nat) : Int))) then ((C4 (r2.extract (Int.toNat r14) (Int.toNat ((r2.size : Nat) : Int))) Xe).bind fun r15 => ((C6 (r2.extract (Int.toNat 0) (Int.toNat r14)) r15 (Qb.mk (Qf.mk (1 : Int) s_ (0 : Int) (0 : Int) s_ ([] : List Qg)))).bind fun r16 => (bif (!r16.1) then (some ((Qf.mk (0 : Int) s_ (0 : Int) (0 : Int) s_ ([] : List Qg)), false)) else ((C7 r16.2.x.Args).bind fun r17 => (some ((Qf.mk r16.2.x.Line r16.2.x.Label r16.2.x.Kind r16.2.x.Op r16.2.x.Text r17), true)))))) else none) else none))))))))
def Qc4 (P : Pg) (w : Cf) (C0 : Xl) (C1 : Fl) (C2 : WT) (C3 : XH) (C4 : Q8) (C5 : ZW) (C6 : Wa) (C7 : Z3) (a0 : ByteArray) : Tr (Qf × Bool) AH := (.call (Qa6 w a0 (zi 10)) (C0 a0 (zi 10)) FJ fun r1 => (.as (decide (r1 ≥ 0)) (rt Vx ((Qf.mk i0 s_ i0 i0 s_ ([] : List Qg)), false)) (.call (Qjf w a0) (C1 a0) QbF fun r2 => (.call (QdC w r2) (C2 r2) FZ fun r3 => (let u83 := (decide (r3 < (zz r2))); .as u83 (yesN 2 u83 (.as (in1 r3 (zz r2)) (yesN 2 u83 (.as ((gb r2 r3) == 58) (let u82 := (in2 i0 r3 (zz r2)); .as u82 (.call (QeC w (cu r2 i0 r3)) (C3 (cu r2 i0 r3)) X5 fun r4 => (.as (!r4) (rt Vx ((Qf.mk i0 s_ i0 i0 s_ ([] : List Qg)), false)) (.yes u82 (.as (in2 (w64 (r3 + 1)) (zz r2) (zz r2)) (.call (Yi w (cu r2 (w64 (r3 + 1)) (zz r2)) Xe) (C4 (cu r2 (w64 (r3 + 1)) (zz r2)) Xe) XI fun r5 => (.as (eqS r5 s_) (.as (eqS (cu r2 i0 r3) s_) (rt Vx ((Qf.mk i0 s_ i0 i0 s_ ([] : List Qg)), true)) (rt Vx ((Qf.mk (zi 1) (cu r2 i0 r3) i0 i0 s_ ([] : List Qg)), true))) (.call (Py w r5) (C5 r5) Gv fun r6 => (.as (in2 i0 r6 (zz r5)) (.as (in2 r6 (zz r5) (zz r5)) (.call (Yi w (cu r5 r6 (zz r5)) Xe) (C4 (cu r5 r6 (zz r5)) Xe) XI fun r7 => (.call (Y6 w (cu r5 i0 r6) r7 (Qb.mk (Qf.mk (zi 1) (cu r2 i0 r3) i0 i0 s_ ([] : List Qg)))) (C6 (cu r5 i0 r6) r7 (Qb.mk (Qf.mk (zi 1) (cu r2 i0 r3) i0 i0 s_ ([] : List Qg)))) QC fun r8 => (.as (!r8.1) (rt Vx ((Qf.mk i0 s_ i0 i0 s_ ([] : List Qg)), false)) (.call (PM w r8.2.x.Args) (C7 r8.2.x.Args) Fd fun r9 => (rt Vx ((Qf.mk r8.2.x.Line r8.2.x.Label r8.2.x.Kind r8.2.x.Op r8.2.x.Text r9), true)))))) .fail) .fail)))) .fail)))) .fail) (.as (eqS r2 s_) (.yes true (rt Vx ((Qf.mk i0 s_ i0 i0 s_ ([] : List Qg)), true))) (.call (Py w r2) (C5 r2) Gv fun r10 => (.as (in2 i0 r10 (zz r2)) (.as (in2 r10 (zz r2) (zz r2)) (.call (Yi w (cu r2 r10 (zz r2)) Xe) (C4 (cu r2 r10 (zz r2)) Xe) XI fun r11 => (.call (Y6 w (cu r2 i0 r10) r11 (Qb.mk (Qf.mk (zi 1) s_ i0 i0 s_ ([] : List Qg)))) (C6 (cu r2 i0 r10) r11 (Qb.mk (Qf.mk (zi 1) s_ i0 i0 s_ ([] : List Qg)))) QC fun r12 => (.as (!r12.1) (rt Vx ((Qf.mk i0 s_ i0 i0 s_ ([] : List Qg)), false)) (.call (PM w r12.2.x.Args) (C7 r12.2.x.Args) Fd fun r13 => (rt Vx ((Qf.mk r12.2.x.Line r12.2.x.Label r12.2.x.Kind r12.2.x.Op r12.2.x.Text r13), true)))))) .fail) .fail))))) .fail)) (noN 4 u83 (.no false (.as (eqS r2 s_) (.yes true (rt Vx ((Qf.mk i0 s_ i0 i0 s_ ([] : List Qg)), true))) (.call (Py w r2) (C5 r2) Gv fun r14 => (.as (in2 i0 r14 (zz r2)) (.as (in2 r14 (zz r2) (zz r2)) (.call (Yi w (cu r2 r14 (zz r2)) Xe) (C4 (cu r2 r14 (zz r2)) Xe) XI fun r15 => (.call (Y6 w (cu r2 i0 r14) r15 (Qb.mk (Qf.mk (zi 1) s_ i0 i0 s_ ([] : List Qg)))) (C6 (cu r2 i0 r14) r15 (Qb.mk (Qf.mk (zi 1) s_ i0 i0 s_ ([] : List Qg)))) QC fun r16 => (.as (!r16.1) (rt Vx ((Qf.mk i0 s_ i0 i0 s_ ([] : List Qg)), false)) (.call (PM w r16.2.x.Args) (C7 r16.2.x.Args) Fd fun r17 => (rt Vx ((Qf.mk r16.2.x.Line r16.2.x.Label r16.2.x.Kind r16.2.x.Op r16.2.x.Text r17), true)))))) .fail) .fail))))))))))
theorem Qqq (w : Cf) (C0 : Xl) (C1 : Fl) (C2 : WT) (C3 : XH) (C4 : Q8) (C5 : ZW) (C6 : Wa) (C7 : Z3) (a0 : ByteArray) : (Qc4 pp w C0 C1 C2 C3 C4 C5 C6 C7 a0).norm (bodyT pp w G 27 (Qc3 a0).1 (Qc3 a0).2) = Qc4 pp w C0 C1 C2 C3 C4 C5 C6 C7 a0 := by kernel_rfl
theorem Qqr (P : Pg) (w : Cf) (lp : Lo) (C0 : Xl) (C1 : Fl) (C2 : WT) (C3 : XH) (C4 : Q8) (C5 : ZW) (C6 : Wa) (C7 : Z3) (K0 : Qhz w C0) (K1 : Qkq w C1) (K2 : QeB w C2) (K3 : Qf2 w C3) (K4 : FA w C4) (K5 : QgC w C5) (K6 : Sc w C6) (K7 : QmH w C7) (a0 : ByteArray) : (Qc4 P w C0 C1 C2 C3 C4 C5 C6 C7 a0).ok lp Vx := fun r1 hr1 => ⟨K0 _ _ _ hr1, ⟨rfl, fun q0 => rfl, fun q0 => fun r2 hr2 => ⟨K1 _ _ hr2, fun r3 hr3 => ⟨K2 _ _ hr3, ⟨rfl, fun q1 => Qr 2 (q1) (⟨rfl, fun q2 => Qr 2 (q1) (⟨rfl, fun q3 => ⟨rfl, fun q4 => fun r4 hr4 => ⟨K3 _ _ hr4, ⟨rfl, fun q5 => rfl, fun q5 => ⟨q4, ⟨rfl, fun q6 => fun r5 hr5 => ⟨K4 _ _ _ hr5, ⟨rfl, fun q7 => ⟨rfl, fun q8 => rfl, fun q8 => rfl⟩, fun q7 => fun r6 hr6 => ⟨K5 _ _ hr6, ⟨rfl, fun q8 => ⟨rfl, fun q9 => fun r7 hr7 => ⟨K4 _ _ _ hr7, fun r8 hr8 => ⟨K6 _ _ _ _ hr8, ⟨rfl, fun q10 => rfl, fun q10 => fun r9 hr9 => ⟨K7 _ _ hr9, rfl⟩⟩⟩⟩, fun q9 => trivial⟩, fun q8 => trivial⟩⟩⟩⟩, fun q6 => trivial⟩⟩⟩⟩, fun q4 => trivial⟩, fun q3 => ⟨rfl, fun q4 => ⟨rfl, rfl⟩, fun q4 => fun r10 hr10 => ⟨K5 _ _ hr10, ⟨rfl, fun q5 => ⟨rfl, fun q6 => fun r11 hr11 => ⟨K4 _ _ _ hr11, fun r12 hr12 => ⟨K6 _ _ _ _ hr12, ⟨rfl, fun q7 => rfl, fun q7 => fun r13 hr13 => ⟨K7 _ _ hr13, rfl⟩⟩⟩⟩, fun q6 => trivial⟩, fun q5 => trivial⟩⟩⟩⟩), fun q2 => trivial⟩), fun q1 => noN_ok 4 (q1) (⟨rfl, ⟨rfl, fun q2 => ⟨rfl, rfl⟩, fun q2 => fun r14 hr14 => ⟨K5 _ _ hr14, ⟨rfl, fun q3 => ⟨rfl, fun q4 => fun r15 hr15 => ⟨K4 _ _ _ hr15, fun r16 hr16 => ⟨K6 _ _ _ _ hr16, ⟨rfl, fun q5 => rfl, fun q5 => fun r17 hr17 => ⟨K7 _ _ hr17, rfl⟩⟩⟩⟩, fun q4 => trivial⟩, fun q3 => trivial⟩⟩⟩⟩)⟩⟩⟩⟩⟩
theorem Qqs {C0 : Nat → Xl} {D0 : Xl} (H0 : Cv2 C0 D0) {C1 : Nat → Fl} {D1 : Fl} (H1 : Cv1 C1 D1) {C2 : Nat → WT} {D2 : WT} (H2 : Cv1 C2 D2) {C3 : Nat → XH} {D3 : XH} (H3 : Cv1 C3 D3) {C4 : Nat → Q8} {D4 : Q8} (H4 : Cv2 C4 D4) {C5 : Nat → ZW} {D5 : ZW} (H5 : Cv1 C5 D5) {C6 : Nat → Wa} {D6 : Wa} (H6 : Cv3 C6 D6) {C7 : Nat → Z3} {D7 : Z3} (H7 : Cv1 C7 D7) (a0 : ByteArray) : Cv (fun k => Fu (C0 k) (C1 k) (C2 k) (C3 k) (C4 k) (C5 k) (C6 k) (C7 k) a0) (Fu D0 D1 D2 D3 D4 D5 D6 D7 a0) := by
  unfold Fu
  exact .bind (H0 _ _) fun r1 => .cond cst (.bind (H1 _) fun r2 => .bind (H2 _) fun r3 => .cond (.cond (.cond (.cond (.bind (H3 _) fun r4 => .cond cst (.cond (.bind (H4 _ _) fun r5 => .cond cst (.bind (H5 _) fun r6 => .cond (.cond (.bind (H4 _ _) fun r7 => .bind (H6 _ _ _) fun r8 => .cond cst (.bind (H7 _) fun r9 => by exact .const _)) cst) cst)) cst)) cst) (.cond cst (.bind (H5 _) fun r10 => .cond (.cond (.bind (H4 _ _) fun r11 => .bind (H6 _ _ _) fun r12 => .cond cst (.bind (H7 _) fun r13 => by exact .const _)) cst) cst))) cst) (.cond cst (.bind (H5 _) fun r14 => .cond (.cond (.bind (H4 _ _) fun r15 => .bind (H6 _ _ _) fun r16 => .cond cst (.bind (H7 _) fun r17 => by exact .const _)) cst) cst)))
def XZ.s : Nat → ByteArray → Option (Qf × Bool)
  | 0, _ => none
  | k + 1, a0 => Fu (JX.s k) (WX.s k) (US.s k) (Vm.s k) (QY.s k) (UU.s k) (Ja.s k) (UX.s k) a0
theorem XZ.ok : ∀ (k : Nat), Ql3 (ev k) (XZ.s k)
  | 0, _, _, h => (nomatch h)
  | k + 1, a0, r, h => fn_ok rfl (Qc4 pp (ev k) (JX.s k) (WX.s k) (US.s k) (Vm.s k) (QY.s k) (UU.s k) (Ja.s k) (UX.s k) a0) (Qqq _ _ _ _ _ _ _ _ _ a0) (Qqr _ _ _ _ _ _ _ _ _ _ _ (JX.ok k) (WX.ok k) (US.ok k) (Vm.ok k) (QY.ok k) (UU.ok k) (Ja.ok k) (UX.ok k) a0) h
noncomputable def XZ (a0 : ByteArray) : Option (Qf × Bool) := Fu JX WX US Vm QY UU Ja UX a0
theorem XZ.cv (a0 : ByteArray) : Cv (fun k => XZ.s k a0) (XZ a0) := .un rfl (Qqs JX.cv WX.cv US.cv Vm.cv QY.cv UU.cv Ja.cv UX.cv a0)
theorem XZ.eq (a0 : ByteArray) : XZ a0 = Fu JX WX US Vm QY UU Ja UX a0 := rfl
def SI (r : (Qy × Int × Bool)) : AV × Heap := (.tup [.agg (Qf0 r.1), xi r.2.1, xo r.2.2], [])
abbrev YH := Int → ByteArray → Option (Qy × Int × Bool)
abbrev Qed (a0 : Int) (a1 : ByteArray) : List AV × Heap := ([xi a0, xs a1], [])
abbrev Qh9 (w : Cf) (a0 : Int) (a1 : ByteArray) : Option AH := w 58 (Qed a0 a1).1 (Qed a0 a1).2
abbrev QjH (w : Cf) (c : YH) : Prop := ∀ (a0 : Int) (a1 : ByteArray) (r : (Qy × Int × Bool)), c a0 a1 = some r → Qh9 w a0 a1 = some (SI r)
structure Qt where
  x0 : Int
  x1 : ByteArray
  x7 : Int
  x8 : Int
  x10 : Int
  x11 : Int
  h0 : Qy
  h1_0 : ByteArray
  h1_1 : ByteArray
  h1_2 : ByteArray
structure QE where
  x5 : Int
  x6 : Bool
  h0 : Qy
def UY (a : Qt) : St := { n := 56, nx := 2, env := [(0, xi a.x0), (1, xs a.x1), (4, .ptr 0 0), (7, xi a.x7), (8, xi a.x8), (9, .ptr 1 0), (10, xi a.x10), (11, xi a.x11)], heap := [(0, .box [] (Qf0 a.h0)), (1, .box [] [xs a.h1_0, xs a.h1_1, xs a.h1_2])] }
def QgH (a : QE) : Ex × St := (.ret, { n := 56, nx := 1, env := [(4, .ptr 0 0), (5, xi a.x5), (6, xo a.x6)], heap := [(0, .box [] (Qf0 a.h0))] })
def QgI (a : Qy) : Ex × St := (.exit 0, { n := 56, nx := 1, env := [(4, .ptr 0 0)], heap := [(0, .box [] (Qf0 a))] })
def Vu (a : (QE ⊕ Qy)) : Ex × St := Sum.elim QgH QgI a
abbrev EN := Qt → Option (QE ⊕ Qy)
abbrev Qo5 (P : Pg) (lp : Lo) (l : EN) : Prop := ∀ (a : Qt) (r : (QE ⊕ Qy)), l a = some r → lp (loopAt P 58 5) (UY a) = some (Vu r)
def Fe (a : Qt) : Option (Qt ⊕ (QE ⊕ Qy)) := (bif (decide (a.x11 < 1212)) then (bif (decide (0 ≤ a.x11 ∧ a.x11 < ((Qi.size : Nat) : Int))) then (bif (((Qi.data.getD (Int.toNat a.x11) 0).toNat : Int) != 58) then (bif (((Qi.data.getD (Int.toNat a.x11) 0).toNat : Int) != 124) then (some (.inl (Qt.mk a.x0 a.x1 a.x7 a.x8 a.x10 (w64 (a.x11 + 1)) a.h0 a.h1_0 a.h1_1 a.h1_2))) else (bif (decide (0 ≤ a.x8 ∧ a.x8 ≤ a.x11 ∧ a.x11 ≤ ((Qi.size : Nat) : Int))) then (bif (decide (a.x10 = 0)) then (bif (((Qi.data.getD (Int.toNat a.x11) 0).toNat : Int) == 124) then (bif (a.x7 == a.x0) then (some (.inr (.inl (QE.mk a.x7 true (Qy.mk (Qi.extract (Int.toNat a.x8) (Int.toNat a.x11)) a.h1_1 a.h1_2))))) else (bif (eqS (Qi.extract (Int.toNat a.x8) (Int.toNat a.x11)) a.x1) then (some (.inr (.inl (QE.mk a.x7 true (Qy.mk (Qi.extract (Int.toNat a.x8) (Int.toNat a.x11)) a.h1_1 a.h1_2))))) else (some (.inl (Qt.mk a.x0 a.x1 (w64 (a.x7 + 1)) (w64 (a.x11 + 1)) (0 : Int) (w64 (a.x11 + 1)) a.h0 (Qi.extract (Int.toNat a.x8) (Int.toNat a.x11)) a.h1_1 a.h1_2))))) else (some (.inl (Qt.mk a.x0 a.x1 a.x7 (w64 (a.x11 + 1)) (w64 (a.x10 + 1)) (w64 (a.x11 + 1)) a.h0 (Qi.extract (Int.toNat a.x8) (Int.toNat a.x11)) a.h1_1 a.h1_2)))) else (bif (decide (a.x10 = 1)) then (bif (((Qi.data.getD (Int.toNat a.x11) 0).toNat : Int) == 124) then (bif (a.x7 == a.x0) then (some (.inr (.inl (QE.mk a.x7 true (Qy.mk a.h1_0 (Qi.extract (Int.toNat a.x8) (Int.toNat a.x11)) a.h1_2))))) else (bif (eqS a.h1_0 a.x1) then (some (.inr (.inl (QE.mk a.x7 true (Qy.mk a.h1_0 (Qi.extract (Int.toNat a.x8) (Int.toNat a.x11)) a.h1_2))))) else (some (.inl (Qt.mk a.x0 a.x1 (w64 (a.x7 + 1)) (w64 (a.x11 + 1)) (0 : Int) (w64 (a.x11 + 1)) a.h0 a.h1_0 (Qi.extract (Int.toNat a.x8) (Int.toNat a.x11)) a.h1_2))))) else (some (.inl (Qt.mk a.x0 a.x1 a.x7 (w64 (a.x11 + 1)) (w64 (a.x10 + 1)) (w64 (a.x11 + 1)) a.h0 a.h1_0 (Qi.extract (Int.toNat a.x8) (Int.toNat a.x11)) a.h1_2)))) else (bif (decide (a.x10 = 2)) then (bif (((Qi.data.getD (Int.toNat a.x11) 0).toNat : Int) == 124) then (bif (a.x7 == a.x0) then (some (.inr (.inl (QE.mk a.x7 true (Qy.mk a.h1_0 a.h1_1 (Qi.extract (Int.toNat a.x8) (Int.toNat a.x11))))))) else (bif (eqS a.h1_0 a.x1) then (some (.inr (.inl (QE.mk a.x7 true (Qy.mk a.h1_0 a.h1_1 (Qi.extract (Int.toNat a.x8) (Int.toNat a.x11))))))) else (some (.inl (Qt.mk a.x0 a.x1 (w64 (a.x7 + 1)) (w64 (a.x11 + 1)) (0 : Int) (w64 (a.x11 + 1)) a.h0 a.h1_0 a.h1_1 (Qi.extract (Int.toNat a.x8) (Int.toNat a.x11))))))) else (some (.inl (Qt.mk a.x0 a.x1 a.x7 (w64 (a.x11 + 1)) (w64 (a.x10 + 1)) (w64 (a.x11 + 1)) a.h0 a.h1_0 a.h1_1 (Qi.extract (Int.toNat a.x8) (Int.toNat a.x11)))))) else none))) else none)) else (bif (decide (0 ≤ a.x8 ∧ a.x8 ≤ a.x11 ∧ a.x11 ≤ ((Qi.size : Nat) : Int))) then (bif (decide (a.x10 = 0)) then (bif (((Qi.data.getD (Int.toNat a.x11) 0).toNat : Int) == 124) then (bif (a.x7 == a.x0) then (some (.inr (.inl (QE.mk a.x7 true (Qy.mk (Qi.extract (Int.toNat a.x8) (Int.toNat a.x11)) a.h1_1 a.h1_2))))) else (bif (eqS (Qi.extract (Int.toNat a.x8) (Int.toNat a.x11)) a.x1) then (some (.inr (.inl (QE.mk a.x7 true (Qy.mk (Qi.extract (Int.toNat a.x8) (Int.toNat a.x11)) a.h1_1 a.h1_2))))) else (some (.inl (Qt.mk a.x0 a.x1 (w64 (a.x7 + 1)) (w64 (a.x11 + 1)) (0 : Int) (w64 (a.x11 + 1)) a.h0 (Qi.extract (Int.toNat a.x8) (Int.toNat a.x11)) a.h1_1 a.h1_2))))) else (some (.inl (Qt.mk a.x0 a.x1 a.x7 (w64 (a.x11 + 1)) (w64 (a.x10 + 1)) (w64 (a.x11 + 1)) a.h0 (Qi.extract (Int.toNat a.x8) (Int.toNat a.x11)) a.h1_1 a.h1_2)))) else (bif (decide (a.x10 = 1)) then (bif (((Qi.data.getD (Int.toNat a.x11) 0).toNat : Int) == 124) then (bif (a.x7 == a.x0) then (some (.inr (.inl (QE.mk a.x7 true (Qy.mk a.h1_0 (Qi.extract (Int.toNat a.x8) (Int.toNat a.x11)) a.h1_2))))) else (bif (eqS a.h1_0 a.x1) then (some (.inr (.inl (QE.mk a.x7 true (Qy.mk a.h1_0 (Qi.extract (Int.toNat a.x8) (Int.toNat a.x11)) a.h1_2))))) else (some (.inl (Qt.mk a.x0 a.x1 (w64 (a.x7 + 1)) (w64 (a.x11 + 1)) (0 : Int) (w64 (a.x11 + 1)) a.h0 a.h1_0 (Qi.extract (Int.toNat a.x8) (Int.toNat a.x11)) a.h1_2))))) else (some (.inl (Qt.mk a.x0 a.x1 a.x7 (w64 (a.x11 + 1)) (w64 (a.x10 + 1)) (w64 (a.x11 + 1)) a.h0 a.h1_0 (Qi.extract (Int.toNat a.x8) (Int.toNat a.x11)) a.h1_2)))) else (bif (decide (a.x10 = 2)) then (bif (((Qi.data.getD (Int.toNat a.x11) 0).toNat : Int) == 124) then (bif (a.x7 == a.x0) then (some (.inr (.inl (QE.mk a.x7 true (Qy.mk a.h1_0 a.h1_1 (Qi.extract (Int.toNat a.x8) (Int.toNat a.x11))))))) else (bif (eqS a.h1_0 a.x1) then (some (.inr (.inl (QE.mk a.x7 true (Qy.mk a.h1_0 a.h1_1 (Qi.extract (Int.toNat a.x8) (Int.toNat a.x11))))))) else (some (.inl (Qt.mk a.x0 a.x1 (w64 (a.x7 + 1)) (w64 (a.x11 + 1)) (0 : Int) (w64 (a.x11 + 1)) a.h0 a.h1_0 a.h1_1 (Qi.extract (Int.toNat a.x8) (Int.toNat a.x11))))))) else (some (.inl (Qt.mk a.x0 a.x1 a.x7 (w64 (a.x11 + 1)) (w64 (a.x10 + 1)) (w64 (a.x11 + 1)) a.h0 a.h1_0 a.h1_1 (Qi.extract (Int.toNat a.x8) (Int.toNat a.x11)))))) else none))) else none)) else none) else (some (.inr (.inr a.h0))))
def QaQ (P : Pg) (w : Cf) (a : Qt) : Tr (Qt ⊕ (QE ⊕ Qy)) XS := (.as (decide (a.x11 < 1212)) (let u91 := (in1 a.x11 (zz Qi)); .as u91 (let u90 := ((gb Qi a.x11) != 58); .as u90 (.yes u90 (.yes u91 (yesN 2 u90 (.as ((gb Qi a.x11) != 124) (lf UY (Qt.mk a.x0 a.x1 a.x7 a.x8 a.x10 (w64 (a.x11 + 1)) a.h0 a.h1_0 a.h1_1 a.h1_2)) (.as (in2 a.x8 a.x11 (zz Qi)) (.ask (decide (a.x10 = ((0 : Nat) : Int))) (decide (a.x10 = 0)) (.yes u91 (.as ((gb Qi a.x11) == 124) (let u84 := (a.x7 == a.x0); .as u84 (yesN 4 u84 (.yes true (.yes (decide (i0 = ((0 : Nat) : Int))) (.no (decide ((zi 1) = ((0 : Nat) : Int))) (.yes (decide ((zi 1) = ((1 : Nat) : Int))) (.no (decide ((zi 2) = ((0 : Nat) : Int))) (.no (decide ((zi 2) = ((1 : Nat) : Int))) (.yes (decide ((zi 2) = ((2 : Nat) : Int))) (rx Vu (.inl (QE.mk a.x7 true (Qy.mk (cu Qi a.x8 a.x11) a.h1_1 a.h1_2)))))))))))) (.yes (decide (i0 = ((0 : Nat) : Int))) (noN 4 u84 (.as (eqS (cu Qi a.x8 a.x11) a.x1) (.yes (decide (i0 = ((0 : Nat) : Int))) (.no (decide ((zi 1) = ((0 : Nat) : Int))) (.yes (decide ((zi 1) = ((1 : Nat) : Int))) (.no (decide ((zi 2) = ((0 : Nat) : Int))) (.no (decide ((zi 2) = ((1 : Nat) : Int))) (.yes (decide ((zi 2) = ((2 : Nat) : Int))) (rx Vu (.inl (QE.mk a.x7 true (Qy.mk (cu Qi a.x8 a.x11) a.h1_1 a.h1_2)))))))))) (lf UY (Qt.mk a.x0 a.x1 (w64 (a.x7 + 1)) (w64 (a.x11 + 1)) i0 (w64 (a.x11 + 1)) a.h0 (cu Qi a.x8 a.x11) a.h1_1 a.h1_2)))))) (lf UY (Qt.mk a.x0 a.x1 a.x7 (w64 (a.x11 + 1)) (w64 (a.x10 + 1)) (w64 (a.x11 + 1)) a.h0 (cu Qi a.x8 a.x11) a.h1_1 a.h1_2)))) (.ask (decide (a.x10 = ((1 : Nat) : Int))) (decide (a.x10 = 1)) (.yes u91 (.as ((gb Qi a.x11) == 124) (let u85 := (a.x7 == a.x0); .as u85 (yesN 4 u85 (.yes true (.yes (decide (i0 = ((0 : Nat) : Int))) (.no (decide ((zi 1) = ((0 : Nat) : Int))) (.yes (decide ((zi 1) = ((1 : Nat) : Int))) (.no (decide ((zi 2) = ((0 : Nat) : Int))) (.no (decide ((zi 2) = ((1 : Nat) : Int))) (.yes (decide ((zi 2) = ((2 : Nat) : Int))) (rx Vu (.inl (QE.mk a.x7 true (Qy.mk a.h1_0 (cu Qi a.x8 a.x11) a.h1_2)))))))))))) (.yes (decide (i0 = ((0 : Nat) : Int))) (noN 4 u85 (.as (eqS a.h1_0 a.x1) (.yes (decide (i0 = ((0 : Nat) : Int))) (.no (decide ((zi 1) = ((0 : Nat) : Int))) (.yes (decide ((zi 1) = ((1 : Nat) : Int))) (.no (decide ((zi 2) = ((0 : Nat) : Int))) (.no (decide ((zi 2) = ((1 : Nat) : Int))) (.yes (decide ((zi 2) = ((2 : Nat) : Int))) (rx Vu (.inl (QE.mk a.x7 true (Qy.mk a.h1_0 (cu Qi a.x8 a.x11) a.h1_2)))))))))) (lf UY (Qt.mk a.x0 a.x1 (w64 (a.x7 + 1)) (w64 (a.x11 + 1)) i0 (w64 (a.x11 + 1)) a.h0 a.h1_0 (cu Qi a.x8 a.x11) a.h1_2)))))) (lf UY (Qt.mk a.x0 a.x1 a.x7 (w64 (a.x11 + 1)) (w64 (a.x10 + 1)) (w64 (a.x11 + 1)) a.h0 a.h1_0 (cu Qi a.x8 a.x11) a.h1_2)))) (.ask (decide (a.x10 = ((2 : Nat) : Int))) (decide (a.x10 = 2)) (.yes u91 (.as ((gb Qi a.x11) == 124) (let u86 := (a.x7 == a.x0); .as u86 (yesN 4 u86 (.yes true (.yes (decide (i0 = ((0 : Nat) : Int))) (.no (decide ((zi 1) = ((0 : Nat) : Int))) (.yes (decide ((zi 1) = ((1 : Nat) : Int))) (.no (decide ((zi 2) = ((0 : Nat) : Int))) (.no (decide ((zi 2) = ((1 : Nat) : Int))) (.yes (decide ((zi 2) = ((2 : Nat) : Int))) (rx Vu (.inl (QE.mk a.x7 true (Qy.mk a.h1_0 a.h1_1 (cu Qi a.x8 a.x11))))))))))))) (.yes (decide (i0 = ((0 : Nat) : Int))) (noN 4 u86 (.as (eqS a.h1_0 a.x1) (.yes (decide (i0 = ((0 : Nat) : Int))) (.no (decide ((zi 1) = ((0 : Nat) : Int))) (.yes (decide ((zi 1) = ((1 : Nat) : Int))) (.no (decide ((zi 2) = ((0 : Nat) : Int))) (.no (decide ((zi 2) = ((1 : Nat) : Int))) (.yes (decide ((zi 2) = ((2 : Nat) : Int))) (rx Vu (.inl (QE.mk a.x7 true (Qy.mk a.h1_0 a.h1_1 (cu Qi a.x8 a.x11))))))))))) (lf UY (Qt.mk a.x0 a.x1 (w64 (a.x7 + 1)) (w64 (a.x11 + 1)) i0 (w64 (a.x11 + 1)) a.h0 a.h1_0 a.h1_1 (cu Qi a.x8 a.x11))))))) (lf UY (Qt.mk a.x0 a.x1 a.x7 (w64 (a.x11 + 1)) (w64 (a.x10 + 1)) (w64 (a.x11 + 1)) a.h0 a.h1_0 a.h1_1 (cu Qi a.x8 a.x11))))) .fail))) .fail))))) (noN 3 u90 (.no false (.as (in2 a.x8 a.x11 (zz Qi)) (.ask (decide (a.x10 = ((0 : Nat) : Int))) (decide (a.x10 = 0)) (.yes u91 (.as ((gb Qi a.x11) == 124) (let u87 := (a.x7 == a.x0); .as u87 (yesN 4 u87 (.yes true (.yes (decide (i0 = ((0 : Nat) : Int))) (.no (decide ((zi 1) = ((0 : Nat) : Int))) (.yes (decide ((zi 1) = ((1 : Nat) : Int))) (.no (decide ((zi 2) = ((0 : Nat) : Int))) (.no (decide ((zi 2) = ((1 : Nat) : Int))) (.yes (decide ((zi 2) = ((2 : Nat) : Int))) (rx Vu (.inl (QE.mk a.x7 true (Qy.mk (cu Qi a.x8 a.x11) a.h1_1 a.h1_2)))))))))))) (.yes (decide (i0 = ((0 : Nat) : Int))) (noN 4 u87 (.as (eqS (cu Qi a.x8 a.x11) a.x1) (.yes (decide (i0 = ((0 : Nat) : Int))) (.no (decide ((zi 1) = ((0 : Nat) : Int))) (.yes (decide ((zi 1) = ((1 : Nat) : Int))) (.no (decide ((zi 2) = ((0 : Nat) : Int))) (.no (decide ((zi 2) = ((1 : Nat) : Int))) (.yes (decide ((zi 2) = ((2 : Nat) : Int))) (rx Vu (.inl (QE.mk a.x7 true (Qy.mk (cu Qi a.x8 a.x11) a.h1_1 a.h1_2)))))))))) (lf UY (Qt.mk a.x0 a.x1 (w64 (a.x7 + 1)) (w64 (a.x11 + 1)) i0 (w64 (a.x11 + 1)) a.h0 (cu Qi a.x8 a.x11) a.h1_1 a.h1_2)))))) (lf UY (Qt.mk a.x0 a.x1 a.x7 (w64 (a.x11 + 1)) (w64 (a.x10 + 1)) (w64 (a.x11 + 1)) a.h0 (cu Qi a.x8 a.x11) a.h1_1 a.h1_2)))) (.ask (decide (a.x10 = ((1 : Nat) : Int))) (decide (a.x10 = 1)) (.yes u91 (.as ((gb Qi a.x11) == 124) (let u88 := (a.x7 == a.x0); .as u88 (yesN 4 u88 (.yes true (.yes (decide (i0 = ((0 : Nat) : Int))) (.no (decide ((zi 1) = ((0 : Nat) : Int))) (.yes (decide ((zi 1) = ((1 : Nat) : Int))) (.no (decide ((zi 2) = ((0 : Nat) : Int))) (.no (decide ((zi 2) = ((1 : Nat) : Int))) (.yes (decide ((zi 2) = ((2 : Nat) : Int))) (rx Vu (.inl (QE.mk a.x7 true (Qy.mk a.h1_0 (cu Qi a.x8 a.x11) a.h1_2)))))))))))) (.yes (decide (i0 = ((0 : Nat) : Int))) (noN 4 u88 (.as (eqS a.h1_0 a.x1) (.yes (decide (i0 = ((0 : Nat) : Int))) (.no (decide ((zi 1) = ((0 : Nat) : Int))) (.yes (decide ((zi 1) = ((1 : Nat) : Int))) (.no (decide ((zi 2) = ((0 : Nat) : Int))) (.no (decide ((zi 2) = ((1 : Nat) : Int))) (.yes (decide ((zi 2) = ((2 : Nat) : Int))) (rx Vu (.inl (QE.mk a.x7 true (Qy.mk a.h1_0 (cu Qi a.x8 a.x11) a.h1_2)))))))))) (lf UY (Qt.mk a.x0 a.x1 (w64 (a.x7 + 1)) (w64 (a.x11 + 1)) i0 (w64 (a.x11 + 1)) a.h0 a.h1_0 (cu Qi a.x8 a.x11) a.h1_2)))))) (lf UY (Qt.mk a.x0 a.x1 a.x7 (w64 (a.x11 + 1)) (w64 (a.x10 + 1)) (w64 (a.x11 + 1)) a.h0 a.h1_0 (cu Qi a.x8 a.x11) a.h1_2)))) (.ask (decide (a.x10 = ((2 : Nat) : Int))) (decide (a.x10 = 2)) (.yes u91 (.as ((gb Qi a.x11) == 124) (let u89 := (a.x7 == a.x0); .as u89 (yesN 4 u89 (.yes true (.yes (decide (i0 = ((0 : Nat) : Int))) (.no (decide ((zi 1) = ((0 : Nat) : Int))) (.yes (decide ((zi 1) = ((1 : Nat) : Int))) (.no (decide ((zi 2) = ((0 : Nat) : Int))) (.no (decide ((zi 2) = ((1 : Nat) : Int))) (.yes (decide ((zi 2) = ((2 : Nat) : Int))) (rx Vu (.inl (QE.mk a.x7 true (Qy.mk a.h1_0 a.h1_1 (cu Qi a.x8 a.x11))))))))))))) (.yes (decide (i0 = ((0 : Nat) : Int))) (noN 4 u89 (.as (eqS a.h1_0 a.x1) (.yes (decide (i0 = ((0 : Nat) : Int))) (.no (decide ((zi 1) = ((0 : Nat) : Int))) (.yes (decide ((zi 1) = ((1 : Nat) : Int))) (.no (decide ((zi 2) = ((0 : Nat) : Int))) (.no (decide ((zi 2) = ((1 : Nat) : Int))) (.yes (decide ((zi 2) = ((2 : Nat) : Int))) (rx Vu (.inl (QE.mk a.x7 true (Qy.mk a.h1_0 a.h1_1 (cu Qi a.x8 a.x11))))))))))) (lf UY (Qt.mk a.x0 a.x1 (w64 (a.x7 + 1)) (w64 (a.x11 + 1)) i0 (w64 (a.x11 + 1)) a.h0 a.h1_0 a.h1_1 (cu Qi a.x8 a.x11))))))) (lf UY (Qt.mk a.x0 a.x1 a.x7 (w64 (a.x11 + 1)) (w64 (a.x10 + 1)) (w64 (a.x11 + 1)) a.h0 a.h1_0 a.h1_1 (cu Qi a.x8 a.x11))))) .fail))) .fail)))) .fail) (rx Vu (.inr a.h0)))
theorem QnP (w : Cf) (a : Qt) : (QaQ pp w a).norm (roundT pp G.kd w 0 (G.an 58) (loopAt pp 58 5) (UY a)) = QaQ pp w a := by kernel_rfl
end Go.Ab
