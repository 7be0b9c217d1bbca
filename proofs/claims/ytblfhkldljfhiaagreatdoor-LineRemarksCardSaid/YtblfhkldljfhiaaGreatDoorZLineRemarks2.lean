/- LineRemarks: part 2 of the proof that, whatever the input, the law returns true and the input reads as it did; its conditions are those of the given row. -/
import Derived.Test.YtblfhkldljfhiaaGreatDoorZLineRemarks1
import Derived.Test.YtblfhkldljfhiaaGreatDoorProg
set_option linter.unusedVariables false
set_option linter.unusedSimpArgs false
namespace Go.Ab
open Go.Proofs
def JL (x : ByteArray) : List AV := [.sc (.string x)]
def Qh (l : List ByteArray) : List (List AV) := l.map JL
theorem Jv (l : List ByteArray) : l.map JL = Qh l := rfl
theorem Z0 (l m : List ByteArray) : Qh l ++ Qh m = Qh (l ++ m) := by simp only [← Jv, List.map_append]
theorem Qtd (l : List ByteArray) (i : Nat) (a : ByteArray) : (Qh l).set i (JL a) = Qh (l.set i a) := by simp only [← Jv, List.map_set]
theorem Jo {l : List ByteArray} {n : Nat} {a : ByteArray} (h : l[n]? = some a) : (Qh l)[n]? = some (JL a) := by rw [← Jv]; exact SN h
theorem Xk (l : List ByteArray) : (Qh l).all (fun r => r.length == 1) = true := by rw [← Jv]; exact QoC (C := JL) (fun _ => rfl) l
theorem QJ (l : List ByteArray) : (Qh l).length = l.length := by rw [← Jv, List.length_map]
def C_u8 (x : Int) : List AV := [.sc (.int .u8 x)]
def R_u8 (l : List Int) : List (List AV) := l.map C_u8
theorem QyN (l : List Int) : l.map C_u8 = R_u8 l := rfl
def Z1 (x : Int) : List AV := [.sc (.int .i64 x)]
def JE (l : List Int) : List (List AV) := l.map Z1
theorem Vy (l : List Int) : l.map Z1 = JE l := rfl
theorem WP {l : List Int} {n : Nat} {a : Int} (h : l[n]? = some a) : (JE l)[n]? = some (Z1 a) := by rw [← Vy]; exact SN h
theorem WI (l : List Int) : (JE l).length = l.length := by rw [← Vy, List.length_map]
structure Qa where
  Kind : Int
  N : Int
  Name : ByteArray
  L : (List Qa)
deriving Inhabited
mutual
def Qpt : Qa → List AV
  | ⟨x0, x1, x2, x3⟩ => [.sc (.int .i64 x0), .sc (.int .i64 x1), .sc (.string x2), .sl (QY x3)]
def QY : List Qa → List (List AV)
  | [] => []
  | x :: l => Qpt x :: QY l
end
def QZ (x : Qa) : List AV := [.sc (.int .i64 x.Kind), .sc (.int .i64 x.N), .sc (.string x.Name), .sl (QY x.L)]
theorem ZF (l : List Qa) : l.map QZ = QY l := by
  induction l with
  | nil => rw [QY]; rfl
  | cons x l ih => rw [QY, List.map_cons, ih]; congr 1; cases x; rw [Qpt]; rfl
theorem Ss {l : List Qa} {n : Nat} {a : Qa} (h : l[n]? = some a) : (QY l)[n]? = some (QZ a) := by rw [← ZF]; exact SN h
theorem Qbn (l : List Qa) : (QY l).length = l.length := by rw [← ZF, List.length_map]
structure Qf where
  Reg : Int
  E : Qa
deriving Inhabited
def ZG (x : Qf) : List AV := [.sc (.int .i64 x.Reg), .sc (.int .i64 x.E.Kind), .sc (.int .i64 x.E.N), .sc (.string x.E.Name), .sl (QY x.E.L)]
def Qi (l : List Qf) : List (List AV) := l.map ZG
theorem UU (l : List Qf) : l.map ZG = Qi l := rfl
theorem WT (l m : List Qf) : Qi l ++ Qi m = Qi (l ++ m) := by simp only [← UU, List.map_append]
theorem EG {l : List Qf} {n : Nat} {a : Qf} (h : l[n]? = some a) : (Qi l)[n]? = some (ZG a) := by rw [← UU]; exact SN h
theorem YK (l : List Qf) : (Qi l).all (fun r => r.length == 5) = true := by rw [← UU]; exact QoC (C := ZG) (fun _ => rfl) l
theorem Uc (l : List Qf) : (Qi l).length = l.length := by rw [← UU, List.length_map]
structure Qg where
  Line : Int
  Label : ByteArray
  Kind : Int
  Op : Int
  Text : ByteArray
  Args : (List Qf)
deriving Inhabited
def G4 (x : Qg) : List AV := [.sc (.int .i64 x.Line), .sc (.string x.Label), .sc (.int .i64 x.Kind), .sc (.int .i64 x.Op), .sc (.string x.Text), .sl (Qi x.Args)]
structure Qc where
  x : Qg
deriving Inhabited
structure Qe where
  name : ByteArray
  bits : Int
  kinds : ByteArray
deriving Inhabited
def QaK (x : Qe) : List AV := [.sc (.string x.name), .sc (.int .u32 x.bits), .sc (.string x.kinds)]
def Ef (l : List Qe) : List (List AV) := l.map QaK
theorem Qf4 (l : List Qe) : l.map QaK = Ef l := rfl
theorem QkZ {l : List Qe} {n : Nat} {a : Qe} (h : l[n]? = some a) : (Ef l)[n]? = some (QaK a) := by rw [← Qf4]; exact SN h
theorem Qk0 (l : List Qe) : (Ef l).length = l.length := by rw [← Qf4, List.length_map]
def Ql6 (x : Nat) : List AV := [.fn (.func x) [] []]
def Vq (l : List Nat) : List (List AV) := l.map Ql6
theorem Pl (l : List Nat) : l.map Ql6 = Vq l := rfl
theorem Qf5 (l m : List Nat) : Vq l ++ Vq m = Vq (l ++ m) := by simp only [← Pl, List.map_append]
theorem QwD {l : List Nat} {n : Nat} {a : Nat} (h : l[n]? = some a) : (Vq l)[n]? = some (Ql6 a) := by rw [← Pl]; exact SN h
theorem Qkb (l : List Nat) : (Vq l).all (fun r => r.length == 1) = true := by rw [← Pl]; exact QoC (C := Ql6) (fun _ => rfl) l
theorem E2 (l : List Nat) : (Vq l).length = l.length := by rw [← Pl, List.length_map]
structure Qb where
  left : ByteArray
  deep : Int
  bad : Bool
deriving Inhabited
def Jd (x : Qb) : List AV := [.sc (.string x.left), .sc (.int .i64 x.deep), .sc (.bool x.bad)]
def Ql7 (x : (List Int)) : List AV := [.sl (JE x)]
def Qfz (l : List (List Int)) : List (List AV) := l.map Ql7
theorem Qkc (l : List (List Int)) : l.map Ql7 = Qfz l := rfl
theorem Qpu {l : List (List Int)} {n : Nat} {a : (List Int)} (h : l[n]? = some a) : (Qfz l)[n]? = some (Ql7 a) := by rw [← Qkc]; exact SN h
theorem QwE (l : List (List Int)) : (Qfz l).length = l.length := by rw [← Qkc, List.length_map]
structure Qr where
  K : Int
  N : Int
  L : (List Qr)
deriving Inhabited
mutual
def Qte : Qr → List AV
  | ⟨x0, x1, x2⟩ => [.sc (.int .i64 x0), .sc (.int .i64 x1), .sl (WU x2)]
def WU : List Qr → List (List AV)
  | [] => []
  | x :: l => Qte x :: WU l
end
def PO (x : Qr) : List AV := [.sc (.int .i64 x.K), .sc (.int .i64 x.N), .sl (WU x.L)]
theorem Qdb (l : List Qr) : l.map PO = WU l := by
  induction l with
  | nil => rw [WU]; rfl
  | cons x l ih => rw [WU, List.map_cons, ih]; congr 1; cases x; rw [Qte]; rfl
theorem Qg6 {l : List Qr} {n : Nat} {a : Qr} (h : l[n]? = some a) : (WU l)[n]? = some (PO a) := by rw [← Qdb]; exact SN h
theorem QaL (l : List Qr) : (WU l).length = l.length := by rw [← Qdb, List.length_map]
structure Ql where
  K : Int
  A : Int
  B : Int
  Ns : (List Int)
  E : (List Qr)
  Label : Bool
deriving Inhabited
def Zt (x : Ql) : List AV := [.sc (.int .i64 x.K), .sc (.int .i64 x.A), .sc (.int .i64 x.B), .sl (JE x.Ns), .sl (WU x.E), .sc (.bool x.Label)]
def Zu (l : List Ql) : List (List AV) := l.map Zt
theorem Qg7 (l : List Ql) : l.map Zt = Zu l := rfl
theorem Qg8 {l : List Ql} {n : Nat} {a : Ql} (h : l[n]? = some a) : (Zu l)[n]? = some (Zt a) := by rw [← Qg7]; exact SN h
theorem Ql8 (l : List Ql) : (Zu l).length = l.length := by rw [← Qg7, List.length_map]
structure QG where
  Name : ByteArray
  Bits : ByteArray
  Kinds : ByteArray
deriving Inhabited
def Qkd (x : QG) : List AV := [.sc (.string x.Name), .sc (.string x.Bits), .sc (.string x.Kinds)]
structure Qd where
  S : ByteArray
  P : Int
  Deep : Int
  Bad : Bool
deriving Inhabited
def Uo (x : Qd) : List AV := [.sc (.string x.S), .sc (.int .i64 x.P), .sc (.int .i64 x.Deep), .sc (.bool x.Bad)]
inductive Fg : Qr → Prop
  | mk (x : Qr) (h0 : IntKind.i64.min ≤ x.K ∧ x.K ≤ IntKind.i64.max) (h1 : IntKind.i64.min ≤ x.N ∧ x.N ≤ IntKind.i64.max) (h2 : x.L.length ≤ maxLen) (h3 : ∀ y ∈ x.L, Fg y) : Fg x
inductive QcT : Ql → Prop
  | mk (x : Ql) (h0 : IntKind.i64.min ≤ x.K ∧ x.K ≤ IntKind.i64.max) (h1 : IntKind.i64.min ≤ x.A ∧ x.A ≤ IntKind.i64.max) (h2 : IntKind.i64.min ≤ x.B ∧ x.B ≤ IntKind.i64.max) (h3 : x.Ns.length ≤ maxLen) (h4 : ∀ y ∈ x.Ns, IntKind.i64.min ≤ y ∧ y ≤ IntKind.i64.max) (h5 : x.E.length ≤ maxLen) (h6 : ∀ y ∈ x.E, Fg y) (h7 : True) : QcT x
def listB (l : List Int) : List UInt8 := l.map fun n => UInt8.ofNat n.toNat
theorem QxF (l : List Int) : bytesOfRows (R_u8 l) = some (listB l) := by
  induction l with
  | nil => rfl
  | cons x l ih => simp only [R_u8, listB, List.map_cons] at ih ⊢; simp only [bytesOfRows, C_u8, rowByte, ih, Option.bind_some, Option.map_some]
def h_09 : ByteArray := ⟨#[9]⟩
def h_20 : ByteArray := ⟨#[32]⟩
def Yj : ByteArray := ⟨#[32, 9]⟩
def Vt : ByteArray := ⟨#[32, 88, 32, 89, 32, 68, 32, 65, 32, 66, 32]⟩
def h_22 : ByteArray := ⟨#[34]⟩
def h_23 : ByteArray := ⟨#[35]⟩
def h_26 : ByteArray := ⟨#[38]⟩
def h_28 : ByteArray := ⟨#[40]⟩
def h_29 : ByteArray := ⟨#[41]⟩
def h_2a : ByteArray := ⟨#[42]⟩
def h_2b : ByteArray := ⟨#[43]⟩
def h_2c : ByteArray := ⟨#[44]⟩
def Qg9 : ByteArray := ⟨#[44, 32]⟩
def h_2d : ByteArray := ⟨#[45]⟩
def h_2e : ByteArray := ⟨#[46]⟩
def QO : ByteArray := ⟨#[46, 97, 108, 105, 103, 110]⟩
def JZ : ByteArray := ⟨#[46, 97, 115, 99, 105, 105]⟩
def QP : ByteArray := ⟨#[46, 98, 121, 116, 101]⟩
def Vu : ByteArray := ⟨#[46, 101, 113, 117]⟩
def QQ : ByteArray := ⟨#[46, 104, 97, 108, 102]⟩
def QR : ByteArray := ⟨#[46, 108, 111, 110, 103]⟩
def QS : ByteArray := ⟨#[46, 115, 112, 97, 99, 101]⟩
def h_3a : ByteArray := ⟨#[58]⟩
def Qha : ByteArray := ⟨#[60, 60]⟩
def Qhb : ByteArray := ⟨#[62, 62]⟩
def Wx : ByteArray := ⟨#[65, 32, 68, 32, 66]⟩
def VN : ByteArray := ⟨#[65, 32, 68, 32, 67, 56]⟩
def Wy : ByteArray := ⟨#[68, 32, 65, 32, 66]⟩
def Su : ByteArray := ⟨#[68, 32, 65, 32, 67, 56]⟩
def Fz : ByteArray := ⟨#[68, 32, 65, 32, 83, 49, 54]⟩
def QaM : ByteArray := ⟨#[68, 32, 76, 50, 48]⟩
def QC : ByteArray := ⟨#[68, 32, 83, 49, 54, 32, 65]⟩
def Eg : ByteArray := ⟨#[79, 49, 32, 73, 50, 32, 84, 56]⟩
def VZ : ByteArray := ⟨#[79, 50, 32, 73, 52, 32, 84, 49, 53]⟩
def XD : ByteArray := ⟨#[88, 32, 79, 53]⟩
def Us : ByteArray := ⟨#[88, 32, 85, 53]⟩
def Qdc : ByteArray := ⟨#[88, 32, 85, 55]⟩
def JG : ByteArray := ⟨#[88, 32, 89]⟩
def XU : ByteArray := ⟨#[89, 32, 77, 49, 32, 88]⟩
def XV : ByteArray := ⟨#[89, 32, 77, 50, 32, 88]⟩
def XW : ByteArray := ⟨#[89, 32, 77, 52, 32, 88]⟩
def V1 : ByteArray := ⟨#[97, 32, 35, 32, 98, 44, 32, 99]⟩
def h_7c : ByteArray := ⟨#[124]⟩
def Qm : ByteArray := ⟨#[115, 101, 95, 105, 108, 108, 101, 103, 97, 108, 58, 48, 48, 48, 48, 58, 124, 115, 101, 95, 105, 115, 121, 110, 99, 58, 48, 48, 48, 49, 58, 124, 115, 101, 95, 115, 99, 58, 48, 48, 48, 50, 58, 124, 115, 101, 95, 98, 108, 114, 58, 48, 48, 48, 52, 58, 124, 115, 101, 95, 98, 99, 116, 114, 58, 48, 48, 48, 54, 58, 124, 115, 101, 95, 110, 111, 116, 58, 48, 48, 50, 48, 58, 88, 124, 115, 101, 95, 110, 101, 103, 58, 48, 48, 51, 48, 58, 88, 124, 115, 101, 95, 109, 102, 108, 114, 58, 48, 48, 56, 48, 58, 88, 124, 115, 101, 95, 109, 116, 108, 114, 58, 48, 48, 57, 48, 58, 88, 124, 115, 101, 95, 109, 102, 99, 116, 114, 58, 48, 48, 97, 48, 58, 88, 124, 115, 101, 95, 109, 116, 99, 116, 114, 58, 48, 48, 98, 48, 58, 88, 124, 115, 101, 95, 101, 120, 116, 122, 98, 58, 48, 48, 99, 48, 58, 88, 124, 115, 101, 95, 101, 120, 116, 115, 98, 58, 48, 48, 100, 48, 58, 88, 124, 115, 101, 95, 101, 120, 116, 122, 104, 58, 48, 48, 101, 48, 58, 88, 124, 115, 101, 95, 101, 120, 116, 115, 104, 58, 48, 48, 102, 48, 58, 88, 124, 115, 101, 95, 109, 114, 58, 48, 49, 48, 48, 58, 88, 32, 89, 124, 115, 101, 95, 97, 100, 100, 58, 48, 52, 48, 48, 58, 88, 32, 89, 124, 115, 101, 95, 109, 117, 108, 108, 119, 58, 48, 53, 48, 48, 58, 88, 32, 89, 124, 115, 101, 95, 115, 117, 98, 58, 48, 54, 48, 48, 58, 88, 32, 89, 124, 115, 101, 95, 99, 109, 112, 58, 48, 99, 48, 48, 58, 88, 32, 89, 124, 115, 101, 95, 99, 109, 112, 108, 58, 48, 100, 48, 48, 58, 88, 32, 89, 124, 115, 101, 95, 97, 100, 100, 105, 58, 50, 48, 48, 48, 58, 88, 32, 79, 53, 124, 115, 101, 95, 99, 109, 112, 108, 105, 58, 50, 50, 48, 48, 58, 88, 32, 79, 53, 124, 115, 101, 95, 115, 117, 98, 105, 58, 50, 52, 48, 48, 58, 88, 32, 79, 53, 124, 115, 101, 95, 99, 109, 112, 105, 58, 50, 97, 48, 48, 58, 88, 32, 85, 53, 124, 115, 101, 95, 111, 114, 58, 52, 52, 48, 48, 58, 88, 32, 89, 124, 115, 101, 95, 97, 110, 100, 99, 58, 52, 53, 48, 48, 58, 88, 32, 89, 124, 115, 101, 95, 97, 110, 100, 58, 52, 54, 48, 48, 58, 88, 32, 89, 124, 115, 101, 95, 108, 105, 58, 52, 56, 48, 48, 58, 88, 32, 85, 55, 124, 115, 101, 95, 98, 99, 108, 114, 105, 58, 54, 48, 48, 48, 58, 88, 32, 85, 53, 124, 115, 101, 95, 98, 115, 101, 116, 105, 58, 54, 52, 48, 48, 58, 88, 32, 85, 53, 124, 115, 101, 95, 98, 116, 115, 116, 105, 58, 54, 54, 48, 48, 58, 88, 32, 85, 53, 124, 115, 101, 95, 115, 114, 119, 105, 58, 54, 56, 48, 48, 58, 88, 32, 85, 53, 124, 115, 101, 95, 115, 108, 119, 105, 58, 54, 99, 48, 48, 58, 88, 32, 85, 53, 124, 115, 101, 95, 108, 98, 122, 58, 56, 48, 48, 48, 58, 89, 32, 77, 49, 32, 88, 124, 115, 101, 95, 115, 116, 98, 58, 57, 48, 48, 48, 58, 89, 32, 77, 49, 32, 88, 124, 115, 101, 95, 108, 104, 122, 58, 97, 48, 48, 48, 58, 89, 32, 77, 50, 32, 88, 124, 115, 101, 95, 115, 116, 104, 58, 98, 48, 48, 48, 58, 89, 32, 77, 50, 32, 88, 124, 115, 101, 95, 108, 119, 122, 58, 99, 48, 48, 48, 58, 89, 32, 77, 52, 32, 88, 124, 115, 101, 95, 115, 116, 119, 58, 100, 48, 48, 48, 58, 89, 32, 77, 52, 32, 88, 124, 115, 101, 95, 98, 99, 58, 101, 48, 48, 48, 58, 79, 49, 32, 73, 50, 32, 84, 56, 124, 115, 101, 95, 98, 58, 101, 56, 48, 48, 58, 84, 56, 124, 115, 101, 95, 98, 108, 58, 101, 57, 48, 48, 58, 84, 56, 124, 101, 95, 97, 100, 100, 49, 54, 105, 58, 49, 99, 48, 48, 48, 48, 48, 48, 58, 68, 32, 65, 32, 83, 49, 54, 124, 101, 95, 97, 100, 100, 105, 58, 49, 56, 48, 48, 56, 48, 48, 48, 58, 68, 32, 65, 32, 67, 56, 124, 101, 95, 97, 110, 100, 105, 58, 49, 56, 48, 48, 99, 48, 48, 48, 58, 65, 32, 68, 32, 67, 56, 124, 101, 95, 111, 114, 105, 58, 49, 56, 48, 48, 100, 48, 48, 48, 58, 65, 32, 68, 32, 67, 56, 124, 101, 95, 120, 111, 114, 105, 58, 49, 56, 48, 48, 101, 48, 48, 48, 58, 65, 32, 68, 32, 67, 56, 124, 101, 95, 108, 105, 58, 55, 48, 48, 48, 48, 48, 48, 48, 58, 68, 32, 76, 50, 48, 124, 101, 95, 108, 98, 122, 58, 51, 48, 48, 48, 48, 48, 48, 48, 58, 68, 32, 83, 49, 54, 32, 65, 124, 101, 95, 115, 116, 98, 58, 51, 52, 48, 48, 48, 48, 48, 48, 58, 68, 32, 83, 49, 54, 32, 65, 124, 101, 95, 108, 104, 97, 58, 51, 56, 48, 48, 48, 48, 48, 48, 58, 68, 32, 83, 49, 54, 32, 65, 124, 101, 95, 108, 119, 122, 58, 53, 48, 48, 48, 48, 48, 48, 48, 58, 68, 32, 83, 49, 54, 32, 65, 124, 101, 95, 115, 116, 119, 58, 53, 52, 48, 48, 48, 48, 48, 48, 58, 68, 32, 83, 49, 54, 32, 65, 124, 101, 95, 108, 104, 122, 58, 53, 56, 48, 48, 48, 48, 48, 48, 58, 68, 32, 83, 49, 54, 32, 65, 124, 101, 95, 115, 116, 104, 58, 53, 99, 48, 48, 48, 48, 48, 48, 58, 68, 32, 83, 49, 54, 32, 65, 124, 101, 95, 98, 58, 55, 56, 48, 48, 48, 48, 48, 48, 58, 84, 50, 52, 124, 101, 95, 98, 108, 58, 55, 56, 48, 48, 48, 48, 48, 49, 58, 84, 50, 52, 124, 101, 95, 98, 99, 58, 55, 97, 48, 48, 48, 48, 48, 48, 58, 79, 50, 32, 73, 52, 32, 84, 49, 53, 124, 101, 95, 98, 99, 108, 58, 55, 97, 48, 48, 48, 48, 48, 49, 58, 79, 50, 32, 73, 52, 32, 84, 49, 53, 124, 97, 100, 100, 58, 55, 99, 48, 48, 48, 50, 49, 52, 58, 68, 32, 65, 32, 66, 124, 115, 117, 98, 102, 58, 55, 99, 48, 48, 48, 48, 53, 48, 58, 68, 32, 65, 32, 66, 124, 109, 117, 108, 108, 119, 58, 55, 99, 48, 48, 48, 49, 100, 54, 58, 68, 32, 65, 32, 66, 124, 97, 110, 100, 58, 55, 99, 48, 48, 48, 48, 51, 56, 58, 65, 32, 68, 32, 66, 124, 111, 114, 58, 55, 99, 48, 48, 48, 51, 55, 56, 58, 65, 32, 68, 32, 66, 124, 120, 111, 114, 58, 55, 99, 48, 48, 48, 50, 55, 56, 58, 65, 32, 68, 32, 66, 124]⟩
def s_ : ByteArray := ⟨#[]⟩
def Yr : ByteArray := ⟨#[48, 49, 50, 51, 52, 53, 54, 55, 56, 57]⟩
def s_0x : ByteArray := ⟨#[48, 120]⟩
def s_A : ByteArray := ⟨#[65]⟩
def s_B : ByteArray := ⟨#[66]⟩
def s_D : ByteArray := ⟨#[68]⟩
def s_I2 : ByteArray := ⟨#[73, 50]⟩
def s_I4 : ByteArray := ⟨#[73, 52]⟩
def Qzv : ByteArray := ⟨#[76, 50, 48]⟩
def s_M1 : ByteArray := ⟨#[77, 49]⟩
def s_M2 : ByteArray := ⟨#[77, 50]⟩
def s_M4 : ByteArray := ⟨#[77, 52]⟩
def s_O1 : ByteArray := ⟨#[79, 49]⟩
def s_O2 : ByteArray := ⟨#[79, 50]⟩
def s_O5 : ByteArray := ⟨#[79, 53]⟩
def Qzw : ByteArray := ⟨#[83, 49, 54]⟩
def Qzx : ByteArray := ⟨#[84, 49, 53]⟩
def Qch : ByteArray := ⟨#[84, 50, 52]⟩
def s_T8 : ByteArray := ⟨#[84, 56]⟩
def s_U5 : ByteArray := ⟨#[85, 53]⟩
def s_U7 : ByteArray := ⟨#[85, 55]⟩
def s_X : ByteArray := ⟨#[88]⟩
def s_Y : ByteArray := ⟨#[89]⟩
def s_a : ByteArray := ⟨#[97]⟩
def Qpv : ByteArray := ⟨#[97, 100, 100]⟩
def Qpw : ByteArray := ⟨#[97, 110, 100]⟩
def s_b : ByteArray := ⟨#[98]⟩
def s_b1 : ByteArray := ⟨#[98, 49]⟩
def QfA : ByteArray := ⟨#[98, 97, 115, 101]⟩
def s_bc : ByteArray := ⟨#[98, 99]⟩
def s_bl : ByteArray := ⟨#[98, 108]⟩
def Qdd : ByteArray := ⟨#[101, 95, 97, 100, 100, 49, 54, 105]⟩
def Qhc : ByteArray := ⟨#[101, 95, 97, 100, 100, 105]⟩
def Qhd : ByteArray := ⟨#[101, 95, 97, 110, 100, 105]⟩
def Qpx : ByteArray := ⟨#[101, 95, 98]⟩
def Ql9 : ByteArray := ⟨#[101, 95, 98, 99]⟩
def Qje : ByteArray := ⟨#[101, 95, 98, 99, 108]⟩
def Qma : ByteArray := ⟨#[101, 95, 98, 108]⟩
def Qjf : ByteArray := ⟨#[101, 95, 108, 98, 122]⟩
def Qjg : ByteArray := ⟨#[101, 95, 108, 104, 97]⟩
def Qjh : ByteArray := ⟨#[101, 95, 108, 104, 122]⟩
def Qmb : ByteArray := ⟨#[101, 95, 108, 105]⟩
def Qji : ByteArray := ⟨#[101, 95, 108, 119, 122]⟩
def Qjj : ByteArray := ⟨#[101, 95, 111, 114, 105]⟩
def Qjk : ByteArray := ⟨#[101, 95, 115, 116, 98]⟩
def Qjl : ByteArray := ⟨#[101, 95, 115, 116, 104]⟩
def Qjm : ByteArray := ⟨#[101, 95, 115, 116, 119]⟩
def Qhe : ByteArray := ⟨#[101, 95, 120, 111, 114, 105]⟩
def QcU : ByteArray := ⟨#[101, 110, 100, 95, 49]⟩
def s_hi : ByteArray := ⟨#[104, 105]⟩
def s_k : ByteArray := ⟨#[107]⟩
def Qde : ByteArray := ⟨#[108, 111, 111, 112]⟩
def Qjn : ByteArray := ⟨#[109, 117, 108, 108, 119]⟩
def s_or : ByteArray := ⟨#[111, 114]⟩
def s_r : ByteArray := ⟨#[114]⟩
def Qhf : ByteArray := ⟨#[115, 101, 95, 97, 100, 100]⟩
def QfB : ByteArray := ⟨#[115, 101, 95, 97, 100, 100, 105]⟩
def Qhg : ByteArray := ⟨#[115, 101, 95, 97, 110, 100]⟩
def QfC : ByteArray := ⟨#[115, 101, 95, 97, 110, 100, 99]⟩
def Qmc : ByteArray := ⟨#[115, 101, 95, 98]⟩
def Qjo : ByteArray := ⟨#[115, 101, 95, 98, 99]⟩
def Qdf : ByteArray := ⟨#[115, 101, 95, 98, 99, 108, 114, 105]⟩
def QfD : ByteArray := ⟨#[115, 101, 95, 98, 99, 116, 114]⟩
def Qjp : ByteArray := ⟨#[115, 101, 95, 98, 108]⟩
def Qhh : ByteArray := ⟨#[115, 101, 95, 98, 108, 114]⟩
def Qdg : ByteArray := ⟨#[115, 101, 95, 98, 115, 101, 116, 105]⟩
def Qdh : ByteArray := ⟨#[115, 101, 95, 98, 116, 115, 116, 105]⟩
def Qhi : ByteArray := ⟨#[115, 101, 95, 99, 109, 112]⟩
def QfE : ByteArray := ⟨#[115, 101, 95, 99, 109, 112, 105]⟩
def QfF : ByteArray := ⟨#[115, 101, 95, 99, 109, 112, 108]⟩
def Qdi : ByteArray := ⟨#[115, 101, 95, 99, 109, 112, 108, 105]⟩
def Qdj : ByteArray := ⟨#[115, 101, 95, 101, 120, 116, 115, 98]⟩
def Qdk : ByteArray := ⟨#[115, 101, 95, 101, 120, 116, 115, 104]⟩
def Qdl : ByteArray := ⟨#[115, 101, 95, 101, 120, 116, 122, 98]⟩
def Qdm : ByteArray := ⟨#[115, 101, 95, 101, 120, 116, 122, 104]⟩
def QaN : ByteArray := ⟨#[115, 101, 95, 105, 108, 108, 101, 103, 97, 108]⟩
def Qdn : ByteArray := ⟨#[115, 101, 95, 105, 115, 121, 110, 99]⟩
def Qhj : ByteArray := ⟨#[115, 101, 95, 108, 98, 122]⟩
def Qhk : ByteArray := ⟨#[115, 101, 95, 108, 104, 122]⟩
def Qjq : ByteArray := ⟨#[115, 101, 95, 108, 105]⟩
def Qhl : ByteArray := ⟨#[115, 101, 95, 108, 119, 122]⟩
def Qdo : ByteArray := ⟨#[115, 101, 95, 109, 102, 99, 116, 114]⟩
def QfG : ByteArray := ⟨#[115, 101, 95, 109, 102, 108, 114]⟩
def Qjr : ByteArray := ⟨#[115, 101, 95, 109, 114]⟩
def Qdp : ByteArray := ⟨#[115, 101, 95, 109, 116, 99, 116, 114]⟩
def QfH : ByteArray := ⟨#[115, 101, 95, 109, 116, 108, 114]⟩
def Qdq : ByteArray := ⟨#[115, 101, 95, 109, 117, 108, 108, 119]⟩
def Qhm : ByteArray := ⟨#[115, 101, 95, 110, 101, 103]⟩
def Qhn : ByteArray := ⟨#[115, 101, 95, 110, 111, 116]⟩
def Qjs : ByteArray := ⟨#[115, 101, 95, 111, 114]⟩
def Qjt : ByteArray := ⟨#[115, 101, 95, 115, 99]⟩
def QfI : ByteArray := ⟨#[115, 101, 95, 115, 108, 119, 105]⟩
def QfJ : ByteArray := ⟨#[115, 101, 95, 115, 114, 119, 105]⟩
def Qho : ByteArray := ⟨#[115, 101, 95, 115, 116, 98]⟩
def Qhp : ByteArray := ⟨#[115, 101, 95, 115, 116, 104]⟩
def Qhq : ByteArray := ⟨#[115, 101, 95, 115, 116, 119]⟩
def Qhr : ByteArray := ⟨#[115, 101, 95, 115, 117, 98]⟩
def QfK : ByteArray := ⟨#[115, 101, 95, 115, 117, 98, 105]⟩
def QaO : ByteArray := ⟨#[115, 105, 122, 101]⟩
def Qmd : ByteArray := ⟨#[115, 117, 98, 102]⟩
def Qdr : ByteArray := ⟨#[116, 97, 98]⟩
def s_x : ByteArray := ⟨#[120]⟩
def Qpy : ByteArray := ⟨#[120, 111, 114]⟩
def anT : List (Nat × List (Nat × Ann)) := [
  (12, [(6, { keep := [0, 1, 2, 7], out := [0, 1, 2], res := [6], own := [], full := false })]),
  (22, [(15, { keep := [1, 3, 4, 5], out := [3, 4], res := [2], own := [(4, 1)], full := false }), (21, { keep := [3, 4, 6], out := [3], res := [2], own := [(4, 1)], full := false })]),
  (24, [(2, { keep := [0, 3], out := [], res := [2], own := [], full := false })]),
  (25, [(8, { keep := [1, 2, 3, 5, 6], out := [1, 2, 3], res := [2], own := [], full := false })]),
  (28, [(4, { keep := [2, 3, 5], out := [], res := [4], own := [], full := false })]),
  (36, [(4, { keep := [0, 3, 4, 5], out := [3], res := [2], own := [(3, 1)], full := false })]),
  (39, [(2, { keep := [0, 3], out := [], res := [2], own := [], full := false })]),
  (58, [(5, { keep := [0, 1, 4, 7, 8, 9, 10, 11], out := [4], res := [4, 5, 6], own := [], full := false })]),
  (65, [(3, { keep := [2, 4, 5, 6], out := [4, 5], res := [4], own := [], full := false })]),
  (71, [(3, { keep := [0, 3, 4], out := [], res := [2], own := [], full := false })]),
  (72, [(2, { keep := [0, 1, 5], out := [5], res := [4], own := [], full := false })]),
  (78, [(4, { keep := [2, 3, 5], out := [], res := [4], own := [], full := false })]),
  (83, [(5, { keep := [0, 3, 4], out := [3], res := [2], own := [], full := false })]),
  (105, [(5, { keep := [0, 1, 5, 6], out := [5], res := [4], own := [], full := false })]),
  (116, [(1, { keep := [0, 1], out := [0], res := [4], own := [], full := false })]),
  (123, [(5, { keep := [3, 10, 11], out := [3], res := [2], own := [(3, 1)], full := true })]),
  (125, [(3, { keep := [0, 1, 5, 14, 15, 16], out := [1, 5], res := [4], own := [(5, 200)], full := false })]),
  (126, [(2, { keep := [0, 1, 7, 8], out := [], res := [4], own := [], full := false })]),
  (127, [(3, { keep := [0, 1, 5, 6], out := [5], res := [4], own := [], full := false })]),
  (128, [(3, { keep := [0, 5, 6, 7], out := [5], res := [4], own := [(5, 200)], full := false })]),
  (159, [(4, { keep := [0, 1, 4, 5], out := [], res := [4], own := [], full := false })]),
  (160, [(0, { keep := [0], out := [], res := [], own := [], full := false })]),
  (175, [(2, { keep := [0, 1, 7, 8], out := [], res := [4], own := [], full := false })]),
  (207, [(2, { keep := [0, 1, 5], out := [], res := [4], own := [], full := false })]),
  (215, [(5, { keep := [0, 1, 4, 5, 6], out := [4, 5], res := [4], own := [], full := false })]),
  (235, [(2, { keep := [0, 1, 4, 5, 6], out := [0, 4, 5, 6], res := [4], own := [], full := false })]),
  (237, [(2, { keep := [0, 2, 3], out := [0, 2, 3], res := [2], own := [], full := false })]),
  (244, [(2, { keep := [0, 7, 8, 9], out := [], res := [4], own := [], full := false })]),
  (266, [(2, { keep := [0, 1, 8], out := [0], res := [4], own := [], full := false })]),
  (269, [(3, { keep := [0, 1, 2, 6, 7, 12], out := [0, 1, 6, 7], res := [6], own := [], full := false })])]
def kdT : List (Nat × List Nat) := [(37, [0, 0, 0, 0, 0, 5]), (56, [129, 131, 178]), (60, [0, 1]), (113, [0, 0, 0, 0, 0, 5])]
def extT : List (Nat × (List AV → Heap → Option (AV × Heap))) := [(23, knownX), (70, indexByteX), (74, trimX), (77, (cloneF 5 64)), (79, splitX), (145, fieldsX), (177, containsX), (241, atoiX)]
def G : Cfg := { ext := fun f => get f extT, an := fun f r => ((get f anT).bind (get r)).getD {}, kd := fun t => (get t kdT).getD [] }
def anT0 : List (Nat × List (Nat × Ann)) := [
  (26, [(15, { keep := [1, 3, 4, 40, 41, 42], out := [1, 3, 4], res := [2], own := [(4, 1)], full := false })]),
  (31, [(2, { keep := [2, 3, 9, 10, 11], out := [2, 3], res := [2, 3], own := [(2, 6), (3, 1)], full := false })]),
  (71, [(3, { keep := [0, 3, 4], out := [], res := [2], own := [], full := false })]),
  (72, [(2, { keep := [0, 1, 5], out := [5], res := [4], own := [], full := false })]),
  (116, [(1, { keep := [0, 1], out := [0], res := [4], own := [], full := false })]),
  (123, [(5, { keep := [3, 10, 11], out := [3], res := [2], own := [(3, 1)], full := true })]),
  (125, [(3, { keep := [0, 1, 5, 14, 15, 16], out := [1, 5], res := [4], own := [(5, 200)], full := false })]),
  (126, [(2, { keep := [0, 1, 7, 8], out := [], res := [4], own := [], full := false })]),
  (127, [(3, { keep := [0, 1, 5, 6], out := [5], res := [4], own := [], full := false })]),
  (128, [(3, { keep := [0, 5, 6, 7], out := [5], res := [4], own := [(5, 200)], full := false })]),
  (175, [(2, { keep := [0, 1, 7, 8], out := [], res := [4], own := [], full := false })]),
  (215, [(5, { keep := [0, 1, 4, 5, 6], out := [4, 5], res := [4], own := [], full := false })]),
  (244, [(2, { keep := [0, 7, 8, 9], out := [], res := [4], own := [], full := false })]),
  (266, [(2, { keep := [0, 1, 8], out := [0], res := [4], own := [], full := false })]),
  (269, [(3, { keep := [0, 1, 2, 6, 7, 12], out := [0, 1, 6, 7], res := [6], own := [], full := false })])]
def kdT0 : List (Nat × List Nat) := [(37, [0, 0, 0, 0, 0, 5]), (56, [129, 131, 178]), (113, [0, 0, 0, 0, 0, 5])]
def extT0 : List (Nat × (List AV → Heap → Option (AV × Heap))) := [(69, joinX), (70, indexByteX), (74, trimX), (77, (cloneF 5 64)), (79, splitX), (80, (cloneF 6 80)), (81, (cloneV 8)), (93, itoaX), (145, fieldsX), (177, containsX), (241, atoiX)]
def G0 : Cfg := { ext := fun f => get f extT0, an := fun f r => ((get f anT0).bind (get r)).getD {}, kd := fun t => (get t kdT0).getD [] }
theorem QwF : evalFn Tryz.prog G0 2000 23 [] [] = some (.sc (.bool true), []) := by kernel_rfl
noncomputable abbrev pp : Program := Tryz.prog
noncomputable abbrev ev (k : Nat) : CallF := evalFn Tryz.prog G k
abbrev Cf := CallF
abbrev Pg := Program
abbrev AH := AV × Heap
abbrev XS := Ex × St
abbrev Lo := Loops
def Qke (r : Bool) : AV × Heap := (.sc (.bool r), [])
def Ys.s : Nat → Option Bool
  | 0 => none
  | _ + 1 => (some true)
theorem Ys.ok : ∀ (k : Nat), ∀ (r : Bool), Ys.s k = some r → evalFn pp G k 23 [] [] = some (Qke r)
  | 0, _, h => (nomatch h)
  | k + 1, r, h => QyM h
abbrev QaP := Option Bool
abbrev Qpz : List AV × Heap := ([], [])
abbrev QpA (w : Cf) : Option AH := w 23 (Qpz ).1 (Qpz ).2
abbrev QxG (w : Cf) (c : QaP) : Prop := ∀ (r : Bool), c = some r → QpA w = some (Qke r)
noncomputable def Ys : Option Bool := (some true)
theorem Ys.mono (k : Nat) : Le (Ys.s k ) (Ys.s (k + 1) ) := by
  cases k with
  | zero => exact fun r h => nomatch h
  | succ k => exact Le.refl _
theorem Ys.cv : Cv (fun k => Ys.s k ) (Ys ) := ⟨fun k => Ys.mono k , fun r => ⟨fun h => ⟨1, h⟩, fun ⟨k, h⟩ => by
  cases k with
  | zero => cases h
  | succ k => exact h⟩⟩
def Jh (r : Int) : AV × Heap := (xi r, [])
abbrev Ut := Int → Int → Option Int
abbrev Qe4 (a0 : Int) (a1 : Int) : List AV × Heap := ([xi a0, xi a1], [])
abbrev Ju (w : Cf) (a0 : Int) (a1 : Int) : Option AH := w 29 (Qe4 a0 a1).1 (Qe4 a0 a1).2
abbrev Qbo (w : Cf) (c : Ut) : Prop := ∀ (a0 : Int) (a1 : Int) (r : Int), c a0 a1 = some r → Ju w a0 a1 = some (Jh r)
def QiH (a0 : Int) (a1 : Int) : Option Int := (bif (decide (a1 ≠ 0)) then (bif (decide ((Int.tmod a0 a1) < 0)) then (some (w64 ((Int.tmod a0 a1) + a1))) else (some (Int.tmod a0 a1))) else none)
def Qe5 (P : Pg) (w : Cf) (a0 : Int) (a1 : Int) : Tr Int AH := (.as (decide (a1 ≠ 0)) (.as (decide ((Int.tmod a0 a1) < 0)) (rt Jh (w64 ((Int.tmod a0 a1) + a1))) (rt Jh (Int.tmod a0 a1))) .fail)
theorem QuR (w : Cf) (a0 : Int) (a1 : Int) : (Qe5 pp w a0 a1).norm (bodyT pp w G 29 (Qe4 a0 a1).1 (Qe4 a0 a1).2) = Qe5 pp w a0 a1 := by kernel_rfl
theorem QuS (P : Pg) (w : Cf) (lp : Lo) (a0 : Int) (a1 : Int) : (Qe5 P w a0 a1).ok lp Jh := ⟨rfl, fun q0 => ⟨rfl, fun q1 => rfl, fun q1 => rfl⟩, fun q0 => trivial⟩
def Jp.s : Nat → Int → Int → Option Int
  | 0, _, _ => none
  | k + 1, a0, a1 => QiH a0 a1
theorem Jp.ok : ∀ (k : Nat), Qbo (ev k) (Jp.s k)
  | 0, _, _, _, h => (nomatch h)
  | k + 1, a0, a1, r, h => fn_ok rfl (Qe5 pp (ev k) a0 a1) (QuR _ a0 a1) (QuS _ _ _ a0 a1) h
noncomputable def Jp (a0 : Int) (a1 : Int) : Option Int := QiH a0 a1
theorem Jp.cv (a0 : Int) (a1 : Int) : Cv (fun k => Jp.s k a0 a1) (Jp a0 a1) := .un rfl (by exact .const _)
theorem Jp.eq (a0 : Int) (a1 : Int) : Jp a0 a1 = QiH a0 a1 := rfl
def Eh (r : Bool) : AV × Heap := (xo r, [])
abbrev UT := Int → Option Bool
abbrev Qds (a0 : Int) : List AV × Heap := ([xb a0], [])
abbrev QaQ (w : Cf) (a0 : Int) : Option AH := w 82 (Qds a0).1 (Qds a0).2
abbrev QbZ (w : Cf) (c : UT) : Prop := ∀ (a0 : Int) (r : Bool), c a0 = some r → QaQ w a0 = some (Eh r)
def Qdt (a0 : Int) : Option Bool := (bif (decide (a0 ≥ 48)) then (some (decide (a0 ≤ (57 : Int)))) else (some false))
def Qdu (P : Pg) (w : Cf) (a0 : Int) : Tr Bool AH := (let u1 := (decide (a0 ≥ 48)); .as u1 (yesN 2 u1 (rt Eh (decide (a0 ≤ (zi 57))))) (noN 2 u1 (rt Eh false)))
theorem Qtf (w : Cf) (a0 : Int) : (Qdu pp w a0).norm (bodyT pp w G 82 (Qds a0).1 (Qds a0).2) = Qdu pp w a0 := by kernel_rfl
theorem Qtg (P : Pg) (w : Cf) (lp : Lo) (a0 : Int) : (Qdu P w a0).ok lp Eh := ⟨rfl, fun q0 => Qj 2 (q0) (rfl), fun q0 => noN_ok 2 (q0) (rfl)⟩
def Uu.s : Nat → Int → Option Bool
  | 0, _ => none
  | k + 1, a0 => Qdt a0
theorem Uu.ok : ∀ (k : Nat), QbZ (ev k) (Uu.s k)
  | 0, _, _, h => (nomatch h)
  | k + 1, a0, r, h => fn_ok rfl (Qdu pp (ev k) a0) (Qtf _ a0) (Qtg _ _ _ a0) h
noncomputable def Uu (a0 : Int) : Option Bool := Qdt a0
theorem Uu.cv (a0 : Int) : Cv (fun k => Uu.s k a0) (Uu a0) := .un rfl (by exact .const _)
theorem Uu.eq (a0 : Int) : Uu a0 = Qdt a0 := rfl
def Ei (r : Bool) : AV × Heap := (xo r, [])
abbrev YL := Int → Option Bool
abbrev Qdv (a0 : Int) : List AV × Heap := ([xb a0], [])
abbrev Qme (w : Cf) (a0 : Int) : Option AH := w 73 (Qdv a0).1 (Qdv a0).2
abbrev QiI (w : Cf) (c : YL) : Prop := ∀ (a0 : Int) (r : Bool), c a0 = some r → Qme w a0 = some (Ei r)
def FA (C0 : UT) (a0 : Int) : Option Bool := (bif (decide (a0 ≥ 97)) then (bif (decide (a0 ≤ (122 : Int))) then (some true) else (bif (a0 == 95) then (some true) else ((C0 a0).bind fun r1 => (some r1)))) else (bif (a0 == 95) then (some true) else ((C0 a0).bind fun r2 => (some r2))))
def Qdw (P : Pg) (w : Cf) (C0 : UT) (a0 : Int) : Tr Bool AH := (let u5 := (decide (a0 ≥ 97)); .as u5 (yesN 2 u5 (let u3 := (decide (a0 ≤ (zi 122))); .as u3 (yesN 2 u3 (yesN 3 true (rt Ei true))) (noN 2 u3 (let u2 := (a0 == 95); .as u2 (yesN 2 u2 (rt Ei true)) (.no u2 (.call (QaQ w a0) (C0 a0) Eh fun r1 => (.no u2 (rt Ei r1)))))))) (noN 2 u5 (noN 3 false (let u4 := (a0 == 95); .as u4 (yesN 2 u4 (rt Ei true)) (.no u4 (.call (QaQ w a0) (C0 a0) Eh fun r2 => (.no u4 (rt Ei r2))))))))
theorem Qth (w : Cf) (C0 : UT) (a0 : Int) : (Qdw pp w C0 a0).norm (bodyT pp w G 73 (Qdv a0).1 (Qdv a0).2) = Qdw pp w C0 a0 := by kernel_rfl
theorem Qti (P : Pg) (w : Cf) (lp : Lo) (C0 : UT) (K0 : QbZ w C0) (a0 : Int) : (Qdw P w C0 a0).ok lp Ei := ⟨rfl, fun q0 => Qj 2 (q0) (⟨rfl, fun q1 => Qj 2 (q1) (Qj 3 (rfl) (rfl)), fun q1 => noN_ok 2 (q1) (⟨rfl, fun q2 => Qj 2 (q2) (rfl), fun q2 => ⟨q2, fun r1 hr1 => ⟨K0 _ _ hr1, ⟨q2, rfl⟩⟩⟩⟩)⟩), fun q0 => noN_ok 2 (q0) (noN_ok 3 (rfl) (⟨rfl, fun q1 => Qj 2 (q1) (rfl), fun q1 => ⟨q1, fun r2 hr2 => ⟨K0 _ _ hr2, ⟨q1, rfl⟩⟩⟩⟩))⟩
theorem Qtj {C0 : Nat → UT} {D0 : UT} (H0 : Cv1 C0 D0) (a0 : Int) : Cv (fun k => FA (C0 k) a0) (FA D0 a0) := by
  unfold FA
  exact .cond (.cond cst (.cond cst (.bind (H0 _) fun r1 => by exact .const _))) (.cond cst (.bind (H0 _) fun r2 => by exact .const _))
def WC.s : Nat → Int → Option Bool
  | 0, _ => none
  | k + 1, a0 => FA (Uu.s k) a0
theorem WC.ok : ∀ (k : Nat), QiI (ev k) (WC.s k)
  | 0, _, _, h => (nomatch h)
  | k + 1, a0, r, h => fn_ok rfl (Qdw pp (ev k) (Uu.s k) a0) (Qth _ _ a0) (Qti _ _ _ _ (Uu.ok k) a0) h
noncomputable def WC (a0 : Int) : Option Bool := FA Uu a0
theorem WC.cv (a0 : Int) : Cv (fun k => WC.s k a0) (WC a0) := .un rfl (Qtj Uu.cv a0)
theorem WC.eq (a0 : Int) : WC a0 = FA Uu a0 := rfl
def QaR (r : Int) : AV × Heap := (xi r, [])
abbrev XX := ByteArray → Option Int
abbrev Qdx (a0 : ByteArray) : List AV × Heap := ([xs a0, .fn (.func 73) [] []], [])
abbrev Qhs (w : Cf) (a0 : ByteArray) : Option AH := w 72 (Qdx a0).1 (Qdx a0).2
abbrev QiJ (w : Cf) (c : XX) : Prop := ∀ (a0 : ByteArray) (r : Int), c a0 = some r → Qhs w a0 = some (QaR r)
structure J5 where
  x0 : ByteArray
  x5 : Int
def Et (a : J5) : St := { n := 20, nx := 0, env := [(0, xs a.x0), (1, .fn (.func 73) [] []), (5, xi a.x5)], heap := [] }
def Eu (a : Int) : Ex × St := (.exit 0, { n := 20, nx := 0, env := [(5, xi a)], heap := [] })
abbrev GJ := J5 → Option Int
abbrev Qqw (P : Pg) (lp : Lo) (l : GJ) : Prop := ∀ (a : J5) (r : Int), l a = some r → lp (loopAt P 72 2) (Et a) = some (Eu r)
def Z2 (C0 : YL) (a : J5) : Option (J5 ⊕ Int) := (bif (decide (a.x5 < ((a.x0.size : Nat) : Int))) then (bif (decide (0 ≤ a.x5 ∧ a.x5 < ((a.x0.size : Nat) : Int))) then ((C0 ((a.x0.data.getD (Int.toNat a.x5) 0).toNat : Int)).bind fun r1 => (bif r1 then (some (.inl (J5.mk a.x0 (w64 (a.x5 + 1))))) else (some (.inr a.x5)))) else none) else (some (.inr a.x5)))
def Qaw (P : Pg) (w : Cf) (C0 : YL) (a : J5) : Tr (J5 ⊕ Int) XS := (let u6 := (decide (a.x5 < (zz a.x0))); .as u6 (yesN 3 u6 (.as (in1 a.x5 (zz a.x0)) (.yes u6 (.call (Qme w (gb a.x0 a.x5)) (C0 (gb a.x0 a.x5)) Ei fun r1 => (.yes u6 (.as r1 (lf Et (J5.mk a.x0 (w64 (a.x5 + 1)))) (rx Eu a.x5))))) .fail)) (noN 5 u6 (.no false (rx Eu a.x5))))
theorem QpB (w : Cf) (C0 : YL) (a : J5) : (Qaw pp w C0 a).norm (roundT pp G.kd w 0 (G.an 72) (loopAt pp 72 2) (Et a)) = Qaw pp w C0 a := by kernel_rfl
theorem QpC (P : Pg) (w : Cf) (lp : Lo) (C0 : YL) (K0 : QiI w C0) (a : J5) : (Qaw P w C0 a).ok lp (Sum.elim (fun a => (.norm, Et a)) Eu) := ⟨rfl, fun q0 => Qj 3 (q0) (⟨rfl, fun q1 => ⟨q0, fun r1 hr1 => ⟨K0 _ _ hr1, ⟨q0, ⟨rfl, fun q2 => rfl, fun q2 => rfl⟩⟩⟩⟩, fun q1 => trivial⟩), fun q0 => noN_ok 5 (q0) (⟨rfl, rfl⟩)⟩
theorem QpD {C0 : Nat → YL} {D0 : YL} (H0 : Cv1 C0 D0) (a : J5) : Cv (fun k => Z2 (C0 k) a) (Z2 D0 a) := by
  unfold Z2
  exact .cond (.cond (.bind (H0 _) fun r1 => by exact .const _) cst) cst
def VU.s (k : Nat) (C0 : YL) : J5 → Option Int := iter (Z2 C0) k
theorem QoE (w : Cf) (k : Nat) (C0 : YL) (K0 : QiI w C0) (a : J5) (r : Int) (h : VU.s k C0 a = some r) : loopsF pp G.kd w 0 (G.an 72) k (loopAt pp 72 2) (Et a) = some (Eu r) :=
  Va (fun a => Qaw pp w C0 a) (fun _ => rfl) (fun a => QpB w _ a) (fun a => QpC _ w _ _ K0 a) (fun r => nofun) h
noncomputable def VU.w (C0 : YL) : J5 → Option Int := loopW (Z2 C0)
theorem VU.cv (C0 : Nat → YL) (D0 : YL) (H0 : Cv1 C0 D0) (a : J5) : Cv (fun k => VU.s k (C0 k) a) (VU.w D0 a) := Cv.iter (fun a => QpD H0 a) a
def FB (L0 : GJ) (a0 : ByteArray) : Option Int := ((L0 (J5.mk a0 (0 : Int))).bind (fun (o1 : Int) => (some o1)))
def Qdy (P : Pg) (w : Cf) (L0 : GJ) (a0 : ByteArray) : Tr Int AH := (.loop (loopAt P 72 2) (Et (J5.mk a0 i0)) (L0 (J5.mk a0 i0)) Eu (fun (o1 : Int) => (rt QaR o1)))
theorem Qtk (w : Cf) (L0 : GJ) (a0 : ByteArray) : (Qdy pp w L0 a0).norm (bodyT pp w G 72 (Qdx a0).1 (Qdx a0).2) = Qdy pp w L0 a0 := by kernel_rfl
theorem Qtl (P : Pg) (w : Cf) (lp : Lo) (L0 : GJ) (N0 : Qqw P lp L0) (a0 : ByteArray) : (Qdy P w L0 a0).ok lp QaR := fun o1 ho1 => ⟨N0 _ _ ho1, rfl⟩
theorem Qtm {L0 : Nat → GJ} {M0 : GJ} (N0 : Cv1 L0 M0) (a0 : ByteArray) : Cv (fun k => FB (L0 k) a0) (FB M0 a0) := by
  unfold FB
  exact .bind (N0 _) (fun o1 => by exact .const _)
def VD.s : Nat → ByteArray → Option Int
  | 0, _ => none
  | k + 1, a0 => FB (VU.s k (WC.s k)) a0
theorem VD.ok : ∀ (k : Nat), QiJ (ev k) (VD.s k)
  | 0, _, _, h => (nomatch h)
  | k + 1, a0, r, h => fn_ok rfl (Qdy pp (ev k) (VU.s k (WC.s k)) a0) (Qtk _ _ a0) (Qtl _ _ _ _ (QoE _ k _ (WC.ok k)) a0) h
noncomputable def VU : J5 → Option Int := VU.w WC
theorem VU.eq (a : J5) : VU a = (Z2 WC a).bind (Sum.elim VU some) := UN _ _
noncomputable def VD (a0 : ByteArray) : Option Int := FB VU a0
theorem VD.cv (a0 : ByteArray) : Cv (fun k => VD.s k a0) (VD a0) := .un rfl (Qtm (VU.cv (fun k => WC.s k) WC WC.cv) a0)
theorem VD.eq (a0 : ByteArray) : VD a0 = FB VU a0 := rfl
def Sv (r : Int) : AV × Heap := (xi r, [])
abbrev WO := ByteArray → Option Int
abbrev Qbp (a0 : ByteArray) : List AV × Heap := ([xs a0, .fn (.func 82) [] []], [])
abbrev QeH (w : Cf) (a0 : ByteArray) : Option AH := w 72 (Qbp a0).1 (Qbp a0).2
abbrev Qf6 (w : Cf) (c : WO) : Prop := ∀ (a0 : ByteArray) (r : Int), c a0 = some r → QeH w a0 = some (Sv r)
structure Jz where
  x0 : ByteArray
  x5 : Int
def Gg (a : Jz) : St := { n := 20, nx := 0, env := [(0, xs a.x0), (1, .fn (.func 82) [] []), (5, xi a.x5)], heap := [] }
def Gh (a : Int) : Ex × St := (.exit 0, { n := 20, nx := 0, env := [(5, xi a)], heap := [] })
abbrev Zv := Jz → Option Int
abbrev QoF (P : Pg) (lp : Lo) (l : Zv) : Prop := ∀ (a : Jz) (r : Int), l a = some r → lp (loopAt P 72 2) (Gg a) = some (Gh r)
def Y3 (C0 : UT) (a : Jz) : Option (Jz ⊕ Int) := (bif (decide (a.x5 < ((a.x0.size : Nat) : Int))) then (bif (decide (0 ≤ a.x5 ∧ a.x5 < ((a.x0.size : Nat) : Int))) then ((C0 ((a.x0.data.getD (Int.toNat a.x5) 0).toNat : Int)).bind fun r1 => (bif r1 then (some (.inl (Jz.mk a.x0 (w64 (a.x5 + 1))))) else (some (.inr a.x5)))) else none) else (some (.inr a.x5)))
def Se (P : Pg) (w : Cf) (C0 : UT) (a : Jz) : Tr (Jz ⊕ Int) XS := (let u7 := (decide (a.x5 < (zz a.x0))); .as u7 (yesN 3 u7 (.as (in1 a.x5 (zz a.x0)) (.yes u7 (.call (QaQ w (gb a.x0 a.x5)) (C0 (gb a.x0 a.x5)) Eh fun r1 => (.yes u7 (.as r1 (lf Gg (Jz.mk a.x0 (w64 (a.x5 + 1)))) (rx Gh a.x5))))) .fail)) (noN 5 u7 (.no false (rx Gh a.x5))))
theorem QnI (w : Cf) (C0 : UT) (a : Jz) : (Se pp w C0 a).norm (roundT pp G.kd w 0 (G.an 72) (loopAt pp 72 2) (Gg a)) = Se pp w C0 a := by kernel_rfl
theorem QnJ (P : Pg) (w : Cf) (lp : Lo) (C0 : UT) (K0 : QbZ w C0) (a : Jz) : (Se P w C0 a).ok lp (Sum.elim (fun a => (.norm, Gg a)) Gh) := ⟨rfl, fun q0 => Qj 3 (q0) (⟨rfl, fun q1 => ⟨q0, fun r1 hr1 => ⟨K0 _ _ hr1, ⟨q0, ⟨rfl, fun q2 => rfl, fun q2 => rfl⟩⟩⟩⟩, fun q1 => trivial⟩), fun q0 => noN_ok 5 (q0) (⟨rfl, rfl⟩)⟩
theorem QnK {C0 : Nat → UT} {D0 : UT} (H0 : Cv1 C0 D0) (a : Jz) : Cv (fun k => Y3 (C0 k) a) (Y3 D0 a) := by
  unfold Y3
  exact .cond (.cond (.bind (H0 _) fun r1 => by exact .const _) cst) cst
def Vd.s (k : Nat) (C0 : UT) : Jz → Option Int := iter (Y3 C0) k
theorem Qmf (w : Cf) (k : Nat) (C0 : UT) (K0 : QbZ w C0) (a : Jz) (r : Int) (h : Vd.s k C0 a = some r) : loopsF pp G.kd w 0 (G.an 72) k (loopAt pp 72 2) (Gg a) = some (Gh r) :=
  Va (fun a => Se pp w C0 a) (fun _ => rfl) (fun a => QnI w _ a) (fun a => QnJ _ w _ _ K0 a) (fun r => nofun) h
noncomputable def Vd.w (C0 : UT) : Jz → Option Int := loopW (Y3 C0)
theorem Vd.cv (C0 : Nat → UT) (D0 : UT) (H0 : Cv1 C0 D0) (a : Jz) : Cv (fun k => Vd.s k (C0 k) a) (Vd.w D0 a) := Cv.iter (fun a => QnK H0 a) a
def GK (L0 : Zv) (a0 : ByteArray) : Option Int := ((L0 (Jz.mk a0 (0 : Int))).bind (fun (o1 : Int) => (some o1)))
def Qbq (P : Pg) (w : Cf) (L0 : Zv) (a0 : ByteArray) : Tr Int AH := (.loop (loopAt P 72 2) (Gg (Jz.mk a0 i0)) (L0 (Jz.mk a0 i0)) Gh (fun (o1 : Int) => (rt Sv o1)))
theorem Qqx (w : Cf) (L0 : Zv) (a0 : ByteArray) : (Qbq pp w L0 a0).norm (bodyT pp w G 72 (Qbp a0).1 (Qbp a0).2) = Qbq pp w L0 a0 := by kernel_rfl
theorem Qqy (P : Pg) (w : Cf) (lp : Lo) (L0 : Zv) (N0 : QoF P lp L0) (a0 : ByteArray) : (Qbq P w L0 a0).ok lp Sv := fun o1 ho1 => ⟨N0 _ _ ho1, rfl⟩
theorem Qqz {L0 : Nat → Zv} {M0 : Zv} (N0 : Cv1 L0 M0) (a0 : ByteArray) : Cv (fun k => GK (L0 k) a0) (GK M0 a0) := by
  unfold GK
  exact .bind (N0 _) (fun o1 => by exact .const _)
def UP.s : Nat → ByteArray → Option Int
  | 0, _ => none
  | k + 1, a0 => GK (Vd.s k (Uu.s k)) a0
theorem UP.ok : ∀ (k : Nat), Qf6 (ev k) (UP.s k)
  | 0, _, _, h => (nomatch h)
  | k + 1, a0, r, h => fn_ok rfl (Qbq pp (ev k) (Vd.s k (Uu.s k)) a0) (Qqx _ _ a0) (Qqy _ _ _ _ (Qmf _ k _ (Uu.ok k)) a0) h
noncomputable def Vd : Jz → Option Int := Vd.w Uu
theorem Vd.eq (a : Jz) : Vd a = (Y3 Uu a).bind (Sum.elim Vd some) := UN _ _
noncomputable def UP (a0 : ByteArray) : Option Int := GK Vd a0
theorem UP.cv (a0 : ByteArray) : Cv (fun k => UP.s k a0) (UP a0) := .un rfl (Qqz (Vd.cv (fun k => Uu.s k) Uu Uu.cv) a0)
theorem UP.eq (a0 : ByteArray) : UP a0 = GK Vd a0 := rfl
def Zo (r : Bool) : AV × Heap := (xo r, [])
abbrev YT := ByteArray → Option Bool
abbrev Qe6 (a0 : ByteArray) : List AV × Heap := ([xs a0], [])
abbrev QiK (w : Cf) (a0 : ByteArray) : Option AH := w 33 (Qe6 a0).1 (Qe6 a0).2
abbrev Qkf (w : Cf) (c : YT) : Prop := ∀ (a0 : ByteArray) (r : Bool), c a0 = some r → QiK w a0 = some (Zo r)
def PP (C0 : UT) (C1 : XX) (C2 : WO) (a0 : ByteArray) : Option Bool := (bif (eqS a0 s_) then (some false) else (bif (decide (((a0.size : Nat) : Int) > 12)) then (some false) else (bif (decide (0 ≤ (0 : Int) ∧ (0 : Int) < ((a0.size : Nat) : Int))) then ((C0 ((a0.data.getD (Int.toNat 0) 0).toNat : Int)).bind fun r1 => (bif r1 then (some false) else ((C1 a0).bind fun r2 => (bif (r2 != ((a0.size : Nat) : Int)) then (some false) else (bif (((a0.data.getD (Int.toNat 0) 0).toNat : Int) != 114) then (some true) else (bif (((a0.size : Nat) : Int) == 1) then (some true) else (bif (decide (0 ≤ (1 : Int) ∧ (1 : Int) ≤ ((a0.size : Nat) : Int) ∧ ((a0.size : Nat) : Int) ≤ ((a0.size : Nat) : Int))) then ((C2 (a0.extract (Int.toNat 1) (Int.toNat ((a0.size : Nat) : Int)))).bind fun r3 => (some (r3 != (w64 (((a0.size : Nat) : Int) - 1))))) else none))))))) else none)))
def Qe7 (P : Pg) (w : Cf) (C0 : UT) (C1 : XX) (C2 : WO) (a0 : ByteArray) : Tr Bool AH := (let u12 := (eqS a0 s_); .as u12 (yesN 3 u12 (yesN 11 true (rt Zo false))) (noN 3 u12 (let u11 := (decide ((zz a0) > 12)); .as u11 (yesN 3 u11 (yesN 7 true (rt Zo false))) (.no u11 (let u10 := (in1 i0 (zz a0)); .as u10 (.no u11 (.call (QaQ w (gb a0 i0)) (C0 (gb a0 i0)) Eh fun r1 => (.no u11 (.as r1 (yesN 5 r1 (.yes true (rt Zo false))) (.no r1 (.call (Qhs w a0) (C1 a0) QaR fun r2 => (noN 4 r1 (.as (r2 != (zz a0)) (rt Zo false) (.yes u10 (let u9 := ((gb a0 i0) != 114); .as u9 (yesN 3 u9 (yesN 8 true (rt Zo true))) (noN 3 u9 (let u8 := ((zz a0) == 1); .as u8 (yesN 7 u8 (rt Zo true)) (.no u8 (.as (in2 (zi 1) (zz a0) (zz a0)) (.no u8 (.call (QeH w (cu a0 (zi 1) (zz a0))) (C2 (cu a0 (zi 1) (zz a0))) Sv fun r3 => (noN 5 u8 (rt Zo (r3 != (w64 ((zz a0) - 1))))))) .fail)))))))))))))) .fail)))))
theorem QuT (w : Cf) (C0 : UT) (C1 : XX) (C2 : WO) (a0 : ByteArray) : (Qe7 pp w C0 C1 C2 a0).norm (bodyT pp w G 33 (Qe6 a0).1 (Qe6 a0).2) = Qe7 pp w C0 C1 C2 a0 := by kernel_rfl
theorem QuU (P : Pg) (w : Cf) (lp : Lo) (C0 : UT) (C1 : XX) (C2 : WO) (K0 : QbZ w C0) (K1 : QiJ w C1) (K2 : Qf6 w C2) (a0 : ByteArray) : (Qe7 P w C0 C1 C2 a0).ok lp Zo := ⟨rfl, fun q0 => Qj 3 (q0) (Qj 11 (rfl) (rfl)), fun q0 => noN_ok 3 (q0) (⟨rfl, fun q1 => Qj 3 (q1) (Qj 7 (rfl) (rfl)), fun q1 => ⟨q1, ⟨rfl, fun q2 => ⟨q1, fun r1 hr1 => ⟨K0 _ _ hr1, ⟨q1, ⟨rfl, fun q3 => Qj 5 (q3) (⟨rfl, rfl⟩), fun q3 => ⟨q3, fun r2 hr2 => ⟨K1 _ _ hr2, noN_ok 4 (q3) (⟨rfl, fun q4 => rfl, fun q4 => ⟨q2, ⟨rfl, fun q5 => Qj 3 (q5) (Qj 8 (rfl) (rfl)), fun q5 => noN_ok 3 (q5) (⟨rfl, fun q6 => Qj 7 (q6) (rfl), fun q6 => ⟨q6, ⟨rfl, fun q7 => ⟨q6, fun r3 hr3 => ⟨K2 _ _ hr3, noN_ok 5 (q6) (rfl)⟩⟩, fun q7 => trivial⟩⟩⟩)⟩⟩⟩)⟩⟩⟩⟩⟩⟩, fun q2 => trivial⟩⟩⟩)⟩
theorem QuV {C0 : Nat → UT} {D0 : UT} (H0 : Cv1 C0 D0) {C1 : Nat → XX} {D1 : XX} (H1 : Cv1 C1 D1) {C2 : Nat → WO} {D2 : WO} (H2 : Cv1 C2 D2) (a0 : ByteArray) : Cv (fun k => PP (C0 k) (C1 k) (C2 k) a0) (PP D0 D1 D2 a0) := by
  unfold PP
  exact .cond cst (.cond cst (.cond (.bind (H0 _) fun r1 => .cond cst (.bind (H1 _) fun r2 => .cond cst (.cond cst (.cond cst (.cond (.bind (H2 _) fun r3 => by exact .const _) cst))))) cst))
def Wc.s : Nat → ByteArray → Option Bool
  | 0, _ => none
  | k + 1, a0 => PP (Uu.s k) (VD.s k) (UP.s k) a0
theorem Wc.ok : ∀ (k : Nat), Qkf (ev k) (Wc.s k)
  | 0, _, _, h => (nomatch h)
  | k + 1, a0, r, h => fn_ok rfl (Qe7 pp (ev k) (Uu.s k) (VD.s k) (UP.s k) a0) (QuT _ _ _ _ a0) (QuU _ _ _ _ _ _ (Uu.ok k) (VD.ok k) (UP.ok k) a0) h
noncomputable def Wc (a0 : ByteArray) : Option Bool := PP Uu VD UP a0
theorem Wc.cv (a0 : ByteArray) : Cv (fun k => Wc.s k a0) (Wc a0) := .un rfl (QuV Uu.cv VD.cv UP.cv a0)
theorem Wc.eq (a0 : ByteArray) : Wc a0 = PP Uu VD UP a0 := rfl
def Pm (r : Bool) : AV × Heap := (xo r, [])
abbrev Qcz := ByteArray → Option Bool
abbrev QhY (a0 : ByteArray) : List AV × Heap := ([xs a0], [])
abbrev Qrz (w : Cf) (a0 : ByteArray) : Option AH := w 83 (QhY a0).1 (QhY a0).2
abbrev Qtn (w : Cf) (c : Qcz) : Prop := ∀ (a0 : ByteArray) (r : Bool), c a0 = some r → Qrz w a0 = some (Pm r)
structure Qv where
  x0 : ByteArray
  x3 : Bool
  x4 : Int
def Ur (a : Qv) : St := { n := 65, nx := 0, env := [(0, xs a.x0), (3, xo a.x3), (4, xi a.x4)], heap := [] }
def Qf7 (a : Bool) : Ex × St := (.ret, { n := 65, nx := 0, env := [(2, xo a)], heap := [] })
def Qf8 (a : Bool) : Ex × St := (.exit 0, { n := 65, nx := 0, env := [(3, xo a)], heap := [] })
def XR (a : (Bool ⊕ Bool)) : Ex × St := Sum.elim Qf7 Qf8 a
abbrev PQ := Qv → Option (Bool ⊕ Bool)
abbrev QuW (P : Pg) (lp : Lo) (l : PQ) : Prop := ∀ (a : Qv) (r : (Bool ⊕ Bool)), l a = some r → lp (loopAt P 83 5) (Ur a) = some (XR r)
def FC (a : Qv) : Option (Qv ⊕ (Bool ⊕ Bool)) := (bif (decide (a.x4 < ((a.x0.size : Nat) : Int))) then (bif (decide (0 ≤ a.x4 ∧ a.x4 < ((a.x0.size : Nat) : Int))) then (bif (decide (((a.x0.data.getD (Int.toNat a.x4) 0).toNat : Int) ≥ 48)) then (bif (decide (((a.x0.data.getD (Int.toNat a.x4) 0).toNat : Int) ≥ 97)) then (bif (!(decide (((a.x0.data.getD (Int.toNat a.x4) 0).toNat : Int) ≤ 122))) then (bif (((a.x0.data.getD (Int.toNat a.x4) 0).toNat : Int) != 95) then (bif (a.x4 == 0) then (some (.inr (.inl false))) else (bif (!(decide (((a.x0.data.getD (Int.toNat a.x4) 0).toNat : Int) ≤ 57))) then (some (.inr (.inl false))) else (bif (decide (a.x4 > 0)) then (some (.inl (Qv.mk a.x0 a.x3 (w64 (a.x4 + 1))))) else (some (.inl (Qv.mk a.x0 a.x3 (w64 (a.x4 + 1)))))))) else (bif (decide (a.x4 > 0)) then (bif (!(decide (((a.x0.data.getD (Int.toNat a.x4) 0).toNat : Int) ≤ 57))) then (some (.inl (Qv.mk a.x0 false (w64 (a.x4 + 1))))) else (some (.inl (Qv.mk a.x0 a.x3 (w64 (a.x4 + 1)))))) else (some (.inl (Qv.mk a.x0 a.x3 (w64 (a.x4 + 1))))))) else (bif (decide (a.x4 > 0)) then (bif (!(decide (((a.x0.data.getD (Int.toNat a.x4) 0).toNat : Int) ≤ 57))) then (some (.inl (Qv.mk a.x0 false (w64 (a.x4 + 1))))) else (some (.inl (Qv.mk a.x0 a.x3 (w64 (a.x4 + 1)))))) else (some (.inl (Qv.mk a.x0 a.x3 (w64 (a.x4 + 1))))))) else (bif (((a.x0.data.getD (Int.toNat a.x4) 0).toNat : Int) != 95) then (bif (a.x4 == 0) then (some (.inr (.inl false))) else (bif (!(decide (((a.x0.data.getD (Int.toNat a.x4) 0).toNat : Int) ≤ 57))) then (some (.inr (.inl false))) else (bif (decide (a.x4 > 0)) then (some (.inl (Qv.mk a.x0 a.x3 (w64 (a.x4 + 1))))) else (some (.inl (Qv.mk a.x0 a.x3 (w64 (a.x4 + 1)))))))) else (bif (decide (a.x4 > 0)) then (bif (!(decide (((a.x0.data.getD (Int.toNat a.x4) 0).toNat : Int) ≤ 57))) then (some (.inl (Qv.mk a.x0 false (w64 (a.x4 + 1))))) else (some (.inl (Qv.mk a.x0 a.x3 (w64 (a.x4 + 1)))))) else (some (.inl (Qv.mk a.x0 a.x3 (w64 (a.x4 + 1)))))))) else (bif (decide (((a.x0.data.getD (Int.toNat a.x4) 0).toNat : Int) ≥ 97)) then (bif (!(decide (((a.x0.data.getD (Int.toNat a.x4) 0).toNat : Int) ≤ 122))) then (bif (((a.x0.data.getD (Int.toNat a.x4) 0).toNat : Int) != 95) then (bif (a.x4 == 0) then (some (.inr (.inl false))) else (some (.inr (.inl false)))) else (bif (decide (a.x4 > 0)) then (some (.inl (Qv.mk a.x0 false (w64 (a.x4 + 1))))) else (some (.inl (Qv.mk a.x0 a.x3 (w64 (a.x4 + 1))))))) else (bif (decide (a.x4 > 0)) then (some (.inl (Qv.mk a.x0 false (w64 (a.x4 + 1))))) else (some (.inl (Qv.mk a.x0 a.x3 (w64 (a.x4 + 1))))))) else (bif (((a.x0.data.getD (Int.toNat a.x4) 0).toNat : Int) != 95) then (bif (a.x4 == 0) then (some (.inr (.inl false))) else (some (.inr (.inl false)))) else (bif (decide (a.x4 > 0)) then (some (.inl (Qv.mk a.x0 false (w64 (a.x4 + 1))))) else (some (.inl (Qv.mk a.x0 a.x3 (w64 (a.x4 + 1))))))))) else none) else (some (.inr (.inr a.x3))))
def Qdz (P : Pg) (w : Cf) (a : Qv) : Tr (Qv ⊕ (Bool ⊕ Bool)) XS := (.as (decide (a.x4 < (zz a.x0))) (.as (in1 a.x4 (zz a.x0)) (let u35 := (decide ((gb a.x0 a.x4) ≥ 48)); .as u35 (yesN 2 u35 (let u25 := (decide ((gb a.x0 a.x4) ≥ 97)); .as u25 (yesN 2 u25 (let u19 := (!(decide ((gb a.x0 a.x4) ≤ 122))); .as u19 (yesN 2 u19 (let u17 := ((gb a.x0 a.x4) != 95); .as u17 (yesN 2 u17 (let u15 := (a.x4 == 0); .as u15 (.yes u15 (.yes u17 (.yes u15 (.yes u17 (.yes true (rx XR (.inl false))))))) (.no u15 (.yes u17 (.no u15 (.yes u17 (let u14 := (!(decide ((gb a.x0 a.x4) ≤ 57))); .as u14 (rx XR (.inl false)) (let u13 := (decide (a.x4 > 0)); .as u13 (yesN 2 u13 (.no u14 (lf Ur (Qv.mk a.x0 a.x3 (w64 (a.x4 + 1)))))) (noN 2 u13 (.no false (lf Ur (Qv.mk a.x0 a.x3 (w64 (a.x4 + 1)))))))))))))) (noN 4 u17 (.no false (let u16 := (decide (a.x4 > 0)); .as u16 (yesN 2 u16 (.as (!(decide ((gb a.x0 a.x4) ≤ 57))) (lf Ur (Qv.mk a.x0 false (w64 (a.x4 + 1)))) (lf Ur (Qv.mk a.x0 a.x3 (w64 (a.x4 + 1)))))) (noN 2 u16 (.no false (lf Ur (Qv.mk a.x0 a.x3 (w64 (a.x4 + 1))))))))))) (noN 2 u19 (noN 6 false (let u18 := (decide (a.x4 > 0)); .as u18 (yesN 2 u18 (.as (!(decide ((gb a.x0 a.x4) ≤ 57))) (lf Ur (Qv.mk a.x0 false (w64 (a.x4 + 1)))) (lf Ur (Qv.mk a.x0 a.x3 (w64 (a.x4 + 1)))))) (noN 2 u18 (.no false (lf Ur (Qv.mk a.x0 a.x3 (w64 (a.x4 + 1))))))))))) (noN 2 u25 (yesN 3 true (let u24 := ((gb a.x0 a.x4) != 95); .as u24 (yesN 2 u24 (let u22 := (a.x4 == 0); .as u22 (.yes u22 (.yes u24 (.yes u22 (.yes u24 (.yes true (rx XR (.inl false))))))) (.no u22 (.yes u24 (.no u22 (.yes u24 (let u21 := (!(decide ((gb a.x0 a.x4) ≤ 57))); .as u21 (rx XR (.inl false)) (let u20 := (decide (a.x4 > 0)); .as u20 (yesN 2 u20 (.no u21 (lf Ur (Qv.mk a.x0 a.x3 (w64 (a.x4 + 1)))))) (noN 2 u20 (.no false (lf Ur (Qv.mk a.x0 a.x3 (w64 (a.x4 + 1)))))))))))))) (noN 4 u24 (.no false (let u23 := (decide (a.x4 > 0)); .as u23 (yesN 2 u23 (.as (!(decide ((gb a.x0 a.x4) ≤ 57))) (lf Ur (Qv.mk a.x0 false (w64 (a.x4 + 1)))) (lf Ur (Qv.mk a.x0 a.x3 (w64 (a.x4 + 1)))))) (noN 2 u23 (.no false (lf Ur (Qv.mk a.x0 a.x3 (w64 (a.x4 + 1)))))))))))))) (noN 2 u35 (let u34 := (decide ((gb a.x0 a.x4) ≥ 97)); .as u34 (yesN 2 u34 (let u30 := (!(decide ((gb a.x0 a.x4) ≤ 122))); .as u30 (yesN 2 u30 (let u28 := ((gb a.x0 a.x4) != 95); .as u28 (yesN 2 u28 (let u26 := (a.x4 == 0); .as u26 (.yes u26 (.yes u28 (.yes u26 (.yes u28 (.yes true (rx XR (.inl false))))))) (.no u26 (.yes u28 (.no u26 (.yes u28 (.yes true (rx XR (.inl false))))))))) (noN 4 u28 (.no false (let u27 := (decide (a.x4 > 0)); .as u27 (yesN 2 u27 (.yes true (lf Ur (Qv.mk a.x0 false (w64 (a.x4 + 1)))))) (noN 2 u27 (.no false (lf Ur (Qv.mk a.x0 a.x3 (w64 (a.x4 + 1))))))))))) (noN 2 u30 (noN 6 false (let u29 := (decide (a.x4 > 0)); .as u29 (yesN 2 u29 (.yes true (lf Ur (Qv.mk a.x0 false (w64 (a.x4 + 1)))))) (noN 2 u29 (.no false (lf Ur (Qv.mk a.x0 a.x3 (w64 (a.x4 + 1))))))))))) (noN 2 u34 (yesN 3 true (let u33 := ((gb a.x0 a.x4) != 95); .as u33 (yesN 2 u33 (let u31 := (a.x4 == 0); .as u31 (.yes u31 (.yes u33 (.yes u31 (.yes u33 (.yes true (rx XR (.inl false))))))) (.no u31 (.yes u33 (.no u31 (.yes u33 (.yes true (rx XR (.inl false))))))))) (noN 4 u33 (.no false (let u32 := (decide (a.x4 > 0)); .as u32 (yesN 2 u32 (.yes true (lf Ur (Qv.mk a.x0 false (w64 (a.x4 + 1)))))) (noN 2 u32 (.no false (lf Ur (Qv.mk a.x0 a.x3 (w64 (a.x4 + 1))))))))))))))) .fail) (rx XR (.inr a.x3)))
theorem Qto (w : Cf) (a : Qv) : (Qdz pp w a).norm (roundT pp G.kd w 0 (G.an 83) (loopAt pp 83 5) (Ur a)) = Qdz pp w a := by kernel_rfl
theorem Qtp (P : Pg) (w : Cf) (lp : Lo) (a : Qv) : (Qdz P w a).ok lp (Sum.elim (fun a => (.norm, Ur a)) XR) := ⟨rfl, fun q0 => ⟨rfl, fun q1 => ⟨rfl, fun q2 => Qj 2 (q2) (⟨rfl, fun q3 => Qj 2 (q3) (⟨rfl, fun q4 => Qj 2 (q4) (⟨rfl, fun q5 => Qj 2 (q5) (⟨rfl, fun q6 => ⟨q6, ⟨q5, ⟨q6, ⟨q5, ⟨rfl, rfl⟩⟩⟩⟩⟩, fun q6 => ⟨q6, ⟨q5, ⟨q6, ⟨q5, ⟨rfl, fun q7 => rfl, fun q7 => ⟨rfl, fun q8 => Qj 2 (q8) (⟨q7, rfl⟩), fun q8 => noN_ok 2 (q8) (⟨rfl, rfl⟩)⟩⟩⟩⟩⟩⟩⟩), fun q5 => noN_ok 4 (q5) (⟨rfl, ⟨rfl, fun q6 => Qj 2 (q6) (⟨rfl, fun q7 => rfl, fun q7 => rfl⟩), fun q6 => noN_ok 2 (q6) (⟨rfl, rfl⟩)⟩⟩)⟩), fun q4 => noN_ok 2 (q4) (noN_ok 6 (rfl) (⟨rfl, fun q5 => Qj 2 (q5) (⟨rfl, fun q6 => rfl, fun q6 => rfl⟩), fun q5 => noN_ok 2 (q5) (⟨rfl, rfl⟩)⟩))⟩), fun q3 => noN_ok 2 (q3) (Qj 3 (rfl) (⟨rfl, fun q4 => Qj 2 (q4) (⟨rfl, fun q5 => ⟨q5, ⟨q4, ⟨q5, ⟨q4, ⟨rfl, rfl⟩⟩⟩⟩⟩, fun q5 => ⟨q5, ⟨q4, ⟨q5, ⟨q4, ⟨rfl, fun q6 => rfl, fun q6 => ⟨rfl, fun q7 => Qj 2 (q7) (⟨q6, rfl⟩), fun q7 => noN_ok 2 (q7) (⟨rfl, rfl⟩)⟩⟩⟩⟩⟩⟩⟩), fun q4 => noN_ok 4 (q4) (⟨rfl, ⟨rfl, fun q5 => Qj 2 (q5) (⟨rfl, fun q6 => rfl, fun q6 => rfl⟩), fun q5 => noN_ok 2 (q5) (⟨rfl, rfl⟩)⟩⟩)⟩))⟩), fun q2 => noN_ok 2 (q2) (⟨rfl, fun q3 => Qj 2 (q3) (⟨rfl, fun q4 => Qj 2 (q4) (⟨rfl, fun q5 => Qj 2 (q5) (⟨rfl, fun q6 => ⟨q6, ⟨q5, ⟨q6, ⟨q5, ⟨rfl, rfl⟩⟩⟩⟩⟩, fun q6 => ⟨q6, ⟨q5, ⟨q6, ⟨q5, ⟨rfl, rfl⟩⟩⟩⟩⟩⟩), fun q5 => noN_ok 4 (q5) (⟨rfl, ⟨rfl, fun q6 => Qj 2 (q6) (⟨rfl, rfl⟩), fun q6 => noN_ok 2 (q6) (⟨rfl, rfl⟩)⟩⟩)⟩), fun q4 => noN_ok 2 (q4) (noN_ok 6 (rfl) (⟨rfl, fun q5 => Qj 2 (q5) (⟨rfl, rfl⟩), fun q5 => noN_ok 2 (q5) (⟨rfl, rfl⟩)⟩))⟩), fun q3 => noN_ok 2 (q3) (Qj 3 (rfl) (⟨rfl, fun q4 => Qj 2 (q4) (⟨rfl, fun q5 => ⟨q5, ⟨q4, ⟨q5, ⟨q4, ⟨rfl, rfl⟩⟩⟩⟩⟩, fun q5 => ⟨q5, ⟨q4, ⟨q5, ⟨q4, ⟨rfl, rfl⟩⟩⟩⟩⟩⟩), fun q4 => noN_ok 4 (q4) (⟨rfl, ⟨rfl, fun q5 => Qj 2 (q5) (⟨rfl, rfl⟩), fun q5 => noN_ok 2 (q5) (⟨rfl, rfl⟩)⟩⟩)⟩))⟩)⟩, fun q1 => trivial⟩, fun q0 => rfl⟩
def V5.s (k : Nat) : Qv → Option (Bool ⊕ Bool) := iter (FC ) k
theorem Qsd (w : Cf) (k : Nat) (a : Qv) (r : (Bool ⊕ Bool)) (h : V5.s k a = some r) : loopsF pp G.kd w 0 (G.an 83) k (loopAt pp 83 5) (Ur a) = some (XR r) :=
  Va (fun a => Qdz pp w a) (fun _ => rfl) (fun a => Qto w a) (fun a => Qtp _ w _ a) (fun r => by cases r <;> nofun) h
noncomputable def V5.w : Qv → Option (Bool ⊕ Bool) := loopW (FC )
theorem V5.cv (a : Qv) : Cv (fun k => V5.s k a) (V5.w a) := Cv.iter (fun a => by exact .const _) a
def QaS (L0 : PQ) (a0 : ByteArray) : Option Bool := (bif (decide (((a0.size : Nat) : Int) < 1)) then (some false) else (bif (decide (((a0.size : Nat) : Int) > 12)) then (some false) else (bif (decide (0 ≤ (0 : Int) ∧ (0 : Int) < ((a0.size : Nat) : Int))) then (bif (((a0.data.getD (Int.toNat 0) 0).toNat : Int) == 114) then ((L0 (Qv.mk a0 (decide (((a0.size : Nat) : Int) > 1)) (0 : Int))).bind fun x => Sum.elim (fun (o1 : Bool) => (some o1)) (fun (o2 : Bool) => (some (!o2))) x) else ((L0 (Qv.mk a0 false (0 : Int))).bind fun x => Sum.elim (fun (o3 : Bool) => (some o3)) (fun (o4 : Bool) => (some (!o4))) x)) else none)))
def QhZ (P : Pg) (w : Cf) (L0 : PQ) (a0 : ByteArray) : Tr Bool AH := (let u37 := (decide ((zz a0) < 1)); .as u37 (yesN 3 u37 (.yes true (rt Pm false))) (noN 3 u37 (.as (decide ((zz a0) > 12)) (rt Pm false) (.as (in1 i0 (zz a0)) (let u36 := ((gb a0 i0) == 114); .as u36 (yesN 3 u36 (.loop2 (loopAt P 83 5) (Ur (Qv.mk a0 (decide ((zz a0) > 1)) i0)) (L0 (Qv.mk a0 (decide ((zz a0) > 1)) i0)) Qf7 Qf8 (fun (o1 : Bool) => (rt Pm o1)) (fun (o2 : Bool) => (rt Pm (!o2))))) (noN 3 u36 (.loop2 (loopAt P 83 5) (Ur (Qv.mk a0 false i0)) (L0 (Qv.mk a0 false i0)) Qf7 Qf8 (fun (o3 : Bool) => (rt Pm o3)) (fun (o4 : Bool) => (rt Pm (!o4)))))) .fail))))
theorem QxH (w : Cf) (L0 : PQ) (a0 : ByteArray) : (QhZ pp w L0 a0).norm (bodyT pp w G 83 (QhY a0).1 (QhY a0).2) = QhZ pp w L0 a0 := by kernel_rfl
theorem QxI (P : Pg) (w : Cf) (lp : Lo) (L0 : PQ) (N0 : QuW P lp L0) (a0 : ByteArray) : (QhZ P w L0 a0).ok lp Pm := ⟨rfl, fun q0 => Qj 3 (q0) (⟨rfl, rfl⟩), fun q0 => noN_ok 3 (q0) (⟨rfl, fun q1 => rfl, fun q1 => ⟨rfl, fun q2 => ⟨rfl, fun q3 => Qj 3 (q3) (⟨fun o1 ho1 => ⟨N0 _ (.inl _) ho1, rfl⟩, fun o2 ho2 => ⟨N0 _ (.inr _) ho2, rfl⟩⟩), fun q3 => noN_ok 3 (q3) (⟨fun o3 ho3 => ⟨N0 _ (.inl _) ho3, rfl⟩, fun o4 ho4 => ⟨N0 _ (.inr _) ho4, rfl⟩⟩)⟩, fun q2 => trivial⟩⟩)⟩
theorem QxJ {L0 : Nat → PQ} {M0 : PQ} (N0 : Cv1 L0 M0) (a0 : ByteArray) : Cv (fun k => QaS (L0 k) a0) (QaS M0 a0) := by
  unfold QaS
  exact .cond cst (.cond cst (.cond (.cond (.bind (N0 _) fun x => .sum (fun o1 => by exact .const _) (fun o2 => by exact .const _) x) (.bind (N0 _) fun x => .sum (fun o3 => by exact .const _) (fun o4 => by exact .const _) x)) cst))
def Gi.s : Nat → ByteArray → Option Bool
  | 0, _ => none
  | k + 1, a0 => QaS (V5.s k) a0
theorem Gi.ok : ∀ (k : Nat), Qtn (ev k) (Gi.s k)
  | 0, _, _, h => (nomatch h)
  | k + 1, a0, r, h => fn_ok rfl (QhZ pp (ev k) (V5.s k) a0) (QxH _ _ a0) (QxI _ _ _ _ (Qsd _ k) a0) h
noncomputable def V5 : Qv → Option (Bool ⊕ Bool) := V5.w
theorem V5.eq (a : Qv) : V5 a = (FC a).bind (Sum.elim V5 some) := UN _ _
noncomputable def Gi (a0 : ByteArray) : Option Bool := QaS V5 a0
theorem Gi.cv (a0 : ByteArray) : Cv (fun k => Gi.s k a0) (Gi a0) := .un rfl (QxJ (V5.cv) a0)
theorem Gi.eq (a0 : ByteArray) : Gi a0 = QaS V5 a0 := rfl
def Qau (r : Int) : AV × Heap := (.sc (.int .i64 r), [])
def UA.s : Nat → ByteArray → Int → Option Int
  | 0, _, _ => none
  | _ + 1, a0, a1 => indexByteS a0 a1
theorem UA.ok : ∀ (k : Nat), ∀ (a0 : ByteArray) (a1 : Int) (r : Int), UA.s k a0 a1 = some r → evalFn pp G k 70 [.sc (.string a0), .sc (.int .u8 a1)] [] = some (Qau r)
  | 0, _, _, _, h => (nomatch h)
  | k + 1, a0, a1, r, h => Qtc h
abbrev Yt := ByteArray → Int → Option Int
abbrev Qet (a0 : ByteArray) (a1 : Int) : List AV × Heap := ([xs a0, xb a1], [])
abbrev Qeu (w : Cf) (a0 : ByteArray) (a1 : Int) : Option AH := w 70 (Qet a0 a1).1 (Qet a0 a1).2
abbrev Qmg (w : Cf) (c : Yt) : Prop := ∀ (a0 : ByteArray) (a1 : Int) (r : Int), c a0 a1 = some r → Qeu w a0 a1 = some (Qau r)
noncomputable def UA (a0 : ByteArray) (a1 : Int) : Option Int := indexByteS a0 a1
theorem UA.mono (k : Nat) (a0 : ByteArray) (a1 : Int) : Le (UA.s k a0 a1) (UA.s (k + 1) a0 a1) := by
  cases k with
  | zero => exact fun r h => nomatch h
  | succ k => exact Le.refl _
theorem UA.cv (a0 : ByteArray) (a1 : Int) : Cv (fun k => UA.s k a0 a1) (UA a0 a1) := ⟨fun k => UA.mono k a0 a1, fun r => ⟨fun h => ⟨1, h⟩, fun ⟨k, h⟩ => by
  cases k with
  | zero => cases h
  | succ k => exact h⟩⟩
def YU (r : ByteArray) : AV × Heap := (.sc (.string r), [])
def Jg.s : Nat → ByteArray → ByteArray → Option ByteArray
  | 0, _, _ => none
  | _ + 1, a0, a1 => trimS2 a0 a1
theorem Jg.ok : ∀ (k : Nat), ∀ (a0 : ByteArray) (a1 : ByteArray) (r : ByteArray), Jg.s k a0 a1 = some r → evalFn pp G k 74 [.sc (.string a0), .sc (.string a1)] [] = some (YU r)
  | 0, _, _, _, h => (nomatch h)
  | k + 1, a0, a1, r, h => QzO h
abbrev Jt := ByteArray → ByteArray → Option ByteArray
abbrev Qju (a0 : ByteArray) (a1 : ByteArray) : List AV × Heap := ([xs a0, xs a1], [])
abbrev ZH (w : Cf) (a0 : ByteArray) (a1 : ByteArray) : Option AH := w 74 (Qju a0 a1).1 (Qju a0 a1).2
abbrev Qak (w : Cf) (c : Jt) : Prop := ∀ (a0 : ByteArray) (a1 : ByteArray) (r : ByteArray), c a0 a1 = some r → ZH w a0 a1 = some (YU r)
noncomputable def Jg (a0 : ByteArray) (a1 : ByteArray) : Option ByteArray := trimS2 a0 a1
theorem Jg.mono (k : Nat) (a0 : ByteArray) (a1 : ByteArray) : Le (Jg.s k a0 a1) (Jg.s (k + 1) a0 a1) := by
  cases k with
  | zero => exact fun r h => nomatch h
  | succ k => exact Le.refl _
theorem Jg.cv (a0 : ByteArray) (a1 : ByteArray) : Cv (fun k => Jg.s k a0 a1) (Jg a0 a1) := ⟨fun k => Jg.mono k a0 a1, fun r => ⟨fun h => ⟨1, h⟩, fun ⟨k, h⟩ => by
  cases k with
  | zero => cases h
  | succ k => exact h⟩⟩
def Qe8 (r : ByteArray) : AV × Heap := (xs r, [])
abbrev SP := ByteArray → Option ByteArray
abbrev Qe9 (a0 : ByteArray) : List AV × Heap := ([xs a0], [])
abbrev Qog (w : Cf) (a0 : ByteArray) : Option AH := w 71 (Qe9 a0).1 (Qe9 a0).2
abbrev QpE (w : Cf) (c : SP) : Prop := ∀ (a0 : ByteArray) (r : ByteArray), c a0 = some r → Qog w a0 = some (Qe8 r)
structure Jr where
  x0 : ByteArray
  x3 : Bool
  x4 : Int
def YV (a : Jr) : St := { n := 31, nx := 0, env := [(0, xs a.x0), (3, xo a.x3), (4, xi a.x4)], heap := [] }
def Fp (a : ByteArray) : Ex × St := (.ret, { n := 31, nx := 0, env := [(2, xs a)], heap := [] })
abbrev EH := Jr → Option ByteArray
abbrev Qse (P : Pg) (lp : Lo) (l : EH) : Prop := ∀ (a : Jr) (r : ByteArray), l a = some r → lp (loopAt P 71 3) (YV a) = some (Fp r)
def ZI (C0 : Jt) (a : Jr) : Option (Jr ⊕ ByteArray) := (bif (a.x4 == ((a.x0.size : Nat) : Int)) then (bif (decide (0 ≤ (0 : Int) ∧ (0 : Int) ≤ a.x4 ∧ a.x4 ≤ ((a.x0.size : Nat) : Int))) then ((C0 (a.x0.extract (Int.toNat 0) (Int.toNat a.x4)) Yj).bind fun r1 => (some (.inr r1))) else none) else (bif (decide (0 ≤ a.x4 ∧ a.x4 < ((a.x0.size : Nat) : Int))) then (bif (((a.x0.data.getD (Int.toNat a.x4) 0).toNat : Int) == 35) then (bif (!a.x3) then (bif (decide (0 ≤ (0 : Int) ∧ (0 : Int) ≤ a.x4 ∧ a.x4 ≤ ((a.x0.size : Nat) : Int))) then ((C0 (a.x0.extract (Int.toNat 0) (Int.toNat a.x4)) Yj).bind fun r2 => (some (.inr r2))) else none) else (bif (((a.x0.data.getD (Int.toNat a.x4) 0).toNat : Int) == 34) then (some (.inl (Jr.mk a.x0 (!a.x3) (w64 (a.x4 + 1))))) else (some (.inl (Jr.mk a.x0 a.x3 (w64 (a.x4 + 1))))))) else (bif (((a.x0.data.getD (Int.toNat a.x4) 0).toNat : Int) == 34) then (some (.inl (Jr.mk a.x0 (!a.x3) (w64 (a.x4 + 1))))) else (some (.inl (Jr.mk a.x0 a.x3 (w64 (a.x4 + 1))))))) else none))
def Qbr (P : Pg) (w : Cf) (C0 : Jt) (a : Jr) : Tr (Jr ⊕ ByteArray) XS := (let u40 := (a.x4 == (zz a.x0)); .as u40 (yesN 6 u40 (.yes true (.as (in2 i0 a.x4 (zz a.x0)) (.call (ZH w (cu a.x0 i0 a.x4) Yj) (C0 (cu a.x0 i0 a.x4) Yj) YU fun r1 => (rx Fp r1)) .fail))) (noN 2 u40 (let u39 := (in1 a.x4 (zz a.x0)); .as u39 (noN 2 u40 (let u38 := ((gb a.x0 a.x4) == 35); .as u38 (.yes u38 (.no u40 (.yes u38 (.no u40 (.as (!a.x3) (.as (in2 i0 a.x4 (zz a.x0)) (.call (ZH w (cu a.x0 i0 a.x4) Yj) (C0 (cu a.x0 i0 a.x4) Yj) YU fun r2 => (rx Fp r2)) .fail) (.yes u39 (.as ((gb a.x0 a.x4) == 34) (lf YV (Jr.mk a.x0 (!a.x3) (w64 (a.x4 + 1)))) (lf YV (Jr.mk a.x0 a.x3 (w64 (a.x4 + 1))))))))))) (.no u38 (.no u40 (.no u38 (.no u40 (.no false (.yes u39 (.as ((gb a.x0 a.x4) == 34) (lf YV (Jr.mk a.x0 (!a.x3) (w64 (a.x4 + 1)))) (lf YV (Jr.mk a.x0 a.x3 (w64 (a.x4 + 1))))))))))))) .fail)))
theorem QqA (w : Cf) (C0 : Jt) (a : Jr) : (Qbr pp w C0 a).norm (roundT pp G.kd w 0 (G.an 71) (loopAt pp 71 3) (YV a)) = Qbr pp w C0 a := by kernel_rfl
theorem QqB (P : Pg) (w : Cf) (lp : Lo) (C0 : Jt) (K0 : Qak w C0) (a : Jr) : (Qbr P w C0 a).ok lp (Sum.elim (fun a => (.norm, YV a)) Fp) := ⟨rfl, fun q0 => Qj 6 (q0) (⟨rfl, ⟨rfl, fun q1 => fun r1 hr1 => ⟨K0 _ _ _ hr1, rfl⟩, fun q1 => trivial⟩⟩), fun q0 => noN_ok 2 (q0) (⟨rfl, fun q1 => noN_ok 2 (q0) (⟨rfl, fun q2 => ⟨q2, ⟨q0, ⟨q2, ⟨q0, ⟨rfl, fun q3 => ⟨rfl, fun q4 => fun r2 hr2 => ⟨K0 _ _ _ hr2, rfl⟩, fun q4 => trivial⟩, fun q3 => ⟨q1, ⟨rfl, fun q4 => rfl, fun q4 => rfl⟩⟩⟩⟩⟩⟩⟩, fun q2 => ⟨q2, ⟨q0, ⟨q2, ⟨q0, ⟨rfl, ⟨q1, ⟨rfl, fun q3 => rfl, fun q3 => rfl⟩⟩⟩⟩⟩⟩⟩⟩), fun q1 => trivial⟩)⟩
theorem QqC {C0 : Nat → Jt} {D0 : Jt} (H0 : Cv2 C0 D0) (a : Jr) : Cv (fun k => ZI (C0 k) a) (ZI D0 a) := by
  unfold ZI
  exact .cond (.cond (.bind (H0 _ _) fun r1 => by exact .const _) cst) (.cond (.cond (.cond (.cond (.bind (H0 _ _) fun r2 => by exact .const _) cst) cst) cst) cst)
def Vh.s (k : Nat) (C0 : Jt) : Jr → Option ByteArray := iter (ZI C0) k
theorem QpF (w : Cf) (k : Nat) (C0 : Jt) (K0 : Qak w C0) (a : Jr) (r : ByteArray) (h : Vh.s k C0 a = some r) : loopsF pp G.kd w 0 (G.an 71) k (loopAt pp 71 3) (YV a) = some (Fp r) :=
  Va (fun a => Qbr pp w C0 a) (fun _ => rfl) (fun a => QqA w _ a) (fun a => QqB _ w _ _ K0 a) (fun r => nofun) h
noncomputable def Vh.w (C0 : Jt) : Jr → Option ByteArray := loopW (ZI C0)
theorem Vh.cv (C0 : Nat → Jt) (D0 : Jt) (H0 : Cv2 C0 D0) (a : Jr) : Cv (fun k => Vh.s k (C0 k) a) (Vh.w D0 a) := Cv.iter (fun a => QqC H0 a) a
def PT (L0 : EH) (a0 : ByteArray) : Option ByteArray := ((L0 (Jr.mk a0 false (0 : Int))).bind (fun (o1 : ByteArray) => (some o1)))
def Qfa (P : Pg) (w : Cf) (L0 : EH) (a0 : ByteArray) : Tr ByteArray AH := (.loop (loopAt P 71 3) (YV (Jr.mk a0 false i0)) (L0 (Jr.mk a0 false i0)) Fp (fun (o1 : ByteArray) => (rt Qe8 o1)))
theorem QuX (w : Cf) (L0 : EH) (a0 : ByteArray) : (Qfa pp w L0 a0).norm (bodyT pp w G 71 (Qe9 a0).1 (Qe9 a0).2) = Qfa pp w L0 a0 := by kernel_rfl
theorem QuY (P : Pg) (w : Cf) (lp : Lo) (L0 : EH) (N0 : Qse P lp L0) (a0 : ByteArray) : (Qfa P w L0 a0).ok lp Qe8 := fun o1 ho1 => ⟨N0 _ _ ho1, rfl⟩
theorem QuZ {L0 : Nat → EH} {M0 : EH} (N0 : Cv1 L0 M0) (a0 : ByteArray) : Cv (fun k => PT (L0 k) a0) (PT M0 a0) := by
  unfold PT
  exact .bind (N0 _) (fun o1 => by exact .const _)
def XZ.s : Nat → ByteArray → Option ByteArray
  | 0, _ => none
  | k + 1, a0 => PT (Vh.s k (Jg.s k)) a0
theorem XZ.ok : ∀ (k : Nat), QpE (ev k) (XZ.s k)
  | 0, _, _, h => (nomatch h)
  | k + 1, a0, r, h => fn_ok rfl (Qfa pp (ev k) (Vh.s k (Jg.s k)) a0) (QuX _ _ a0) (QuY _ _ _ _ (QpF _ k _ (Jg.ok k)) a0) h
noncomputable def Vh : Jr → Option ByteArray := Vh.w Jg
theorem Vh.eq (a : Jr) : Vh a = (ZI Jg a).bind (Sum.elim Vh some) := UN _ _
noncomputable def XZ (a0 : ByteArray) : Option ByteArray := PT Vh a0
theorem XZ.cv (a0 : ByteArray) : Cv (fun k => XZ.s k a0) (XZ a0) := .un rfl (QuZ (Vh.cv (fun k => Jg.s k) Jg Jg.cv) a0)
theorem XZ.eq (a0 : ByteArray) : XZ a0 = PT Vh a0 := rfl
def QaT (r : Bool) : AV × Heap := (xo r, [])
abbrev YM := Int → Option Bool
abbrev QdA (a0 : Int) : List AV × Heap := ([xb a0], [])
abbrev Qmh (w : Cf) (a0 : Int) : Option AH := w 75 (QdA a0).1 (QdA a0).2
abbrev QiL (w : Cf) (c : YM) : Prop := ∀ (a0 : Int) (r : Bool), c a0 = some r → Qmh w a0 = some (QaT r)
def QdB (a0 : Int) : Option Bool := (bif (a0 != 32) then (some (a0 != 9)) else (some false))
def QdC (P : Pg) (w : Cf) (a0 : Int) : Tr Bool AH := (let u41 := (a0 != 32); .as u41 (yesN 2 u41 (rt QaT (a0 != 9))) (noN 2 u41 (rt QaT false)))
theorem Qtq (w : Cf) (a0 : Int) : (QdC pp w a0).norm (bodyT pp w G 75 (QdA a0).1 (QdA a0).2) = QdC pp w a0 := by kernel_rfl
theorem Qtr (P : Pg) (w : Cf) (lp : Lo) (a0 : Int) : (QdC P w a0).ok lp QaT := ⟨rfl, fun q0 => Qj 2 (q0) (rfl), fun q0 => noN_ok 2 (q0) (rfl)⟩
def WD.s : Nat → Int → Option Bool
  | 0, _ => none
  | k + 1, a0 => QdB a0
theorem WD.ok : ∀ (k : Nat), QiL (ev k) (WD.s k)
  | 0, _, _, h => (nomatch h)
  | k + 1, a0, r, h => fn_ok rfl (QdC pp (ev k) a0) (Qtq _ a0) (Qtr _ _ _ a0) h
noncomputable def WD (a0 : Int) : Option Bool := QdB a0
theorem WD.cv (a0 : Int) : Cv (fun k => WD.s k a0) (WD a0) := .un rfl (by exact .const _)
theorem WD.eq (a0 : Int) : WD a0 = QdB a0 := rfl
def Fq (r : Int) : AV × Heap := (xi r, [])
abbrev EI := ByteArray → Option Int
abbrev Qbs (a0 : ByteArray) : List AV × Heap := ([xs a0, .fn (.func 75) [] []], [])
abbrev Qbt (w : Cf) (a0 : ByteArray) : Option AH := w 72 (Qbs a0).1 (Qbs a0).2
abbrev Qk1 (w : Cf) (c : EI) : Prop := ∀ (a0 : ByteArray) (r : Int), c a0 = some r → Qbt w a0 = some (Fq r)
structure JA where
  x0 : ByteArray
  x5 : Int
def Gj (a : JA) : St := { n := 20, nx := 0, env := [(0, xs a.x0), (1, .fn (.func 75) [] []), (5, xi a.x5)], heap := [] }
def Gk (a : Int) : Ex × St := (.exit 0, { n := 20, nx := 0, env := [(5, xi a)], heap := [] })
abbrev Zw := JA → Option Int
abbrev QoG (P : Pg) (lp : Lo) (l : Zw) : Prop := ∀ (a : JA) (r : Int), l a = some r → lp (loopAt P 72 2) (Gj a) = some (Gk r)
def Y4 (C0 : YM) (a : JA) : Option (JA ⊕ Int) := (bif (decide (a.x5 < ((a.x0.size : Nat) : Int))) then (bif (decide (0 ≤ a.x5 ∧ a.x5 < ((a.x0.size : Nat) : Int))) then ((C0 ((a.x0.data.getD (Int.toNat a.x5) 0).toNat : Int)).bind fun r1 => (bif r1 then (some (.inl (JA.mk a.x0 (w64 (a.x5 + 1))))) else (some (.inr a.x5)))) else none) else (some (.inr a.x5)))
def Sf (P : Pg) (w : Cf) (C0 : YM) (a : JA) : Tr (JA ⊕ Int) XS := (let u42 := (decide (a.x5 < (zz a.x0))); .as u42 (yesN 3 u42 (.as (in1 a.x5 (zz a.x0)) (.yes u42 (.call (Qmh w (gb a.x0 a.x5)) (C0 (gb a.x0 a.x5)) QaT fun r1 => (.yes u42 (.as r1 (lf Gj (JA.mk a.x0 (w64 (a.x5 + 1)))) (rx Gk a.x5))))) .fail)) (noN 5 u42 (.no false (rx Gk a.x5))))
theorem QnL (w : Cf) (C0 : YM) (a : JA) : (Sf pp w C0 a).norm (roundT pp G.kd w 0 (G.an 72) (loopAt pp 72 2) (Gj a)) = Sf pp w C0 a := by kernel_rfl
theorem QnM (P : Pg) (w : Cf) (lp : Lo) (C0 : YM) (K0 : QiL w C0) (a : JA) : (Sf P w C0 a).ok lp (Sum.elim (fun a => (.norm, Gj a)) Gk) := ⟨rfl, fun q0 => Qj 3 (q0) (⟨rfl, fun q1 => ⟨q0, fun r1 hr1 => ⟨K0 _ _ hr1, ⟨q0, ⟨rfl, fun q2 => rfl, fun q2 => rfl⟩⟩⟩⟩, fun q1 => trivial⟩), fun q0 => noN_ok 5 (q0) (⟨rfl, rfl⟩)⟩
theorem QnN {C0 : Nat → YM} {D0 : YM} (H0 : Cv1 C0 D0) (a : JA) : Cv (fun k => Y4 (C0 k) a) (Y4 D0 a) := by
  unfold Y4
  exact .cond (.cond (.bind (H0 _) fun r1 => by exact .const _) cst) cst
def Ve.s (k : Nat) (C0 : YM) : JA → Option Int := iter (Y4 C0) k
theorem Qmi (w : Cf) (k : Nat) (C0 : YM) (K0 : QiL w C0) (a : JA) (r : Int) (h : Ve.s k C0 a = some r) : loopsF pp G.kd w 0 (G.an 72) k (loopAt pp 72 2) (Gj a) = some (Gk r) :=
  Va (fun a => Sf pp w C0 a) (fun _ => rfl) (fun a => QnL w _ a) (fun a => QnM _ w _ _ K0 a) (fun r => nofun) h
noncomputable def Ve.w (C0 : YM) : JA → Option Int := loopW (Y4 C0)
theorem Ve.cv (C0 : Nat → YM) (D0 : YM) (H0 : Cv1 C0 D0) (a : JA) : Cv (fun k => Ve.s k (C0 k) a) (Ve.w D0 a) := Cv.iter (fun a => QnN H0 a) a
def GL (L0 : Zw) (a0 : ByteArray) : Option Int := ((L0 (JA.mk a0 (0 : Int))).bind (fun (o1 : Int) => (some o1)))
def Qbu (P : Pg) (w : Cf) (L0 : Zw) (a0 : ByteArray) : Tr Int AH := (.loop (loopAt P 72 2) (Gj (JA.mk a0 i0)) (L0 (JA.mk a0 i0)) Gk (fun (o1 : Int) => (rt Fq o1)))
theorem QqD (w : Cf) (L0 : Zw) (a0 : ByteArray) : (Qbu pp w L0 a0).norm (bodyT pp w G 72 (Qbs a0).1 (Qbs a0).2) = Qbu pp w L0 a0 := by kernel_rfl
theorem QqE (P : Pg) (w : Cf) (lp : Lo) (L0 : Zw) (N0 : QoG P lp L0) (a0 : ByteArray) : (Qbu P w L0 a0).ok lp Fq := fun o1 ho1 => ⟨N0 _ _ ho1, rfl⟩
theorem QqF {L0 : Nat → Zw} {M0 : Zw} (N0 : Cv1 L0 M0) (a0 : ByteArray) : Cv (fun k => GL (L0 k) a0) (GL M0 a0) := by
  unfold GL
  exact .bind (N0 _) (fun o1 => by exact .const _)
def VE.s : Nat → ByteArray → Option Int
  | 0, _ => none
  | k + 1, a0 => GL (Ve.s k (WD.s k)) a0
theorem VE.ok : ∀ (k : Nat), Qk1 (ev k) (VE.s k)
  | 0, _, _, h => (nomatch h)
  | k + 1, a0, r, h => fn_ok rfl (Qbu pp (ev k) (Ve.s k (WD.s k)) a0) (QqD _ _ a0) (QqE _ _ _ _ (Qmi _ k _ (WD.ok k)) a0) h
noncomputable def Ve : JA → Option Int := Ve.w WD
theorem Ve.eq (a : JA) : Ve a = (Y4 WD a).bind (Sum.elim Ve some) := UN _ _
noncomputable def VE (a0 : ByteArray) : Option Int := GL Ve a0
theorem VE.cv (a0 : ByteArray) : Cv (fun k => VE.s k a0) (VE a0) := .un rfl (QqF (Ve.cv (fun k => WD.s k) WD WD.cv) a0)
theorem VE.eq (a0 : ByteArray) : VE a0 = GL Ve a0 := rfl
def QdD (r : (List ByteArray)) : AV × Heap := (.arr 0, [(0, .arr false 1 (Qh r))])
def Vz.s : Nat → ByteArray → ByteArray → Option (List ByteArray)
  | 0, _, _ => none
  | _ + 1, a0, a1 => splitS a0 a1
theorem Vz.ok : ∀ (k : Nat), ∀ (a0 : ByteArray) (a1 : ByteArray) (r : (List ByteArray)), Vz.s k a0 a1 = some r → evalFn pp G k 79 [.sc (.string a0), .sc (.string a1)] [] = some (QdD r)
  | 0, _, _, _, h => (nomatch h)
  | k + 1, a0, a1, r, h => QyL h
abbrev GM := ByteArray → ByteArray → Option (List ByteArray)
abbrev Qh0 (a0 : ByteArray) (a1 : ByteArray) : List AV × Heap := ([xs a0, xs a1], [])
abbrev Qh1 (w : Cf) (a0 : ByteArray) (a1 : ByteArray) : Option AH := w 79 (Qh0 a0 a1).1 (Qh0 a0 a1).2
abbrev QqG (w : Cf) (c : GM) : Prop := ∀ (a0 : ByteArray) (a1 : ByteArray) (r : (List ByteArray)), c a0 a1 = some r → Qh1 w a0 a1 = some (QdD r)
noncomputable def Vz (a0 : ByteArray) (a1 : ByteArray) : Option (List ByteArray) := splitS a0 a1
theorem Vz.mono (k : Nat) (a0 : ByteArray) (a1 : ByteArray) : Le (Vz.s k a0 a1) (Vz.s (k + 1) a0 a1) := by
  cases k with
  | zero => exact fun r h => nomatch h
  | succ k => exact Le.refl _
theorem Vz.cv (a0 : ByteArray) (a1 : ByteArray) : Cv (fun k => Vz.s k a0 a1) (Vz a0 a1) := ⟨fun k => Vz.mono k a0 a1, fun r => ⟨fun h => ⟨1, h⟩, fun ⟨k, h⟩ => by
  cases k with
  | zero => cases h
  | succ k => exact h⟩⟩
def Pn (r : (List ByteArray)) : AV × Heap := (.sl (Qh r), [])
abbrev GN := ByteArray → Option (List ByteArray)
abbrev Qax (a0 : ByteArray) : List AV × Heap := ([xs a0], [])
abbrev Qh2 (w : Cf) (a0 : ByteArray) : Option AH := w 123 (Qax a0).1 (Qax a0).2
abbrev Qjv (w : Cf) (c : GN) : Prop := ∀ (a0 : ByteArray) (r : (List ByteArray)), c a0 = some r → Qh2 w a0 = some (Pn r)
structure Jq where
  x10 : Int
  x11 : Int
  r0 : (List ByteArray)
def ZJ (a : Jq) : St := { n := 24, nx := 1, env := [(3, .arr 0), (10, xi a.x10), (11, xi a.x11)], heap := [(0, .arr false 1 (Qh a.r0))] }
def Ej (a : (List ByteArray)) : Ex × St := (.exit 0, { n := 24, nx := 1, env := [(3, .arr 0)], heap := [(0, .arr false 1 (Qh a))] })
abbrev Y5 := Jq → Option (List ByteArray)
abbrev QnO (P : Pg) (lp : Lo) (l : Y5) : Prop := ∀ (a : Jq) (r : (List ByteArray)), l a = some r → lp (loopAt P 123 5) (ZJ a) = some (Ej r)
def Xw (C0 : Jt) (a : Jq) : Option (Jq ⊕ (List ByteArray)) := (bif (decide (a.x11 < a.x10)) then (bif (decide (0 ≤ a.x11 ∧ a.x11 < ((a.r0.length : Nat) : Int))) then ((a.r0[(Int.toNat a.x11)]?).bind fun e1 => ((C0 e1 Yj).bind fun r2 => ((a.r0[(Int.toNat a.x11)]?).bind fun e3 => (some (.inl (Jq.mk a.x10 (w64 (a.x11 + 1)) (a.r0.set (Int.toNat a.x11) r2))))))) else none) else (some (.inr a.r0)))
def Po (P : Pg) (w : Cf) (C0 : Jt) (a : Jq) : Tr (Jq ⊕ (List ByteArray)) XS := (.as (decide (a.x11 < a.x10)) (let u43 := (in1 a.x11 (((Qh a.r0).length : Nat) : Int)); .ask u43 (in1 a.x11 ((a.r0.length : Nat) : Int)) (.row ((Qh a.r0)[(Int.toNat a.x11)]?) (a.r0[(Int.toNat a.x11)]?) JL fun (e1 : ByteArray) => (.call (ZH w e1 Yj) (C0 e1 Yj) YU fun r2 => (.yes u43 (.row ((Qh a.r0)[(Int.toNat a.x11)]?) (a.r0[(Int.toNat a.x11)]?) JL fun (e3 : ByteArray) => (.rows ((Qh a.r0).set (Int.toNat a.x11) [xs r2]) (Qh (a.r0.set (Int.toNat a.x11) r2)) (lf ZJ (Jq.mk a.x10 (w64 (a.x11 + 1)) (a.r0.set (Int.toNat a.x11) r2)))))))) .fail) (rx Ej a.r0))
theorem Qmj (w : Cf) (C0 : Jt) (a : Jq) : (Po pp w C0 a).norm (roundT pp G.kd w 0 (G.an 123) (loopAt pp 123 5) (ZJ a)) = Po pp w C0 a := by kernel_rfl
theorem Qmk (P : Pg) (w : Cf) (lp : Lo) (C0 : Jt) (K0 : Qak w C0) (a : Jq) : (Po P w C0 a).ok lp (Sum.elim (fun a => (.norm, ZJ a)) Ej) := ⟨rfl, fun q0 => ⟨(by rw [QJ]), fun q1 => fun e1 h => ⟨Jo h, fun r2 hr2 => ⟨K0 _ _ _ hr2, ⟨(show (decide (0 ≤ a.x11 ∧ a.x11 < (((Qh a.r0).length : Nat) : Int))) = (decide (0 ≤ a.x11 ∧ a.x11 < ((a.r0.length : Nat) : Int))) from (by rw [QJ])).trans q1, fun e3 h => ⟨Jo h, ⟨(Qtd a.r0 (Int.toNat a.x11) r2), rfl⟩⟩⟩⟩⟩, fun q1 => trivial⟩, fun q0 => rfl⟩
theorem Qml {C0 : Nat → Jt} {D0 : Jt} (H0 : Cv2 C0 D0) (a : Jq) : Cv (fun k => Xw (C0 k) a) (Xw D0 a) := by
  unfold Xw
  exact .cond (.cond (.bind (.const _) fun e1 => .bind (H0 _ _) fun r2 => by exact .const _) cst) cst
def Uk.s (k : Nat) (C0 : Jt) : Jq → Option (List ByteArray) := iter (Xw C0) k
theorem Qln (w : Cf) (k : Nat) (C0 : Jt) (K0 : Qak w C0) (a : Jq) (r : (List ByteArray)) (h : Uk.s k C0 a = some r) : loopsF pp G.kd w 0 (G.an 123) k (loopAt pp 123 5) (ZJ a) = some (Ej r) :=
  Va (fun a => Po pp w C0 a) (fun _ => rfl) (fun a => Qmj w _ a) (fun a => Qmk _ w _ _ K0 a) (fun r => nofun) h
noncomputable def Uk.w (C0 : Jt) : Jq → Option (List ByteArray) := loopW (Xw C0)
theorem Uk.cv (C0 : Nat → Jt) (D0 : Jt) (H0 : Cv2 C0 D0) (a : Jq) : Cv (fun k => Uk.s k (C0 k) a) (Uk.w D0 a) := Cv.iter (fun a => Qml H0 a) a
def Z3 (C0 : GM) (L1 : Y5) (a0 : ByteArray) : Option (List ByteArray) := (bif (eqS a0 s_) then (some ([] : List ByteArray)) else ((C0 a0 h_2c).bind fun r1 => ((L1 (Jq.mk (((r1.length) : Nat) : Int) (0 : Int) r1)).bind (fun (o2 : (List ByteArray)) => (some o2)))))
def Qay (P : Pg) (w : Cf) (C0 : GM) (L1 : Y5) (a0 : ByteArray) : Tr (List ByteArray) AH := (.as (eqS a0 s_) (rt Pn ([] : List ByteArray)) (.call (Qh1 w a0 h_2c) (C0 a0 h_2c) QdD fun r1 => (.num ((Qh r1).length) (r1.length) (.loop (loopAt P 123 5) (ZJ (Jq.mk (((r1.length) : Nat) : Int) i0 r1)) (L1 (Jq.mk (((r1.length) : Nat) : Int) i0 r1)) Ej (fun (o2 : (List ByteArray)) => (rt Pn o2))))))
theorem QpG (w : Cf) (C0 : GM) (L1 : Y5) (a0 : ByteArray) : (Qay pp w C0 L1 a0).norm (bodyT pp w G 123 (Qax a0).1 (Qax a0).2) = Qay pp w C0 L1 a0 := by kernel_rfl
theorem QpH (P : Pg) (w : Cf) (lp : Lo) (C0 : GM) (L1 : Y5) (K0 : QqG w C0) (N1 : QnO P lp L1) (a0 : ByteArray) : (Qay P w C0 L1 a0).ok lp Pn := ⟨rfl, fun q0 => rfl, fun q0 => fun r1 hr1 => ⟨K0 _ _ _ hr1, ⟨(QJ _), fun o2 ho2 => ⟨N1 _ _ ho2, rfl⟩⟩⟩⟩
theorem QpI {C0 : Nat → GM} {D0 : GM} (H0 : Cv2 C0 D0) {L1 : Nat → Y5} {M1 : Y5} (N1 : Cv1 L1 M1) (a0 : ByteArray) : Cv (fun k => Z3 (C0 k) (L1 k) a0) (Z3 D0 M1 a0) := by
  unfold Z3
  exact .cond cst (.bind (H0 _ _) fun r1 => .bind (N1 _) (fun o2 => by exact .const _))
def VV.s : Nat → ByteArray → Option (List ByteArray)
  | 0, _ => none
  | k + 1, a0 => Z3 (Vz.s k) (Uk.s k (Jg.s k)) a0
theorem VV.ok : ∀ (k : Nat), Qjv (ev k) (VV.s k)
  | 0, _, _, h => (nomatch h)
  | k + 1, a0, r, h => fn_ok rfl (Qay pp (ev k) (Vz.s k) (Uk.s k (Jg.s k)) a0) (QpG _ _ _ a0) (QpH _ _ _ _ _ (Vz.ok k) (Qln _ k _ (Jg.ok k)) a0) h
noncomputable def Uk : Jq → Option (List ByteArray) := Uk.w Jg
theorem Uk.eq (a : Jq) : Uk a = (Xw Jg a).bind (Sum.elim Uk some) := UN _ _
noncomputable def VV (a0 : ByteArray) : Option (List ByteArray) := Z3 Vz Uk a0
theorem VV.cv (a0 : ByteArray) : Cv (fun k => VV.s k a0) (VV a0) := .un rfl (QpI Vz.cv (Uk.cv (fun k => Jg.s k) Jg Jg.cv) a0)
theorem VV.eq (a0 : ByteArray) : VV a0 = Z3 Vz Uk a0 := rfl
def Qb0 (r : (List Qe)) : AV × Heap := (.sl (Ef r), [])
abbrev YW := Option (List Qe)
abbrev Qfb : List AV × Heap := ([], [])
abbrev QiM (w : Cf) : Option AH := w 139 (Qfb ).1 (Qfb ).2
abbrev Qkg (w : Cf) (c : YW) : Prop := ∀ (r : (List Qe)), c = some r → QiM w = some (Qb0 r)
def Qoh : Option (List Qe) := (some [(Qe.mk QaN (0 : Int) s_), (Qe.mk Qdn (1 : Int) s_), (Qe.mk Qjt (2 : Int) s_), (Qe.mk Qhh (4 : Int) s_), (Qe.mk QfD (6 : Int) s_), (Qe.mk Qhn (32 : Int) s_X), (Qe.mk Qhm (48 : Int) s_X), (Qe.mk QfG (128 : Int) s_X), (Qe.mk QfH (144 : Int) s_X), (Qe.mk Qdo (160 : Int) s_X), (Qe.mk Qdp (176 : Int) s_X), (Qe.mk Qdl (192 : Int) s_X), (Qe.mk Qdj (208 : Int) s_X), (Qe.mk Qdm (224 : Int) s_X), (Qe.mk Qdk (240 : Int) s_X), (Qe.mk Qjr (256 : Int) JG), (Qe.mk Qhf (1024 : Int) JG), (Qe.mk Qdq (1280 : Int) JG), (Qe.mk Qhr (1536 : Int) JG), (Qe.mk Qhi (3072 : Int) JG), (Qe.mk QfF (3328 : Int) JG), (Qe.mk QfB (8192 : Int) XD), (Qe.mk Qdi (8704 : Int) XD), (Qe.mk QfK (9216 : Int) XD), (Qe.mk QfE (10752 : Int) Us), (Qe.mk Qjs (17408 : Int) JG), (Qe.mk QfC (17664 : Int) JG), (Qe.mk Qhg (17920 : Int) JG), (Qe.mk Qjq (18432 : Int) Qdc), (Qe.mk Qdf (24576 : Int) Us), (Qe.mk Qdg (25600 : Int) Us), (Qe.mk Qdh (26112 : Int) Us), (Qe.mk QfJ (26624 : Int) Us), (Qe.mk QfI (27648 : Int) Us), (Qe.mk Qhj (32768 : Int) XU), (Qe.mk Qho (36864 : Int) XU), (Qe.mk Qhk (40960 : Int) XV), (Qe.mk Qhp (45056 : Int) XV), (Qe.mk Qhl (49152 : Int) XW), (Qe.mk Qhq (53248 : Int) XW), (Qe.mk Qjo (57344 : Int) Eg), (Qe.mk Qmc (59392 : Int) s_T8), (Qe.mk Qjp (59648 : Int) s_T8), (Qe.mk Qdd (469762048 : Int) Fz), (Qe.mk Qhc (402685952 : Int) Su), (Qe.mk Qhd (402702336 : Int) VN), (Qe.mk Qjj (402706432 : Int) VN), (Qe.mk Qhe (402710528 : Int) VN), (Qe.mk Qmb (1879048192 : Int) QaM), (Qe.mk Qjf (805306368 : Int) QC), (Qe.mk Qjk (872415232 : Int) QC), (Qe.mk Qjg (939524096 : Int) QC), (Qe.mk Qji (1342177280 : Int) QC), (Qe.mk Qjm (1409286144 : Int) QC), (Qe.mk Qjh (1476395008 : Int) QC), (Qe.mk Qjl (1543503872 : Int) QC), (Qe.mk Qpx (2013265920 : Int) Qch), (Qe.mk Qma (2013265921 : Int) Qch), (Qe.mk Ql9 (2046820352 : Int) VZ), (Qe.mk Qje (2046820353 : Int) VZ), (Qe.mk Qpv (2080375316 : Int) Wy), (Qe.mk Qmd (2080374864 : Int) Wy), (Qe.mk Qjn (2080375254 : Int) Wy), (Qe.mk Qpw (2080374840 : Int) Wx), (Qe.mk s_or (2080375672 : Int) Wx), (Qe.mk Qpy (2080375416 : Int) Wx)])
def Qfc (P : Pg) (w : Cf) : Tr (List Qe) AH := (.rows [[xs QaN, .sc (.int .u32 i0), xs s_], [xs Qdn, .sc (.int .u32 (zi 1)), xs s_], [xs Qjt, .sc (.int .u32 (zi 2)), xs s_], [xs Qhh, .sc (.int .u32 (zi 4)), xs s_], [xs QfD, .sc (.int .u32 (zi 6)), xs s_], [xs Qhn, .sc (.int .u32 (zi 32)), xs s_X], [xs Qhm, .sc (.int .u32 (zi 48)), xs s_X], [xs QfG, .sc (.int .u32 (zi 128)), xs s_X], [xs QfH, .sc (.int .u32 (zi 144)), xs s_X], [xs Qdo, .sc (.int .u32 (zi 160)), xs s_X], [xs Qdp, .sc (.int .u32 (zi 176)), xs s_X], [xs Qdl, .sc (.int .u32 (zi 192)), xs s_X], [xs Qdj, .sc (.int .u32 (zi 208)), xs s_X], [xs Qdm, .sc (.int .u32 (zi 224)), xs s_X], [xs Qdk, .sc (.int .u32 (zi 240)), xs s_X], [xs Qjr, .sc (.int .u32 (zi 256)), xs JG], [xs Qhf, .sc (.int .u32 (zi 1024)), xs JG], [xs Qdq, .sc (.int .u32 (zi 1280)), xs JG], [xs Qhr, .sc (.int .u32 (zi 1536)), xs JG], [xs Qhi, .sc (.int .u32 (zi 3072)), xs JG], [xs QfF, .sc (.int .u32 (zi 3328)), xs JG], [xs QfB, .sc (.int .u32 (zi 8192)), xs XD], [xs Qdi, .sc (.int .u32 (zi 8704)), xs XD], [xs QfK, .sc (.int .u32 (zi 9216)), xs XD], [xs QfE, .sc (.int .u32 (zi 10752)), xs Us], [xs Qjs, .sc (.int .u32 (zi 17408)), xs JG], [xs QfC, .sc (.int .u32 (zi 17664)), xs JG], [xs Qhg, .sc (.int .u32 (zi 17920)), xs JG], [xs Qjq, .sc (.int .u32 (zi 18432)), xs Qdc], [xs Qdf, .sc (.int .u32 (zi 24576)), xs Us], [xs Qdg, .sc (.int .u32 (zi 25600)), xs Us], [xs Qdh, .sc (.int .u32 (zi 26112)), xs Us], [xs QfJ, .sc (.int .u32 (zi 26624)), xs Us], [xs QfI, .sc (.int .u32 (zi 27648)), xs Us], [xs Qhj, .sc (.int .u32 (zi 32768)), xs XU], [xs Qho, .sc (.int .u32 (zi 36864)), xs XU], [xs Qhk, .sc (.int .u32 (zi 40960)), xs XV], [xs Qhp, .sc (.int .u32 (zi 45056)), xs XV], [xs Qhl, .sc (.int .u32 (zi 49152)), xs XW], [xs Qhq, .sc (.int .u32 (zi 53248)), xs XW], [xs Qjo, .sc (.int .u32 (zi 57344)), xs Eg], [xs Qmc, .sc (.int .u32 (zi 59392)), xs s_T8], [xs Qjp, .sc (.int .u32 (zi 59648)), xs s_T8], [xs Qdd, .sc (.int .u32 (zi 469762048)), xs Fz], [xs Qhc, .sc (.int .u32 (zi 402685952)), xs Su], [xs Qhd, .sc (.int .u32 (zi 402702336)), xs VN], [xs Qjj, .sc (.int .u32 (zi 402706432)), xs VN], [xs Qhe, .sc (.int .u32 (zi 402710528)), xs VN], [xs Qmb, .sc (.int .u32 (zi 1879048192)), xs QaM], [xs Qjf, .sc (.int .u32 (zi 805306368)), xs QC], [xs Qjk, .sc (.int .u32 (zi 872415232)), xs QC], [xs Qjg, .sc (.int .u32 (zi 939524096)), xs QC], [xs Qji, .sc (.int .u32 (zi 1342177280)), xs QC], [xs Qjm, .sc (.int .u32 (zi 1409286144)), xs QC], [xs Qjh, .sc (.int .u32 (zi 1476395008)), xs QC], [xs Qjl, .sc (.int .u32 (zi 1543503872)), xs QC], [xs Qpx, .sc (.int .u32 (zi 2013265920)), xs Qch], [xs Qma, .sc (.int .u32 (zi 2013265921)), xs Qch], [xs Ql9, .sc (.int .u32 (zi 2046820352)), xs VZ], [xs Qje, .sc (.int .u32 (zi 2046820353)), xs VZ], [xs Qpv, .sc (.int .u32 (zi 2080375316)), xs Wy], [xs Qmd, .sc (.int .u32 (zi 2080374864)), xs Wy], [xs Qjn, .sc (.int .u32 (zi 2080375254)), xs Wy], [xs Qpw, .sc (.int .u32 (zi 2080374840)), xs Wx], [xs s_or, .sc (.int .u32 (zi 2080375672)), xs Wx], [xs Qpy, .sc (.int .u32 (zi 2080375416)), xs Wx]] (Ef [(Qe.mk QaN i0 s_), (Qe.mk Qdn (zi 1) s_), (Qe.mk Qjt (zi 2) s_), (Qe.mk Qhh (zi 4) s_), (Qe.mk QfD (zi 6) s_), (Qe.mk Qhn (zi 32) s_X), (Qe.mk Qhm (zi 48) s_X), (Qe.mk QfG (zi 128) s_X), (Qe.mk QfH (zi 144) s_X), (Qe.mk Qdo (zi 160) s_X), (Qe.mk Qdp (zi 176) s_X), (Qe.mk Qdl (zi 192) s_X), (Qe.mk Qdj (zi 208) s_X), (Qe.mk Qdm (zi 224) s_X), (Qe.mk Qdk (zi 240) s_X), (Qe.mk Qjr (zi 256) JG), (Qe.mk Qhf (zi 1024) JG), (Qe.mk Qdq (zi 1280) JG), (Qe.mk Qhr (zi 1536) JG), (Qe.mk Qhi (zi 3072) JG), (Qe.mk QfF (zi 3328) JG), (Qe.mk QfB (zi 8192) XD), (Qe.mk Qdi (zi 8704) XD), (Qe.mk QfK (zi 9216) XD), (Qe.mk QfE (zi 10752) Us), (Qe.mk Qjs (zi 17408) JG), (Qe.mk QfC (zi 17664) JG), (Qe.mk Qhg (zi 17920) JG), (Qe.mk Qjq (zi 18432) Qdc), (Qe.mk Qdf (zi 24576) Us), (Qe.mk Qdg (zi 25600) Us), (Qe.mk Qdh (zi 26112) Us), (Qe.mk QfJ (zi 26624) Us), (Qe.mk QfI (zi 27648) Us), (Qe.mk Qhj (zi 32768) XU), (Qe.mk Qho (zi 36864) XU), (Qe.mk Qhk (zi 40960) XV), (Qe.mk Qhp (zi 45056) XV), (Qe.mk Qhl (zi 49152) XW), (Qe.mk Qhq (zi 53248) XW), (Qe.mk Qjo (zi 57344) Eg), (Qe.mk Qmc (zi 59392) s_T8), (Qe.mk Qjp (zi 59648) s_T8), (Qe.mk Qdd (zi 469762048) Fz), (Qe.mk Qhc (zi 402685952) Su), (Qe.mk Qhd (zi 402702336) VN), (Qe.mk Qjj (zi 402706432) VN), (Qe.mk Qhe (zi 402710528) VN), (Qe.mk Qmb (zi 1879048192) QaM), (Qe.mk Qjf (zi 805306368) QC), (Qe.mk Qjk (zi 872415232) QC), (Qe.mk Qjg (zi 939524096) QC), (Qe.mk Qji (zi 1342177280) QC), (Qe.mk Qjm (zi 1409286144) QC), (Qe.mk Qjh (zi 1476395008) QC), (Qe.mk Qjl (zi 1543503872) QC), (Qe.mk Qpx (zi 2013265920) Qch), (Qe.mk Qma (zi 2013265921) Qch), (Qe.mk Ql9 (zi 2046820352) VZ), (Qe.mk Qje (zi 2046820353) VZ), (Qe.mk Qpv (zi 2080375316) Wy), (Qe.mk Qmd (zi 2080374864) Wy), (Qe.mk Qjn (zi 2080375254) Wy), (Qe.mk Qpw (zi 2080374840) Wx), (Qe.mk s_or (zi 2080375672) Wx), (Qe.mk Qpy (zi 2080375416) Wx)]) (rt Qb0 [(Qe.mk QaN i0 s_), (Qe.mk Qdn (zi 1) s_), (Qe.mk Qjt (zi 2) s_), (Qe.mk Qhh (zi 4) s_), (Qe.mk QfD (zi 6) s_), (Qe.mk Qhn (zi 32) s_X), (Qe.mk Qhm (zi 48) s_X), (Qe.mk QfG (zi 128) s_X), (Qe.mk QfH (zi 144) s_X), (Qe.mk Qdo (zi 160) s_X), (Qe.mk Qdp (zi 176) s_X), (Qe.mk Qdl (zi 192) s_X), (Qe.mk Qdj (zi 208) s_X), (Qe.mk Qdm (zi 224) s_X), (Qe.mk Qdk (zi 240) s_X), (Qe.mk Qjr (zi 256) JG), (Qe.mk Qhf (zi 1024) JG), (Qe.mk Qdq (zi 1280) JG), (Qe.mk Qhr (zi 1536) JG), (Qe.mk Qhi (zi 3072) JG), (Qe.mk QfF (zi 3328) JG), (Qe.mk QfB (zi 8192) XD), (Qe.mk Qdi (zi 8704) XD), (Qe.mk QfK (zi 9216) XD), (Qe.mk QfE (zi 10752) Us), (Qe.mk Qjs (zi 17408) JG), (Qe.mk QfC (zi 17664) JG), (Qe.mk Qhg (zi 17920) JG), (Qe.mk Qjq (zi 18432) Qdc), (Qe.mk Qdf (zi 24576) Us), (Qe.mk Qdg (zi 25600) Us), (Qe.mk Qdh (zi 26112) Us), (Qe.mk QfJ (zi 26624) Us), (Qe.mk QfI (zi 27648) Us), (Qe.mk Qhj (zi 32768) XU), (Qe.mk Qho (zi 36864) XU), (Qe.mk Qhk (zi 40960) XV), (Qe.mk Qhp (zi 45056) XV), (Qe.mk Qhl (zi 49152) XW), (Qe.mk Qhq (zi 53248) XW), (Qe.mk Qjo (zi 57344) Eg), (Qe.mk Qmc (zi 59392) s_T8), (Qe.mk Qjp (zi 59648) s_T8), (Qe.mk Qdd (zi 469762048) Fz), (Qe.mk Qhc (zi 402685952) Su), (Qe.mk Qhd (zi 402702336) VN), (Qe.mk Qjj (zi 402706432) VN), (Qe.mk Qhe (zi 402710528) VN), (Qe.mk Qmb (zi 1879048192) QaM), (Qe.mk Qjf (zi 805306368) QC), (Qe.mk Qjk (zi 872415232) QC), (Qe.mk Qjg (zi 939524096) QC), (Qe.mk Qji (zi 1342177280) QC), (Qe.mk Qjm (zi 1409286144) QC), (Qe.mk Qjh (zi 1476395008) QC), (Qe.mk Qjl (zi 1543503872) QC), (Qe.mk Qpx (zi 2013265920) Qch), (Qe.mk Qma (zi 2013265921) Qch), (Qe.mk Ql9 (zi 2046820352) VZ), (Qe.mk Qje (zi 2046820353) VZ), (Qe.mk Qpv (zi 2080375316) Wy), (Qe.mk Qmd (zi 2080374864) Wy), (Qe.mk Qjn (zi 2080375254) Wy), (Qe.mk Qpw (zi 2080374840) Wx), (Qe.mk s_or (zi 2080375672) Wx), (Qe.mk Qpy (zi 2080375416) Wx)]))
theorem Qu0 (w : Cf) : (Qfc pp w ).norm (bodyT pp w G 139 (Qfb ).1 (Qfb ).2) = Qfc pp w := by kernel_rfl
theorem Qu1 (P : Pg) (w : Cf) (lp : Lo) : (Qfc P w ).ok lp Qb0 := ⟨(Qf4 [(Qe.mk QaN (0 : Int) s_), (Qe.mk Qdn (1 : Int) s_), (Qe.mk Qjt (2 : Int) s_), (Qe.mk Qhh (4 : Int) s_), (Qe.mk QfD (6 : Int) s_), (Qe.mk Qhn (32 : Int) s_X), (Qe.mk Qhm (48 : Int) s_X), (Qe.mk QfG (128 : Int) s_X), (Qe.mk QfH (144 : Int) s_X), (Qe.mk Qdo (160 : Int) s_X), (Qe.mk Qdp (176 : Int) s_X), (Qe.mk Qdl (192 : Int) s_X), (Qe.mk Qdj (208 : Int) s_X), (Qe.mk Qdm (224 : Int) s_X), (Qe.mk Qdk (240 : Int) s_X), (Qe.mk Qjr (256 : Int) JG), (Qe.mk Qhf (1024 : Int) JG), (Qe.mk Qdq (1280 : Int) JG), (Qe.mk Qhr (1536 : Int) JG), (Qe.mk Qhi (3072 : Int) JG), (Qe.mk QfF (3328 : Int) JG), (Qe.mk QfB (8192 : Int) XD), (Qe.mk Qdi (8704 : Int) XD), (Qe.mk QfK (9216 : Int) XD), (Qe.mk QfE (10752 : Int) Us), (Qe.mk Qjs (17408 : Int) JG), (Qe.mk QfC (17664 : Int) JG), (Qe.mk Qhg (17920 : Int) JG), (Qe.mk Qjq (18432 : Int) Qdc), (Qe.mk Qdf (24576 : Int) Us), (Qe.mk Qdg (25600 : Int) Us), (Qe.mk Qdh (26112 : Int) Us), (Qe.mk QfJ (26624 : Int) Us), (Qe.mk QfI (27648 : Int) Us), (Qe.mk Qhj (32768 : Int) XU), (Qe.mk Qho (36864 : Int) XU), (Qe.mk Qhk (40960 : Int) XV), (Qe.mk Qhp (45056 : Int) XV), (Qe.mk Qhl (49152 : Int) XW), (Qe.mk Qhq (53248 : Int) XW), (Qe.mk Qjo (57344 : Int) Eg), (Qe.mk Qmc (59392 : Int) s_T8), (Qe.mk Qjp (59648 : Int) s_T8), (Qe.mk Qdd (469762048 : Int) Fz), (Qe.mk Qhc (402685952 : Int) Su), (Qe.mk Qhd (402702336 : Int) VN), (Qe.mk Qjj (402706432 : Int) VN), (Qe.mk Qhe (402710528 : Int) VN), (Qe.mk Qmb (1879048192 : Int) QaM), (Qe.mk Qjf (805306368 : Int) QC), (Qe.mk Qjk (872415232 : Int) QC), (Qe.mk Qjg (939524096 : Int) QC), (Qe.mk Qji (1342177280 : Int) QC), (Qe.mk Qjm (1409286144 : Int) QC), (Qe.mk Qjh (1476395008 : Int) QC), (Qe.mk Qjl (1543503872 : Int) QC), (Qe.mk Qpx (2013265920 : Int) Qch), (Qe.mk Qma (2013265921 : Int) Qch), (Qe.mk Ql9 (2046820352 : Int) VZ), (Qe.mk Qje (2046820353 : Int) VZ), (Qe.mk Qpv (2080375316 : Int) Wy), (Qe.mk Qmd (2080374864 : Int) Wy), (Qe.mk Qjn (2080375254 : Int) Wy), (Qe.mk Qpw (2080374840 : Int) Wx), (Qe.mk s_or (2080375672 : Int) Wx), (Qe.mk Qpy (2080375416 : Int) Wx)]), rfl⟩
def WJ.s : Nat → Option (List Qe)
  | 0 => none
  | k + 1 => Qoh
theorem WJ.ok : ∀ (k : Nat), Qkg (ev k) (WJ.s k)
  | 0, _, h => (nomatch h)
  | k + 1, r, h => fn_ok rfl (Qfc pp (ev k) ) (Qu0 _ ) (Qu1 _ _ _ ) h
noncomputable def WJ : Option (List Qe) := Qoh
theorem WJ.cv : Cv (fun k => WJ.s k ) (WJ ) := .un rfl (by exact .const _)
def QdE (r : (Bool × ByteArray)) : AV × Heap := (xo r.1, [(0, .box [] (JL r.2))])
abbrev YN := Qe → ByteArray → Option (Bool × ByteArray)
abbrev QdF (a0 : Qe) (h0 : ByteArray) : List AV × Heap := ([.agg (QaK a0), .ptr 0 0], [(0, .box [] (JL h0))])
abbrev Qmm (w : Cf) (a0 : Qe) (h0 : ByteArray) : Option AH := w 176 (QdF a0 h0).1 (QdF a0 h0).2
abbrev QiN (w : Cf) (c : YN) : Prop := ∀ (a0 : Qe) (h0 : ByteArray) (r : (Bool × ByteArray)), c a0 h0 = some r → Qmm w a0 h0 = some (QdE r)
def QdG (a0 : Qe) (h0 : ByteArray) : Option (Bool × ByteArray) := (some ((eqS a0.name h0), h0))
def QdH (P : Pg) (w : Cf) (a0 : Qe) (h0 : ByteArray) : Tr (Bool × ByteArray) AH := (rt QdE ((eqS a0.name h0), h0))
theorem Qts (w : Cf) (a0 : Qe) (h0 : ByteArray) : (QdH pp w a0 h0).norm (bodyT pp w G 176 (QdF a0 h0).1 (QdF a0 h0).2) = QdH pp w a0 h0 := by kernel_rfl
theorem Qtt (P : Pg) (w : Cf) (lp : Lo) (a0 : Qe) (h0 : ByteArray) : (QdH P w a0 h0).ok lp QdE := rfl
def WQ.s : Nat → Qe → ByteArray → Option (Bool × ByteArray)
  | 0, _, _ => none
  | k + 1, a0, h0 => QdG a0 h0
theorem WQ.ok : ∀ (k : Nat), QiN (ev k) (WQ.s k)
  | 0, _, _, _, h => (nomatch h)
  | k + 1, a0, h0, r, h => fn_ok rfl (QdH pp (ev k) a0 h0) (Qts _ a0 h0) (Qtt _ _ _ a0 h0) h
noncomputable def WQ (a0 : Qe) (h0 : ByteArray) : Option (Bool × ByteArray) := QdG a0 h0
theorem WQ.cv (a0 : Qe) (h0 : ByteArray) : Cv (fun k => WQ.s k a0 h0) (WQ a0 h0) := .un rfl (by exact .const _)
theorem WQ.eq (a0 : Qe) (h0 : ByteArray) : WQ a0 h0 = QdG a0 h0 := rfl
def Ek (r : (Int × ByteArray)) : AV × Heap := (xi r.1, [(0, .box [] (JL r.2))])
abbrev Y6 := (List Qe) → ByteArray → Option (Int × ByteArray)
abbrev Pp (a0 : (List Qe)) (h0 : ByteArray) : List AV × Heap := ([.sl (Ef a0), .fn (.func 176) [] [.ptr 0 0]], [(0, .box [] (JL h0))])
abbrev QfL (w : Cf) (a0 : (List Qe)) (h0 : ByteArray) : Option AH := w 175 (Pp a0 h0).1 (Pp a0 h0).2
abbrev Qge (w : Cf) (c : Y6) : Prop := ∀ (a0 : (List Qe)) (h0 : ByteArray) (r : (Int × ByteArray)), c a0 h0 = some r → QfL w a0 h0 = some (Ek r)
structure Q5 where
  x0 : (List Qe)
  x7 : Int
  x8 : Int
  h0 : ByteArray
structure J6 where
  x4 : Int
  h0 : ByteArray
def Ym (a : Q5) : St := { n := 19, nx := 1, env := [(0, .sl (Ef a.x0)), (1, .fn (.func 176) [] [.ptr 0 0]), (7, xi a.x7), (8, xi a.x8)], heap := [(0, .box [] (JL a.h0))] }
def Qb1 (a : J6) : Ex × St := (.ret, { n := 19, nx := 1, env := [(4, xi a.x4)], heap := [(0, .box [] (JL a.h0))] })
def Qb2 (a : ByteArray) : Ex × St := (.exit 0, { n := 19, nx := 1, env := [], heap := [(0, .box [] (JL a))] })
def ZK (a : (J6 ⊕ ByteArray)) : Ex × St := Sum.elim Qb1 Qb2 a
abbrev XE := Q5 → Option (J6 ⊕ ByteArray)
abbrev Qkh (P : Pg) (lp : Lo) (l : XE) : Prop := ∀ (a : Q5) (r : (J6 ⊕ ByteArray)), l a = some r → lp (loopAt P 175 2) (Ym a) = some (ZK r)
def Xl (C0 : YN) (a : Q5) : Option (Q5 ⊕ (J6 ⊕ ByteArray)) := (bif (decide (a.x8 < a.x7)) then (bif (decide (0 ≤ a.x8)) then ((a.x0[(Int.toNat a.x8)]?).bind fun e1 => ((C0 e1 a.h0).bind fun r2 => (bif r2.1 then (some (.inr (.inl (J6.mk a.x8 r2.2)))) else (some (.inl (Q5.mk a.x0 a.x7 (w64 (a.x8 + 1)) r2.2)))))) else none) else (some (.inr (.inr a.h0))))
def Ev (P : Pg) (w : Cf) (C0 : YN) (a : Q5) : Tr (Q5 ⊕ (J6 ⊕ ByteArray)) XS := (.as (decide (a.x8 < a.x7)) (.as (decide (0 ≤ a.x8)) (.row ((Ef a.x0)[(Int.toNat a.x8)]?) (a.x0[(Int.toNat a.x8)]?) QaK fun (e1 : Qe) => (.call (Qmm w e1 a.h0) (C0 e1 a.h0) QdE fun r2 => (.as r2.1 (rx ZK (.inl (J6.mk a.x8 r2.2))) (lf Ym (Q5.mk a.x0 a.x7 (w64 (a.x8 + 1)) r2.2))))) .fail) (rx ZK (.inr a.h0)))
theorem Qjw (w : Cf) (C0 : YN) (a : Q5) : (Ev pp w C0 a).norm (roundT pp G.kd w 1 (G.an 175) (loopAt pp 175 2) (Ym a)) = Ev pp w C0 a := by kernel_rfl
theorem Qjx (P : Pg) (w : Cf) (lp : Lo) (C0 : YN) (K0 : QiN w C0) (a : Q5) : (Ev P w C0 a).ok lp (Sum.elim (fun a => (.norm, Ym a)) ZK) := ⟨rfl, fun q0 => ⟨rfl, fun q1 => fun e1 h => ⟨QkZ h, fun r2 hr2 => ⟨K0 _ _ _ hr2, ⟨rfl, fun q2 => rfl, fun q2 => rfl⟩⟩⟩, fun q1 => trivial⟩, fun q0 => rfl⟩
theorem Qjy {C0 : Nat → YN} {D0 : YN} (H0 : Cv2 C0 D0) (a : Q5) : Cv (fun k => Xl (C0 k) a) (Xl D0 a) := by
  unfold Xl
  exact .cond (.cond (.bind (.const _) fun e1 => .bind (H0 _ _) fun r2 => by exact .const _) cst) cst
def JU.s (k : Nat) (C0 : YN) : Q5 → Option (J6 ⊕ ByteArray) := iter (Xl C0) k
theorem QiO (w : Cf) (k : Nat) (C0 : YN) (K0 : QiN w C0) (a : Q5) (r : (J6 ⊕ ByteArray)) (h : JU.s k C0 a = some r) : loopsF pp G.kd w 1 (G.an 175) k (loopAt pp 175 2) (Ym a) = some (ZK r) :=
  Va (fun a => Ev pp w C0 a) (fun _ => rfl) (fun a => Qjw w _ a) (fun a => Qjx _ w _ _ K0 a) (fun r => by cases r <;> nofun) h
noncomputable def JU.w (C0 : YN) : Q5 → Option (J6 ⊕ ByteArray) := loopW (Xl C0)
theorem JU.cv (C0 : Nat → YN) (D0 : YN) (H0 : Cv2 C0 D0) (a : Q5) : Cv (fun k => JU.s k (C0 k) a) (JU.w D0 a) := Cv.iter (fun a => Qjy H0 a) a
def Yu (L0 : XE) (a0 : (List Qe)) (h0 : ByteArray) : Option (Int × ByteArray) := ((L0 (Q5.mk a0 (((a0.length) : Nat) : Int) (0 : Int) h0)).bind fun x => Sum.elim (fun (o1 : J6) => (some (o1.x4, o1.h0))) (fun (o2 : ByteArray) => (some ((-1 : Int), o2))) x)
def Pq (P : Pg) (w : Cf) (L0 : XE) (a0 : (List Qe)) (h0 : ByteArray) : Tr (Int × ByteArray) AH := (.num ((Ef a0).length) (a0.length) (.loop2 (loopAt P 175 2) (Ym (Q5.mk a0 (((a0.length) : Nat) : Int) i0 h0)) (L0 (Q5.mk a0 (((a0.length) : Nat) : Int) i0 h0)) Qb1 Qb2 (fun (o1 : J6) => (rt Ek (o1.x4, o1.h0))) (fun (o2 : ByteArray) => (rt Ek ((-1 : Int), o2)))))
theorem Qmn (w : Cf) (L0 : XE) (a0 : (List Qe)) (h0 : ByteArray) : (Pq pp w L0 a0 h0).norm (bodyT pp w G 175 (Pp a0 h0).1 (Pp a0 h0).2) = Pq pp w L0 a0 h0 := by kernel_rfl
theorem Qmo (P : Pg) (w : Cf) (lp : Lo) (L0 : XE) (N0 : Qkh P lp L0) (a0 : (List Qe)) (h0 : ByteArray) : (Pq P w L0 a0 h0).ok lp Ek := ⟨(Qk0 _), ⟨fun o1 ho1 => ⟨N0 _ (.inl _) ho1, rfl⟩, fun o2 ho2 => ⟨N0 _ (.inr _) ho2, rfl⟩⟩⟩
theorem Qmp {L0 : Nat → XE} {M0 : XE} (N0 : Cv1 L0 M0) (a0 : (List Qe)) (h0 : ByteArray) : Cv (fun k => Yu (L0 k) a0 h0) (Yu M0 a0 h0) := by
  unfold Yu
  exact .bind (N0 _) fun x => .sum (fun o1 => by exact .const _) (fun o2 => by exact .const _) x
def Vb.s : Nat → (List Qe) → ByteArray → Option (Int × ByteArray)
  | 0, _, _ => none
  | k + 1, a0, h0 => Yu (JU.s k (WQ.s k)) a0 h0
theorem Vb.ok : ∀ (k : Nat), Qge (ev k) (Vb.s k)
  | 0, _, _, _, h => (nomatch h)
  | k + 1, a0, h0, r, h => fn_ok rfl (Pq pp (ev k) (JU.s k (WQ.s k)) a0 h0) (Qmn _ _ a0 h0) (Qmo _ _ _ _ (QiO _ k _ (WQ.ok k)) a0 h0) h
noncomputable def JU : Q5 → Option (J6 ⊕ ByteArray) := JU.w WQ
theorem JU.eq (a : Q5) : JU a = (Xl WQ a).bind (Sum.elim JU some) := UN _ _
noncomputable def Vb (a0 : (List Qe)) (h0 : ByteArray) : Option (Int × ByteArray) := Yu JU a0 h0
theorem Vb.cv (a0 : (List Qe)) (h0 : ByteArray) : Cv (fun k => Vb.s k a0 h0) (Vb a0 h0) := .un rfl (Qmp (JU.cv (fun k => WQ.s k) WQ WQ.cv) a0 h0)
theorem Vb.eq (a0 : (List Qe)) (h0 : ByteArray) : Vb a0 h0 = Yu JU a0 h0 := rfl
def Qgr (r : (Int × Bool)) : AV × Heap := (.tup [xi r.1, xo r.2], [])
abbrev QaU := ByteArray → Option (Int × Bool)
abbrev Qgs (a0 : ByteArray) : List AV × Heap := ([xs a0], [])
abbrev QpJ (w : Cf) (a0 : ByteArray) : Option AH := w 124 (Qgs a0).1 (Qgs a0).2
abbrev QrA (w : Cf) (c : QaU) : Prop := ∀ (a0 : ByteArray) (r : (Int × Bool)), c a0 = some r → QpJ w a0 = some (Qgr r)
def SS (C0 : YW) (C1 : Y6) (a0 : ByteArray) : Option (Int × Bool) := ((C0).bind fun r1 => ((C1 r1 a0).bind fun r2 => (some ((if (0 : Int) > r2.1 then (0 : Int) else r2.1), (decide (r2.1 ≥ 0))))))
def Qgt (P : Pg) (w : Cf) (C0 : YW) (C1 : Y6) (a0 : ByteArray) : Tr (Int × Bool) AH := (.call (QiM w) (C0) Qb0 fun r1 => (.call (QfL w r1 a0) (C1 r1 a0) Ek fun r2 => (rt Qgr ((if i0 > r2.1 then i0 else r2.1), (decide (r2.1 ≥ 0))))))
theorem QwG (w : Cf) (C0 : YW) (C1 : Y6) (a0 : ByteArray) : (Qgt pp w C0 C1 a0).norm (bodyT pp w G 124 (Qgs a0).1 (Qgs a0).2) = Qgt pp w C0 C1 a0 := by kernel_rfl
theorem QwH (P : Pg) (w : Cf) (lp : Lo) (C0 : YW) (C1 : Y6) (K0 : Qkg w C0) (K1 : Qge w C1) (a0 : ByteArray) : (Qgt P w C0 C1 a0).ok lp Qgr := fun r1 hr1 => ⟨K0 _ hr1, fun r2 hr2 => ⟨K1 _ _ _ hr2, rfl⟩⟩
theorem QwI {C0 : Nat → YW} {D0 : YW} (H0 : Cv C0 D0) {C1 : Nat → Y6} {D1 : Y6} (H1 : Cv2 C1 D1) (a0 : ByteArray) : Cv (fun k => SS (C0 k) (C1 k) a0) (SS D0 D1 a0) := by
  unfold SS
  exact .bind (H0) fun r1 => .bind (H1 _ _) fun r2 => by exact .const _
def XF.s : Nat → ByteArray → Option (Int × Bool)
  | 0, _ => none
  | k + 1, a0 => SS (WJ.s k) (Vb.s k) a0
theorem XF.ok : ∀ (k : Nat), QrA (ev k) (XF.s k)
  | 0, _, _, h => (nomatch h)
  | k + 1, a0, r, h => fn_ok rfl (Qgt pp (ev k) (WJ.s k) (Vb.s k) a0) (QwG _ _ _ a0) (QwH _ _ _ _ _ (WJ.ok k) (Vb.ok k) a0) h
noncomputable def XF (a0 : ByteArray) : Option (Int × Bool) := SS WJ Vb a0
theorem XF.cv (a0 : ByteArray) : Cv (fun k => XF.s k a0) (XF a0) := .un rfl (QwI WJ.cv Vb.cv a0)
theorem XF.eq (a0 : ByteArray) : XF a0 = SS WJ Vb a0 := rfl
def Pr (r : ByteArray) : AV × Heap := (xs r, [])
abbrev Y7 := Qe → Option ByteArray
abbrev Ps (a0 : Qe) : List AV × Heap := ([.agg (QaK a0)], [])
abbrev QfM (w : Cf) (a0 : Qe) : Option AH := w 200 (Ps a0).1 (Ps a0).2
abbrev Qgf (w : Cf) (c : Y7) : Prop := ∀ (a0 : Qe) (r : ByteArray), c a0 = some r → QfM w a0 = some (Pr r)
def QfN (a0 : Qe) : Option ByteArray := (some a0.kinds)
def Pt (P : Pg) (w : Cf) (a0 : Qe) : Tr ByteArray AH := (rt Pr a0.kinds)
theorem Qmq (w : Cf) (a0 : Qe) : (Pt pp w a0).norm (bodyT pp w G 200 (Ps a0).1 (Ps a0).2) = Pt pp w a0 := by kernel_rfl
theorem Qmr (P : Pg) (w : Cf) (lp : Lo) (a0 : Qe) : (Pt P w a0).ok lp Pr := rfl
def Wz.s : Nat → Qe → Option ByteArray
  | 0, _ => none
  | k + 1, a0 => QfN a0
theorem Wz.ok : ∀ (k : Nat), Qgf (ev k) (Wz.s k)
  | 0, _, _, h => (nomatch h)
  | k + 1, a0, r, h => fn_ok rfl (Pt pp (ev k) a0) (Qmq _ a0) (Qmr _ _ _ a0) h
noncomputable def Wz (a0 : Qe) : Option ByteArray := QfN a0
theorem Wz.cv (a0 : Qe) : Cv (fun k => Wz.s k a0) (Wz a0) := .un rfl (by exact .const _)
def QeI (r : ByteArray) : AV × Heap := (xs r, [])
abbrev QeJ := Int → Option ByteArray
abbrev Qki (a0 : Int) : List AV × Heap := ([xi a0, .fn (.func 200) [] []], [])
abbrev Qtu (w : Cf) (a0 : Int) : Option AH := w 166 (Qki a0).1 (Qki a0).2
abbrev QvR (w : Cf) (c : QeJ) : Prop := ∀ (a0 : Int) (r : ByteArray), c a0 = some r → Qtu w a0 = some (QeI r)
def Qht (C0 : YW) (C1 : Y7) (a0 : Int) : Option ByteArray := ((C0).bind fun r1 => (bif (decide (a0 ≥ 0)) then (bif (decide (a0 < (((r1.length) : Nat) : Int))) then (bif (decide (0 ≤ a0)) then ((r1[(Int.toNat a0)]?).bind fun e2 => ((C1 e2).bind fun r3 => (some r3))) else none) else (some s_)) else (some s_)))
def Qkj (P : Pg) (w : Cf) (C0 : YW) (C1 : Y7) (a0 : Int) : Tr ByteArray AH := (.call (QiM w) (C0) Qb0 fun r1 => (let u44 := (decide (a0 ≥ 0)); .as u44 (yesN 2 u44 (.num ((Ef r1).length) (r1.length) (yesN 2 u44 (.as (decide (a0 < (((r1.length) : Nat) : Int))) (.as (decide (0 ≤ a0)) (.row ((Ef r1)[(Int.toNat a0)]?) (r1[(Int.toNat a0)]?) QaK fun (e2 : Qe) => (.call (QfM w e2) (C1 e2) Pr fun r3 => (rt QeI r3))) .fail) (rt QeI s_))))) (noN 4 u44 (.no false (rt QeI s_)))))
theorem QyO (w : Cf) (C0 : YW) (C1 : Y7) (a0 : Int) : (Qkj pp w C0 C1 a0).norm (bodyT pp w G 166 (Qki a0).1 (Qki a0).2) = Qkj pp w C0 C1 a0 := by kernel_rfl
theorem QyP (P : Pg) (w : Cf) (lp : Lo) (C0 : YW) (C1 : Y7) (K0 : Qkg w C0) (K1 : Qgf w C1) (a0 : Int) : (Qkj P w C0 C1 a0).ok lp QeI := fun r1 hr1 => ⟨K0 _ hr1, ⟨rfl, fun q0 => Qj 2 (q0) (⟨(Qk0 _), Qj 2 (q0) (⟨rfl, fun q1 => ⟨rfl, fun q2 => fun e2 h => ⟨QkZ h, fun r3 hr3 => ⟨K1 _ _ hr3, rfl⟩⟩, fun q2 => trivial⟩, fun q1 => rfl⟩)⟩), fun q0 => noN_ok 4 (q0) (⟨rfl, rfl⟩)⟩⟩
theorem QyQ {C0 : Nat → YW} {D0 : YW} (H0 : Cv C0 D0) {C1 : Nat → Y7} {D1 : Y7} (H1 : Cv1 C1 D1) (a0 : Int) : Cv (fun k => Qht (C0 k) (C1 k) a0) (Qht D0 D1 a0) := by
  unfold Qht
  exact .bind (H0) fun r1 => .cond (.cond (.cond (.bind (.const _) fun e2 => .bind (H1 _) fun r3 => by exact .const _) cst) cst) cst
def QaV.s : Nat → Int → Option ByteArray
  | 0, _ => none
  | k + 1, a0 => Qht (WJ.s k) (Wz.s k) a0
theorem QaV.ok : ∀ (k : Nat), QvR (ev k) (QaV.s k)
  | 0, _, _, h => (nomatch h)
  | k + 1, a0, r, h => fn_ok rfl (Qkj pp (ev k) (WJ.s k) (Wz.s k) a0) (QyO _ _ _ a0) (QyP _ _ _ _ _ (WJ.ok k) (Wz.ok k) a0) h
noncomputable def QaV (a0 : Int) : Option ByteArray := Qht WJ Wz a0
theorem QaV.cv (a0 : Int) : Cv (fun k => QaV.s k a0) (QaV a0) := .un rfl (QyQ WJ.cv Wz.cv a0)
def Qfd (r : ByteArray) : AV × Heap := (xs r, [])
abbrev ST := Int → Option ByteArray
abbrev Qfe (a0 : Int) : List AV × Heap := ([xi a0], [])
abbrev Qoi (w : Cf) (a0 : Int) : Option AH := w 146 (Qfe a0).1 (Qfe a0).2
abbrev QpK (w : Cf) (c : ST) : Prop := ∀ (a0 : Int) (r : ByteArray), c a0 = some r → Qoi w a0 = some (Qfd r)
def Qb3 (C0 : QeJ) (a0 : Int) : Option ByteArray := ((C0 a0).bind fun r1 => (some r1))
def Qff (P : Pg) (w : Cf) (C0 : QeJ) (a0 : Int) : Tr ByteArray AH := (.call (Qtu w a0) (C0 a0) QeI fun r1 => (rt Qfd r1))
theorem Qu2 (w : Cf) (C0 : QeJ) (a0 : Int) : (Qff pp w C0 a0).norm (bodyT pp w G 146 (Qfe a0).1 (Qfe a0).2) = Qff pp w C0 a0 := by kernel_rfl
theorem Qu3 (P : Pg) (w : Cf) (lp : Lo) (C0 : QeJ) (K0 : QvR w C0) (a0 : Int) : (Qff P w C0 a0).ok lp Qfd := fun r1 hr1 => ⟨K0 _ _ hr1, rfl⟩
theorem Qu4 {C0 : Nat → QeJ} {D0 : QeJ} (H0 : Cv1 C0 D0) (a0 : Int) : Cv (fun k => Qb3 (C0 k) a0) (Qb3 D0 a0) := by
  unfold Qb3
  exact .bind (H0 _) fun r1 => by exact .const _
def X0.s : Nat → Int → Option ByteArray
  | 0, _ => none
  | k + 1, a0 => Qb3 (QaV.s k) a0
theorem X0.ok : ∀ (k : Nat), QpK (ev k) (X0.s k)
  | 0, _, _, h => (nomatch h)
  | k + 1, a0, r, h => fn_ok rfl (Qff pp (ev k) (QaV.s k) a0) (Qu2 _ _ a0) (Qu3 _ _ _ _ (QaV.ok k) a0) h
noncomputable def X0 (a0 : Int) : Option ByteArray := Qb3 QaV a0
theorem X0.cv (a0 : Int) : Cv (fun k => X0.s k a0) (X0 a0) := .un rfl (Qu4 QaV.cv a0)
def QcA (r : (List ByteArray)) : AV × Heap := (.sl (Qh r), [])
def Vi.s : Nat → ByteArray → Option (List ByteArray)
  | 0, _ => none
  | _ + 1, a0 => fieldsS a0
theorem Vi.ok : ∀ (k : Nat), ∀ (a0 : ByteArray) (r : (List ByteArray)), Vi.s k a0 = some r → evalFn pp G k 145 [.sc (.string a0)] [] = some (QcA r)
  | 0, _, _, h => (nomatch h)
  | k + 1, a0, r, h => QxA h
abbrev Z4 := ByteArray → Option (List ByteArray)
abbrev Qhu (a0 : ByteArray) : List AV × Heap := ([xs a0], [])
abbrev Qhv (w : Cf) (a0 : ByteArray) : Option AH := w 145 (Qhu a0).1 (Qhu a0).2
abbrev QpL (w : Cf) (c : Z4) : Prop := ∀ (a0 : ByteArray) (r : (List ByteArray)), c a0 = some r → Qhv w a0 = some (QcA r)
noncomputable def Vi (a0 : ByteArray) : Option (List ByteArray) := fieldsS a0
theorem Vi.mono (k : Nat) (a0 : ByteArray) : Le (Vi.s k a0) (Vi.s (k + 1) a0) := by
  cases k with
  | zero => exact fun r h => nomatch h
  | succ k => exact Le.refl _
theorem Vi.cv (a0 : ByteArray) : Cv (fun k => Vi.s k a0) (Vi a0) := ⟨fun k => Vi.mono k a0, fun r => ⟨fun h => ⟨1, h⟩, fun ⟨k, h⟩ => by
  cases k with
  | zero => cases h
  | succ k => exact h⟩⟩
def QaW (r : Bool) : AV × Heap := (.sc (.bool r), [])
def Ul.s : Nat → ByteArray → ByteArray → Option Bool
  | 0, _, _ => none
  | _ + 1, a0, a1 => containsS a0 a1
theorem Ul.ok : ∀ (k : Nat), ∀ (a0 : ByteArray) (a1 : ByteArray) (r : Bool), Ul.s k a0 a1 = some r → evalFn pp G k 177 [.sc (.string a0), .sc (.string a1)] [] = some (QaW r)
  | 0, _, _, _, h => (nomatch h)
  | k + 1, a0, a1, r, h => QuO h
abbrev VW := ByteArray → ByteArray → Option Bool
abbrev QfO (a0 : ByteArray) (a1 : ByteArray) : List AV × Heap := ([xs a0, xs a1], [])
abbrev QfP (w : Cf) (a0 : ByteArray) (a1 : ByteArray) : Option AH := w 177 (QfO a0 a1).1 (QfO a0 a1).2
abbrev Qgg (w : Cf) (c : VW) : Prop := ∀ (a0 : ByteArray) (a1 : ByteArray) (r : Bool), c a0 a1 = some r → QfP w a0 a1 = some (QaW r)
noncomputable def Ul (a0 : ByteArray) (a1 : ByteArray) : Option Bool := containsS a0 a1
theorem Ul.mono (k : Nat) (a0 : ByteArray) (a1 : ByteArray) : Le (Ul.s k a0 a1) (Ul.s (k + 1) a0 a1) := by
  cases k with
  | zero => exact fun r h => nomatch h
  | succ k => exact Le.refl _
theorem Ul.cv (a0 : ByteArray) (a1 : ByteArray) : Cv (fun k => Ul.s k a0 a1) (Ul a0 a1) := ⟨fun k => Ul.mono k a0 a1, fun r => ⟨fun h => ⟨1, h⟩, fun ⟨k, h⟩ => by
  cases k with
  | zero => cases h
  | succ k => exact h⟩⟩
def Pd (r : (List (List Int))) : AV × Heap := (.sl (Qfz r), [])
abbrev Vj := Option (List (List Int))
abbrev Qci : List AV × Heap := ([], [])
abbrev Qcj (w : Cf) : Option AH := w 242 (Qci ).1 (Qci ).2
abbrev QdI (w : Cf) (c : Vj) : Prop := ∀ (r : (List (List Int))), c = some r → Qcj w = some (Pd r)
def Qf9 : Option (List (List Int)) := (some [[(9 : Int)], [(8 : Int)], [(10 : Int), (11 : Int)], [(5 : Int), (6 : Int)], [(7 : Int)]])
def Qck (P : Pg) (w : Cf) : Tr (List (List Int)) AH := (.rows [[xi (zi 9)]] (JE [(zi 9)]) (.rows [[xi (zi 8)]] (JE [(zi 8)]) (.rows [[xi (zi 10)], [xi (zi 11)]] (JE [(zi 10), (zi 11)]) (.rows [[xi (zi 5)], [xi (zi 6)]] (JE [(zi 5), (zi 6)]) (.rows [[xi (zi 7)]] (JE [(zi 7)]) (.rows [[.sl (JE [(zi 9)])], [.sl (JE [(zi 8)])], [.sl (JE [(zi 10), (zi 11)])], [.sl (JE [(zi 5), (zi 6)])], [.sl (JE [(zi 7)])]] (Qfz [[(zi 9)], [(zi 8)], [(zi 10), (zi 11)], [(zi 5), (zi 6)], [(zi 7)]]) (rt Pd [[(zi 9)], [(zi 8)], [(zi 10), (zi 11)], [(zi 5), (zi 6)], [(zi 7)]])))))))
theorem Qsf (w : Cf) : (Qck pp w ).norm (bodyT pp w G 242 (Qci ).1 (Qci ).2) = Qck pp w := by kernel_rfl
theorem Qsg (P : Pg) (w : Cf) (lp : Lo) : (Qck P w ).ok lp Pd := ⟨(Vy [(9 : Int)]), ⟨(Vy [(8 : Int)]), ⟨(Vy [(10 : Int), (11 : Int)]), ⟨(Vy [(5 : Int), (6 : Int)]), ⟨(Vy [(7 : Int)]), ⟨(Qkc [[(9 : Int)], [(8 : Int)], [(10 : Int), (11 : Int)], [(5 : Int), (6 : Int)], [(7 : Int)]]), rfl⟩⟩⟩⟩⟩⟩
def Uw.s : Nat → Option (List (List Int))
  | 0 => none
  | k + 1 => Qf9
theorem Uw.ok : ∀ (k : Nat), QdI (ev k) (Uw.s k)
  | 0, _, h => (nomatch h)
  | k + 1, r, h => fn_ok rfl (Qck pp (ev k) ) (Qsf _ ) (Qsg _ _ _ ) h
noncomputable def Uw : Option (List (List Int)) := Qf9
theorem Uw.cv : Cv (fun k => Uw.s k ) (Uw ) := .un rfl (by exact .const _)
theorem Uw.eq : Uw = Qf9 := rfl
def G5 (r : ByteArray) : AV × Heap := (xs r, [])
abbrev Xm := ByteArray → Int → Option ByteArray
abbrev G6 (a0 : ByteArray) (a1 : Int) : List AV × Heap := ([xs a0, xb a1], [])
abbrev Qb4 (w : Cf) (a0 : ByteArray) (a1 : Int) : Option AH := w 116 (G6 a0 a1).1 (G6 a0 a1).2
abbrev QcV (w : Cf) (c : Xm) : Prop := ∀ (a0 : ByteArray) (a1 : Int) (r : ByteArray), c a0 a1 = some r → Qb4 w a0 a1 = some (G5 r)
structure QL where
  x0 : ByteArray
  x1 : Int
def W1 (a : QL) : St := { n := 17, nx := 0, env := [(0, xs a.x0), (1, xb a.x1)], heap := [] }
def W2 (a : ByteArray) : Ex × St := (.exit 0, { n := 17, nx := 0, env := [(0, xs a)], heap := [] })
abbrev WA := QL → Option ByteArray
abbrev Qhw (P : Pg) (lp : Lo) (l : WA) : Prop := ∀ (a : QL) (r : ByteArray), l a = some r → lp (loopAt P 116 1) (W1 a) = some (W2 r)
def ZV (a : QL) : Option (QL ⊕ ByteArray) := (bif (decide (((a.x0.size : Nat) : Int) > 0)) then (bif (decide (0 ≤ (0 : Int) ∧ (0 : Int) < ((a.x0.size : Nat) : Int))) then (bif (((a.x0.data.getD (Int.toNat 0) 0).toNat : Int) == a.x1) then (bif (decide (0 ≤ (1 : Int) ∧ (1 : Int) ≤ ((a.x0.size : Nat) : Int) ∧ ((a.x0.size : Nat) : Int) ≤ ((a.x0.size : Nat) : Int))) then (some (.inl (QL.mk (a.x0.extract (Int.toNat 1) (Int.toNat ((a.x0.size : Nat) : Int))) a.x1))) else none) else (some (.inr a.x0))) else none) else (some (.inr a.x0)))
def ZW (P : Pg) (w : Cf) (a : QL) : Tr (QL ⊕ ByteArray) XS := (let u45 := (decide ((zz a.x0) > 0)); .as u45 (.yes u45 (.as (in1 i0 (zz a.x0)) (yesN 3 u45 (.as ((gb a.x0 i0) == a.x1) (.as (in2 (zi 1) (zz a.x0) (zz a.x0)) (lf W1 (QL.mk (cu a.x0 (zi 1) (zz a.x0)) a.x1)) .fail) (rx W2 a.x0))) .fail)) (noN 4 u45 (.no false (rx W2 a.x0))))
theorem Qgu (w : Cf) (a : QL) : (ZW pp w a).norm (roundT pp G.kd w 0 (G.an 116) (loopAt pp 116 1) (W1 a)) = ZW pp w a := by kernel_rfl
theorem Qgv (P : Pg) (w : Cf) (lp : Lo) (a : QL) : (ZW P w a).ok lp (Sum.elim (fun a => (.norm, W1 a)) W2) := ⟨rfl, fun q0 => ⟨q0, ⟨rfl, fun q1 => Qj 3 (q0) (⟨rfl, fun q2 => ⟨rfl, fun q3 => rfl, fun q3 => trivial⟩, fun q2 => rfl⟩), fun q1 => trivial⟩⟩, fun q0 => noN_ok 4 (q0) (⟨rfl, rfl⟩)⟩
def Jc.s (k : Nat) : QL → Option ByteArray := iter (ZV ) k
theorem Qga (w : Cf) (k : Nat) (a : QL) (r : ByteArray) (h : Jc.s k a = some r) : loopsF pp G.kd w 0 (G.an 116) k (loopAt pp 116 1) (W1 a) = some (W2 r) :=
  Va (fun a => ZW pp w a) (fun _ => rfl) (fun a => Qgu w a) (fun a => Qgv _ w _ a) (fun r => nofun) h
noncomputable def Jc.w : QL → Option ByteArray := loopW (ZV )
theorem Jc.cv (a : QL) : Cv (fun k => Jc.s k a) (Jc.w a) := Cv.iter (fun a => by exact .const _) a
def WV (L0 : WA) (a0 : ByteArray) (a1 : Int) : Option ByteArray := ((L0 (QL.mk a0 a1)).bind (fun (o1 : ByteArray) => (some o1)))
def G7 (P : Pg) (w : Cf) (L0 : WA) (a0 : ByteArray) (a1 : Int) : Tr ByteArray AH := (.loop (loopAt P 116 1) (W1 (QL.mk a0 a1)) (L0 (QL.mk a0 a1)) W2 (fun (o1 : ByteArray) => (rt G5 o1)))
theorem QiP (w : Cf) (L0 : WA) (a0 : ByteArray) (a1 : Int) : (G7 pp w L0 a0 a1).norm (bodyT pp w G 116 (G6 a0 a1).1 (G6 a0 a1).2) = G7 pp w L0 a0 a1 := by kernel_rfl
theorem QiQ (P : Pg) (w : Cf) (lp : Lo) (L0 : WA) (N0 : Qhw P lp L0) (a0 : ByteArray) (a1 : Int) : (G7 P w L0 a0 a1).ok lp G5 := fun o1 ho1 => ⟨N0 _ _ ho1, rfl⟩
theorem QiR {L0 : Nat → WA} {M0 : WA} (N0 : Cv1 L0 M0) (a0 : ByteArray) (a1 : Int) : Cv (fun k => WV (L0 k) a0 a1) (WV M0 a0 a1) := by
  unfold WV
  exact .bind (N0 _) (fun o1 => by exact .const _)
def Um.s : Nat → ByteArray → Int → Option ByteArray
  | 0, _, _ => none
  | k + 1, a0, a1 => WV (Jc.s k) a0 a1
theorem Um.ok : ∀ (k : Nat), QcV (ev k) (Um.s k)
  | 0, _, _, _, h => (nomatch h)
  | k + 1, a0, a1, r, h => fn_ok rfl (G7 pp (ev k) (Jc.s k) a0 a1) (QiP _ _ a0 a1) (QiQ _ _ _ _ (Qga _ k) a0 a1) h
noncomputable def Jc : QL → Option ByteArray := Jc.w
theorem Jc.eq (a : QL) : Jc a = (ZV a).bind (Sum.elim Jc some) := UN _ _
noncomputable def Um (a0 : ByteArray) (a1 : Int) : Option ByteArray := WV Jc a0 a1
theorem Um.cv (a0 : ByteArray) (a1 : Int) : Cv (fun k => Um.s k a0 a1) (Um a0 a1) := .un rfl (QiR (Jc.cv) a0 a1)
theorem Um.eq (a0 : ByteArray) (a1 : Int) : Um a0 a1 = WV Jc a0 a1 := rfl
def El (r : ByteArray) : AV × Heap := (xs r, [])
abbrev Y8 := ByteArray → Option ByteArray
abbrev Pu (a0 : ByteArray) : List AV × Heap := ([xs a0, xs h_20], [])
abbrev QfQ (w : Cf) (a0 : ByteArray) : Option AH := w 245 (Pu a0).1 (Pu a0).2
abbrev Qgh (w : Cf) (c : Y8) : Prop := ∀ (a0 : ByteArray) (r : ByteArray), c a0 = some r → QfQ w a0 = some (El r)
def Yv (C0 : Xm) (a0 : ByteArray) : Option ByteArray := (bif (eqS a0 s_) then (some a0) else ((C0 a0 (32 : Int)).bind fun r1 => (some r1)))
def Pv (P : Pg) (w : Cf) (C0 : Xm) (a0 : ByteArray) : Tr ByteArray AH := (let u46 := (eqS a0 s_); .as u46 (yesN 2 u46 (.yes true (rt El a0))) (noN 2 u46 (.no false (yesN 2 true (.yes (in1 i0 (zz h_20)) (yesN 3 true (.yes (in1 i0 (zz h_20)) (.call (Qb4 w a0 (zi 32)) (C0 a0 (zi 32)) G5 fun r1 => (rt El r1)))))))))
theorem Qms (w : Cf) (C0 : Xm) (a0 : ByteArray) : (Pv pp w C0 a0).norm (bodyT pp w G 245 (Pu a0).1 (Pu a0).2) = Pv pp w C0 a0 := by kernel_rfl
theorem Qmt (P : Pg) (w : Cf) (lp : Lo) (C0 : Xm) (K0 : QcV w C0) (a0 : ByteArray) : (Pv P w C0 a0).ok lp El := ⟨rfl, fun q0 => Qj 2 (q0) (⟨rfl, rfl⟩), fun q0 => noN_ok 2 (q0) (⟨rfl, Qj 2 (rfl) (⟨(by decide), Qj 3 (rfl) (⟨(by decide), fun r1 hr1 => ⟨K0 _ _ _ hr1, rfl⟩⟩)⟩)⟩)⟩
theorem Qmu {C0 : Nat → Xm} {D0 : Xm} (H0 : Cv2 C0 D0) (a0 : ByteArray) : Cv (fun k => Yv (C0 k) a0) (Yv D0 a0) := by
  unfold Yv
  exact .cond cst (.bind (H0 _ _) fun r1 => by exact .const _)
def UW.s : Nat → ByteArray → Option ByteArray
  | 0, _ => none
  | k + 1, a0 => Yv (Um.s k) a0
theorem UW.ok : ∀ (k : Nat), Qgh (ev k) (UW.s k)
  | 0, _, _, h => (nomatch h)
  | k + 1, a0, r, h => fn_ok rfl (Pv pp (ev k) (Um.s k) a0) (Qms _ _ a0) (Qmt _ _ _ _ (Um.ok k) a0) h
noncomputable def UW (a0 : ByteArray) : Option ByteArray := Yv Um a0
theorem UW.cv (a0 : ByteArray) : Cv (fun k => UW.s k a0) (UW a0) := .un rfl (Qmu Um.cv a0)
theorem UW.eq (a0 : ByteArray) : UW a0 = Yv Um a0 := rfl
def Z5 (r : Qb) : AV × Heap := (.tup [], [(0, .box [] (Jd r))])
abbrev UY := Qb → Option Qb
abbrev E3 (h0 : Qb) : List AV × Heap := ([.ptr 0 0], [(0, .box [] (Jd h0))])
abbrev SU (w : Cf) (h0 : Qb) : Option AH := w 216 (E3 h0).1 (E3 h0).2
abbrev Qav (w : Cf) (c : UY) : Prop := ∀ (h0 : Qb) (r : Qb), c h0 = some r → SU w h0 = some (Z5 r)
def XG (C0 : Y8) (h0 : Qb) : Option Qb := ((C0 h0.left).bind fun r1 => (some (Qb.mk r1 h0.deep h0.bad)))
def E4 (P : Pg) (w : Cf) (C0 : Y8) (h0 : Qb) : Tr Qb AH := (.call (QfQ w h0.left) (C0 h0.left) El fun r1 => (rt Z5 (Qb.mk r1 h0.deep h0.bad)))
theorem Qkk (w : Cf) (C0 : Y8) (h0 : Qb) : (E4 pp w C0 h0).norm (bodyT pp w G 216 (E3 h0).1 (E3 h0).2) = E4 pp w C0 h0 := by kernel_rfl
theorem Qkl (P : Pg) (w : Cf) (lp : Lo) (C0 : Y8) (K0 : Qgh w C0) (h0 : Qb) : (E4 P w C0 h0).ok lp Z5 := fun r1 hr1 => ⟨K0 _ _ hr1, rfl⟩
theorem Qkm {C0 : Nat → Y8} {D0 : Y8} (H0 : Cv1 C0 D0) (h0 : Qb) : Cv (fun k => XG (C0 k) h0) (XG D0 h0) := by
  unfold XG
  exact .bind (H0 _) fun r1 => by exact .const _
def Ji.s : Nat → Qb → Option Qb
  | 0, _ => none
  | k + 1, h0 => XG (UW.s k) h0
theorem Ji.ok : ∀ (k : Nat), Qav (ev k) (Ji.s k)
  | 0, _, _, h => (nomatch h)
  | k + 1, h0, r, h => fn_ok rfl (E4 pp (ev k) (UW.s k) h0) (Qkk _ _ h0) (Qkl _ _ _ _ (UW.ok k) h0) h
noncomputable def Ji (h0 : Qb) : Option Qb := XG UW h0
theorem Ji.cv (h0 : Qb) : Cv (fun k => Ji.s k h0) (Ji h0) := .un rfl (Qkm UW.cv h0)
theorem Ji.eq (h0 : Qb) : Ji h0 = XG UW h0 := rfl
def XB (r : Bool) : AV × Heap := (xo r, [])
abbrev Ux := ByteArray → ByteArray → Option Bool
abbrev Gu (a0 : ByteArray) (a1 : ByteArray) : List AV × Heap := ([xs a0, xs a1], [])
abbrev Pb (w : Cf) (a0 : ByteArray) (a1 : ByteArray) : Option AH := w 284 (Gu a0 a1).1 (Gu a0 a1).2
abbrev PU (w : Cf) (c : Ux) : Prop := ∀ (a0 : ByteArray) (a1 : ByteArray) (r : Bool), c a0 a1 = some r → Pb w a0 a1 = some (XB r)
def Gv (a0 : ByteArray) (a1 : ByteArray) : Option Bool := (bif (decide (((a0.size : Nat) : Int) ≥ ((a1.size : Nat) : Int))) then (bif (decide (0 ≤ (0 : Int) ∧ (0 : Int) ≤ ((a1.size : Nat) : Int) ∧ ((a1.size : Nat) : Int) ≤ ((a0.size : Nat) : Int))) then (some (eqS (a0.extract (Int.toNat 0) (Int.toNat ((a1.size : Nat) : Int))) a1)) else none) else (some false))
def Gw (P : Pg) (w : Cf) (a0 : ByteArray) (a1 : ByteArray) : Tr Bool AH := (let u47 := (decide ((zz a0) ≥ (zz a1))); .as u47 (yesN 3 u47 (.as (in2 i0 (zz a1) (zz a0)) (yesN 3 u47 (rt XB (eqS (cu a0 i0 (zz a1)) a1))) .fail)) (noN 6 u47 (rt XB false)))
theorem QhL (w : Cf) (a0 : ByteArray) (a1 : ByteArray) : (Gw pp w a0 a1).norm (bodyT pp w G 284 (Gu a0 a1).1 (Gu a0 a1).2) = Gw pp w a0 a1 := by kernel_rfl
theorem QhM (P : Pg) (w : Cf) (lp : Lo) (a0 : ByteArray) (a1 : ByteArray) : (Gw P w a0 a1).ok lp XB := ⟨rfl, fun q0 => Qj 3 (q0) (⟨rfl, fun q1 => Qj 3 (q0) (rfl), fun q1 => trivial⟩), fun q0 => noN_ok 6 (q0) (rfl)⟩
def Q6.s : Nat → ByteArray → ByteArray → Option Bool
  | 0, _, _ => none
  | k + 1, a0, a1 => Gv a0 a1
theorem Q6.ok : ∀ (k : Nat), PU (ev k) (Q6.s k)
  | 0, _, _, _, h => (nomatch h)
  | k + 1, a0, a1, r, h => fn_ok rfl (Gw pp (ev k) a0 a1) (QhL _ a0 a1) (QhM _ _ _ a0 a1) h
noncomputable def Q6 (a0 : ByteArray) (a1 : ByteArray) : Option Bool := Gv a0 a1
theorem Q6.cv (a0 : ByteArray) (a1 : ByteArray) : Cv (fun k => Q6.s k a0 a1) (Q6 a0 a1) := .un rfl (by exact .const _)
theorem Q6.eq (a0 : ByteArray) (a1 : ByteArray) : Q6 a0 a1 = Gv a0 a1 := rfl
def FR (r : Bool) : AV × Heap := (xo r, [])
abbrev Yw := ByteArray → ByteArray → Option Bool
abbrev FS (a0 : ByteArray) (a1 : ByteArray) : List AV × Heap := ([xs a0, xs a1], [])
abbrev Qev (w : Cf) (a0 : ByteArray) (a1 : ByteArray) : Option AH := w 265 (FS a0 a1).1 (FS a0 a1).2
abbrev QfR (w : Cf) (c : Yw) : Prop := ∀ (a0 : ByteArray) (a1 : ByteArray) (r : Bool), c a0 a1 = some r → Qev w a0 a1 = some (FR r)
def W7 (C0 : Ux) (a0 : ByteArray) (a1 : ByteArray) : Option Bool := ((C0 a0 a1).bind fun r1 => (some r1))
def FT (P : Pg) (w : Cf) (C0 : Ux) (a0 : ByteArray) (a1 : ByteArray) : Tr Bool AH := (.call (Pb w a0 a1) (C0 a0 a1) XB fun r1 => (rt FR r1))
theorem Qlo (w : Cf) (C0 : Ux) (a0 : ByteArray) (a1 : ByteArray) : (FT pp w C0 a0 a1).norm (bodyT pp w G 265 (FS a0 a1).1 (FS a0 a1).2) = FT pp w C0 a0 a1 := by kernel_rfl
theorem Qlp (P : Pg) (w : Cf) (lp : Lo) (C0 : Ux) (K0 : PU w C0) (a0 : ByteArray) (a1 : ByteArray) : (FT P w C0 a0 a1).ok lp FR := fun r1 hr1 => ⟨K0 _ _ _ hr1, rfl⟩
theorem Qlq {C0 : Nat → Ux} {D0 : Ux} (H0 : Cv2 C0 D0) (a0 : ByteArray) (a1 : ByteArray) : Cv (fun k => W7 (C0 k) a0 a1) (W7 D0 a0 a1) := by
  unfold W7
  exact .bind (H0 _ _) fun r1 => by exact .const _
def UB.s : Nat → ByteArray → ByteArray → Option Bool
  | 0, _, _ => none
  | k + 1, a0, a1 => W7 (Q6.s k) a0 a1
theorem UB.ok : ∀ (k : Nat), QfR (ev k) (UB.s k)
  | 0, _, _, _, h => (nomatch h)
  | k + 1, a0, a1, r, h => fn_ok rfl (FT pp (ev k) (Q6.s k) a0 a1) (Qlo _ _ a0 a1) (Qlp _ _ _ _ (Q6.ok k) a0 a1) h
noncomputable def UB (a0 : ByteArray) (a1 : ByteArray) : Option Bool := W7 Q6 a0 a1
theorem UB.cv (a0 : ByteArray) (a1 : ByteArray) : Cv (fun k => UB.s k a0 a1) (UB a0 a1) := .un rfl (Qlq Q6.cv a0 a1)
theorem UB.eq (a0 : ByteArray) (a1 : ByteArray) : UB a0 a1 = W7 Q6 a0 a1 := rfl
def Wq (r : (Bool × Qb)) : AV × Heap := (xo r.1, [(0, .box [] (Jd r.2))])
abbrev Je := ByteArray → Qb → Option (Bool × Qb)
abbrev Pw (a1 : ByteArray) (h0 : Qb) : List AV × Heap := ([.ptr 0 0, xs a1], [(0, .box [] (Jd h0))])
abbrev ZL (w : Cf) (a1 : ByteArray) (h0 : Qb) : Option AH := w 261 (Pw a1 h0).1 (Pw a1 h0).2
abbrev EV (w : Cf) (c : Je) : Prop := ∀ (a1 : ByteArray) (h0 : Qb) (r : (Bool × Qb)), c a1 h0 = some r → ZL w a1 h0 = some (Wq r)
def Yx (C0 : UY) (C1 : Yw) (a1 : ByteArray) (h0 : Qb) : Option (Bool × Qb) := ((C0 h0).bind fun r1 => (bif r1.bad then (some (false, r1)) else ((C1 r1.left a1).bind fun r2 => (bif (!r2) then (some (false, r1)) else (bif (decide (0 ≤ ((a1.size : Nat) : Int) ∧ ((a1.size : Nat) : Int) ≤ ((r1.left.size : Nat) : Int) ∧ ((r1.left.size : Nat) : Int) ≤ ((r1.left.size : Nat) : Int))) then (some (true, (Qb.mk (r1.left.extract (Int.toNat ((a1.size : Nat) : Int)) (Int.toNat ((r1.left.size : Nat) : Int))) r1.deep r1.bad))) else none)))))
def Px (P : Pg) (w : Cf) (C0 : UY) (C1 : Yw) (a1 : ByteArray) (h0 : Qb) : Tr (Bool × Qb) AH := (.call (SU w h0) (C0 h0) Z5 fun r1 => (.as r1.bad (yesN 7 r1.bad (.yes true (rt Wq (false, r1)))) (noN 5 r1.bad (.call (Qev w r1.left a1) (C1 r1.left a1) FR fun r2 => (noN 2 r1.bad (.as (!r2) (rt Wq (false, r1)) (.as (in2 (zz a1) (zz r1.left) (zz r1.left)) (rt Wq (true, (Qb.mk (cu r1.left (zz a1) (zz r1.left)) r1.deep r1.bad))) .fail)))))))
theorem Qmv (w : Cf) (C0 : UY) (C1 : Yw) (a1 : ByteArray) (h0 : Qb) : (Px pp w C0 C1 a1 h0).norm (bodyT pp w G 261 (Pw a1 h0).1 (Pw a1 h0).2) = Px pp w C0 C1 a1 h0 := by kernel_rfl
theorem Qmw (P : Pg) (w : Cf) (lp : Lo) (C0 : UY) (C1 : Yw) (K0 : Qav w C0) (K1 : QfR w C1) (a1 : ByteArray) (h0 : Qb) : (Px P w C0 C1 a1 h0).ok lp Wq := fun r1 hr1 => ⟨K0 _ _ hr1, ⟨rfl, fun q0 => Qj 7 (q0) (⟨rfl, rfl⟩), fun q0 => noN_ok 5 (q0) (fun r2 hr2 => ⟨K1 _ _ _ hr2, noN_ok 2 (q0) (⟨rfl, fun q1 => rfl, fun q1 => ⟨rfl, fun q2 => rfl, fun q2 => trivial⟩⟩)⟩)⟩⟩
theorem Qmx {C0 : Nat → UY} {D0 : UY} (H0 : Cv1 C0 D0) {C1 : Nat → Yw} {D1 : Yw} (H1 : Cv2 C1 D1) (a1 : ByteArray) (h0 : Qb) : Cv (fun k => Yx (C0 k) (C1 k) a1 h0) (Yx D0 D1 a1 h0) := by
  unfold Yx
  exact .bind (H0 _) fun r1 => .cond cst (.bind (H1 _ _) fun r2 => by exact .const _)
def QT.s : Nat → ByteArray → Qb → Option (Bool × Qb)
  | 0, _, _ => none
  | k + 1, a1, h0 => Yx (Ji.s k) (UB.s k) a1 h0
theorem QT.ok : ∀ (k : Nat), EV (ev k) (QT.s k)
  | 0, _, _, _, h => (nomatch h)
  | k + 1, a1, h0, r, h => fn_ok rfl (Px pp (ev k) (Ji.s k) (UB.s k) a1 h0) (Qmv _ _ _ a1 h0) (Qmw _ _ _ _ _ (Ji.ok k) (UB.ok k) a1 h0) h
noncomputable def QT (a1 : ByteArray) (h0 : Qb) : Option (Bool × Qb) := Yx Ji UB a1 h0
theorem QT.cv (a1 : ByteArray) (h0 : Qb) : Cv (fun k => QT.s k a1 h0) (QT a1 h0) := .un rfl (Qmx Ji.cv UB.cv a1 h0)
theorem QT.eq (a1 : ByteArray) (h0 : Qb) : QT a1 h0 = Yx Ji UB a1 h0 := rfl
def V2 (r : (Qa × Qb)) : AV × Heap := (.agg (QZ r.1), [(0, .box [] (Jd r.2))])
abbrev Qu := Qb → Option (Qa × Qb)
abbrev Py (h0 : Qb) : List AV × Heap := ([.ptr 0 0], [(0, .box [] (Jd h0))])
abbrev WR (w : Cf) (h0 : Qb) : Option AH := w 273 (Py h0).1 (Py h0).2
abbrev X1 (w : Cf) (c : Qu) : Prop := ∀ (h0 : Qb) (r : (Qa × Qb)), c h0 = some r → WR w h0 = some (V2 r)
def QaX (h0 : Qb) : Option (Qa × Qb) := (some ((Qa.mk (0 : Int) (0 : Int) s_ ([] : List Qa)), (Qb.mk h0.left h0.deep true)))
def Pz (P : Pg) (w : Cf) (h0 : Qb) : Tr (Qa × Qb) AH := (rt V2 ((Qa.mk i0 i0 s_ ([] : List Qa)), (Qb.mk h0.left h0.deep true)))
theorem Qmy (w : Cf) (h0 : Qb) : (Pz pp w h0).norm (bodyT pp w G 273 (Py h0).1 (Py h0).2) = Pz pp w h0 := by kernel_rfl
theorem Qmz (P : Pg) (w : Cf) (lp : Lo) (h0 : Qb) : (Pz P w h0).ok lp V2 := rfl
def Qp.s : Nat → Qb → Option (Qa × Qb)
  | 0, _ => none
  | k + 1, h0 => QaX h0
theorem Qp.ok : ∀ (k : Nat), X1 (ev k) (Qp.s k)
  | 0, _, _, h => (nomatch h)
  | k + 1, h0, r, h => fn_ok rfl (Pz pp (ev k) h0) (Qmy _ h0) (Qmz _ _ _ h0) h
noncomputable def Qp (h0 : Qb) : Option (Qa × Qb) := QaX h0
theorem Qp.cv (h0 : Qb) : Cv (fun k => Qp.s k h0) (Qp h0) := .un rfl (by exact .const _)
theorem Qp.eq (h0 : Qb) : Qp h0 = QaX h0 := rfl
def Ew (r : Bool) : AV × Heap := (xo r, [])
abbrev XH := ByteArray → Option Bool
abbrev Ey (a0 : ByteArray) : List AV × Heap := ([xs a0, xs s_0x], [])
abbrev QcW (w : Cf) (a0 : ByteArray) : Option AH := w 265 (Ey a0).1 (Ey a0).2
abbrev QdJ (w : Cf) (c : XH) : Prop := ∀ (a0 : ByteArray) (r : Bool), c a0 = some r → QcW w a0 = some (Ew r)
def Xn (C0 : Ux) (a0 : ByteArray) : Option Bool := ((C0 a0 s_0x).bind fun r1 => (some r1))
def Ez (P : Pg) (w : Cf) (C0 : Ux) (a0 : ByteArray) : Tr Bool AH := (.call (Pb w a0 s_0x) (C0 a0 s_0x) XB fun r1 => (rt Ew r1))
theorem Qjz (w : Cf) (C0 : Ux) (a0 : ByteArray) : (Ez pp w C0 a0).norm (bodyT pp w G 265 (Ey a0).1 (Ey a0).2) = Ez pp w C0 a0 := by kernel_rfl
theorem QjA (P : Pg) (w : Cf) (lp : Lo) (C0 : Ux) (K0 : PU w C0) (a0 : ByteArray) : (Ez P w C0 a0).ok lp Ew := fun r1 hr1 => ⟨K0 _ _ _ hr1, rfl⟩
theorem QjB {C0 : Nat → Ux} {D0 : Ux} (H0 : Cv2 C0 D0) (a0 : ByteArray) : Cv (fun k => Xn (C0 k) a0) (Xn D0 a0) := by
  unfold Xn
  exact .bind (H0 _ _) fun r1 => by exact .const _
def Uf.s : Nat → ByteArray → Option Bool
  | 0, _ => none
  | k + 1, a0 => Xn (Q6.s k) a0
theorem Uf.ok : ∀ (k : Nat), QdJ (ev k) (Uf.s k)
  | 0, _, _, h => (nomatch h)
  | k + 1, a0, r, h => fn_ok rfl (Ez pp (ev k) (Q6.s k) a0) (Qjz _ _ a0) (QjA _ _ _ _ (Q6.ok k) a0) h
noncomputable def Uf (a0 : ByteArray) : Option Bool := Xn Q6 a0
theorem Uf.cv (a0 : ByteArray) : Cv (fun k => Uf.s k a0) (Uf a0) := .un rfl (QjB Q6.cv a0)
theorem Uf.eq (a0 : ByteArray) : Uf a0 = Xn Q6 a0 := rfl
def Em (r : Bool) : AV × Heap := (xo r, [])
abbrev JW := Int → Option Bool
abbrev QdK (a0 : Int) : List AV × Heap := ([.sc (.int .i32 a0)], [])
abbrev QaY (w : Cf) (a0 : Int) : Option AH := w 270 (QdK a0).1 (QdK a0).2
abbrev Qaq (w : Cf) (c : JW) : Prop := ∀ (a0 : Int) (r : Bool), c a0 = some r → QaY w a0 = some (Em r)
def QdL (a0 : Int) : Option Bool := (bif (decide (a0 ≥ 48)) then (some (decide (a0 ≤ (57 : Int)))) else (some false))
def QdM (P : Pg) (w : Cf) (a0 : Int) : Tr Bool AH := (let u48 := (decide (a0 ≥ 48)); .as u48 (yesN 2 u48 (rt Em (decide (a0 ≤ (zi 57))))) (noN 2 u48 (rt Em false)))
theorem Qtv (w : Cf) (a0 : Int) : (QdM pp w a0).norm (bodyT pp w G 270 (QdK a0).1 (QdK a0).2) = QdM pp w a0 := by kernel_rfl
theorem Qtw (P : Pg) (w : Cf) (lp : Lo) (a0 : Int) : (QdM P w a0).ok lp Em := ⟨rfl, fun q0 => Qj 2 (q0) (rfl), fun q0 => noN_ok 2 (q0) (rfl)⟩
def JF.s : Nat → Int → Option Bool
  | 0, _ => none
  | k + 1, a0 => QdL a0
theorem JF.ok : ∀ (k : Nat), Qaq (ev k) (JF.s k)
  | 0, _, _, h => (nomatch h)
  | k + 1, a0, r, h => fn_ok rfl (QdM pp (ev k) a0) (Qtv _ a0) (Qtw _ _ _ a0) h
noncomputable def JF (a0 : Int) : Option Bool := QdL a0
theorem JF.cv (a0 : Int) : Cv (fun k => JF.s k a0) (JF a0) := .un rfl (by exact .const _)
theorem JF.eq (a0 : Int) : JF a0 = QdL a0 := rfl
def Qbv (r : Bool) : AV × Heap := (xo r, [])
abbrev Gr := Int → Option Bool
abbrev Qgw (a0 : Int) : List AV × Heap := ([.sc (.int .i32 a0)], [])
abbrev QpM (w : Cf) (a0 : Int) : Option AH := w 267 (Qgw a0).1 (Qgw a0).2
abbrev QmA (w : Cf) (c : Gr) : Prop := ∀ (a0 : Int) (r : Bool), c a0 = some r → QpM w a0 = some (Qbv r)
def SV (C0 : JW) (a0 : Int) : Option Bool := ((C0 a0).bind fun r1 => (bif r1 then (some true) else (bif (decide (a0 ≥ 97)) then (some (decide (a0 ≤ (102 : Int)))) else (some false))))
def Qgx (P : Pg) (w : Cf) (C0 : JW) (a0 : Int) : Tr Bool AH := (.call (QaY w a0) (C0 a0) Em fun r1 => (.as r1 (yesN 4 r1 (rt Qbv true)) (noN 2 r1 (let u49 := (decide (a0 ≥ 97)); .as u49 (.yes u49 (.no r1 (.yes u49 (.no r1 (rt Qbv (decide (a0 ≤ (zi 102)))))))) (.no u49 (.no r1 (.no u49 (.no r1 (rt Qbv false)))))))))
theorem QwJ (w : Cf) (C0 : JW) (a0 : Int) : (Qgx pp w C0 a0).norm (bodyT pp w G 267 (Qgw a0).1 (Qgw a0).2) = Qgx pp w C0 a0 := by kernel_rfl
theorem QwK (P : Pg) (w : Cf) (lp : Lo) (C0 : JW) (K0 : Qaq w C0) (a0 : Int) : (Qgx P w C0 a0).ok lp Qbv := fun r1 hr1 => ⟨K0 _ _ hr1, ⟨rfl, fun q0 => Qj 4 (q0) (rfl), fun q0 => noN_ok 2 (q0) (⟨rfl, fun q1 => ⟨q1, ⟨q0, ⟨q1, ⟨q0, rfl⟩⟩⟩⟩, fun q1 => ⟨q1, ⟨q0, ⟨q1, ⟨q0, rfl⟩⟩⟩⟩⟩)⟩⟩
theorem QwL {C0 : Nat → JW} {D0 : JW} (H0 : Cv1 C0 D0) (a0 : Int) : Cv (fun k => SV (C0 k) a0) (SV D0 a0) := by
  unfold SV
  exact .bind (H0 _) fun r1 => by exact .const _
def X8.s : Nat → Int → Option Bool
  | 0, _ => none
  | k + 1, a0 => SV (JF.s k) a0
theorem X8.ok : ∀ (k : Nat), QmA (ev k) (X8.s k)
  | 0, _, _, h => (nomatch h)
  | k + 1, a0, r, h => fn_ok rfl (Qgx pp (ev k) (JF.s k) a0) (QwJ _ _ a0) (QwK _ _ _ _ (JF.ok k) a0) h
noncomputable def X8 (a0 : Int) : Option Bool := SV JF a0
theorem X8.cv (a0 : Int) : Cv (fun k => X8.s k a0) (X8 a0) := .un rfl (QwL JF.cv a0)
theorem X8.eq (a0 : Int) : X8 a0 = SV JF a0 := rfl
def QcX (r : ByteArray) : AV × Heap := (xs r, [])
abbrev QcB := ByteArray → Option ByteArray
abbrev Qh3 (a0 : ByteArray) : List AV × Heap := ([xs a0, .fn (.func 267) [] []], [])
abbrev QmB (w : Cf) (a0 : ByteArray) : Option AH := w 266 (Qh3 a0).1 (Qh3 a0).2
abbrev Qtx (w : Cf) (c : QcB) : Prop := ∀ (a0 : ByteArray) (r : ByteArray), c a0 = some r → QmB w a0 = some (QcX r)
structure U1 where
  x0 : ByteArray
  i0s : ByteArray
  i0p : Nat
def Sw (a : U1) : St := { n := 21, nx := 1, env := [(0, xs a.x0), (1, .fn (.func 267) [] []), (8, .it 0)], heap := [(0, .iter a.i0s a.i0p)] }
def Qk2 (a : ByteArray) : Ex × St := (.ret, { n := 21, nx := 0, env := [(4, xs a)], heap := [] })
def Qk3 (a : ByteArray) : Ex × St := (.exit 0, { n := 21, nx := 0, env := [(0, xs a)], heap := [] })
def QaZ (a : (ByteArray ⊕ ByteArray)) : Ex × St := Sum.elim Qk2 Qk3 a
abbrev PV := U1 → Option (ByteArray ⊕ ByteArray)
abbrev Qu5 (P : Pg) (lp : Lo) (l : PV) : Prop := ∀ (a : U1) (r : (ByteArray ⊕ ByteArray)), l a = some r → lp (loopAt P 266 2) (Sw a) = some (QaZ r)
def FD (C0 : Gr) (a : U1) : Option (U1 ⊕ (ByteArray ⊕ ByteArray)) := (bif (decide (a.i0p < a.i0s.size)) then ((C0 (((Utf8.decode a.i0s a.i0p).1 : Nat) : Int)).bind fun r1 => (bif (!r1) then (bif (decide (0 ≤ (0 : Int) ∧ (0 : Int) ≤ ((a.i0p : Nat) : Int) ∧ ((a.i0p : Nat) : Int) ≤ ((a.x0.size : Nat) : Int))) then (some (.inr (.inl (a.x0.extract (Int.toNat 0) (Int.toNat ((a.i0p : Nat) : Int)))))) else none) else (some (.inl (U1.mk a.x0 a.i0s (a.i0p + (Utf8.decode a.i0s a.i0p).2)))))) else (some (.inr (.inr a.x0))))
def QdN (P : Pg) (w : Cf) (C0 : Gr) (a : U1) : Tr (U1 ⊕ (ByteArray ⊕ ByteArray)) XS := (.as (decide (a.i0p < a.i0s.size)) (.yes true (.call (QpM w (((Utf8.decode a.i0s a.i0p).1 : Nat) : Int)) (C0 (((Utf8.decode a.i0s a.i0p).1 : Nat) : Int)) Qbv fun r1 => (.as (!r1) (.as (in2 i0 ((a.i0p : Nat) : Int) (zz a.x0)) (rx QaZ (.inl (cu a.x0 i0 ((a.i0p : Nat) : Int)))) .fail) (lf Sw (U1.mk a.x0 a.i0s (a.i0p + (Utf8.decode a.i0s a.i0p).2)))))) (.no false (rx QaZ (.inr a.x0))))
theorem Qty (w : Cf) (C0 : Gr) (a : U1) : (QdN pp w C0 a).norm (roundT pp G.kd w 0 (G.an 266) (loopAt pp 266 2) (Sw a)) = QdN pp w C0 a := by kernel_rfl
theorem Qtz (P : Pg) (w : Cf) (lp : Lo) (C0 : Gr) (K0 : QmA w C0) (a : U1) : (QdN P w C0 a).ok lp (Sum.elim (fun a => (.norm, Sw a)) QaZ) := ⟨rfl, fun q0 => ⟨rfl, fun r1 hr1 => ⟨K0 _ _ hr1, ⟨rfl, fun q1 => ⟨rfl, fun q2 => rfl, fun q2 => trivial⟩, fun q1 => rfl⟩⟩⟩, fun q0 => ⟨rfl, rfl⟩⟩
theorem QtA {C0 : Nat → Gr} {D0 : Gr} (H0 : Cv1 C0 D0) (a : U1) : Cv (fun k => FD (C0 k) a) (FD D0 a) := by
  unfold FD
  exact .cond (.bind (H0 _) fun r1 => by exact .const _) cst
def Xc.s (k : Nat) (C0 : Gr) : U1 → Option (ByteArray ⊕ ByteArray) := iter (FD C0) k
theorem Qsh (w : Cf) (k : Nat) (C0 : Gr) (K0 : QmA w C0) (a : U1) (r : (ByteArray ⊕ ByteArray)) (h : Xc.s k C0 a = some r) : loopsF pp G.kd w 0 (G.an 266) k (loopAt pp 266 2) (Sw a) = some (QaZ r) :=
  Va (fun a => QdN pp w C0 a) (fun _ => rfl) (fun a => Qty w _ a) (fun a => Qtz _ w _ _ K0 a) (fun r => by cases r <;> nofun) h
noncomputable def Xc.w (C0 : Gr) : U1 → Option (ByteArray ⊕ ByteArray) := loopW (FD C0)
theorem Xc.cv (C0 : Nat → Gr) (D0 : Gr) (H0 : Cv1 C0 D0) (a : U1) : Cv (fun k => Xc.s k (C0 k) a) (Xc.w D0 a) := Cv.iter (fun a => QtA H0 a) a
def Qa0 (L0 : PV) (a0 : ByteArray) : Option ByteArray := ((L0 (U1.mk a0 a0 0)).bind fun x => Sum.elim (fun (o1 : ByteArray) => (some o1)) (fun (o2 : ByteArray) => (some o2)) x)
def Qh4 (P : Pg) (w : Cf) (L0 : PV) (a0 : ByteArray) : Tr ByteArray AH := (.loop2 (loopAt P 266 2) (Sw (U1.mk a0 a0 0)) (L0 (U1.mk a0 a0 0)) Qk2 Qk3 (fun (o1 : ByteArray) => (rt QcX o1)) (fun (o2 : ByteArray) => (rt QcX o2)))
theorem QxK (w : Cf) (L0 : PV) (a0 : ByteArray) : (Qh4 pp w L0 a0).norm (bodyT pp w G 266 (Qh3 a0).1 (Qh3 a0).2) = Qh4 pp w L0 a0 := by kernel_rfl
theorem QxL (P : Pg) (w : Cf) (lp : Lo) (L0 : PV) (N0 : Qu5 P lp L0) (a0 : ByteArray) : (Qh4 P w L0 a0).ok lp QcX := ⟨fun o1 ho1 => ⟨N0 _ (.inl _) ho1, rfl⟩, fun o2 ho2 => ⟨N0 _ (.inr _) ho2, rfl⟩⟩
theorem QxM {L0 : Nat → PV} {M0 : PV} (N0 : Cv1 L0 M0) (a0 : ByteArray) : Cv (fun k => Qa0 (L0 k) a0) (Qa0 M0 a0) := by
  unfold Qa0
  exact .bind (N0 _) fun x => .sum (fun o1 => by exact .const _) (fun o2 => by exact .const _) x
def Gl.s : Nat → ByteArray → Option ByteArray
  | 0, _ => none
  | k + 1, a0 => Qa0 (Xc.s k (X8.s k)) a0
theorem Gl.ok : ∀ (k : Nat), Qtx (ev k) (Gl.s k)
  | 0, _, _, h => (nomatch h)
  | k + 1, a0, r, h => fn_ok rfl (Qh4 pp (ev k) (Xc.s k (X8.s k)) a0) (QxK _ _ a0) (QxL _ _ _ _ (Qsh _ k _ (X8.ok k)) a0) h
noncomputable def Xc : U1 → Option (ByteArray ⊕ ByteArray) := Xc.w X8
theorem Xc.eq (a : U1) : Xc a = (FD X8 a).bind (Sum.elim Xc some) := UN _ _
noncomputable def Gl (a0 : ByteArray) : Option ByteArray := Qa0 Xc a0
theorem Gl.cv (a0 : ByteArray) : Cv (fun k => Gl.s k a0) (Gl a0) := .un rfl (QxM (Xc.cv (fun k => X8.s k) X8 X8.cv) a0)
theorem Gl.eq (a0 : ByteArray) : Gl a0 = Qa0 Xc a0 := rfl
def XI (r : (Qa × Qb)) : AV × Heap := (.agg (QZ r.1), [(0, .box [] (Jd r.2))])
abbrev X9 := ByteArray → Int → Qb → Option (Qa × Qb)
abbrev E5 (a1 : ByteArray) (a2 : Int) (h0 : Qb) : List AV × Heap := ([.ptr 0 0, xs a1, xi a2], [(0, .box [] (Jd h0))])
abbrev E6 (w : Cf) (a1 : ByteArray) (a2 : Int) (h0 : Qb) : Option AH := w 269 (E5 a1 a2 h0).1 (E5 a1 a2 h0).2
abbrev Qew (w : Cf) (c : X9) : Prop := ∀ (a1 : ByteArray) (a2 : Int) (h0 : Qb) (r : (Qa × Qb)), c a1 a2 h0 = some r → E6 w a1 a2 h0 = some (XI r)
structure QF where
  x1 : ByteArray
  x2 : Int
  x7 : Int
  h0 : Qb
  h1 : Qa
  i2s : ByteArray
  i2p : Nat
structure Jl where
  h0 : Qb
  h1 : Qa
structure JM where
  x1 : ByteArray
  x7 : Int
  h0 : Qb
  h1 : Qa
def WL (a : QF) : St := { n := 46, nx := 3, env := [(0, .ptr 0 0), (1, xs a.x1), (2, xi a.x2), (6, .ptr 1 0), (7, xi a.x7), (12, .it 2)], heap := [(0, .box [] (Jd a.h0)), (1, .box [] (QZ a.h1)), (2, .iter a.i2s a.i2p)] }
def Qa1 (a : Jl) : Ex × St := (.ret, { n := 46, nx := 2, env := [(6, .ptr 1 0)], heap := [(0, .box [] (Jd a.h0)), (1, .box [] (QZ a.h1))] })
def Qa2 (a : JM) : Ex × St := (.exit 0, { n := 46, nx := 2, env := [(0, .ptr 0 0), (1, xs a.x1), (6, .ptr 1 0), (7, xi a.x7)], heap := [(0, .box [] (Jd a.h0)), (1, .box [] (QZ a.h1))] })
def XC (a : (Jl ⊕ JM)) : Ex × St := Sum.elim Qa1 Qa2 a
abbrev WW := QF → Option (Jl ⊕ JM)
abbrev QiS (P : Pg) (lp : Lo) (l : WW) : Prop := ∀ (a : QF) (r : (Jl ⊕ JM)), l a = some r → lp (loopAt P 269 3) (WL a) = some (XC r)
def WM (C0 : Qu) (a : QF) : Option (QF ⊕ (Jl ⊕ JM)) := (bif (decide (a.i2p < a.i2s.size)) then (bif (decide ((((Utf8.decode a.i2s a.i2p).1 : Nat) : Int) ≥ 97)) then (bif (decide ((w64 ((w64 (a.x7 * a.x2)) + (w64 ((w64 (IntKind.i32.wrap ((((Utf8.decode a.i2s a.i2p).1 : Nat) : Int) - 97))) + 10)))) ≥ 4294967296)) then ((C0 a.h0).bind fun r1 => (some (.inr (.inl (Jl.mk r1.2 r1.1))))) else (some (.inl (QF.mk a.x1 a.x2 (w64 ((w64 (a.x7 * a.x2)) + (w64 ((w64 (IntKind.i32.wrap ((((Utf8.decode a.i2s a.i2p).1 : Nat) : Int) - 97))) + 10)))) a.h0 a.h1 a.i2s (a.i2p + (Utf8.decode a.i2s a.i2p).2))))) else (bif (decide ((w64 ((w64 (a.x7 * a.x2)) + (w64 (IntKind.i32.wrap ((((Utf8.decode a.i2s a.i2p).1 : Nat) : Int) - 48))))) ≥ 4294967296)) then ((C0 a.h0).bind fun r2 => (some (.inr (.inl (Jl.mk r2.2 r2.1))))) else (some (.inl (QF.mk a.x1 a.x2 (w64 ((w64 (a.x7 * a.x2)) + (w64 (IntKind.i32.wrap ((((Utf8.decode a.i2s a.i2p).1 : Nat) : Int) - 48))))) a.h0 a.h1 a.i2s (a.i2p + (Utf8.decode a.i2s a.i2p).2)))))) else (some (.inr (.inr (JM.mk a.x1 a.x7 a.h0 a.h1)))))
def Gx (P : Pg) (w : Cf) (C0 : Qu) (a : QF) : Tr (QF ⊕ (Jl ⊕ JM)) XS := (.as (decide (a.i2p < a.i2s.size)) (.yes true (.as (decide ((((Utf8.decode a.i2s a.i2p).1 : Nat) : Int) ≥ 97)) (.as (decide ((w64 ((w64 (a.x7 * a.x2)) + (w64 ((w64 (IntKind.i32.wrap ((((Utf8.decode a.i2s a.i2p).1 : Nat) : Int) - 97))) + 10)))) ≥ 4294967296)) (.call (WR w a.h0) (C0 a.h0) V2 fun r1 => (rx XC (.inl (Jl.mk r1.2 r1.1)))) (lf WL (QF.mk a.x1 a.x2 (w64 ((w64 (a.x7 * a.x2)) + (w64 ((w64 (IntKind.i32.wrap ((((Utf8.decode a.i2s a.i2p).1 : Nat) : Int) - 97))) + 10)))) a.h0 a.h1 a.i2s (a.i2p + (Utf8.decode a.i2s a.i2p).2)))) (.as (decide ((w64 ((w64 (a.x7 * a.x2)) + (w64 (IntKind.i32.wrap ((((Utf8.decode a.i2s a.i2p).1 : Nat) : Int) - 48))))) ≥ 4294967296)) (.call (WR w a.h0) (C0 a.h0) V2 fun r2 => (rx XC (.inl (Jl.mk r2.2 r2.1)))) (lf WL (QF.mk a.x1 a.x2 (w64 ((w64 (a.x7 * a.x2)) + (w64 (IntKind.i32.wrap ((((Utf8.decode a.i2s a.i2p).1 : Nat) : Int) - 48))))) a.h0 a.h1 a.i2s (a.i2p + (Utf8.decode a.i2s a.i2p).2)))))) (.no false (rx XC (.inr (JM.mk a.x1 a.x7 a.h0 a.h1)))))
theorem QhN (w : Cf) (C0 : Qu) (a : QF) : (Gx pp w C0 a).norm (roundT pp G.kd w 1 (G.an 269) (loopAt pp 269 3) (WL a)) = Gx pp w C0 a := by kernel_rfl
theorem QhO (P : Pg) (w : Cf) (lp : Lo) (C0 : Qu) (K0 : X1 w C0) (a : QF) : (Gx P w C0 a).ok lp (Sum.elim (fun a => (.norm, WL a)) XC) := ⟨rfl, fun q0 => ⟨rfl, ⟨rfl, fun q1 => ⟨rfl, fun q2 => fun r1 hr1 => ⟨K0 _ _ hr1, rfl⟩, fun q2 => rfl⟩, fun q1 => ⟨rfl, fun q2 => fun r2 hr2 => ⟨K0 _ _ hr2, rfl⟩, fun q2 => rfl⟩⟩⟩, fun q0 => ⟨rfl, rfl⟩⟩
theorem QhP {C0 : Nat → Qu} {D0 : Qu} (H0 : Cv1 C0 D0) (a : QF) : Cv (fun k => WM (C0 k) a) (WM D0 a) := by
  unfold WM
  exact .cond (.cond (.cond (.bind (H0 _) fun r1 => by exact .const _) cst) (.cond (.bind (H0 _) fun r2 => by exact .const _) cst)) cst
def JN.s (k : Nat) (C0 : Qu) : QF → Option (Jl ⊕ JM) := iter (WM C0) k
theorem Qhx (w : Cf) (k : Nat) (C0 : Qu) (K0 : X1 w C0) (a : QF) (r : (Jl ⊕ JM)) (h : JN.s k C0 a = some r) : loopsF pp G.kd w 1 (G.an 269) k (loopAt pp 269 3) (WL a) = some (XC r) :=
  Va (fun a => Gx pp w C0 a) (fun _ => rfl) (fun a => QhN w _ a) (fun a => QhO _ w _ _ K0 a) (fun r => by cases r <;> nofun) h
noncomputable def JN.w (C0 : Qu) : QF → Option (Jl ⊕ JM) := loopW (WM C0)
theorem JN.cv (C0 : Nat → Qu) (D0 : Qu) (H0 : Cv1 C0 D0) (a : QF) : Cv (fun k => JN.s k (C0 k) a) (JN.w D0 a) := Cv.iter (fun a => QhP H0 a) a
def XJ (L0 : WW) (a1 : ByteArray) (a2 : Int) (h0 : Qb) : Option (Qa × Qb) := ((L0 (QF.mk a1 a2 (0 : Int) h0 (Qa.mk (0 : Int) (0 : Int) s_ ([] : List Qa)) a1 0)).bind fun x => Sum.elim (fun (o1 : Jl) => (some (o1.h1, o1.h0))) (fun (o2 : JM) => (bif (decide (0 ≤ ((o2.x1.size : Nat) : Int) ∧ ((o2.x1.size : Nat) : Int) ≤ ((o2.h0.left.size : Nat) : Int) ∧ ((o2.h0.left.size : Nat) : Int) ≤ ((o2.h0.left.size : Nat) : Int))) then (some ((Qa.mk (1 : Int) o2.x7 s_ ([] : List Qa)), (Qb.mk (o2.h0.left.extract (Int.toNat ((o2.x1.size : Nat) : Int)) (Int.toNat ((o2.h0.left.size : Nat) : Int))) o2.h0.deep o2.h0.bad))) else none)) x)
def E7 (P : Pg) (w : Cf) (L0 : WW) (a1 : ByteArray) (a2 : Int) (h0 : Qb) : Tr (Qa × Qb) AH := (.loop2 (loopAt P 269 3) (WL (QF.mk a1 a2 i0 h0 (Qa.mk i0 i0 s_ ([] : List Qa)) a1 0)) (L0 (QF.mk a1 a2 i0 h0 (Qa.mk i0 i0 s_ ([] : List Qa)) a1 0)) Qa1 Qa2 (fun (o1 : Jl) => (rt XI (o1.h1, o1.h0))) (fun (o2 : JM) => (.as (in2 (zz o2.x1) (zz o2.h0.left) (zz o2.h0.left)) (rt XI ((Qa.mk (zi 1) o2.x7 s_ ([] : List Qa)), (Qb.mk (cu o2.h0.left (zz o2.x1) (zz o2.h0.left)) o2.h0.deep o2.h0.bad))) .fail)))
theorem Qkn (w : Cf) (L0 : WW) (a1 : ByteArray) (a2 : Int) (h0 : Qb) : (E7 pp w L0 a1 a2 h0).norm (bodyT pp w G 269 (E5 a1 a2 h0).1 (E5 a1 a2 h0).2) = E7 pp w L0 a1 a2 h0 := by kernel_rfl
theorem Qko (P : Pg) (w : Cf) (lp : Lo) (L0 : WW) (N0 : QiS P lp L0) (a1 : ByteArray) (a2 : Int) (h0 : Qb) : (E7 P w L0 a1 a2 h0).ok lp XI := ⟨fun o1 ho1 => ⟨N0 _ (.inl _) ho1, rfl⟩, fun o2 ho2 => ⟨N0 _ (.inr _) ho2, ⟨rfl, fun q0 => rfl, fun q0 => trivial⟩⟩⟩
theorem Qkp {L0 : Nat → WW} {M0 : WW} (N0 : Cv1 L0 M0) (a1 : ByteArray) (a2 : Int) (h0 : Qb) : Cv (fun k => XJ (L0 k) a1 a2 h0) (XJ M0 a1 a2 h0) := by
  unfold XJ
  exact .bind (N0 _) fun x => .sum (fun o1 => by exact .const _) (fun o2 => by exact .const _) x
def JV.s : Nat → ByteArray → Int → Qb → Option (Qa × Qb)
  | 0, _, _, _ => none
  | k + 1, a1, a2, h0 => XJ (JN.s k (Qp.s k)) a1 a2 h0
theorem JV.ok : ∀ (k : Nat), Qew (ev k) (JV.s k)
  | 0, _, _, _, _, h => (nomatch h)
  | k + 1, a1, a2, h0, r, h => fn_ok rfl (E7 pp (ev k) (JN.s k (Qp.s k)) a1 a2 h0) (Qkn _ _ a1 a2 h0) (Qko _ _ _ _ (Qhx _ k _ (Qp.ok k)) a1 a2 h0) h
noncomputable def JN : QF → Option (Jl ⊕ JM) := JN.w Qp
theorem JN.eq (a : QF) : JN a = (WM Qp a).bind (Sum.elim JN some) := UN _ _
noncomputable def JV (a1 : ByteArray) (a2 : Int) (h0 : Qb) : Option (Qa × Qb) := XJ JN a1 a2 h0
theorem JV.cv (a1 : ByteArray) (a2 : Int) (h0 : Qb) : Cv (fun k => JV.s k a1 a2 h0) (JV a1 a2 h0) := .un rfl (Qkp (JN.cv (fun k => Qp.s k) Qp Qp.cv) a1 a2 h0)
theorem JV.eq (a1 : ByteArray) (a2 : Int) (h0 : Qb) : JV a1 a2 h0 = XJ JN a1 a2 h0 := rfl
def Sx (r : Bool) : AV × Heap := (xo r, [])
abbrev PW := Int → Option Bool
abbrev QdO (a0 : Int) : List AV × Heap := ([.sc (.int .i32 a0)], [])
abbrev QmC (w : Cf) (a0 : Int) : Option AH := w 285 (QdO a0).1 (QdO a0).2
abbrev Qoj (w : Cf) (c : PW) : Prop := ∀ (a0 : Int) (r : Bool), c a0 = some r → QmC w a0 = some (Sx r)
def QdP (a0 : Int) : Option Bool := (bif (decide (a0 ≥ 97)) then (bif (decide (a0 ≤ (122 : Int))) then (some true) else (some (a0 == 95))) else (some (a0 == 95)))
def QdQ (P : Pg) (w : Cf) (a0 : Int) : Tr Bool AH := (let u51 := (decide (a0 ≥ 97)); .as u51 (yesN 2 u51 (let u50 := (decide (a0 ≤ (zi 122))); .as u50 (yesN 2 u50 (rt Sx true)) (noN 2 u50 (rt Sx (a0 == 95))))) (noN 2 u51 (noN 3 false (rt Sx (a0 == 95)))))
theorem QtB (w : Cf) (a0 : Int) : (QdQ pp w a0).norm (bodyT pp w G 285 (QdO a0).1 (QdO a0).2) = QdQ pp w a0 := by kernel_rfl
theorem QtC (P : Pg) (w : Cf) (lp : Lo) (a0 : Int) : (QdQ P w a0).ok lp Sx := ⟨rfl, fun q0 => Qj 2 (q0) (⟨rfl, fun q1 => Qj 2 (q1) (rfl), fun q1 => noN_ok 2 (q1) (rfl)⟩), fun q0 => noN_ok 2 (q0) (noN_ok 3 (rfl) (rfl))⟩
def Xd.s : Nat → Int → Option Bool
  | 0, _ => none
  | k + 1, a0 => QdP a0
theorem Xd.ok : ∀ (k : Nat), Qoj (ev k) (Xd.s k)
  | 0, _, _, h => (nomatch h)
  | k + 1, a0, r, h => fn_ok rfl (QdQ pp (ev k) a0) (QtB _ a0) (QtC _ _ _ a0) h
noncomputable def Xd (a0 : Int) : Option Bool := QdP a0
theorem Xd.cv (a0 : Int) : Cv (fun k => Xd.s k a0) (Xd a0) := .un rfl (by exact .const _)
theorem Xd.eq (a0 : Int) : Xd a0 = QdP a0 := rfl
def Qa3 (r : Bool) : AV × Heap := (xo r, [])
abbrev YO := Int → Option Bool
abbrev QdR (a0 : Int) : List AV × Heap := ([.sc (.int .i32 a0)], [])
abbrev QmD (w : Cf) (a0 : Int) : Option AH := w 271 (QdR a0).1 (QdR a0).2
abbrev QiT (w : Cf) (c : YO) : Prop := ∀ (a0 : Int) (r : Bool), c a0 = some r → QmD w a0 = some (Qa3 r)
def FE (C0 : PW) (C1 : JW) (a0 : Int) : Option Bool := ((C0 a0).bind fun r1 => (bif r1 then (some true) else ((C1 a0).bind fun r2 => (some r2))))
def QdS (P : Pg) (w : Cf) (C0 : PW) (C1 : JW) (a0 : Int) : Tr Bool AH := (.call (QmC w a0) (C0 a0) Sx fun r1 => (.as r1 (yesN 2 r1 (rt Qa3 true)) (.no r1 (.call (QaY w a0) (C1 a0) Em fun r2 => (.no r1 (rt Qa3 r2))))))
theorem QtD (w : Cf) (C0 : PW) (C1 : JW) (a0 : Int) : (QdS pp w C0 C1 a0).norm (bodyT pp w G 271 (QdR a0).1 (QdR a0).2) = QdS pp w C0 C1 a0 := by kernel_rfl
theorem QtE (P : Pg) (w : Cf) (lp : Lo) (C0 : PW) (C1 : JW) (K0 : Qoj w C0) (K1 : Qaq w C1) (a0 : Int) : (QdS P w C0 C1 a0).ok lp Qa3 := fun r1 hr1 => ⟨K0 _ _ hr1, ⟨rfl, fun q0 => Qj 2 (q0) (rfl), fun q0 => ⟨q0, fun r2 hr2 => ⟨K1 _ _ hr2, ⟨q0, rfl⟩⟩⟩⟩⟩
theorem QtF {C0 : Nat → PW} {D0 : PW} (H0 : Cv1 C0 D0) {C1 : Nat → JW} {D1 : JW} (H1 : Cv1 C1 D1) (a0 : Int) : Cv (fun k => FE (C0 k) (C1 k) a0) (FE D0 D1 a0) := by
  unfold FE
  exact .bind (H0 _) fun r1 => .cond cst (.bind (H1 _) fun r2 => by exact .const _)
def WE.s : Nat → Int → Option Bool
  | 0, _ => none
  | k + 1, a0 => FE (Xd.s k) (JF.s k) a0
theorem WE.ok : ∀ (k : Nat), QiT (ev k) (WE.s k)
  | 0, _, _, h => (nomatch h)
  | k + 1, a0, r, h => fn_ok rfl (QdS pp (ev k) (Xd.s k) (JF.s k) a0) (QtD _ _ _ a0) (QtE _ _ _ _ _ (Xd.ok k) (JF.ok k) a0) h
noncomputable def WE (a0 : Int) : Option Bool := FE Xd JF a0
theorem WE.cv (a0 : Int) : Cv (fun k => WE.s k a0) (WE a0) := .un rfl (QtF Xd.cv JF.cv a0)
theorem WE.eq (a0 : Int) : WE a0 = FE Xd JF a0 := rfl
def Fh (r : ByteArray) : AV × Heap := (xs r, [])
abbrev Wl := ByteArray → Option ByteArray
abbrev Qfg (a0 : ByteArray) : List AV × Heap := ([xs a0, .fn (.func 271) [] []], [])
abbrev Qb5 (w : Cf) (a0 : ByteArray) : Option AH := w 266 (Qfg a0).1 (Qfg a0).2
abbrev Qgy (w : Cf) (c : Wl) : Prop := ∀ (a0 : ByteArray) (r : ByteArray), c a0 = some r → Qb5 w a0 = some (Fh r)
structure Uy where
  x0 : ByteArray
  i0s : ByteArray
  i0p : Nat
def Fr (a : Uy) : St := { n := 21, nx := 1, env := [(0, xs a.x0), (1, .fn (.func 271) [] []), (8, .it 0)], heap := [(0, .iter a.i0s a.i0p)] }
def Qh5 (a : ByteArray) : Ex × St := (.ret, { n := 21, nx := 0, env := [(4, xs a)], heap := [] })
def Qh6 (a : ByteArray) : Ex × St := (.exit 0, { n := 21, nx := 0, env := [(0, xs a)], heap := [] })
def Sy (a : (ByteArray ⊕ ByteArray)) : Ex × St := Sum.elim Qh5 Qh6 a
abbrev EJ := Uy → Option (ByteArray ⊕ ByteArray)
abbrev Qsi (P : Pg) (lp : Lo) (l : EJ) : Prop := ∀ (a : Uy) (r : (ByteArray ⊕ ByteArray)), l a = some r → lp (loopAt P 266 2) (Fr a) = some (Sy r)
def GO (C0 : YO) (a : Uy) : Option (Uy ⊕ (ByteArray ⊕ ByteArray)) := (bif (decide (a.i0p < a.i0s.size)) then ((C0 (((Utf8.decode a.i0s a.i0p).1 : Nat) : Int)).bind fun r1 => (bif (!r1) then (bif (decide (0 ≤ (0 : Int) ∧ (0 : Int) ≤ ((a.i0p : Nat) : Int) ∧ ((a.i0p : Nat) : Int) ≤ ((a.x0.size : Nat) : Int))) then (some (.inr (.inl (a.x0.extract (Int.toNat 0) (Int.toNat ((a.i0p : Nat) : Int)))))) else none) else (some (.inl (Uy.mk a.x0 a.i0s (a.i0p + (Utf8.decode a.i0s a.i0p).2)))))) else (some (.inr (.inr a.x0))))
def Qbw (P : Pg) (w : Cf) (C0 : YO) (a : Uy) : Tr (Uy ⊕ (ByteArray ⊕ ByteArray)) XS := (.as (decide (a.i0p < a.i0s.size)) (.yes true (.call (QmD w (((Utf8.decode a.i0s a.i0p).1 : Nat) : Int)) (C0 (((Utf8.decode a.i0s a.i0p).1 : Nat) : Int)) Qa3 fun r1 => (.as (!r1) (.as (in2 i0 ((a.i0p : Nat) : Int) (zz a.x0)) (rx Sy (.inl (cu a.x0 i0 ((a.i0p : Nat) : Int)))) .fail) (lf Fr (Uy.mk a.x0 a.i0s (a.i0p + (Utf8.decode a.i0s a.i0p).2)))))) (.no false (rx Sy (.inr a.x0))))
theorem QqH (w : Cf) (C0 : YO) (a : Uy) : (Qbw pp w C0 a).norm (roundT pp G.kd w 0 (G.an 266) (loopAt pp 266 2) (Fr a)) = Qbw pp w C0 a := by kernel_rfl
theorem QqI (P : Pg) (w : Cf) (lp : Lo) (C0 : YO) (K0 : QiT w C0) (a : Uy) : (Qbw P w C0 a).ok lp (Sum.elim (fun a => (.norm, Fr a)) Sy) := ⟨rfl, fun q0 => ⟨rfl, fun r1 hr1 => ⟨K0 _ _ hr1, ⟨rfl, fun q1 => ⟨rfl, fun q2 => rfl, fun q2 => trivial⟩, fun q1 => rfl⟩⟩⟩, fun q0 => ⟨rfl, rfl⟩⟩
theorem QqJ {C0 : Nat → YO} {D0 : YO} (H0 : Cv1 C0 D0) (a : Uy) : Cv (fun k => GO (C0 k) a) (GO D0 a) := by
  unfold GO
  exact .cond (.bind (H0 _) fun r1 => by exact .const _) cst
def We.s (k : Nat) (C0 : YO) : Uy → Option (ByteArray ⊕ ByteArray) := iter (GO C0) k
theorem QpN (w : Cf) (k : Nat) (C0 : YO) (K0 : QiT w C0) (a : Uy) (r : (ByteArray ⊕ ByteArray)) (h : We.s k C0 a = some r) : loopsF pp G.kd w 0 (G.an 266) k (loopAt pp 266 2) (Fr a) = some (Sy r) :=
  Va (fun a => Qbw pp w C0 a) (fun _ => rfl) (fun a => QqH w _ a) (fun a => QqI _ w _ _ K0 a) (fun r => by cases r <;> nofun) h
noncomputable def We.w (C0 : YO) : Uy → Option (ByteArray ⊕ ByteArray) := loopW (GO C0)
theorem We.cv (C0 : Nat → YO) (D0 : YO) (H0 : Cv1 C0 D0) (a : Uy) : Cv (fun k => We.s k (C0 k) a) (We.w D0 a) := Cv.iter (fun a => QqJ H0 a) a
def PX (L0 : EJ) (a0 : ByteArray) : Option ByteArray := ((L0 (Uy.mk a0 a0 0)).bind fun x => Sum.elim (fun (o1 : ByteArray) => (some o1)) (fun (o2 : ByteArray) => (some o2)) x)
def Qfh (P : Pg) (w : Cf) (L0 : EJ) (a0 : ByteArray) : Tr ByteArray AH := (.loop2 (loopAt P 266 2) (Fr (Uy.mk a0 a0 0)) (L0 (Uy.mk a0 a0 0)) Qh5 Qh6 (fun (o1 : ByteArray) => (rt Fh o1)) (fun (o2 : ByteArray) => (rt Fh o2)))
theorem Qu6 (w : Cf) (L0 : EJ) (a0 : ByteArray) : (Qfh pp w L0 a0).norm (bodyT pp w G 266 (Qfg a0).1 (Qfg a0).2) = Qfh pp w L0 a0 := by kernel_rfl
theorem Qu7 (P : Pg) (w : Cf) (lp : Lo) (L0 : EJ) (N0 : Qsi P lp L0) (a0 : ByteArray) : (Qfh P w L0 a0).ok lp Fh := ⟨fun o1 ho1 => ⟨N0 _ (.inl _) ho1, rfl⟩, fun o2 ho2 => ⟨N0 _ (.inr _) ho2, rfl⟩⟩
theorem Qu8 {L0 : Nat → EJ} {M0 : EJ} (N0 : Cv1 L0 M0) (a0 : ByteArray) : Cv (fun k => PX (L0 k) a0) (PX M0 a0) := by
  unfold PX
  exact .bind (N0 _) fun x => .sum (fun o1 => by exact .const _) (fun o2 => by exact .const _) x
def U6.s : Nat → ByteArray → Option ByteArray
  | 0, _ => none
  | k + 1, a0 => PX (We.s k (WE.s k)) a0
theorem U6.ok : ∀ (k : Nat), Qgy (ev k) (U6.s k)
  | 0, _, _, h => (nomatch h)
  | k + 1, a0, r, h => fn_ok rfl (Qfh pp (ev k) (We.s k (WE.s k)) a0) (Qu6 _ _ a0) (Qu7 _ _ _ _ (QpN _ k _ (WE.ok k)) a0) h
noncomputable def We : Uy → Option (ByteArray ⊕ ByteArray) := We.w WE
theorem We.eq (a : Uy) : We a = (GO WE a).bind (Sum.elim We some) := UN _ _
noncomputable def U6 (a0 : ByteArray) : Option ByteArray := PX We a0
theorem U6.cv (a0 : ByteArray) : Cv (fun k => U6.s k a0) (U6 a0) := .un rfl (Qu8 (We.cv (fun k => WE.s k) WE WE.cv) a0)
theorem U6.eq (a0 : ByteArray) : U6 a0 = PX We a0 := rfl
def Ya (r : (Qa × Qb)) : AV × Heap := (.agg (QZ r.1), [(0, .box [] (Jd r.2))])
abbrev Yy := Qa → Qb → Option (Qa × Qb)
abbrev FU (a1 : Qa) (h0 : Qb) : List AV × Heap := ([.ptr 0 0, .agg (QZ a1)], [(0, .box [] (Jd h0))])
abbrev FV (w : Cf) (a1 : Qa) (h0 : Qb) : Option AH := w 268 (FU a1 h0).1 (FU a1 h0).2
abbrev QfS (w : Cf) (c : Yy) : Prop := ∀ (a1 : Qa) (h0 : Qb) (r : (Qa × Qb)), c a1 h0 = some r → FV w a1 h0 = some (Ya r)
def Yb (C0 : Wl) (C1 : Qu) (a1 : Qa) (h0 : Qb) : Option (Qa × Qb) := ((C0 h0.left).bind fun r1 => (bif (!(eqS r1 s_)) then ((C1 h0).bind fun r2 => (some (r2.1, r2.2))) else (some (a1, h0))))
def FW (P : Pg) (w : Cf) (C0 : Wl) (C1 : Qu) (a1 : Qa) (h0 : Qb) : Tr (Qa × Qb) AH := (.call (Qb5 w h0.left) (C0 h0.left) Fh fun r1 => (.as (!(eqS r1 s_)) (.call (WR w h0) (C1 h0) V2 fun r2 => (rt Ya (r2.1, r2.2))) (rt Ya (a1, h0))))
theorem Qlr (w : Cf) (C0 : Wl) (C1 : Qu) (a1 : Qa) (h0 : Qb) : (FW pp w C0 C1 a1 h0).norm (bodyT pp w G 268 (FU a1 h0).1 (FU a1 h0).2) = FW pp w C0 C1 a1 h0 := by kernel_rfl
theorem Qls (P : Pg) (w : Cf) (lp : Lo) (C0 : Wl) (C1 : Qu) (K0 : Qgy w C0) (K1 : X1 w C1) (a1 : Qa) (h0 : Qb) : (FW P w C0 C1 a1 h0).ok lp Ya := fun r1 hr1 => ⟨K0 _ _ hr1, ⟨rfl, fun q0 => fun r2 hr2 => ⟨K1 _ _ hr2, rfl⟩, fun q0 => rfl⟩⟩
theorem Qlt {C0 : Nat → Wl} {D0 : Wl} (H0 : Cv1 C0 D0) {C1 : Nat → Qu} {D1 : Qu} (H1 : Cv1 C1 D1) (a1 : Qa) (h0 : Qb) : Cv (fun k => Yb (C0 k) (C1 k) a1 h0) (Yb D0 D1 a1 h0) := by
  unfold Yb
  exact .bind (H0 _) fun r1 => .cond (.bind (H1 _) fun r2 => by exact .const _) cst
def Ug.s : Nat → Qa → Qb → Option (Qa × Qb)
  | 0, _, _ => none
  | k + 1, a1, h0 => Yb (U6.s k) (Qp.s k) a1 h0
theorem Ug.ok : ∀ (k : Nat), QfS (ev k) (Ug.s k)
  | 0, _, _, _, h => (nomatch h)
  | k + 1, a1, h0, r, h => fn_ok rfl (FW pp (ev k) (U6.s k) (Qp.s k) a1 h0) (Qlr _ _ _ a1 h0) (Qls _ _ _ _ _ (U6.ok k) (Qp.ok k) a1 h0) h
noncomputable def Ug (a1 : Qa) (h0 : Qb) : Option (Qa × Qb) := Yb U6 Qp a1 h0
theorem Ug.cv (a1 : Qa) (h0 : Qb) : Cv (fun k => Ug.s k a1 h0) (Ug a1 h0) := .un rfl (Qlt U6.cv Qp.cv a1 h0)
theorem Ug.eq (a1 : Qa) (h0 : Qb) : Ug a1 h0 = Yb U6 Qp a1 h0 := rfl
def PY (r : ByteArray) : AV × Heap := (xs r, [])
abbrev YX := ByteArray → Option ByteArray
abbrev Qfi (a0 : ByteArray) : List AV × Heap := ([xs a0, .fn (.func 270) [] []], [])
abbrev Qfj (w : Cf) (a0 : ByteArray) : Option AH := w 266 (Qfi a0).1 (Qfi a0).2
abbrev Qkq (w : Cf) (c : YX) : Prop := ∀ (a0 : ByteArray) (r : ByteArray), c a0 = some r → Qfj w a0 = some (PY r)
structure Uz where
  x0 : ByteArray
  i0s : ByteArray
  i0p : Nat
def Fs (a : Uz) : St := { n := 21, nx := 1, env := [(0, xs a.x0), (1, .fn (.func 270) [] []), (8, .it 0)], heap := [(0, .iter a.i0s a.i0p)] }
def Qh7 (a : ByteArray) : Ex × St := (.ret, { n := 21, nx := 0, env := [(4, xs a)], heap := [] })
def Qh8 (a : ByteArray) : Ex × St := (.exit 0, { n := 21, nx := 0, env := [(0, xs a)], heap := [] })
def Sz (a : (ByteArray ⊕ ByteArray)) : Ex × St := Sum.elim Qh7 Qh8 a
abbrev EK := Uz → Option (ByteArray ⊕ ByteArray)
abbrev Qsj (P : Pg) (lp : Lo) (l : EK) : Prop := ∀ (a : Uz) (r : (ByteArray ⊕ ByteArray)), l a = some r → lp (loopAt P 266 2) (Fs a) = some (Sz r)
def GP (C0 : JW) (a : Uz) : Option (Uz ⊕ (ByteArray ⊕ ByteArray)) := (bif (decide (a.i0p < a.i0s.size)) then ((C0 (((Utf8.decode a.i0s a.i0p).1 : Nat) : Int)).bind fun r1 => (bif (!r1) then (bif (decide (0 ≤ (0 : Int) ∧ (0 : Int) ≤ ((a.i0p : Nat) : Int) ∧ ((a.i0p : Nat) : Int) ≤ ((a.x0.size : Nat) : Int))) then (some (.inr (.inl (a.x0.extract (Int.toNat 0) (Int.toNat ((a.i0p : Nat) : Int)))))) else none) else (some (.inl (Uz.mk a.x0 a.i0s (a.i0p + (Utf8.decode a.i0s a.i0p).2)))))) else (some (.inr (.inr a.x0))))
def Qbx (P : Pg) (w : Cf) (C0 : JW) (a : Uz) : Tr (Uz ⊕ (ByteArray ⊕ ByteArray)) XS := (.as (decide (a.i0p < a.i0s.size)) (.yes true (.call (QaY w (((Utf8.decode a.i0s a.i0p).1 : Nat) : Int)) (C0 (((Utf8.decode a.i0s a.i0p).1 : Nat) : Int)) Em fun r1 => (.as (!r1) (.as (in2 i0 ((a.i0p : Nat) : Int) (zz a.x0)) (rx Sz (.inl (cu a.x0 i0 ((a.i0p : Nat) : Int)))) .fail) (lf Fs (Uz.mk a.x0 a.i0s (a.i0p + (Utf8.decode a.i0s a.i0p).2)))))) (.no false (rx Sz (.inr a.x0))))
theorem QqK (w : Cf) (C0 : JW) (a : Uz) : (Qbx pp w C0 a).norm (roundT pp G.kd w 0 (G.an 266) (loopAt pp 266 2) (Fs a)) = Qbx pp w C0 a := by kernel_rfl
theorem QqL (P : Pg) (w : Cf) (lp : Lo) (C0 : JW) (K0 : Qaq w C0) (a : Uz) : (Qbx P w C0 a).ok lp (Sum.elim (fun a => (.norm, Fs a)) Sz) := ⟨rfl, fun q0 => ⟨rfl, fun r1 hr1 => ⟨K0 _ _ hr1, ⟨rfl, fun q1 => ⟨rfl, fun q2 => rfl, fun q2 => trivial⟩, fun q1 => rfl⟩⟩⟩, fun q0 => ⟨rfl, rfl⟩⟩
theorem QqM {C0 : Nat → JW} {D0 : JW} (H0 : Cv1 C0 D0) (a : Uz) : Cv (fun k => GP (C0 k) a) (GP D0 a) := by
  unfold GP
  exact .cond (.bind (H0 _) fun r1 => by exact .const _) cst
def Wf.s (k : Nat) (C0 : JW) : Uz → Option (ByteArray ⊕ ByteArray) := iter (GP C0) k
theorem QpO (w : Cf) (k : Nat) (C0 : JW) (K0 : Qaq w C0) (a : Uz) (r : (ByteArray ⊕ ByteArray)) (h : Wf.s k C0 a = some r) : loopsF pp G.kd w 0 (G.an 266) k (loopAt pp 266 2) (Fs a) = some (Sz r) :=
  Va (fun a => Qbx pp w C0 a) (fun _ => rfl) (fun a => QqK w _ a) (fun a => QqL _ w _ _ K0 a) (fun r => by cases r <;> nofun) h
noncomputable def Wf.w (C0 : JW) : Uz → Option (ByteArray ⊕ ByteArray) := loopW (GP C0)
theorem Wf.cv (C0 : Nat → JW) (D0 : JW) (H0 : Cv1 C0 D0) (a : Uz) : Cv (fun k => Wf.s k (C0 k) a) (Wf.w D0 a) := Cv.iter (fun a => QqM H0 a) a
def PZ (L0 : EK) (a0 : ByteArray) : Option ByteArray := ((L0 (Uz.mk a0 a0 0)).bind fun x => Sum.elim (fun (o1 : ByteArray) => (some o1)) (fun (o2 : ByteArray) => (some o2)) x)
def Qfk (P : Pg) (w : Cf) (L0 : EK) (a0 : ByteArray) : Tr ByteArray AH := (.loop2 (loopAt P 266 2) (Fs (Uz.mk a0 a0 0)) (L0 (Uz.mk a0 a0 0)) Qh7 Qh8 (fun (o1 : ByteArray) => (rt PY o1)) (fun (o2 : ByteArray) => (rt PY o2)))
theorem Qu9 (w : Cf) (L0 : EK) (a0 : ByteArray) : (Qfk pp w L0 a0).norm (bodyT pp w G 266 (Qfi a0).1 (Qfi a0).2) = Qfk pp w L0 a0 := by kernel_rfl
theorem Qva (P : Pg) (w : Cf) (lp : Lo) (L0 : EK) (N0 : Qsj P lp L0) (a0 : ByteArray) : (Qfk P w L0 a0).ok lp PY := ⟨fun o1 ho1 => ⟨N0 _ (.inl _) ho1, rfl⟩, fun o2 ho2 => ⟨N0 _ (.inr _) ho2, rfl⟩⟩
theorem Qvb {L0 : Nat → EK} {M0 : EK} (N0 : Cv1 L0 M0) (a0 : ByteArray) : Cv (fun k => PZ (L0 k) a0) (PZ M0 a0) := by
  unfold PZ
  exact .bind (N0 _) fun x => .sum (fun o1 => by exact .const _) (fun o2 => by exact .const _) x
def Wd.s : Nat → ByteArray → Option ByteArray
  | 0, _ => none
  | k + 1, a0 => PZ (Wf.s k (JF.s k)) a0
theorem Wd.ok : ∀ (k : Nat), Qkq (ev k) (Wd.s k)
  | 0, _, _, h => (nomatch h)
  | k + 1, a0, r, h => fn_ok rfl (Qfk pp (ev k) (Wf.s k (JF.s k)) a0) (Qu9 _ _ a0) (Qva _ _ _ _ (QpO _ k _ (JF.ok k)) a0) h
noncomputable def Wf : Uz → Option (ByteArray ⊕ ByteArray) := Wf.w JF
theorem Wf.eq (a : Uz) : Wf a = (GP JF a).bind (Sum.elim Wf some) := UN _ _
noncomputable def Wd (a0 : ByteArray) : Option ByteArray := PZ Wf a0
theorem Wd.cv (a0 : ByteArray) : Cv (fun k => Wd.s k a0) (Wd a0) := .un rfl (Qvb (Wf.cv (fun k => JF.s k) JF JF.cv) a0)
theorem Wd.eq (a0 : ByteArray) : Wd a0 = PZ Wf a0 := rfl
def Zp (r : Bool) : AV × Heap := (xo r, [])
abbrev SW := ByteArray → Option Bool
abbrev Qfl (a0 : ByteArray) : List AV × Heap := ([xs a0], [])
abbrev QiU (w : Cf) (a0 : ByteArray) : Option AH := w 272 (Qfl a0).1 (Qfl a0).2
abbrev QpP (w : Cf) (c : SW) : Prop := ∀ (a0 : ByteArray) (r : Bool), c a0 = some r → QiU w a0 = some (Zp r)
def P0 (C0 : JW) (C1 : Wl) (C2 : YX) (a0 : ByteArray) : Option Bool := (bif (eqS a0 s_) then (some false) else (bif (decide (((a0.size : Nat) : Int) > 12)) then (some false) else (bif (decide (0 ≤ (0 : Int) ∧ (0 : Int) < ((a0.size : Nat) : Int))) then ((C0 (IntKind.i32.wrap ((a0.data.getD (Int.toNat 0) 0).toNat : Int))).bind fun r1 => (bif r1 then (some false) else ((C1 a0).bind fun r2 => (bif (!(eqS r2 a0)) then (some false) else (bif (((a0.data.getD (Int.toNat 0) 0).toNat : Int) != 114) then (some true) else (bif (((a0.size : Nat) : Int) == 1) then (some true) else (bif (decide (0 ≤ (1 : Int) ∧ (1 : Int) ≤ ((a0.size : Nat) : Int) ∧ ((a0.size : Nat) : Int) ≤ ((a0.size : Nat) : Int))) then ((C2 (a0.extract (Int.toNat 1) (Int.toNat ((a0.size : Nat) : Int)))).bind fun r3 => (some (!(eqS r3 (a0.extract (Int.toNat 1) (Int.toNat ((a0.size : Nat) : Int))))))) else none))))))) else none)))
def Qfm (P : Pg) (w : Cf) (C0 : JW) (C1 : Wl) (C2 : YX) (a0 : ByteArray) : Tr Bool AH := (let u57 := (eqS a0 s_); .as u57 (yesN 3 u57 (yesN 11 true (rt Zp false))) (noN 3 u57 (let u56 := (decide ((zz a0) > 12)); .as u56 (yesN 4 u56 (yesN 6 true (rt Zp false))) (.no u56 (let u55 := (in1 i0 (zz a0)); .as u55 (noN 2 u56 (.call (QaY w (IntKind.i32.wrap (gb a0 i0))) (C0 (IntKind.i32.wrap (gb a0 i0))) Em fun r1 => (.no u56 (.as r1 (yesN 4 r1 (.yes true (rt Zp false))) (.no r1 (.call (Qb5 w a0) (C1 a0) Fh fun r2 => (noN 3 r1 (.as (!(eqS r2 a0)) (rt Zp false) (.yes u55 (let u54 := ((gb a0 i0) != 114); .as u54 (yesN 3 u54 (yesN 7 true (rt Zp true))) (noN 3 u54 (let u53 := ((zz a0) == 1); .as u53 (yesN 6 u53 (rt Zp true)) (.no u53 (let u52 := (in2 (zi 1) (zz a0) (zz a0)); .as u52 (.no u53 (.call (Qfj w (cu a0 (zi 1) (zz a0))) (C2 (cu a0 (zi 1) (zz a0))) PY fun r3 => (noN 2 u53 (.yes u52 (noN 2 u53 (rt Zp (!(eqS r3 (cu a0 (zi 1) (zz a0)))))))))) .fail)))))))))))))) .fail)))))
theorem Qvc (w : Cf) (C0 : JW) (C1 : Wl) (C2 : YX) (a0 : ByteArray) : (Qfm pp w C0 C1 C2 a0).norm (bodyT pp w G 272 (Qfl a0).1 (Qfl a0).2) = Qfm pp w C0 C1 C2 a0 := by kernel_rfl
theorem Qvd (P : Pg) (w : Cf) (lp : Lo) (C0 : JW) (C1 : Wl) (C2 : YX) (K0 : Qaq w C0) (K1 : Qgy w C1) (K2 : Qkq w C2) (a0 : ByteArray) : (Qfm P w C0 C1 C2 a0).ok lp Zp := ⟨rfl, fun q0 => Qj 3 (q0) (Qj 11 (rfl) (rfl)), fun q0 => noN_ok 3 (q0) (⟨rfl, fun q1 => Qj 4 (q1) (Qj 6 (rfl) (rfl)), fun q1 => ⟨q1, ⟨rfl, fun q2 => noN_ok 2 (q1) (fun r1 hr1 => ⟨K0 _ _ hr1, ⟨q1, ⟨rfl, fun q3 => Qj 4 (q3) (⟨rfl, rfl⟩), fun q3 => ⟨q3, fun r2 hr2 => ⟨K1 _ _ hr2, noN_ok 3 (q3) (⟨rfl, fun q4 => rfl, fun q4 => ⟨q2, ⟨rfl, fun q5 => Qj 3 (q5) (Qj 7 (rfl) (rfl)), fun q5 => noN_ok 3 (q5) (⟨rfl, fun q6 => Qj 6 (q6) (rfl), fun q6 => ⟨q6, ⟨rfl, fun q7 => ⟨q6, fun r3 hr3 => ⟨K2 _ _ hr3, noN_ok 2 (q6) (⟨q7, noN_ok 2 (q6) (rfl)⟩)⟩⟩, fun q7 => trivial⟩⟩⟩)⟩⟩⟩)⟩⟩⟩⟩⟩), fun q2 => trivial⟩⟩⟩)⟩
theorem Qve {C0 : Nat → JW} {D0 : JW} (H0 : Cv1 C0 D0) {C1 : Nat → Wl} {D1 : Wl} (H1 : Cv1 C1 D1) {C2 : Nat → YX} {D2 : YX} (H2 : Cv1 C2 D2) (a0 : ByteArray) : Cv (fun k => P0 (C0 k) (C1 k) (C2 k) a0) (P0 D0 D1 D2 a0) := by
  unfold P0
  exact .cond cst (.cond cst (.cond (.bind (H0 _) fun r1 => .cond cst (.bind (H1 _) fun r2 => .cond cst (.cond cst (.cond cst (.cond (.bind (H2 _) fun r3 => by exact .const _) cst))))) cst))
def X2.s : Nat → ByteArray → Option Bool
  | 0, _ => none
  | k + 1, a0 => P0 (JF.s k) (U6.s k) (Wd.s k) a0
theorem X2.ok : ∀ (k : Nat), QpP (ev k) (X2.s k)
  | 0, _, _, h => (nomatch h)
  | k + 1, a0, r, h => fn_ok rfl (Qfm pp (ev k) (JF.s k) (U6.s k) (Wd.s k) a0) (Qvc _ _ _ _ a0) (Qvd _ _ _ _ _ _ (JF.ok k) (U6.ok k) (Wd.ok k) a0) h
noncomputable def X2 (a0 : ByteArray) : Option Bool := P0 JF U6 Wd a0
theorem X2.cv (a0 : ByteArray) : Cv (fun k => X2.s k a0) (X2 a0) := .un rfl (Qve JF.cv U6.cv Wd.cv a0)
theorem X2.eq (a0 : ByteArray) : X2 a0 = P0 JF U6 Wd a0 := rfl
def QdT (r : (List ByteArray)) : AV × Heap := (.sl (Qh r), [])
abbrev YP := Option (List ByteArray)
abbrev QdU : List AV × Heap := ([], [])
abbrev QmE (w : Cf) : Option AH := w 208 (QdU ).1 (QdU ).2
abbrev QiV (w : Cf) (c : YP) : Prop := ∀ (r : (List ByteArray)), c = some r → QmE w = some (QdT r)
def Qhy : Option (List ByteArray) := (some [s_, s_, s_, h_2e, h_2d, h_2b, h_2d, h_2a, h_26, h_7c, Qha, Qhb])
def QdV (P : Pg) (w : Cf) : Tr (List ByteArray) AH := (.rows [[xs s_], [xs s_], [xs s_], [xs h_2e], [xs h_2d], [xs h_2b], [xs h_2d], [xs h_2a], [xs h_26], [xs h_7c], [xs Qha], [xs Qhb]] (Qh [s_, s_, s_, h_2e, h_2d, h_2b, h_2d, h_2a, h_26, h_7c, Qha, Qhb]) (rt QdT [s_, s_, s_, h_2e, h_2d, h_2b, h_2d, h_2a, h_26, h_7c, Qha, Qhb]))
theorem QtG (w : Cf) : (QdV pp w ).norm (bodyT pp w G 208 (QdU ).1 (QdU ).2) = QdV pp w := by kernel_rfl
theorem QtH (P : Pg) (w : Cf) (lp : Lo) : (QdV P w ).ok lp QdT := ⟨(Jv [s_, s_, s_, h_2e, h_2d, h_2b, h_2d, h_2a, h_26, h_7c, Qha, Qhb]), rfl⟩
def WF.s : Nat → Option (List ByteArray)
  | 0 => none
  | k + 1 => Qhy
theorem WF.ok : ∀ (k : Nat), QiV (ev k) (WF.s k)
  | 0, _, h => (nomatch h)
  | k + 1, r, h => fn_ok rfl (QdV pp (ev k) ) (QtG _ ) (QtH _ _ _ ) h
noncomputable def WF : Option (List ByteArray) := Qhy
theorem WF.cv : Cv (fun k => WF.s k ) (WF ) := .un rfl (by exact .const _)
theorem WF.eq : WF = Qhy := rfl
def ZM (r : (Int × Qb)) : AV × Heap := (xi r.1, [(0, .box [] (Jd r.2))])
abbrev JO := (List Int) → Qb → Option (Int × Qb)
abbrev PB (a1 : (List Int)) (h0 : Qb) : List AV × Heap := ([.ptr 0 0, .sl (JE a1)], [(0, .box [] (Jd h0))])
abbrev Qa4 (w : Cf) (a1 : (List Int)) (h0 : Qb) : Option AH := w 244 (PB a1 h0).1 (PB a1 h0).2
abbrev Sg (w : Cf) (c : JO) : Prop := ∀ (a1 : (List Int)) (h0 : Qb) (r : (Int × Qb)), c a1 h0 = some r → Qa4 w a1 h0 = some (ZM r)
structure Q7 where
  x7 : (List Int)
  x8 : Int
  x9 : Int
  h0 : Qb
structure J7 where
  x4 : Int
  h0 : Qb
def Yn (a : Q7) : St := { n := 21, nx := 1, env := [(0, .ptr 0 0), (7, .sl (JE a.x7)), (8, xi a.x8), (9, xi a.x9)], heap := [(0, .box [] (Jd a.h0))] }
def Qb6 (a : J7) : Ex × St := (.ret, { n := 21, nx := 1, env := [(4, xi a.x4)], heap := [(0, .box [] (Jd a.h0))] })
def Qb7 (a : Qb) : Ex × St := (.exit 0, { n := 21, nx := 1, env := [], heap := [(0, .box [] (Jd a))] })
def ZN (a : (J7 ⊕ Qb)) : Ex × St := Sum.elim Qb6 Qb7 a
abbrev XK := Q7 → Option (J7 ⊕ Qb)
abbrev Qkr (P : Pg) (lp : Lo) (l : XK) : Prop := ∀ (a : Q7) (r : (J7 ⊕ Qb)), l a = some r → lp (loopAt P 244 2) (Yn a) = some (ZN r)
def Xo (C0 : YP) (C1 : Je) (a : Q7) : Option (Q7 ⊕ (J7 ⊕ Qb)) := (bif (decide (a.x9 < a.x8)) then (bif (decide (0 ≤ a.x9)) then ((a.x7[(Int.toNat a.x9)]?).bind fun e1 => ((C0).bind fun r2 => (bif (decide (0 ≤ e1)) then ((r2[(Int.toNat e1)]?).bind fun e3 => ((C1 e3 a.h0).bind fun r4 => (bif r4.1 then (some (.inr (.inl (J7.mk e1 r4.2)))) else (some (.inl (Q7.mk a.x7 a.x8 (w64 (a.x9 + 1)) r4.2)))))) else none))) else none) else (some (.inr (.inr a.h0))))
def EA (P : Pg) (w : Cf) (C0 : YP) (C1 : Je) (a : Q7) : Tr (Q7 ⊕ (J7 ⊕ Qb)) XS := (.as (decide (a.x9 < a.x8)) (.as (decide (0 ≤ a.x9)) (.row ((JE a.x7)[(Int.toNat a.x9)]?) (a.x7[(Int.toNat a.x9)]?) Z1 fun (e1 : Int) => (.call (QmE w) (C0) QdT fun r2 => (.as (decide (0 ≤ e1)) (.row ((Qh r2)[(Int.toNat e1)]?) (r2[(Int.toNat e1)]?) JL fun (e3 : ByteArray) => (.call (ZL w e3 a.h0) (C1 e3 a.h0) Wq fun r4 => (.as r4.1 (rx ZN (.inl (J7.mk e1 r4.2))) (lf Yn (Q7.mk a.x7 a.x8 (w64 (a.x9 + 1)) r4.2))))) .fail))) .fail) (rx ZN (.inr a.h0)))
theorem QjC (w : Cf) (C0 : YP) (C1 : Je) (a : Q7) : (EA pp w C0 C1 a).norm (roundT pp G.kd w 1 (G.an 244) (loopAt pp 244 2) (Yn a)) = EA pp w C0 C1 a := by kernel_rfl
theorem QjD (P : Pg) (w : Cf) (lp : Lo) (C0 : YP) (C1 : Je) (K0 : QiV w C0) (K1 : EV w C1) (a : Q7) : (EA P w C0 C1 a).ok lp (Sum.elim (fun a => (.norm, Yn a)) ZN) := ⟨rfl, fun q0 => ⟨rfl, fun q1 => fun e1 h => ⟨WP h, fun r2 hr2 => ⟨K0 _ hr2, ⟨rfl, fun q2 => fun e3 h => ⟨Jo h, fun r4 hr4 => ⟨K1 _ _ _ hr4, ⟨rfl, fun q3 => rfl, fun q3 => rfl⟩⟩⟩, fun q2 => trivial⟩⟩⟩, fun q1 => trivial⟩, fun q0 => rfl⟩
theorem QjE {C0 : Nat → YP} {D0 : YP} (H0 : Cv C0 D0) {C1 : Nat → Je} {D1 : Je} (H1 : Cv2 C1 D1) (a : Q7) : Cv (fun k => Xo (C0 k) (C1 k) a) (Xo D0 D1 a) := by
  unfold Xo
  exact .cond (.cond (.bind (.const _) fun e1 => .bind (H0) fun r2 => .cond (.bind (.const _) fun e3 => .bind (H1 _ _) fun r4 => by exact .const _) cst) cst) cst
def Uh.s (k : Nat) (C0 : YP) (C1 : Je) : Q7 → Option (J7 ⊕ Qb) := iter (Xo C0 C1) k
theorem QiW (w : Cf) (k : Nat) (C0 : YP) (C1 : Je) (K0 : QiV w C0) (K1 : EV w C1) (a : Q7) (r : (J7 ⊕ Qb)) (h : Uh.s k C0 C1 a = some r) : loopsF pp G.kd w 1 (G.an 244) k (loopAt pp 244 2) (Yn a) = some (ZN r) :=
  Va (fun a => EA pp w C0 C1 a) (fun _ => rfl) (fun a => QjC w _ _ a) (fun a => QjD _ w _ _ _ K0 K1 a) (fun r => by cases r <;> nofun) h
noncomputable def Uh.w (C0 : YP) (C1 : Je) : Q7 → Option (J7 ⊕ Qb) := loopW (Xo C0 C1)
theorem Uh.cv (C0 : Nat → YP) (C1 : Nat → Je) (D0 : YP) (D1 : Je) (H0 : Cv C0 D0) (H1 : Cv2 C1 D1) (a : Q7) : Cv (fun k => Uh.s k (C0 k) (C1 k) a) (Uh.w D0 D1 a) := Cv.iter (fun a => QjE H0 H1 a) a
def Yz (L0 : XK) (a1 : (List Int)) (h0 : Qb) : Option (Int × Qb) := ((L0 (Q7.mk a1 (((a1.length) : Nat) : Int) (0 : Int) h0)).bind fun x => Sum.elim (fun (o1 : J7) => (some (o1.x4, o1.h0))) (fun (o2 : Qb) => (some ((0 : Int), o2))) x)
def PC (P : Pg) (w : Cf) (L0 : XK) (a1 : (List Int)) (h0 : Qb) : Tr (Int × Qb) AH := (.num ((JE a1).length) (a1.length) (.loop2 (loopAt P 244 2) (Yn (Q7.mk a1 (((a1.length) : Nat) : Int) i0 h0)) (L0 (Q7.mk a1 (((a1.length) : Nat) : Int) i0 h0)) Qb6 Qb7 (fun (o1 : J7) => (rt ZM (o1.x4, o1.h0))) (fun (o2 : Qb) => (rt ZM (i0, o2)))))
theorem QmF (w : Cf) (L0 : XK) (a1 : (List Int)) (h0 : Qb) : (PC pp w L0 a1 h0).norm (bodyT pp w G 244 (PB a1 h0).1 (PB a1 h0).2) = PC pp w L0 a1 h0 := by kernel_rfl
theorem QmG (P : Pg) (w : Cf) (lp : Lo) (L0 : XK) (N0 : Qkr P lp L0) (a1 : (List Int)) (h0 : Qb) : (PC P w L0 a1 h0).ok lp ZM := ⟨(WI _), ⟨fun o1 ho1 => ⟨N0 _ (.inl _) ho1, rfl⟩, fun o2 ho2 => ⟨N0 _ (.inr _) ho2, rfl⟩⟩⟩
theorem QmH {L0 : Nat → XK} {M0 : XK} (N0 : Cv1 L0 M0) (a1 : (List Int)) (h0 : Qb) : Cv (fun k => Yz (L0 k) a1 h0) (Yz M0 a1 h0) := by
  unfold Yz
  exact .bind (N0 _) fun x => .sum (fun o1 => by exact .const _) (fun o2 => by exact .const _) x
def Q1.s : Nat → (List Int) → Qb → Option (Int × Qb)
  | 0, _, _ => none
  | k + 1, a1, h0 => Yz (Uh.s k (WF.s k) (QT.s k)) a1 h0
theorem Q1.ok : ∀ (k : Nat), Sg (ev k) (Q1.s k)
  | 0, _, _, _, h => (nomatch h)
  | k + 1, a1, h0, r, h => fn_ok rfl (PC pp (ev k) (Uh.s k (WF.s k) (QT.s k)) a1 h0) (QmF _ _ a1 h0) (QmG _ _ _ _ (QiW _ k _ _ (WF.ok k) (QT.ok k)) a1 h0) h
noncomputable def Uh : Q7 → Option (J7 ⊕ Qb) := Uh.w WF QT
theorem Uh.eq (a : Q7) : Uh a = (Xo WF QT a).bind (Sum.elim Uh some) := UN _ _
noncomputable def Q1 (a1 : (List Int)) (h0 : Qb) : Option (Int × Qb) := Yz Uh a1 h0
theorem Q1.cv (a1 : (List Int)) (h0 : Qb) : Cv (fun k => Q1.s k a1 h0) (Q1 a1 h0) := .un rfl (QmH (Uh.cv (fun k => WF.s k) (fun k => QT.s k) WF QT WF.cv QT.cv) a1 h0)
theorem Q1.eq (a1 : (List Int)) (h0 : Qb) : Q1 a1 h0 = Yz Uh a1 h0 := rfl
def GB (r : (Qa × Qb)) : AV × Heap := (.agg (QZ r.1), [(0, .box [] (Jd r.2))])
def Z6 (r : (Qa × Qb)) : AV × Heap := (.agg (QZ r.1), [(0, .box [] (Jd r.2))])
def FX (r : (Qa × Qb)) : AV × Heap := (.agg (QZ r.1), [(0, .box [] (Jd r.2))])
def Zq (r : (Qa × Qb)) : AV × Heap := (.agg (QZ r.1), [(0, .box [] (Jd r.2))])
def UX (r : (Qa × Qb)) : AV × Heap := (.agg (QZ r.1), [(0, .box [] (Jd r.2))])
def X4 (r : (Qa × Qb)) : AV × Heap := (.agg (QZ r.1), [(0, .box [] (Jd r.2))])
abbrev YA := Qb → Option (Qa × Qb)
abbrev FY (h0 : Qb) : List AV × Heap := ([.ptr 0 0], [(0, .box [] (Jd h0))])
abbrev Qex (w : Cf) (h0 : Qb) : Option AH := w 263 (FY h0).1 (FY h0).2
abbrev QfT (w : Cf) (c : YA) : Prop := ∀ (h0 : Qb) (r : (Qa × Qb)), c h0 = some r → Qex w h0 = some (GB r)
abbrev Yc := Qb → Option (Qa × Qb)
abbrev E8 (h0 : Qb) : List AV × Heap := ([.ptr 0 0, .fn (.func 263) [.ptr 0 0] []], [(0, .box [] (Jd h0))])
abbrev QdW (w : Cf) (h0 : Qb) : Option AH := w 262 (E8 h0).1 (E8 h0).2
abbrev Qey (w : Cf) (c : Yc) : Prop := ∀ (h0 : Qb) (r : (Qa × Qb)), c h0 = some r → QdW w h0 = some (Z6 r)
abbrev YB := Qb → Option (Qa × Qb)
abbrev FZ (h0 : Qb) : List AV × Heap := ([.ptr 0 0], [(0, .box [] (Jd h0))])
abbrev Qez (w : Cf) (h0 : Qb) : Option AH := w 264 (FZ h0).1 (FZ h0).2
abbrev QfU (w : Cf) (c : YB) : Prop := ∀ (h0 : Qb) (r : (Qa × Qb)), c h0 = some r → Qez w h0 = some (FX r)
abbrev Xp := Qb → Option (Qa × Qb)
abbrev G8 (h0 : Qb) : List AV × Heap := ([.ptr 0 0, .fn (.func 264) [.ptr 0 0] []], [(0, .box [] (Jd h0))])
abbrev Qb8 (w : Cf) (h0 : Qb) : Option AH := w 262 (G8 h0).1 (G8 h0).2
abbrev QcY (w : Cf) (c : Xp) : Prop := ∀ (h0 : Qb) (r : (Qa × Qb)), c h0 = some r → Qb8 w h0 = some (Zq r)
abbrev VO := Qb → Option (Qa × Qb)
abbrev Si (h0 : Qb) : List AV × Heap := ([.ptr 0 0], [(0, .box [] (Jd h0))])
abbrev QbU (w : Cf) (h0 : Qb) : Option AH := w 243 (Si h0).1 (Si h0).2
abbrev QcC (w : Cf) (c : VO) : Prop := ∀ (h0 : Qb) (r : (Qa × Qb)), c h0 = some r → QbU w h0 = some (UX r)
abbrev QK := Int → Qb → Option (Qa × Qb)
abbrev Sj (a1 : Int) (h0 : Qb) : List AV × Heap := ([.ptr 0 0, xi a1], [(0, .box [] (Jd h0))])
abbrev EW (w : Cf) (a1 : Int) (h0 : Qb) : Option AH := w 215 (Sj a1 h0).1 (Sj a1 h0).2
abbrev Zx (w : Cf) (c : QK) : Prop := ∀ (a1 : Int) (h0 : Qb) (r : (Qa × Qb)), c a1 h0 = some r → EW w a1 h0 = some (X4 r)
def Zh (C0 : QK) (C1 : Je) (C2 : Qu) (h0 : Qb) : Option (Qa × Qb) := ((C0 (0 : Int) h0).bind fun r1 => ((C1 h_29 r1.2).bind fun r2 => (bif (!r2.1) then ((C2 r2.2).bind fun r3 => (some (r3.1, r3.2))) else (some (r1.1, r2.2)))))
def F0 (P : Pg) (w : Cf) (C0 : QK) (C1 : Je) (C2 : Qu) (h0 : Qb) : Tr (Qa × Qb) AH := (.call (EW w i0 h0) (C0 i0 h0) X4 fun r1 => (.call (ZL w h_29 r1.2) (C1 h_29 r1.2) Wq fun r2 => (.as (!r2.1) (.call (WR w r2.2) (C2 r2.2) V2 fun r3 => (rt GB (r3.1, r3.2))) (rt GB (r1.1, r2.2)))))
theorem Qlu (w : Cf) (C0 : QK) (C1 : Je) (C2 : Qu) (h0 : Qb) : (F0 pp w C0 C1 C2 h0).norm (bodyT pp w G 263 (FY h0).1 (FY h0).2) = F0 pp w C0 C1 C2 h0 := by kernel_rfl
theorem Qlv (P : Pg) (w : Cf) (lp : Lo) (C0 : QK) (C1 : Je) (C2 : Qu) (K0 : Zx w C0) (K1 : EV w C1) (K2 : X1 w C2) (h0 : Qb) : (F0 P w C0 C1 C2 h0).ok lp GB := fun r1 hr1 => ⟨K0 _ _ _ hr1, fun r2 hr2 => ⟨K1 _ _ _ hr2, ⟨rfl, fun q0 => fun r3 hr3 => ⟨K2 _ _ hr3, rfl⟩, fun q0 => rfl⟩⟩⟩
theorem QeA {C0 : Nat → QK} {D0 : QK} (H0 : Cv2 C0 D0) {C1 : Nat → Je} {D1 : Je} (H1 : Cv2 C1 D1) {C2 : Nat → Qu} {D2 : Qu} (H2 : Cv1 C2 D2) (h0 : Qb) : Cv (fun k => Zh (C0 k) (C1 k) (C2 k) h0) (Zh D0 D1 D2 h0) := by
  unfold Zh
  exact .bind (H0 _ _) fun r1 => .bind (H1 _ _) fun r2 => .cond (.bind (H2 _) fun r3 => by exact .const _) cst
def XL (C0 : Qu) (C1 : YA) (h0 : Qb) : Option (Qa × Qb) := (bif (decide (h0.deep ≥ 12)) then ((C0 h0).bind fun r1 => (some (r1.1, r1.2))) else ((C1 (Qb.mk h0.left (w64 (h0.deep + 1)) h0.bad)).bind fun r2 => (some (r2.1, (Qb.mk r2.2.left (w64 (r2.2.deep - 1)) r2.2.bad)))))
def E9 (P : Pg) (w : Cf) (C0 : Qu) (C1 : YA) (h0 : Qb) : Tr (Qa × Qb) AH := (.as (decide (h0.deep ≥ 12)) (.call (WR w h0) (C0 h0) V2 fun r1 => (rt Z6 (r1.1, r1.2))) (.call (Qex w (Qb.mk h0.left (w64 (h0.deep + 1)) h0.bad)) (C1 (Qb.mk h0.left (w64 (h0.deep + 1)) h0.bad)) GB fun r2 => (rt Z6 (r2.1, (Qb.mk r2.2.left (w64 (r2.2.deep - 1)) r2.2.bad)))))
theorem Qks (w : Cf) (C0 : Qu) (C1 : YA) (h0 : Qb) : (E9 pp w C0 C1 h0).norm (bodyT pp w G 262 (E8 h0).1 (E8 h0).2) = E9 pp w C0 C1 h0 := by kernel_rfl
theorem Qkt (P : Pg) (w : Cf) (lp : Lo) (C0 : Qu) (C1 : YA) (K0 : X1 w C0) (K1 : QfT w C1) (h0 : Qb) : (E9 P w C0 C1 h0).ok lp Z6 := ⟨rfl, fun q0 => fun r1 hr1 => ⟨K0 _ _ hr1, rfl⟩, fun q0 => fun r2 hr2 => ⟨K1 _ _ hr2, rfl⟩⟩
theorem QdX {C0 : Nat → Qu} {D0 : Qu} (H0 : Cv1 C0 D0) {C1 : Nat → YA} {D1 : YA} (H1 : Cv1 C1 D1) (h0 : Qb) : Cv (fun k => XL (C0 k) (C1 k) h0) (XL D0 D1 h0) := by
  unfold XL
  exact .cond (.bind (H0 _) fun r1 => by exact .const _) (.bind (H1 _) fun r2 => by exact .const _)
def Zi (C0 : VO) (h0 : Qb) : Option (Qa × Qb) := ((C0 h0).bind fun r1 => (some ((Qa.mk (4 : Int) (0 : Int) s_ [r1.1]), r1.2)))
def F1 (P : Pg) (w : Cf) (C0 : VO) (h0 : Qb) : Tr (Qa × Qb) AH := (.call (QbU w h0) (C0 h0) UX fun r1 => (.rows [[xi r1.1.Kind, xi r1.1.N, xs r1.1.Name, .sl (QY r1.1.L)]] (QY [r1.1]) (rt FX ((Qa.mk (zi 4) i0 s_ [r1.1]), r1.2))))
theorem Qlw (w : Cf) (C0 : VO) (h0 : Qb) : (F1 pp w C0 h0).norm (bodyT pp w G 264 (FZ h0).1 (FZ h0).2) = F1 pp w C0 h0 := by kernel_rfl
theorem Qlx (P : Pg) (w : Cf) (lp : Lo) (C0 : VO) (K0 : QcC w C0) (h0 : Qb) : (F1 P w C0 h0).ok lp FX := fun r1 hr1 => ⟨K0 _ _ hr1, ⟨(ZF [r1.1]), rfl⟩⟩
theorem QeB {C0 : Nat → VO} {D0 : VO} (H0 : Cv1 C0 D0) (h0 : Qb) : Cv (fun k => Zi (C0 k) h0) (Zi D0 h0) := by
  unfold Zi
  exact .bind (H0 _) fun r1 => by exact .const _
def WX (C0 : Qu) (C1 : YB) (h0 : Qb) : Option (Qa × Qb) := (bif (decide (h0.deep ≥ 12)) then ((C0 h0).bind fun r1 => (some (r1.1, r1.2))) else ((C1 (Qb.mk h0.left (w64 (h0.deep + 1)) h0.bad)).bind fun r2 => (some (r2.1, (Qb.mk r2.2.left (w64 (r2.2.deep - 1)) r2.2.bad)))))
def G9 (P : Pg) (w : Cf) (C0 : Qu) (C1 : YB) (h0 : Qb) : Tr (Qa × Qb) AH := (.as (decide (h0.deep ≥ 12)) (.call (WR w h0) (C0 h0) V2 fun r1 => (rt Zq (r1.1, r1.2))) (.call (Qez w (Qb.mk h0.left (w64 (h0.deep + 1)) h0.bad)) (C1 (Qb.mk h0.left (w64 (h0.deep + 1)) h0.bad)) FX fun r2 => (rt Zq (r2.1, (Qb.mk r2.2.left (w64 (r2.2.deep - 1)) r2.2.bad)))))
theorem QiX (w : Cf) (C0 : Qu) (C1 : YB) (h0 : Qb) : (G9 pp w C0 C1 h0).norm (bodyT pp w G 262 (G8 h0).1 (G8 h0).2) = G9 pp w C0 C1 h0 := by kernel_rfl
theorem QiY (P : Pg) (w : Cf) (lp : Lo) (C0 : Qu) (C1 : YB) (K0 : X1 w C0) (K1 : QfU w C1) (h0 : Qb) : (G9 P w C0 C1 h0).ok lp Zq := ⟨rfl, fun q0 => fun r1 hr1 => ⟨K0 _ _ hr1, rfl⟩, fun q0 => fun r2 hr2 => ⟨K1 _ _ hr2, rfl⟩⟩
theorem Qb9 {C0 : Nat → Qu} {D0 : Qu} (H0 : Cv1 C0 D0) {C1 : Nat → YB} {D1 : YB} (H1 : Cv1 C1 D1) (h0 : Qb) : Cv (fun k => WX (C0 k) (C1 k) h0) (WX D0 D1 h0) := by
  unfold WX
  exact .cond (.bind (H0 _) fun r1 => by exact .const _) (.bind (H1 _) fun r2 => by exact .const _)
def Xe (C0 : Je) (C1 : Yc) (C2 : Xp) (C3 : XH) (C4 : QcB) (C5 : X9) (C6 : Yy) (C7 : YX) (C8 : Wl) (C9 : SW) (C10 : Qu) (h0 : Qb) : Option (Qa × Qb) := ((C0 h_28 h0).bind fun r1 => (bif r1.1 then ((C1 r1.2).bind fun r2 => (some (r2.1, r2.2))) else ((C0 h_2d r1.2).bind fun r3 => (bif r3.1 then ((C2 r3.2).bind fun r4 => (some (r4.1, r4.2))) else ((C0 h_2e r3.2).bind fun r5 => (bif r5.1 then (some ((Qa.mk (3 : Int) (0 : Int) s_ ([] : List Qa)), r5.2)) else (bif r5.2.bad then (some ((Qa.mk (0 : Int) (0 : Int) s_ ([] : List Qa)), r5.2)) else ((C3 r5.2.left).bind fun r6 => (bif r6 then (bif (decide (0 ≤ (2 : Int) ∧ (2 : Int) ≤ ((r5.2.left.size : Nat) : Int) ∧ ((r5.2.left.size : Nat) : Int) ≤ ((r5.2.left.size : Nat) : Int))) then ((C4 (r5.2.left.extract (Int.toNat 2) (Int.toNat ((r5.2.left.size : Nat) : Int)))).bind fun r7 => (bif (!(eqS r7 s_)) then ((C4 (r5.2.left.extract (Int.toNat 2) (Int.toNat ((r5.2.left.size : Nat) : Int)))).bind fun r8 => ((C5 r8 (16 : Int) (Qb.mk (r5.2.left.extract (Int.toNat 2) (Int.toNat ((r5.2.left.size : Nat) : Int))) r5.2.deep r5.2.bad)).bind fun r9 => ((C6 r9.1 r9.2).bind fun r10 => (some (r10.1, r10.2))))) else ((C7 r5.2.left).bind fun r11 => (bif (!(eqS r11 s_)) then ((C5 r11 (10 : Int) r5.2).bind fun r12 => ((C6 r12.1 r12.2).bind fun r13 => (some (r13.1, r13.2)))) else ((C8 r5.2.left).bind fun r14 => ((C9 r14).bind fun r15 => (bif r15 then (bif (decide (0 ≤ ((r14.size : Nat) : Int) ∧ ((r14.size : Nat) : Int) ≤ ((r5.2.left.size : Nat) : Int) ∧ ((r5.2.left.size : Nat) : Int) ≤ ((r5.2.left.size : Nat) : Int))) then (some ((Qa.mk (2 : Int) (0 : Int) r14 ([] : List Qa)), (Qb.mk (r5.2.left.extract (Int.toNat ((r14.size : Nat) : Int)) (Int.toNat ((r5.2.left.size : Nat) : Int))) r5.2.deep r5.2.bad))) else none) else ((C10 r5.2).bind fun r16 => (some (r16.1, r16.2)))))))))) else none) else ((C7 r5.2.left).bind fun r17 => (bif (!(eqS r17 s_)) then ((C5 r17 (10 : Int) r5.2).bind fun r18 => ((C6 r18.1 r18.2).bind fun r19 => (some (r19.1, r19.2)))) else ((C8 r5.2.left).bind fun r20 => ((C9 r20).bind fun r21 => (bif r21 then (bif (decide (0 ≤ ((r20.size : Nat) : Int) ∧ ((r20.size : Nat) : Int) ≤ ((r5.2.left.size : Nat) : Int) ∧ ((r5.2.left.size : Nat) : Int) ≤ ((r5.2.left.size : Nat) : Int))) then (some ((Qa.mk (2 : Int) (0 : Int) r20 ([] : List Qa)), (Qb.mk (r5.2.left.extract (Int.toNat ((r20.size : Nat) : Int)) (Int.toNat ((r5.2.left.size : Nat) : Int))) r5.2.deep r5.2.bad))) else none) else ((C10 r5.2).bind fun r22 => (some (r22.1, r22.2)))))))))))))))))
def Sk (P : Pg) (w : Cf) (C0 : Je) (C1 : Yc) (C2 : Xp) (C3 : XH) (C4 : QcB) (C5 : X9) (C6 : Yy) (C7 : YX) (C8 : Wl) (C9 : SW) (C10 : Qu) (h0 : Qb) : Tr (Qa × Qb) AH := (.call (ZL w h_28 h0) (C0 h_28 h0) Wq fun r1 => (.as r1.1 (.call (QdW w r1.2) (C1 r1.2) Z6 fun r2 => (rt UX (r2.1, r2.2))) (.call (ZL w h_2d r1.2) (C0 h_2d r1.2) Wq fun r3 => (.as r3.1 (.call (Qb8 w r3.2) (C2 r3.2) Zq fun r4 => (rt UX (r4.1, r4.2))) (.call (ZL w h_2e r3.2) (C0 h_2e r3.2) Wq fun r5 => (.as r5.1 (rt UX ((Qa.mk (zi 3) i0 s_ ([] : List Qa)), r5.2)) (.as r5.2.bad (rt UX ((Qa.mk i0 i0 s_ ([] : List Qa)), r5.2)) (.call (QcW w r5.2.left) (C3 r5.2.left) Ew fun r6 => (.as r6 (yesN 4 r6 (let u58 := (in2 (zi 2) (zz r5.2.left) (zz r5.2.left)); .as u58 (.yes r6 (.call (QmB w (cu r5.2.left (zi 2) (zz r5.2.left))) (C4 (cu r5.2.left (zi 2) (zz r5.2.left))) QcX fun r7 => (yesN 2 r6 (.as (!(eqS r7 s_)) (.yes u58 (.call (QmB w (cu r5.2.left (zi 2) (zz r5.2.left))) (C4 (cu r5.2.left (zi 2) (zz r5.2.left))) QcX fun r8 => (.call (E6 w r8 (zi 16) (Qb.mk (cu r5.2.left (zi 2) (zz r5.2.left)) r5.2.deep r5.2.bad)) (C5 r8 (zi 16) (Qb.mk (cu r5.2.left (zi 2) (zz r5.2.left)) r5.2.deep r5.2.bad)) XI fun r9 => (.call (FV w r9.1 r9.2) (C6 r9.1 r9.2) Ya fun r10 => (rt UX (r10.1, r10.2)))))) (.call (Qfj w r5.2.left) (C7 r5.2.left) PY fun r11 => (.as (!(eqS r11 s_)) (.call (E6 w r11 (zi 10) r5.2) (C5 r11 (zi 10) r5.2) XI fun r12 => (.call (FV w r12.1 r12.2) (C6 r12.1 r12.2) Ya fun r13 => (rt UX (r13.1, r13.2)))) (.call (Qb5 w r5.2.left) (C8 r5.2.left) Fh fun r14 => (.call (QiU w r14) (C9 r14) Zp fun r15 => (.as r15 (.as (in2 (zz r14) (zz r5.2.left) (zz r5.2.left)) (rt UX ((Qa.mk (zi 2) i0 r14 ([] : List Qa)), (Qb.mk (cu r5.2.left (zz r14) (zz r5.2.left)) r5.2.deep r5.2.bad))) .fail) (.call (WR w r5.2) (C10 r5.2) V2 fun r16 => (rt UX (r16.1, r16.2)))))))))))) .fail)) (noN 7 r6 (.no false (.call (Qfj w r5.2.left) (C7 r5.2.left) PY fun r17 => (.as (!(eqS r17 s_)) (.call (E6 w r17 (zi 10) r5.2) (C5 r17 (zi 10) r5.2) XI fun r18 => (.call (FV w r18.1 r18.2) (C6 r18.1 r18.2) Ya fun r19 => (rt UX (r19.1, r19.2)))) (.call (Qb5 w r5.2.left) (C8 r5.2.left) Fh fun r20 => (.call (QiU w r20) (C9 r20) Zp fun r21 => (.as r21 (.as (in2 (zz r20) (zz r5.2.left) (zz r5.2.left)) (rt UX ((Qa.mk (zi 2) i0 r20 ([] : List Qa)), (Qb.mk (cu r5.2.left (zz r20) (zz r5.2.left)) r5.2.deep r5.2.bad))) .fail) (.call (WR w r5.2) (C10 r5.2) V2 fun r22 => (rt UX (r22.1, r22.2)))))))))))))))))))
theorem QnP (w : Cf) (C0 : Je) (C1 : Yc) (C2 : Xp) (C3 : XH) (C4 : QcB) (C5 : X9) (C6 : Yy) (C7 : YX) (C8 : Wl) (C9 : SW) (C10 : Qu) (h0 : Qb) : (Sk pp w C0 C1 C2 C3 C4 C5 C6 C7 C8 C9 C10 h0).norm (bodyT pp w G 243 (Si h0).1 (Si h0).2) = Sk pp w C0 C1 C2 C3 C4 C5 C6 C7 C8 C9 C10 h0 := by kernel_rfl
theorem QnQ (P : Pg) (w : Cf) (lp : Lo) (C0 : Je) (C1 : Yc) (C2 : Xp) (C3 : XH) (C4 : QcB) (C5 : X9) (C6 : Yy) (C7 : YX) (C8 : Wl) (C9 : SW) (C10 : Qu) (K0 : EV w C0) (K1 : Qey w C1) (K2 : QcY w C2) (K3 : QdJ w C3) (K4 : Qtx w C4) (K5 : Qew w C5) (K6 : QfS w C6) (K7 : Qkq w C7) (K8 : Qgy w C8) (K9 : QpP w C9) (K10 : X1 w C10) (h0 : Qb) : (Sk P w C0 C1 C2 C3 C4 C5 C6 C7 C8 C9 C10 h0).ok lp UX := fun r1 hr1 => ⟨K0 _ _ _ hr1, ⟨rfl, fun q0 => fun r2 hr2 => ⟨K1 _ _ hr2, rfl⟩, fun q0 => fun r3 hr3 => ⟨K0 _ _ _ hr3, ⟨rfl, fun q1 => fun r4 hr4 => ⟨K2 _ _ hr4, rfl⟩, fun q1 => fun r5 hr5 => ⟨K0 _ _ _ hr5, ⟨rfl, fun q2 => rfl, fun q2 => ⟨rfl, fun q3 => rfl, fun q3 => fun r6 hr6 => ⟨K3 _ _ hr6, ⟨rfl, fun q4 => Qj 4 (q4) (⟨rfl, fun q5 => ⟨q4, fun r7 hr7 => ⟨K4 _ _ hr7, Qj 2 (q4) (⟨rfl, fun q6 => ⟨q5, fun r8 hr8 => ⟨K4 _ _ hr8, fun r9 hr9 => ⟨K5 _ _ _ _ hr9, fun r10 hr10 => ⟨K6 _ _ _ hr10, rfl⟩⟩⟩⟩, fun q6 => fun r11 hr11 => ⟨K7 _ _ hr11, ⟨rfl, fun q7 => fun r12 hr12 => ⟨K5 _ _ _ _ hr12, fun r13 hr13 => ⟨K6 _ _ _ hr13, rfl⟩⟩, fun q7 => fun r14 hr14 => ⟨K8 _ _ hr14, fun r15 hr15 => ⟨K9 _ _ hr15, ⟨rfl, fun q8 => ⟨rfl, fun q9 => rfl, fun q9 => trivial⟩, fun q8 => fun r16 hr16 => ⟨K10 _ _ hr16, rfl⟩⟩⟩⟩⟩⟩⟩)⟩⟩, fun q5 => trivial⟩), fun q4 => noN_ok 7 (q4) (⟨rfl, fun r17 hr17 => ⟨K7 _ _ hr17, ⟨rfl, fun q5 => fun r18 hr18 => ⟨K5 _ _ _ _ hr18, fun r19 hr19 => ⟨K6 _ _ _ hr19, rfl⟩⟩, fun q5 => fun r20 hr20 => ⟨K8 _ _ hr20, fun r21 hr21 => ⟨K9 _ _ hr21, ⟨rfl, fun q6 => ⟨rfl, fun q7 => rfl, fun q7 => trivial⟩, fun q6 => fun r22 hr22 => ⟨K10 _ _ hr22, rfl⟩⟩⟩⟩⟩⟩⟩)⟩⟩⟩⟩⟩⟩⟩⟩⟩
theorem Qgi {C0 : Nat → Je} {D0 : Je} (H0 : Cv2 C0 D0) {C1 : Nat → Yc} {D1 : Yc} (H1 : Cv1 C1 D1) {C2 : Nat → Xp} {D2 : Xp} (H2 : Cv1 C2 D2) {C3 : Nat → XH} {D3 : XH} (H3 : Cv1 C3 D3) {C4 : Nat → QcB} {D4 : QcB} (H4 : Cv1 C4 D4) {C5 : Nat → X9} {D5 : X9} (H5 : Cv3 C5 D5) {C6 : Nat → Yy} {D6 : Yy} (H6 : Cv2 C6 D6) {C7 : Nat → YX} {D7 : YX} (H7 : Cv1 C7 D7) {C8 : Nat → Wl} {D8 : Wl} (H8 : Cv1 C8 D8) {C9 : Nat → SW} {D9 : SW} (H9 : Cv1 C9 D9) {C10 : Nat → Qu} {D10 : Qu} (H10 : Cv1 C10 D10) (h0 : Qb) : Cv (fun k => Xe (C0 k) (C1 k) (C2 k) (C3 k) (C4 k) (C5 k) (C6 k) (C7 k) (C8 k) (C9 k) (C10 k) h0) (Xe D0 D1 D2 D3 D4 D5 D6 D7 D8 D9 D10 h0) := by
  unfold Xe
  exact .bind (H0 _ _) fun r1 => .cond (.bind (H1 _) fun r2 => by exact .const _) (.bind (H0 _ _) fun r3 => .cond (.bind (H2 _) fun r4 => by exact .const _) (.bind (H0 _ _) fun r5 => .cond cst (.cond cst (.bind (H3 _) fun r6 => .cond (.cond (.bind (H4 _) fun r7 => .cond (.bind (H4 _) fun r8 => .bind (H5 _ _ _) fun r9 => .bind (H6 _ _) fun r10 => by exact .const _) (.bind (H7 _) fun r11 => .cond (.bind (H5 _ _ _) fun r12 => .bind (H6 _ _) fun r13 => by exact .const _) (.bind (H8 _) fun r14 => .bind (H9 _) fun r15 => .cond cst (.bind (H10 _) fun r16 => by exact .const _)))) cst) (.bind (H7 _) fun r17 => .cond (.bind (H5 _ _ _) fun r18 => .bind (H6 _ _) fun r19 => by exact .const _) (.bind (H8 _) fun r20 => .bind (H9 _) fun r21 => .cond cst (.bind (H10 _) fun r22 => by exact .const _)))))))
structure Ja where
  x1 : Int
  x6 : Int
  h0 : Qb
  h1 : Qa
  h2 : Qa
structure J0 where
  h0 : Qb
  h1 : Qa
  h2 : Qa
def YY (a : Ja) : St := { n := 47, nx := 3, env := [(0, .ptr 0 0), (1, xi a.x1), (4, .ptr 1 0), (5, .ptr 2 0), (6, xi a.x6)], heap := [(0, .box [] (Jd a.h0)), (1, .box [] (QZ a.h1)), (2, .box [] (QZ a.h2))] }
def YZ (a : J0) : Ex × St := (.exit 0, { n := 47, nx := 3, env := [(4, .ptr 1 0), (5, .ptr 2 0)], heap := [(0, .box [] (Jd a.h0)), (1, .box [] (QZ a.h1)), (2, .box [] (QZ a.h2))] })
abbrev Yd := Ja → Option J0
abbrev Qly (P : Pg) (lp : Lo) (l : Yd) : Prop := ∀ (a : Ja) (r : J0), l a = some r → lp (loopAt P 215 5) (YY a) = some (YZ r)
def XM (C0 : QK) (C1 : Vj) (C2 : JO) (a : Ja) : Option (Ja ⊕ J0) := (bif (a.x6 != 0) then (bif (!a.h0.bad) then ((C0 (w64 (a.x1 + 1)) a.h0).bind fun r1 => ((C1).bind fun r2 => (bif (decide (0 ≤ a.x1)) then ((r2[(Int.toNat a.x1)]?).bind fun e3 => ((C2 e3 r1.2).bind fun r4 => (some (.inl (Ja.mk a.x1 r4.1 r4.2 a.h1 (Qa.mk a.x6 (0 : Int) s_ [a.h2, r1.1])))))) else none))) else (some (.inr (J0.mk a.h0 a.h1 a.h2)))) else (some (.inr (J0.mk a.h0 a.h1 a.h2))))
def Fa (P : Pg) (w : Cf) (C0 : QK) (C1 : Vj) (C2 : JO) (a : Ja) : Tr (Ja ⊕ J0) XS := (let u59 := (a.x6 != 0); .as u59 (yesN 5 u59 (.as (!a.h0.bad) (.call (EW w (w64 (a.x1 + 1)) a.h0) (C0 (w64 (a.x1 + 1)) a.h0) X4 fun r1 => (.rows [[xi a.h2.Kind, xi a.h2.N, xs a.h2.Name, .sl (QY a.h2.L)], [xi r1.1.Kind, xi r1.1.N, xs r1.1.Name, .sl (QY r1.1.L)]] (QY [a.h2, r1.1]) (.call (Qcj w) (C1) Pd fun r2 => (.as (decide (0 ≤ a.x1)) (.row ((Qfz r2)[(Int.toNat a.x1)]?) (r2[(Int.toNat a.x1)]?) Ql7 fun (e3 : (List Int)) => (.call (Qa4 w e3 r1.2) (C2 e3 r1.2) ZM fun r4 => (lf YY (Ja.mk a.x1 r4.1 r4.2 a.h1 (Qa.mk a.x6 i0 s_ [a.h2, r1.1]))))) .fail)))) (rx YZ (J0.mk a.h0 a.h1 a.h2)))) (noN 5 u59 (.no false (rx YZ (J0.mk a.h0 a.h1 a.h2)))))
theorem Qku (w : Cf) (C0 : QK) (C1 : Vj) (C2 : JO) (a : Ja) : (Fa pp w C0 C1 C2 a).norm (roundT pp G.kd w 1 (G.an 215) (loopAt pp 215 5) (YY a)) = Fa pp w C0 C1 C2 a := by kernel_rfl
theorem Qkv (P : Pg) (w : Cf) (lp : Lo) (C0 : QK) (C1 : Vj) (C2 : JO) (K0 : Zx w C0) (K1 : QdI w C1) (K2 : Sg w C2) (a : Ja) : (Fa P w C0 C1 C2 a).ok lp (Sum.elim (fun a => (.norm, YY a)) YZ) := ⟨rfl, fun q0 => Qj 5 (q0) (⟨rfl, fun q1 => fun r1 hr1 => ⟨K0 _ _ _ hr1, ⟨(ZF [a.h2, r1.1]), fun r2 hr2 => ⟨K1 _ hr2, ⟨rfl, fun q2 => fun e3 h => ⟨Qpu h, fun r4 hr4 => ⟨K2 _ _ _ hr4, rfl⟩⟩, fun q2 => trivial⟩⟩⟩⟩, fun q1 => rfl⟩), fun q0 => noN_ok 5 (q0) (⟨rfl, rfl⟩)⟩
theorem QdY {C0 : Nat → QK} {D0 : QK} (H0 : Cv2 C0 D0) {C1 : Nat → Vj} {D1 : Vj} (H1 : Cv C1 D1) {C2 : Nat → JO} {D2 : JO} (H2 : Cv2 C2 D2) (a : Ja) : Cv (fun k => XM (C0 k) (C1 k) (C2 k) a) (XM D0 D1 D2 a) := by
  unfold XM
  exact .cond (.cond (.bind (H0 _ _) fun r1 => .bind (H1) fun r2 => .cond (.bind (.const _) fun e3 => .bind (H2 _ _) fun r4 => by exact .const _) cst) cst) cst
def Jj.s (k : Nat) (C0 : QK) (C1 : Vj) (C2 : JO) : Ja → Option J0 := iter (XM C0 C1 C2) k
theorem QjF (w : Cf) (k : Nat) (C0 : QK) (C1 : Vj) (C2 : JO) (K0 : Zx w C0) (K1 : QdI w C1) (K2 : Sg w C2) (a : Ja) (r : J0) (h : Jj.s k C0 C1 C2 a = some r) : loopsF pp G.kd w 1 (G.an 215) k (loopAt pp 215 5) (YY a) = some (YZ r) :=
  Va (fun a => Fa pp w C0 C1 C2 a) (fun _ => rfl) (fun a => Qku w _ _ _ a) (fun a => Qkv _ w _ _ _ _ K0 K1 K2 a) (fun r => nofun) h
theorem Jj.m {j k : Nat} (hj : j ≤ k) (C0 : QK) (C1 : Vj) (C2 : JO) (D0 : QK) (D1 : Vj) (D2 : JO) (H0 : Le2 C0 D0) (H1 : Le C1 D1) (H2 : Le2 C2 D2) (a : Ja) : Le (Jj.s j C0 C1 C2 a) (Jj.s k D0 D1 D2 a) := Le.iter (fun a => (QdY (tw2 H0) (.two H1) (tw2 H2) a).1 0) hj a
noncomputable def Jj.w (C0 : QK) (C1 : Vj) (C2 : JO) : Ja → Option J0 := loopW (XM C0 C1 C2)
theorem Jj.cv (C0 : Nat → QK) (C1 : Nat → Vj) (C2 : Nat → JO) (D0 : QK) (D1 : Vj) (D2 : JO) (H0 : Cv2 C0 D0) (H1 : Cv C1 D1) (H2 : Cv2 C2 D2) (a : Ja) : Cv (fun k => Jj.s k (C0 k) (C1 k) (C2 k) a) (Jj.w D0 D1 D2 a) := Cv.iter (fun a => QdY H0 H1 H2 a) a
def Y9 (C0 : Vj) (C1 : VO) (C2 : QK) (C3 : JO) (L4 : Yd) (a1 : Int) (h0 : Qb) : Option (Qa × Qb) := ((C0).bind fun r1 => (bif (a1 == (((r1.length) : Nat) : Int)) then ((C1 h0).bind fun r2 => (some (r2.1, r2.2))) else ((C2 (w64 (a1 + 1)) h0).bind fun r3 => ((C0).bind fun r4 => (bif (decide (0 ≤ a1)) then ((r4[(Int.toNat a1)]?).bind fun e5 => ((C3 e5 r3.2).bind fun r6 => ((L4 (Ja.mk a1 r6.1 r6.2 (Qa.mk (0 : Int) (0 : Int) s_ ([] : List Qa)) r3.1)).bind (fun (o7 : J0) => (some (o7.h2, o7.h0)))))) else none)))))
def Sl (P : Pg) (w : Cf) (C0 : Vj) (C1 : VO) (C2 : QK) (C3 : JO) (L4 : Yd) (a1 : Int) (h0 : Qb) : Tr (Qa × Qb) AH := (.call (Qcj w) (C0) Pd fun r1 => (.num ((Qfz r1).length) (r1.length) (.as (a1 == (((r1.length) : Nat) : Int)) (.call (QbU w h0) (C1 h0) UX fun r2 => (rt X4 (r2.1, r2.2))) (.call (EW w (w64 (a1 + 1)) h0) (C2 (w64 (a1 + 1)) h0) X4 fun r3 => (.call (Qcj w) (C0) Pd fun r4 => (.as (decide (0 ≤ a1)) (.row ((Qfz r4)[(Int.toNat a1)]?) (r4[(Int.toNat a1)]?) Ql7 fun (e5 : (List Int)) => (.call (Qa4 w e5 r3.2) (C3 e5 r3.2) ZM fun r6 => (.loop (loopAt P 215 5) (YY (Ja.mk a1 r6.1 r6.2 (Qa.mk i0 i0 s_ ([] : List Qa)) r3.1)) (L4 (Ja.mk a1 r6.1 r6.2 (Qa.mk i0 i0 s_ ([] : List Qa)) r3.1)) YZ (fun (o7 : J0) => (rt X4 (o7.h2, o7.h0)))))) .fail))))))
theorem QnR (w : Cf) (C0 : Vj) (C1 : VO) (C2 : QK) (C3 : JO) (L4 : Yd) (a1 : Int) (h0 : Qb) : (Sl pp w C0 C1 C2 C3 L4 a1 h0).norm (bodyT pp w G 215 (Sj a1 h0).1 (Sj a1 h0).2) = Sl pp w C0 C1 C2 C3 L4 a1 h0 := by kernel_rfl
theorem QnS (P : Pg) (w : Cf) (lp : Lo) (C0 : Vj) (C1 : VO) (C2 : QK) (C3 : JO) (L4 : Yd) (K0 : QdI w C0) (K1 : QcC w C1) (K2 : Zx w C2) (K3 : Sg w C3) (N4 : Qly P lp L4) (a1 : Int) (h0 : Qb) : (Sl P w C0 C1 C2 C3 L4 a1 h0).ok lp X4 := fun r1 hr1 => ⟨K0 _ hr1, ⟨(QwE _), ⟨rfl, fun q0 => fun r2 hr2 => ⟨K1 _ _ hr2, rfl⟩, fun q0 => fun r3 hr3 => ⟨K2 _ _ _ hr3, fun r4 hr4 => ⟨K0 _ hr4, ⟨rfl, fun q1 => fun e5 h => ⟨Qpu h, fun r6 hr6 => ⟨K3 _ _ _ hr6, fun o7 ho7 => ⟨N4 _ _ ho7, rfl⟩⟩⟩, fun q1 => trivial⟩⟩⟩⟩⟩⟩
theorem Qgj {C0 : Nat → Vj} {D0 : Vj} (H0 : Cv C0 D0) {C1 : Nat → VO} {D1 : VO} (H1 : Cv1 C1 D1) {C2 : Nat → QK} {D2 : QK} (H2 : Cv2 C2 D2) {C3 : Nat → JO} {D3 : JO} (H3 : Cv2 C3 D3) {L4 : Nat → Yd} {M4 : Yd} (N4 : Cv1 L4 M4) (a1 : Int) (h0 : Qb) : Cv (fun k => Y9 (C0 k) (C1 k) (C2 k) (C3 k) (L4 k) a1 h0) (Y9 D0 D1 D2 D3 M4 a1 h0) := by
  unfold Y9
  exact .bind (H0) fun r1 => .cond (.bind (H1 _) fun r2 => by exact .const _) (.bind (H2 _ _) fun r3 => .bind (H0) fun r4 => .cond (.bind (.const _) fun e5 => .bind (H3 _ _) fun r6 => .bind (N4 _) (fun o7 => by exact .const _)) cst)
mutual
def JP.s : Nat → Qb → Option (Qa × Qb)
  | 0, _ => none
  | k + 1, h0 => Zh (fun a1 h0 => Qk.s k a1 h0) (QT.s k) (Qp.s k) h0
termination_by structural k => k
def Q0.s : Nat → Qb → Option (Qa × Qb)
  | 0, _ => none
  | k + 1, h0 => XL (Qp.s k) (fun h0 => JP.s k h0) h0
termination_by structural k => k
def JQ.s : Nat → Qb → Option (Qa × Qb)
  | 0, _ => none
  | k + 1, h0 => Zi (fun h0 => QB.s k h0) h0
termination_by structural k => k
def QH.s : Nat → Qb → Option (Qa × Qb)
  | 0, _ => none
  | k + 1, h0 => WX (Qp.s k) (fun h0 => JQ.s k h0) h0
termination_by structural k => k
def QB.s : Nat → Qb → Option (Qa × Qb)
  | 0, _ => none
  | k + 1, h0 => Xe (QT.s k) (fun h0 => Q0.s k h0) (fun h0 => QH.s k h0) (Uf.s k) (Gl.s k) (JV.s k) (Ug.s k) (Wd.s k) (U6.s k) (X2.s k) (Qp.s k) h0
termination_by structural k => k
def Qk.s : Nat → Int → Qb → Option (Qa × Qb)
  | 0, _, _ => none
  | k + 1, a1, h0 => Y9 (Uw.s k) (fun h0 => QB.s k h0) (fun a1 h0 => Qk.s k a1 h0) (Q1.s k) (Jj.s k (fun a1 h0 => Qk.s k a1 h0) (Uw.s k) (Q1.s k)) a1 h0
termination_by structural k => k
end
theorem QcZ : ∀ (k : Nat), (QfT (ev k) (JP.s k)) ∧ (Qey (ev k) (Q0.s k)) ∧ (QfU (ev k) (JQ.s k)) ∧ (QcY (ev k) (QH.s k)) ∧ (QcC (ev k) (QB.s k)) ∧ (Zx (ev k) (Qk.s k))
  | 0 => ⟨fun _ _ h => (nomatch h), fun _ _ h => (nomatch h), fun _ _ h => (nomatch h), fun _ _ h => (nomatch h), fun _ _ h => (nomatch h), fun _ _ _ h => (nomatch h)⟩
  | k + 1 => by
    obtain ⟨i_expr_parser_group, i_expr_parser_within, i_expr_parser_minus, i_expr_parser_within_2, i_expr_parser_one, i_expr_parser_two⟩ := QcZ k
    exact ⟨fun h0 r h => fn_ok rfl (F0 pp (ev k) (Qk.s k) (QT.s k) (Qp.s k) h0) (Qlu _ _ _ _ h0) (Qlv _ _ _ _ _ _ (i_expr_parser_two) (QT.ok k) (Qp.ok k) h0) h,
      fun h0 r h => fn_ok rfl (E9 pp (ev k) (Qp.s k) (JP.s k) h0) (Qks _ _ _ h0) (Qkt _ _ _ _ _ (Qp.ok k) (i_expr_parser_group) h0) h,
      fun h0 r h => fn_ok rfl (F1 pp (ev k) (QB.s k) h0) (Qlw _ _ h0) (Qlx _ _ _ _ (i_expr_parser_one) h0) h,
      fun h0 r h => fn_ok rfl (G9 pp (ev k) (Qp.s k) (JQ.s k) h0) (QiX _ _ _ h0) (QiY _ _ _ _ _ (Qp.ok k) (i_expr_parser_minus) h0) h,
      fun h0 r h => fn_ok rfl (Sk pp (ev k) (QT.s k) (Q0.s k) (QH.s k) (Uf.s k) (Gl.s k) (JV.s k) (Ug.s k) (Wd.s k) (U6.s k) (X2.s k) (Qp.s k) h0) (QnP _ _ _ _ _ _ _ _ _ _ _ _ h0) (QnQ _ _ _ _ _ _ _ _ _ _ _ _ _ _ (QT.ok k) (i_expr_parser_within) (i_expr_parser_within_2) (Uf.ok k) (Gl.ok k) (JV.ok k) (Ug.ok k) (Wd.ok k) (U6.ok k) (X2.ok k) (Qp.ok k) h0) h,
      fun a1 h0 r h => fn_ok rfl (Sl pp (ev k) (Uw.s k) (QB.s k) (Qk.s k) (Q1.s k) (Jj.s k (Qk.s k) (Uw.s k) (Q1.s k)) a1 h0) (QnR _ _ _ _ _ _ a1 h0) (QnS _ _ _ _ _ _ _ _ (Uw.ok k) (i_expr_parser_one) (i_expr_parser_two) (Q1.ok k) (QjF _ k _ _ _ (i_expr_parser_two) (Uw.ok k) (Q1.ok k)) a1 h0) h⟩
theorem Qk.ok (k : Nat) : Zx (ev k) (Qk.s k) := (QcZ k).2.2.2.2.2
theorem WY : ∀ (k : Nat), (∀ (h0 : Qb), Le (JP.s k h0) (JP.s (k + 1) h0)) ∧ (∀ (h0 : Qb), Le (Q0.s k h0) (Q0.s (k + 1) h0)) ∧ (∀ (h0 : Qb), Le (JQ.s k h0) (JQ.s (k + 1) h0)) ∧ (∀ (h0 : Qb), Le (QH.s k h0) (QH.s (k + 1) h0)) ∧ (∀ (h0 : Qb), Le (QB.s k h0) (QB.s (k + 1) h0)) ∧ (∀ (a1 : Int) (h0 : Qb), Le (Qk.s k a1 h0) (Qk.s (k + 1) a1 h0))
  | 0 => ⟨fun _ _ h => (nomatch h), fun _ _ h => (nomatch h), fun _ _ h => (nomatch h), fun _ _ h => (nomatch h), fun _ _ h => (nomatch h), fun _ _ _ h => (nomatch h)⟩
  | k + 1 => by
    obtain ⟨i_expr_parser_group, i_expr_parser_within, i_expr_parser_minus, i_expr_parser_within_2, i_expr_parser_one, i_expr_parser_two⟩ := WY k
    exact ⟨fun h0 => (QeA (tw2 (i_expr_parser_two)) (tw2 (fun a1 h0 => (QT.cv a1 h0).1 k)) (tw1 (fun h0 => (Qp.cv h0).1 k)) h0).1 0,
      fun h0 => (QdX (tw1 (fun h0 => (Qp.cv h0).1 k)) (tw1 (i_expr_parser_group)) h0).1 0,
      fun h0 => (QeB (tw1 (i_expr_parser_one)) h0).1 0,
      fun h0 => (Qb9 (tw1 (fun h0 => (Qp.cv h0).1 k)) (tw1 (i_expr_parser_minus)) h0).1 0,
      fun h0 => (Qgi (tw2 (fun a1 h0 => (QT.cv a1 h0).1 k)) (tw1 (i_expr_parser_within)) (tw1 (i_expr_parser_within_2)) (tw1 (fun a0 => (Uf.cv a0).1 k)) (tw1 (fun a0 => (Gl.cv a0).1 k)) (tw3 (fun a1 a2 h0 => (JV.cv a1 a2 h0).1 k)) (tw2 (fun a1 h0 => (Ug.cv a1 h0).1 k)) (tw1 (fun a0 => (Wd.cv a0).1 k)) (tw1 (fun a0 => (U6.cv a0).1 k)) (tw1 (fun a0 => (X2.cv a0).1 k)) (tw1 (fun h0 => (Qp.cv h0).1 k)) h0).1 0,
      fun a1 h0 => (Qgj (.two (Uw.cv.1 k)) (tw1 (i_expr_parser_one)) (tw2 (i_expr_parser_two)) (tw2 (fun a1 h0 => (Q1.cv a1 h0).1 k)) (tw1 (Jj.m (Nat.le_succ k) (Qk.s k) (Uw.s k) (Q1.s k) (Qk.s (k + 1)) (Uw.s (k + 1)) (Q1.s (k + 1)) (i_expr_parser_two) (Uw.cv.1 k) (fun a1 h0 => (Q1.cv a1 h0).1 k))) a1 h0).1 0⟩
theorem JP.mono (k : Nat) : ∀ (h0 : Qb), Le (JP.s k h0) (JP.s (k + 1) h0) := (WY k).1
theorem Q0.mono (k : Nat) : ∀ (h0 : Qb), Le (Q0.s k h0) (Q0.s (k + 1) h0) := (WY k).2.1
theorem JQ.mono (k : Nat) : ∀ (h0 : Qb), Le (JQ.s k h0) (JQ.s (k + 1) h0) := (WY k).2.2.1
theorem QH.mono (k : Nat) : ∀ (h0 : Qb), Le (QH.s k h0) (QH.s (k + 1) h0) := (WY k).2.2.2.1
theorem QB.mono (k : Nat) : ∀ (h0 : Qb), Le (QB.s k h0) (QB.s (k + 1) h0) := (WY k).2.2.2.2.1
theorem Qk.mono (k : Nat) : ∀ (a1 : Int) (h0 : Qb), Le (Qk.s k a1 h0) (Qk.s (k + 1) a1 h0) := (WY k).2.2.2.2.2
noncomputable def JP (h0 : Qb) : Option (Qa × Qb) := lim fun k => JP.s k h0
theorem JP.cv (h0 : Qb) : Cv (fun k => JP.s k h0) (JP h0) := .lim fun k => JP.mono k h0
noncomputable def Q0 (h0 : Qb) : Option (Qa × Qb) := lim fun k => Q0.s k h0
theorem Q0.cv (h0 : Qb) : Cv (fun k => Q0.s k h0) (Q0 h0) := .lim fun k => Q0.mono k h0
noncomputable def JQ (h0 : Qb) : Option (Qa × Qb) := lim fun k => JQ.s k h0
theorem JQ.cv (h0 : Qb) : Cv (fun k => JQ.s k h0) (JQ h0) := .lim fun k => JQ.mono k h0
noncomputable def QH (h0 : Qb) : Option (Qa × Qb) := lim fun k => QH.s k h0
theorem QH.cv (h0 : Qb) : Cv (fun k => QH.s k h0) (QH h0) := .lim fun k => QH.mono k h0
noncomputable def QB (h0 : Qb) : Option (Qa × Qb) := lim fun k => QB.s k h0
theorem QB.cv (h0 : Qb) : Cv (fun k => QB.s k h0) (QB h0) := .lim fun k => QB.mono k h0
noncomputable def Qk (a1 : Int) (h0 : Qb) : Option (Qa × Qb) := lim fun k => Qk.s k a1 h0
theorem Qk.cv (a1 : Int) (h0 : Qb) : Cv (fun k => Qk.s k a1 h0) (Qk a1 h0) := .lim fun k => Qk.mono k a1 h0
noncomputable def Jj : Ja → Option J0 := Jj.w Qk Uw Q1
theorem Jj.eq (a : Ja) : Jj a = (XM Qk Uw Q1 a).bind (Sum.elim Jj some) := UN _ _
theorem JP.eq (h0 : Qb) : JP h0 = Zh Qk QT Qp h0 := Cv.uniq (JP.cv h0).shift (QeA Qk.cv QT.cv Qp.cv h0)
theorem Q0.eq (h0 : Qb) : Q0 h0 = XL Qp JP h0 := Cv.uniq (Q0.cv h0).shift (QdX Qp.cv JP.cv h0)
theorem JQ.eq (h0 : Qb) : JQ h0 = Zi QB h0 := Cv.uniq (JQ.cv h0).shift (QeB QB.cv h0)
theorem QH.eq (h0 : Qb) : QH h0 = WX Qp JQ h0 := Cv.uniq (QH.cv h0).shift (Qb9 Qp.cv JQ.cv h0)
theorem QB.eq (h0 : Qb) : QB h0 = Xe QT Q0 QH Uf Gl JV Ug Wd U6 X2 Qp h0 := Cv.uniq (QB.cv h0).shift (Qgi QT.cv Q0.cv QH.cv Uf.cv Gl.cv JV.cv Ug.cv Wd.cv U6.cv X2.cv Qp.cv h0)
theorem Qk.eq (a1 : Int) (h0 : Qb) : Qk a1 h0 = Y9 Uw QB Qk Q1 Jj a1 h0 := Cv.uniq (Qk.cv a1 h0).shift (Qgj Uw.cv QB.cv Qk.cv Q1.cv (Jj.cv (fun k => Qk.s k) (fun k => Uw.s k) (fun k => Q1.s k) Qk Uw Q1 Qk.cv Uw.cv Q1.cv) a1 h0)
def SA (r : (Qa × Bool)) : AV × Heap := (.tup [.agg (QZ r.1), xo r.2], [])
abbrev P1 := ByteArray → Option (Qa × Bool)
abbrev QdZ (a0 : ByteArray) : List AV × Heap := ([xs a0], [])
abbrev QmI (w : Cf) (a0 : ByteArray) : Option AH := w 179 (QdZ a0).1 (QdZ a0).2
abbrev Qok (w : Cf) (c : P1) : Prop := ∀ (a0 : ByteArray) (r : (Qa × Bool)), c a0 = some r → QmI w a0 = some (SA r)
def FF (C0 : QK) (C1 : UY) (a0 : ByteArray) : Option (Qa × Bool) := ((C0 (0 : Int) (Qb.mk a0 (0 : Int) false)).bind fun r1 => ((C1 r1.2).bind fun r2 => (bif r2.bad then (some ((Qa.mk (0 : Int) (0 : Int) s_ ([] : List Qa)), false)) else (bif (!(eqS r2.left s_)) then (some ((Qa.mk (0 : Int) (0 : Int) s_ ([] : List Qa)), false)) else (some (r1.1, true))))))
def Qd0 (P : Pg) (w : Cf) (C0 : QK) (C1 : UY) (a0 : ByteArray) : Tr (Qa × Bool) AH := (.call (EW w i0 (Qb.mk a0 i0 false)) (C0 i0 (Qb.mk a0 i0 false)) X4 fun r1 => (.call (SU w r1.2) (C1 r1.2) Z5 fun r2 => (.as r2.bad (yesN 5 r2.bad (.yes true (rt SA ((Qa.mk i0 i0 s_ ([] : List Qa)), false)))) (noN 5 r2.bad (.as (!(eqS r2.left s_)) (rt SA ((Qa.mk i0 i0 s_ ([] : List Qa)), false)) (rt SA (r1.1, true)))))))
theorem QtI (w : Cf) (C0 : QK) (C1 : UY) (a0 : ByteArray) : (Qd0 pp w C0 C1 a0).norm (bodyT pp w G 179 (QdZ a0).1 (QdZ a0).2) = Qd0 pp w C0 C1 a0 := by kernel_rfl
theorem QtJ (P : Pg) (w : Cf) (lp : Lo) (C0 : QK) (C1 : UY) (K0 : Zx w C0) (K1 : Qav w C1) (a0 : ByteArray) : (Qd0 P w C0 C1 a0).ok lp SA := fun r1 hr1 => ⟨K0 _ _ _ hr1, fun r2 hr2 => ⟨K1 _ _ hr2, ⟨rfl, fun q0 => Qj 5 (q0) (⟨rfl, rfl⟩), fun q0 => noN_ok 5 (q0) (⟨rfl, fun q1 => rfl, fun q1 => rfl⟩)⟩⟩⟩
theorem QtK {C0 : Nat → QK} {D0 : QK} (H0 : Cv2 C0 D0) {C1 : Nat → UY} {D1 : UY} (H1 : Cv1 C1 D1) (a0 : ByteArray) : Cv (fun k => FF (C0 k) (C1 k) a0) (FF D0 D1 a0) := by
  unfold FF
  exact .bind (H0 _ _) fun r1 => .bind (H1 _) fun r2 => by exact .const _
def V6.s : Nat → ByteArray → Option (Qa × Bool)
  | 0, _ => none
  | k + 1, a0 => FF (Qk.s k) (Ji.s k) a0
theorem V6.ok : ∀ (k : Nat), Qok (ev k) (V6.s k)
  | 0, _, _, h => (nomatch h)
  | k + 1, a0, r, h => fn_ok rfl (Qd0 pp (ev k) (Qk.s k) (Ji.s k) a0) (QtI _ _ _ a0) (QtJ _ _ _ _ _ (Qk.ok k) (Ji.ok k) a0) h
noncomputable def V6 (a0 : ByteArray) : Option (Qa × Bool) := FF Qk Ji a0
theorem V6.cv (a0 : ByteArray) : Cv (fun k => V6.s k a0) (V6 a0) := .un rfl (QtK Qk.cv Ji.cv a0)
theorem V6.eq (a0 : ByteArray) : V6 a0 = FF Qk Ji a0 := rfl
def F2 (r : (Bool × Qc)) : AV × Heap := (xo r.1, [(0, .box [0, 0, 0, 0, 0, 5] [xi r.2.x.Line, xs r.2.x.Label, xi r.2.x.Kind, xi r.2.x.Op, xs r.2.x.Text, .arr 2]), (2, .arr true 5 (Qi r.2.x.Args))])
abbrev VA := ByteArray → Qc → Option (Bool × Qc)
abbrev F3 (a1 : ByteArray) (h0 : Qc) : List AV × Heap := ([.ptr 0 0, xs a1], [(0, .box [0, 0, 0, 0, 0, 5] [xi h0.x.Line, xs h0.x.Label, xi h0.x.Kind, xi h0.x.Op, xs h0.x.Text, .arr 1]), (1, .arr true 5 (Qi h0.x.Args))])
abbrev QeC (w : Cf) (a1 : ByteArray) (h0 : Qc) : Option AH := w 129 (F3 a1 h0).1 (F3 a1 h0).2
abbrev Qa5 (w : Cf) (c : VA) : Prop := ∀ (a1 : ByteArray) (h0 : Qc) (r : (Bool × Qc)), c a1 h0 = some r → QeC w a1 h0 = some (F2 r)
def Ye (C0 : P1) (a1 : ByteArray) (h0 : Qc) : Option (Bool × Qc) := ((C0 a1).bind fun r1 => (bif (decide ((h0.x.Args.length + [(Qf.mk (-1 : Int) r1.1)].length) * 64 ≤ most)) then (some (r1.2, (Qc.mk (Qg.mk h0.x.Line h0.x.Label h0.x.Kind h0.x.Op h0.x.Text (h0.x.Args ++ [(Qf.mk (-1 : Int) r1.1)]))))) else none))
def F4 (P : Pg) (w : Cf) (C0 : P1) (a1 : ByteArray) (h0 : Qc) : Tr (Bool × Qc) AH := (.call (QmI w a1) (C0 a1) SA fun r1 => (.rows [[xi (-1 : Int), xi r1.1.Kind, xi r1.1.N, xs r1.1.Name, .sl (QY r1.1.L)]] (Qi [(Qf.mk (-1 : Int) r1.1)]) (.yes (decide ((Qi [(Qf.mk (-1 : Int) r1.1)]).all (fun r => r.length == 5) = true)) (.ask (decide (((Qi h0.x.Args).length + (Qi [(Qf.mk (-1 : Int) r1.1)]).length) * 64 ≤ most)) (decide ((h0.x.Args.length + [(Qf.mk (-1 : Int) r1.1)].length) * 64 ≤ most)) (.rows ((Qi h0.x.Args) ++ (Qi [(Qf.mk (-1 : Int) r1.1)])) (Qi (h0.x.Args ++ [(Qf.mk (-1 : Int) r1.1)])) (rt F2 (r1.2, (Qc.mk (Qg.mk h0.x.Line h0.x.Label h0.x.Kind h0.x.Op h0.x.Text (h0.x.Args ++ [(Qf.mk (-1 : Int) r1.1)])))))) .fail))))
theorem Qlz (w : Cf) (C0 : P1) (a1 : ByteArray) (h0 : Qc) : (F4 pp w C0 a1 h0).norm (bodyT pp w G 129 (F3 a1 h0).1 (F3 a1 h0).2) = F4 pp w C0 a1 h0 := by kernel_rfl
theorem QlA (P : Pg) (w : Cf) (lp : Lo) (C0 : P1) (K0 : Qok w C0) (a1 : ByteArray) (h0 : Qc) : (F4 P w C0 a1 h0).ok lp F2 := fun r1 hr1 => ⟨K0 _ _ hr1, ⟨(UU [(Qf.mk (-1 : Int) r1.1)]), ⟨(decide_eq_true (YK _)), ⟨(by rw [Uc, Uc]), fun q0 => ⟨(WT _ _), rfl⟩, fun q0 => trivial⟩⟩⟩⟩
theorem QlB {C0 : Nat → P1} {D0 : P1} (H0 : Cv1 C0 D0) (a1 : ByteArray) (h0 : Qc) : Cv (fun k => Ye (C0 k) a1 h0) (Ye D0 a1 h0) := by
  unfold Ye
  exact .bind (H0 _) fun r1 => by exact .const _
def Ui.s : Nat → ByteArray → Qc → Option (Bool × Qc)
  | 0, _, _ => none
  | k + 1, a1, h0 => Ye (V6.s k) a1 h0
theorem Ui.ok : ∀ (k : Nat), Qa5 (ev k) (Ui.s k)
  | 0, _, _, _, h => (nomatch h)
  | k + 1, a1, h0, r, h => fn_ok rfl (F4 pp (ev k) (V6.s k) a1 h0) (Qlz _ _ a1 h0) (QlA _ _ _ _ (V6.ok k) a1 h0) h
noncomputable def Ui (a1 : ByteArray) (h0 : Qc) : Option (Bool × Qc) := Ye V6 a1 h0
theorem Ui.cv (a1 : ByteArray) (h0 : Qc) : Cv (fun k => Ui.s k a1 h0) (Ui a1 h0) := .un rfl (QlB V6.cv a1 h0)
theorem Ui.eq (a1 : ByteArray) (h0 : Qc) : Ui a1 h0 = Ye V6 a1 h0 := rfl
def PD (r : (Bool × Qc)) : AV × Heap := (xo r.1, [(0, .box [0, 0, 0, 0, 0, 5] [xi r.2.x.Line, xs r.2.x.Label, xi r.2.x.Kind, xi r.2.x.Op, xs r.2.x.Text, .arr 2]), (2, .arr true 5 (Qi r.2.x.Args))])
abbrev VX := ByteArray → Qc → Option (Bool × Qc)
abbrev PE (a1 : ByteArray) (h0 : Qc) : List AV × Heap := ([.ptr 0 0, xs a1], [(0, .box [0, 0, 0, 0, 0, 5] [xi h0.x.Line, xs h0.x.Label, xi h0.x.Kind, xi h0.x.Op, xs h0.x.Text, .arr 1]), (1, .arr true 5 (Qi h0.x.Args))])
abbrev QfV (w : Cf) (a1 : ByteArray) (h0 : Qc) : Option AH := w 131 (PE a1 h0).1 (PE a1 h0).2
abbrev QbV (w : Cf) (c : VX) : Prop := ∀ (a1 : ByteArray) (h0 : Qc) (r : (Bool × Qc)), c a1 h0 = some r → QfV w a1 h0 = some (PD r)
def YC (C0 : YT) (a1 : ByteArray) (h0 : Qc) : Option (Bool × Qc) := ((C0 a1).bind fun r1 => (some (r1, (Qc.mk (Qg.mk h0.x.Line h0.x.Label h0.x.Kind h0.x.Op a1 h0.x.Args)))))
def PF (P : Pg) (w : Cf) (C0 : YT) (a1 : ByteArray) (h0 : Qc) : Tr (Bool × Qc) AH := (.call (QiK w a1) (C0 a1) Zo fun r1 => (rt PD (r1, (Qc.mk (Qg.mk h0.x.Line h0.x.Label h0.x.Kind h0.x.Op a1 h0.x.Args)))))
theorem QmJ (w : Cf) (C0 : YT) (a1 : ByteArray) (h0 : Qc) : (PF pp w C0 a1 h0).norm (bodyT pp w G 131 (PE a1 h0).1 (PE a1 h0).2) = PF pp w C0 a1 h0 := by kernel_rfl
theorem QmK (P : Pg) (w : Cf) (lp : Lo) (C0 : YT) (K0 : Qkf w C0) (a1 : ByteArray) (h0 : Qc) : (PF P w C0 a1 h0).ok lp PD := fun r1 hr1 => ⟨K0 _ _ hr1, rfl⟩
theorem QmL {C0 : Nat → YT} {D0 : YT} (H0 : Cv1 C0 D0) (a1 : ByteArray) (h0 : Qc) : Cv (fun k => YC (C0 k) a1 h0) (YC D0 a1 h0) := by
  unfold YC
  exact .bind (H0 _) fun r1 => by exact .const _
def UD.s : Nat → ByteArray → Qc → Option (Bool × Qc)
  | 0, _, _ => none
  | k + 1, a1, h0 => YC (Wc.s k) a1 h0
theorem UD.ok : ∀ (k : Nat), QbV (ev k) (UD.s k)
  | 0, _, _, _, h => (nomatch h)
  | k + 1, a1, h0, r, h => fn_ok rfl (PF pp (ev k) (Wc.s k) a1 h0) (QmJ _ _ a1 h0) (QmK _ _ _ _ (Wc.ok k) a1 h0) h
noncomputable def UD (a1 : ByteArray) (h0 : Qc) : Option (Bool × Qc) := YC Wc a1 h0
theorem UD.cv (a1 : ByteArray) (h0 : Qc) : Cv (fun k => UD.s k a1 h0) (UD a1 h0) := .un rfl (QmL Wc.cv a1 h0)
theorem UD.eq (a1 : ByteArray) (h0 : Qc) : UD a1 h0 = YC Wc a1 h0 := rfl
def Qby (r : Int) : AV × Heap := (.tup [.sc (.int .i64 r), .sc .nilIface], [])
def VF.s : Nat → ByteArray → Option Int
  | 0, _ => none
  | _ + 1, a0 => atoiS a0
theorem VF.ok : ∀ (k : Nat), ∀ (a0 : ByteArray) (r : Int), VF.s k a0 = some r → evalFn pp G k 241 [.sc (.string a0)] [] = some (Qby r)
  | 0, _, _, h => (nomatch h)
  | k + 1, a0, r, h => QzQ h
abbrev EL := ByteArray → Option Int
abbrev QjG (a0 : ByteArray) : List AV × Heap := ([xs a0], [])
abbrev QeK (w : Cf) (a0 : ByteArray) : Option AH := w 241 (QjG a0).1 (QjG a0).2
abbrev Qsk (w : Cf) (c : EL) : Prop := ∀ (a0 : ByteArray) (r : Int), c a0 = some r → QeK w a0 = some (Qby r)
noncomputable def VF (a0 : ByteArray) : Option Int := atoiS a0
theorem VF.mono (k : Nat) (a0 : ByteArray) : Le (VF.s k a0) (VF.s (k + 1) a0) := by
  cases k with
  | zero => exact fun r h => nomatch h
  | succ k => exact Le.refl _
theorem VF.cv (a0 : ByteArray) : Cv (fun k => VF.s k a0) (VF a0) := ⟨fun k => VF.mono k a0, fun r => ⟨fun h => ⟨1, h⟩, fun ⟨k, h⟩ => by
  cases k with
  | zero => cases h
  | succ k => exact h⟩⟩
def Xv (r : (Int × Bool)) : AV × Heap := (.tup [xi r.1, xo r.2], [])
abbrev GQ := ByteArray → Option (Int × Bool)
abbrev Qaz (a0 : ByteArray) : List AV × Heap := ([xs a0], [])
abbrev Qh9 (w : Cf) (a0 : ByteArray) : Option AH := w 214 (Qaz a0).1 (Qaz a0).2
abbrev QjH (w : Cf) (c : GQ) : Prop := ∀ (a0 : ByteArray) (r : (Int × Bool)), c a0 = some r → Qh9 w a0 = some (Xv r)
def Z7 (C0 : WO) (C1 : EL) (a0 : ByteArray) : Option (Int × Bool) := (bif (decide (((a0.size : Nat) : Int) < 2)) then (some ((0 : Int), false)) else (bif (decide (((a0.size : Nat) : Int) > 3)) then (some ((0 : Int), false)) else (bif (decide (0 ≤ (0 : Int) ∧ (0 : Int) < ((a0.size : Nat) : Int))) then (bif (((a0.data.getD (Int.toNat 0) 0).toNat : Int) != 114) then (some ((0 : Int), false)) else (bif (decide (0 ≤ (1 : Int) ∧ (1 : Int) ≤ ((a0.size : Nat) : Int) ∧ ((a0.size : Nat) : Int) ≤ ((a0.size : Nat) : Int))) then ((C0 (a0.extract (Int.toNat 1) (Int.toNat ((a0.size : Nat) : Int)))).bind fun r1 => (bif (r1 != (w64 (((a0.size : Nat) : Int) - 1))) then (some ((0 : Int), false)) else (bif (((a0.size : Nat) : Int) == 3) then (bif (decide (0 ≤ (1 : Int) ∧ (1 : Int) < ((a0.size : Nat) : Int))) then (bif (((a0.data.getD (Int.toNat 1) 0).toNat : Int) == 48) then (some ((0 : Int), false)) else ((C1 (a0.extract (Int.toNat 1) (Int.toNat ((a0.size : Nat) : Int)))).bind fun r2 => (some (r2, (decide (r2 < 32)))))) else none) else ((C1 (a0.extract (Int.toNat 1) (Int.toNat ((a0.size : Nat) : Int)))).bind fun r3 => (some (r3, (decide (r3 < 32)))))))) else none)) else none)))
def QaA (P : Pg) (w : Cf) (C0 : WO) (C1 : EL) (a0 : ByteArray) : Tr (Int × Bool) AH := (let u65 := (decide ((zz a0) < 2)); .as u65 (yesN 3 u65 (yesN 19 true (rt Xv (i0, false)))) (noN 3 u65 (let u64 := (decide ((zz a0) > 3)); .as u64 (yesN 3 u64 (yesN 15 true (rt Xv (i0, false)))) (.no u64 (.as (in1 i0 (zz a0)) (noN 2 u64 (let u63 := ((gb a0 i0) != 114); .as u63 (yesN 7 u63 (yesN 7 true (rt Xv (i0, false)))) (.no u63 (let u62 := (in2 (zi 1) (zz a0) (zz a0)); .as u62 (.no u63 (.call (QeH w (cu a0 (zi 1) (zz a0))) (C0 (cu a0 (zi 1) (zz a0))) Sv fun r1 => (noN 5 u63 (let u61 := (r1 != (w64 ((zz a0) - 1))); .as u61 (yesN 5 u61 (.yes true (rt Xv (i0, false)))) (noN 3 u61 (let u60 := ((zz a0) == 3); .as u60 (.yes u60 (.as (in1 (zi 1) (zz a0)) (.yes u60 (.no u61 (.yes u60 (.no u61 (.as ((gb a0 (zi 1)) == 48) (rt Xv (i0, false)) (.yes u62 (.call (QeK w (cu a0 (zi 1) (zz a0))) (C1 (cu a0 (zi 1) (zz a0))) Qby fun r2 => (rt Xv (r2, (decide (r2 < 32))))))))))) .fail)) (noN 2 u60 (.no u61 (.no u60 (.no u61 (.no false (.yes u62 (.call (QeK w (cu a0 (zi 1) (zz a0))) (C1 (cu a0 (zi 1) (zz a0))) Qby fun r3 => (rt Xv (r3, (decide (r3 < 32))))))))))))))))) .fail)))) .fail)))))
theorem QpQ (w : Cf) (C0 : WO) (C1 : EL) (a0 : ByteArray) : (QaA pp w C0 C1 a0).norm (bodyT pp w G 214 (Qaz a0).1 (Qaz a0).2) = QaA pp w C0 C1 a0 := by kernel_rfl
theorem QpR (P : Pg) (w : Cf) (lp : Lo) (C0 : WO) (C1 : EL) (K0 : Qf6 w C0) (K1 : Qsk w C1) (a0 : ByteArray) : (QaA P w C0 C1 a0).ok lp Xv := ⟨rfl, fun q0 => Qj 3 (q0) (Qj 19 (rfl) (rfl)), fun q0 => noN_ok 3 (q0) (⟨rfl, fun q1 => Qj 3 (q1) (Qj 15 (rfl) (rfl)), fun q1 => ⟨q1, ⟨rfl, fun q2 => noN_ok 2 (q1) (⟨rfl, fun q3 => Qj 7 (q3) (Qj 7 (rfl) (rfl)), fun q3 => ⟨q3, ⟨rfl, fun q4 => ⟨q3, fun r1 hr1 => ⟨K0 _ _ hr1, noN_ok 5 (q3) (⟨rfl, fun q5 => Qj 5 (q5) (⟨rfl, rfl⟩), fun q5 => noN_ok 3 (q5) (⟨rfl, fun q6 => ⟨q6, ⟨rfl, fun q7 => ⟨q6, ⟨q5, ⟨q6, ⟨q5, ⟨rfl, fun q8 => rfl, fun q8 => ⟨q4, fun r2 hr2 => ⟨K1 _ _ hr2, rfl⟩⟩⟩⟩⟩⟩⟩, fun q7 => trivial⟩⟩, fun q6 => noN_ok 2 (q6) (⟨q5, ⟨q6, ⟨q5, ⟨rfl, ⟨q4, fun r3 hr3 => ⟨K1 _ _ hr3, rfl⟩⟩⟩⟩⟩⟩)⟩)⟩)⟩⟩, fun q4 => trivial⟩⟩⟩), fun q2 => trivial⟩⟩⟩)⟩
theorem QpS {C0 : Nat → WO} {D0 : WO} (H0 : Cv1 C0 D0) {C1 : Nat → EL} {D1 : EL} (H1 : Cv1 C1 D1) (a0 : ByteArray) : Cv (fun k => Z7 (C0 k) (C1 k) a0) (Z7 D0 D1 a0) := by
  unfold Z7
  exact .cond cst (.cond cst (.cond (.cond cst (.cond (.bind (H0 _) fun r1 => .cond cst (.cond (.cond (.cond cst (.bind (H1 _) fun r2 => by exact .const _)) cst) (.bind (H1 _) fun r3 => by exact .const _))) cst)) cst))
def VY.s : Nat → ByteArray → Option (Int × Bool)
  | 0, _ => none
  | k + 1, a0 => Z7 (UP.s k) (VF.s k) a0
theorem VY.ok : ∀ (k : Nat), QjH (ev k) (VY.s k)
  | 0, _, _, h => (nomatch h)
  | k + 1, a0, r, h => fn_ok rfl (QaA pp (ev k) (UP.s k) (VF.s k) a0) (QpQ _ _ _ a0) (QpR _ _ _ _ _ (UP.ok k) (VF.ok k) a0) h
noncomputable def VY (a0 : ByteArray) : Option (Int × Bool) := Z7 UP VF a0
theorem VY.cv (a0 : ByteArray) : Cv (fun k => VY.s k a0) (VY a0) := .un rfl (QpS UP.cv VF.cv a0)
theorem VY.eq (a0 : ByteArray) : VY a0 = Z7 UP VF a0 := rfl
def Ea (r : (Bool × Qc)) : AV × Heap := (xo r.1, [(0, .box [0, 0, 0, 0, 0, 5] [xi r.2.x.Line, xs r.2.x.Label, xi r.2.x.Kind, xi r.2.x.Op, xs r.2.x.Text, .arr 2]), (2, .arr true 5 (Qi r.2.x.Args))])
abbrev UV := ByteArray → Qc → Option (Bool × Qc)
abbrev Eb (a1 : ByteArray) (h0 : Qc) : List AV × Heap := ([.ptr 0 0, xs a1], [(0, .box [0, 0, 0, 0, 0, 5] [xi h0.x.Line, xs h0.x.Label, xi h0.x.Kind, xi h0.x.Op, xs h0.x.Text, .arr 1]), (1, .arr true 5 (Qi h0.x.Args))])
abbrev Qca (w : Cf) (a1 : ByteArray) (h0 : Qc) : Option AH := w 178 (Eb a1 h0).1 (Eb a1 h0).2
abbrev SB (w : Cf) (c : UV) : Prop := ∀ (a1 : ByteArray) (h0 : Qc) (r : (Bool × Qc)), c a1 h0 = some r → Qca w a1 h0 = some (Ea r)
def WZ (C0 : GQ) (a1 : ByteArray) (h0 : Qc) : Option (Bool × Qc) := ((C0 a1).bind fun r1 => (bif (decide ((h0.x.Args.length + [(Qf.mk r1.1 (Qa.mk (0 : Int) (0 : Int) s_ ([] : List Qa)))].length) * 64 ≤ most)) then (some (r1.2, (Qc.mk (Qg.mk h0.x.Line h0.x.Label h0.x.Kind h0.x.Op h0.x.Text (h0.x.Args ++ [(Qf.mk r1.1 (Qa.mk (0 : Int) (0 : Int) s_ ([] : List Qa)))]))))) else none))
def Ec (P : Pg) (w : Cf) (C0 : GQ) (a1 : ByteArray) (h0 : Qc) : Tr (Bool × Qc) AH := (.call (Qh9 w a1) (C0 a1) Xv fun r1 => (.rows [[xi r1.1, xi i0, xi i0, xs s_, .sl (QY ([] : List Qa))]] (Qi [(Qf.mk r1.1 (Qa.mk i0 i0 s_ ([] : List Qa)))]) (.yes (decide ((Qi [(Qf.mk r1.1 (Qa.mk i0 i0 s_ ([] : List Qa)))]).all (fun r => r.length == 5) = true)) (.ask (decide (((Qi h0.x.Args).length + (Qi [(Qf.mk r1.1 (Qa.mk i0 i0 s_ ([] : List Qa)))]).length) * 64 ≤ most)) (decide ((h0.x.Args.length + [(Qf.mk r1.1 (Qa.mk i0 i0 s_ ([] : List Qa)))].length) * 64 ≤ most)) (.rows ((Qi h0.x.Args) ++ (Qi [(Qf.mk r1.1 (Qa.mk i0 i0 s_ ([] : List Qa)))])) (Qi (h0.x.Args ++ [(Qf.mk r1.1 (Qa.mk i0 i0 s_ ([] : List Qa)))])) (rt Ea (r1.2, (Qc.mk (Qg.mk h0.x.Line h0.x.Label h0.x.Kind h0.x.Op h0.x.Text (h0.x.Args ++ [(Qf.mk r1.1 (Qa.mk i0 i0 s_ ([] : List Qa)))])))))) .fail))))
theorem QiZ (w : Cf) (C0 : GQ) (a1 : ByteArray) (h0 : Qc) : (Ec pp w C0 a1 h0).norm (bodyT pp w G 178 (Eb a1 h0).1 (Eb a1 h0).2) = Ec pp w C0 a1 h0 := by kernel_rfl
theorem Qi0 (P : Pg) (w : Cf) (lp : Lo) (C0 : GQ) (K0 : QjH w C0) (a1 : ByteArray) (h0 : Qc) : (Ec P w C0 a1 h0).ok lp Ea := fun r1 hr1 => ⟨K0 _ _ hr1, ⟨(UU [(Qf.mk r1.1 (Qa.mk (0 : Int) (0 : Int) s_ ([] : List Qa)))]), ⟨(decide_eq_true (YK _)), ⟨(by rw [Uc, Uc]), fun q0 => ⟨(WT _ _), rfl⟩, fun q0 => trivial⟩⟩⟩⟩
theorem Qi1 {C0 : Nat → GQ} {D0 : GQ} (H0 : Cv1 C0 D0) (a1 : ByteArray) (h0 : Qc) : Cv (fun k => WZ (C0 k) a1 h0) (WZ D0 a1 h0) := by
  unfold WZ
  exact .bind (H0 _) fun r1 => by exact .const _
def Jw.s : Nat → ByteArray → Qc → Option (Bool × Qc)
  | 0, _, _ => none
  | k + 1, a1, h0 => WZ (VY.s k) a1 h0
theorem Jw.ok : ∀ (k : Nat), SB (ev k) (Jw.s k)
  | 0, _, _, _, h => (nomatch h)
  | k + 1, a1, h0, r, h => fn_ok rfl (Ec pp (ev k) (VY.s k) a1 h0) (QiZ _ _ a1 h0) (Qi0 _ _ _ _ (VY.ok k) a1 h0) h
noncomputable def Jw (a1 : ByteArray) (h0 : Qc) : Option (Bool × Qc) := WZ VY a1 h0
theorem Jw.cv (a1 : ByteArray) (h0 : Qc) : Cv (fun k => Jw.s k a1 h0) (Jw a1 h0) := .un rfl (Qi1 VY.cv a1 h0)
theorem Jw.eq (a1 : ByteArray) (h0 : Qc) : Jw a1 h0 = WZ VY a1 h0 := rfl
def Z8 (r : (Bool × Qc)) : AV × Heap := (xo r.1, [(1, .box [0, 0, 0, 0, 0, 5] [xi r.2.x.Line, xs r.2.x.Label, xi r.2.x.Kind, xi r.2.x.Op, xs r.2.x.Text, .arr 3]), (3, .arr true 5 (Qi r.2.x.Args))])
abbrev ZO := (List ByteArray) → Qc → (List Nat) → Option (Bool × Qc)
abbrev Qgz (a0 : (List ByteArray)) (h1 : Qc) (r0 : (List Nat)) : List AV × Heap := ([.sl (Qh a0), .arr 0], [(0, .fs (some 1) (Vq r0)), (1, .box [0, 0, 0, 0, 0, 5] [xi h1.x.Line, xs h1.x.Label, xi h1.x.Kind, xi h1.x.Op, xs h1.x.Text, .arr 2]), (2, .arr true 5 (Qi h1.x.Args))])
abbrev Fb (w : Cf) (a0 : (List ByteArray)) (h1 : Qc) (r0 : (List Nat)) : Option AH := w 127 (Qgz a0 h1 r0).1 (Qgz a0 h1 r0).2
abbrev QmM (w : Cf) (c : ZO) : Prop := ∀ (a0 : (List ByteArray)) (h1 : Qc) (r0 : (List Nat)) (r : (Bool × Qc)), c a0 h1 r0 = some r → Fb w a0 h1 r0 = some (Z8 r)
structure JY where
  x0 : (List ByteArray)
  x5 : Bool
  x6 : Int
  h1 : Qc
  r4 : (List Nat)
structure VP where
  x5 : Bool
  h1 : Qc
def Gs (a : JY) : St := { n := 31, nx := 5, env := [(0, .sl (Qh a.x0)), (1, .arr 4), (5, xo a.x5), (6, xi a.x6)], heap := [(1, .box [0, 0, 0, 0, 0, 5] [xi a.h1.x.Line, xs a.h1.x.Label, xi a.h1.x.Kind, xi a.h1.x.Op, xs a.h1.x.Text, .arr 3]), (3, .arr true 5 (Qi a.h1.x.Args)), (4, .fs (some 1) (Vq a.r4))] }
def Pe (a : VP) : Ex × St := (.exit 0, { n := 31, nx := 4, env := [(5, xo a.x5)], heap := [(1, .box [0, 0, 0, 0, 0, 5] [xi a.h1.x.Line, xs a.h1.x.Label, xi a.h1.x.Kind, xi a.h1.x.Op, xs a.h1.x.Text, .arr 3]), (3, .arr true 5 (Qi a.h1.x.Args))] })
abbrev FG := JY → Option VP
abbrev QtL (P : Pg) (lp : Lo) (l : FG) : Prop := ∀ (a : JY) (r : VP), l a = some r → lp (loopAt P 127 3) (Gs a) = some (Pe r)
def Xi (C0 : VA) (C1 : VX) (C2 : UV) (a : JY) : Option (JY ⊕ VP) := (bif (decide (a.x6 < (((a.r4.length) : Nat) : Int))) then (bif a.x5 then (bif (decide (0 ≤ a.x6 ∧ a.x6 < ((a.r4.length : Nat) : Int))) then ((a.r4[(Int.toNat a.x6)]?).bind fun e1 => (bif (decide (e1 = 129)) then (bif (decide (0 ≤ a.x6)) then ((a.x0[(Int.toNat a.x6)]?).bind fun e2 => ((C0 e2 a.h1).bind fun r3 => (some (.inl (JY.mk a.x0 r3.1 (w64 (a.x6 + 1)) r3.2 a.r4))))) else none) else (bif (decide (e1 = 131)) then (bif (decide (0 ≤ a.x6)) then ((a.x0[(Int.toNat a.x6)]?).bind fun e4 => ((C1 e4 a.h1).bind fun r5 => (some (.inl (JY.mk a.x0 r5.1 (w64 (a.x6 + 1)) r5.2 a.r4))))) else none) else (bif (decide (e1 = 178)) then (bif (decide (0 ≤ a.x6)) then ((a.x0[(Int.toNat a.x6)]?).bind fun e6 => ((C2 e6 a.h1).bind fun r7 => (some (.inl (JY.mk a.x0 r7.1 (w64 (a.x6 + 1)) r7.2 a.r4))))) else none) else none)))) else none) else (some (.inr (VP.mk a.x5 a.h1)))) else (some (.inr (VP.mk a.x5 a.h1))))
def Qcl (P : Pg) (w : Cf) (C0 : VA) (C1 : VX) (C2 : UV) (a : JY) : Tr (JY ⊕ VP) XS := (.num ((Vq a.r4).length) (a.r4.length) (let u66 := (decide (a.x6 < (((a.r4.length) : Nat) : Int))); .as u66 (.yes u66 (.as a.x5 (.ask (in1 a.x6 (((Vq a.r4).length : Nat) : Int)) (in1 a.x6 ((a.r4.length : Nat) : Int)) (.row ((Vq a.r4)[(Int.toNat a.x6)]?) (a.r4[(Int.toNat a.x6)]?) Ql6 fun (e1 : Nat) => (.as (decide (e1 = 129)) (.as (decide (0 ≤ a.x6)) (.row ((Qh a.x0)[(Int.toNat a.x6)]?) (a.x0[(Int.toNat a.x6)]?) JL fun (e2 : ByteArray) => (.call (QeC w e2 a.h1) (C0 e2 a.h1) F2 fun r3 => (lf Gs (JY.mk a.x0 r3.1 (w64 (a.x6 + 1)) r3.2 a.r4)))) .fail) (.as (decide (e1 = 131)) (.as (decide (0 ≤ a.x6)) (.row ((Qh a.x0)[(Int.toNat a.x6)]?) (a.x0[(Int.toNat a.x6)]?) JL fun (e4 : ByteArray) => (.call (QfV w e4 a.h1) (C1 e4 a.h1) PD fun r5 => (lf Gs (JY.mk a.x0 r5.1 (w64 (a.x6 + 1)) r5.2 a.r4)))) .fail) (.as (decide (e1 = 178)) (.as (decide (0 ≤ a.x6)) (.row ((Qh a.x0)[(Int.toNat a.x6)]?) (a.x0[(Int.toNat a.x6)]?) JL fun (e6 : ByteArray) => (.call (Qca w e6 a.h1) (C2 e6 a.h1) Ea fun r7 => (lf Gs (JY.mk a.x0 r7.1 (w64 (a.x6 + 1)) r7.2 a.r4)))) .fail) .fail)))) .fail) (rx Pe (VP.mk a.x5 a.h1)))) (.no u66 (.no false (rx Pe (VP.mk a.x5 a.h1))))))
theorem Qsl (w : Cf) (C0 : VA) (C1 : VX) (C2 : UV) (a : JY) : (Qcl pp w C0 C1 C2 a).norm (roundT pp G.kd w 3 (G.an 127) (loopAt pp 127 3) (Gs a)) = Qcl pp w C0 C1 C2 a := by kernel_rfl
theorem Qsm (P : Pg) (w : Cf) (lp : Lo) (C0 : VA) (C1 : VX) (C2 : UV) (K0 : Qa5 w C0) (K1 : QbV w C1) (K2 : SB w C2) (a : JY) : (Qcl P w C0 C1 C2 a).ok lp (Sum.elim (fun a => (.norm, Gs a)) Pe) := ⟨(E2 _), ⟨rfl, fun q0 => ⟨q0, ⟨rfl, fun q1 => ⟨(by rw [E2]), fun q2 => fun e1 h => ⟨QwD h, ⟨rfl, fun q3 => ⟨rfl, fun q4 => fun e2 h => ⟨Jo h, fun r3 hr3 => ⟨K0 _ _ _ hr3, rfl⟩⟩, fun q4 => trivial⟩, fun q3 => ⟨rfl, fun q4 => ⟨rfl, fun q5 => fun e4 h => ⟨Jo h, fun r5 hr5 => ⟨K1 _ _ _ hr5, rfl⟩⟩, fun q5 => trivial⟩, fun q4 => ⟨rfl, fun q5 => ⟨rfl, fun q6 => fun e6 h => ⟨Jo h, fun r7 hr7 => ⟨K2 _ _ _ hr7, rfl⟩⟩, fun q6 => trivial⟩, fun q5 => trivial⟩⟩⟩⟩, fun q2 => trivial⟩, fun q1 => rfl⟩⟩, fun q0 => ⟨q0, ⟨rfl, rfl⟩⟩⟩⟩
theorem Qsn {C0 : Nat → VA} {D0 : VA} (H0 : Cv2 C0 D0) {C1 : Nat → VX} {D1 : VX} (H1 : Cv2 C1 D1) {C2 : Nat → UV} {D2 : UV} (H2 : Cv2 C2 D2) (a : JY) : Cv (fun k => Xi (C0 k) (C1 k) (C2 k) a) (Xi D0 D1 D2 a) := by
  unfold Xi
  exact .cond (.cond (.cond (.bind (.const _) fun e1 => .cond (.cond (.bind (.const _) fun e2 => .bind (H0 _ _) fun r3 => by exact .const _) cst) (.cond (.cond (.bind (.const _) fun e4 => .bind (H1 _ _) fun r5 => by exact .const _) cst) (.cond (.cond (.bind (.const _) fun e6 => .bind (H2 _ _) fun r7 => by exact .const _) cst) cst))) cst) cst) cst
def J8.s (k : Nat) (C0 : VA) (C1 : VX) (C2 : UV) : JY → Option VP := iter (Xi C0 C1 C2) k
theorem QqN (w : Cf) (k : Nat) (C0 : VA) (C1 : VX) (C2 : UV) (K0 : Qa5 w C0) (K1 : QbV w C1) (K2 : SB w C2) (a : JY) (r : VP) (h : J8.s k C0 C1 C2 a = some r) : loopsF pp G.kd w 3 (G.an 127) k (loopAt pp 127 3) (Gs a) = some (Pe r) :=
  Va (fun a => Qcl pp w C0 C1 C2 a) (fun _ => rfl) (fun a => Qsl w _ _ _ a) (fun a => Qsm _ w _ _ _ _ K0 K1 K2 a) (fun r => nofun) h
noncomputable def J8.w (C0 : VA) (C1 : VX) (C2 : UV) : JY → Option VP := loopW (Xi C0 C1 C2)
theorem J8.cv (C0 : Nat → VA) (C1 : Nat → VX) (C2 : Nat → UV) (D0 : VA) (D1 : VX) (D2 : UV) (H0 : Cv2 C0 D0) (H1 : Cv2 C1 D1) (H2 : Cv2 C2 D2) (a : JY) : Cv (fun k => J8.s k (C0 k) (C1 k) (C2 k) a) (J8.w D0 D1 D2 a) := Cv.iter (fun a => Qsn H0 H1 H2 a) a
def PG (L0 : FG) (a0 : (List ByteArray)) (h1 : Qc) (r0 : (List Nat)) : Option (Bool × Qc) := ((L0 (JY.mk a0 ((((a0.length) : Nat) : Int) == (((r0.length) : Nat) : Int)) (0 : Int) h1 r0)).bind (fun (o1 : VP) => (some (o1.x5, o1.h1))))
def QgA (P : Pg) (w : Cf) (L0 : FG) (a0 : (List ByteArray)) (h1 : Qc) (r0 : (List Nat)) : Tr (Bool × Qc) AH := (.num ((Qh a0).length) (a0.length) (.num ((Vq r0).length) (r0.length) (.loop (loopAt P 127 3) (Gs (JY.mk a0 ((((a0.length) : Nat) : Int) == (((r0.length) : Nat) : Int)) i0 h1 r0)) (L0 (JY.mk a0 ((((a0.length) : Nat) : Int) == (((r0.length) : Nat) : Int)) i0 h1 r0)) Pe (fun (o1 : VP) => (rt Z8 (o1.x5, o1.h1))))))
theorem QwM (w : Cf) (L0 : FG) (a0 : (List ByteArray)) (h1 : Qc) (r0 : (List Nat)) : (QgA pp w L0 a0 h1 r0).norm (bodyT pp w G 127 (Qgz a0 h1 r0).1 (Qgz a0 h1 r0).2) = QgA pp w L0 a0 h1 r0 := by kernel_rfl
theorem QwN (P : Pg) (w : Cf) (lp : Lo) (L0 : FG) (N0 : QtL P lp L0) (a0 : (List ByteArray)) (h1 : Qc) (r0 : (List Nat)) : (QgA P w L0 a0 h1 r0).ok lp Z8 := ⟨(QJ _), ⟨(E2 _), fun o1 ho1 => ⟨N0 _ _ ho1, rfl⟩⟩⟩
theorem QwO {L0 : Nat → FG} {M0 : FG} (N0 : Cv1 L0 M0) (a0 : (List ByteArray)) (h1 : Qc) (r0 : (List Nat)) : Cv (fun k => PG (L0 k) a0 h1 r0) (PG M0 a0 h1 r0) := by
  unfold PG
  exact .bind (N0 _) (fun o1 => by exact .const _)
def VQ.s : Nat → (List ByteArray) → Qc → (List Nat) → Option (Bool × Qc)
  | 0, _, _, _ => none
  | k + 1, a0, h1, r0 => PG (J8.s k (Ui.s k) (UD.s k) (Jw.s k)) a0 h1 r0
theorem VQ.ok : ∀ (k : Nat), QmM (ev k) (VQ.s k)
  | 0, _, _, _, _, h => (nomatch h)
  | k + 1, a0, h1, r0, r, h => fn_ok rfl (QgA pp (ev k) (J8.s k (Ui.s k) (UD.s k) (Jw.s k)) a0 h1 r0) (QwM _ _ a0 h1 r0) (QwN _ _ _ _ (QqN _ k _ _ _ (Ui.ok k) (UD.ok k) (Jw.ok k)) a0 h1 r0) h
noncomputable def J8 : JY → Option VP := J8.w Ui UD Jw
theorem J8.eq (a : JY) : J8 a = (Xi Ui UD Jw a).bind (Sum.elim J8 some) := UN _ _
noncomputable def VQ (a0 : (List ByteArray)) (h1 : Qc) (r0 : (List Nat)) : Option (Bool × Qc) := PG J8 a0 h1 r0
theorem VQ.cv (a0 : (List ByteArray)) (h1 : Qc) (r0 : (List Nat)) : Cv (fun k => VQ.s k a0 h1 r0) (VQ a0 h1 r0) := .un rfl (QwO (J8.cv (fun k => Ui.s k) (fun k => UD.s k) (fun k => Jw.s k) Ui UD Jw Ui.cv UD.cv Jw.cv) a0 h1 r0)
theorem VQ.eq (a0 : (List ByteArray)) (h1 : Qc) (r0 : (List Nat)) : VQ a0 h1 r0 = PG J8 a0 h1 r0 := rfl
def ZX (r : (Bool × Qc)) : AV × Heap := (xo r.1, [(0, .box [0, 0, 0, 0, 0, 5] [xi r.2.x.Line, xs r.2.x.Label, xi r.2.x.Kind, xi r.2.x.Op, xs r.2.x.Text, .arr 2]), (2, .arr true 5 (Qi r.2.x.Args))])
abbrev WB := (List ByteArray) → Qc → Option (Bool × Qc)
abbrev ZY (a1 : (List ByteArray)) (h0 : Qc) : List AV × Heap := ([.ptr 0 0, .sl (Qh a1)], [(0, .box [0, 0, 0, 0, 0, 5] [xi h0.x.Line, xs h0.x.Label, xi h0.x.Kind, xi h0.x.Op, xs h0.x.Text, .arr 1]), (1, .arr true 5 (Qi h0.x.Args))])
abbrev QaB (w : Cf) (a1 : (List ByteArray)) (h0 : Qc) : Option AH := w 125 (ZY a1 h0).1 (ZY a1 h0).2
abbrev Qa6 (w : Cf) (c : WB) : Prop := ∀ (a1 : (List ByteArray)) (h0 : Qc) (r : (Bool × Qc)), c a1 h0 = some r → QaB w a1 h0 = some (ZX r)
structure Qx where
  x1 : (List ByteArray)
  x14 : (List ByteArray)
  x15 : Int
  x16 : Int
  h0 : Qc
  r3 : (List Nat)
structure Jm where
  x1 : (List ByteArray)
  h0 : Qc
  r3 : (List Nat)
def VR (a : Qx) : St := { n := 38, nx := 4, env := [(0, .ptr 0 0), (1, .sl (Qh a.x1)), (5, .arr 3), (14, .sl (Qh a.x14)), (15, xi a.x15), (16, xi a.x16)], heap := [(0, .box [0, 0, 0, 0, 0, 5] [xi a.h0.x.Line, xs a.h0.x.Label, xi a.h0.x.Kind, xi a.h0.x.Op, xs a.h0.x.Text, .arr 2]), (2, .arr true 5 (Qi a.h0.x.Args)), (3, .fs (some 0) (Vq a.r3))] }
def Xq (a : Jm) : Ex × St := (.exit 0, { n := 38, nx := 4, env := [(1, .sl (Qh a.x1)), (5, .arr 3)], heap := [(0, .box [0, 0, 0, 0, 0, 5] [xi a.h0.x.Line, xs a.h0.x.Label, xi a.h0.x.Kind, xi a.h0.x.Op, xs a.h0.x.Text, .arr 2]), (2, .arr true 5 (Qi a.h0.x.Args)), (3, .fs (some 0) (Vq a.r3))] })
abbrev V3 := Qx → Option Jm
abbrev QfW (P : Pg) (lp : Lo) (l : V3) : Prop := ∀ (a : Qx) (r : Jm), l a = some r → lp (loopAt P 125 3) (VR a) = some (Xq r)
def Vk (C0 : VW) (a : Qx) : Option (Qx ⊕ Jm) := (bif (decide (a.x16 < a.x15)) then (bif (decide (0 ≤ a.x16)) then ((a.x14[(Int.toNat a.x16)]?).bind fun e1 => (bif (decide (((h_20.size + e1.size : Nat) : Int) ≤ IntKind.i64.max)) then (bif (decide ((((h_20 ++ e1).size + h_20.size : Nat) : Int) ≤ IntKind.i64.max)) then ((C0 Vt ((h_20 ++ e1) ++ h_20)).bind fun r2 => (bif r2 then (bif (decide ((a.r3.length + [178].length) * 8 ≤ most)) then (some (.inl (Qx.mk a.x1 a.x14 a.x15 (w64 (a.x16 + 1)) a.h0 (a.r3 ++ [178])))) else none) else (bif (decide ((a.r3.length + [129].length) * 8 ≤ most)) then (some (.inl (Qx.mk a.x1 a.x14 a.x15 (w64 (a.x16 + 1)) a.h0 (a.r3 ++ [129])))) else none))) else none) else none)) else none) else (some (.inr (Jm.mk a.x1 a.h0 a.r3))))
def Y0 (P : Pg) (w : Cf) (C0 : VW) (a : Qx) : Tr (Qx ⊕ Jm) XS := (.as (decide (a.x16 < a.x15)) (.as (decide (0 ≤ a.x16)) (.row ((Qh a.x14)[(Int.toNat a.x16)]?) (a.x14[(Int.toNat a.x16)]?) JL fun (e1 : ByteArray) => (.as (decide (((h_20.size + e1.size : Nat) : Int) ≤ IntKind.i64.max)) (.as (decide ((((h_20 ++ e1).size + h_20.size : Nat) : Int) ≤ IntKind.i64.max)) (.call (QfP w Vt ((h_20 ++ e1) ++ h_20)) (C0 Vt ((h_20 ++ e1) ++ h_20)) QaW fun r2 => (.as r2 (.rows [[.fn (.func 178) [] []]] (Vq [178]) (.yes (decide ((Vq [178]).all (fun r => r.length == 1) = true)) (.ask (decide (((Vq a.r3).length + (Vq [178]).length) * 8 ≤ most)) (decide ((a.r3.length + [178].length) * 8 ≤ most)) (.rows ((Vq a.r3) ++ (Vq [178])) (Vq (a.r3 ++ [178])) (lf VR (Qx.mk a.x1 a.x14 a.x15 (w64 (a.x16 + 1)) a.h0 (a.r3 ++ [178])))) .fail))) (.rows [[.fn (.func 129) [] []]] (Vq [129]) (.yes (decide ((Vq [129]).all (fun r => r.length == 1) = true)) (.ask (decide (((Vq a.r3).length + (Vq [129]).length) * 8 ≤ most)) (decide ((a.r3.length + [129].length) * 8 ≤ most)) (.rows ((Vq a.r3) ++ (Vq [129])) (Vq (a.r3 ++ [129])) (lf VR (Qx.mk a.x1 a.x14 a.x15 (w64 (a.x16 + 1)) a.h0 (a.r3 ++ [129])))) .fail))))) .fail) .fail)) .fail) (rx Xq (Jm.mk a.x1 a.h0 a.r3)))
theorem QeL (w : Cf) (C0 : VW) (a : Qx) : (Y0 pp w C0 a).norm (roundT pp G.kd w 2 (G.an 125) (loopAt pp 125 3) (VR a)) = Y0 pp w C0 a := by kernel_rfl
theorem QeM (P : Pg) (w : Cf) (lp : Lo) (C0 : VW) (K0 : Qgg w C0) (a : Qx) : (Y0 P w C0 a).ok lp (Sum.elim (fun a => (.norm, VR a)) Xq) := ⟨rfl, fun q0 => ⟨rfl, fun q1 => fun e1 h => ⟨Jo h, ⟨rfl, fun q2 => ⟨rfl, fun q3 => fun r2 hr2 => ⟨K0 _ _ _ hr2, ⟨rfl, fun q4 => ⟨(Pl [178]), ⟨(decide_eq_true (Qkb _)), ⟨(by rw [E2, E2]), fun q5 => ⟨(Qf5 _ _), rfl⟩, fun q5 => trivial⟩⟩⟩, fun q4 => ⟨(Pl [129]), ⟨(decide_eq_true (Qkb _)), ⟨(by rw [E2, E2]), fun q5 => ⟨(Qf5 _ _), rfl⟩, fun q5 => trivial⟩⟩⟩⟩⟩, fun q3 => trivial⟩, fun q2 => trivial⟩⟩, fun q1 => trivial⟩, fun q0 => rfl⟩
theorem QeN {C0 : Nat → VW} {D0 : VW} (H0 : Cv2 C0 D0) (a : Qx) : Cv (fun k => Vk (C0 k) a) (Vk D0 a) := by
  unfold Vk
  exact .cond (.cond (.bind (.const _) fun e1 => .cond (.cond (.bind (H0 _ _) fun r2 => by exact .const _) cst) cst) cst) cst
def QD.s (k : Nat) (C0 : VW) : Qx → Option Jm := iter (Vk C0) k
theorem Qes (w : Cf) (k : Nat) (C0 : VW) (K0 : Qgg w C0) (a : Qx) (r : Jm) (h : QD.s k C0 a = some r) : loopsF pp G.kd w 2 (G.an 125) k (loopAt pp 125 3) (VR a) = some (Xq r) :=
  Va (fun a => Y0 pp w C0 a) (fun _ => rfl) (fun a => QeL w _ a) (fun a => QeM _ w _ _ K0 a) (fun r => nofun) h
noncomputable def QD.w (C0 : VW) : Qx → Option Jm := loopW (Vk C0)
theorem QD.cv (C0 : Nat → VW) (D0 : VW) (H0 : Cv2 C0 D0) (a : Qx) : Cv (fun k => QD.s k (C0 k) a) (QD.w D0 a) := Cv.iter (fun a => QeN H0 a) a
def Wm (C0 : ST) (C1 : Z4) (C2 : ZO) (L3 : V3) (a1 : (List ByteArray)) (h0 : Qc) : Option (Bool × Qc) := ((C0 h0.x.Op).bind fun r1 => ((C1 r1).bind fun r2 => ((L3 (Qx.mk a1 r2 (((r2.length) : Nat) : Int) (0 : Int) h0 ([] : List Nat))).bind (fun (o3 : Jm) => ((C2 o3.x1 o3.h0 o3.r3).bind fun r4 => (some (r4.1, r4.2)))))))
def ZZ (P : Pg) (w : Cf) (C0 : ST) (C1 : Z4) (C2 : ZO) (L3 : V3) (a1 : (List ByteArray)) (h0 : Qc) : Tr (Bool × Qc) AH := (.call (Qoi w h0.x.Op) (C0 h0.x.Op) Qfd fun r1 => (.call (Qhv w r1) (C1 r1) QcA fun r2 => (.num ((Qh r2).length) (r2.length) (.loop (loopAt P 125 3) (VR (Qx.mk a1 r2 (((r2.length) : Nat) : Int) i0 h0 ([] : List Nat))) (L3 (Qx.mk a1 r2 (((r2.length) : Nat) : Int) i0 h0 ([] : List Nat))) Xq (fun (o3 : Jm) => (.call (Fb w o3.x1 o3.h0 o3.r3) (C2 o3.x1 o3.h0 o3.r3) Z8 fun r4 => (rt ZX (r4.1, r4.2))))))))
theorem QgB (w : Cf) (C0 : ST) (C1 : Z4) (C2 : ZO) (L3 : V3) (a1 : (List ByteArray)) (h0 : Qc) : (ZZ pp w C0 C1 C2 L3 a1 h0).norm (bodyT pp w G 125 (ZY a1 h0).1 (ZY a1 h0).2) = ZZ pp w C0 C1 C2 L3 a1 h0 := by kernel_rfl
theorem QgC (P : Pg) (w : Cf) (lp : Lo) (C0 : ST) (C1 : Z4) (C2 : ZO) (L3 : V3) (K0 : QpK w C0) (K1 : QpL w C1) (K2 : QmM w C2) (N3 : QfW P lp L3) (a1 : (List ByteArray)) (h0 : Qc) : (ZZ P w C0 C1 C2 L3 a1 h0).ok lp ZX := fun r1 hr1 => ⟨K0 _ _ hr1, fun r2 hr2 => ⟨K1 _ _ hr2, ⟨(QJ _), fun o3 ho3 => ⟨N3 _ _ ho3, fun r4 hr4 => ⟨K2 _ _ _ _ hr4, rfl⟩⟩⟩⟩⟩
theorem QgD {C0 : Nat → ST} {D0 : ST} (H0 : Cv1 C0 D0) {C1 : Nat → Z4} {D1 : Z4} (H1 : Cv1 C1 D1) {C2 : Nat → ZO} {D2 : ZO} (H2 : Cv3 C2 D2) {L3 : Nat → V3} {M3 : V3} (N3 : Cv1 L3 M3) (a1 : (List ByteArray)) (h0 : Qc) : Cv (fun k => Wm (C0 k) (C1 k) (C2 k) (L3 k) a1 h0) (Wm D0 D1 D2 M3 a1 h0) := by
  unfold Wm
  exact .bind (H0 _) fun r1 => .bind (H1 _) fun r2 => .bind (N3 _) (fun o3 => .bind (H2 _ _ _) fun r4 => by exact .const _)
def Js.s : Nat → (List ByteArray) → Qc → Option (Bool × Qc)
  | 0, _, _ => none
  | k + 1, a1, h0 => Wm (X0.s k) (Vi.s k) (VQ.s k) (QD.s k (Ul.s k)) a1 h0
theorem Js.ok : ∀ (k : Nat), Qa6 (ev k) (Js.s k)
  | 0, _, _, _, h => (nomatch h)
  | k + 1, a1, h0, r, h => fn_ok rfl (ZZ pp (ev k) (X0.s k) (Vi.s k) (VQ.s k) (QD.s k (Ul.s k)) a1 h0) (QgB _ _ _ _ _ a1 h0) (QgC _ _ _ _ _ _ _ (X0.ok k) (Vi.ok k) (VQ.ok k) (Qes _ k _ (Ul.ok k)) a1 h0) h
noncomputable def QD : Qx → Option Jm := QD.w Ul
theorem QD.eq (a : Qx) : QD a = (Vk Ul a).bind (Sum.elim QD some) := UN _ _
noncomputable def Js (a1 : (List ByteArray)) (h0 : Qc) : Option (Bool × Qc) := Wm X0 Vi VQ QD a1 h0
theorem Js.cv (a1 : (List ByteArray)) (h0 : Qc) : Cv (fun k => Js.s k a1 h0) (Js a1 h0) := .un rfl (QgD X0.cv Vi.cv VQ.cv (QD.cv (fun k => Ul.s k) Ul Ul.cv) a1 h0)
theorem Js.eq (a1 : (List ByteArray)) (h0 : Qc) : Js a1 h0 = Wm X0 Vi VQ QD a1 h0 := rfl
def Qd1 (r : (List ByteArray)) : AV × Heap := (.sl (Qh r), [])
abbrev P2 := Option (List ByteArray)
abbrev Qd2 : List AV × Heap := ([], [])
abbrev QmN (w : Cf) : Option AH := w 111 (Qd2 ).1 (Qd2 ).2
abbrev Qol (w : Cf) (c : P2) : Prop := ∀ (r : (List ByteArray)), c = some r → QmN w = some (Qd1 r)
def Qhz : Option (List ByteArray) := (some [s_b, s_bl, s_bc])
def Qd3 (P : Pg) (w : Cf) : Tr (List ByteArray) AH := (.rows [[xs s_b], [xs s_bl], [xs s_bc]] (Qh [s_b, s_bl, s_bc]) (rt Qd1 [s_b, s_bl, s_bc]))
theorem QtM (w : Cf) : (Qd3 pp w ).norm (bodyT pp w G 111 (Qd2 ).1 (Qd2 ).2) = Qd3 pp w := by kernel_rfl
theorem QtN (P : Pg) (w : Cf) (lp : Lo) : (Qd3 P w ).ok lp Qd1 := ⟨(Jv [s_b, s_bl, s_bc]), rfl⟩
def Xf.s : Nat → Option (List ByteArray)
  | 0 => none
  | k + 1 => Qhz
theorem Xf.ok : ∀ (k : Nat), Qol (ev k) (Xf.s k)
  | 0, _, h => (nomatch h)
  | k + 1, r, h => fn_ok rfl (Qd3 pp (ev k) ) (QtM _ ) (QtN _ _ _ ) h
noncomputable def Xf : Option (List ByteArray) := Qhz
theorem Xf.cv : Cv (fun k => Xf.s k ) (Xf ) := .un rfl (by exact .const _)
theorem Xf.eq : Xf = Qhz := rfl
def XY (r : Int) : AV × Heap := (xi r, [])
abbrev EM := (List ByteArray) → ByteArray → Option Int
abbrev Qbz (a0 : (List ByteArray)) (a1 : ByteArray) : List AV × Heap := ([.sl (Qh a0), xs a1], [])
abbrev GR (w : Cf) (a0 : (List ByteArray)) (a1 : ByteArray) : Option AH := w 126 (Qbz a0 a1).1 (Qbz a0 a1).2
abbrev Qk4 (w : Cf) (c : EM) : Prop := ∀ (a0 : (List ByteArray)) (a1 : ByteArray) (r : Int), c a0 a1 = some r → GR w a0 a1 = some (XY r)
structure JR where
  x0 : (List ByteArray)
  x1 : ByteArray
  x7 : Int
  x8 : Int
def Gm (a : JR) : St := { n := 19, nx := 0, env := [(0, .sl (Qh a.x0)), (1, xs a.x1), (7, xi a.x7), (8, xi a.x8)], heap := [] }
def QfX (a : Int) : Ex × St := (.ret, { n := 19, nx := 0, env := [(4, xi a)], heap := [] })
def QfY (a : Unit) : Ex × St := (.exit 0, { n := 19, nx := 0, env := [], heap := [] })
def EX (a : (Int ⊕ Unit)) : Ex × St := Sum.elim QfX QfY a
abbrev Zy := JR → Option (Int ⊕ Unit)
abbrev QoH (P : Pg) (lp : Lo) (l : Zy) : Prop := ∀ (a : JR) (r : (Int ⊕ Unit)), l a = some r → lp (loopAt P 126 2) (Gm a) = some (EX r)
def EY (a : JR) : Option (JR ⊕ (Int ⊕ Unit)) := (bif (decide (a.x8 < a.x7)) then (bif (decide (0 ≤ a.x8)) then ((a.x0[(Int.toNat a.x8)]?).bind fun e1 => (bif (eqS a.x1 e1) then (some (.inr (.inl a.x8))) else (some (.inl (JR.mk a.x0 a.x1 a.x7 (w64 (a.x8 + 1))))))) else none) else (some (.inr (.inr ()))))
def Sm (P : Pg) (w : Cf) (a : JR) : Tr (JR ⊕ (Int ⊕ Unit)) XS := (.as (decide (a.x8 < a.x7)) (.as (decide (0 ≤ a.x8)) (.row ((Qh a.x0)[(Int.toNat a.x8)]?) (a.x0[(Int.toNat a.x8)]?) JL fun (e1 : ByteArray) => (.as (eqS a.x1 e1) (rx EX (.inl a.x8)) (lf Gm (JR.mk a.x0 a.x1 a.x7 (w64 (a.x8 + 1)))))) .fail) (rx EX (.inr ())))
theorem QnT (w : Cf) (a : JR) : (Sm pp w a).norm (roundT pp G.kd w 0 (G.an 126) (loopAt pp 126 2) (Gm a)) = Sm pp w a := by kernel_rfl
theorem QnU (P : Pg) (w : Cf) (lp : Lo) (a : JR) : (Sm P w a).ok lp (Sum.elim (fun a => (.norm, Gm a)) EX) := ⟨rfl, fun q0 => ⟨rfl, fun q1 => fun e1 h => ⟨Jo h, ⟨rfl, fun q2 => rfl, fun q2 => rfl⟩⟩, fun q1 => trivial⟩, fun q0 => rfl⟩
def Q4.s (k : Nat) : JR → Option (Int ⊕ Unit) := iter (EY ) k
theorem QmO (w : Cf) (k : Nat) (a : JR) (r : (Int ⊕ Unit)) (h : Q4.s k a = some r) : loopsF pp G.kd w 0 (G.an 126) k (loopAt pp 126 2) (Gm a) = some (EX r) :=
  Va (fun a => Sm pp w a) (fun _ => rfl) (fun a => QnT w a) (fun a => QnU _ w _ a) (fun r => by cases r <;> nofun) h
noncomputable def Q4.w : JR → Option (Int ⊕ Unit) := loopW (EY )
theorem Q4.cv (a : JR) : Cv (fun k => Q4.s k a) (Q4.w a) := Cv.iter (fun a => by exact .const _) a
def ZP (L0 : Zy) (a0 : (List ByteArray)) (a1 : ByteArray) : Option Int := ((L0 (JR.mk a0 a1 (((a0.length) : Nat) : Int) (0 : Int))).bind fun x => Sum.elim (fun (o1 : Int) => (some o1)) (fun (o2 : Unit) => (some (-1 : Int))) x)
def QbA (P : Pg) (w : Cf) (L0 : Zy) (a0 : (List ByteArray)) (a1 : ByteArray) : Tr Int AH := (.num ((Qh a0).length) (a0.length) (.loop2 (loopAt P 126 2) (Gm (JR.mk a0 a1 (((a0.length) : Nat) : Int) i0)) (L0 (JR.mk a0 a1 (((a0.length) : Nat) : Int) i0)) QfX QfY (fun (o1 : Int) => (rt XY o1)) (fun (o2 : Unit) => (rt XY (-1 : Int)))))
theorem QqO (w : Cf) (L0 : Zy) (a0 : (List ByteArray)) (a1 : ByteArray) : (QbA pp w L0 a0 a1).norm (bodyT pp w G 126 (Qbz a0 a1).1 (Qbz a0 a1).2) = QbA pp w L0 a0 a1 := by kernel_rfl
theorem QqP (P : Pg) (w : Cf) (lp : Lo) (L0 : Zy) (N0 : QoH P lp L0) (a0 : (List ByteArray)) (a1 : ByteArray) : (QbA P w L0 a0 a1).ok lp XY := ⟨(QJ _), ⟨fun o1 ho1 => ⟨N0 _ (.inl _) ho1, rfl⟩, fun o2 ho2 => ⟨N0 _ (.inr _) ho2, rfl⟩⟩⟩
theorem QqQ {L0 : Nat → Zy} {M0 : Zy} (N0 : Cv1 L0 M0) (a0 : (List ByteArray)) (a1 : ByteArray) : Cv (fun k => ZP (L0 k) a0 a1) (ZP M0 a0 a1) := by
  unfold ZP
  exact .bind (N0 _) fun x => .sum (fun o1 => by exact .const _) (fun o2 => by exact .const _) x
def VG.s : Nat → (List ByteArray) → ByteArray → Option Int
  | 0, _, _ => none
  | k + 1, a0, a1 => ZP (Q4.s k) a0 a1
theorem VG.ok : ∀ (k : Nat), Qk4 (ev k) (VG.s k)
  | 0, _, _, _, h => (nomatch h)
  | k + 1, a0, a1, r, h => fn_ok rfl (QbA pp (ev k) (Q4.s k) a0 a1) (QqO _ _ a0 a1) (QqP _ _ _ _ (QmO _ k) a0 a1) h
noncomputable def Q4 : JR → Option (Int ⊕ Unit) := Q4.w
theorem Q4.eq (a : JR) : Q4 a = (EY a).bind (Sum.elim Q4 some) := UN _ _
noncomputable def VG (a0 : (List ByteArray)) (a1 : ByteArray) : Option Int := ZP Q4 a0 a1
theorem VG.cv (a0 : (List ByteArray)) (a1 : ByteArray) : Cv (fun k => VG.s k a0 a1) (VG a0 a1) := .un rfl (QqQ (Q4.cv) a0 a1)
theorem VG.eq (a0 : (List ByteArray)) (a1 : ByteArray) : VG a0 a1 = ZP Q4 a0 a1 := rfl
def Ed (r : (Qc × (List Nat))) : AV × Heap := (.arr 3, [(0, .box [0, 0, 0, 0, 0, 5] [xi r.1.x.Line, xs r.1.x.Label, xi r.1.x.Kind, xi r.1.x.Op, xs r.1.x.Text, .arr 2]), (2, .arr true 5 (Qi r.1.x.Args)), (3, .fs (some 0) (Vq r.2))])
abbrev SX := Int → Qc → Option (Qc × (List Nat))
abbrev Qfn (a1 : Int) (h0 : Qc) : List AV × Heap := ([.fn (.func 129) [.ptr 0 0] [], xi a1], [(0, .box [0, 0, 0, 0, 0, 5] [xi h0.x.Line, xs h0.x.Label, xi h0.x.Kind, xi h0.x.Op, xs h0.x.Text, .arr 1]), (1, .arr true 5 (Qi h0.x.Args))])
abbrev P4 (w : Cf) (a1 : Int) (h0 : Qc) : Option AH := w 128 (Qfn a1 h0).1 (Qfn a1 h0).2
abbrev QpT (w : Cf) (c : SX) : Prop := ∀ (a1 : Int) (h0 : Qc) (r : (Qc × (List Nat))), c a1 h0 = some r → P4 w a1 h0 = some (Ed r)
structure UG where
  x6 : Int
  x7 : Int
  h0 : Qc
  r3 : (List Nat)
structure V7 where
  h0 : Qc
  r3 : (List Nat)
def Ft (a : UG) : St := { n := 15, nx := 4, env := [(0, .fn (.func 129) [.ptr 0 0] []), (5, .arr 3), (6, xi a.x6), (7, xi a.x7)], heap := [(0, .box [0, 0, 0, 0, 0, 5] [xi a.h0.x.Line, xs a.h0.x.Label, xi a.h0.x.Kind, xi a.h0.x.Op, xs a.h0.x.Text, .arr 2]), (2, .arr true 5 (Qi a.h0.x.Args)), (3, .fs (some 0) (Vq a.r3))] }
def SC (a : V7) : Ex × St := (.exit 0, { n := 15, nx := 4, env := [(5, .arr 3)], heap := [(0, .box [0, 0, 0, 0, 0, 5] [xi a.h0.x.Line, xs a.h0.x.Label, xi a.h0.x.Kind, xi a.h0.x.Op, xs a.h0.x.Text, .arr 2]), (2, .arr true 5 (Qi a.h0.x.Args)), (3, .fs (some 0) (Vq a.r3))] })
abbrev EN := UG → Option V7
abbrev Qso (P : Pg) (lp : Lo) (l : EN) : Prop := ∀ (a : UG) (r : V7), l a = some r → lp (loopAt P 128 3) (Ft a) = some (SC r)
def SD (a : UG) : Option (UG ⊕ V7) := (bif (decide (a.x7 < a.x6)) then (bif (decide ((a.r3.length + [129].length) * 8 ≤ most)) then (some (.inl (UG.mk a.x6 (w64 (a.x7 + 1)) a.h0 (a.r3 ++ [129])))) else none) else (some (.inr (V7.mk a.h0 a.r3))))
def QbB (P : Pg) (w : Cf) (a : UG) : Tr (UG ⊕ V7) XS := (.as (decide (a.x7 < a.x6)) (.rows [[.fn (.func 129) [] []]] (Vq [129]) (.yes (decide ((Vq [129]).all (fun r => r.length == 1) = true)) (.ask (decide (((Vq a.r3).length + (Vq [129]).length) * 8 ≤ most)) (decide ((a.r3.length + [129].length) * 8 ≤ most)) (.rows ((Vq a.r3) ++ (Vq [129])) (Vq (a.r3 ++ [129])) (lf Ft (UG.mk a.x6 (w64 (a.x7 + 1)) a.h0 (a.r3 ++ [129])))) .fail))) (rx SC (V7.mk a.h0 a.r3)))
theorem QqR (w : Cf) (a : UG) : (QbB pp w a).norm (roundT pp G.kd w 2 (G.an 128) (loopAt pp 128 3) (Ft a)) = QbB pp w a := by kernel_rfl
theorem QqS (P : Pg) (w : Cf) (lp : Lo) (a : UG) : (QbB P w a).ok lp (Sum.elim (fun a => (.norm, Ft a)) SC) := ⟨rfl, fun q0 => ⟨(Pl [129]), ⟨(decide_eq_true (Qkb _)), ⟨(by rw [E2, E2]), fun q1 => ⟨(Qf5 _ _), rfl⟩, fun q1 => trivial⟩⟩⟩, fun q0 => rfl⟩
def Vv.s (k : Nat) : UG → Option V7 := iter (SD ) k
theorem QpU (w : Cf) (k : Nat) (a : UG) (r : V7) (h : Vv.s k a = some r) : loopsF pp G.kd w 2 (G.an 128) k (loopAt pp 128 3) (Ft a) = some (SC r) :=
  Va (fun a => QbB pp w a) (fun _ => rfl) (fun a => QqR w a) (fun a => QqS _ w _ a) (fun r => nofun) h
noncomputable def Vv.w : UG → Option V7 := loopW (SD )
theorem Vv.cv (a : UG) : Cv (fun k => Vv.s k a) (Vv.w a) := Cv.iter (fun a => by exact .const _) a
def P5 (L0 : EN) (a1 : Int) (h0 : Qc) : Option (Qc × (List Nat)) := ((L0 (UG.mk a1 (0 : Int) h0 ([] : List Nat))).bind (fun (o1 : V7) => (some (o1.h0, o1.r3))))
def Qfo (P : Pg) (w : Cf) (L0 : EN) (a1 : Int) (h0 : Qc) : Tr (Qc × (List Nat)) AH := (.loop (loopAt P 128 3) (Ft (UG.mk a1 i0 h0 ([] : List Nat))) (L0 (UG.mk a1 i0 h0 ([] : List Nat))) SC (fun (o1 : V7) => (rt Ed (o1.h0, o1.r3))))
theorem Qvf (w : Cf) (L0 : EN) (a1 : Int) (h0 : Qc) : (Qfo pp w L0 a1 h0).norm (bodyT pp w G 128 (Qfn a1 h0).1 (Qfn a1 h0).2) = Qfo pp w L0 a1 h0 := by kernel_rfl
theorem Qvg (P : Pg) (w : Cf) (lp : Lo) (L0 : EN) (N0 : Qso P lp L0) (a1 : Int) (h0 : Qc) : (Qfo P w L0 a1 h0).ok lp Ed := fun o1 ho1 => ⟨N0 _ _ ho1, rfl⟩
theorem Qvh {L0 : Nat → EN} {M0 : EN} (N0 : Cv1 L0 M0) (a1 : Int) (h0 : Qc) : Cv (fun k => P5 (L0 k) a1 h0) (P5 M0 a1 h0) := by
  unfold P5
  exact .bind (N0 _) (fun o1 => by exact .const _)
def W8.s : Nat → Int → Qc → Option (Qc × (List Nat))
  | 0, _, _ => none
  | k + 1, a1, h0 => P5 (Vv.s k) a1 h0
theorem W8.ok : ∀ (k : Nat), QpT (ev k) (W8.s k)
  | 0, _, _, _, h => (nomatch h)
  | k + 1, a1, h0, r, h => fn_ok rfl (Qfo pp (ev k) (Vv.s k) a1 h0) (Qvf _ _ a1 h0) (Qvg _ _ _ _ (QpU _ k) a1 h0) h
noncomputable def Vv : UG → Option V7 := Vv.w
theorem Vv.eq (a : UG) : Vv a = (SD a).bind (Sum.elim Vv some) := UN _ _
noncomputable def W8 (a1 : Int) (h0 : Qc) : Option (Qc × (List Nat)) := P5 Vv a1 h0
theorem W8.cv (a1 : Int) (h0 : Qc) : Cv (fun k => W8.s k a1 h0) (W8 a1 h0) := .un rfl (Qvh (Vv.cv) a1 h0)
theorem W8.eq (a1 : Int) (h0 : Qc) : W8 a1 h0 = P5 Vv a1 h0 := rfl
def Yo (r : Bool) : AV × Heap := (xo r, [])
abbrev U8 := Int → Option Bool
abbrev EB (a0 : Int) : List AV × Heap := ([xb a0], [])
abbrev Qc0 (w : Cf) (a0 : Int) : Option AH := w 180 (EB a0).1 (EB a0).2
abbrev SY (w : Cf) (c : U8) : Prop := ∀ (a0 : Int) (r : Bool), c a0 = some r → Qc0 w a0 = some (Yo r)
def EC (a0 : Int) : Option Bool := (bif (decide (a0 ≥ 32)) then (bif (decide (a0 ≤ (126 : Int))) then (some (a0 != 34)) else (some false)) else (some false))
def ED (P : Pg) (w : Cf) (a0 : Int) : Tr Bool AH := (let u68 := (decide (a0 ≥ 32)); .as u68 (yesN 2 u68 (let u67 := (decide (a0 ≤ (zi 126))); .as u67 (yesN 2 u67 (rt Yo (a0 != 34))) (noN 2 u67 (rt Yo false)))) (noN 2 u68 (noN 3 false (rt Yo false))))
theorem QjI (w : Cf) (a0 : Int) : (ED pp w a0).norm (bodyT pp w G 180 (EB a0).1 (EB a0).2) = ED pp w a0 := by kernel_rfl
theorem QjJ (P : Pg) (w : Cf) (lp : Lo) (a0 : Int) : (ED P w a0).ok lp Yo := ⟨rfl, fun q0 => Qj 2 (q0) (⟨rfl, fun q1 => Qj 2 (q1) (rfl), fun q1 => noN_ok 2 (q1) (rfl)⟩), fun q0 => noN_ok 2 (q0) (noN_ok 3 (rfl) (rfl))⟩
def JK.s : Nat → Int → Option Bool
  | 0, _ => none
  | k + 1, a0 => EC a0
theorem JK.ok : ∀ (k : Nat), SY (ev k) (JK.s k)
  | 0, _, _, h => (nomatch h)
  | k + 1, a0, r, h => fn_ok rfl (ED pp (ev k) a0) (QjI _ a0) (QjJ _ _ _ a0) h
noncomputable def JK (a0 : Int) : Option Bool := EC a0
theorem JK.cv (a0 : Int) : Cv (fun k => JK.s k a0) (JK a0) := .un rfl (by exact .const _)
theorem JK.eq (a0 : Int) : JK a0 = EC a0 := rfl
def QbC (r : Int) : AV × Heap := (xi r, [])
abbrev EO := ByteArray → Option Int
abbrev QbD (a0 : ByteArray) : List AV × Heap := ([xs a0, .fn (.func 180) [] []], [])
abbrev QjK (w : Cf) (a0 : ByteArray) : Option AH := w 72 (QbD a0).1 (QbD a0).2
abbrev Qk5 (w : Cf) (c : EO) : Prop := ∀ (a0 : ByteArray) (r : Int), c a0 = some r → QjK w a0 = some (QbC r)
structure JB where
  x0 : ByteArray
  x5 : Int
def Gn (a : JB) : St := { n := 20, nx := 0, env := [(0, xs a.x0), (1, .fn (.func 180) [] []), (5, xi a.x5)], heap := [] }
def Gp (a : Int) : Ex × St := (.exit 0, { n := 20, nx := 0, env := [(5, xi a)], heap := [] })
abbrev Zz := JB → Option Int
abbrev QoI (P : Pg) (lp : Lo) (l : Zz) : Prop := ∀ (a : JB) (r : Int), l a = some r → lp (loopAt P 72 2) (Gn a) = some (Gp r)
def Za (C0 : U8) (a : JB) : Option (JB ⊕ Int) := (bif (decide (a.x5 < ((a.x0.size : Nat) : Int))) then (bif (decide (0 ≤ a.x5 ∧ a.x5 < ((a.x0.size : Nat) : Int))) then ((C0 ((a.x0.data.getD (Int.toNat a.x5) 0).toNat : Int)).bind fun r1 => (bif r1 then (some (.inl (JB.mk a.x0 (w64 (a.x5 + 1))))) else (some (.inr a.x5)))) else none) else (some (.inr a.x5)))
def Sn (P : Pg) (w : Cf) (C0 : U8) (a : JB) : Tr (JB ⊕ Int) XS := (let u69 := (decide (a.x5 < (zz a.x0))); .as u69 (yesN 3 u69 (.as (in1 a.x5 (zz a.x0)) (.yes u69 (.call (Qc0 w (gb a.x0 a.x5)) (C0 (gb a.x0 a.x5)) Yo fun r1 => (.yes u69 (.as r1 (lf Gn (JB.mk a.x0 (w64 (a.x5 + 1)))) (rx Gp a.x5))))) .fail)) (noN 5 u69 (.no false (rx Gp a.x5))))
theorem QnV (w : Cf) (C0 : U8) (a : JB) : (Sn pp w C0 a).norm (roundT pp G.kd w 0 (G.an 72) (loopAt pp 72 2) (Gn a)) = Sn pp w C0 a := by kernel_rfl
theorem QnW (P : Pg) (w : Cf) (lp : Lo) (C0 : U8) (K0 : SY w C0) (a : JB) : (Sn P w C0 a).ok lp (Sum.elim (fun a => (.norm, Gn a)) Gp) := ⟨rfl, fun q0 => Qj 3 (q0) (⟨rfl, fun q1 => ⟨q0, fun r1 hr1 => ⟨K0 _ _ hr1, ⟨q0, ⟨rfl, fun q2 => rfl, fun q2 => rfl⟩⟩⟩⟩, fun q1 => trivial⟩), fun q0 => noN_ok 5 (q0) (⟨rfl, rfl⟩)⟩
theorem QnX {C0 : Nat → U8} {D0 : U8} (H0 : Cv1 C0 D0) (a : JB) : Cv (fun k => Za (C0 k) a) (Za D0 a) := by
  unfold Za
  exact .cond (.cond (.bind (H0 _) fun r1 => by exact .const _) cst) cst
def Vf.s (k : Nat) (C0 : U8) : JB → Option Int := iter (Za C0) k
theorem QmP (w : Cf) (k : Nat) (C0 : U8) (K0 : SY w C0) (a : JB) (r : Int) (h : Vf.s k C0 a = some r) : loopsF pp G.kd w 0 (G.an 72) k (loopAt pp 72 2) (Gn a) = some (Gp r) :=
  Va (fun a => Sn pp w C0 a) (fun _ => rfl) (fun a => QnV w _ a) (fun a => QnW _ w _ _ K0 a) (fun r => nofun) h
noncomputable def Vf.w (C0 : U8) : JB → Option Int := loopW (Za C0)
theorem Vf.cv (C0 : Nat → U8) (D0 : U8) (H0 : Cv1 C0 D0) (a : JB) : Cv (fun k => Vf.s k (C0 k) a) (Vf.w D0 a) := Cv.iter (fun a => QnX H0 a) a
def GS (L0 : Zz) (a0 : ByteArray) : Option Int := ((L0 (JB.mk a0 (0 : Int))).bind (fun (o1 : Int) => (some o1)))
def QbE (P : Pg) (w : Cf) (L0 : Zz) (a0 : ByteArray) : Tr Int AH := (.loop (loopAt P 72 2) (Gn (JB.mk a0 i0)) (L0 (JB.mk a0 i0)) Gp (fun (o1 : Int) => (rt QbC o1)))
theorem QqT (w : Cf) (L0 : Zz) (a0 : ByteArray) : (QbE pp w L0 a0).norm (bodyT pp w G 72 (QbD a0).1 (QbD a0).2) = QbE pp w L0 a0 := by kernel_rfl
theorem QqU (P : Pg) (w : Cf) (lp : Lo) (L0 : Zz) (N0 : QoI P lp L0) (a0 : ByteArray) : (QbE P w L0 a0).ok lp QbC := fun o1 ho1 => ⟨N0 _ _ ho1, rfl⟩
theorem QqV {L0 : Nat → Zz} {M0 : Zz} (N0 : Cv1 L0 M0) (a0 : ByteArray) : Cv (fun k => GS (L0 k) a0) (GS M0 a0) := by
  unfold GS
  exact .bind (N0 _) (fun o1 => by exact .const _)
def Wg.s : Nat → ByteArray → Option Int
  | 0, _ => none
  | k + 1, a0 => GS (Vf.s k (JK.s k)) a0
theorem Wg.ok : ∀ (k : Nat), Qk5 (ev k) (Wg.s k)
  | 0, _, _, h => (nomatch h)
  | k + 1, a0, r, h => fn_ok rfl (QbE pp (ev k) (Vf.s k (JK.s k)) a0) (QqT _ _ a0) (QqU _ _ _ _ (QmP _ k _ (JK.ok k)) a0) h
noncomputable def Vf : JB → Option Int := Vf.w JK
theorem Vf.eq (a : JB) : Vf a = (Za JK a).bind (Sum.elim Vf some) := UN _ _
noncomputable def Wg (a0 : ByteArray) : Option Int := GS Vf a0
theorem Wg.cv (a0 : ByteArray) : Cv (fun k => Wg.s k a0) (Wg a0) := .un rfl (QqV (Vf.cv (fun k => JK.s k) JK JK.cv) a0)
theorem Wg.eq (a0 : ByteArray) : Wg a0 = GS Vf a0 := rfl
def W9 (r : (Bool × Qc)) : AV × Heap := (xo r.1, [(0, .box [0, 0, 0, 0, 0, 5] [xi r.2.x.Line, xs r.2.x.Label, xi r.2.x.Kind, xi r.2.x.Op, xs r.2.x.Text, .arr 2]), (2, .arr true 5 (Qi r.2.x.Args))])
abbrev YD := ByteArray → Qc → Option (Bool × Qc)
abbrev F5 (a1 : ByteArray) (h0 : Qc) : List AV × Heap := ([.ptr 0 0, xs a1], [(0, .box [0, 0, 0, 0, 0, 5] [xi h0.x.Line, xs h0.x.Label, xi h0.x.Kind, xi h0.x.Op, xs h0.x.Text, .arr 1]), (1, .arr true 5 (Qi h0.x.Args))])
abbrev QeD (w : Cf) (a1 : ByteArray) (h0 : Qc) : Option AH := w 130 (F5 a1 h0).1 (F5 a1 h0).2
abbrev QfZ (w : Cf) (c : YD) : Prop := ∀ (a1 : ByteArray) (h0 : Qc) (r : (Bool × Qc)), c a1 h0 = some r → QeD w a1 h0 = some (W9 r)
def Yf (C0 : EO) (a1 : ByteArray) (h0 : Qc) : Option (Bool × Qc) := (bif (decide (((a1.size : Nat) : Int) < 2)) then (some (false, h0)) else (bif (decide (((a1.size : Nat) : Int) > 62)) then (some (false, h0)) else (bif (decide (0 ≤ (0 : Int) ∧ (0 : Int) < ((a1.size : Nat) : Int))) then (bif (((a1.data.getD (Int.toNat 0) 0).toNat : Int) != 34) then (some (false, h0)) else (bif (decide (0 ≤ (w64 (((a1.size : Nat) : Int) - 1)) ∧ (w64 (((a1.size : Nat) : Int) - 1)) < ((a1.size : Nat) : Int))) then (bif (((a1.data.getD (Int.toNat (w64 (((a1.size : Nat) : Int) - 1))) 0).toNat : Int) != 34) then (some (false, h0)) else (bif (decide (0 ≤ (1 : Int) ∧ (1 : Int) ≤ (w64 (((a1.size : Nat) : Int) - 1)) ∧ (w64 (((a1.size : Nat) : Int) - 1)) ≤ ((a1.size : Nat) : Int))) then ((C0 (a1.extract (Int.toNat 1) (Int.toNat (w64 (((a1.size : Nat) : Int) - 1))))).bind fun r1 => (some ((r1 == (((a1.extract (Int.toNat 1) (Int.toNat (w64 (((a1.size : Nat) : Int) - 1)))).size : Nat) : Int)), (Qc.mk (Qg.mk h0.x.Line h0.x.Label h0.x.Kind h0.x.Op (a1.extract (Int.toNat 1) (Int.toNat (w64 (((a1.size : Nat) : Int) - 1)))) h0.x.Args))))) else none)) else none)) else none)))
def F6 (P : Pg) (w : Cf) (C0 : EO) (a1 : ByteArray) (h0 : Qc) : Tr (Bool × Qc) AH := (let u72 := (decide ((zz a1) < 2)); .as u72 (yesN 3 u72 (yesN 12 true (rt W9 (false, h0)))) (noN 3 u72 (let u71 := (decide ((zz a1) > 62)); .as u71 (yesN 3 u71 (yesN 8 true (rt W9 (false, h0)))) (.no u71 (.as (in1 i0 (zz a1)) (noN 2 u71 (let u70 := ((gb a1 i0) != 34); .as u70 (yesN 6 u70 (.yes true (rt W9 (false, h0)))) (noN 4 u70 (.as (in1 (w64 ((zz a1) - 1)) (zz a1)) (noN 2 u70 (.as ((gb a1 (w64 ((zz a1) - 1))) != 34) (rt W9 (false, h0)) (.as (in2 (zi 1) (w64 ((zz a1) - 1)) (zz a1)) (.call (QjK w (cu a1 (zi 1) (w64 ((zz a1) - 1)))) (C0 (cu a1 (zi 1) (w64 ((zz a1) - 1)))) QbC fun r1 => (rt W9 ((r1 == (zz (cu a1 (zi 1) (w64 ((zz a1) - 1))))), (Qc.mk (Qg.mk h0.x.Line h0.x.Label h0.x.Kind h0.x.Op (cu a1 (zi 1) (w64 ((zz a1) - 1))) h0.x.Args))))) .fail))) .fail)))) .fail)))))
theorem QlC (w : Cf) (C0 : EO) (a1 : ByteArray) (h0 : Qc) : (F6 pp w C0 a1 h0).norm (bodyT pp w G 130 (F5 a1 h0).1 (F5 a1 h0).2) = F6 pp w C0 a1 h0 := by kernel_rfl
theorem QlD (P : Pg) (w : Cf) (lp : Lo) (C0 : EO) (K0 : Qk5 w C0) (a1 : ByteArray) (h0 : Qc) : (F6 P w C0 a1 h0).ok lp W9 := ⟨rfl, fun q0 => Qj 3 (q0) (Qj 12 (rfl) (rfl)), fun q0 => noN_ok 3 (q0) (⟨rfl, fun q1 => Qj 3 (q1) (Qj 8 (rfl) (rfl)), fun q1 => ⟨q1, ⟨rfl, fun q2 => noN_ok 2 (q1) (⟨rfl, fun q3 => Qj 6 (q3) (⟨rfl, rfl⟩), fun q3 => noN_ok 4 (q3) (⟨rfl, fun q4 => noN_ok 2 (q3) (⟨rfl, fun q5 => rfl, fun q5 => ⟨rfl, fun q6 => fun r1 hr1 => ⟨K0 _ _ hr1, rfl⟩, fun q6 => trivial⟩⟩), fun q4 => trivial⟩)⟩), fun q2 => trivial⟩⟩⟩)⟩
theorem QlE {C0 : Nat → EO} {D0 : EO} (H0 : Cv1 C0 D0) (a1 : ByteArray) (h0 : Qc) : Cv (fun k => Yf (C0 k) a1 h0) (Yf D0 a1 h0) := by
  unfold Yf
  exact .cond cst (.cond cst (.cond (.cond cst (.cond (.cond cst (.cond (.bind (H0 _) fun r1 => by exact .const _) cst)) cst)) cst))
def UI.s : Nat → ByteArray → Qc → Option (Bool × Qc)
  | 0, _, _ => none
  | k + 1, a1, h0 => Yf (Wg.s k) a1 h0
theorem UI.ok : ∀ (k : Nat), QfZ (ev k) (UI.s k)
  | 0, _, _, _, h => (nomatch h)
  | k + 1, a1, h0, r, h => fn_ok rfl (F6 pp (ev k) (Wg.s k) a1 h0) (QlC _ _ a1 h0) (QlD _ _ _ _ (Wg.ok k) a1 h0) h
noncomputable def UI (a1 : ByteArray) (h0 : Qc) : Option (Bool × Qc) := Yf Wg a1 h0
theorem UI.cv (a1 : ByteArray) (h0 : Qc) : Cv (fun k => UI.s k a1 h0) (UI a1 h0) := .un rfl (QlE Wg.cv a1 h0)
theorem UI.eq (a1 : ByteArray) (h0 : Qc) : UI a1 h0 = Yf Wg a1 h0 := rfl
def QN (r : (Bool × Qc)) : AV × Heap := (xo r.1, [(0, .box [0, 0, 0, 0, 0, 5] [xi r.2.x.Line, xs r.2.x.Label, xi r.2.x.Kind, xi r.2.x.Op, xs r.2.x.Text, .arr 2]), (2, .arr true 5 (Qi r.2.x.Args))])
abbrev W0 := ByteArray → ByteArray → Qc → Option (Bool × Qc)
abbrev Gy (a1 : ByteArray) (a2 : ByteArray) (h0 : Qc) : List AV × Heap := ([.ptr 0 0, xs a1, xs a2], [(0, .box [0, 0, 0, 0, 0, 5] [xi h0.x.Line, xs h0.x.Label, xi h0.x.Kind, xi h0.x.Op, xs h0.x.Text, .arr 1]), (1, .arr true 5 (Qi h0.x.Args))])
abbrev Gz (w : Cf) (a1 : ByteArray) (a2 : ByteArray) (h0 : Qc) : Option AH := w 76 (Gy a1 a2 h0).1 (Gy a1 a2 h0).2
abbrev Qcb (w : Cf) (c : W0) : Prop := ∀ (a1 : ByteArray) (a2 : ByteArray) (h0 : Qc) (r : (Bool × Qc)), c a1 a2 h0 = some r → Gz w a1 a2 h0 = some (QN r)
def WN (C0 : GN) (C1 : QaU) (C2 : WB) (C3 : P2) (C4 : EM) (C5 : SX) (C6 : ZO) (C7 : YD) (a1 : ByteArray) (a2 : ByteArray) (h0 : Qc) : Option (Bool × Qc) := ((C0 a2).bind fun r1 => ((C1 a1).bind fun r2 => (bif r2.2 then ((C2 r1 (Qc.mk (Qg.mk h0.x.Line h0.x.Label (1 : Int) r2.1 h0.x.Text h0.x.Args))).bind fun r3 => (some (r3.1, r3.2))) else ((C3).bind fun r4 => ((C4 r4 a1).bind fun r5 => (bif (decide (r5 ≥ 0)) then ((C5 (w64 ((1 : Int) + (w64 ((w64 (Int.tdiv r5 (2 : Int))) * (2 : Int))))) (Qc.mk (Qg.mk h0.x.Line h0.x.Label (2 : Int) r5 h0.x.Text h0.x.Args))).bind fun r6 => ((C6 r1 r6.1 r6.2).bind fun r7 => (some (r7.1, r7.2)))) else (bif (eqS a1 QP) then ((C4 [QP, QQ, QR] a1).bind fun r8 => (bif (decide ((((r1.length) : Nat) : Int) ≥ 1)) then (bif (decide ((((r1.length) : Nat) : Int) ≤ 16)) then ((C5 (((r1.length) : Nat) : Int) (Qc.mk (Qg.mk h0.x.Line h0.x.Label (w64 ((3 : Int) + r8)) h0.x.Op h0.x.Text h0.x.Args))).bind fun r9 => ((C6 r1 r9.1 r9.2).bind fun r10 => (some (r10.1, r10.2)))) else (some (false, (Qc.mk (Qg.mk h0.x.Line h0.x.Label (w64 ((3 : Int) + r8)) h0.x.Op h0.x.Text h0.x.Args))))) else (some (false, (Qc.mk (Qg.mk h0.x.Line h0.x.Label (w64 ((3 : Int) + r8)) h0.x.Op h0.x.Text h0.x.Args)))))) else (bif (eqS a1 QQ) then ((C4 [QP, QQ, QR] a1).bind fun r11 => (bif (decide ((((r1.length) : Nat) : Int) ≥ 1)) then (bif (decide ((((r1.length) : Nat) : Int) ≤ 16)) then ((C5 (((r1.length) : Nat) : Int) (Qc.mk (Qg.mk h0.x.Line h0.x.Label (w64 ((3 : Int) + r11)) h0.x.Op h0.x.Text h0.x.Args))).bind fun r12 => ((C6 r1 r12.1 r12.2).bind fun r13 => (some (r13.1, r13.2)))) else (some (false, (Qc.mk (Qg.mk h0.x.Line h0.x.Label (w64 ((3 : Int) + r11)) h0.x.Op h0.x.Text h0.x.Args))))) else (some (false, (Qc.mk (Qg.mk h0.x.Line h0.x.Label (w64 ((3 : Int) + r11)) h0.x.Op h0.x.Text h0.x.Args)))))) else (bif (eqS a1 QR) then ((C4 [QP, QQ, QR] a1).bind fun r14 => (bif (decide ((((r1.length) : Nat) : Int) ≥ 1)) then (bif (decide ((((r1.length) : Nat) : Int) ≤ 16)) then ((C5 (((r1.length) : Nat) : Int) (Qc.mk (Qg.mk h0.x.Line h0.x.Label (w64 ((3 : Int) + r14)) h0.x.Op h0.x.Text h0.x.Args))).bind fun r15 => ((C6 r1 r15.1 r15.2).bind fun r16 => (some (r16.1, r16.2)))) else (some (false, (Qc.mk (Qg.mk h0.x.Line h0.x.Label (w64 ((3 : Int) + r14)) h0.x.Op h0.x.Text h0.x.Args))))) else (some (false, (Qc.mk (Qg.mk h0.x.Line h0.x.Label (w64 ((3 : Int) + r14)) h0.x.Op h0.x.Text h0.x.Args)))))) else (bif (eqS a1 JZ) then ((C7 a2 (Qc.mk (Qg.mk h0.x.Line h0.x.Label (6 : Int) h0.x.Op h0.x.Text h0.x.Args))).bind fun r17 => (some (r17.1, r17.2))) else (bif (eqS a1 QO) then ((C4 [QO, QS] a1).bind fun r18 => ((C5 (1 : Int) (Qc.mk (Qg.mk h0.x.Line h0.x.Label (w64 ((7 : Int) + r18)) h0.x.Op h0.x.Text h0.x.Args))).bind fun r19 => ((C6 r1 r19.1 r19.2).bind fun r20 => (some (r20.1, r20.2))))) else (bif (eqS a1 QS) then ((C4 [QO, QS] a1).bind fun r21 => ((C5 (1 : Int) (Qc.mk (Qg.mk h0.x.Line h0.x.Label (w64 ((7 : Int) + r21)) h0.x.Op h0.x.Text h0.x.Args))).bind fun r22 => ((C6 r1 r22.1 r22.2).bind fun r23 => (some (r23.1, r23.2))))) else (bif (eqS a1 Vu) then ((C6 r1 (Qc.mk (Qg.mk h0.x.Line h0.x.Label (9 : Int) h0.x.Op h0.x.Text h0.x.Args)) [131, 129]).bind fun r24 => (some (r24.1, r24.2))) else (some (false, h0)))))))))))))))
def GA (P : Pg) (w : Cf) (C0 : GN) (C1 : QaU) (C2 : WB) (C3 : P2) (C4 : EM) (C5 : SX) (C6 : ZO) (C7 : YD) (a1 : ByteArray) (a2 : ByteArray) (h0 : Qc) : Tr (Bool × Qc) AH := (.call (Qh2 w a2) (C0 a2) Pn fun r1 => (.call (QpJ w a1) (C1 a1) Qgr fun r2 => (.as r2.2 (.call (QaB w r1 (Qc.mk (Qg.mk h0.x.Line h0.x.Label (zi 1) r2.1 h0.x.Text h0.x.Args))) (C2 r1 (Qc.mk (Qg.mk h0.x.Line h0.x.Label (zi 1) r2.1 h0.x.Text h0.x.Args))) ZX fun r3 => (rt QN (r3.1, r3.2))) (.call (QmN w) (C3) Qd1 fun r4 => (.call (GR w r4 a1) (C4 r4 a1) XY fun r5 => (.as (decide (r5 ≥ 0)) (.yes (decide ((zi 2) ≠ 0)) (.call (P4 w (w64 ((zi 1) + (w64 ((w64 (Int.tdiv r5 (zi 2))) * (zi 2))))) (Qc.mk (Qg.mk h0.x.Line h0.x.Label (zi 2) r5 h0.x.Text h0.x.Args))) (C5 (w64 ((zi 1) + (w64 ((w64 (Int.tdiv r5 (zi 2))) * (zi 2))))) (Qc.mk (Qg.mk h0.x.Line h0.x.Label (zi 2) r5 h0.x.Text h0.x.Args))) Ed fun r6 => (.call (Fb w r1 r6.1 r6.2) (C6 r1 r6.1 r6.2) Z8 fun r7 => (rt QN (r7.1, r7.2))))) (let u81 := (eqS a1 QP); .as u81 (.yes u81 (.rows [[xs QP], [xs QQ], [xs QR]] (Qh [QP, QQ, QR]) (.call (GR w [QP, QQ, QR] a1) (C4 [QP, QQ, QR] a1) XY fun r8 => (.num ((Qh r1).length) (r1.length) (let u74 := (decide ((((r1.length) : Nat) : Int) ≥ 1)); .as u74 (.yes u74 (.num ((Qh r1).length) (r1.length) (yesN 2 u74 (let u73 := (decide ((((r1.length) : Nat) : Int) ≤ 16)); .as u73 (yesN 4 u73 (.num ((Qh r1).length) (r1.length) (.yes u73 (.call (P4 w (((r1.length) : Nat) : Int) (Qc.mk (Qg.mk h0.x.Line h0.x.Label (w64 ((zi 3) + r8)) h0.x.Op h0.x.Text h0.x.Args))) (C5 (((r1.length) : Nat) : Int) (Qc.mk (Qg.mk h0.x.Line h0.x.Label (w64 ((zi 3) + r8)) h0.x.Op h0.x.Text h0.x.Args))) Ed fun r9 => (.yes u73 (.call (Fb w r1 r9.1 r9.2) (C6 r1 r9.1 r9.2) Z8 fun r10 => (.yes u73 (rt QN (r10.1, r10.2))))))))) (noN 7 u73 (rt QN (false, (Qc.mk (Qg.mk h0.x.Line h0.x.Label (w64 ((zi 3) + r8)) h0.x.Op h0.x.Text h0.x.Args))))))))) (noN 3 u74 (noN 8 false (rt QN (false, (Qc.mk (Qg.mk h0.x.Line h0.x.Label (w64 ((zi 3) + r8)) h0.x.Op h0.x.Text h0.x.Args))))))))))) (let u80 := (eqS a1 QQ); .as u80 (.yes u80 (.rows [[xs QP], [xs QQ], [xs QR]] (Qh [QP, QQ, QR]) (.call (GR w [QP, QQ, QR] a1) (C4 [QP, QQ, QR] a1) XY fun r11 => (.num ((Qh r1).length) (r1.length) (let u76 := (decide ((((r1.length) : Nat) : Int) ≥ 1)); .as u76 (.yes u76 (.num ((Qh r1).length) (r1.length) (yesN 2 u76 (let u75 := (decide ((((r1.length) : Nat) : Int) ≤ 16)); .as u75 (yesN 4 u75 (.num ((Qh r1).length) (r1.length) (.yes u75 (.call (P4 w (((r1.length) : Nat) : Int) (Qc.mk (Qg.mk h0.x.Line h0.x.Label (w64 ((zi 3) + r11)) h0.x.Op h0.x.Text h0.x.Args))) (C5 (((r1.length) : Nat) : Int) (Qc.mk (Qg.mk h0.x.Line h0.x.Label (w64 ((zi 3) + r11)) h0.x.Op h0.x.Text h0.x.Args))) Ed fun r12 => (.yes u75 (.call (Fb w r1 r12.1 r12.2) (C6 r1 r12.1 r12.2) Z8 fun r13 => (.yes u75 (rt QN (r13.1, r13.2))))))))) (noN 7 u75 (rt QN (false, (Qc.mk (Qg.mk h0.x.Line h0.x.Label (w64 ((zi 3) + r11)) h0.x.Op h0.x.Text h0.x.Args))))))))) (noN 3 u76 (noN 8 false (rt QN (false, (Qc.mk (Qg.mk h0.x.Line h0.x.Label (w64 ((zi 3) + r11)) h0.x.Op h0.x.Text h0.x.Args))))))))))) (.as (eqS a1 QR) (.rows [[xs QP], [xs QQ], [xs QR]] (Qh [QP, QQ, QR]) (.call (GR w [QP, QQ, QR] a1) (C4 [QP, QQ, QR] a1) XY fun r14 => (.num ((Qh r1).length) (r1.length) (let u78 := (decide ((((r1.length) : Nat) : Int) ≥ 1)); .as u78 (.yes u78 (.num ((Qh r1).length) (r1.length) (yesN 2 u78 (let u77 := (decide ((((r1.length) : Nat) : Int) ≤ 16)); .as u77 (yesN 4 u77 (.num ((Qh r1).length) (r1.length) (.yes u77 (.call (P4 w (((r1.length) : Nat) : Int) (Qc.mk (Qg.mk h0.x.Line h0.x.Label (w64 ((zi 3) + r14)) h0.x.Op h0.x.Text h0.x.Args))) (C5 (((r1.length) : Nat) : Int) (Qc.mk (Qg.mk h0.x.Line h0.x.Label (w64 ((zi 3) + r14)) h0.x.Op h0.x.Text h0.x.Args))) Ed fun r15 => (.yes u77 (.call (Fb w r1 r15.1 r15.2) (C6 r1 r15.1 r15.2) Z8 fun r16 => (.yes u77 (rt QN (r16.1, r16.2))))))))) (noN 7 u77 (rt QN (false, (Qc.mk (Qg.mk h0.x.Line h0.x.Label (w64 ((zi 3) + r14)) h0.x.Op h0.x.Text h0.x.Args))))))))) (noN 3 u78 (noN 8 false (rt QN (false, (Qc.mk (Qg.mk h0.x.Line h0.x.Label (w64 ((zi 3) + r14)) h0.x.Op h0.x.Text h0.x.Args)))))))))) (.as (eqS a1 JZ) (.call (QeD w a2 (Qc.mk (Qg.mk h0.x.Line h0.x.Label (zi 6) h0.x.Op h0.x.Text h0.x.Args))) (C7 a2 (Qc.mk (Qg.mk h0.x.Line h0.x.Label (zi 6) h0.x.Op h0.x.Text h0.x.Args))) W9 fun r17 => (rt QN (r17.1, r17.2))) (let u79 := (eqS a1 QO); .as u79 (.yes u79 (.rows [[xs QO], [xs QS]] (Qh [QO, QS]) (.call (GR w [QO, QS] a1) (C4 [QO, QS] a1) XY fun r18 => (.call (P4 w (zi 1) (Qc.mk (Qg.mk h0.x.Line h0.x.Label (w64 ((zi 7) + r18)) h0.x.Op h0.x.Text h0.x.Args))) (C5 (zi 1) (Qc.mk (Qg.mk h0.x.Line h0.x.Label (w64 ((zi 7) + r18)) h0.x.Op h0.x.Text h0.x.Args))) Ed fun r19 => (.call (Fb w r1 r19.1 r19.2) (C6 r1 r19.1 r19.2) Z8 fun r20 => (rt QN (r20.1, r20.2))))))) (.as (eqS a1 QS) (.rows [[xs QO], [xs QS]] (Qh [QO, QS]) (.call (GR w [QO, QS] a1) (C4 [QO, QS] a1) XY fun r21 => (.call (P4 w (zi 1) (Qc.mk (Qg.mk h0.x.Line h0.x.Label (w64 ((zi 7) + r21)) h0.x.Op h0.x.Text h0.x.Args))) (C5 (zi 1) (Qc.mk (Qg.mk h0.x.Line h0.x.Label (w64 ((zi 7) + r21)) h0.x.Op h0.x.Text h0.x.Args))) Ed fun r22 => (.call (Fb w r1 r22.1 r22.2) (C6 r1 r22.1 r22.2) Z8 fun r23 => (rt QN (r23.1, r23.2)))))) (.as (eqS a1 Vu) (.rows [[.fn (.func 131) [] []], [.fn (.func 129) [] []]] (Vq [131, 129]) (.call (Fb w r1 (Qc.mk (Qg.mk h0.x.Line h0.x.Label (zi 9) h0.x.Op h0.x.Text h0.x.Args)) [131, 129]) (C6 r1 (Qc.mk (Qg.mk h0.x.Line h0.x.Label (zi 9) h0.x.Op h0.x.Text h0.x.Args)) [131, 129]) Z8 fun r24 => (rt QN (r24.1, r24.2)))) (rt QN (false, h0)))))))))))))))
theorem QhQ (w : Cf) (C0 : GN) (C1 : QaU) (C2 : WB) (C3 : P2) (C4 : EM) (C5 : SX) (C6 : ZO) (C7 : YD) (a1 : ByteArray) (a2 : ByteArray) (h0 : Qc) : (GA pp w C0 C1 C2 C3 C4 C5 C6 C7 a1 a2 h0).norm (bodyT pp w G 76 (Gy a1 a2 h0).1 (Gy a1 a2 h0).2) = GA pp w C0 C1 C2 C3 C4 C5 C6 C7 a1 a2 h0 := by kernel_rfl
theorem QhR (P : Pg) (w : Cf) (lp : Lo) (C0 : GN) (C1 : QaU) (C2 : WB) (C3 : P2) (C4 : EM) (C5 : SX) (C6 : ZO) (C7 : YD) (K0 : Qjv w C0) (K1 : QrA w C1) (K2 : Qa6 w C2) (K3 : Qol w C3) (K4 : Qk4 w C4) (K5 : QpT w C5) (K6 : QmM w C6) (K7 : QfZ w C7) (a1 : ByteArray) (a2 : ByteArray) (h0 : Qc) : (GA P w C0 C1 C2 C3 C4 C5 C6 C7 a1 a2 h0).ok lp QN := fun r1 hr1 => ⟨K0 _ _ hr1, fun r2 hr2 => ⟨K1 _ _ hr2, ⟨rfl, fun q0 => fun r3 hr3 => ⟨K2 _ _ _ hr3, rfl⟩, fun q0 => fun r4 hr4 => ⟨K3 _ hr4, fun r5 hr5 => ⟨K4 _ _ _ hr5, ⟨rfl, fun q1 => ⟨rfl, fun r6 hr6 => ⟨K5 _ _ _ hr6, fun r7 hr7 => ⟨K6 _ _ _ _ hr7, rfl⟩⟩⟩, fun q1 => ⟨rfl, fun q2 => ⟨q2, ⟨(Jv [QP, QQ, QR]), fun r8 hr8 => ⟨K4 _ _ _ hr8, ⟨(QJ _), ⟨rfl, fun q3 => ⟨q3, ⟨(QJ _), Qj 2 (q3) (⟨rfl, fun q4 => Qj 4 (q4) (⟨(QJ _), ⟨q4, fun r9 hr9 => ⟨K5 _ _ _ hr9, ⟨q4, fun r10 hr10 => ⟨K6 _ _ _ _ hr10, ⟨q4, rfl⟩⟩⟩⟩⟩⟩), fun q4 => noN_ok 7 (q4) (rfl)⟩)⟩⟩, fun q3 => noN_ok 3 (q3) (noN_ok 8 (rfl) (rfl))⟩⟩⟩⟩⟩, fun q2 => ⟨rfl, fun q3 => ⟨q3, ⟨(Jv [QP, QQ, QR]), fun r11 hr11 => ⟨K4 _ _ _ hr11, ⟨(QJ _), ⟨rfl, fun q4 => ⟨q4, ⟨(QJ _), Qj 2 (q4) (⟨rfl, fun q5 => Qj 4 (q5) (⟨(QJ _), ⟨q5, fun r12 hr12 => ⟨K5 _ _ _ hr12, ⟨q5, fun r13 hr13 => ⟨K6 _ _ _ _ hr13, ⟨q5, rfl⟩⟩⟩⟩⟩⟩), fun q5 => noN_ok 7 (q5) (rfl)⟩)⟩⟩, fun q4 => noN_ok 3 (q4) (noN_ok 8 (rfl) (rfl))⟩⟩⟩⟩⟩, fun q3 => ⟨rfl, fun q4 => ⟨(Jv [QP, QQ, QR]), fun r14 hr14 => ⟨K4 _ _ _ hr14, ⟨(QJ _), ⟨rfl, fun q5 => ⟨q5, ⟨(QJ _), Qj 2 (q5) (⟨rfl, fun q6 => Qj 4 (q6) (⟨(QJ _), ⟨q6, fun r15 hr15 => ⟨K5 _ _ _ hr15, ⟨q6, fun r16 hr16 => ⟨K6 _ _ _ _ hr16, ⟨q6, rfl⟩⟩⟩⟩⟩⟩), fun q6 => noN_ok 7 (q6) (rfl)⟩)⟩⟩, fun q5 => noN_ok 3 (q5) (noN_ok 8 (rfl) (rfl))⟩⟩⟩⟩, fun q4 => ⟨rfl, fun q5 => fun r17 hr17 => ⟨K7 _ _ _ hr17, rfl⟩, fun q5 => ⟨rfl, fun q6 => ⟨q6, ⟨(Jv [QO, QS]), fun r18 hr18 => ⟨K4 _ _ _ hr18, fun r19 hr19 => ⟨K5 _ _ _ hr19, fun r20 hr20 => ⟨K6 _ _ _ _ hr20, rfl⟩⟩⟩⟩⟩, fun q6 => ⟨rfl, fun q7 => ⟨(Jv [QO, QS]), fun r21 hr21 => ⟨K4 _ _ _ hr21, fun r22 hr22 => ⟨K5 _ _ _ hr22, fun r23 hr23 => ⟨K6 _ _ _ _ hr23, rfl⟩⟩⟩⟩, fun q7 => ⟨rfl, fun q8 => ⟨(Pl [131, 129]), fun r24 hr24 => ⟨K6 _ _ _ _ hr24, rfl⟩⟩, fun q8 => rfl⟩⟩⟩⟩⟩⟩⟩⟩⟩⟩⟩⟩⟩
theorem QhS {C0 : Nat → GN} {D0 : GN} (H0 : Cv1 C0 D0) {C1 : Nat → QaU} {D1 : QaU} (H1 : Cv1 C1 D1) {C2 : Nat → WB} {D2 : WB} (H2 : Cv2 C2 D2) {C3 : Nat → P2} {D3 : P2} (H3 : Cv C3 D3) {C4 : Nat → EM} {D4 : EM} (H4 : Cv2 C4 D4) {C5 : Nat → SX} {D5 : SX} (H5 : Cv2 C5 D5) {C6 : Nat → ZO} {D6 : ZO} (H6 : Cv3 C6 D6) {C7 : Nat → YD} {D7 : YD} (H7 : Cv2 C7 D7) (a1 : ByteArray) (a2 : ByteArray) (h0 : Qc) : Cv (fun k => WN (C0 k) (C1 k) (C2 k) (C3 k) (C4 k) (C5 k) (C6 k) (C7 k) a1 a2 h0) (WN D0 D1 D2 D3 D4 D5 D6 D7 a1 a2 h0) := by
  unfold WN
  exact .bind (H0 _) fun r1 => .bind (H1 _) fun r2 => .cond (.bind (H2 _ _) fun r3 => by exact .const _) (.bind (H3) fun r4 => .bind (H4 _ _) fun r5 => .cond (.bind (H5 _ _) fun r6 => .bind (H6 _ _ _) fun r7 => by exact .const _) (.cond (.bind (H4 _ _) fun r8 => .cond (.cond (.bind (H5 _ _) fun r9 => .bind (H6 _ _ _) fun r10 => by exact .const _) cst) cst) (.cond (.bind (H4 _ _) fun r11 => .cond (.cond (.bind (H5 _ _) fun r12 => .bind (H6 _ _ _) fun r13 => by exact .const _) cst) cst) (.cond (.bind (H4 _ _) fun r14 => .cond (.cond (.bind (H5 _ _) fun r15 => .bind (H6 _ _ _) fun r16 => by exact .const _) cst) cst) (.cond (.bind (H7 _ _) fun r17 => by exact .const _) (.cond (.bind (H4 _ _) fun r18 => .bind (H5 _ _) fun r19 => .bind (H6 _ _ _) fun r20 => by exact .const _) (.cond (.bind (H4 _ _) fun r21 => .bind (H5 _ _) fun r22 => .bind (H6 _ _ _) fun r23 => by exact .const _) (.cond (.bind (H6 _ _ _) fun r24 => by exact .const _) cst))))))))
def Jx.s : Nat → ByteArray → ByteArray → Qc → Option (Bool × Qc)
  | 0, _, _, _ => none
  | k + 1, a1, a2, h0 => WN (VV.s k) (XF.s k) (Js.s k) (Xf.s k) (VG.s k) (W8.s k) (VQ.s k) (UI.s k) a1 a2 h0
theorem Jx.ok : ∀ (k : Nat), Qcb (ev k) (Jx.s k)
  | 0, _, _, _, _, h => (nomatch h)
  | k + 1, a1, a2, h0, r, h => fn_ok rfl (GA pp (ev k) (VV.s k) (XF.s k) (Js.s k) (Xf.s k) (VG.s k) (W8.s k) (VQ.s k) (UI.s k) a1 a2 h0) (QhQ _ _ _ _ _ _ _ _ _ a1 a2 h0) (QhR _ _ _ _ _ _ _ _ _ _ _ (VV.ok k) (XF.ok k) (Js.ok k) (Xf.ok k) (VG.ok k) (W8.ok k) (VQ.ok k) (UI.ok k) a1 a2 h0) h
noncomputable def Jx (a1 : ByteArray) (a2 : ByteArray) (h0 : Qc) : Option (Bool × Qc) := WN VV XF Js Xf VG W8 VQ UI a1 a2 h0
theorem Jx.cv (a1 : ByteArray) (a2 : ByteArray) (h0 : Qc) : Cv (fun k => Jx.s k a1 a2 h0) (Jx a1 a2 h0) := .un rfl (QhS VV.cv XF.cv Js.cv Xf.cv VG.cv W8.cv VQ.cv UI.cv a1 a2 h0)
theorem Jx.eq (a1 : ByteArray) (a2 : ByteArray) (h0 : Qc) : Jx a1 a2 h0 = WN VV XF Js Xf VG W8 VQ UI a1 a2 h0 := rfl
def SE (r : (List Qf)) : AV × Heap := (.sl (Qi r), [])
def VH.s : Nat → (List Qf) → Option (List Qf)
  | 0, _ => none
  | _ + 1, a0 => cloneT 64 a0
theorem VH.ok : ∀ (k : Nat), ∀ (a0 : (List Qf)) (r : (List Qf)), VH.s k a0 = some r → evalFn pp G k 77 [.sl (Qi a0)] [] = some (SE r)
  | 0, _, _, h => (nomatch h)
  | k + 1, a0, r, h => QxD ZG (fun _ => rfl) (fun _ => rfl) (UU _) (UU _) h
abbrev EP := (List Qf) → Option (List Qf)
abbrev QjL (a0 : (List Qf)) : List AV × Heap := ([.sl (Qi a0)], [])
abbrev QbF (w : Cf) (a0 : (List Qf)) : Option AH := w 77 (QjL a0).1 (QjL a0).2
abbrev Qsp (w : Cf) (c : EP) : Prop := ∀ (a0 : (List Qf)) (r : (List Qf)), c a0 = some r → QbF w a0 = some (SE r)
noncomputable def VH (a0 : (List Qf)) : Option (List Qf) := cloneT 64 a0
theorem VH.mono (k : Nat) (a0 : (List Qf)) : Le (VH.s k a0) (VH.s (k + 1) a0) := by
  cases k with
  | zero => exact fun r h => nomatch h
  | succ k => exact Le.refl _
theorem VH.cv (a0 : (List Qf)) : Cv (fun k => VH.s k a0) (VH a0) := ⟨fun k => VH.mono k a0, fun r => ⟨fun h => ⟨1, h⟩, fun ⟨k, h⟩ => by
  cases k with
  | zero => cases h
  | succ k => exact h⟩⟩
def Xg (r : (Qg × Bool)) : AV × Heap := (.tup [.agg (G4 r.1), xo r.2], [])
abbrev Qa7 := ByteArray → Option (Qg × Bool)
abbrev QgE (a0 : ByteArray) : List AV × Heap := ([xs a0], [])
abbrev Qkw (w : Cf) (a0 : ByteArray) : Option AH := w 27 (QgE a0).1 (QgE a0).2
abbrev QrB (w : Cf) (c : Qa7) : Prop := ∀ (a0 : ByteArray) (r : (Qg × Bool)), c a0 = some r → Qkw w a0 = some (Xg r)
def SZ (C0 : Yt) (C1 : SP) (C2 : XX) (C3 : YT) (C4 : Jt) (C5 : EI) (C6 : W0) (C7 : EP) (a0 : ByteArray) : Option (Qg × Bool) := ((C0 a0 (10 : Int)).bind fun r1 => (bif (decide (r1 ≥ 0)) then (some ((Qg.mk (0 : Int) s_ (0 : Int) (0 : Int) s_ ([] : List Qf)), false)) else ((C1 a0).bind fun r2 => ((C2 r2).bind fun r3 => (bif (decide (r3 < ((r2.size : Nat) : Int))) then (bif (decide (0 ≤ r3 ∧ r3 < ((r2.size : Nat) : Int))) then (bif (((r2.data.getD (Int.toNat r3) 0).toNat : Int) == 58) then (bif (decide (0 ≤ (0 : Int) ∧ (0 : Int) ≤ r3 ∧ r3 ≤ ((r2.size : Nat) : Int))) then ((C3 (r2.extract (Int.toNat 0) (Int.toNat r3))).bind fun r4 => (bif (!r4) then (some ((Qg.mk (0 : Int) s_ (0 : Int) (0 : Int) s_ ([] : List Qf)), false)) else (bif (decide (0 ≤ (w64 (r3 + 1)) ∧ (w64 (r3 + 1)) ≤ ((r2.size : Nat) : Int) ∧ ((r2.size : Nat) : Int) ≤ ((r2.size : Nat) : Int))) then ((C4 (r2.extract (Int.toNat (w64 (r3 + 1))) (Int.toNat ((r2.size : Nat) : Int))) Yj).bind fun r5 => (bif (eqS r5 s_) then (bif (eqS (r2.extract (Int.toNat 0) (Int.toNat r3)) s_) then (some ((Qg.mk (0 : Int) s_ (0 : Int) (0 : Int) s_ ([] : List Qf)), true)) else (some ((Qg.mk (1 : Int) (r2.extract (Int.toNat 0) (Int.toNat r3)) (0 : Int) (0 : Int) s_ ([] : List Qf)), true))) else ((C5 r5).bind fun r6 => (bif (decide (0 ≤ (0 : Int) ∧ (0 : Int) ≤ r6 ∧ r6 ≤ ((r5.size : Nat) : Int))) then (bif (decide (0 ≤ r6 ∧ r6 ≤ ((r5.size : Nat) : Int) ∧ ((r5.size : Nat) : Int) ≤ ((r5.size : Nat) : Int))) then ((C4 (r5.extract (Int.toNat r6) (Int.toNat ((r5.size : Nat) : Int))) Yj).bind fun r7 => ((C6 (r5.extract (Int.toNat 0) (Int.toNat r6)) r7 (Qc.mk (Qg.mk (1 : Int) (r2.extract (Int.toNat 0) (Int.toNat r3)) (0 : Int) (0 : Int) s_ ([] : List Qf)))).bind fun r8 => (bif (!r8.1) then (some ((Qg.mk (0 : Int) s_ (0 : Int) (0 : Int) s_ ([] : List Qf)), false)) else ((C7 r8.2.x.Args).bind fun r9 => (some ((Qg.mk r8.2.x.Line r8.2.x.Label r8.2.x.Kind r8.2.x.Op r8.2.x.Text r9), true)))))) else none) else none)))) else none))) else none) else (bif (eqS r2 s_) then (some ((Qg.mk (0 : Int) s_ (0 : Int) (0 : Int) s_ ([] : List Qf)), true)) else ((C5 r2).bind fun r10 => (bif (decide (0 ≤ (0 : Int) ∧ (0 : Int) ≤ r10 ∧ r10 ≤ ((r2.size : Nat) : Int))) then (bif (decide (0 ≤ r10 ∧ r10 ≤ ((r2.size : Nat) : Int) ∧ ((r2.size : Nat) : Int) ≤ ((r2.size : Nat) : Int))) then ((C4 (r2.extract (Int.toNat r10) (Int.toNat ((r2.size : Nat) : Int))) Yj).bind fun r11 => ((C6 (r2.extract (Int.toNat 0) (Int.toNat r10)) r11 (Qc.mk (Qg.mk (1 : Int) s_ (0 : Int) (0 : Int) s_ ([] : List Qf)))).bind fun r12 => (bif (!r12.1) then (some ((Qg.mk (0 : Int) s_ (0 : Int) (0 : Int) s_ ([] : List Qf)), false)) else ((C7 r12.2.x.Args).bind fun r13 => (some ((Qg.mk r12.2.x.Line r12.2.x.Label r12.2.x.Kind r12.2.x.Op r12.2.x.Text r13), true)))))) else none) else none)))) else none) else (bif (eqS r2 s_) then (some ((Qg.mk (0 : Int) s_ (0 : Int) (0 : Int) s_ ([] : List Qf)), true)) else ((C5 r2).bind fun r14 => (bif (decide (0 ≤ (0 : Int) ∧ (0 : Int) ≤ r14 ∧ r14 ≤ ((r2.size : Nat) : Int))) then (bif (decide (0 ≤ r14 ∧ r14 ≤ ((r2.size : Nat) : Int) ∧ ((r2.size : Nat) : Int) ≤ ((r2.size : Nat) : Int))) then ((C4 (r2.extract (Int.toNat r14) (Int.toNat ((r2.size : Nat) : Int))) Yj).bind fun r15 => ((C6 (r2.extract (Int.toNat 0) (Int.toNat r14)) r15 (Qc.mk (Qg.mk (1 : Int) s_ (0 : Int) (0 : Int) s_ ([] : List Qf)))).bind fun r16 => (bif (!r16.1) then (some ((Qg.mk (0 : Int) s_ (0 : Int) (0 : Int) s_ ([] : List Qf)), false)) else ((C7 r16.2.x.Args).bind fun r17 => (some ((Qg.mk r16.2.x.Line r16.2.x.Label r16.2.x.Kind r16.2.x.Op r16.2.x.Text r17), true)))))) else none) else none))))))))
def QgF (P : Pg) (w : Cf) (C0 : Yt) (C1 : SP) (C2 : XX) (C3 : YT) (C4 : Jt) (C5 : EI) (C6 : W0) (C7 : EP) (a0 : ByteArray) : Tr (Qg × Bool) AH := (.call (Qeu w a0 (zi 10)) (C0 a0 (zi 10)) Qau fun r1 => (.as (decide (r1 ≥ 0)) (rt Xg ((Qg.mk i0 s_ i0 i0 s_ ([] : List Qf)), false)) (.call (Qog w a0) (C1 a0) Qe8 fun r2 => (.call (Qhs w r2) (C2 r2) QaR fun r3 => (let u83 := (decide (r3 < (zz r2))); .as u83 (yesN 2 u83 (.as (in1 r3 (zz r2)) (yesN 2 u83 (.as ((gb r2 r3) == 58) (let u82 := (in2 i0 r3 (zz r2)); .as u82 (.call (QiK w (cu r2 i0 r3)) (C3 (cu r2 i0 r3)) Zo fun r4 => (.as (!r4) (rt Xg ((Qg.mk i0 s_ i0 i0 s_ ([] : List Qf)), false)) (.yes u82 (.as (in2 (w64 (r3 + 1)) (zz r2) (zz r2)) (.call (ZH w (cu r2 (w64 (r3 + 1)) (zz r2)) Yj) (C4 (cu r2 (w64 (r3 + 1)) (zz r2)) Yj) YU fun r5 => (.as (eqS r5 s_) (.as (eqS (cu r2 i0 r3) s_) (rt Xg ((Qg.mk i0 s_ i0 i0 s_ ([] : List Qf)), true)) (rt Xg ((Qg.mk (zi 1) (cu r2 i0 r3) i0 i0 s_ ([] : List Qf)), true))) (.call (Qbt w r5) (C5 r5) Fq fun r6 => (.as (in2 i0 r6 (zz r5)) (.as (in2 r6 (zz r5) (zz r5)) (.call (ZH w (cu r5 r6 (zz r5)) Yj) (C4 (cu r5 r6 (zz r5)) Yj) YU fun r7 => (.call (Gz w (cu r5 i0 r6) r7 (Qc.mk (Qg.mk (zi 1) (cu r2 i0 r3) i0 i0 s_ ([] : List Qf)))) (C6 (cu r5 i0 r6) r7 (Qc.mk (Qg.mk (zi 1) (cu r2 i0 r3) i0 i0 s_ ([] : List Qf)))) QN fun r8 => (.as (!r8.1) (rt Xg ((Qg.mk i0 s_ i0 i0 s_ ([] : List Qf)), false)) (.call (QbF w r8.2.x.Args) (C7 r8.2.x.Args) SE fun r9 => (rt Xg ((Qg.mk r8.2.x.Line r8.2.x.Label r8.2.x.Kind r8.2.x.Op r8.2.x.Text r9), true)))))) .fail) .fail)))) .fail)))) .fail) (.as (eqS r2 s_) (.yes true (rt Xg ((Qg.mk i0 s_ i0 i0 s_ ([] : List Qf)), true))) (.call (Qbt w r2) (C5 r2) Fq fun r10 => (.as (in2 i0 r10 (zz r2)) (.as (in2 r10 (zz r2) (zz r2)) (.call (ZH w (cu r2 r10 (zz r2)) Yj) (C4 (cu r2 r10 (zz r2)) Yj) YU fun r11 => (.call (Gz w (cu r2 i0 r10) r11 (Qc.mk (Qg.mk (zi 1) s_ i0 i0 s_ ([] : List Qf)))) (C6 (cu r2 i0 r10) r11 (Qc.mk (Qg.mk (zi 1) s_ i0 i0 s_ ([] : List Qf)))) QN fun r12 => (.as (!r12.1) (rt Xg ((Qg.mk i0 s_ i0 i0 s_ ([] : List Qf)), false)) (.call (QbF w r12.2.x.Args) (C7 r12.2.x.Args) SE fun r13 => (rt Xg ((Qg.mk r12.2.x.Line r12.2.x.Label r12.2.x.Kind r12.2.x.Op r12.2.x.Text r13), true)))))) .fail) .fail))))) .fail)) (noN 4 u83 (.no false (.as (eqS r2 s_) (.yes true (rt Xg ((Qg.mk i0 s_ i0 i0 s_ ([] : List Qf)), true))) (.call (Qbt w r2) (C5 r2) Fq fun r14 => (.as (in2 i0 r14 (zz r2)) (.as (in2 r14 (zz r2) (zz r2)) (.call (ZH w (cu r2 r14 (zz r2)) Yj) (C4 (cu r2 r14 (zz r2)) Yj) YU fun r15 => (.call (Gz w (cu r2 i0 r14) r15 (Qc.mk (Qg.mk (zi 1) s_ i0 i0 s_ ([] : List Qf)))) (C6 (cu r2 i0 r14) r15 (Qc.mk (Qg.mk (zi 1) s_ i0 i0 s_ ([] : List Qf)))) QN fun r16 => (.as (!r16.1) (rt Xg ((Qg.mk i0 s_ i0 i0 s_ ([] : List Qf)), false)) (.call (QbF w r16.2.x.Args) (C7 r16.2.x.Args) SE fun r17 => (rt Xg ((Qg.mk r16.2.x.Line r16.2.x.Label r16.2.x.Kind r16.2.x.Op r16.2.x.Text r17), true)))))) .fail) .fail))))))))))
theorem QwP (w : Cf) (C0 : Yt) (C1 : SP) (C2 : XX) (C3 : YT) (C4 : Jt) (C5 : EI) (C6 : W0) (C7 : EP) (a0 : ByteArray) : (QgF pp w C0 C1 C2 C3 C4 C5 C6 C7 a0).norm (bodyT pp w G 27 (QgE a0).1 (QgE a0).2) = QgF pp w C0 C1 C2 C3 C4 C5 C6 C7 a0 := by kernel_rfl
theorem QwQ (P : Pg) (w : Cf) (lp : Lo) (C0 : Yt) (C1 : SP) (C2 : XX) (C3 : YT) (C4 : Jt) (C5 : EI) (C6 : W0) (C7 : EP) (K0 : Qmg w C0) (K1 : QpE w C1) (K2 : QiJ w C2) (K3 : Qkf w C3) (K4 : Qak w C4) (K5 : Qk1 w C5) (K6 : Qcb w C6) (K7 : Qsp w C7) (a0 : ByteArray) : (QgF P w C0 C1 C2 C3 C4 C5 C6 C7 a0).ok lp Xg := fun r1 hr1 => ⟨K0 _ _ _ hr1, ⟨rfl, fun q0 => rfl, fun q0 => fun r2 hr2 => ⟨K1 _ _ hr2, fun r3 hr3 => ⟨K2 _ _ hr3, ⟨rfl, fun q1 => Qj 2 (q1) (⟨rfl, fun q2 => Qj 2 (q1) (⟨rfl, fun q3 => ⟨rfl, fun q4 => fun r4 hr4 => ⟨K3 _ _ hr4, ⟨rfl, fun q5 => rfl, fun q5 => ⟨q4, ⟨rfl, fun q6 => fun r5 hr5 => ⟨K4 _ _ _ hr5, ⟨rfl, fun q7 => ⟨rfl, fun q8 => rfl, fun q8 => rfl⟩, fun q7 => fun r6 hr6 => ⟨K5 _ _ hr6, ⟨rfl, fun q8 => ⟨rfl, fun q9 => fun r7 hr7 => ⟨K4 _ _ _ hr7, fun r8 hr8 => ⟨K6 _ _ _ _ hr8, ⟨rfl, fun q10 => rfl, fun q10 => fun r9 hr9 => ⟨K7 _ _ hr9, rfl⟩⟩⟩⟩, fun q9 => trivial⟩, fun q8 => trivial⟩⟩⟩⟩, fun q6 => trivial⟩⟩⟩⟩, fun q4 => trivial⟩, fun q3 => ⟨rfl, fun q4 => ⟨rfl, rfl⟩, fun q4 => fun r10 hr10 => ⟨K5 _ _ hr10, ⟨rfl, fun q5 => ⟨rfl, fun q6 => fun r11 hr11 => ⟨K4 _ _ _ hr11, fun r12 hr12 => ⟨K6 _ _ _ _ hr12, ⟨rfl, fun q7 => rfl, fun q7 => fun r13 hr13 => ⟨K7 _ _ hr13, rfl⟩⟩⟩⟩, fun q6 => trivial⟩, fun q5 => trivial⟩⟩⟩⟩), fun q2 => trivial⟩), fun q1 => noN_ok 4 (q1) (⟨rfl, ⟨rfl, fun q2 => ⟨rfl, rfl⟩, fun q2 => fun r14 hr14 => ⟨K5 _ _ hr14, ⟨rfl, fun q3 => ⟨rfl, fun q4 => fun r15 hr15 => ⟨K4 _ _ _ hr15, fun r16 hr16 => ⟨K6 _ _ _ _ hr16, ⟨rfl, fun q5 => rfl, fun q5 => fun r17 hr17 => ⟨K7 _ _ hr17, rfl⟩⟩⟩⟩, fun q4 => trivial⟩, fun q3 => trivial⟩⟩⟩⟩)⟩⟩⟩⟩⟩
theorem QwR {C0 : Nat → Yt} {D0 : Yt} (H0 : Cv2 C0 D0) {C1 : Nat → SP} {D1 : SP} (H1 : Cv1 C1 D1) {C2 : Nat → XX} {D2 : XX} (H2 : Cv1 C2 D2) {C3 : Nat → YT} {D3 : YT} (H3 : Cv1 C3 D3) {C4 : Nat → Jt} {D4 : Jt} (H4 : Cv2 C4 D4) {C5 : Nat → EI} {D5 : EI} (H5 : Cv1 C5 D5) {C6 : Nat → W0} {D6 : W0} (H6 : Cv3 C6 D6) {C7 : Nat → EP} {D7 : EP} (H7 : Cv1 C7 D7) (a0 : ByteArray) : Cv (fun k => SZ (C0 k) (C1 k) (C2 k) (C3 k) (C4 k) (C5 k) (C6 k) (C7 k) a0) (SZ D0 D1 D2 D3 D4 D5 D6 D7 a0) := by
  unfold SZ
  exact .bind (H0 _ _) fun r1 => .cond cst (.bind (H1 _) fun r2 => .bind (H2 _) fun r3 => .cond (.cond (.cond (.cond (.bind (H3 _) fun r4 => .cond cst (.cond (.bind (H4 _ _) fun r5 => .cond cst (.bind (H5 _) fun r6 => .cond (.cond (.bind (H4 _ _) fun r7 => .bind (H6 _ _ _) fun r8 => .cond cst (.bind (H7 _) fun r9 => by exact .const _)) cst) cst)) cst)) cst) (.cond cst (.bind (H5 _) fun r10 => .cond (.cond (.bind (H4 _ _) fun r11 => .bind (H6 _ _ _) fun r12 => .cond cst (.bind (H7 _) fun r13 => by exact .const _)) cst) cst))) cst) (.cond cst (.bind (H5 _) fun r14 => .cond (.cond (.bind (H4 _ _) fun r15 => .bind (H6 _ _ _) fun r16 => .cond cst (.bind (H7 _) fun r17 => by exact .const _)) cst) cst)))
def Zb.s : Nat → ByteArray → Option (Qg × Bool)
  | 0, _ => none
  | k + 1, a0 => SZ (UA.s k) (XZ.s k) (VD.s k) (Wc.s k) (Jg.s k) (VE.s k) (Jx.s k) (VH.s k) a0
theorem Zb.ok : ∀ (k : Nat), QrB (ev k) (Zb.s k)
  | 0, _, _, h => (nomatch h)
  | k + 1, a0, r, h => fn_ok rfl (QgF pp (ev k) (UA.s k) (XZ.s k) (VD.s k) (Wc.s k) (Jg.s k) (VE.s k) (Jx.s k) (VH.s k) a0) (QwP _ _ _ _ _ _ _ _ _ a0) (QwQ _ _ _ _ _ _ _ _ _ _ _ (UA.ok k) (XZ.ok k) (VD.ok k) (Wc.ok k) (Jg.ok k) (VE.ok k) (Jx.ok k) (VH.ok k) a0) h
noncomputable def Zb (a0 : ByteArray) : Option (Qg × Bool) := SZ UA XZ VD Wc Jg VE Jx VH a0
theorem Zb.cv (a0 : ByteArray) : Cv (fun k => Zb.s k a0) (Zb a0) := .un rfl (QwR UA.cv XZ.cv VD.cv Wc.cv Jg.cv VE.cv Jx.cv VH.cv a0)
theorem Zb.eq (a0 : ByteArray) : Zb a0 = SZ UA XZ VD Wc Jg VE Jx VH a0 := rfl
def Qc1 (r : Int) : AV × Heap := (xi r, [])
abbrev Xr := (List Qr) → Int → Option Int
abbrev Qia (a0 : (List Qr)) (a1 : Int) : List AV × Heap := ([.sl (WU a0), xi a1], [])
abbrev QmQ (w : Cf) (a0 : (List Qr)) (a1 : Int) : Option AH := w 105 (Qia a0 a1).1 (Qia a0 a1).2
abbrev QhA (w : Cf) (c : Xr) : Prop := ∀ (a0 : (List Qr)) (a1 : Int) (r : Int), c a0 a1 = some r → QmQ w a0 a1 = some (Qc1 r)
structure UQ where
  x0 : (List Qr)
  x1 : Int
  x5 : Int
  x6 : Int
def SF (a : UQ) : St := { n := 31, nx := 0, env := [(0, .sl (WU a.x0)), (1, xi a.x1), (5, xi a.x5), (6, xi a.x6)], heap := [] }
def SG (a : Int) : Ex × St := (.exit 0, { n := 31, nx := 0, env := [(5, xi a)], heap := [] })
abbrev P6 := UQ → Option Int
abbrev Qvi (P : Pg) (lp : Lo) (l : P6) : Prop := ∀ (a : UQ) (r : Int), l a = some r → lp (loopAt P 105 5) (SF a) = some (SG r)
def FH (C0 : Xr) (a : UQ) : Option (UQ ⊕ Int) := (bif (decide (a.x6 < (((a.x0.length) : Nat) : Int))) then (bif (decide (a.x5 ≤ 16)) then (bif (decide (0 ≤ a.x6)) then ((a.x0[(Int.toNat a.x6)]?).bind fun e1 => ((C0 e1.L (w64 (a.x1 + 1))).bind fun r2 => (some (.inl (UQ.mk a.x0 a.x1 (w64 ((w64 (a.x5 + 1)) + r2)) (w64 (a.x6 + 1))))))) else none) else (some (.inr a.x5))) else (some (.inr a.x5)))
def Qd4 (P : Pg) (w : Cf) (C0 : Xr) (a : UQ) : Tr (UQ ⊕ Int) XS := (.num ((WU a.x0).length) (a.x0.length) (let u84 := (decide (a.x6 < (((a.x0.length) : Nat) : Int))); .as u84 (yesN 2 u84 (.as (decide (a.x5 ≤ 16)) (.as (decide (0 ≤ a.x6)) (.row ((WU a.x0)[(Int.toNat a.x6)]?) (a.x0[(Int.toNat a.x6)]?) PO fun (e1 : Qr) => (.call (QmQ w e1.L (w64 (a.x1 + 1))) (C0 e1.L (w64 (a.x1 + 1))) Qc1 fun r2 => (lf SF (UQ.mk a.x0 a.x1 (w64 ((w64 (a.x5 + 1)) + r2)) (w64 (a.x6 + 1)))))) .fail) (rx SG a.x5))) (noN 2 u84 (.no false (rx SG a.x5)))))
theorem QtO (w : Cf) (C0 : Xr) (a : UQ) : (Qd4 pp w C0 a).norm (roundT pp G.kd w 0 (G.an 105) (loopAt pp 105 5) (SF a)) = Qd4 pp w C0 a := by kernel_rfl
theorem QtP (P : Pg) (w : Cf) (lp : Lo) (C0 : Xr) (K0 : QhA w C0) (a : UQ) : (Qd4 P w C0 a).ok lp (Sum.elim (fun a => (.norm, SF a)) SG) := ⟨(QaL _), ⟨rfl, fun q0 => Qj 2 (q0) (⟨rfl, fun q1 => ⟨rfl, fun q2 => fun e1 h => ⟨Qg6 h, fun r2 hr2 => ⟨K0 _ _ _ hr2, rfl⟩⟩, fun q2 => trivial⟩, fun q1 => rfl⟩), fun q0 => noN_ok 2 (q0) (⟨rfl, rfl⟩)⟩⟩
theorem QmR {C0 : Nat → Xr} {D0 : Xr} (H0 : Cv2 C0 D0) (a : UQ) : Cv (fun k => FH (C0 k) a) (FH D0 a) := by
  unfold FH
  exact .cond (.cond (.cond (.bind (.const _) fun e1 => .bind (H0 _ _) fun r2 => by exact .const _) cst) cst) cst
def Wn.s (k : Nat) (C0 : Xr) : UQ → Option Int := iter (FH C0) k
theorem Qsq (w : Cf) (k : Nat) (C0 : Xr) (K0 : QhA w C0) (a : UQ) (r : Int) (h : Wn.s k C0 a = some r) : loopsF pp G.kd w 0 (G.an 105) k (loopAt pp 105 5) (SF a) = some (SG r) :=
  Va (fun a => Qd4 pp w C0 a) (fun _ => rfl) (fun a => QtO w _ a) (fun a => QtP _ w _ _ K0 a) (fun r => nofun) h
theorem Wn.m {j k : Nat} (hj : j ≤ k) (C0 : Xr) (D0 : Xr) (H0 : Le2 C0 D0) (a : UQ) : Le (Wn.s j C0 a) (Wn.s k D0 a) := Le.iter (fun a => (QmR (tw2 H0) a).1 0) hj a
noncomputable def Wn.w (C0 : Xr) : UQ → Option Int := loopW (FH C0)
theorem Wn.cv (C0 : Nat → Xr) (D0 : Xr) (H0 : Cv2 C0 D0) (a : UQ) : Cv (fun k => Wn.s k (C0 k) a) (Wn.w D0 a) := Cv.iter (fun a => QmR H0 a) a
def Qa8 (L0 : P6) (a0 : (List Qr)) (a1 : Int) : Option Int := (bif (decide (a1 > 7)) then (some (1000 : Int)) else ((L0 (UQ.mk a0 a1 (0 : Int) (0 : Int))).bind (fun (o1 : Int) => (some o1))))
def Qib (P : Pg) (w : Cf) (L0 : P6) (a0 : (List Qr)) (a1 : Int) : Tr Int AH := (.as (decide (a1 > 7)) (rt Qc1 (zi 1000)) (.loop (loopAt P 105 5) (SF (UQ.mk a0 a1 i0 i0)) (L0 (UQ.mk a0 a1 i0 i0)) SG (fun (o1 : Int) => (rt Qc1 o1))))
theorem QxN (w : Cf) (L0 : P6) (a0 : (List Qr)) (a1 : Int) : (Qib pp w L0 a0 a1).norm (bodyT pp w G 105 (Qia a0 a1).1 (Qia a0 a1).2) = Qib pp w L0 a0 a1 := by kernel_rfl
theorem QxO (P : Pg) (w : Cf) (lp : Lo) (L0 : P6) (N0 : Qvi P lp L0) (a0 : (List Qr)) (a1 : Int) : (Qib P w L0 a0 a1).ok lp Qc1 := ⟨rfl, fun q0 => rfl, fun q0 => fun o1 ho1 => ⟨N0 _ _ ho1, rfl⟩⟩
theorem QrC {L0 : Nat → P6} {M0 : P6} (N0 : Cv1 L0 M0) (a0 : (List Qr)) (a1 : Int) : Cv (fun k => Qa8 (L0 k) a0 a1) (Qa8 M0 a0 a1) := by
  unfold Qa8
  exact .cond cst (.bind (N0 _) (fun o1 => by exact .const _))
def UJ.s : Nat → (List Qr) → Int → Option Int
  | 0, _, _ => none
  | k + 1, a0, a1 => Qa8 (Wn.s k (fun a0 a1 => UJ.s k a0 a1)) a0 a1
termination_by structural k => k
end Go.Ab
