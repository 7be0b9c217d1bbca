/- DisLines: part 2 of the proof that, whatever the input, the law returns true and the input reads as it did; its conditions are those of the given row. -/
import Derived.Test.YtblfhkldljfhiaaGreatDoorZDisLines1
import Derived.Test.YtblfhkldljfhiaaGreatDoorProg
set_option linter.unusedVariables false
set_option linter.unusedSimpArgs false
namespace Go.Ab
open Go.Proofs
def VX (x : Int) : List AV := [.sc (.int .i64 x)]
def Qr (l : List Int) : List (List AV) := l.map VX
theorem JT (l : List Int) : l.map VX = Qr l := rfl
theorem Gv (l m : List Int) : Qr l ++ Qr m = Qr (l ++ m) := by simp only [← JT,List.map_append]
theorem J6 {l : List Int} {n : Nat} {a : Int} (h : l[n]? = some a) : (Qr l)[n]? = some (VX a) := by rw [← JT]; exact ZZ h
theorem P8 (l : List Int) : (Qr l).all (fun r => r.length == 1) = true := by rw [← JT]; exact QaM (C := VX) (fun _ => rfl) l
theorem Js (l : List Int) : (Qr l).length = l.length := by rw [← JT,List.length_map]
def C_u8 (x : Int) : List AV := [.sc (.int .u8 x)]
def R_u8 (l : List Int) : List (List AV) := l.map C_u8
theorem Yz (l : List Int) : l.map C_u8 = R_u8 l := rfl
theorem Qdx (l m : List Int) : R_u8 l ++ R_u8 m = R_u8 (l ++ m) := by simp only [← Yz,List.map_append]
theorem QaO (l : List Int) (i n : Nat) : ((R_u8 l).drop i).take n = R_u8 ((l.drop i).take n) := by simp only [← Yz,List.map_take,List.map_drop]
theorem Ey {l : List Int} {n : Nat} {a : Int} (h : l[n]? = some a) : (R_u8 l)[n]? = some (C_u8 a) := by rw [← Yz]; exact ZZ h
theorem Pj (l : List Int) : (R_u8 l).all (fun r => r.length == 1) = true := by rw [← Yz]; exact QaM (C := C_u8) (fun _ => rfl) l
theorem Wl (l : List Int) : (R_u8 l).length = l.length := by rw [← Yz,List.length_map]
def J7 (x : ByteArray) : List AV := [.sc (.string x)]
def Qc (l : List ByteArray) : List (List AV) := l.map J7
theorem QY (l : List ByteArray) : l.map J7 = Qc l := rfl
theorem JD (l m : List ByteArray) : Qc l ++ Qc m = Qc (l ++ m) := by simp only [← QY,List.map_append]
theorem QfO (l : List ByteArray) (i n : Nat) : ((Qc l).drop i).take n = Qc ((l.drop i).take n) := by simp only [← QY,List.map_take,List.map_drop]
theorem Jp {l : List ByteArray} {n : Nat} {a : ByteArray} (h : l[n]? = some a) : (Qc l)[n]? = some (J7 a) := by rw [← QY]; exact ZZ h
theorem Jn (l : List ByteArray) : (Qc l).all (fun r => r.length == 1) = true := by rw [← QY]; exact QaM (C := J7) (fun _ => rfl) l
theorem Qk (l : List ByteArray) : (Qc l).length = l.length := by rw [← QY,List.length_map]
structure Qz where
 Name : ByteArray
 Bits : ByteArray
 Kinds : ByteArray
deriving Inhabited
def Ez (x : Qz) : List AV := [.sc (.string x.Name),.sc (.string x.Bits),.sc (.string x.Kinds)]
structure Qi where
 Op : Int
 F : (List Int)
deriving Inhabited
def Vw (x : Qi) : List AV := [.sc (.int .i64 x.Op),.sl (Qr x.F)]
structure Qy where
 b : (List Int)
deriving Inhabited
def V4 (x : Qy) : List AV := [.sl (R_u8 x.b)]
structure Qa where
 name : ByteArray
 bits : Int
 kinds : ByteArray
deriving Inhabited
def V5 (x : Qa) : List AV := [.sc (.string x.name),.sc (.int .u32 x.bits),.sc (.string x.kinds)]
def Wo (l : List Qa) : List (List AV) := l.map V5
theorem Fy (l : List Qa) : l.map V5 = Wo l := rfl
theorem ZN {l : List Qa} {n : Nat} {a : Qa} (h : l[n]? = some a) : (Wo l)[n]? = some (V5 a) := by rw [← Fy]; exact ZZ h
theorem YK (l : List Qa) : (Wo l).length = l.length := by rw [← Fy,List.length_map]
structure Qv where
 at_ : Int
 bits : Int
 step : Int
 less : Int
deriving Inhabited
def ZB (x : Qv) : List AV := [.sc (.int .u64 x.at_),.sc (.int .u64 x.bits),.sc (.int .i64 x.step),.sc (.int .i64 x.less)]
structure Qq where
 f : Int
 scale : Int
deriving Inhabited
def Xj (x : Qq) : List AV := [.sc (.int .i64 x.f),.sc (.int .i64 x.scale)]
def XV (l : List Qq) : List (List AV) := l.map Xj
theorem EA (l : List Qq) : l.map Xj = XV l := rfl
theorem QfP {l : List Qq} {n : Nat} {a : Qq} (h : l[n]? = some a) : (XV l)[n]? = some (Xj a) := by rw [← EA]; exact ZZ h
theorem QfQ (l : List Qq) : (XV l).length = l.length := by rw [← EA,List.length_map]
structure Qd where
 Kind : Int
 N : Int
 Name : ByteArray
 L : (List Qd)
deriving Inhabited
mutual
def QeN : Qd → List AV
 | ⟨x0,x1,x2,x3⟩ => [.sc (.int .i64 x0),.sc (.int .i64 x1),.sc (.string x2),.sl (Uc x3)]
def Uc : List Qd → List (List AV)
 | [] => []
 | x :: l => QeN x :: Uc l
end
def Ud (x : Qd) : List AV := [.sc (.int .i64 x.Kind),.sc (.int .i64 x.N),.sc (.string x.Name),.sl (Uc x.L)]
theorem Zl (l : List Qd) : l.map Ud = Uc l := by
 induction l with
 | nil => rw [Uc]; rfl
 | cons x l ih => rw [Uc,List.map_cons,ih]; congr 1; cases x; rw [QeN]; rfl
theorem EB {l : List Qd} {n : Nat} {a : Qd} (h : l[n]? = some a) : (Uc l)[n]? = some (Ud a) := by rw [← Zl]; exact ZZ h
theorem QfR (l : List Qd) : (Uc l).length = l.length := by rw [← Zl,List.length_map]
structure Qg where
 Reg : Int
 E : Qd
deriving Inhabited
def Yw (x : Qg) : List AV := [.sc (.int .i64 x.Reg),.sc (.int .i64 x.E.Kind),.sc (.int .i64 x.E.N),.sc (.string x.E.Name),.sl (Uc x.E.L)]
def Q2 (l : List Qg) : List (List AV) := l.map Yw
theorem XN (l : List Qg) : l.map Yw = Q2 l := rfl
theorem Pk (l m : List Qg) : Q2 l ++ Q2 m = Q2 (l ++ m) := by simp only [← XN,List.map_append]
theorem Fz {l : List Qg} {n : Nat} {a : Qg} (h : l[n]? = some a) : (Q2 l)[n]? = some (Yw a) := by rw [← XN]; exact ZZ h
theorem Qbs (l : List Qg) : (Q2 l).all (fun r => r.length == 5) = true := by rw [← XN]; exact QaM (C := Yw) (fun _ => rfl) l
theorem YL (l : List Qg) : (Q2 l).length = l.length := by rw [← XN,List.length_map]
structure Qf where
 Line : Int
 Label : ByteArray
 Kind : Int
 Op : Int
 Text : ByteArray
 Args : (List Qg)
deriving Inhabited
def Zm (x : Qf) : List AV := [.sc (.int .i64 x.Line),.sc (.string x.Label),.sc (.int .i64 x.Kind),.sc (.int .i64 x.Op),.sc (.string x.Text),.sl (Q2 x.Args)]
structure Qb where
 S : ByteArray
 P : Int
 Deep : Int
 Bad : Bool
deriving Inhabited
def QP (x : Qb) : List AV := [.sc (.string x.S),.sc (.int .i64 x.P),.sc (.int .i64 x.Deep),.sc (.bool x.Bad)]
def listB (l : List Int) : List UInt8 := l.map fun n => UInt8.ofNat n.toNat
theorem QmH (l : List Int) : bytesOfRows (R_u8 l) = some (listB l) := by
 induction l with
 | nil => rfl
 | cons x l ih => simp only [R_u8,listB,List.map_cons] at ih ⊢; simp only [bytesOfRows,C_u8,rowByte,ih,Option.bind_some,Option.map_some]
def h_20 : ByteArray := ⟨#[32]⟩
def JE : ByteArray := ⟨#[32,88,32,89,32,68,32,65,32,66,32]⟩
def h_22 : ByteArray := ⟨#[34]⟩
def h_26 : ByteArray := ⟨#[38]⟩
def h_28 : ByteArray := ⟨#[40]⟩
def h_29 : ByteArray := ⟨#[41]⟩
def h_2a : ByteArray := ⟨#[42]⟩
def h_2b : ByteArray := ⟨#[43]⟩
def XC : ByteArray := ⟨#[44,32]⟩
def h_2d : ByteArray := ⟨#[45]⟩
def h_2e : ByteArray := ⟨#[46]⟩
def Gw : ByteArray := ⟨#[46,32,43,32]⟩
def Gx : ByteArray := ⟨#[46,32,45,32]⟩
def WU : ByteArray := ⟨#[46,97,108,105,103,110]⟩
def WV : ByteArray := ⟨#[46,97,115,99,105,105]⟩
def V6 : ByteArray := ⟨#[46,98,121,116,101]⟩
def Yh : ByteArray := ⟨#[46,98,121,116,101,32]⟩
def YA : ByteArray := ⟨#[46,101,113,117]⟩
def V7 : ByteArray := ⟨#[46,104,97,108,102]⟩
def Yi : ByteArray := ⟨#[46,104,97,108,102,32]⟩
def XD : ByteArray := ⟨#[46,108,111,110,103]⟩
def WW : ByteArray := ⟨#[46,115,112,97,99,101]⟩
def h_3a : ByteArray := ⟨#[58]⟩
def QmI : ByteArray := ⟨#[60,60]⟩
def QmJ : ByteArray := ⟨#[62,62]⟩
def UE : ByteArray := ⟨#[65,32,68,32,66]⟩
def JX : ByteArray := ⟨#[65,32,68,32,67,56]⟩
def UF : ByteArray := ⟨#[68,32,65,32,66]⟩
def Yj : ByteArray := ⟨#[68,32,65,32,67,56]⟩
def XE : ByteArray := ⟨#[68,32,65,32,83,49,54]⟩
def Y8 : ByteArray := ⟨#[68,32,76,50,48]⟩
def Qw : ByteArray := ⟨#[68,32,83,49,54,32,65]⟩
def W8 : ByteArray := ⟨#[79,49,32,73,50,32,84,56]⟩
def J2 : ByteArray := ⟨#[79,50,32,73,52,32,84,49,53]⟩
def Vx : ByteArray := ⟨#[88,32,79,53]⟩
def Q7 : ByteArray := ⟨#[88,32,85,53]⟩
def Gy : ByteArray := ⟨#[88,32,85,55]⟩
def QR : ByteArray := ⟨#[88,32,89]⟩
def VI : ByteArray := ⟨#[89,32,77,49,32,88]⟩
def VJ : ByteArray := ⟨#[89,32,77,50,32,88]⟩
def VK : ByteArray := ⟨#[89,32,77,52,32,88]⟩
def h_7c : ByteArray := ⟨#[124]⟩
def Ql : ByteArray := ⟨#[115,101,95,105,108,108,101,103,97,108,58,48,48,48,48,58,124,115,101,95,105,115,121,110,99,58,48,48,48,49,58,124,115,101,95,115,99,58,48,48,48,50,58,124,115,101,95,98,108,114,58,48,48,48,52,58,124,115,101,95,98,99,116,114,58,48,48,48,54,58,124,115,101,95,110,111,116,58,48,48,50,48,58,88,124,115,101,95,110,101,103,58,48,48,51,48,58,88,124,115,101,95,109,102,108,114,58,48,48,56,48,58,88,124,115,101,95,109,116,108,114,58,48,48,57,48,58,88,124,115,101,95,109,102,99,116,114,58,48,48,97,48,58,88,124,115,101,95,109,116,99,116,114,58,48,48,98,48,58,88,124,115,101,95,101,120,116,122,98,58,48,48,99,48,58,88,124,115,101,95,101,120,116,115,98,58,48,48,100,48,58,88,124,115,101,95,101,120,116,122,104,58,48,48,101,48,58,88,124,115,101,95,101,120,116,115,104,58,48,48,102,48,58,88,124,115,101,95,109,114,58,48,49,48,48,58,88,32,89,124,115,101,95,97,100,100,58,48,52,48,48,58,88,32,89,124,115,101,95,109,117,108,108,119,58,48,53,48,48,58,88,32,89,124,115,101,95,115,117,98,58,48,54,48,48,58,88,32,89,124,115,101,95,99,109,112,58,48,99,48,48,58,88,32,89,124,115,101,95,99,109,112,108,58,48,100,48,48,58,88,32,89,124,115,101,95,97,100,100,105,58,50,48,48,48,58,88,32,79,53,124,115,101,95,99,109,112,108,105,58,50,50,48,48,58,88,32,79,53,124,115,101,95,115,117,98,105,58,50,52,48,48,58,88,32,79,53,124,115,101,95,99,109,112,105,58,50,97,48,48,58,88,32,85,53,124,115,101,95,111,114,58,52,52,48,48,58,88,32,89,124,115,101,95,97,110,100,99,58,52,53,48,48,58,88,32,89,124,115,101,95,97,110,100,58,52,54,48,48,58,88,32,89,124,115,101,95,108,105,58,52,56,48,48,58,88,32,85,55,124,115,101,95,98,99,108,114,105,58,54,48,48,48,58,88,32,85,53,124,115,101,95,98,115,101,116,105,58,54,52,48,48,58,88,32,85,53,124,115,101,95,98,116,115,116,105,58,54,54,48,48,58,88,32,85,53,124,115,101,95,115,114,119,105,58,54,56,48,48,58,88,32,85,53,124,115,101,95,115,108,119,105,58,54,99,48,48,58,88,32,85,53,124,115,101,95,108,98,122,58,56,48,48,48,58,89,32,77,49,32,88,124,115,101,95,115,116,98,58,57,48,48,48,58,89,32,77,49,32,88,124,115,101,95,108,104,122,58,97,48,48,48,58,89,32,77,50,32,88,124,115,101,95,115,116,104,58,98,48,48,48,58,89,32,77,50,32,88,124,115,101,95,108,119,122,58,99,48,48,48,58,89,32,77,52,32,88,124,115,101,95,115,116,119,58,100,48,48,48,58,89,32,77,52,32,88,124,115,101,95,98,99,58,101,48,48,48,58,79,49,32,73,50,32,84,56,124,115,101,95,98,58,101,56,48,48,58,84,56,124,115,101,95,98,108,58,101,57,48,48,58,84,56,124,101,95,97,100,100,49,54,105,58,49,99,48,48,48,48,48,48,58,68,32,65,32,83,49,54,124,101,95,97,100,100,105,58,49,56,48,48,56,48,48,48,58,68,32,65,32,67,56,124,101,95,97,110,100,105,58,49,56,48,48,99,48,48,48,58,65,32,68,32,67,56,124,101,95,111,114,105,58,49,56,48,48,100,48,48,48,58,65,32,68,32,67,56,124,101,95,120,111,114,105,58,49,56,48,48,101,48,48,48,58,65,32,68,32,67,56,124,101,95,108,105,58,55,48,48,48,48,48,48,48,58,68,32,76,50,48,124,101,95,108,98,122,58,51,48,48,48,48,48,48,48,58,68,32,83,49,54,32,65,124,101,95,115,116,98,58,51,52,48,48,48,48,48,48,58,68,32,83,49,54,32,65,124,101,95,108,104,97,58,51,56,48,48,48,48,48,48,58,68,32,83,49,54,32,65,124,101,95,108,119,122,58,53,48,48,48,48,48,48,48,58,68,32,83,49,54,32,65,124,101,95,115,116,119,58,53,52,48,48,48,48,48,48,58,68,32,83,49,54,32,65,124,101,95,108,104,122,58,53,56,48,48,48,48,48,48,58,68,32,83,49,54,32,65,124,101,95,115,116,104,58,53,99,48,48,48,48,48,48,58,68,32,83,49,54,32,65,124,101,95,98,58,55,56,48,48,48,48,48,48,58,84,50,52,124,101,95,98,108,58,55,56,48,48,48,48,48,49,58,84,50,52,124,101,95,98,99,58,55,97,48,48,48,48,48,48,58,79,50,32,73,52,32,84,49,53,124,101,95,98,99,108,58,55,97,48,48,48,48,48,49,58,79,50,32,73,52,32,84,49,53,124,97,100,100,58,55,99,48,48,48,50,49,52,58,68,32,65,32,66,124,115,117,98,102,58,55,99,48,48,48,48,53,48,58,68,32,65,32,66,124,109,117,108,108,119,58,55,99,48,48,48,49,100,54,58,68,32,65,32,66,124,97,110,100,58,55,99,48,48,48,48,51,56,58,65,32,68,32,66,124,111,114,58,55,99,48,48,48,51,55,56,58,65,32,68,32,66,124,120,111,114,58,55,99,48,48,48,50,55,56,58,65,32,68,32,66,124]⟩
def s_ : ByteArray := ⟨#[]⟩
def s_0x : ByteArray := ⟨#[48,120]⟩
def s_A : ByteArray := ⟨#[65]⟩
def s_B : ByteArray := ⟨#[66]⟩
def s_C8 : ByteArray := ⟨#[67,56]⟩
def s_D : ByteArray := ⟨#[68]⟩
def s_I2 : ByteArray := ⟨#[73,50]⟩
def s_I4 : ByteArray := ⟨#[73,52]⟩
def VY : ByteArray := ⟨#[76,50,48]⟩
def s_M1 : ByteArray := ⟨#[77,49]⟩
def s_M2 : ByteArray := ⟨#[77,50]⟩
def s_M4 : ByteArray := ⟨#[77,52]⟩
def s_O1 : ByteArray := ⟨#[79,49]⟩
def s_O2 : ByteArray := ⟨#[79,50]⟩
def s_O5 : ByteArray := ⟨#[79,53]⟩
def VZ : ByteArray := ⟨#[83,49,54]⟩
def V0 : ByteArray := ⟨#[84,49,53]⟩
def Ue : ByteArray := ⟨#[84,50,52]⟩
def s_T8 : ByteArray := ⟨#[84,56]⟩
def s_U5 : ByteArray := ⟨#[85,53]⟩
def s_U7 : ByteArray := ⟨#[85,55]⟩
def s_X : ByteArray := ⟨#[88]⟩
def s_Y : ByteArray := ⟨#[89]⟩
def QeO : ByteArray := ⟨#[97,100,100]⟩
def QeP : ByteArray := ⟨#[97,110,100]⟩
def s_b : ByteArray := ⟨#[98]⟩
def s_bc : ByteArray := ⟨#[98,99]⟩
def s_bl : ByteArray := ⟨#[98,108]⟩
def Gz : ByteArray := ⟨#[101,95,97,100,100,49,54,105]⟩
def Pl : ByteArray := ⟨#[101,95,97,100,100,105]⟩
def Pm : ByteArray := ⟨#[101,95,97,110,100,105]⟩
def QeQ : ByteArray := ⟨#[101,95,98]⟩
def Qca : ByteArray := ⟨#[101,95,98,99]⟩
def SW : ByteArray := ⟨#[101,95,98,99,108]⟩
def Qcb : ByteArray := ⟨#[101,95,98,108]⟩
def SX : ByteArray := ⟨#[101,95,108,98,122]⟩
def SY : ByteArray := ⟨#[101,95,108,104,97]⟩
def SZ : ByteArray := ⟨#[101,95,108,104,122]⟩
def Qcc : ByteArray := ⟨#[101,95,108,105]⟩
def S6 : ByteArray := ⟨#[101,95,108,119,122]⟩
def S7 : ByteArray := ⟨#[101,95,111,114,105]⟩
def S8 : ByteArray := ⟨#[101,95,115,116,98]⟩
def S9 : ByteArray := ⟨#[101,95,115,116,104]⟩
def Qaa : ByteArray := ⟨#[101,95,115,116,119]⟩
def Pn : ByteArray := ⟨#[101,95,120,111,114,105]⟩
def Qab : ByteArray := ⟨#[109,117,108,108,119]⟩
def s_or : ByteArray := ⟨#[111,114]⟩
def s_r : ByteArray := ⟨#[114]⟩
def Po : ByteArray := ⟨#[115,101,95,97,100,100]⟩
def E6 : ByteArray := ⟨#[115,101,95,97,100,100,105]⟩
def Pp : ByteArray := ⟨#[115,101,95,97,110,100]⟩
def E7 : ByteArray := ⟨#[115,101,95,97,110,100,99]⟩
def Qcd : ByteArray := ⟨#[115,101,95,98]⟩
def Qac : ByteArray := ⟨#[115,101,95,98,99]⟩
def GA : ByteArray := ⟨#[115,101,95,98,99,108,114,105]⟩
def E8 : ByteArray := ⟨#[115,101,95,98,99,116,114]⟩
def Qad : ByteArray := ⟨#[115,101,95,98,108]⟩
def Pq : ByteArray := ⟨#[115,101,95,98,108,114]⟩
def GB : ByteArray := ⟨#[115,101,95,98,115,101,116,105]⟩
def GC : ByteArray := ⟨#[115,101,95,98,116,115,116,105]⟩
def Pr : ByteArray := ⟨#[115,101,95,99,109,112]⟩
def E9 : ByteArray := ⟨#[115,101,95,99,109,112,105]⟩
def Fa : ByteArray := ⟨#[115,101,95,99,109,112,108]⟩
def GD : ByteArray := ⟨#[115,101,95,99,109,112,108,105]⟩
def GE : ByteArray := ⟨#[115,101,95,101,120,116,115,98]⟩
def GF : ByteArray := ⟨#[115,101,95,101,120,116,115,104]⟩
def GG : ByteArray := ⟨#[115,101,95,101,120,116,122,98]⟩
def GH : ByteArray := ⟨#[115,101,95,101,120,116,122,104]⟩
def Y9 : ByteArray := ⟨#[115,101,95,105,108,108,101,103,97,108]⟩
def GI : ByteArray := ⟨#[115,101,95,105,115,121,110,99]⟩
def Ps : ByteArray := ⟨#[115,101,95,108,98,122]⟩
def Pt : ByteArray := ⟨#[115,101,95,108,104,122]⟩
def Qae : ByteArray := ⟨#[115,101,95,108,105]⟩
def Pu : ByteArray := ⟨#[115,101,95,108,119,122]⟩
def GJ : ByteArray := ⟨#[115,101,95,109,102,99,116,114]⟩
def Fb : ByteArray := ⟨#[115,101,95,109,102,108,114]⟩
def Qaf : ByteArray := ⟨#[115,101,95,109,114]⟩
def GK : ByteArray := ⟨#[115,101,95,109,116,99,116,114]⟩
def Fc : ByteArray := ⟨#[115,101,95,109,116,108,114]⟩
def GL : ByteArray := ⟨#[115,101,95,109,117,108,108,119]⟩
def Pv : ByteArray := ⟨#[115,101,95,110,101,103]⟩
def Pw : ByteArray := ⟨#[115,101,95,110,111,116]⟩
def Qag : ByteArray := ⟨#[115,101,95,111,114]⟩
def Qah : ByteArray := ⟨#[115,101,95,115,99]⟩
def Fd : ByteArray := ⟨#[115,101,95,115,108,119,105]⟩
def Fe : ByteArray := ⟨#[115,101,95,115,114,119,105]⟩
def Px : ByteArray := ⟨#[115,101,95,115,116,98]⟩
def Py : ByteArray := ⟨#[115,101,95,115,116,104]⟩
def Pz : ByteArray := ⟨#[115,101,95,115,116,119]⟩
def PA : ByteArray := ⟨#[115,101,95,115,117,98]⟩
def Ff : ByteArray := ⟨#[115,101,95,115,117,98,105]⟩
def Qce : ByteArray := ⟨#[115,117,98,102]⟩
def QeR : ByteArray := ⟨#[120,111,114]⟩
def anT : List (Nat × List (Nat × Ann)) := [
 (4,[(9,⟨[7,8,9,10],[7,9],[6],[],false⟩)]),
 (16,[(3,⟨[0,1,2,7,8],[7],[6],[(7,1),(9,1)],false⟩),(7,⟨[0,1,2,7,8,9,10],[0,1,2,7,8,9],[6],[(7,1),(9,1)],false⟩)]),
 (20,[(2,⟨[0,2,4],[0,2],[2,3],[],false⟩),(12,⟨[2,5,6,7],[2,5,6,7],[2,3],[],false⟩)]),
 (22,[(15,⟨[1,3,4,5],[3,4],[2],[(4,1)],false⟩),(21,⟨[3,4,6],[3],[2],[(4,1)],false⟩)]),
 (35,[(4,⟨[1,4,5,6,7],[4,5],[4],[],true⟩)]),
 (36,[(4,⟨[0,3,4,5],[3],[2],[(3,1)],false⟩)]),
 (39,[(2,⟨[0,3],[],[2],[],false⟩)]),
 (42,[(7,⟨[1,4,7,8,9],[4,8],[2,3],[],false⟩)]),
 (44,[(1,⟨[0,1,4,5],[],[],[],true⟩)]),
 (52,[(2,⟨[0,4],[0],[2,3],[],false⟩)]),
 (53,[(1,⟨[0],[0],[2],[],false⟩),(3,⟨[0],[0],[2],[],false⟩)]),
 (54,[(3,⟨[0,3,4],[0],[2],[],false⟩)]),
 (55,[(4,⟨[0,3,4,5,6],[3],[2],[(3,1)],false⟩)]),
 (58,[(5,⟨[0,1,4,7,8,9,10,11],[4],[4,5,6],[],false⟩)]),
 (83,[(5,⟨[0,3,4],[3],[2],[],false⟩)]),
 (87,[(6,⟨[1,6,7],[],[2],[],false⟩)]),
 (88,[(3,⟨[0,3,4],[3],[2],[],false⟩)]),
 (91,[(6,⟨[2,3,5,33,34,35],[2,3,5],[2,3,4],[],false⟩),(11,⟨[2,3,5,46,47],[2],[2,3,4],[],false⟩),(16,⟨[2,3,5,9,46,47,57,58,59],[2,3,5,9,46,47],[2,3,4],[],false⟩)]),
 (92,[(3,⟨[1,3,9,10,11],[1,3],[2],[(3,1)],false⟩)]),
 (100,[(4,⟨[0,4],[0],[2,3],[],false⟩)]),
 (101,[(3,⟨[0,1,6,7],[6],[4,5],[(6,5)],false⟩)]),
 (144,[(7,⟨[1,4,26,27,28],[4],[2,3],[],false⟩)]),
 (159,[(4,⟨[0,1,4,5],[],[4],[],false⟩)]),
 (160,[(0,⟨[0],[],[],[],false⟩)]),
 (187,[(4,⟨[0,6],[],[2,3,4,5],[],false⟩),(7,⟨[0,6,7],[0,6],[2,3,4,5],[],false⟩)]),
 (192,[(3,⟨[0,1,2,7,8],[7],[6],[],false⟩)]),
 (205,[(5,⟨[0,3,4],[3],[2],[],false⟩)]),
 (207,[(2,⟨[0,1,5],[],[4],[],false⟩)]),
 (222,[(3,⟨[0,1,2,7,8],[7],[6],[],false⟩)]),
 (226,[(2,⟨[0,8,9,10],[],[2,3,4,5],[],false⟩)]),
 (235,[(2,⟨[0,1,4,5,6],[0,4,5,6],[4],[],false⟩)]),
 (237,[(2,⟨[0,2,3],[0,2,3],[2],[],false⟩)]),
 (250,[(2,⟨[0,1,6],[],[4],[],false⟩)])]
def kdT : List (Nat × List Nat) := [(33,[1]),(37,[0,0,0,0,0,5]),(56,[129,131,178]),(60,[0,101]),(113,[0,0,0,0,0,5])]
def extT : List (Nat × (List AV → Heap → Option (AV × Heap))) := [(15,knownX),(51,(cloneK 1 16)),(69,joinX),(81,(cloneV 8)),(93,itoaX),(145,fieldsX),(177,containsX),(225,fitsX)]
def G : Cfg := { ext := fun f => get f extT,an := fun f r => ((get f anT).bind (get r)).getD {},kd := fun t => (get t kdT).getD [],own := fun f => [17,19,35,44,46].contains f }
def anT0 : List (Nat × List (Nat × Ann)) := [
 (44,[(1,⟨[0,1,4,5],[],[],[],true⟩)]),
 (91,[(6,⟨[2,3,5,33,34,35],[2,3,5],[2,3,4],[],false⟩),(11,⟨[2,3,5,46,47],[2],[2,3,4],[],false⟩),(16,⟨[2,3,5,9,46,47,57,58,59],[2,3,5,9,46,47],[2,3,4],[],false⟩)]),
 (92,[(3,⟨[1,3,9,10,11],[1,3],[2],[(3,1)],false⟩)]),
 (144,[(7,⟨[1,4,26,27,28],[4],[2,3],[],false⟩)]),
 (192,[(3,⟨[0,1,2,7,8],[7],[6],[],false⟩)]),
 (226,[(2,⟨[0,8,9,10],[],[2,3,4,5],[],false⟩)]),
 (250,[(2,⟨[0,1,6],[],[4],[],false⟩)])]
def kdT0 : List (Nat × List Nat) := [(27,[102]),(33,[1]),(60,[0,101])]
def extT0 : List (Nat × (List AV → Heap → Option (AV × Heap))) := [(48,(cloneK 2 32)),(51,(cloneK 1 16)),(69,joinX),(81,(cloneV 8)),(93,itoaX),(145,fieldsX),(177,containsX),(225,fitsX)]
def G0 : Cfg := { ext := fun f => get f extT0,an := fun f r => ((get f anT0).bind (get r)).getD {},kd := fun t => (get t kdT0).getD [],own := fun f => [17,19,35,44,46].contains f }
theorem Qlr : evalFn Tryz.prog G0 2000 15 [] [] = some (.sc (.bool true),[]) := by kernel_rfl
noncomputable abbrev pp : Program := Tryz.prog
abbrev AH := AV × Heap
abbrev XS := Ex × St
noncomputable abbrev ww : CallF := evW Tryz.prog G
noncomputable abbrev lw (m f : Nat) : Loops := lpW Tryz.prog G m (G.an f)
def Qm (r : Bool) : AV × Heap := (xo r,[])
abbrev QmK := Option Bool
noncomputable def Z1 : Option Bool := (some true)
noncomputable abbrev Qls {ρ R : Type} (k : Bool → Tr ρ R) : Tr ρ R := .call (ww 15 [] []) (Z1) Qm k
theorem Z1.ok {r : Bool} (h : Z1 = some r) : ww 15 [] [] = some (Qm r) := (Gg rfl _ _).trans (Qoh h)
def Qe (r : Int) : AV × Heap := (xi r,[])
abbrev QaP := Int → Int → Option Int
def Qdy (a0 : Int) (a1 : Int) : Option Int := (bif (decide (a1 ≠ 0)) then (bif (decide ((Int.tmod a0 a1) < 0)) then (some (w64 ((Int.tmod a0 a1) + a1))) else (some (Int.tmod a0 a1))) else none)
noncomputable def JM : QaP := Qdy
theorem JM.eq (a0 : Int) (a1 : Int) : JM a0 a1 = Qdy a0 a1 := rfl
noncomputable def QjJ (a0 : Int) (a1 : Int) : Tr Int AH := (.as (decide (a1 ≠ 0)) (.as (decide ((Int.tmod a0 a1) < 0)) (rt Qe (w64 ((Int.tmod a0 a1) + a1))) (rt Qe (Int.tmod a0 a1))) .fail)
theorem JM.ok {a0 : Int} {a1 : Int} {r : Int} (h : JM a0 a1 = some r) : ww 84 [xi a0,xi a1] [] = some (Qe r) := by
 refine fnP (QjJ a0 a1) ?_ h
 exact ⟨rfl,fun q0 => ⟨rfl,fun q1 => rfl,fun q1 => rfl⟩,fun q0 => trivial⟩
noncomputable abbrev W4 {ρ R : Type} (a0 : Int) (a1 : Int) (k : Int → Tr ρ R) : Tr ρ R := .call (ww 84 [xi a0,xi a1] []) (JM a0 a1) Qe k
def P9 (r : (Qz × Int × Bool)) : AV × Heap := (.tup [.agg (Ez r.1),xi r.2.1,xo r.2.2],[])
abbrev Z2 := Int → ByteArray → Option (Qz × Int × Bool)
structure QA where
 x0 : Int
 x1 : ByteArray
 x7 : Int
 x8 : Int
 x10 : Int
 x11 : Int
 h0 : Qz
 h1_0 : ByteArray
 h1_1 : ByteArray
 h1_2 : ByteArray
structure QJ where
 x5 : Int
 x6 : Bool
 h0 : Qz
def UG (a : QA) : St := { n := 56,nx := 2,env := [(0,xi a.x0),(1,xs a.x1),(4,.ptr 0 0),(7,xi a.x7),(8,xi a.x8),(9,.ptr 1 0),(10,xi a.x10),(11,xi a.x11)],heap := [(0,.box [] (Ez a.h0)),(1,.box [] [xs a.h1_0,xs a.h1_1,xs a.h1_2])] }
def Qbt (a : QJ) : Ex × St := (.ret,{ n := 56,nx := 1,env := [(4,.ptr 0 0),(5,xi a.x5),(6,xo a.x6)],heap := [(0,.box [] (Ez a.h0))] })
def Qbu (a : Qz) : Ex × St := (.exit 0,{ n := 56,nx := 1,env := [(4,.ptr 0 0)],heap := [(0,.box [] (Ez a))] })
def U1 (a : (QJ ⊕ Qz)) : Ex × St := Sum.elim Qbt Qbu a
abbrev Qdz := QA → Option (QJ ⊕ Qz)
def Za (a : QA) : Option (QA ⊕ (QJ ⊕ Qz)) := (bif (decide (a.x11 < 1212)) then (bif (decide (0 ≤ a.x11 ∧ a.x11 < ((Ql.size : Nat) : Int))) then (bif (((Ql.data.getD (Int.toNat a.x11) 0).toNat : Int) != 58) then (bif (((Ql.data.getD (Int.toNat a.x11) 0).toNat : Int) != 124) then (some (.inl (QA.mk a.x0 a.x1 a.x7 a.x8 a.x10 (w64 (a.x11 + 1)) a.h0 a.h1_0 a.h1_1 a.h1_2))) else (bif (decide (0 ≤ a.x8 ∧ a.x8 ≤ a.x11 ∧ a.x11 ≤ ((Ql.size : Nat) : Int))) then (bif (decide (a.x10 = 0)) then (bif (((Ql.data.getD (Int.toNat a.x11) 0).toNat : Int) == 124) then (bif (a.x7 == a.x0) then (some (.inr (.inl (QJ.mk a.x7 true (Qz.mk (Ql.extract (Int.toNat a.x8) (Int.toNat a.x11)) a.h1_1 a.h1_2))))) else (bif (eqS (Ql.extract (Int.toNat a.x8) (Int.toNat a.x11)) a.x1) then (some (.inr (.inl (QJ.mk a.x7 true (Qz.mk (Ql.extract (Int.toNat a.x8) (Int.toNat a.x11)) a.h1_1 a.h1_2))))) else (some (.inl (QA.mk a.x0 a.x1 (w64 (a.x7 + 1)) (w64 (a.x11 + 1)) (0 : Int) (w64 (a.x11 + 1)) a.h0 (Ql.extract (Int.toNat a.x8) (Int.toNat a.x11)) a.h1_1 a.h1_2))))) else (some (.inl (QA.mk a.x0 a.x1 a.x7 (w64 (a.x11 + 1)) (w64 (a.x10 + 1)) (w64 (a.x11 + 1)) a.h0 (Ql.extract (Int.toNat a.x8) (Int.toNat a.x11)) a.h1_1 a.h1_2)))) else (bif (decide (a.x10 = 1)) then (bif (((Ql.data.getD (Int.toNat a.x11) 0).toNat : Int) == 124) then (bif (a.x7 == a.x0) then (some (.inr (.inl (QJ.mk a.x7 true (Qz.mk a.h1_0 (Ql.extract (Int.toNat a.x8) (Int.toNat a.x11)) a.h1_2))))) else (bif (eqS a.h1_0 a.x1) then (some (.inr (.inl (QJ.mk a.x7 true (Qz.mk a.h1_0 (Ql.extract (Int.toNat a.x8) (Int.toNat a.x11)) a.h1_2))))) else (some (.inl (QA.mk a.x0 a.x1 (w64 (a.x7 + 1)) (w64 (a.x11 + 1)) (0 : Int) (w64 (a.x11 + 1)) a.h0 a.h1_0 (Ql.extract (Int.toNat a.x8) (Int.toNat a.x11)) a.h1_2))))) else (some (.inl (QA.mk a.x0 a.x1 a.x7 (w64 (a.x11 + 1)) (w64 (a.x10 + 1)) (w64 (a.x11 + 1)) a.h0 a.h1_0 (Ql.extract (Int.toNat a.x8) (Int.toNat a.x11)) a.h1_2)))) else (bif (decide (a.x10 = 2)) then (bif (((Ql.data.getD (Int.toNat a.x11) 0).toNat : Int) == 124) then (bif (a.x7 == a.x0) then (some (.inr (.inl (QJ.mk a.x7 true (Qz.mk a.h1_0 a.h1_1 (Ql.extract (Int.toNat a.x8) (Int.toNat a.x11))))))) else (bif (eqS a.h1_0 a.x1) then (some (.inr (.inl (QJ.mk a.x7 true (Qz.mk a.h1_0 a.h1_1 (Ql.extract (Int.toNat a.x8) (Int.toNat a.x11))))))) else (some (.inl (QA.mk a.x0 a.x1 (w64 (a.x7 + 1)) (w64 (a.x11 + 1)) (0 : Int) (w64 (a.x11 + 1)) a.h0 a.h1_0 a.h1_1 (Ql.extract (Int.toNat a.x8) (Int.toNat a.x11))))))) else (some (.inl (QA.mk a.x0 a.x1 a.x7 (w64 (a.x11 + 1)) (w64 (a.x10 + 1)) (w64 (a.x11 + 1)) a.h0 a.h1_0 a.h1_1 (Ql.extract (Int.toNat a.x8) (Int.toNat a.x11)))))) else none))) else none)) else (bif (decide (0 ≤ a.x8 ∧ a.x8 ≤ a.x11 ∧ a.x11 ≤ ((Ql.size : Nat) : Int))) then (bif (decide (a.x10 = 0)) then (bif (((Ql.data.getD (Int.toNat a.x11) 0).toNat : Int) == 124) then (bif (a.x7 == a.x0) then (some (.inr (.inl (QJ.mk a.x7 true (Qz.mk (Ql.extract (Int.toNat a.x8) (Int.toNat a.x11)) a.h1_1 a.h1_2))))) else (bif (eqS (Ql.extract (Int.toNat a.x8) (Int.toNat a.x11)) a.x1) then (some (.inr (.inl (QJ.mk a.x7 true (Qz.mk (Ql.extract (Int.toNat a.x8) (Int.toNat a.x11)) a.h1_1 a.h1_2))))) else (some (.inl (QA.mk a.x0 a.x1 (w64 (a.x7 + 1)) (w64 (a.x11 + 1)) (0 : Int) (w64 (a.x11 + 1)) a.h0 (Ql.extract (Int.toNat a.x8) (Int.toNat a.x11)) a.h1_1 a.h1_2))))) else (some (.inl (QA.mk a.x0 a.x1 a.x7 (w64 (a.x11 + 1)) (w64 (a.x10 + 1)) (w64 (a.x11 + 1)) a.h0 (Ql.extract (Int.toNat a.x8) (Int.toNat a.x11)) a.h1_1 a.h1_2)))) else (bif (decide (a.x10 = 1)) then (bif (((Ql.data.getD (Int.toNat a.x11) 0).toNat : Int) == 124) then (bif (a.x7 == a.x0) then (some (.inr (.inl (QJ.mk a.x7 true (Qz.mk a.h1_0 (Ql.extract (Int.toNat a.x8) (Int.toNat a.x11)) a.h1_2))))) else (bif (eqS a.h1_0 a.x1) then (some (.inr (.inl (QJ.mk a.x7 true (Qz.mk a.h1_0 (Ql.extract (Int.toNat a.x8) (Int.toNat a.x11)) a.h1_2))))) else (some (.inl (QA.mk a.x0 a.x1 (w64 (a.x7 + 1)) (w64 (a.x11 + 1)) (0 : Int) (w64 (a.x11 + 1)) a.h0 a.h1_0 (Ql.extract (Int.toNat a.x8) (Int.toNat a.x11)) a.h1_2))))) else (some (.inl (QA.mk a.x0 a.x1 a.x7 (w64 (a.x11 + 1)) (w64 (a.x10 + 1)) (w64 (a.x11 + 1)) a.h0 a.h1_0 (Ql.extract (Int.toNat a.x8) (Int.toNat a.x11)) a.h1_2)))) else (bif (decide (a.x10 = 2)) then (bif (((Ql.data.getD (Int.toNat a.x11) 0).toNat : Int) == 124) then (bif (a.x7 == a.x0) then (some (.inr (.inl (QJ.mk a.x7 true (Qz.mk a.h1_0 a.h1_1 (Ql.extract (Int.toNat a.x8) (Int.toNat a.x11))))))) else (bif (eqS a.h1_0 a.x1) then (some (.inr (.inl (QJ.mk a.x7 true (Qz.mk a.h1_0 a.h1_1 (Ql.extract (Int.toNat a.x8) (Int.toNat a.x11))))))) else (some (.inl (QA.mk a.x0 a.x1 (w64 (a.x7 + 1)) (w64 (a.x11 + 1)) (0 : Int) (w64 (a.x11 + 1)) a.h0 a.h1_0 a.h1_1 (Ql.extract (Int.toNat a.x8) (Int.toNat a.x11))))))) else (some (.inl (QA.mk a.x0 a.x1 a.x7 (w64 (a.x11 + 1)) (w64 (a.x10 + 1)) (w64 (a.x11 + 1)) a.h0 a.h1_0 a.h1_1 (Ql.extract (Int.toNat a.x8) (Int.toNat a.x11)))))) else none))) else none)) else none) else (some (.inr (.inr a.h0))))
noncomputable def Uu : Qdz := loopW (Za )
theorem Uu.eq (a : QA) : Uu a = (Za a).bind (Sum.elim Uu some) := Jc _ _
noncomputable abbrev Qio {ρ R : Type} (a : QA) (k0 : QJ → Tr ρ R) (k1 : Qz → Tr ρ R) : Tr ρ R := .loop2 (loopAt pp 58 5) (UG a) (Uu a) Qbt Qbu k0 k1
noncomputable def Qip (a : QA) : Tr (QA ⊕ (QJ ⊕ Qz)) XS := (.as (decide (a.x11 < 1212)) (let u8 := (in1 a.x11 (zz Ql)); .as u8 (let u7 := ((gb Ql a.x11) != 58); .as u7 (.yes u7 (.yes u8 (yesN 2 u7 (.as ((gb Ql a.x11) != 124) (lf UG (QA.mk a.x0 a.x1 a.x7 a.x8 a.x10 (w64 (a.x11 + 1)) a.h0 a.h1_0 a.h1_1 a.h1_2)) (.as (in2 a.x8 a.x11 (zz Ql)) (.ask (decide (a.x10 = ((0 : Nat) : Int))) (decide (a.x10 = 0)) (.yes u8 (.as ((gb Ql a.x11) == 124) (let u1 := (a.x7 == a.x0); .as u1 (yesN 4 u1 (.yes true (.yes (decide (i0 = ((0 : Nat) : Int))) (.no (decide ((zi 1) = ((0 : Nat) : Int))) (.yes (decide ((zi 1) = ((1 : Nat) : Int))) (.no (decide ((zi 2) = ((0 : Nat) : Int))) (.no (decide ((zi 2) = ((1 : Nat) : Int))) (.yes (decide ((zi 2) = ((2 : Nat) : Int))) (rx U1 (.inl (QJ.mk a.x7 true (Qz.mk (cu Ql a.x8 a.x11) a.h1_1 a.h1_2)))))))))))) (.yes (decide (i0 = ((0 : Nat) : Int))) (noN 4 u1 (.as (eqS (cu Ql a.x8 a.x11) a.x1) (.yes (decide (i0 = ((0 : Nat) : Int))) (.no (decide ((zi 1) = ((0 : Nat) : Int))) (.yes (decide ((zi 1) = ((1 : Nat) : Int))) (.no (decide ((zi 2) = ((0 : Nat) : Int))) (.no (decide ((zi 2) = ((1 : Nat) : Int))) (.yes (decide ((zi 2) = ((2 : Nat) : Int))) (rx U1 (.inl (QJ.mk a.x7 true (Qz.mk (cu Ql a.x8 a.x11) a.h1_1 a.h1_2)))))))))) (lf UG (QA.mk a.x0 a.x1 (w64 (a.x7 + 1)) (w64 (a.x11 + 1)) i0 (w64 (a.x11 + 1)) a.h0 (cu Ql a.x8 a.x11) a.h1_1 a.h1_2)))))) (lf UG (QA.mk a.x0 a.x1 a.x7 (w64 (a.x11 + 1)) (w64 (a.x10 + 1)) (w64 (a.x11 + 1)) a.h0 (cu Ql a.x8 a.x11) a.h1_1 a.h1_2)))) (.ask (decide (a.x10 = ((1 : Nat) : Int))) (decide (a.x10 = 1)) (.yes u8 (.as ((gb Ql a.x11) == 124) (let u2 := (a.x7 == a.x0); .as u2 (yesN 4 u2 (.yes true (.yes (decide (i0 = ((0 : Nat) : Int))) (.no (decide ((zi 1) = ((0 : Nat) : Int))) (.yes (decide ((zi 1) = ((1 : Nat) : Int))) (.no (decide ((zi 2) = ((0 : Nat) : Int))) (.no (decide ((zi 2) = ((1 : Nat) : Int))) (.yes (decide ((zi 2) = ((2 : Nat) : Int))) (rx U1 (.inl (QJ.mk a.x7 true (Qz.mk a.h1_0 (cu Ql a.x8 a.x11) a.h1_2)))))))))))) (.yes (decide (i0 = ((0 : Nat) : Int))) (noN 4 u2 (.as (eqS a.h1_0 a.x1) (.yes (decide (i0 = ((0 : Nat) : Int))) (.no (decide ((zi 1) = ((0 : Nat) : Int))) (.yes (decide ((zi 1) = ((1 : Nat) : Int))) (.no (decide ((zi 2) = ((0 : Nat) : Int))) (.no (decide ((zi 2) = ((1 : Nat) : Int))) (.yes (decide ((zi 2) = ((2 : Nat) : Int))) (rx U1 (.inl (QJ.mk a.x7 true (Qz.mk a.h1_0 (cu Ql a.x8 a.x11) a.h1_2)))))))))) (lf UG (QA.mk a.x0 a.x1 (w64 (a.x7 + 1)) (w64 (a.x11 + 1)) i0 (w64 (a.x11 + 1)) a.h0 a.h1_0 (cu Ql a.x8 a.x11) a.h1_2)))))) (lf UG (QA.mk a.x0 a.x1 a.x7 (w64 (a.x11 + 1)) (w64 (a.x10 + 1)) (w64 (a.x11 + 1)) a.h0 a.h1_0 (cu Ql a.x8 a.x11) a.h1_2)))) (.ask (decide (a.x10 = ((2 : Nat) : Int))) (decide (a.x10 = 2)) (.yes u8 (.as ((gb Ql a.x11) == 124) (let u3 := (a.x7 == a.x0); .as u3 (yesN 4 u3 (.yes true (.yes (decide (i0 = ((0 : Nat) : Int))) (.no (decide ((zi 1) = ((0 : Nat) : Int))) (.yes (decide ((zi 1) = ((1 : Nat) : Int))) (.no (decide ((zi 2) = ((0 : Nat) : Int))) (.no (decide ((zi 2) = ((1 : Nat) : Int))) (.yes (decide ((zi 2) = ((2 : Nat) : Int))) (rx U1 (.inl (QJ.mk a.x7 true (Qz.mk a.h1_0 a.h1_1 (cu Ql a.x8 a.x11))))))))))))) (.yes (decide (i0 = ((0 : Nat) : Int))) (noN 4 u3 (.as (eqS a.h1_0 a.x1) (.yes (decide (i0 = ((0 : Nat) : Int))) (.no (decide ((zi 1) = ((0 : Nat) : Int))) (.yes (decide ((zi 1) = ((1 : Nat) : Int))) (.no (decide ((zi 2) = ((0 : Nat) : Int))) (.no (decide ((zi 2) = ((1 : Nat) : Int))) (.yes (decide ((zi 2) = ((2 : Nat) : Int))) (rx U1 (.inl (QJ.mk a.x7 true (Qz.mk a.h1_0 a.h1_1 (cu Ql a.x8 a.x11))))))))))) (lf UG (QA.mk a.x0 a.x1 (w64 (a.x7 + 1)) (w64 (a.x11 + 1)) i0 (w64 (a.x11 + 1)) a.h0 a.h1_0 a.h1_1 (cu Ql a.x8 a.x11))))))) (lf UG (QA.mk a.x0 a.x1 a.x7 (w64 (a.x11 + 1)) (w64 (a.x10 + 1)) (w64 (a.x11 + 1)) a.h0 a.h1_0 a.h1_1 (cu Ql a.x8 a.x11))))) .fail))) .fail))))) (noN 3 u7 (.no false (.as (in2 a.x8 a.x11 (zz Ql)) (.ask (decide (a.x10 = ((0 : Nat) : Int))) (decide (a.x10 = 0)) (.yes u8 (.as ((gb Ql a.x11) == 124) (let u4 := (a.x7 == a.x0); .as u4 (yesN 4 u4 (.yes true (.yes (decide (i0 = ((0 : Nat) : Int))) (.no (decide ((zi 1) = ((0 : Nat) : Int))) (.yes (decide ((zi 1) = ((1 : Nat) : Int))) (.no (decide ((zi 2) = ((0 : Nat) : Int))) (.no (decide ((zi 2) = ((1 : Nat) : Int))) (.yes (decide ((zi 2) = ((2 : Nat) : Int))) (rx U1 (.inl (QJ.mk a.x7 true (Qz.mk (cu Ql a.x8 a.x11) a.h1_1 a.h1_2)))))))))))) (.yes (decide (i0 = ((0 : Nat) : Int))) (noN 4 u4 (.as (eqS (cu Ql a.x8 a.x11) a.x1) (.yes (decide (i0 = ((0 : Nat) : Int))) (.no (decide ((zi 1) = ((0 : Nat) : Int))) (.yes (decide ((zi 1) = ((1 : Nat) : Int))) (.no (decide ((zi 2) = ((0 : Nat) : Int))) (.no (decide ((zi 2) = ((1 : Nat) : Int))) (.yes (decide ((zi 2) = ((2 : Nat) : Int))) (rx U1 (.inl (QJ.mk a.x7 true (Qz.mk (cu Ql a.x8 a.x11) a.h1_1 a.h1_2)))))))))) (lf UG (QA.mk a.x0 a.x1 (w64 (a.x7 + 1)) (w64 (a.x11 + 1)) i0 (w64 (a.x11 + 1)) a.h0 (cu Ql a.x8 a.x11) a.h1_1 a.h1_2)))))) (lf UG (QA.mk a.x0 a.x1 a.x7 (w64 (a.x11 + 1)) (w64 (a.x10 + 1)) (w64 (a.x11 + 1)) a.h0 (cu Ql a.x8 a.x11) a.h1_1 a.h1_2)))) (.ask (decide (a.x10 = ((1 : Nat) : Int))) (decide (a.x10 = 1)) (.yes u8 (.as ((gb Ql a.x11) == 124) (let u5 := (a.x7 == a.x0); .as u5 (yesN 4 u5 (.yes true (.yes (decide (i0 = ((0 : Nat) : Int))) (.no (decide ((zi 1) = ((0 : Nat) : Int))) (.yes (decide ((zi 1) = ((1 : Nat) : Int))) (.no (decide ((zi 2) = ((0 : Nat) : Int))) (.no (decide ((zi 2) = ((1 : Nat) : Int))) (.yes (decide ((zi 2) = ((2 : Nat) : Int))) (rx U1 (.inl (QJ.mk a.x7 true (Qz.mk a.h1_0 (cu Ql a.x8 a.x11) a.h1_2)))))))))))) (.yes (decide (i0 = ((0 : Nat) : Int))) (noN 4 u5 (.as (eqS a.h1_0 a.x1) (.yes (decide (i0 = ((0 : Nat) : Int))) (.no (decide ((zi 1) = ((0 : Nat) : Int))) (.yes (decide ((zi 1) = ((1 : Nat) : Int))) (.no (decide ((zi 2) = ((0 : Nat) : Int))) (.no (decide ((zi 2) = ((1 : Nat) : Int))) (.yes (decide ((zi 2) = ((2 : Nat) : Int))) (rx U1 (.inl (QJ.mk a.x7 true (Qz.mk a.h1_0 (cu Ql a.x8 a.x11) a.h1_2)))))))))) (lf UG (QA.mk a.x0 a.x1 (w64 (a.x7 + 1)) (w64 (a.x11 + 1)) i0 (w64 (a.x11 + 1)) a.h0 a.h1_0 (cu Ql a.x8 a.x11) a.h1_2)))))) (lf UG (QA.mk a.x0 a.x1 a.x7 (w64 (a.x11 + 1)) (w64 (a.x10 + 1)) (w64 (a.x11 + 1)) a.h0 a.h1_0 (cu Ql a.x8 a.x11) a.h1_2)))) (.ask (decide (a.x10 = ((2 : Nat) : Int))) (decide (a.x10 = 2)) (.yes u8 (.as ((gb Ql a.x11) == 124) (let u6 := (a.x7 == a.x0); .as u6 (yesN 4 u6 (.yes true (.yes (decide (i0 = ((0 : Nat) : Int))) (.no (decide ((zi 1) = ((0 : Nat) : Int))) (.yes (decide ((zi 1) = ((1 : Nat) : Int))) (.no (decide ((zi 2) = ((0 : Nat) : Int))) (.no (decide ((zi 2) = ((1 : Nat) : Int))) (.yes (decide ((zi 2) = ((2 : Nat) : Int))) (rx U1 (.inl (QJ.mk a.x7 true (Qz.mk a.h1_0 a.h1_1 (cu Ql a.x8 a.x11))))))))))))) (.yes (decide (i0 = ((0 : Nat) : Int))) (noN 4 u6 (.as (eqS a.h1_0 a.x1) (.yes (decide (i0 = ((0 : Nat) : Int))) (.no (decide ((zi 1) = ((0 : Nat) : Int))) (.yes (decide ((zi 1) = ((1 : Nat) : Int))) (.no (decide ((zi 2) = ((0 : Nat) : Int))) (.no (decide ((zi 2) = ((1 : Nat) : Int))) (.yes (decide ((zi 2) = ((2 : Nat) : Int))) (rx U1 (.inl (QJ.mk a.x7 true (Qz.mk a.h1_0 a.h1_1 (cu Ql a.x8 a.x11))))))))))) (lf UG (QA.mk a.x0 a.x1 (w64 (a.x7 + 1)) (w64 (a.x11 + 1)) i0 (w64 (a.x11 + 1)) a.h0 a.h1_0 a.h1_1 (cu Ql a.x8 a.x11))))))) (lf UG (QA.mk a.x0 a.x1 a.x7 (w64 (a.x11 + 1)) (w64 (a.x10 + 1)) (w64 (a.x11 + 1)) a.h0 a.h1_0 a.h1_1 (cu Ql a.x8 a.x11))))) .fail))) .fail)))) .fail) (rx U1 (.inr a.h0)))
theorem Uu.ok {a : QA} {r : (QJ ⊕ Qz)} (h : Uu a = some r) : lw 0 58 (loopAt pp 58 5) (UG a) = some (U1 r) := by
 refine lpP h Qip fun a => ?_
 exact ⟨rfl,fun q0 => ⟨rfl,fun q1 => ⟨rfl,fun q2 => ⟨q2,⟨q1,Qh 2 (q2) (⟨rfl,fun q3 => rfl,fun q3 => ⟨rfl,fun q4 => ⟨rfl,fun q5 => ⟨q1,⟨rfl,fun q6 => ⟨rfl,fun q7 => Qh 4 (q7) (⟨rfl,⟨rfl,⟨rfl,⟨rfl,⟨rfl,⟨rfl,⟨rfl,rfl⟩⟩⟩⟩⟩⟩⟩),fun q7 => ⟨rfl,noN_ok 4 (q7) (⟨rfl,fun q8 => ⟨rfl,⟨rfl,⟨rfl,⟨rfl,⟨rfl,⟨rfl,rfl⟩⟩⟩⟩⟩⟩,fun q8 => rfl⟩)⟩⟩,fun q6 => rfl⟩⟩,fun q5 => ⟨rfl,fun q6 => ⟨q1,⟨rfl,fun q7 => ⟨rfl,fun q8 => Qh 4 (q8) (⟨rfl,⟨rfl,⟨rfl,⟨rfl,⟨rfl,⟨rfl,⟨rfl,rfl⟩⟩⟩⟩⟩⟩⟩),fun q8 => ⟨rfl,noN_ok 4 (q8) (⟨rfl,fun q9 => ⟨rfl,⟨rfl,⟨rfl,⟨rfl,⟨rfl,⟨rfl,rfl⟩⟩⟩⟩⟩⟩,fun q9 => rfl⟩)⟩⟩,fun q7 => rfl⟩⟩,fun q6 => ⟨rfl,fun q7 => ⟨q1,⟨rfl,fun q8 => ⟨rfl,fun q9 => Qh 4 (q9) (⟨rfl,⟨rfl,⟨rfl,⟨rfl,⟨rfl,⟨rfl,⟨rfl,rfl⟩⟩⟩⟩⟩⟩⟩),fun q9 => ⟨rfl,noN_ok 4 (q9) (⟨rfl,fun q10 => ⟨rfl,⟨rfl,⟨rfl,⟨rfl,⟨rfl,⟨rfl,rfl⟩⟩⟩⟩⟩⟩,fun q10 => rfl⟩)⟩⟩,fun q8 => rfl⟩⟩,fun q7 => trivial⟩⟩⟩,fun q4 => trivial⟩⟩)⟩⟩,fun q2 => noN_ok 3 (q2) (⟨rfl,⟨rfl,fun q3 => ⟨rfl,fun q4 => ⟨q1,⟨rfl,fun q5 => ⟨rfl,fun q6 => Qh 4 (q6) (⟨rfl,⟨rfl,⟨rfl,⟨rfl,⟨rfl,⟨rfl,⟨rfl,rfl⟩⟩⟩⟩⟩⟩⟩),fun q6 => ⟨rfl,noN_ok 4 (q6) (⟨rfl,fun q7 => ⟨rfl,⟨rfl,⟨rfl,⟨rfl,⟨rfl,⟨rfl,rfl⟩⟩⟩⟩⟩⟩,fun q7 => rfl⟩)⟩⟩,fun q5 => rfl⟩⟩,fun q4 => ⟨rfl,fun q5 => ⟨q1,⟨rfl,fun q6 => ⟨rfl,fun q7 => Qh 4 (q7) (⟨rfl,⟨rfl,⟨rfl,⟨rfl,⟨rfl,⟨rfl,⟨rfl,rfl⟩⟩⟩⟩⟩⟩⟩),fun q7 => ⟨rfl,noN_ok 4 (q7) (⟨rfl,fun q8 => ⟨rfl,⟨rfl,⟨rfl,⟨rfl,⟨rfl,⟨rfl,rfl⟩⟩⟩⟩⟩⟩,fun q8 => rfl⟩)⟩⟩,fun q6 => rfl⟩⟩,fun q5 => ⟨rfl,fun q6 => ⟨q1,⟨rfl,fun q7 => ⟨rfl,fun q8 => Qh 4 (q8) (⟨rfl,⟨rfl,⟨rfl,⟨rfl,⟨rfl,⟨rfl,⟨rfl,rfl⟩⟩⟩⟩⟩⟩⟩),fun q8 => ⟨rfl,noN_ok 4 (q8) (⟨rfl,fun q9 => ⟨rfl,⟨rfl,⟨rfl,⟨rfl,⟨rfl,⟨rfl,rfl⟩⟩⟩⟩⟩⟩,fun q9 => rfl⟩)⟩⟩,fun q7 => rfl⟩⟩,fun q6 => trivial⟩⟩⟩,fun q3 => trivial⟩⟩)⟩,fun q1 => trivial⟩,fun q0 => rfl⟩
def Qcf (L0 : Qdz) (a0 : Int) (a1 : ByteArray) : Option (Qz × Int × Bool) := ((L0 (QA.mk a0 a1 (0 : Int) (0 : Int) (0 : Int) (0 : Int) (Qz.mk s_ s_ s_) s_ s_ s_)).bind fun x => Sum.elim (fun (o1 : QJ) => (some (o1.h0,o1.x5,o1.x6))) (fun (o2 : Qz) => (some ((Qz.mk s_ s_ s_),(0 : Int),false))) x)
noncomputable def Uy : Z2 := Qcf Uu
theorem Uy.eq (a0 : Int) (a1 : ByteArray) : Uy a0 a1 = Qcf Uu a0 a1 := rfl
noncomputable def QmL (a0 : Int) (a1 : ByteArray) : Tr (Qz × Int × Bool) AH := (Qio (QA.mk a0 a1 i0 i0 i0 i0 (Qz.mk s_ s_ s_) s_ s_ s_) (fun o1 => (rt P9 (o1.h0,o1.x5,o1.x6))) (fun o2 => (rt P9 ((Qz.mk s_ s_ s_),i0,false))))
theorem Uy.ok {a0 : Int} {a1 : ByteArray} {r : (Qz × Int × Bool)} (h : Uy a0 a1 = some r) : ww 58 [xi a0,xs a1] [] = some (P9 r) := by
 refine fnP (QmL a0 a1) ?_ h
 exact ⟨fun o1 h => ⟨Uu.ok (r := (.inl _)) h,rfl⟩,fun o2 h => ⟨Uu.ok (r := (.inr _)) h,rfl⟩⟩
noncomputable abbrev Gh {ρ R : Type} (a0 : Int) (a1 : ByteArray) (k : (Qz × Int × Bool) → Tr ρ R) : Tr ρ R := .call (ww 58 [xi a0,xs a1] []) (Uy a0 a1) P9 k
def Qj (r : ByteArray) : AV × Heap := (xs r,[])
abbrev Qcg := Int → Option ByteArray
def FY (C0 : Z2) (a0 : Int) : Option ByteArray := ((C0 a0 h_20).bind fun r1 => (some r1.1.Kinds))
noncomputable def Wm : Qcg := FY Uy
theorem Wm.eq (a0 : Int) : Wm a0 = FY Uy a0 := rfl
noncomputable def Qlt (a0 : Int) : Tr ByteArray AH := (Gh a0 h_20 fun r1 => (rt Qj r1.1.Kinds))
theorem Wm.ok {a0 : Int} {r : ByteArray} (h : Wm a0 = some r) : ww 37 [xi a0] [] = some (Qj r) := by
 refine fnP (Qlt a0) ?_ h
 exact fun r1 h => ⟨Uy.ok h,rfl⟩
noncomputable abbrev QeS {ρ R : Type} (a0 : Int) (k : ByteArray → Tr ρ R) : Tr ρ R := .call (ww 37 [xi a0] []) (Wm a0) Qj k
def J3 (r : (List ByteArray)) : AV × Heap := (.sl (Qc r),[])
abbrev Fg := ByteArray → Option (List ByteArray)
structure Jg where
 x0 : ByteArray
 x4 : Int
 x5 : Int
 r0 : (List ByteArray)
def Xe (a : Jg) : St := { n := 35,nx := 1,env := [(0,xs a.x0),(3,.arr 0),(4,xi a.x4),(5,xi a.x5)],heap := [(0,.arr true 1 (Qc a.r0))] }
def FA (a : (List ByteArray)) : Ex × St := (.exit 0,{ n := 35,nx := 1,env := [(3,.arr 0)],heap := [(0,.arr true 1 (Qc a))] })
abbrev Zb := Jg → Option (List ByteArray)
def FB (a : Jg) : Option (Jg ⊕ (List ByteArray)) := (bif (decide (a.x5 ≤ ((a.x0.size : Nat) : Int))) then (bif (a.x5 == ((a.x0.size : Nat) : Int)) then (bif (decide (a.x5 > a.x4)) then (bif (decide (0 ≤ a.x4 ∧ a.x4 ≤ a.x5 ∧ a.x5 ≤ ((a.x0.size : Nat) : Int))) then (bif (decide ((a.r0.length + [(a.x0.extract (Int.toNat a.x4) (Int.toNat a.x5))].length) * 16 ≤ most)) then (some (.inl (Jg.mk a.x0 (w64 (a.x5 + 1)) (w64 (a.x5 + 1)) (a.r0 ++ [(a.x0.extract (Int.toNat a.x4) (Int.toNat a.x5))])))) else none) else none) else (some (.inl (Jg.mk a.x0 (w64 (a.x5 + 1)) (w64 (a.x5 + 1)) a.r0)))) else (bif (decide (0 ≤ a.x5 ∧ a.x5 < ((a.x0.size : Nat) : Int))) then (bif (((a.x0.data.getD (Int.toNat a.x5) 0).toNat : Int) == 32) then (bif (decide (a.x5 > a.x4)) then (bif (decide (0 ≤ a.x4 ∧ a.x4 ≤ a.x5 ∧ a.x5 ≤ ((a.x0.size : Nat) : Int))) then (bif (decide ((a.r0.length + [(a.x0.extract (Int.toNat a.x4) (Int.toNat a.x5))].length) * 16 ≤ most)) then (some (.inl (Jg.mk a.x0 (w64 (a.x5 + 1)) (w64 (a.x5 + 1)) (a.r0 ++ [(a.x0.extract (Int.toNat a.x4) (Int.toNat a.x5))])))) else none) else none) else (some (.inl (Jg.mk a.x0 (w64 (a.x5 + 1)) (w64 (a.x5 + 1)) a.r0)))) else (some (.inl (Jg.mk a.x0 a.x4 (w64 (a.x5 + 1)) a.r0)))) else none)) else (some (.inr a.r0)))
noncomputable def WD.s (k : Nat) : Zb := iter (FB ) k
theorem WD.cv (a : Jg) : Cv (fun k => WD.s k a) (loopW (FB ) a) := Cv.iter (fun a => by exact .const _) a
noncomputable def WD : Zb := loopW (FB )
noncomputable abbrev Qhn {ρ R : Type} (a : Jg) (k0 : (List ByteArray) → Tr ρ R) : Tr ρ R := .loop (loopAt pp 36 4) (Xe a) (WD a) FA k0
noncomputable def Qho (a : Jg) : Tr (Jg ⊕ (List ByteArray)) XS := (.as (decide (a.x5 ≤ (zz a.x0))) (let u9 := (a.x5 == (zz a.x0)); .as u9 (yesN 4 u9 (.yes true (.as (decide (a.x5 > a.x4)) (.as (in2 a.x4 a.x5 (zz a.x0)) (.rows [[xs (cu a.x0 a.x4 a.x5)]] (Qc [(cu a.x0 a.x4 a.x5)]) (.yes (decide ((Qc [(cu a.x0 a.x4 a.x5)]).all (fun r => r.length == 1) = true)) (.ask (decide (((Qc a.r0).length + (Qc [(cu a.x0 a.x4 a.x5)]).length) * 16 ≤ most)) (decide ((a.r0.length + [(cu a.x0 a.x4 a.x5)].length) * 16 ≤ most)) (.rows ((Qc a.r0) ++ (Qc [(cu a.x0 a.x4 a.x5)])) (Qc (a.r0 ++ [(cu a.x0 a.x4 a.x5)])) (lf Xe (Jg.mk a.x0 (w64 (a.x5 + 1)) (w64 (a.x5 + 1)) (a.r0 ++ [(cu a.x0 a.x4 a.x5)])))) .fail))) .fail) (lf Xe (Jg.mk a.x0 (w64 (a.x5 + 1)) (w64 (a.x5 + 1)) a.r0))))) (noN 2 u9 (.as (in1 a.x5 (zz a.x0)) (noN 2 u9 (.as ((gb a.x0 a.x5) == 32) (.as (decide (a.x5 > a.x4)) (.as (in2 a.x4 a.x5 (zz a.x0)) (.rows [[xs (cu a.x0 a.x4 a.x5)]] (Qc [(cu a.x0 a.x4 a.x5)]) (.yes (decide ((Qc [(cu a.x0 a.x4 a.x5)]).all (fun r => r.length == 1) = true)) (.ask (decide (((Qc a.r0).length + (Qc [(cu a.x0 a.x4 a.x5)]).length) * 16 ≤ most)) (decide ((a.r0.length + [(cu a.x0 a.x4 a.x5)].length) * 16 ≤ most)) (.rows ((Qc a.r0) ++ (Qc [(cu a.x0 a.x4 a.x5)])) (Qc (a.r0 ++ [(cu a.x0 a.x4 a.x5)])) (lf Xe (Jg.mk a.x0 (w64 (a.x5 + 1)) (w64 (a.x5 + 1)) (a.r0 ++ [(cu a.x0 a.x4 a.x5)])))) .fail))) .fail) (lf Xe (Jg.mk a.x0 (w64 (a.x5 + 1)) (w64 (a.x5 + 1)) a.r0))) (lf Xe (Jg.mk a.x0 a.x4 (w64 (a.x5 + 1)) a.r0)))) .fail))) (rx FA a.r0))
theorem WD.ok {a : Jg} {r : (List ByteArray)} (h : WD a = some r) : lw 0 36 (loopAt pp 36 4) (Xe a) = some (FA r) := by
 refine lpP h Qho fun a => ?_
 exact ⟨rfl,fun q0 => ⟨rfl,fun q1 => Qh 4 (q1) (⟨rfl,⟨rfl,fun q2 => ⟨rfl,fun q3 => ⟨(QY [(a.x0.extract (Int.toNat a.x4) (Int.toNat a.x5))]),⟨(decide_eq_true (Jn _)),⟨(by rw [Qk,Qk]),fun q4 => ⟨(JD _ _),rfl⟩,fun q4 => trivial⟩⟩⟩,fun q3 => trivial⟩,fun q2 => rfl⟩⟩),fun q1 => noN_ok 2 (q1) (⟨rfl,fun q2 => noN_ok 2 (q1) (⟨rfl,fun q3 => ⟨rfl,fun q4 => ⟨rfl,fun q5 => ⟨(QY [(a.x0.extract (Int.toNat a.x4) (Int.toNat a.x5))]),⟨(decide_eq_true (Jn _)),⟨(by rw [Qk,Qk]),fun q6 => ⟨(JD _ _),rfl⟩,fun q6 => trivial⟩⟩⟩,fun q5 => trivial⟩,fun q4 => rfl⟩,fun q3 => rfl⟩),fun q2 => trivial⟩)⟩,fun q0 => rfl⟩
def GM (L0 : Zb) (a0 : ByteArray) : Option (List ByteArray) := ((L0 (Jg.mk a0 (0 : Int) (0 : Int) ([] : List ByteArray))).bind (fun (o1 : (List ByteArray)) => (some o1)))
theorem Qlu {L0 : Nat → Zb} {M0 : Zb} (N0 : Cv1 L0 M0) (a0 : ByteArray) : Cv (fun k => GM (L0 k) a0) (GM M0 a0) := by
 unfold GM
 exact .bind (N0 _) (fun o1 => by exact .const _)
noncomputable def JF : Fg := GM WD
noncomputable def Qlv (a0 : ByteArray) : Tr (List ByteArray) AH := (Qhn (Jg.mk a0 i0 i0 ([] : List ByteArray)) (fun o1 => (rt J3 o1)))
theorem JF.ok {a0 : ByteArray} {r : (List ByteArray)} (h : JF a0 = some r) : ww 36 [xs a0] [] = some (J3 r) := by
 refine fnP (Qlv a0) ?_ h
 exact fun o1 h => ⟨WD.ok h,rfl⟩
noncomputable abbrev FZ {ρ R : Type} (a0 : ByteArray) (k : (List ByteArray) → Tr ρ R) : Tr ρ R := .call (ww 36 [xs a0] []) (JF a0) J3 k
noncomputable def JF.s : Nat → ByteArray → Option (List ByteArray)
 | 0,_ => none
 | k + 1,a0 => GM (WD.s k) a0
theorem JF.cv (a0 : ByteArray) : Cv (fun k => JF.s k a0) (JF a0) := .un rfl (Qlu WD.cv a0)
abbrev QdA := ByteArray → Int → Option Int
def GN (C0 : QaP) (a0 : ByteArray) (a1 : Int) : Option Int := ((C0 a1 (9 : Int)).bind fun r1 => (bif (eqS a0 s_X) then (bif (decide (0 ≤ r1 ∧ r1 < (([(0 : Int),(1 : Int),(7 : Int),(24 : Int),(31 : Int),(5 : Int),(28 : Int),(3 : Int),(30 : Int)].length : Nat) : Int))) then (([(0 : Int),(1 : Int),(7 : Int),(24 : Int),(31 : Int),(5 : Int),(28 : Int),(3 : Int),(30 : Int)][(Int.toNat r1)]?).bind fun e2 => (some e2)) else none) else (bif (eqS a0 s_Y) then (bif (decide (0 ≤ r1 ∧ r1 < (([(0 : Int),(1 : Int),(7 : Int),(24 : Int),(31 : Int),(5 : Int),(28 : Int),(3 : Int),(30 : Int)].length : Nat) : Int))) then (([(0 : Int),(1 : Int),(7 : Int),(24 : Int),(31 : Int),(5 : Int),(28 : Int),(3 : Int),(30 : Int)][(Int.toNat r1)]?).bind fun e3 => (some e3)) else none) else (bif (eqS a0 s_D) then (bif (decide (0 ≤ r1 ∧ r1 < (([(0 : Int),(31 : Int),(1 : Int),(15 : Int),(16 : Int),(7 : Int),(30 : Int),(12 : Int),(3 : Int)].length : Nat) : Int))) then (([(0 : Int),(31 : Int),(1 : Int),(15 : Int),(16 : Int),(7 : Int),(30 : Int),(12 : Int),(3 : Int)][(Int.toNat r1)]?).bind fun e4 => (some e4)) else none) else (bif (eqS a0 s_A) then (bif (decide (0 ≤ r1 ∧ r1 < (([(0 : Int),(31 : Int),(1 : Int),(15 : Int),(16 : Int),(7 : Int),(30 : Int),(12 : Int),(3 : Int)].length : Nat) : Int))) then (([(0 : Int),(31 : Int),(1 : Int),(15 : Int),(16 : Int),(7 : Int),(30 : Int),(12 : Int),(3 : Int)][(Int.toNat r1)]?).bind fun e5 => (some e5)) else none) else (bif (eqS a0 s_B) then (bif (decide (0 ≤ r1 ∧ r1 < (([(0 : Int),(31 : Int),(1 : Int),(15 : Int),(16 : Int),(7 : Int),(30 : Int),(12 : Int),(3 : Int)].length : Nat) : Int))) then (([(0 : Int),(31 : Int),(1 : Int),(15 : Int),(16 : Int),(7 : Int),(30 : Int),(12 : Int),(3 : Int)][(Int.toNat r1)]?).bind fun e6 => (some e6)) else none) else (bif (eqS a0 s_U5) then (bif (decide (0 ≤ r1 ∧ r1 < (([(0 : Int),(31 : Int),(1 : Int),(15 : Int),(16 : Int),(7 : Int),(30 : Int),(12 : Int),(3 : Int)].length : Nat) : Int))) then (([(0 : Int),(31 : Int),(1 : Int),(15 : Int),(16 : Int),(7 : Int),(30 : Int),(12 : Int),(3 : Int)][(Int.toNat r1)]?).bind fun e7 => (some e7)) else none) else (bif (eqS a0 s_U7) then (bif (decide (0 ≤ r1 ∧ r1 < (([(0 : Int),(127 : Int),(64 : Int),(1 : Int),(63 : Int),(100 : Int),(7 : Int),(15 : Int),(16 : Int)].length : Nat) : Int))) then (([(0 : Int),(127 : Int),(64 : Int),(1 : Int),(63 : Int),(100 : Int),(7 : Int),(15 : Int),(16 : Int)][(Int.toNat r1)]?).bind fun e8 => (some e8)) else none) else (bif (eqS a0 s_O5) then (bif (decide (0 ≤ r1 ∧ r1 < (([(1 : Int),(32 : Int),(2 : Int),(16 : Int),(31 : Int),(17 : Int),(8 : Int),(5 : Int),(30 : Int)].length : Nat) : Int))) then (([(1 : Int),(32 : Int),(2 : Int),(16 : Int),(31 : Int),(17 : Int),(8 : Int),(5 : Int),(30 : Int)][(Int.toNat r1)]?).bind fun e9 => (some e9)) else none) else (bif (eqS a0 s_M1) then (bif (decide (0 ≤ r1 ∧ r1 < (([(0 : Int),(15 : Int),(1 : Int),(7 : Int),(8 : Int),(4 : Int),(12 : Int),(3 : Int),(14 : Int)].length : Nat) : Int))) then (([(0 : Int),(15 : Int),(1 : Int),(7 : Int),(8 : Int),(4 : Int),(12 : Int),(3 : Int),(14 : Int)][(Int.toNat r1)]?).bind fun e10 => (some e10)) else none) else (bif (eqS a0 s_I4) then (bif (decide (0 ≤ r1 ∧ r1 < (([(0 : Int),(15 : Int),(1 : Int),(7 : Int),(8 : Int),(4 : Int),(12 : Int),(3 : Int),(14 : Int)].length : Nat) : Int))) then (([(0 : Int),(15 : Int),(1 : Int),(7 : Int),(8 : Int),(4 : Int),(12 : Int),(3 : Int),(14 : Int)][(Int.toNat r1)]?).bind fun e11 => (some e11)) else none) else (bif (eqS a0 s_M2) then (bif (decide (0 ≤ r1 ∧ r1 < (([(0 : Int),(15 : Int),(1 : Int),(7 : Int),(8 : Int),(4 : Int),(12 : Int),(3 : Int),(14 : Int)].length : Nat) : Int))) then (([(0 : Int),(15 : Int),(1 : Int),(7 : Int),(8 : Int),(4 : Int),(12 : Int),(3 : Int),(14 : Int)][(Int.toNat r1)]?).bind fun e12 => (some (w64 ((2 : Int) * e12)))) else none) else (bif (eqS a0 s_M4) then (bif (decide (0 ≤ r1 ∧ r1 < (([(0 : Int),(15 : Int),(1 : Int),(7 : Int),(8 : Int),(4 : Int),(12 : Int),(3 : Int),(14 : Int)].length : Nat) : Int))) then (([(0 : Int),(15 : Int),(1 : Int),(7 : Int),(8 : Int),(4 : Int),(12 : Int),(3 : Int),(14 : Int)][(Int.toNat r1)]?).bind fun e13 => (some (w64 ((4 : Int) * e13)))) else none) else (bif (eqS a0 s_O1) then ((C0 a1 (2 : Int)).bind fun r14 => (some r14)) else (bif (eqS a0 s_I2) then ((C0 a1 (4 : Int)).bind fun r15 => (some r15)) else (bif (eqS a0 s_O2) then ((C0 a1 (4 : Int)).bind fun r16 => (some r16)) else (bif (eqS a0 s_T8) then ((C0 a1 (256 : Int)).bind fun r17 => (some (w64 ((2 : Int) * (w64 (r17 - 128)))))) else (bif (eqS a0 VZ) then (bif (decide (0 ≤ r1 ∧ r1 < (([(0 : Int),(32767 : Int),(-32768 : Int),(-1 : Int),(1 : Int),(255 : Int),(-256 : Int),(4660 : Int),(-4660 : Int)].length : Nat) : Int))) then (([(0 : Int),(32767 : Int),(-32768 : Int),(-1 : Int),(1 : Int),(255 : Int),(-256 : Int),(4660 : Int),(-4660 : Int)][(Int.toNat r1)]?).bind fun e18 => (some e18)) else none) else (bif (eqS a0 VY) then ((C0 a1 (1048576 : Int)).bind fun r19 => (some (w64 (r19 - 524288)))) else (bif (eqS a0 V0) then ((C0 a1 (32768 : Int)).bind fun r20 => (some (w64 ((2 : Int) * (w64 (r20 - 16384)))))) else (bif (eqS a0 Ue) then ((C0 a1 (16777216 : Int)).bind fun r21 => (some (w64 ((2 : Int) * (w64 (r21 - 8388608)))))) else (bif (decide (0 ≤ r1 ∧ r1 < (([(0 : Int),(255 : Int),(256 : Int),(65280 : Int),(-1 : Int),(-2 : Int),(16711680 : Int),(-256 : Int),(2130706432 : Int)].length : Nat) : Int))) then (([(0 : Int),(255 : Int),(256 : Int),(65280 : Int),(-1 : Int),(-2 : Int),(16711680 : Int),(-256 : Int),(2130706432 : Int)][(Int.toNat r1)]?).bind fun e22 => (some e22)) else none))))))))))))))))))))))
noncomputable def Vy : QdA := GN JM
theorem Vy.eq (a0 : ByteArray) (a1 : Int) : Vy a0 a1 = GN JM a0 a1 := rfl
noncomputable def Qiq (a0 : ByteArray) (a1 : Int) : Tr Int AH := (W4 a1 (zi 9) fun r1 => (let u15 := (eqS a0 s_X); .as u15 (.yes u15 (.rows [[xi i0],[xi (zi 1)],[xi (zi 7)],[xi (zi 24)],[xi (zi 31)],[xi (zi 5)],[xi (zi 28)],[xi (zi 3)],[xi (zi 30)]] (Qr [i0,(zi 1),(zi 7),(zi 24),(zi 31),(zi 5),(zi 28),(zi 3),(zi 30)]) (.ask (in1 r1 (((Qr [i0,(zi 1),(zi 7),(zi 24),(zi 31),(zi 5),(zi 28),(zi 3),(zi 30)]).length : Nat) : Int)) (in1 r1 (([i0,(zi 1),(zi 7),(zi 24),(zi 31),(zi 5),(zi 28),(zi 3),(zi 30)].length : Nat) : Int)) (.row ((Qr [i0,(zi 1),(zi 7),(zi 24),(zi 31),(zi 5),(zi 28),(zi 3),(zi 30)])[(Int.toNat r1)]?) ([i0,(zi 1),(zi 7),(zi 24),(zi 31),(zi 5),(zi 28),(zi 3),(zi 30)][(Int.toNat r1)]?) VX fun (e2 : Int) => (rt Qe e2)) .fail))) (.as (eqS a0 s_Y) (.rows [[xi i0],[xi (zi 1)],[xi (zi 7)],[xi (zi 24)],[xi (zi 31)],[xi (zi 5)],[xi (zi 28)],[xi (zi 3)],[xi (zi 30)]] (Qr [i0,(zi 1),(zi 7),(zi 24),(zi 31),(zi 5),(zi 28),(zi 3),(zi 30)]) (.ask (in1 r1 (((Qr [i0,(zi 1),(zi 7),(zi 24),(zi 31),(zi 5),(zi 28),(zi 3),(zi 30)]).length : Nat) : Int)) (in1 r1 (([i0,(zi 1),(zi 7),(zi 24),(zi 31),(zi 5),(zi 28),(zi 3),(zi 30)].length : Nat) : Int)) (.row ((Qr [i0,(zi 1),(zi 7),(zi 24),(zi 31),(zi 5),(zi 28),(zi 3),(zi 30)])[(Int.toNat r1)]?) ([i0,(zi 1),(zi 7),(zi 24),(zi 31),(zi 5),(zi 28),(zi 3),(zi 30)][(Int.toNat r1)]?) VX fun (e3 : Int) => (rt Qe e3)) .fail)) (let u14 := (eqS a0 s_D); .as u14 (.yes u14 (.rows [[xi i0],[xi (zi 31)],[xi (zi 1)],[xi (zi 15)],[xi (zi 16)],[xi (zi 7)],[xi (zi 30)],[xi (zi 12)],[xi (zi 3)]] (Qr [i0,(zi 31),(zi 1),(zi 15),(zi 16),(zi 7),(zi 30),(zi 12),(zi 3)]) (.ask (in1 r1 (((Qr [i0,(zi 31),(zi 1),(zi 15),(zi 16),(zi 7),(zi 30),(zi 12),(zi 3)]).length : Nat) : Int)) (in1 r1 (([i0,(zi 31),(zi 1),(zi 15),(zi 16),(zi 7),(zi 30),(zi 12),(zi 3)].length : Nat) : Int)) (.row ((Qr [i0,(zi 31),(zi 1),(zi 15),(zi 16),(zi 7),(zi 30),(zi 12),(zi 3)])[(Int.toNat r1)]?) ([i0,(zi 31),(zi 1),(zi 15),(zi 16),(zi 7),(zi 30),(zi 12),(zi 3)][(Int.toNat r1)]?) VX fun (e4 : Int) => (rt Qe e4)) .fail))) (let u13 := (eqS a0 s_A); .as u13 (.yes u13 (.rows [[xi i0],[xi (zi 31)],[xi (zi 1)],[xi (zi 15)],[xi (zi 16)],[xi (zi 7)],[xi (zi 30)],[xi (zi 12)],[xi (zi 3)]] (Qr [i0,(zi 31),(zi 1),(zi 15),(zi 16),(zi 7),(zi 30),(zi 12),(zi 3)]) (.ask (in1 r1 (((Qr [i0,(zi 31),(zi 1),(zi 15),(zi 16),(zi 7),(zi 30),(zi 12),(zi 3)]).length : Nat) : Int)) (in1 r1 (([i0,(zi 31),(zi 1),(zi 15),(zi 16),(zi 7),(zi 30),(zi 12),(zi 3)].length : Nat) : Int)) (.row ((Qr [i0,(zi 31),(zi 1),(zi 15),(zi 16),(zi 7),(zi 30),(zi 12),(zi 3)])[(Int.toNat r1)]?) ([i0,(zi 31),(zi 1),(zi 15),(zi 16),(zi 7),(zi 30),(zi 12),(zi 3)][(Int.toNat r1)]?) VX fun (e5 : Int) => (rt Qe e5)) .fail))) (let u12 := (eqS a0 s_B); .as u12 (.yes u12 (.rows [[xi i0],[xi (zi 31)],[xi (zi 1)],[xi (zi 15)],[xi (zi 16)],[xi (zi 7)],[xi (zi 30)],[xi (zi 12)],[xi (zi 3)]] (Qr [i0,(zi 31),(zi 1),(zi 15),(zi 16),(zi 7),(zi 30),(zi 12),(zi 3)]) (.ask (in1 r1 (((Qr [i0,(zi 31),(zi 1),(zi 15),(zi 16),(zi 7),(zi 30),(zi 12),(zi 3)]).length : Nat) : Int)) (in1 r1 (([i0,(zi 31),(zi 1),(zi 15),(zi 16),(zi 7),(zi 30),(zi 12),(zi 3)].length : Nat) : Int)) (.row ((Qr [i0,(zi 31),(zi 1),(zi 15),(zi 16),(zi 7),(zi 30),(zi 12),(zi 3)])[(Int.toNat r1)]?) ([i0,(zi 31),(zi 1),(zi 15),(zi 16),(zi 7),(zi 30),(zi 12),(zi 3)][(Int.toNat r1)]?) VX fun (e6 : Int) => (rt Qe e6)) .fail))) (.as (eqS a0 s_U5) (.rows [[xi i0],[xi (zi 31)],[xi (zi 1)],[xi (zi 15)],[xi (zi 16)],[xi (zi 7)],[xi (zi 30)],[xi (zi 12)],[xi (zi 3)]] (Qr [i0,(zi 31),(zi 1),(zi 15),(zi 16),(zi 7),(zi 30),(zi 12),(zi 3)]) (.ask (in1 r1 (((Qr [i0,(zi 31),(zi 1),(zi 15),(zi 16),(zi 7),(zi 30),(zi 12),(zi 3)]).length : Nat) : Int)) (in1 r1 (([i0,(zi 31),(zi 1),(zi 15),(zi 16),(zi 7),(zi 30),(zi 12),(zi 3)].length : Nat) : Int)) (.row ((Qr [i0,(zi 31),(zi 1),(zi 15),(zi 16),(zi 7),(zi 30),(zi 12),(zi 3)])[(Int.toNat r1)]?) ([i0,(zi 31),(zi 1),(zi 15),(zi 16),(zi 7),(zi 30),(zi 12),(zi 3)][(Int.toNat r1)]?) VX fun (e7 : Int) => (rt Qe e7)) .fail)) (.as (eqS a0 s_U7) (.rows [[xi i0],[xi (zi 127)],[xi (zi 64)],[xi (zi 1)],[xi (zi 63)],[xi (zi 100)],[xi (zi 7)],[xi (zi 15)],[xi (zi 16)]] (Qr [i0,(zi 127),(zi 64),(zi 1),(zi 63),(zi 100),(zi 7),(zi 15),(zi 16)]) (.ask (in1 r1 (((Qr [i0,(zi 127),(zi 64),(zi 1),(zi 63),(zi 100),(zi 7),(zi 15),(zi 16)]).length : Nat) : Int)) (in1 r1 (([i0,(zi 127),(zi 64),(zi 1),(zi 63),(zi 100),(zi 7),(zi 15),(zi 16)].length : Nat) : Int)) (.row ((Qr [i0,(zi 127),(zi 64),(zi 1),(zi 63),(zi 100),(zi 7),(zi 15),(zi 16)])[(Int.toNat r1)]?) ([i0,(zi 127),(zi 64),(zi 1),(zi 63),(zi 100),(zi 7),(zi 15),(zi 16)][(Int.toNat r1)]?) VX fun (e8 : Int) => (rt Qe e8)) .fail)) (.as (eqS a0 s_O5) (.rows [[xi (zi 1)],[xi (zi 32)],[xi (zi 2)],[xi (zi 16)],[xi (zi 31)],[xi (zi 17)],[xi (zi 8)],[xi (zi 5)],[xi (zi 30)]] (Qr [(zi 1),(zi 32),(zi 2),(zi 16),(zi 31),(zi 17),(zi 8),(zi 5),(zi 30)]) (.ask (in1 r1 (((Qr [(zi 1),(zi 32),(zi 2),(zi 16),(zi 31),(zi 17),(zi 8),(zi 5),(zi 30)]).length : Nat) : Int)) (in1 r1 (([(zi 1),(zi 32),(zi 2),(zi 16),(zi 31),(zi 17),(zi 8),(zi 5),(zi 30)].length : Nat) : Int)) (.row ((Qr [(zi 1),(zi 32),(zi 2),(zi 16),(zi 31),(zi 17),(zi 8),(zi 5),(zi 30)])[(Int.toNat r1)]?) ([(zi 1),(zi 32),(zi 2),(zi 16),(zi 31),(zi 17),(zi 8),(zi 5),(zi 30)][(Int.toNat r1)]?) VX fun (e9 : Int) => (rt Qe e9)) .fail)) (let u11 := (eqS a0 s_M1); .as u11 (.yes u11 (.rows [[xi i0],[xi (zi 15)],[xi (zi 1)],[xi (zi 7)],[xi (zi 8)],[xi (zi 4)],[xi (zi 12)],[xi (zi 3)],[xi (zi 14)]] (Qr [i0,(zi 15),(zi 1),(zi 7),(zi 8),(zi 4),(zi 12),(zi 3),(zi 14)]) (.ask (in1 r1 (((Qr [i0,(zi 15),(zi 1),(zi 7),(zi 8),(zi 4),(zi 12),(zi 3),(zi 14)]).length : Nat) : Int)) (in1 r1 (([i0,(zi 15),(zi 1),(zi 7),(zi 8),(zi 4),(zi 12),(zi 3),(zi 14)].length : Nat) : Int)) (.row ((Qr [i0,(zi 15),(zi 1),(zi 7),(zi 8),(zi 4),(zi 12),(zi 3),(zi 14)])[(Int.toNat r1)]?) ([i0,(zi 15),(zi 1),(zi 7),(zi 8),(zi 4),(zi 12),(zi 3),(zi 14)][(Int.toNat r1)]?) VX fun (e10 : Int) => (rt Qe e10)) .fail))) (.as (eqS a0 s_I4) (.rows [[xi i0],[xi (zi 15)],[xi (zi 1)],[xi (zi 7)],[xi (zi 8)],[xi (zi 4)],[xi (zi 12)],[xi (zi 3)],[xi (zi 14)]] (Qr [i0,(zi 15),(zi 1),(zi 7),(zi 8),(zi 4),(zi 12),(zi 3),(zi 14)]) (.ask (in1 r1 (((Qr [i0,(zi 15),(zi 1),(zi 7),(zi 8),(zi 4),(zi 12),(zi 3),(zi 14)]).length : Nat) : Int)) (in1 r1 (([i0,(zi 15),(zi 1),(zi 7),(zi 8),(zi 4),(zi 12),(zi 3),(zi 14)].length : Nat) : Int)) (.row ((Qr [i0,(zi 15),(zi 1),(zi 7),(zi 8),(zi 4),(zi 12),(zi 3),(zi 14)])[(Int.toNat r1)]?) ([i0,(zi 15),(zi 1),(zi 7),(zi 8),(zi 4),(zi 12),(zi 3),(zi 14)][(Int.toNat r1)]?) VX fun (e11 : Int) => (rt Qe e11)) .fail)) (.as (eqS a0 s_M2) (.rows [[xi i0],[xi (zi 15)],[xi (zi 1)],[xi (zi 7)],[xi (zi 8)],[xi (zi 4)],[xi (zi 12)],[xi (zi 3)],[xi (zi 14)]] (Qr [i0,(zi 15),(zi 1),(zi 7),(zi 8),(zi 4),(zi 12),(zi 3),(zi 14)]) (.ask (in1 r1 (((Qr [i0,(zi 15),(zi 1),(zi 7),(zi 8),(zi 4),(zi 12),(zi 3),(zi 14)]).length : Nat) : Int)) (in1 r1 (([i0,(zi 15),(zi 1),(zi 7),(zi 8),(zi 4),(zi 12),(zi 3),(zi 14)].length : Nat) : Int)) (.row ((Qr [i0,(zi 15),(zi 1),(zi 7),(zi 8),(zi 4),(zi 12),(zi 3),(zi 14)])[(Int.toNat r1)]?) ([i0,(zi 15),(zi 1),(zi 7),(zi 8),(zi 4),(zi 12),(zi 3),(zi 14)][(Int.toNat r1)]?) VX fun (e12 : Int) => (rt Qe (w64 ((zi 2) * e12)))) .fail)) (.as (eqS a0 s_M4) (.rows [[xi i0],[xi (zi 15)],[xi (zi 1)],[xi (zi 7)],[xi (zi 8)],[xi (zi 4)],[xi (zi 12)],[xi (zi 3)],[xi (zi 14)]] (Qr [i0,(zi 15),(zi 1),(zi 7),(zi 8),(zi 4),(zi 12),(zi 3),(zi 14)]) (.ask (in1 r1 (((Qr [i0,(zi 15),(zi 1),(zi 7),(zi 8),(zi 4),(zi 12),(zi 3),(zi 14)]).length : Nat) : Int)) (in1 r1 (([i0,(zi 15),(zi 1),(zi 7),(zi 8),(zi 4),(zi 12),(zi 3),(zi 14)].length : Nat) : Int)) (.row ((Qr [i0,(zi 15),(zi 1),(zi 7),(zi 8),(zi 4),(zi 12),(zi 3),(zi 14)])[(Int.toNat r1)]?) ([i0,(zi 15),(zi 1),(zi 7),(zi 8),(zi 4),(zi 12),(zi 3),(zi 14)][(Int.toNat r1)]?) VX fun (e13 : Int) => (rt Qe (w64 ((zi 4) * e13)))) .fail)) (.as (eqS a0 s_O1) (W4 a1 (zi 2) fun r14 => (rt Qe r14)) (let u10 := (eqS a0 s_I2); .as u10 (.yes u10 (W4 a1 (zi 4) fun r15 => (rt Qe r15))) (.as (eqS a0 s_O2) (W4 a1 (zi 4) fun r16 => (rt Qe r16)) (.as (eqS a0 s_T8) (W4 a1 (zi 256) fun r17 => (rt Qe (w64 ((zi 2) * (w64 (r17 - 128)))))) (.as (eqS a0 VZ) (.rows [[xi i0],[xi (zi 32767)],[xi (-32768 : Int)],[xi (-1 : Int)],[xi (zi 1)],[xi (zi 255)],[xi (-256 : Int)],[xi (zi 4660)],[xi (-4660 : Int)]] (Qr [i0,(zi 32767),(-32768 : Int),(-1 : Int),(zi 1),(zi 255),(-256 : Int),(zi 4660),(-4660 : Int)]) (.ask (in1 r1 (((Qr [i0,(zi 32767),(-32768 : Int),(-1 : Int),(zi 1),(zi 255),(-256 : Int),(zi 4660),(-4660 : Int)]).length : Nat) : Int)) (in1 r1 (([i0,(zi 32767),(-32768 : Int),(-1 : Int),(zi 1),(zi 255),(-256 : Int),(zi 4660),(-4660 : Int)].length : Nat) : Int)) (.row ((Qr [i0,(zi 32767),(-32768 : Int),(-1 : Int),(zi 1),(zi 255),(-256 : Int),(zi 4660),(-4660 : Int)])[(Int.toNat r1)]?) ([i0,(zi 32767),(-32768 : Int),(-1 : Int),(zi 1),(zi 255),(-256 : Int),(zi 4660),(-4660 : Int)][(Int.toNat r1)]?) VX fun (e18 : Int) => (rt Qe e18)) .fail)) (.as (eqS a0 VY) (W4 a1 (zi 1048576) fun r19 => (rt Qe (w64 (r19 - 524288)))) (.as (eqS a0 V0) (W4 a1 (zi 32768) fun r20 => (rt Qe (w64 ((zi 2) * (w64 (r20 - 16384)))))) (.as (eqS a0 Ue) (W4 a1 (zi 16777216) fun r21 => (rt Qe (w64 ((zi 2) * (w64 (r21 - 8388608)))))) (.rows [[xi i0],[xi (zi 255)],[xi (zi 256)],[xi (zi 65280)],[xi (-1 : Int)],[xi (-2 : Int)],[xi (zi 16711680)],[xi (-256 : Int)],[xi (zi 2130706432)]] (Qr [i0,(zi 255),(zi 256),(zi 65280),(-1 : Int),(-2 : Int),(zi 16711680),(-256 : Int),(zi 2130706432)]) (.ask (in1 r1 (((Qr [i0,(zi 255),(zi 256),(zi 65280),(-1 : Int),(-2 : Int),(zi 16711680),(-256 : Int),(zi 2130706432)]).length : Nat) : Int)) (in1 r1 (([i0,(zi 255),(zi 256),(zi 65280),(-1 : Int),(-2 : Int),(zi 16711680),(-256 : Int),(zi 2130706432)].length : Nat) : Int)) (.row ((Qr [i0,(zi 255),(zi 256),(zi 65280),(-1 : Int),(-2 : Int),(zi 16711680),(-256 : Int),(zi 2130706432)])[(Int.toNat r1)]?) ([i0,(zi 255),(zi 256),(zi 65280),(-1 : Int),(-2 : Int),(zi 16711680),(-256 : Int),(zi 2130706432)][(Int.toNat r1)]?) VX fun (e22 : Int) => (rt Qe e22)) .fail)))))))))))))))))))))))
theorem Vy.ok {a0 : ByteArray} {a1 : Int} {r : Int} (h : Vy a0 a1 = some r) : ww 85 [xs a0,xi a1] [] = some (Qe r) := by
 refine fnP (Qiq a0 a1) ?_ h
 exact fun r1 h => ⟨JM.ok h,⟨rfl,fun q0 => ⟨q0,⟨(JT [(0 : Int),(1 : Int),(7 : Int),(24 : Int),(31 : Int),(5 : Int),(28 : Int),(3 : Int),(30 : Int)]),⟨(by rw [Js]),fun q1 => fun e2 h => ⟨J6 h,rfl⟩,fun q1 => trivial⟩⟩⟩,fun q0 => ⟨rfl,fun q1 => ⟨(JT [(0 : Int),(1 : Int),(7 : Int),(24 : Int),(31 : Int),(5 : Int),(28 : Int),(3 : Int),(30 : Int)]),⟨(by rw [Js]),fun q2 => fun e3 h => ⟨J6 h,rfl⟩,fun q2 => trivial⟩⟩,fun q1 => ⟨rfl,fun q2 => ⟨q2,⟨(JT [(0 : Int),(31 : Int),(1 : Int),(15 : Int),(16 : Int),(7 : Int),(30 : Int),(12 : Int),(3 : Int)]),⟨(by rw [Js]),fun q3 => fun e4 h => ⟨J6 h,rfl⟩,fun q3 => trivial⟩⟩⟩,fun q2 => ⟨rfl,fun q3 => ⟨q3,⟨(JT [(0 : Int),(31 : Int),(1 : Int),(15 : Int),(16 : Int),(7 : Int),(30 : Int),(12 : Int),(3 : Int)]),⟨(by rw [Js]),fun q4 => fun e5 h => ⟨J6 h,rfl⟩,fun q4 => trivial⟩⟩⟩,fun q3 => ⟨rfl,fun q4 => ⟨q4,⟨(JT [(0 : Int),(31 : Int),(1 : Int),(15 : Int),(16 : Int),(7 : Int),(30 : Int),(12 : Int),(3 : Int)]),⟨(by rw [Js]),fun q5 => fun e6 h => ⟨J6 h,rfl⟩,fun q5 => trivial⟩⟩⟩,fun q4 => ⟨rfl,fun q5 => ⟨(JT [(0 : Int),(31 : Int),(1 : Int),(15 : Int),(16 : Int),(7 : Int),(30 : Int),(12 : Int),(3 : Int)]),⟨(by rw [Js]),fun q6 => fun e7 h => ⟨J6 h,rfl⟩,fun q6 => trivial⟩⟩,fun q5 => ⟨rfl,fun q6 => ⟨(JT [(0 : Int),(127 : Int),(64 : Int),(1 : Int),(63 : Int),(100 : Int),(7 : Int),(15 : Int),(16 : Int)]),⟨(by rw [Js]),fun q7 => fun e8 h => ⟨J6 h,rfl⟩,fun q7 => trivial⟩⟩,fun q6 => ⟨rfl,fun q7 => ⟨(JT [(1 : Int),(32 : Int),(2 : Int),(16 : Int),(31 : Int),(17 : Int),(8 : Int),(5 : Int),(30 : Int)]),⟨(by rw [Js]),fun q8 => fun e9 h => ⟨J6 h,rfl⟩,fun q8 => trivial⟩⟩,fun q7 => ⟨rfl,fun q8 => ⟨q8,⟨(JT [(0 : Int),(15 : Int),(1 : Int),(7 : Int),(8 : Int),(4 : Int),(12 : Int),(3 : Int),(14 : Int)]),⟨(by rw [Js]),fun q9 => fun e10 h => ⟨J6 h,rfl⟩,fun q9 => trivial⟩⟩⟩,fun q8 => ⟨rfl,fun q9 => ⟨(JT [(0 : Int),(15 : Int),(1 : Int),(7 : Int),(8 : Int),(4 : Int),(12 : Int),(3 : Int),(14 : Int)]),⟨(by rw [Js]),fun q10 => fun e11 h => ⟨J6 h,rfl⟩,fun q10 => trivial⟩⟩,fun q9 => ⟨rfl,fun q10 => ⟨(JT [(0 : Int),(15 : Int),(1 : Int),(7 : Int),(8 : Int),(4 : Int),(12 : Int),(3 : Int),(14 : Int)]),⟨(by rw [Js]),fun q11 => fun e12 h => ⟨J6 h,rfl⟩,fun q11 => trivial⟩⟩,fun q10 => ⟨rfl,fun q11 => ⟨(JT [(0 : Int),(15 : Int),(1 : Int),(7 : Int),(8 : Int),(4 : Int),(12 : Int),(3 : Int),(14 : Int)]),⟨(by rw [Js]),fun q12 => fun e13 h => ⟨J6 h,rfl⟩,fun q12 => trivial⟩⟩,fun q11 => ⟨rfl,fun q12 => fun r14 h => ⟨JM.ok h,rfl⟩,fun q12 => ⟨rfl,fun q13 => ⟨q13,fun r15 h => ⟨JM.ok h,rfl⟩⟩,fun q13 => ⟨rfl,fun q14 => fun r16 h => ⟨JM.ok h,rfl⟩,fun q14 => ⟨rfl,fun q15 => fun r17 h => ⟨JM.ok h,rfl⟩,fun q15 => ⟨rfl,fun q16 => ⟨(JT [(0 : Int),(32767 : Int),(-32768 : Int),(-1 : Int),(1 : Int),(255 : Int),(-256 : Int),(4660 : Int),(-4660 : Int)]),⟨(by rw [Js]),fun q17 => fun e18 h => ⟨J6 h,rfl⟩,fun q17 => trivial⟩⟩,fun q16 => ⟨rfl,fun q17 => fun r19 h => ⟨JM.ok h,rfl⟩,fun q17 => ⟨rfl,fun q18 => fun r20 h => ⟨JM.ok h,rfl⟩,fun q18 => ⟨rfl,fun q19 => fun r21 h => ⟨JM.ok h,rfl⟩,fun q19 => ⟨(JT [(0 : Int),(255 : Int),(256 : Int),(65280 : Int),(-1 : Int),(-2 : Int),(16711680 : Int),(-256 : Int),(2130706432 : Int)]),⟨(by rw [Js]),fun q20 => fun e22 h => ⟨J6 h,rfl⟩,fun q20 => trivial⟩⟩⟩⟩⟩⟩⟩⟩⟩⟩⟩⟩⟩⟩⟩⟩⟩⟩⟩⟩⟩⟩⟩
noncomputable abbrev Qch {ρ R : Type} (a0 : ByteArray) (a1 : Int) (k : Int → Tr ρ R) : Tr ρ R := .call (ww 85 [xs a0,xi a1] []) (Vy a0 a1) Qe k
def Qci (r : (Int × (List Int))) : AV × Heap := (.agg [xi r.1,.arr 0],[(0,.arr false 1 (Qr r.2))])
abbrev Qir := Int → (List Int) → Option (Int × (List Int))
structure J8 where
 x1 : (List Int)
 x6 : (List ByteArray)
 x7 : Int
 h0 : Qi
 h1 : Qi
structure Wg where
 h0 : Qi
 h1 : Qi
def GO (a : J8) : St := { n := 43,nx := 4,env := [(1,.sl (Qr a.x1)),(4,.ptr 0 0),(5,.ptr 1 0),(6,.sl (Qc a.x6)),(7,xi a.x7)],heap := [(0,.box [0,101] [xi a.h0.Op,.arr 2]),(1,.box [0,101] [xi a.h1.Op,.arr 3]),(2,.arr false 1 (Qr a.h0.F)),(3,.arr false 1 (Qr a.h1.F))] }
def PB (a : Wg) : Ex × St := (.exit 0,{ n := 43,nx := 4,env := [(4,.ptr 0 0),(5,.ptr 1 0)],heap := [(0,.box [0,101] [xi a.h0.Op,.arr 2]),(1,.box [0,101] [xi a.h1.Op,.arr 3]),(2,.arr false 1 (Qr a.h0.F)),(3,.arr false 1 (Qr a.h1.F))] })
abbrev QdB := J8 → Option Wg
def GP (C0 : QdA) (a : J8) : Option (J8 ⊕ Wg) := (bif (decide (a.x7 < (((a.x6.length) : Nat) : Int))) then (bif (decide (a.x7 < (((a.x1.length) : Nat) : Int))) then (bif (decide (0 ≤ a.x7)) then ((a.x1[(Int.toNat a.x7)]?).bind fun e1 => ((a.x6[(Int.toNat a.x7)]?).bind fun e2 => ((C0 e2 e1).bind fun r3 => (bif (decide ((a.h1.F.length + [r3].length) * 8 ≤ most)) then (some (.inl (J8.mk a.x1 a.x6 (w64 (a.x7 + 1)) a.h0 (Qi.mk a.h1.Op (a.h1.F ++ [r3]))))) else none)))) else none) else (bif (decide (0 ≤ a.x7)) then ((a.x6[(Int.toNat a.x7)]?).bind fun e4 => ((C0 e4 a.x7).bind fun r5 => (bif (decide ((a.h1.F.length + [r5].length) * 8 ≤ most)) then (some (.inl (J8.mk a.x1 a.x6 (w64 (a.x7 + 1)) a.h0 (Qi.mk a.h1.Op (a.h1.F ++ [r5]))))) else none))) else none)) else (some (.inr (Wg.mk a.h0 a.h1))))
noncomputable def V1 : QdB := loopW (GP Vy)
theorem V1.eq (a : J8) : V1 a = (GP Vy a).bind (Sum.elim V1 some) := Jc _ _
noncomputable abbrev Qis {ρ R : Type} (a : J8) (k0 : Wg → Tr ρ R) : Tr ρ R := .loop (loopAt pp 35 4) (GO a) (V1 a) PB k0
noncomputable def Qit (a : J8) : Tr (J8 ⊕ Wg) XS := (.num ((Qc a.x6).length) (a.x6.length) (.as (decide (a.x7 < (((a.x6.length) : Nat) : Int))) (.num ((Qr a.x1).length) (a.x1.length) (.as (decide (a.x7 < (((a.x1.length) : Nat) : Int))) (let u16 := (decide (0 ≤ a.x7)); .as u16 (.row ((Qr a.x1)[(Int.toNat a.x7)]?) (a.x1[(Int.toNat a.x7)]?) VX fun (e1 : Int) => (.yes u16 (.row ((Qc a.x6)[(Int.toNat a.x7)]?) (a.x6[(Int.toNat a.x7)]?) J7 fun (e2 : ByteArray) => (Qch e2 e1 fun r3 => (.rows [[xi r3]] (Qr [r3]) (.yes (decide ((Qr [r3]).all (fun r => r.length == 1) = true)) (.ask (decide (((Qr a.h1.F).length + (Qr [r3]).length) * 8 ≤ most)) (decide ((a.h1.F.length + [r3].length) * 8 ≤ most)) (.rows ((Qr a.h1.F) ++ (Qr [r3])) (Qr (a.h1.F ++ [r3])) (lf GO (J8.mk a.x1 a.x6 (w64 (a.x7 + 1)) a.h0 (Qi.mk a.h1.Op (a.h1.F ++ [r3]))))) .fail))))))) .fail) (.as (decide (0 ≤ a.x7)) (.row ((Qc a.x6)[(Int.toNat a.x7)]?) (a.x6[(Int.toNat a.x7)]?) J7 fun (e4 : ByteArray) => (Qch e4 a.x7 fun r5 => (.rows [[xi r5]] (Qr [r5]) (.yes (decide ((Qr [r5]).all (fun r => r.length == 1) = true)) (.ask (decide (((Qr a.h1.F).length + (Qr [r5]).length) * 8 ≤ most)) (decide ((a.h1.F.length + [r5].length) * 8 ≤ most)) (.rows ((Qr a.h1.F) ++ (Qr [r5])) (Qr (a.h1.F ++ [r5])) (lf GO (J8.mk a.x1 a.x6 (w64 (a.x7 + 1)) a.h0 (Qi.mk a.h1.Op (a.h1.F ++ [r5]))))) .fail))))) .fail))) (rx PB (Wg.mk a.h0 a.h1))))
theorem V1.ok {a : J8} {r : Wg} (h : V1 a = some r) : lw 0 35 (loopAt pp 35 4) (GO a) = some (PB r) := by
 refine lpP h Qit fun a => ?_
 exact ⟨(Qk _),⟨rfl,fun q0 => ⟨(Js _),⟨rfl,fun q1 => ⟨rfl,fun q2 => fun e1 h => ⟨J6 h,⟨q2,fun e2 h => ⟨Jp h,fun r3 h => ⟨Vy.ok h,⟨(JT [r3]),⟨(decide_eq_true (P8 _)),⟨(by rw [Js,Js]),fun q3 => ⟨(Gv _ _),rfl⟩,fun q3 => trivial⟩⟩⟩⟩⟩⟩⟩,fun q2 => trivial⟩,fun q1 => ⟨rfl,fun q2 => fun e4 h => ⟨Jp h,fun r5 h => ⟨Vy.ok h,⟨(JT [r5]),⟨(decide_eq_true (P8 _)),⟨(by rw [Js,Js]),fun q3 => ⟨(Gv _ _),rfl⟩,fun q3 => trivial⟩⟩⟩⟩⟩,fun q2 => trivial⟩⟩⟩,fun q0 => rfl⟩⟩
def Qcj (C0 : QaP) (C1 : Qcg) (C2 : Fg) (L3 : QdB) (a0 : Int) (a1 : (List Int)) : Option (Int × (List Int)) := ((C0 a0 (66 : Int)).bind fun r1 => ((C1 r1).bind fun r2 => ((C2 r2).bind fun r3 => ((L3 (J8.mk a1 r3 (0 : Int) (Qi.mk (0 : Int) ([] : List Int)) (Qi.mk r1 ([] : List Int)))).bind (fun (o4 : Wg) => (some (o4.h1.Op,o4.h1.F)))))))
noncomputable def YP : Qir := Qcj JM Wm JF V1
theorem YP.eq (a0 : Int) (a1 : (List Int)) : YP a0 a1 = Qcj JM Wm JF V1 a0 a1 := rfl
noncomputable def QmM (a0 : Int) (a1 : (List Int)) : Tr (Int × (List Int)) AH := (W4 a0 (zi 66) fun r1 => (QeS r1 fun r2 => (FZ r2 fun r3 => (Qis (J8.mk a1 r3 i0 (Qi.mk i0 ([] : List Int)) (Qi.mk r1 ([] : List Int))) (fun o4 => (rt Qci (o4.h1.Op,o4.h1.F)))))))
theorem YP.ok {a0 : Int} {a1 : (List Int)} {r : (Int × (List Int))} (h : YP a0 a1 = some r) : ww 35 [xi a0,.sl (Qr a1)] [] = some (Qci r) := by
 refine fnP (QmM a0 a1) ?_ h
 exact fun r1 h => ⟨JM.ok h,fun r2 h => ⟨Wm.ok h,fun r3 h => ⟨JF.ok h,fun o4 h => ⟨V1.ok h,rfl⟩⟩⟩⟩
noncomputable abbrev QmN {ρ R : Type} (a0 : Int) (a1 : (List Int)) (k : (Int × (List Int)) → Tr ρ R) : Tr ρ R := .call (ww 35 [xi a0,.sl (Qr a1)] []) (YP a0 a1) Qci k
abbrev QeT := Int → Int → Int → Option Bool
def Qai (a0 : Int) (a1 : Int) (a2 : Int) : Option Bool := (bif (decide (a0 ≥ 0)) then (bif (decide (a0 < (w64 (a1 * a2)))) then (bif (decide (a2 ≠ 0)) then (some ((Int.tmod a0 a2) == 0)) else none) else (some false)) else (some false))
noncomputable def JU : QeT := Qai
theorem JU.eq (a0 : Int) (a1 : Int) (a2 : Int) : JU a0 a1 a2 = Qai a0 a1 a2 := rfl
noncomputable def QpY (a0 : Int) (a1 : Int) (a2 : Int) : Tr Bool AH := (let u18 := (decide (a0 ≥ 0)); .as u18 (yesN 5 u18 (let u17 := (decide (a0 < (w64 (a1 * a2)))); .as u17 (yesN 2 u17 (.as (decide (a2 ≠ 0)) (yesN 2 u17 (rt Qm ((Int.tmod a0 a2) == 0))) .fail)) (noN 4 u17 (rt Qm false)))) (noN 5 u18 (noN 5 false (rt Qm false))))
theorem JU.ok {a0 : Int} {a1 : Int} {a2 : Int} {r : Bool} (h : JU a0 a1 a2 = some r) : ww 184 [xi a0,xi a1,xi a2] [] = some (Qm r) := by
 refine fnP (QpY a0 a1 a2) ?_ h
 exact ⟨rfl,fun q0 => Qh 5 (q0) (⟨rfl,fun q1 => Qh 2 (q1) (⟨rfl,fun q2 => Qh 2 (q1) (rfl),fun q2 => trivial⟩),fun q1 => noN_ok 4 (q1) (rfl)⟩),fun q0 => noN_ok 5 (q0) (noN_ok 5 (rfl) (rfl))⟩
noncomputable abbrev Xt {ρ R : Type} (a0 : Int) (a1 : Int) (a2 : Int) (k : Bool → Tr ρ R) : Tr ρ R := .call (ww 184 [xi a0,xi a1,xi a2] []) (JU a0 a1 a2) Qm k
noncomputable def JU.s : Nat → Int → Int → Int → Option Bool
 | 0,_,_,_ => none
 | k + 1,a0,a1,a2 => Qai a0 a1 a2
theorem JU.cv (a0 : Int) (a1 : Int) (a2 : Int) : Cv (fun k => JU.s k a0 a1 a2) (JU a0 a1 a2) := .un rfl (by exact .const _)
abbrev X6 := Int → Int → Option Bool
def Sa (a0 : Int) (a1 : Int) : Option Bool := (bif (decide (0 ≤ (IntKind.u64.wrap (w64 (a1 - 1))))) then (bif (decide (a0 ≥ (w64 ((0 : Int) - (shlI .i64 (1 : Int) (IntKind.u64.wrap (w64 (a1 - 1)))))))) then (some (decide (a0 < (shlI .i64 (1 : Int) (IntKind.u64.wrap (w64 (a1 - 1))))))) else (some false)) else none)
noncomputable def Jk : X6 := Sa
theorem Jk.eq (a0 : Int) (a1 : Int) : Jk a0 a1 = Sa a0 a1 := rfl
noncomputable def QmO (a0 : Int) (a1 : Int) : Tr Bool AH := (.as (decide (0 ≤ (IntKind.u64.wrap (w64 (a1 - 1))))) (let u19 := (decide (a0 ≥ (w64 (i0 - (shlI .i64 (zi 1) (IntKind.u64.wrap (w64 (a1 - 1)))))))); .as u19 (yesN 3 u19 (rt Qm (decide (a0 < (shlI .i64 (zi 1) (IntKind.u64.wrap (w64 (a1 - 1)))))))) (noN 3 u19 (rt Qm false))) .fail)
theorem Jk.ok {a0 : Int} {a1 : Int} {r : Bool} (h : Jk a0 a1 = some r) : ww 221 [xi a0,xi a1] [] = some (Qm r) := by
 refine fnP (QmO a0 a1) ?_ h
 exact ⟨rfl,fun q0 => ⟨rfl,fun q1 => Qh 3 (q1) (rfl),fun q1 => noN_ok 3 (q1) (rfl)⟩,fun q0 => trivial⟩
noncomputable abbrev Sb {ρ R : Type} (a0 : Int) (a1 : Int) (k : Bool → Tr ρ R) : Tr ρ R := .call (ww 221 [xi a0,xi a1] []) (Jk a0 a1) Qm k
noncomputable def Jk.s : Nat → Int → Int → Option Bool
 | 0,_,_ => none
 | k + 1,a0,a1 => Sa a0 a1
theorem Jk.cv (a0 : Int) (a1 : Int) : Cv (fun k => Jk.s k a0 a1) (Jk a0 a1) := .un rfl (by exact .const _)
abbrev QaQ := Int → Int → Option Bool
def Yx (C0 : X6) (a0 : Int) (a1 : Int) : Option Bool := (bif ((Int.tmod a0 (2 : Int)) == 0) then ((C0 a0 a1).bind fun r1 => (some r1)) else (some false))
theorem QmP {C0 : Nat → X6} {D0 : X6} (H0 : Cv2 C0 D0) (a0 : Int) (a1 : Int) : Cv (fun k => Yx (C0 k) a0 a1) (Yx D0 a0 a1) := by
 unfold Yx
 exact .cond (.bind (H0 _ _) fun r1 => by exact .const _) cst
noncomputable def Uf : QaQ := Yx Jk
theorem Uf.eq (a0 : Int) (a1 : Int) : Uf a0 a1 = Yx Jk a0 a1 := rfl
noncomputable def QmQ (a0 : Int) (a1 : Int) : Tr Bool AH := (.yes (decide ((zi 2) ≠ 0)) (let u20 := ((Int.tmod a0 (zi 2)) == 0); .as u20 (yesN 2 u20 (Sb a0 a1 fun r1 => (.yes u20 (rt Qm r1)))) (noN 3 u20 (rt Qm false))))
theorem Uf.ok {a0 : Int} {a1 : Int} {r : Bool} (h : Uf a0 a1 = some r) : ww 220 [xi a0,xi a1] [] = some (Qm r) := by
 refine fnP (QmQ a0 a1) ?_ h
 exact ⟨rfl,⟨rfl,fun q0 => Qh 2 (q0) (fun r1 h => ⟨Jk.ok h,⟨q0,rfl⟩⟩),fun q0 => noN_ok 3 (q0) (rfl)⟩⟩
noncomputable abbrev Qck {ρ R : Type} (a0 : Int) (a1 : Int) (k : Bool → Tr ρ R) : Tr ρ R := .call (ww 220 [xi a0,xi a1] []) (Uf a0 a1) Qm k
noncomputable def Uf.s : Nat → Int → Int → Option Bool
 | 0,_,_ => none
 | k + 1,a0,a1 => Yx (Jk.s k) a0 a1
theorem Uf.cv (a0 : Int) (a1 : Int) : Cv (fun k => Uf.s k a0 a1) (Uf a0 a1) := .un rfl (QmP Jk.cv a0 a1)
abbrev QaR := Int → Int → Option Int
def Fh (a0 : Int) (a1 : Int) : Option Int := (bif (decide (0 ≤ (IntKind.u64.wrap a1))) then (bif (decide ((andI .i64 a0 (w64 ((shlI .i64 (1 : Int) (IntKind.u64.wrap a1)) - 1))) ≥ (w64 (Int.tdiv (shlI .i64 (1 : Int) (IntKind.u64.wrap a1)) (2 : Int))))) then (some (w64 ((andI .i64 a0 (w64 ((shlI .i64 (1 : Int) (IntKind.u64.wrap a1)) - 1))) - (shlI .i64 (1 : Int) (IntKind.u64.wrap a1))))) else (some (andI .i64 a0 (w64 ((shlI .i64 (1 : Int) (IntKind.u64.wrap a1)) - 1))))) else none)
noncomputable def Jb : QaR := Fh
theorem Jb.eq (a0 : Int) (a1 : Int) : Jb a0 a1 = Fh a0 a1 := rfl
noncomputable def QmR (a0 : Int) (a1 : Int) : Tr Int AH := (.as (decide (0 ≤ (IntKind.u64.wrap a1))) (.yes (decide ((zi 2) ≠ 0)) (.as (decide ((andI .i64 a0 (w64 ((shlI .i64 (zi 1) (IntKind.u64.wrap a1)) - 1))) ≥ (w64 (Int.tdiv (shlI .i64 (zi 1) (IntKind.u64.wrap a1)) (zi 2))))) (rt Qe (w64 ((andI .i64 a0 (w64 ((shlI .i64 (zi 1) (IntKind.u64.wrap a1)) - 1))) - (shlI .i64 (zi 1) (IntKind.u64.wrap a1))))) (rt Qe (andI .i64 a0 (w64 ((shlI .i64 (zi 1) (IntKind.u64.wrap a1)) - 1)))))) .fail)
theorem Jb.ok {a0 : Int} {a1 : Int} {r : Int} (h : Jb a0 a1 = some r) : ww 247 [xi a0,xi a1] [] = some (Qe r) := by
 refine fnP (QmR a0 a1) ?_ h
 exact ⟨rfl,fun q0 => ⟨rfl,⟨rfl,fun q1 => rfl,fun q1 => rfl⟩⟩,fun q0 => trivial⟩
noncomputable abbrev QmS {ρ R : Type} (a0 : Int) (a1 : Int) (k : Int → Tr ρ R) : Tr ρ R := .call (ww 247 [xi a0,xi a1] []) (Jb a0 a1) Qe k
noncomputable def Jb.s : Nat → Int → Int → Option Int
 | 0,_,_ => none
 | k + 1,a0,a1 => Fh a0 a1
theorem Jb.cv (a0 : Int) (a1 : Int) : Cv (fun k => Jb.s k a0 a1) (Jb a0 a1) := .un rfl (by exact .const _)
abbrev QaS := Int → Int → Int → Option Int
structure J9 where
 x0 : Int
 x1 : Int
 x2 : Int
 x7 : Int
 x8 : Int
def GQ (a : J9) : St := { n := 26,nx := 0,env := [(0,xi a.x0),(1,xi a.x1),(2,xi a.x2),(7,xi a.x7),(8,xi a.x8)],heap := [] }
def PC (a : Int) : Ex × St := (.exit 0,{ n := 26,nx := 0,env := [(7,xi a)],heap := [] })
abbrev ZC := J9 → Option Int
def Yk (a : J9) : Option (J9 ⊕ Int) := (bif (decide (a.x8 ≥ 0)) then (bif (a.x8 == a.x1) then (some (.inl (J9.mk a.x0 a.x1 a.x2 (w64 ((w64 (a.x7 * (256 : Int))) + a.x2)) (w64 (a.x8 - 1))))) else (some (.inl (J9.mk a.x0 a.x1 a.x2 (w64 ((w64 (a.x7 * (256 : Int))) + (w64 ((255 : Int) * a.x0)))) (w64 (a.x8 - 1)))))) else (some (.inr a.x7)))
noncomputable def UL.s (k : Nat) : ZC := iter (Yk ) k
theorem UL.cv (a : J9) : Cv (fun k => UL.s k a) (loopW (Yk ) a) := Cv.iter (fun a => by exact .const _) a
noncomputable def UL : ZC := loopW (Yk )
theorem UL.eq (a : J9) : UL a = (Yk a).bind (Sum.elim UL some) := Jc _ _
noncomputable abbrev Qiu {ρ R : Type} (a : J9) (k0 : Int → Tr ρ R) : Tr ρ R := .loop (loopAt pp 222 3) (GQ a) (UL a) PC k0
noncomputable def Qiv (a : J9) : Tr (J9 ⊕ Int) XS := (.as (decide (a.x8 ≥ 0)) (.as (a.x8 == a.x1) (lf GQ (J9.mk a.x0 a.x1 a.x2 (w64 ((w64 (a.x7 * (zi 256))) + a.x2)) (w64 (a.x8 - 1)))) (lf GQ (J9.mk a.x0 a.x1 a.x2 (w64 ((w64 (a.x7 * (zi 256))) + (w64 ((zi 255) * a.x0)))) (w64 (a.x8 - 1))))) (rx PC a.x7))
theorem UL.ok {a : J9} {r : Int} (h : UL a = some r) : lw 0 222 (loopAt pp 222 3) (GQ a) = some (PC r) := by
 refine lpP h Qiv fun a => ?_
 exact ⟨rfl,fun q0 => ⟨rfl,fun q1 => rfl,fun q1 => rfl⟩,fun q0 => rfl⟩
def Zc (C0 : QaR) (L1 : ZC) (a0 : Int) (a1 : Int) (a2 : Int) : Option Int := ((L1 (J9.mk a0 a1 a2 (0 : Int) (3 : Int))).bind (fun (o1 : Int) => ((C0 o1 (32 : Int)).bind fun r2 => (some r2))))
theorem QmT {C0 : Nat → QaR} {D0 : QaR} (H0 : Cv2 C0 D0) {L1 : Nat → ZC} {M1 : ZC} (N1 : Cv1 L1 M1) (a0 : Int) (a1 : Int) (a2 : Int) : Cv (fun k => Zc (C0 k) (L1 k) a0 a1 a2) (Zc D0 M1 a0 a1 a2) := by
 unfold Zc
 exact .bind (N1 _) (fun o1 => .bind (H0 _ _) fun r2 => by exact .const _)
noncomputable def VL : QaS := Zc Jb UL
theorem VL.eq (a0 : Int) (a1 : Int) (a2 : Int) : VL a0 a1 a2 = Zc Jb UL a0 a1 a2 := rfl
noncomputable def QmU (a0 : Int) (a1 : Int) (a2 : Int) : Tr Int AH := (Qiu (J9.mk a0 a1 a2 i0 (zi 3)) (fun o1 => (QmS o1 (zi 32) fun r2 => (rt Qe r2))))
theorem VL.ok {a0 : Int} {a1 : Int} {a2 : Int} {r : Int} (h : VL a0 a1 a2 = some r) : ww 222 [xi a0,xi a1,xi a2] [] = some (Qe r) := by
 refine fnP (QmU a0 a1 a2) ?_ h
 exact fun o1 h => ⟨UL.ok h,fun r2 h => ⟨Jb.ok h,rfl⟩⟩
noncomputable abbrev QmV {ρ R : Type} (a0 : Int) (a1 : Int) (a2 : Int) (k : Int → Tr ρ R) : Tr ρ R := .call (ww 222 [xi a0,xi a1,xi a2] []) (VL a0 a1 a2) Qe k
noncomputable def VL.s : Nat → Int → Int → Int → Option Int
 | 0,_,_,_ => none
 | k + 1,a0,a1,a2 => Zc (Jb.s k) (UL.s k) a0 a1 a2
theorem VL.cv (a0 : Int) (a1 : Int) (a2 : Int) : Cv (fun k => VL.s k a0 a1 a2) (VL a0 a1 a2) := .un rfl (QmT Jb.cv UL.cv a0 a1 a2)
def XW (r : (Int × Int × Int × Bool)) : AV × Heap := (.tup [xi r.1,xi r.2.1,xi r.2.2.1,xo r.2.2.2],[])
abbrev Z3 := Int → Option (Int × Int × Int × Bool)
structure UH where
 x0 : Int
 x6 : Int
 x7 : Int
structure VD where
 x2 : Int
 x3 : Int
 x4 : Int
 x5 : Bool
structure VE where
 x0 : Int
 x6 : Int
def PD (a : UH) : St := { n := 35,nx := 0,env := [(0,xi a.x0),(6,xi a.x6),(7,xi a.x7)],heap := [] }
def Qbv (a : VD) : Ex × St := (.ret,{ n := 35,nx := 0,env := [(2,xi a.x2),(3,xi a.x3),(4,xi a.x4),(5,xo a.x5)],heap := [] })
def Qbw (a : VE) : Ex × St := (.exit 2,{ n := 35,nx := 0,env := [(0,xi a.x0),(6,xi a.x6)],heap := [] })
def PE (a : (VD ⊕ VE)) : Ex × St := Sum.elim Qbv Qbw a
abbrev ZD := UH → Option (VD ⊕ VE)
def W9 (C0 : QaS) (a : UH) : Option (UH ⊕ (VD ⊕ VE)) := (bif (decide (a.x7 < 4)) then (bif (decide (0 ≤ (IntKind.u64.wrap (w64 ((8 : Int) * a.x7))))) then ((C0 a.x6 a.x7 (andI .i64 (shrI .i64 a.x0 (IntKind.u64.wrap (w64 ((8 : Int) * a.x7)))) (255 : Int))).bind fun r1 => (bif (r1 == a.x0) then (some (.inr (.inl (VD.mk a.x6 a.x7 (andI .i64 (shrI .i64 a.x0 (IntKind.u64.wrap (w64 ((8 : Int) * a.x7)))) (255 : Int)) true)))) else (some (.inl (UH.mk a.x0 a.x6 (w64 (a.x7 + 1))))))) else none) else (some (.inr (.inr (VE.mk a.x0 a.x6)))))
theorem Qiw {C0 : Nat → QaS} {D0 : QaS} (H0 : Cv3 C0 D0) (a : UH) : Cv (fun k => W9 (C0 k) a) (W9 D0 a) := by
 unfold W9
 exact .cond (.cond (.bind (H0 _ _ _) fun r1 => by exact .const _) cst) cst
noncomputable def JR.s (k : Nat) : ZD := iter (W9 (VL.s k)) k
theorem JR.cv (a : UH) : Cv (fun k => JR.s k a) (loopW (W9 VL) a) := Cv.iter (fun a => Qiw VL.cv a) a
noncomputable def JR : ZD := loopW (W9 VL)
theorem JR.eq (a : UH) : JR a = (W9 VL a).bind (Sum.elim JR some) := Jc _ _
noncomputable abbrev Qix {ρ R : Type} (a : UH) (k0 : VD → Tr ρ R) (k1 : VE → Tr ρ R) : Tr ρ R := .loop2 (loopAt pp 187 7) (PD a) (JR a) Qbv Qbw k0 k1
noncomputable def Qiy (a : UH) : Tr (UH ⊕ (VD ⊕ VE)) XS := (.as (decide (a.x7 < 4)) (.as (decide (0 ≤ (IntKind.u64.wrap (w64 ((zi 8) * a.x7))))) (QmV a.x6 a.x7 (andI .i64 (shrI .i64 a.x0 (IntKind.u64.wrap (w64 ((zi 8) * a.x7)))) (zi 255)) fun r1 => (.as (r1 == a.x0) (rx PE (.inl (VD.mk a.x6 a.x7 (andI .i64 (shrI .i64 a.x0 (IntKind.u64.wrap (w64 ((zi 8) * a.x7)))) (zi 255)) true))) (lf PD (UH.mk a.x0 a.x6 (w64 (a.x7 + 1)))))) .fail) (rx PE (.inr (VE.mk a.x0 a.x6))))
theorem JR.ok {a : UH} {r : (VD ⊕ VE)} (h : JR a = some r) : lw 0 187 (loopAt pp 187 7) (PD a) = some (PE r) := by
 refine lpP h Qiy fun a => ?_
 exact ⟨rfl,fun q0 => ⟨rfl,fun q1 => fun r1 h => ⟨VL.ok h,⟨rfl,fun q2 => rfl,fun q2 => rfl⟩⟩,fun q1 => trivial⟩,fun q0 => rfl⟩
structure UI where
 x0 : Int
 x6 : Int
structure Wh where
 x2 : Int
 x3 : Int
 x4 : Int
 x5 : Bool
def PF (a : UI) : St := { n := 35,nx := 0,env := [(0,xi a.x0),(6,xi a.x6)],heap := [] }
def Qbx (a : Wh) : Ex × St := (.ret,{ n := 35,nx := 0,env := [(2,xi a.x2),(3,xi a.x3),(4,xi a.x4),(5,xo a.x5)],heap := [] })
def Qby (a : Unit) : Ex × St := (.exit 0,{ n := 35,nx := 0,env := [],heap := [] })
def PG (a : (Wh ⊕ Unit)) : Ex × St := Sum.elim Qbx Qby a
abbrev ZE := UI → Option (Wh ⊕ Unit)
def WI (L0 : ZD) (a : UI) : Option (UI ⊕ (Wh ⊕ Unit)) := (bif (decide (a.x6 < 2)) then ((L0 (UH.mk a.x0 a.x6 (0 : Int))).bind fun x => Sum.elim (fun (o1 : VD) => (some (.inr (.inl (Wh.mk o1.x2 o1.x3 o1.x4 o1.x5))))) (fun (o2 : VE) => (some (.inl (UI.mk o2.x0 (w64 (o2.x6 + 1)))))) x) else (some (.inr (.inr ()))))
theorem Qiz {L0 : Nat → ZD} {M0 : ZD} (N0 : Cv1 L0 M0) (a : UI) : Cv (fun k => WI (L0 k) a) (WI M0 a) := by
 unfold WI
 exact .cond (.bind (N0 _) fun x => .sum (fun o1 => by exact .const _) (fun o2 => by exact .const _) x) cst
noncomputable def UM.s (k : Nat) : ZE := iter (WI (JR.s k)) k
theorem UM.cv (a : UI) : Cv (fun k => UM.s k a) (loopW (WI JR) a) := Cv.iter (fun a => Qiz JR.cv a) a
noncomputable def UM : ZE := loopW (WI JR)
theorem UM.eq (a : UI) : UM a = (WI JR a).bind (Sum.elim UM some) := Jc _ _
noncomputable abbrev QiA {ρ R : Type} (a : UI) (k0 : Wh → Tr ρ R) (k1 : Unit → Tr ρ R) : Tr ρ R := .loop2 (loopAt pp 187 4) (PF a) (UM a) Qbx Qby k0 k1
noncomputable def QiB (a : UI) : Tr (UI ⊕ (Wh ⊕ Unit)) XS := (.as (decide (a.x6 < 2)) (Qix (UH.mk a.x0 a.x6 i0) (fun o1 => (rx PG (.inl (Wh.mk o1.x2 o1.x3 o1.x4 o1.x5)))) (fun o2 => (lf PF (UI.mk o2.x0 (w64 (o2.x6 + 1)))))) (rx PG (.inr ())))
theorem UM.ok {a : UI} {r : (Wh ⊕ Unit)} (h : UM a = some r) : lw 0 187 (loopAt pp 187 4) (PF a) = some (PG r) := by
 refine lpP h QiB fun a => ?_
 exact ⟨rfl,fun q0 => ⟨fun o1 h => ⟨JR.ok (r := (.inl _)) h,rfl⟩,fun o2 h => ⟨JR.ok (r := (.inr _)) h,rfl⟩⟩,fun q0 => rfl⟩
def Zd (C0 : X6) (L1 : ZE) (a0 : Int) : Option (Int × Int × Int × Bool) := ((C0 a0 (32 : Int)).bind fun r1 => (bif (!r1) then (some ((0 : Int),(0 : Int),(0 : Int),false)) else ((L1 (UI.mk a0 (0 : Int))).bind fun x => Sum.elim (fun (o2 : Wh) => (some (o2.x2,o2.x3,o2.x4,o2.x5))) (fun (o3 : Unit) => (some ((0 : Int),(0 : Int),(0 : Int),false))) x)))
theorem QmW {C0 : Nat → X6} {D0 : X6} (H0 : Cv2 C0 D0) {L1 : Nat → ZE} {M1 : ZE} (N1 : Cv1 L1 M1) (a0 : Int) : Cv (fun k => Zd (C0 k) (L1 k) a0) (Zd D0 M1 a0) := by
 unfold Zd
 exact .bind (H0 _ _) fun r1 => .cond cst (.bind (N1 _) fun x => .sum (fun o2 => by exact .const _) (fun o3 => by exact .const _) x)
noncomputable def US : Z3 := Zd Jk UM
theorem US.eq (a0 : Int) : US a0 = Zd Jk UM a0 := rfl
noncomputable def QmX (a0 : Int) : Tr (Int × Int × Int × Bool) AH := (Sb a0 (zi 32) fun r1 => (.as (!r1) (rt XW (i0,i0,i0,false)) (QiA (UI.mk a0 i0) (fun o2 => (rt XW (o2.x2,o2.x3,o2.x4,o2.x5))) (fun o3 => (rt XW (i0,i0,i0,false))))))
theorem US.ok {a0 : Int} {r : (Int × Int × Int × Bool)} (h : US a0 = some r) : ww 187 [xi a0] [] = some (XW r) := by
 refine fnP (QmX a0) ?_ h
 exact fun r1 h => ⟨Jk.ok h,⟨rfl,fun q0 => rfl,fun q0 => ⟨fun o2 h => ⟨UM.ok (r := (.inl _)) h,rfl⟩,fun o3 h => ⟨UM.ok (r := (.inr _)) h,rfl⟩⟩⟩⟩
noncomputable abbrev QgH {ρ R : Type} (a0 : Int) (k : (Int × Int × Int × Bool) → Tr ρ R) : Tr ρ R := .call (ww 187 [xi a0] []) (US a0) XW k
noncomputable def US.s : Nat → Int → Option (Int × Int × Int × Bool)
 | 0,_ => none
 | k + 1,a0 => Zd (Jk.s k) (UM.s k) a0
theorem US.cv (a0 : Int) : Cv (fun k => US.s k a0) (US a0) := .un rfl (QmW Jk.cv UM.cv a0)
abbrev QaT := ByteArray → Int → Option Bool
def Gi (C0 : QaQ) (C1 : X6) (C2 : Z3) (a0 : ByteArray) (a1 : Int) : Option Bool := (bif (eqS a0 s_T8) then ((C0 a1 (9 : Int)).bind fun r1 => (some r1)) else (bif (eqS a0 VZ) then ((C1 a1 (16 : Int)).bind fun r2 => (some r2)) else (bif (eqS a0 VY) then ((C1 a1 (20 : Int)).bind fun r3 => (some r3)) else (bif (eqS a0 V0) then ((C0 a1 (16 : Int)).bind fun r4 => (some r4)) else (bif (eqS a0 Ue) then ((C0 a1 (25 : Int)).bind fun r5 => (some r5)) else ((C2 a1).bind fun r6 => (bif (eqS a0 s_C8) then (some r6.2.2.2) else (some false))))))))
theorem QmY {C0 : Nat → QaQ} {D0 : QaQ} (H0 : Cv2 C0 D0) {C1 : Nat → X6} {D1 : X6} (H1 : Cv2 C1 D1) {C2 : Nat → Z3} {D2 : Z3} (H2 : Cv1 C2 D2) (a0 : ByteArray) (a1 : Int) : Cv (fun k => Gi (C0 k) (C1 k) (C2 k) a0 a1) (Gi D0 D1 D2 a0 a1) := by
 unfold Gi
 exact .cond (.bind (H0 _ _) fun r1 => by exact .const _) (.cond (.bind (H1 _ _) fun r2 => by exact .const _) (.cond (.bind (H1 _ _) fun r3 => by exact .const _) (.cond (.bind (H0 _ _) fun r4 => by exact .const _) (.cond (.bind (H0 _ _) fun r5 => by exact .const _) (.bind (H2 _) fun r6 => by exact .const _)))))
noncomputable def QT : QaT := Gi Uf Jk US
theorem QT.eq (a0 : ByteArray) (a1 : Int) : QT a0 a1 = Gi Uf Jk US a0 a1 := rfl
noncomputable def QmZ (a0 : ByteArray) (a1 : Int) : Tr Bool AH := (.as (eqS a0 s_T8) (Qck a1 (zi 9) fun r1 => (rt Qm r1)) (.as (eqS a0 VZ) (Sb a1 (zi 16) fun r2 => (rt Qm r2)) (.as (eqS a0 VY) (Sb a1 (zi 20) fun r3 => (rt Qm r3)) (.as (eqS a0 V0) (Qck a1 (zi 16) fun r4 => (rt Qm r4)) (.as (eqS a0 Ue) (Qck a1 (zi 25) fun r5 => (rt Qm r5)) (QgH a1 fun r6 => (let u21 := (eqS a0 s_C8); .as u21 (.yes u21 (rt Qm r6.2.2.2)) (.no u21 (rt Qm false)))))))))
theorem QT.ok {a0 : ByteArray} {a1 : Int} {r : Bool} (h : QT a0 a1 = some r) : ww 185 [xs a0,xi a1] [] = some (Qm r) := by
 refine fnP (QmZ a0 a1) ?_ h
 exact ⟨rfl,fun q0 => fun r1 h => ⟨Uf.ok h,rfl⟩,fun q0 => ⟨rfl,fun q1 => fun r2 h => ⟨Jk.ok h,rfl⟩,fun q1 => ⟨rfl,fun q2 => fun r3 h => ⟨Jk.ok h,rfl⟩,fun q2 => ⟨rfl,fun q3 => fun r4 h => ⟨Uf.ok h,rfl⟩,fun q3 => ⟨rfl,fun q4 => fun r5 h => ⟨Uf.ok h,rfl⟩,fun q4 => fun r6 h => ⟨US.ok h,⟨rfl,fun q5 => ⟨q5,rfl⟩,fun q5 => ⟨q5,rfl⟩⟩⟩⟩⟩⟩⟩⟩
noncomputable abbrev Qm0 {ρ R : Type} (a0 : ByteArray) (a1 : Int) (k : Bool → Tr ρ R) : Tr ρ R := .call (ww 185 [xs a0,xi a1] []) (QT a0 a1) Qm k
noncomputable def QT.s : Nat → ByteArray → Int → Option Bool
 | 0,_,_ => none
 | k + 1,a0,a1 => Gi (Uf.s k) (Jk.s k) (US.s k) a0 a1
theorem QT.cv (a0 : ByteArray) (a1 : Int) : Cv (fun k => QT.s k a0 a1) (QT a0 a1) := .un rfl (QmY Uf.cv Jk.cv US.cv a0 a1)
abbrev Qkh := ByteArray → Int → Option Bool
def EC (C0 : QeT) (C1 : QaT) (a0 : ByteArray) (a1 : Int) : Option Bool := (bif (eqS a0 s_X) then (bif (decide (a1 ≥ 0)) then (bif (decide (a1 ≤ 7)) then (some true) else (bif (decide (a1 ≥ 24)) then (some (decide (a1 ≤ 31))) else (some false))) else (bif (decide (a1 ≥ 24)) then (some (decide (a1 ≤ 31))) else (some false))) else (bif (eqS a0 s_Y) then (bif (decide (a1 ≥ 0)) then (bif (decide (a1 ≤ 7)) then (some true) else (bif (decide (a1 ≥ 24)) then (some (decide (a1 ≤ 31))) else (some false))) else (bif (decide (a1 ≥ 24)) then (some (decide (a1 ≤ 31))) else (some false))) else (bif (eqS a0 s_U5) then ((C0 a1 (32 : Int) (1 : Int)).bind fun r1 => (some r1)) else (bif (eqS a0 s_D) then ((C0 a1 (32 : Int) (1 : Int)).bind fun r2 => (some r2)) else (bif (eqS a0 s_A) then ((C0 a1 (32 : Int) (1 : Int)).bind fun r3 => (some r3)) else (bif (eqS a0 s_B) then ((C0 a1 (32 : Int) (1 : Int)).bind fun r4 => (some r4)) else (bif (eqS a0 s_U7) then ((C0 a1 (128 : Int) (1 : Int)).bind fun r5 => (some r5)) else (bif (eqS a0 s_O5) then ((C0 (w64 (a1 - 1)) (32 : Int) (1 : Int)).bind fun r6 => (some r6)) else (bif (eqS a0 s_M1) then ((C0 a1 (16 : Int) (1 : Int)).bind fun r7 => (some r7)) else (bif (eqS a0 s_I4) then ((C0 a1 (16 : Int) (1 : Int)).bind fun r8 => (some r8)) else (bif (eqS a0 s_M2) then ((C0 a1 (16 : Int) (2 : Int)).bind fun r9 => (some r9)) else (bif (eqS a0 s_M4) then ((C0 a1 (16 : Int) (4 : Int)).bind fun r10 => (some r10)) else (bif (eqS a0 s_O1) then ((C0 a1 (2 : Int) (1 : Int)).bind fun r11 => (some r11)) else (bif (eqS a0 s_I2) then ((C0 a1 (4 : Int) (1 : Int)).bind fun r12 => (some r12)) else (bif (eqS a0 s_O2) then ((C0 a1 (4 : Int) (1 : Int)).bind fun r13 => (some r13)) else ((C1 a0 a1).bind fun r14 => (some r14)))))))))))))))))
theorem Qoi {C0 : Nat → QeT} {D0 : QeT} (H0 : Cv3 C0 D0) {C1 : Nat → QaT} {D1 : QaT} (H1 : Cv2 C1 D1) (a0 : ByteArray) (a1 : Int) : Cv (fun k => EC (C0 k) (C1 k) a0 a1) (EC D0 D1 a0 a1) := by
 unfold EC
 exact .cond cst (.cond cst (.cond (.bind (H0 _ _ _) fun r1 => by exact .const _) (.cond (.bind (H0 _ _ _) fun r2 => by exact .const _) (.cond (.bind (H0 _ _ _) fun r3 => by exact .const _) (.cond (.bind (H0 _ _ _) fun r4 => by exact .const _) (.cond (.bind (H0 _ _ _) fun r5 => by exact .const _) (.cond (.bind (H0 _ _ _) fun r6 => by exact .const _) (.cond (.bind (H0 _ _ _) fun r7 => by exact .const _) (.cond (.bind (H0 _ _ _) fun r8 => by exact .const _) (.cond (.bind (H0 _ _ _) fun r9 => by exact .const _) (.cond (.bind (H0 _ _ _) fun r10 => by exact .const _) (.cond (.bind (H0 _ _ _) fun r11 => by exact .const _) (.cond (.bind (H0 _ _ _) fun r12 => by exact .const _) (.cond (.bind (H0 _ _ _) fun r13 => by exact .const _) (.bind (H1 _ _) fun r14 => by exact .const _)))))))))))))))
noncomputable def QQ : Qkh := EC JU QT
theorem QQ.eq (a0 : ByteArray) (a1 : Int) : QQ a0 a1 = EC JU QT a0 a1 := rfl
noncomputable def Qoj (a0 : ByteArray) (a1 : Int) : Tr Bool AH := (let u35 := (eqS a0 s_X); .as u35 (.yes u35 (let u25 := (decide (a1 ≥ 0)); .as u25 (yesN 2 u25 (let u23 := (decide (a1 ≤ 7)); .as u23 (yesN 4 u23 (rt Qm true)) (noN 2 u23 (let u22 := (decide (a1 ≥ 24)); .as u22 (.yes u22 (.no u23 (.yes u22 (.no u23 (rt Qm (decide (a1 ≤ 31))))))) (.no u22 (.no u23 (.no u22 (.no u23 (rt Qm false))))))))) (noN 2 u25 (noN 3 false (let u24 := (decide (a1 ≥ 24)); .as u24 (.yes u24 (.no false (.yes u24 (.no false (rt Qm (decide (a1 ≤ 31))))))) (.no u24 (.no false (.no u24 (.no false (rt Qm false)))))))))) (.as (eqS a0 s_Y) (let u29 := (decide (a1 ≥ 0)); .as u29 (yesN 2 u29 (let u27 := (decide (a1 ≤ 7)); .as u27 (yesN 4 u27 (rt Qm true)) (noN 2 u27 (let u26 := (decide (a1 ≥ 24)); .as u26 (.yes u26 (.no u27 (.yes u26 (.no u27 (rt Qm (decide (a1 ≤ 31))))))) (.no u26 (.no u27 (.no u26 (.no u27 (rt Qm false))))))))) (noN 2 u29 (noN 3 false (let u28 := (decide (a1 ≥ 24)); .as u28 (.yes u28 (.no false (.yes u28 (.no false (rt Qm (decide (a1 ≤ 31))))))) (.no u28 (.no false (.no u28 (.no false (rt Qm false))))))))) (let u34 := (eqS a0 s_U5); .as u34 (.yes u34 (Xt a1 (zi 32) (zi 1) fun r1 => (rt Qm r1))) (let u33 := (eqS a0 s_D); .as u33 (.yes u33 (Xt a1 (zi 32) (zi 1) fun r2 => (rt Qm r2))) (let u32 := (eqS a0 s_A); .as u32 (.yes u32 (Xt a1 (zi 32) (zi 1) fun r3 => (rt Qm r3))) (.as (eqS a0 s_B) (Xt a1 (zi 32) (zi 1) fun r4 => (rt Qm r4)) (.as (eqS a0 s_U7) (Xt a1 (zi 128) (zi 1) fun r5 => (rt Qm r5)) (.as (eqS a0 s_O5) (Xt (w64 (a1 - 1)) (zi 32) (zi 1) fun r6 => (rt Qm r6)) (let u31 := (eqS a0 s_M1); .as u31 (.yes u31 (Xt a1 (zi 16) (zi 1) fun r7 => (rt Qm r7))) (.as (eqS a0 s_I4) (Xt a1 (zi 16) (zi 1) fun r8 => (rt Qm r8)) (.as (eqS a0 s_M2) (Xt a1 (zi 16) (zi 2) fun r9 => (rt Qm r9)) (.as (eqS a0 s_M4) (Xt a1 (zi 16) (zi 4) fun r10 => (rt Qm r10)) (.as (eqS a0 s_O1) (Xt a1 (zi 2) (zi 1) fun r11 => (rt Qm r11)) (let u30 := (eqS a0 s_I2); .as u30 (.yes u30 (Xt a1 (zi 4) (zi 1) fun r12 => (rt Qm r12))) (.as (eqS a0 s_O2) (Xt a1 (zi 4) (zi 1) fun r13 => (rt Qm r13)) (Qm0 a0 a1 fun r14 => (rt Qm r14)))))))))))))))))
theorem QQ.ok {a0 : ByteArray} {a1 : Int} {r : Bool} (h : QQ a0 a1 = some r) : ww 135 [xs a0,xi a1] [] = some (Qm r) := by
 refine fnP (Qoj a0 a1) ?_ h
 exact ⟨rfl,fun q0 => ⟨q0,⟨rfl,fun q1 => Qh 2 (q1) (⟨rfl,fun q2 => Qh 4 (q2) (rfl),fun q2 => noN_ok 2 (q2) (⟨rfl,fun q3 => ⟨q3,⟨q2,⟨q3,⟨q2,rfl⟩⟩⟩⟩,fun q3 => ⟨q3,⟨q2,⟨q3,⟨q2,rfl⟩⟩⟩⟩⟩)⟩),fun q1 => noN_ok 2 (q1) (noN_ok 3 (rfl) (⟨rfl,fun q2 => ⟨q2,⟨rfl,⟨q2,⟨rfl,rfl⟩⟩⟩⟩,fun q2 => ⟨q2,⟨rfl,⟨q2,⟨rfl,rfl⟩⟩⟩⟩⟩))⟩⟩,fun q0 => ⟨rfl,fun q1 => ⟨rfl,fun q2 => Qh 2 (q2) (⟨rfl,fun q3 => Qh 4 (q3) (rfl),fun q3 => noN_ok 2 (q3) (⟨rfl,fun q4 => ⟨q4,⟨q3,⟨q4,⟨q3,rfl⟩⟩⟩⟩,fun q4 => ⟨q4,⟨q3,⟨q4,⟨q3,rfl⟩⟩⟩⟩⟩)⟩),fun q2 => noN_ok 2 (q2) (noN_ok 3 (rfl) (⟨rfl,fun q3 => ⟨q3,⟨rfl,⟨q3,⟨rfl,rfl⟩⟩⟩⟩,fun q3 => ⟨q3,⟨rfl,⟨q3,⟨rfl,rfl⟩⟩⟩⟩⟩))⟩,fun q1 => ⟨rfl,fun q2 => ⟨q2,fun r1 h => ⟨JU.ok h,rfl⟩⟩,fun q2 => ⟨rfl,fun q3 => ⟨q3,fun r2 h => ⟨JU.ok h,rfl⟩⟩,fun q3 => ⟨rfl,fun q4 => ⟨q4,fun r3 h => ⟨JU.ok h,rfl⟩⟩,fun q4 => ⟨rfl,fun q5 => fun r4 h => ⟨JU.ok h,rfl⟩,fun q5 => ⟨rfl,fun q6 => fun r5 h => ⟨JU.ok h,rfl⟩,fun q6 => ⟨rfl,fun q7 => fun r6 h => ⟨JU.ok h,rfl⟩,fun q7 => ⟨rfl,fun q8 => ⟨q8,fun r7 h => ⟨JU.ok h,rfl⟩⟩,fun q8 => ⟨rfl,fun q9 => fun r8 h => ⟨JU.ok h,rfl⟩,fun q9 => ⟨rfl,fun q10 => fun r9 h => ⟨JU.ok h,rfl⟩,fun q10 => ⟨rfl,fun q11 => fun r10 h => ⟨JU.ok h,rfl⟩,fun q11 => ⟨rfl,fun q12 => fun r11 h => ⟨JU.ok h,rfl⟩,fun q12 => ⟨rfl,fun q13 => ⟨q13,fun r12 h => ⟨JU.ok h,rfl⟩⟩,fun q13 => ⟨rfl,fun q14 => fun r13 h => ⟨JU.ok h,rfl⟩,fun q14 => fun r14 h => ⟨QT.ok h,rfl⟩⟩⟩⟩⟩⟩⟩⟩⟩⟩⟩⟩⟩⟩⟩⟩
noncomputable abbrev Qok {ρ R : Type} (a0 : ByteArray) (a1 : Int) (k : Bool → Tr ρ R) : Tr ρ R := .call (ww 135 [xs a0,xi a1] []) (QQ a0 a1) Qm k
noncomputable def QQ.s : Nat → ByteArray → Int → Option Bool
 | 0,_,_ => none
 | k + 1,a0,a1 => EC (JU.s k) (QT.s k) a0 a1
theorem QQ.cv (a0 : ByteArray) (a1 : Int) : Cv (fun k => QQ.s k a0 a1) (QQ a0 a1) := .un rfl (Qoi JU.cv QT.cv a0 a1)
abbrev QgI := Qi → Option Bool
structure UT where
 x6 : (List ByteArray)
 x7 : Int
 h0 : Qi
def FC (a : UT) : St := { n := 45,nx := 1,env := [(1,.ptr 0 0),(6,.sl (Qc a.x6)),(7,xi a.x7)],heap := [(0,.box [0,101] (Vw a.h0))] }
def Qaj (a : Bool) : Ex × St := (.ret,{ n := 45,nx := 0,env := [(2,xo a)],heap := [] })
def Qak (a : Unit) : Ex × St := (.exit 0,{ n := 45,nx := 0,env := [],heap := [] })
def FD (a : (Bool ⊕ Unit)) : Ex × St := Sum.elim Qaj Qak a
abbrev Qcl := UT → Option (Bool ⊕ Unit)
def ZO (C0 : Qkh) (a : UT) : Option (UT ⊕ (Bool ⊕ Unit)) := (bif (decide (a.x7 < (((a.x6.length) : Nat) : Int))) then (bif (decide (0 ≤ a.x7)) then ((a.x6[(Int.toNat a.x7)]?).bind fun e1 => ((a.h0.F[(Int.toNat a.x7)]?).bind fun e2 => ((C0 e1 e2).bind fun r3 => (bif (!r3) then (some (.inr (.inl false))) else (some (.inl (UT.mk a.x6 (w64 (a.x7 + 1)) a.h0))))))) else none) else (some (.inr (.inr ()))))
noncomputable def J4 : Qcl := loopW (ZO QQ)
theorem J4.eq (a : UT) : J4 a = (ZO QQ a).bind (Sum.elim J4 some) := Jc _ _
noncomputable abbrev Qhp {ρ R : Type} (a : UT) (k0 : Bool → Tr ρ R) (k1 : Unit → Tr ρ R) : Tr ρ R := .loop2 (loopAt pp 87 6) (FC a) (J4 a) Qaj Qak k0 k1
noncomputable def Qhq (a : UT) : Tr (UT ⊕ (Bool ⊕ Unit)) XS := (.num ((Qc a.x6).length) (a.x6.length) (.as (decide (a.x7 < (((a.x6.length) : Nat) : Int))) (let u36 := (decide (0 ≤ a.x7)); .as u36 (.row ((Qc a.x6)[(Int.toNat a.x7)]?) (a.x6[(Int.toNat a.x7)]?) J7 fun (e1 : ByteArray) => (.yes u36 (.row ((Qr a.h0.F)[(Int.toNat a.x7)]?) (a.h0.F[(Int.toNat a.x7)]?) VX fun (e2 : Int) => (Qok e1 e2 fun r3 => (.as (!r3) (rx FD (.inl false)) (lf FC (UT.mk a.x6 (w64 (a.x7 + 1)) a.h0))))))) .fail) (rx FD (.inr ()))))
theorem J4.ok {a : UT} {r : (Bool ⊕ Unit)} (h : J4 a = some r) : lw 0 87 (loopAt pp 87 6) (FC a) = some (FD r) := by
 refine lpP h Qhq fun a => ?_
 exact ⟨(Qk _),⟨rfl,fun q0 => ⟨rfl,fun q1 => fun e1 h => ⟨Jp h,⟨q1,fun e2 h => ⟨J6 h,fun r3 h => ⟨QQ.ok h,⟨rfl,fun q2 => rfl,fun q2 => rfl⟩⟩⟩⟩⟩,fun q1 => trivial⟩,fun q0 => rfl⟩⟩
def F0 (C0 : Z2) (C1 : Fg) (L2 : Qcl) (a0 : Qi) : Option Bool := ((C0 a0.Op h_20).bind fun r1 => ((C1 r1.1.Kinds).bind fun r2 => (bif (!r1.2.2) then (some false) else (bif ((((a0.F.length) : Nat) : Int) != (((r2.length) : Nat) : Int)) then (some false) else ((L2 (UT.mk r2 (0 : Int) a0)).bind fun x => Sum.elim (fun (o3 : Bool) => (some o3)) (fun (o4 : Unit) => (some true)) x)))))
noncomputable def V8 : QgI := F0 Uy JF J4
theorem V8.eq (a0 : Qi) : V8 a0 = F0 Uy JF J4 a0 := rfl
noncomputable def Qlw (a0 : Qi) : Tr Bool AH := (Gh a0.Op h_20 fun r1 => (FZ r1.1.Kinds fun r2 => (.as (!r1.2.2) (yesN 6 (!r1.2.2) (.yes true (rt Qm false))) (noN 2 (!r1.2.2) (.num ((Qr a0.F).length) (a0.F.length) (noN 2 (!r1.2.2) (.num ((Qc r2).length) (r2.length) (noN 2 (!r1.2.2) (.as ((((a0.F.length) : Nat) : Int) != (((r2.length) : Nat) : Int)) (rt Qm false) (Qhp (UT.mk r2 i0 a0) (fun o3 => (rt Qm o3)) (fun o4 => (rt Qm true))))))))))))
theorem V8.ok {a0 : Qi} {r : Bool} (h : V8 a0 = some r) : ww 87 [.agg (Vw a0)] [] = some (Qm r) := by
 refine fnP (Qlw a0) ?_ h
 exact fun r1 h => ⟨Uy.ok h,fun r2 h => ⟨JF.ok h,⟨rfl,fun q0 => Qh 6 (q0) (⟨rfl,rfl⟩),fun q0 => noN_ok 2 (q0) (⟨(Js _),noN_ok 2 (q0) (⟨(Qk _),noN_ok 2 (q0) (⟨rfl,fun q1 => rfl,fun q1 => ⟨fun o3 h => ⟨J4.ok (r := (.inl _)) h,rfl⟩,fun o4 h => ⟨J4.ok (r := (.inr _)) h,rfl⟩⟩⟩)⟩)⟩)⟩⟩⟩
noncomputable abbrev Qlx {ρ R : Type} (a0 : Qi) (k : Bool → Tr ρ R) : Tr ρ R := .call (ww 87 [.agg (Vw a0)] []) (V8 a0) Qm k
abbrev Qki := ByteArray → Option Int
structure U9 where
 x0 : ByteArray
 x3 : Int
 x4 : Int
def EV (a : U9) : St := { n := 32,nx := 0,env := [(0,xs a.x0),(3,xi a.x3),(4,xi a.x4)],heap := [] }
def SA (a : Int) : Ex × St := (.exit 0,{ n := 32,nx := 0,env := [(3,xi a)],heap := [] })
abbrev GR := U9 → Option Int
def SB (a : U9) : Option (U9 ⊕ Int) := (bif (decide (a.x4 < ((a.x0.size : Nat) : Int))) then (bif (decide (0 ≤ a.x4 ∧ a.x4 < ((a.x0.size : Nat) : Int))) then (bif (decide (((a.x0.data.getD (Int.toNat a.x4) 0).toNat : Int) ≥ 97)) then (some (.inl (U9.mk a.x0 (w64 ((w64 ((16 : Int) * a.x3)) + (w64 ((w64 (IntKind.u8.wrap (((a.x0.data.getD (Int.toNat a.x4) 0).toNat : Int) - 97))) + 10)))) (w64 (a.x4 + 1))))) else (some (.inl (U9.mk a.x0 (w64 ((w64 ((16 : Int) * a.x3)) + (w64 (IntKind.u8.wrap (((a.x0.data.getD (Int.toNat a.x4) 0).toNat : Int) - 48))))) (w64 (a.x4 + 1)))))) else none) else (some (.inr a.x3)))
noncomputable def Xp.s (k : Nat) : GR := iter (SB ) k
theorem Xp.cv (a : U9) : Cv (fun k => Xp.s k a) (loopW (SB ) a) := Cv.iter (fun a => by exact .const _) a
noncomputable def Xp : GR := loopW (SB )
noncomputable abbrev QjK {ρ R : Type} (a : U9) (k0 : Int → Tr ρ R) : Tr ρ R := .loop (loopAt pp 88 3) (EV a) (Xp a) SA k0
noncomputable def QjL (a : U9) : Tr (U9 ⊕ Int) XS := (.as (decide (a.x4 < (zz a.x0))) (let u37 := (in1 a.x4 (zz a.x0)); .as u37 (.yes u37 (.as (decide ((gb a.x0 a.x4) ≥ 97)) (.yes u37 (lf EV (U9.mk a.x0 (w64 ((w64 ((zi 16) * a.x3)) + (w64 ((w64 (IntKind.u8.wrap ((gb a.x0 a.x4) - 97))) + 10)))) (w64 (a.x4 + 1))))) (lf EV (U9.mk a.x0 (w64 ((w64 ((zi 16) * a.x3)) + (w64 (IntKind.u8.wrap ((gb a.x0 a.x4) - 48))))) (w64 (a.x4 + 1)))))) .fail) (rx SA a.x3))
theorem Xp.ok {a : U9} {r : Int} (h : Xp a = some r) : lw 0 88 (loopAt pp 88 3) (EV a) = some (SA r) := by
 refine lpP h QjL fun a => ?_
 exact ⟨rfl,fun q0 => ⟨rfl,fun q1 => ⟨q1,⟨rfl,fun q2 => ⟨q1,rfl⟩,fun q2 => rfl⟩⟩,fun q1 => trivial⟩,fun q0 => rfl⟩
def PH (L0 : GR) (a0 : ByteArray) : Option Int := ((L0 (U9.mk a0 (0 : Int) (0 : Int))).bind (fun (o1 : Int) => (some o1)))
theorem Qol {L0 : Nat → GR} {M0 : GR} (N0 : Cv1 L0 M0) (a0 : ByteArray) : Cv (fun k => PH (L0 k) a0) (PH M0 a0) := by
 unfold PH
 exact .bind (N0 _) (fun o1 => by exact .const _)
noncomputable def Yl : Qki := PH Xp
noncomputable def Qom (a0 : ByteArray) : Tr Int AH := (QjK (U9.mk a0 i0 i0) (fun o1 => (rt Qe o1)))
theorem Yl.ok {a0 : ByteArray} {r : Int} (h : Yl a0 = some r) : ww 88 [xs a0] [] = some (Qe r) := by
 refine fnP (Qom a0) ?_ h
 exact fun o1 h => ⟨Xp.ok h,rfl⟩
noncomputable abbrev Qon {ρ R : Type} (a0 : ByteArray) (k : Int → Tr ρ R) : Tr ρ R := .call (ww 88 [xs a0] []) (Yl a0) Qe k
noncomputable def Yl.s : Nat → ByteArray → Option Int
 | 0,_ => none
 | k + 1,a0 => PH (Xp.s k) a0
theorem Yl.cv (a0 : ByteArray) : Cv (fun k => Yl.s k a0) (Yl a0) := .un rfl (Qol Xp.cv a0)
abbrev QaU := Int → Option Int
def Fi (a0 : Int) : Option Int := (bif (decide (a0 > 7)) then (some (w64 (a0 - 16))) else (some a0))
noncomputable def Wj : QaU := Fi
theorem Wj.eq (a0 : Int) : Wj a0 = Fi a0 := rfl
noncomputable def Qm1 (a0 : Int) : Tr Int AH := (.as (decide (a0 > 7)) (rt Qe (w64 (a0 - 16))) (rt Qe a0))
theorem Wj.ok {a0 : Int} {r : Int} (h : Wj a0 = some r) : ww 136 [xi a0] [] = some (Qe r) := by
 refine fnP (Qm1 a0) ?_ h
 exact ⟨rfl,fun q0 => rfl,fun q0 => rfl⟩
noncomputable abbrev QgJ {ρ R : Type} (a0 : Int) (k : Int → Tr ρ R) : Tr ρ R := .call (ww 136 [xi a0] []) (Wj a0) Qe k
noncomputable def Wj.s : Nat → Int → Option Int
 | 0,_ => none
 | k + 1,a0 => Fi a0
theorem Wj.cv (a0 : Int) : Cv (fun k => Wj.s k a0) (Wj a0) := .un rfl (by exact .const _)
def Zo (r : (Int × Int × Int)) : AV × Heap := (.tup [xi r.1,xi r.2.1,xi r.2.2],[])
abbrev Sc := Int → Option (Int × Int × Int)
def F1 (a0 : Int) : Option (Int × Int × Int) := (some ((andI .i64 (shrI .i64 a0 (16 : Int)) (15 : Int)),(andI .i64 (shrI .i64 a0 (11 : Int)) (31 : Int)),(andI .i64 a0 (2047 : Int))))
noncomputable def Vj : Sc := F1
theorem Vj.eq (a0 : Int) : Vj a0 = F1 a0 := rfl
noncomputable def Qly (a0 : Int) : Tr (Int × Int × Int) AH := (.yes (decide (0 ≤ (zi 16))) (.yes (decide (0 ≤ (zi 11))) (rt Zo ((andI .i64 (shrI .i64 a0 (zi 16)) (zi 15)),(andI .i64 (shrI .i64 a0 (zi 11)) (zi 31)),(andI .i64 a0 (zi 2047))))))
theorem Vj.ok {a0 : Int} {r : (Int × Int × Int)} (h : Vj a0 = some r) : ww 186 [xi a0] [] = some (Zo r) := by
 refine fnP (Qly a0) ?_ h
 exact ⟨rfl,⟨rfl,rfl⟩⟩
noncomputable abbrev Qlz {ρ R : Type} (a0 : Int) (k : (Int × Int × Int) → Tr ρ R) : Tr ρ R := .call (ww 186 [xi a0] []) (Vj a0) Zo k
noncomputable def Vj.s : Nat → Int → Option (Int × Int × Int)
 | 0,_ => none
 | k + 1,a0 => F1 a0
theorem Vj.cv (a0 : Int) : Cv (fun k => Vj.s k a0) (Vj a0) := .un rfl (by exact .const _)
abbrev QaV := ByteArray → Int → Option Int
def Gj (C0 : Sc) (C1 : Z3) (a0 : ByteArray) (a1 : Int) : Option Int := (bif (eqS a0 s_D) then (some (shlI .i64 a1 (21 : Int))) else (bif (eqS a0 s_A) then (some (shlI .i64 a1 (16 : Int))) else (bif (eqS a0 s_I4) then (some (shlI .i64 a1 (16 : Int))) else (bif (eqS a0 s_B) then (some (shlI .i64 a1 (11 : Int))) else (bif (eqS a0 VZ) then (some (andI .i64 a1 (65535 : Int))) else (bif (eqS a0 V0) then (some (andI .i64 a1 (65535 : Int))) else (bif (eqS a0 Ue) then (some (andI .i64 a1 (33554431 : Int))) else (bif (eqS a0 s_O2) then (some (shlI .i64 a1 (20 : Int))) else (bif (eqS a0 VY) then ((C0 a1).bind fun r1 => (some (orI .i64 (orI .i64 (shlI .i64 r1.1 (11 : Int)) (shlI .i64 r1.2.1 (16 : Int))) r1.2.2))) else ((C1 a1).bind fun r2 => (some (orI .i64 (orI .i64 (shlI .i64 r2.1 (10 : Int)) (shlI .i64 r2.2.1 (8 : Int))) r2.2.2.1))))))))))))
theorem Qm2 {C0 : Nat → Sc} {D0 : Sc} (H0 : Cv1 C0 D0) {C1 : Nat → Z3} {D1 : Z3} (H1 : Cv1 C1 D1) (a0 : ByteArray) (a1 : Int) : Cv (fun k => Gj (C0 k) (C1 k) a0 a1) (Gj D0 D1 a0 a1) := by
 unfold Gj
 exact .cond cst (.cond cst (.cond cst (.cond cst (.cond cst (.cond cst (.cond cst (.cond cst (.cond (.bind (H0 _) fun r1 => by exact .const _) (.bind (H1 _) fun r2 => by exact .const _)))))))))
noncomputable def QK : QaV := Gj Vj US
theorem QK.eq (a0 : ByteArray) (a1 : Int) : QK a0 a1 = Gj Vj US a0 a1 := rfl
noncomputable def Qm3 (a0 : ByteArray) (a1 : Int) : Tr Int AH := (.as (eqS a0 s_D) (.yes (decide (0 ≤ (zi 21))) (rt Qe (shlI .i64 a1 (zi 21)))) (let u39 := (eqS a0 s_A); .as u39 (.yes u39 (.yes (decide (0 ≤ (zi 16))) (rt Qe (shlI .i64 a1 (zi 16))))) (.as (eqS a0 s_I4) (.yes (decide (0 ≤ (zi 16))) (rt Qe (shlI .i64 a1 (zi 16)))) (.as (eqS a0 s_B) (.yes (decide (0 ≤ (zi 11))) (rt Qe (shlI .i64 a1 (zi 11)))) (let u38 := (eqS a0 VZ); .as u38 (.yes u38 (rt Qe (andI .i64 a1 (zi 65535)))) (.as (eqS a0 V0) (rt Qe (andI .i64 a1 (zi 65535))) (.as (eqS a0 Ue) (rt Qe (andI .i64 a1 (zi 33554431))) (.as (eqS a0 s_O2) (.yes (decide (0 ≤ (zi 20))) (rt Qe (shlI .i64 a1 (zi 20)))) (.as (eqS a0 VY) (Qlz a1 fun r1 => (.yes (decide (0 ≤ (zi 11))) (.yes (decide (0 ≤ (zi 16))) (rt Qe (orI .i64 (orI .i64 (shlI .i64 r1.1 (zi 11)) (shlI .i64 r1.2.1 (zi 16))) r1.2.2))))) (QgH a1 fun r2 => (.yes (decide (0 ≤ (zi 10))) (.yes (decide (0 ≤ (zi 8))) (rt Qe (orI .i64 (orI .i64 (shlI .i64 r2.1 (zi 10)) (shlI .i64 r2.2.1 (zi 8))) r2.2.2.1))))))))))))))
theorem QK.ok {a0 : ByteArray} {a1 : Int} {r : Int} (h : QK a0 a1 = some r) : ww 137 [xs a0,xi a1] [] = some (Qe r) := by
 refine fnP (Qm3 a0 a1) ?_ h
 exact ⟨rfl,fun q0 => ⟨rfl,rfl⟩,fun q0 => ⟨rfl,fun q1 => ⟨q1,⟨rfl,rfl⟩⟩,fun q1 => ⟨rfl,fun q2 => ⟨rfl,rfl⟩,fun q2 => ⟨rfl,fun q3 => ⟨rfl,rfl⟩,fun q3 => ⟨rfl,fun q4 => ⟨q4,rfl⟩,fun q4 => ⟨rfl,fun q5 => rfl,fun q5 => ⟨rfl,fun q6 => rfl,fun q6 => ⟨rfl,fun q7 => ⟨rfl,rfl⟩,fun q7 => ⟨rfl,fun q8 => fun r1 h => ⟨Vj.ok h,⟨rfl,⟨rfl,rfl⟩⟩⟩,fun q8 => fun r2 h => ⟨US.ok h,⟨rfl,⟨rfl,rfl⟩⟩⟩⟩⟩⟩⟩⟩⟩⟩⟩⟩
noncomputable abbrev Qm4 {ρ R : Type} (a0 : ByteArray) (a1 : Int) (k : Int → Tr ρ R) : Tr ρ R := .call (ww 137 [xs a0,xi a1] []) (QK a0 a1) Qe k
noncomputable def QK.s : Nat → ByteArray → Int → Option Int
 | 0,_,_ => none
 | k + 1,a0,a1 => Gj (Vj.s k) (US.s k) a0 a1
theorem QK.cv (a0 : ByteArray) (a1 : Int) : Cv (fun k => QK.s k a0 a1) (QK a0 a1) := .un rfl (Qm2 Vj.cv US.cv a0 a1)
abbrev Qkj := ByteArray → Int → Option Int
def ED (C0 : QaU) (C1 : QaV) (a0 : ByteArray) (a1 : Int) : Option Int := (bif (eqS a0 s_X) then ((C0 a1).bind fun r1 => (some r1)) else (bif (eqS a0 s_Y) then ((C0 a1).bind fun r2 => (some (shlI .i64 r2 (4 : Int)))) else (bif (eqS a0 s_U5) then (some (shlI .i64 a1 (4 : Int))) else (bif (eqS a0 s_U7) then (some (shlI .i64 a1 (4 : Int))) else (bif (eqS a0 s_O5) then (some (shlI .i64 (w64 (a1 - 1)) (4 : Int))) else (bif (eqS a0 s_M1) then (some (shlI .i64 a1 (8 : Int))) else (bif (eqS a0 s_I2) then (some (shlI .i64 a1 (8 : Int))) else (bif (eqS a0 s_M2) then (some (shlI .i64 (w64 (Int.tdiv a1 (2 : Int))) (8 : Int))) else (bif (eqS a0 s_M4) then (some (shlI .i64 (w64 (Int.tdiv a1 (4 : Int))) (8 : Int))) else (bif (eqS a0 s_O1) then (some (shlI .i64 a1 (10 : Int))) else (bif (eqS a0 s_T8) then (some (andI .i64 (w64 (Int.tdiv a1 (2 : Int))) (255 : Int))) else ((C1 a0 a1).bind fun r3 => (some r3)))))))))))))
theorem Qoo {C0 : Nat → QaU} {D0 : QaU} (H0 : Cv1 C0 D0) {C1 : Nat → QaV} {D1 : QaV} (H1 : Cv2 C1 D1) (a0 : ByteArray) (a1 : Int) : Cv (fun k => ED (C0 k) (C1 k) a0 a1) (ED D0 D1 a0 a1) := by
 unfold ED
 exact .cond (.bind (H0 _) fun r1 => by exact .const _) (.cond (.bind (H0 _) fun r2 => by exact .const _) (.cond cst (.cond cst (.cond cst (.cond cst (.cond cst (.cond cst (.cond cst (.cond cst (.cond cst (.bind (H1 _ _) fun r3 => by exact .const _)))))))))))
noncomputable def QV : Qkj := ED Wj QK
theorem QV.eq (a0 : ByteArray) (a1 : Int) : QV a0 a1 = ED Wj QK a0 a1 := rfl
noncomputable def Qop (a0 : ByteArray) (a1 : Int) : Tr Int AH := (.as (eqS a0 s_X) (QgJ a1 fun r1 => (rt Qe r1)) (.as (eqS a0 s_Y) (QgJ a1 fun r2 => (.yes (decide (0 ≤ (zi 4))) (rt Qe (shlI .i64 r2 (zi 4))))) (let u41 := (eqS a0 s_U5); .as u41 (.yes u41 (.yes (decide (0 ≤ (zi 4))) (rt Qe (shlI .i64 a1 (zi 4))))) (.as (eqS a0 s_U7) (.yes (decide (0 ≤ (zi 4))) (rt Qe (shlI .i64 a1 (zi 4)))) (.as (eqS a0 s_O5) (.yes (decide (0 ≤ (zi 4))) (rt Qe (shlI .i64 (w64 (a1 - 1)) (zi 4)))) (let u40 := (eqS a0 s_M1); .as u40 (.yes u40 (.yes (decide (0 ≤ (zi 8))) (rt Qe (shlI .i64 a1 (zi 8))))) (.as (eqS a0 s_I2) (.yes (decide (0 ≤ (zi 8))) (rt Qe (shlI .i64 a1 (zi 8)))) (.as (eqS a0 s_M2) (.yes (decide ((zi 2) ≠ 0)) (.yes (decide (0 ≤ (zi 8))) (rt Qe (shlI .i64 (w64 (Int.tdiv a1 (zi 2))) (zi 8))))) (.as (eqS a0 s_M4) (.yes (decide ((zi 4) ≠ 0)) (.yes (decide (0 ≤ (zi 8))) (rt Qe (shlI .i64 (w64 (Int.tdiv a1 (zi 4))) (zi 8))))) (.as (eqS a0 s_O1) (.yes (decide (0 ≤ (zi 10))) (rt Qe (shlI .i64 a1 (zi 10)))) (.as (eqS a0 s_T8) (.yes (decide ((zi 2) ≠ 0)) (rt Qe (andI .i64 (w64 (Int.tdiv a1 (zi 2))) (zi 255)))) (Qm4 a0 a1 fun r3 => (rt Qe r3)))))))))))))
theorem QV.ok {a0 : ByteArray} {a1 : Int} {r : Int} (h : QV a0 a1 = some r) : ww 89 [xs a0,xi a1] [] = some (Qe r) := by
 refine fnP (Qop a0 a1) ?_ h
 exact ⟨rfl,fun q0 => fun r1 h => ⟨Wj.ok h,rfl⟩,fun q0 => ⟨rfl,fun q1 => fun r2 h => ⟨Wj.ok h,⟨rfl,rfl⟩⟩,fun q1 => ⟨rfl,fun q2 => ⟨q2,⟨rfl,rfl⟩⟩,fun q2 => ⟨rfl,fun q3 => ⟨rfl,rfl⟩,fun q3 => ⟨rfl,fun q4 => ⟨rfl,rfl⟩,fun q4 => ⟨rfl,fun q5 => ⟨q5,⟨rfl,rfl⟩⟩,fun q5 => ⟨rfl,fun q6 => ⟨rfl,rfl⟩,fun q6 => ⟨rfl,fun q7 => ⟨rfl,⟨rfl,rfl⟩⟩,fun q7 => ⟨rfl,fun q8 => ⟨rfl,⟨rfl,rfl⟩⟩,fun q8 => ⟨rfl,fun q9 => ⟨rfl,rfl⟩,fun q9 => ⟨rfl,fun q10 => ⟨rfl,rfl⟩,fun q10 => fun r3 h => ⟨QK.ok h,rfl⟩⟩⟩⟩⟩⟩⟩⟩⟩⟩⟩⟩
noncomputable abbrev Qoq {ρ R : Type} (a0 : ByteArray) (a1 : Int) (k : Int → Tr ρ R) : Tr ρ R := .call (ww 89 [xs a0,xi a1] []) (QV a0 a1) Qe k
noncomputable def QV.s : Nat → ByteArray → Int → Option Int
 | 0,_,_ => none
 | k + 1,a0,a1 => ED (Wj.s k) (QK.s k) a0 a1
theorem QV.cv (a0 : ByteArray) (a1 : Int) : Cv (fun k => QV.s k a0 a1) (QV a0 a1) := .un rfl (Qoo Wj.cv QK.cv a0 a1)
def ZF (r : ((List Int) × Bool)) : AV × Heap := (.tup [.sl (R_u8 r.1),xo r.2],[])
abbrev QeU := Qi → Option ((List Int) × Bool)
structure Uz where
 x7 : (List ByteArray)
 x8 : Int
 x9 : Int
 h0 : Qi
 h1 : Qz
structure V2 where
 x8 : Int
 h0 : Qz
def EE (a : Uz) : St := { n := 66,nx := 2,env := [(1,.ptr 0 0),(4,.ptr 1 0),(7,.sl (Qc a.x7)),(8,xi a.x8),(9,xi a.x9)],heap := [(0,.box [0,101] (Vw a.h0)),(1,.box [] (Ez a.h1))] }
def EF (a : V2) : Ex × St := (.exit 0,{ n := 66,nx := 1,env := [(4,.ptr 0 0),(8,xi a.x8)],heap := [(0,.box [] (Ez a.h0))] })
abbrev Qbz := Uz → Option V2
def Zp (C0 : Qkj) (a : Uz) : Option (Uz ⊕ V2) := (bif (decide (a.x9 < (((a.x7.length) : Nat) : Int))) then (bif (decide (0 ≤ a.x9)) then ((a.x7[(Int.toNat a.x9)]?).bind fun e1 => ((a.h0.F[(Int.toNat a.x9)]?).bind fun e2 => ((C0 e1 e2).bind fun r3 => (some (.inl (Uz.mk a.x7 (orI .i64 a.x8 r3) (w64 (a.x9 + 1)) a.h0 a.h1)))))) else none) else (some (.inr (V2.mk a.x8 a.h1))))
noncomputable def UJ : Qbz := loopW (Zp QV)
theorem UJ.eq (a : Uz) : UJ a = (Zp QV a).bind (Sum.elim UJ some) := Jc _ _
noncomputable abbrev QfS {ρ R : Type} (a : Uz) (k0 : V2 → Tr ρ R) : Tr ρ R := .loop (loopAt pp 42 7) (EE a) (UJ a) EF k0
noncomputable def QfT (a : Uz) : Tr (Uz ⊕ V2) XS := (.num ((Qc a.x7).length) (a.x7.length) (.as (decide (a.x9 < (((a.x7.length) : Nat) : Int))) (let u42 := (decide (0 ≤ a.x9)); .as u42 (.row ((Qc a.x7)[(Int.toNat a.x9)]?) (a.x7[(Int.toNat a.x9)]?) J7 fun (e1 : ByteArray) => (.yes u42 (.row ((Qr a.h0.F)[(Int.toNat a.x9)]?) (a.h0.F[(Int.toNat a.x9)]?) VX fun (e2 : Int) => (Qoq e1 e2 fun r3 => (lf EE (Uz.mk a.x7 (orI .i64 a.x8 r3) (w64 (a.x9 + 1)) a.h0 a.h1)))))) .fail) (rx EF (V2.mk a.x8 a.h1))))
theorem UJ.ok {a : Uz} {r : V2} (h : UJ a = some r) : lw 0 42 (loopAt pp 42 7) (EE a) = some (EF r) := by
 refine lpP h QfT fun a => ?_
 exact ⟨(Qk _),⟨rfl,fun q0 => ⟨rfl,fun q1 => fun e1 h => ⟨Jp h,⟨q1,fun e2 h => ⟨J6 h,fun r3 h => ⟨QV.ok h,rfl⟩⟩⟩⟩,fun q1 => trivial⟩,fun q0 => rfl⟩⟩
def EW (C0 : QgI) (C1 : Z2) (C2 : Fg) (C3 : Qki) (L4 : Qbz) (a0 : Qi) : Option ((List Int) × Bool) := ((C0 a0).bind fun r1 => (bif (!r1) then (some (([] : List Int),false)) else ((C1 a0.Op h_20).bind fun r2 => ((C2 r2.1.Kinds).bind fun r3 => ((C3 r2.1.Bits).bind fun r4 => ((L4 (Uz.mk r3 r4 (0 : Int) a0 r2.1)).bind (fun (o5 : V2) => (bif (((o5.h0.Bits.size : Nat) : Int) == 4) then (some ([(IntKind.u8.wrap (shrI .i64 o5.x8 (8 : Int))),(IntKind.u8.wrap o5.x8)],true)) else (some ([(IntKind.u8.wrap (shrI .i64 o5.x8 (24 : Int))),(IntKind.u8.wrap (shrI .i64 o5.x8 (16 : Int))),(IntKind.u8.wrap (shrI .i64 o5.x8 (8 : Int))),(IntKind.u8.wrap o5.x8)],true))))))))))
noncomputable def V9 : QeU := EW V8 Uy JF Yl UJ
theorem V9.eq (a0 : Qi) : V9 a0 = EW V8 Uy JF Yl UJ a0 := rfl
noncomputable def QjM (a0 : Qi) : Tr ((List Int) × Bool) AH := (Qlx a0 fun r1 => (.as (!r1) (rt ZF (([] : List Int),false)) (Gh a0.Op h_20 fun r2 => (FZ r2.1.Kinds fun r3 => (Qon r2.1.Bits fun r4 => (QfS (Uz.mk r3 r4 i0 a0 r2.1) (fun o5 => (.as ((zz o5.h0.Bits) == 4) (.yes (decide (0 ≤ (zi 8))) (.rows [[xb (IntKind.u8.wrap (shrI .i64 o5.x8 (zi 8)))],[xb (IntKind.u8.wrap o5.x8)]] (R_u8 [(IntKind.u8.wrap (shrI .i64 o5.x8 (zi 8))),(IntKind.u8.wrap o5.x8)]) (rt ZF ([(IntKind.u8.wrap (shrI .i64 o5.x8 (zi 8))),(IntKind.u8.wrap o5.x8)],true)))) (.yes (decide (0 ≤ (zi 24))) (.yes (decide (0 ≤ (zi 16))) (.yes (decide (0 ≤ (zi 8))) (.rows [[xb (IntKind.u8.wrap (shrI .i64 o5.x8 (zi 24)))],[xb (IntKind.u8.wrap (shrI .i64 o5.x8 (zi 16)))],[xb (IntKind.u8.wrap (shrI .i64 o5.x8 (zi 8)))],[xb (IntKind.u8.wrap o5.x8)]] (R_u8 [(IntKind.u8.wrap (shrI .i64 o5.x8 (zi 24))),(IntKind.u8.wrap (shrI .i64 o5.x8 (zi 16))),(IntKind.u8.wrap (shrI .i64 o5.x8 (zi 8))),(IntKind.u8.wrap o5.x8)]) (rt ZF ([(IntKind.u8.wrap (shrI .i64 o5.x8 (zi 24))),(IntKind.u8.wrap (shrI .i64 o5.x8 (zi 16))),(IntKind.u8.wrap (shrI .i64 o5.x8 (zi 8))),(IntKind.u8.wrap o5.x8)],true))))))))))))))
theorem V9.ok {a0 : Qi} {r : ((List Int) × Bool)} (h : V9 a0 = some r) : ww 42 [.agg (Vw a0)] [] = some (ZF r) := by
 refine fnP (QjM a0) ?_ h
 exact fun r1 h => ⟨V8.ok h,⟨rfl,fun q0 => rfl,fun q0 => fun r2 h => ⟨Uy.ok h,fun r3 h => ⟨JF.ok h,fun r4 h => ⟨Yl.ok h,fun o5 h => ⟨UJ.ok h,⟨rfl,fun q1 => ⟨rfl,⟨(Yz [(IntKind.u8.wrap (shrI .i64 o5.x8 (8 : Int))),(IntKind.u8.wrap o5.x8)]),rfl⟩⟩,fun q1 => ⟨rfl,⟨rfl,⟨rfl,⟨(Yz [(IntKind.u8.wrap (shrI .i64 o5.x8 (24 : Int))),(IntKind.u8.wrap (shrI .i64 o5.x8 (16 : Int))),(IntKind.u8.wrap (shrI .i64 o5.x8 (8 : Int))),(IntKind.u8.wrap o5.x8)]),rfl⟩⟩⟩⟩⟩⟩⟩⟩⟩⟩⟩
noncomputable abbrev QjN {ρ R : Type} (a0 : Qi) (k : ((List Int) × Bool) → Tr ρ R) : Tr ρ R := .call (ww 42 [.agg (Vw a0)] []) (V9 a0) ZF k
abbrev QeV := Int → Int → Option Int
def QdC (a0 : Int) (a1 : Int) : Option Int := (bif (decide (a1 ≠ 0)) then (bif (decide ((Int.tmod a0 a1) < 0)) then (some (w64 ((Int.tmod a0 a1) + a1))) else (some (Int.tmod a0 a1))) else none)
noncomputable def Xa : QeV := QdC
theorem Xa.eq (a0 : Int) (a1 : Int) : Xa a0 a1 = QdC a0 a1 := rfl
noncomputable def QjO (a0 : Int) (a1 : Int) : Tr Int AH := (.as (decide (a1 ≠ 0)) (.as (decide ((Int.tmod a0 a1) < 0)) (rt Qe (w64 ((Int.tmod a0 a1) + a1))) (rt Qe (Int.tmod a0 a1))) .fail)
theorem Xa.ok {a0 : Int} {a1 : Int} {r : Int} (h : Xa a0 a1 = some r) : ww 43 [xi a0,xi a1] [] = some (Qe r) := by
 refine fnP (QjO a0 a1) ?_ h
 exact ⟨rfl,fun q0 => ⟨rfl,fun q1 => rfl,fun q1 => rfl⟩,fun q0 => trivial⟩
noncomputable abbrev QdD {ρ R : Type} (a0 : Int) (a1 : Int) (k : Int → Tr ρ R) : Tr ρ R := .call (ww 43 [xi a0,xi a1] []) (Xa a0 a1) Qe k
def QaW (r : (List Int)) : AV × Heap := (.sl (R_u8 r),[])
abbrev QgK := (List Int) → (List Int) → (List Int) → Option (List Int)
structure UU where
 x0 : (List Int)
 x1 : (List Int)
 x2 : (List Int)
 x8 : Int
 x10 : Int
 r0 : (List Int)
 r1 : (List Int)
structure Vk where
 x0 : (List Int)
 x1 : (List Int)
 x2 : (List Int)
 x8 : Int
 r0 : (List Int)
 r1 : (List Int)
def FE (a : UU) : St := { n := 79,nx := 2,env := [(0,.sl (Qr a.x0)),(1,.sl (Qr a.x1)),(2,.sl (R_u8 a.x2)),(7,.arr 0),(8,xi a.x8),(9,.arr 1),(10,xi a.x10)],heap := [(0,.arr true 1 (R_u8 a.r0)),(1,.arr true 1 (Qr a.r1))] }
def ZP (a : Vk) : Ex × St := (.exit 2,{ n := 79,nx := 2,env := [(0,.sl (Qr a.x0)),(1,.sl (Qr a.x1)),(2,.sl (R_u8 a.x2)),(7,.arr 0),(8,xi a.x8),(9,.arr 1)],heap := [(0,.arr true 1 (R_u8 a.r0)),(1,.arr true 1 (Qr a.r1))] })
abbrev Qcm := UU → Option Vk
def ZQ (a : UU) : Option (UU ⊕ Vk) := (bif (decide (a.x10 < 3)) then (bif (decide ((((a.x1.length) : Nat) : Int) > 0)) then (bif (decide ((((a.x1.length) : Nat) : Int) ≠ 0)) then (bif (decide (0 ≤ (Int.tmod (w64 (a.x8 + a.x10)) (((a.x1.length) : Nat) : Int)))) then ((a.x1[(Int.toNat (Int.tmod (w64 (a.x8 + a.x10)) (((a.x1.length) : Nat) : Int)))]?).bind fun e1 => (bif (decide ((a.r1.length + [e1].length) * 8 ≤ most)) then (some (.inl (UU.mk a.x0 a.x1 a.x2 a.x8 (w64 (a.x10 + 1)) a.r0 (a.r1 ++ [e1])))) else none)) else none) else none) else (some (.inr (Vk.mk a.x0 a.x1 a.x2 a.x8 a.r0 a.r1)))) else (some (.inr (Vk.mk a.x0 a.x1 a.x2 a.x8 a.r0 a.r1))))
noncomputable def VM : Qcm := loopW (ZQ )
theorem VM.eq (a : UU) : VM a = (ZQ a).bind (Sum.elim VM some) := Jc _ _
noncomputable abbrev Qhr {ρ R : Type} (a : UU) (k0 : Vk → Tr ρ R) : Tr ρ R := .loop (loopAt pp 16 7) (FE a) (VM a) ZP k0
noncomputable def Qhs (a : UU) : Tr (UU ⊕ Vk) XS := (let u43 := (decide (a.x10 < 3)); .as u43 (.yes u43 (.num ((Qr a.x1).length) (a.x1.length) (yesN 2 u43 (.as (decide ((((a.x1.length) : Nat) : Int) > 0)) (.num ((Qr a.x1).length) (a.x1.length) (.as (decide ((((a.x1.length) : Nat) : Int) ≠ 0)) (.as (decide (0 ≤ (Int.tmod (w64 (a.x8 + a.x10)) (((a.x1.length) : Nat) : Int)))) (.row ((Qr a.x1)[(Int.toNat (Int.tmod (w64 (a.x8 + a.x10)) (((a.x1.length) : Nat) : Int)))]?) (a.x1[(Int.toNat (Int.tmod (w64 (a.x8 + a.x10)) (((a.x1.length) : Nat) : Int)))]?) VX fun (e1 : Int) => (.rows [[xi e1]] (Qr [e1]) (.yes (decide ((Qr [e1]).all (fun r => r.length == 1) = true)) (.ask (decide (((Qr a.r1).length + (Qr [e1]).length) * 8 ≤ most)) (decide ((a.r1.length + [e1].length) * 8 ≤ most)) (.rows ((Qr a.r1) ++ (Qr [e1])) (Qr (a.r1 ++ [e1])) (lf FE (UU.mk a.x0 a.x1 a.x2 a.x8 (w64 (a.x10 + 1)) a.r0 (a.r1 ++ [e1])))) .fail)))) .fail) .fail)) (rx ZP (Vk.mk a.x0 a.x1 a.x2 a.x8 a.r0 a.r1)))))) (noN 3 u43 (.no false (rx ZP (Vk.mk a.x0 a.x1 a.x2 a.x8 a.r0 a.r1)))))
theorem VM.ok {a : UU} {r : Vk} (h : VM a = some r) : lw 0 16 (loopAt pp 16 7) (FE a) = some (ZP r) := by
 refine lpP h Qhs fun a => ?_
 exact ⟨rfl,fun q0 => ⟨q0,⟨(Js _),Qh 2 (q0) (⟨rfl,fun q1 => ⟨(Js _),⟨rfl,fun q2 => ⟨rfl,fun q3 => fun e1 h => ⟨J6 h,⟨(JT [e1]),⟨(decide_eq_true (P8 _)),⟨(by rw [Js,Js]),fun q4 => ⟨(Gv _ _),rfl⟩,fun q4 => trivial⟩⟩⟩⟩,fun q3 => trivial⟩,fun q2 => trivial⟩⟩,fun q1 => rfl⟩)⟩⟩,fun q0 => noN_ok 3 (q0) (⟨rfl,rfl⟩)⟩
structure Um where
 x0 : (List Int)
 x1 : (List Int)
 x2 : (List Int)
 x8 : Int
 r0 : (List Int)
def ZR (a : Um) : St := { n := 79,nx := 1,env := [(0,.sl (Qr a.x0)),(1,.sl (Qr a.x1)),(2,.sl (R_u8 a.x2)),(7,.arr 0),(8,xi a.x8)],heap := [(0,.arr true 1 (R_u8 a.r0))] }
def ZS (a : (List Int)) : Ex × St := (.exit 0,{ n := 79,nx := 1,env := [(7,.arr 0)],heap := [(0,.arr true 1 (R_u8 a))] })
abbrev Qcn := Um → Option (List Int)
def ZT (C0 : Qir) (C1 : QeU) (C2 : QeV) (L3 : Qcm) (a : Um) : Option (Um ⊕ (List Int)) := (bif (decide (a.x8 < (((a.x0.length) : Nat) : Int))) then (bif (decide (a.x8 < 30)) then ((L3 (UU.mk a.x0 a.x1 a.x2 a.x8 (0 : Int) a.r0 ([] : List Int))).bind (fun (o1 : Vk) => (bif (decide (0 ≤ o1.x8)) then ((o1.x0[(Int.toNat o1.x8)]?).bind fun e2 => ((C0 e2 o1.r1).bind fun r3 => ((C1 (Qi.mk r3.1 r3.2)).bind fun r4 => (bif (decide ((o1.r0.length + r4.1.length) * 1 ≤ most)) then ((o1.x0[(Int.toNat o1.x8)]?).bind fun e5 => ((C2 (w64 (Int.tdiv e5 (70 : Int))) (5 : Int)).bind fun r6 => (bif (r6 == 0) then ((o1.x0[(Int.toNat o1.x8)]?).bind fun e7 => ((C2 e7 (w64 ((((o1.x2.length) : Nat) : Int) + 1))).bind fun r8 => (bif (decide (0 ≤ (0 : Int) ∧ (0 : Int) ≤ r8 ∧ r8 ≤ ((o1.x2.length : Nat) : Int))) then (bif (decide (((o1.r0 ++ r4.1).length + ((o1.x2.drop (Int.toNat 0)).take (Int.toNat (r8 - 0))).length) * 1 ≤ most)) then (some (.inl (Um.mk o1.x0 o1.x1 o1.x2 (w64 (o1.x8 + 1)) ((o1.r0 ++ r4.1) ++ ((o1.x2.drop (Int.toNat 0)).take (Int.toNat (r8 - 0))))))) else none) else none))) else (some (.inl (Um.mk o1.x0 o1.x1 o1.x2 (w64 (o1.x8 + 1)) (o1.r0 ++ r4.1))))))) else none)))) else none))) else (some (.inr a.r0))) else (some (.inr a.r0)))
noncomputable def VN : Qcn := loopW (ZT YP V9 Xa VM)
theorem VN.eq (a : Um) : VN a = (ZT YP V9 Xa VM a).bind (Sum.elim VN some) := Jc _ _
noncomputable abbrev Qht {ρ R : Type} (a : Um) (k0 : (List Int) → Tr ρ R) : Tr ρ R := .loop (loopAt pp 16 3) (ZR a) (VN a) ZS k0
noncomputable def Qhu (a : Um) : Tr (Um ⊕ (List Int)) XS := (.num ((Qr a.x0).length) (a.x0.length) (let u45 := (decide (a.x8 < (((a.x0.length) : Nat) : Int))); .as u45 (yesN 2 u45 (.as (decide (a.x8 < 30)) (Qhr (UU.mk a.x0 a.x1 a.x2 a.x8 i0 a.r0 ([] : List Int)) (fun o1 => (let u44 := (decide (0 ≤ o1.x8)); .as u44 (.row ((Qr o1.x0)[(Int.toNat o1.x8)]?) (o1.x0[(Int.toNat o1.x8)]?) VX fun (e2 : Int) => (QmN e2 o1.r1 fun r3 => (QjN (Qi.mk r3.1 r3.2) fun r4 => (.yes (decide ((R_u8 r4.1).all (fun r => r.length == 1) = true)) (.ask (decide (((R_u8 o1.r0).length + (R_u8 r4.1).length) * 1 ≤ most)) (decide ((o1.r0.length + r4.1.length) * 1 ≤ most)) (.rows ((R_u8 o1.r0) ++ (R_u8 r4.1)) (R_u8 (o1.r0 ++ r4.1)) (.yes u44 (.row ((Qr o1.x0)[(Int.toNat o1.x8)]?) (o1.x0[(Int.toNat o1.x8)]?) VX fun (e5 : Int) => (.yes (decide ((zi 70) ≠ 0)) (QdD (w64 (Int.tdiv e5 (zi 70))) (zi 5) fun r6 => (.as (r6 == 0) (.yes u44 (.row ((Qr o1.x0)[(Int.toNat o1.x8)]?) (o1.x0[(Int.toNat o1.x8)]?) VX fun (e7 : Int) => (.num ((R_u8 o1.x2).length) (o1.x2.length) (QdD e7 (w64 ((((o1.x2.length) : Nat) : Int) + 1)) fun r8 => (.yes (decide ((R_u8 o1.x2).all (fun r => r.length == 1) = true)) (.ask (in2 i0 r8 (((R_u8 o1.x2).length : Nat) : Int)) (in2 i0 r8 ((o1.x2.length : Nat) : Int)) (.rows (((R_u8 o1.x2).drop (Int.toNat 0)).take (Int.toNat (r8 - 0))) (R_u8 ((o1.x2.drop (Int.toNat 0)).take (Int.toNat (r8 - 0)))) (.yes (decide ((R_u8 ((o1.x2.drop (Int.toNat 0)).take (Int.toNat (r8 - 0)))).all (fun r => r.length == 1) = true)) (.ask (decide (((R_u8 (o1.r0 ++ r4.1)).length + (R_u8 ((o1.x2.drop (Int.toNat 0)).take (Int.toNat (r8 - 0)))).length) * 1 ≤ most)) (decide (((o1.r0 ++ r4.1).length + ((o1.x2.drop (Int.toNat 0)).take (Int.toNat (r8 - 0))).length) * 1 ≤ most)) (.rows ((R_u8 (o1.r0 ++ r4.1)) ++ (R_u8 ((o1.x2.drop (Int.toNat 0)).take (Int.toNat (r8 - 0))))) (R_u8 ((o1.r0 ++ r4.1) ++ ((o1.x2.drop (Int.toNat 0)).take (Int.toNat (r8 - 0))))) (lf ZR (Um.mk o1.x0 o1.x1 o1.x2 (w64 (o1.x8 + 1)) ((o1.r0 ++ r4.1) ++ ((o1.x2.drop (Int.toNat 0)).take (Int.toNat (r8 - 0))))))) .fail))) .fail)))))) (lf ZR (Um.mk o1.x0 o1.x1 o1.x2 (w64 (o1.x8 + 1)) (o1.r0 ++ r4.1))))))))) .fail))))) .fail))) (rx ZS a.r0))) (noN 2 u45 (.no false (rx ZS a.r0)))))
theorem VN.ok {a : Um} {r : (List Int)} (h : VN a = some r) : lw 0 16 (loopAt pp 16 3) (ZR a) = some (ZS r) := by
 refine lpP h Qhu fun a => ?_
 exact ⟨(Js _),⟨rfl,fun q0 => Qh 2 (q0) (⟨rfl,fun q1 => fun o1 h => ⟨VM.ok h,⟨rfl,fun q2 => fun e2 h => ⟨J6 h,fun r3 h => ⟨YP.ok h,fun r4 h => ⟨V9.ok h,⟨(decide_eq_true (Pj _)),⟨(by rw [Wl,Wl]),fun q3 => ⟨(Qdx _ _),⟨q2,fun e5 h => ⟨J6 h,⟨rfl,fun r6 h => ⟨Xa.ok h,⟨rfl,fun q4 => ⟨q2,fun e7 h => ⟨J6 h,⟨(Wl _),fun r8 h => ⟨Xa.ok h,⟨(decide_eq_true (Pj _)),⟨(by rw [Wl]),fun q5 => ⟨(by rw [QaO]),⟨(decide_eq_true (Pj _)),⟨(by rw [Wl,Wl]),fun q6 => ⟨(Qdx _ _),rfl⟩,fun q6 => trivial⟩⟩⟩,fun q5 => trivial⟩⟩⟩⟩⟩⟩,fun q4 => rfl⟩⟩⟩⟩⟩⟩,fun q3 => trivial⟩⟩⟩⟩⟩,fun q2 => trivial⟩⟩,fun q1 => rfl⟩),fun q0 => noN_ok 2 (q0) (⟨rfl,rfl⟩)⟩⟩
def QaX (L0 : Qcn) (a0 : (List Int)) (a1 : (List Int)) (a2 : (List Int)) : Option (List Int) := ((L0 (Um.mk a0 a1 a2 (0 : Int) ([] : List Int))).bind (fun (o1 : (List Int)) => (some o1)))
noncomputable def X7 : QgK := QaX VN
theorem X7.eq (a0 : (List Int)) (a1 : (List Int)) (a2 : (List Int)) : X7 a0 a1 a2 = QaX VN a0 a1 a2 := rfl
noncomputable def QlA (a0 : (List Int)) (a1 : (List Int)) (a2 : (List Int)) : Tr (List Int) AH := (Qht (Um.mk a0 a1 a2 i0 ([] : List Int)) (fun o1 => (rt QaW o1)))
theorem X7.ok {a0 : (List Int)} {a1 : (List Int)} {a2 : (List Int)} {r : (List Int)} (h : X7 a0 a1 a2 = some r) : ww 16 [.sl (Qr a0),.sl (Qr a1),.sl (R_u8 a2)] [] = some (QaW r) := by
 refine fnP (QlA a0 a1 a2) ?_ h
 exact fun o1 h => ⟨VN.ok h,rfl⟩
noncomputable abbrev QlB {ρ R : Type} (a0 : (List Int)) (a1 : (List Int)) (a2 : (List Int)) (k : (List Int) → Tr ρ R) : Tr ρ R := .call (ww 16 [.sl (Qr a0),.sl (Qr a1),.sl (R_u8 a2)] []) (X7 a0 a1 a2) QaW k
abbrev QgL := Int → Option Int
def QaY (a0 : Int) : Option Int := (bif (decide ((shrI .u8 a0 (4 : Int)) < 8)) then (bif ((andI .u8 (shrI .u8 a0 (4 : Int)) (1 : Int)) == 1) then (some (4 : Int)) else (some (2 : Int))) else (some (2 : Int)))
noncomputable def Xf : QgL := QaY
theorem Xf.eq (a0 : Int) : Xf a0 = QaY a0 := rfl
noncomputable def QlC (a0 : Int) : Tr Int AH := (.yes (decide (0 ≤ (zi 4))) (let u46 := (decide ((shrI .u8 a0 (zi 4)) < 8)); .as u46 (.yes u46 (.yes (decide (0 ≤ (zi 4))) (yesN 3 u46 (.as ((andI .u8 (shrI .u8 a0 (zi 4)) (zi 1)) == 1) (rt Qe (zi 4)) (rt Qe (zi 2)))))) (noN 4 u46 (.no false (rt Qe (zi 2))))))
theorem Xf.ok {a0 : Int} {r : Int} (h : Xf a0 = some r) : ww 138 [xb a0] [] = some (Qe r) := by
 refine fnP (QlC a0) ?_ h
 exact ⟨rfl,⟨rfl,fun q0 => ⟨q0,⟨rfl,Qh 3 (q0) (⟨rfl,fun q1 => rfl,fun q1 => rfl⟩)⟩⟩,fun q0 => noN_ok 4 (q0) (⟨rfl,rfl⟩)⟩⟩
noncomputable abbrev QeW {ρ R : Type} (a0 : Int) (k : Int → Tr ρ R) : Tr ρ R := .call (ww 138 [xb a0] []) (Xf a0) Qe k
def SC (r : (List Qa)) : AV × Heap := (.sl (Wo r),[])
abbrev V3 := Option (List Qa)
def QdE : Option (List Qa) := (some [(Qa.mk Y9 (0 : Int) s_),(Qa.mk GI (1 : Int) s_),(Qa.mk Qah (2 : Int) s_),(Qa.mk Pq (4 : Int) s_),(Qa.mk E8 (6 : Int) s_),(Qa.mk Pw (32 : Int) s_X),(Qa.mk Pv (48 : Int) s_X),(Qa.mk Fb (128 : Int) s_X),(Qa.mk Fc (144 : Int) s_X),(Qa.mk GJ (160 : Int) s_X),(Qa.mk GK (176 : Int) s_X),(Qa.mk GG (192 : Int) s_X),(Qa.mk GE (208 : Int) s_X),(Qa.mk GH (224 : Int) s_X),(Qa.mk GF (240 : Int) s_X),(Qa.mk Qaf (256 : Int) QR),(Qa.mk Po (1024 : Int) QR),(Qa.mk GL (1280 : Int) QR),(Qa.mk PA (1536 : Int) QR),(Qa.mk Pr (3072 : Int) QR),(Qa.mk Fa (3328 : Int) QR),(Qa.mk E6 (8192 : Int) Vx),(Qa.mk GD (8704 : Int) Vx),(Qa.mk Ff (9216 : Int) Vx),(Qa.mk E9 (10752 : Int) Q7),(Qa.mk Qag (17408 : Int) QR),(Qa.mk E7 (17664 : Int) QR),(Qa.mk Pp (17920 : Int) QR),(Qa.mk Qae (18432 : Int) Gy),(Qa.mk GA (24576 : Int) Q7),(Qa.mk GB (25600 : Int) Q7),(Qa.mk GC (26112 : Int) Q7),(Qa.mk Fe (26624 : Int) Q7),(Qa.mk Fd (27648 : Int) Q7),(Qa.mk Ps (32768 : Int) VI),(Qa.mk Px (36864 : Int) VI),(Qa.mk Pt (40960 : Int) VJ),(Qa.mk Py (45056 : Int) VJ),(Qa.mk Pu (49152 : Int) VK),(Qa.mk Pz (53248 : Int) VK),(Qa.mk Qac (57344 : Int) W8),(Qa.mk Qcd (59392 : Int) s_T8),(Qa.mk Qad (59648 : Int) s_T8),(Qa.mk Gz (469762048 : Int) XE),(Qa.mk Pl (402685952 : Int) Yj),(Qa.mk Pm (402702336 : Int) JX),(Qa.mk S7 (402706432 : Int) JX),(Qa.mk Pn (402710528 : Int) JX),(Qa.mk Qcc (1879048192 : Int) Y8),(Qa.mk SX (805306368 : Int) Qw),(Qa.mk S8 (872415232 : Int) Qw),(Qa.mk SY (939524096 : Int) Qw),(Qa.mk S6 (1342177280 : Int) Qw),(Qa.mk Qaa (1409286144 : Int) Qw),(Qa.mk SZ (1476395008 : Int) Qw),(Qa.mk S9 (1543503872 : Int) Qw),(Qa.mk QeQ (2013265920 : Int) Ue),(Qa.mk Qcb (2013265921 : Int) Ue),(Qa.mk Qca (2046820352 : Int) J2),(Qa.mk SW (2046820353 : Int) J2),(Qa.mk QeO (2080375316 : Int) UF),(Qa.mk Qce (2080374864 : Int) UF),(Qa.mk Qab (2080375254 : Int) UF),(Qa.mk QeP (2080374840 : Int) UE),(Qa.mk s_or (2080375672 : Int) UE),(Qa.mk QeR (2080375416 : Int) UE)])
noncomputable def Jf : V3 := QdE
noncomputable def QjP : Tr (List Qa) AH := (.rows [[xs Y9,.sc (.int .u32 i0),xs s_],[xs GI,.sc (.int .u32 (zi 1)),xs s_],[xs Qah,.sc (.int .u32 (zi 2)),xs s_],[xs Pq,.sc (.int .u32 (zi 4)),xs s_],[xs E8,.sc (.int .u32 (zi 6)),xs s_],[xs Pw,.sc (.int .u32 (zi 32)),xs s_X],[xs Pv,.sc (.int .u32 (zi 48)),xs s_X],[xs Fb,.sc (.int .u32 (zi 128)),xs s_X],[xs Fc,.sc (.int .u32 (zi 144)),xs s_X],[xs GJ,.sc (.int .u32 (zi 160)),xs s_X],[xs GK,.sc (.int .u32 (zi 176)),xs s_X],[xs GG,.sc (.int .u32 (zi 192)),xs s_X],[xs GE,.sc (.int .u32 (zi 208)),xs s_X],[xs GH,.sc (.int .u32 (zi 224)),xs s_X],[xs GF,.sc (.int .u32 (zi 240)),xs s_X],[xs Qaf,.sc (.int .u32 (zi 256)),xs QR],[xs Po,.sc (.int .u32 (zi 1024)),xs QR],[xs GL,.sc (.int .u32 (zi 1280)),xs QR],[xs PA,.sc (.int .u32 (zi 1536)),xs QR],[xs Pr,.sc (.int .u32 (zi 3072)),xs QR],[xs Fa,.sc (.int .u32 (zi 3328)),xs QR],[xs E6,.sc (.int .u32 (zi 8192)),xs Vx],[xs GD,.sc (.int .u32 (zi 8704)),xs Vx],[xs Ff,.sc (.int .u32 (zi 9216)),xs Vx],[xs E9,.sc (.int .u32 (zi 10752)),xs Q7],[xs Qag,.sc (.int .u32 (zi 17408)),xs QR],[xs E7,.sc (.int .u32 (zi 17664)),xs QR],[xs Pp,.sc (.int .u32 (zi 17920)),xs QR],[xs Qae,.sc (.int .u32 (zi 18432)),xs Gy],[xs GA,.sc (.int .u32 (zi 24576)),xs Q7],[xs GB,.sc (.int .u32 (zi 25600)),xs Q7],[xs GC,.sc (.int .u32 (zi 26112)),xs Q7],[xs Fe,.sc (.int .u32 (zi 26624)),xs Q7],[xs Fd,.sc (.int .u32 (zi 27648)),xs Q7],[xs Ps,.sc (.int .u32 (zi 32768)),xs VI],[xs Px,.sc (.int .u32 (zi 36864)),xs VI],[xs Pt,.sc (.int .u32 (zi 40960)),xs VJ],[xs Py,.sc (.int .u32 (zi 45056)),xs VJ],[xs Pu,.sc (.int .u32 (zi 49152)),xs VK],[xs Pz,.sc (.int .u32 (zi 53248)),xs VK],[xs Qac,.sc (.int .u32 (zi 57344)),xs W8],[xs Qcd,.sc (.int .u32 (zi 59392)),xs s_T8],[xs Qad,.sc (.int .u32 (zi 59648)),xs s_T8],[xs Gz,.sc (.int .u32 (zi 469762048)),xs XE],[xs Pl,.sc (.int .u32 (zi 402685952)),xs Yj],[xs Pm,.sc (.int .u32 (zi 402702336)),xs JX],[xs S7,.sc (.int .u32 (zi 402706432)),xs JX],[xs Pn,.sc (.int .u32 (zi 402710528)),xs JX],[xs Qcc,.sc (.int .u32 (zi 1879048192)),xs Y8],[xs SX,.sc (.int .u32 (zi 805306368)),xs Qw],[xs S8,.sc (.int .u32 (zi 872415232)),xs Qw],[xs SY,.sc (.int .u32 (zi 939524096)),xs Qw],[xs S6,.sc (.int .u32 (zi 1342177280)),xs Qw],[xs Qaa,.sc (.int .u32 (zi 1409286144)),xs Qw],[xs SZ,.sc (.int .u32 (zi 1476395008)),xs Qw],[xs S9,.sc (.int .u32 (zi 1543503872)),xs Qw],[xs QeQ,.sc (.int .u32 (zi 2013265920)),xs Ue],[xs Qcb,.sc (.int .u32 (zi 2013265921)),xs Ue],[xs Qca,.sc (.int .u32 (zi 2046820352)),xs J2],[xs SW,.sc (.int .u32 (zi 2046820353)),xs J2],[xs QeO,.sc (.int .u32 (zi 2080375316)),xs UF],[xs Qce,.sc (.int .u32 (zi 2080374864)),xs UF],[xs Qab,.sc (.int .u32 (zi 2080375254)),xs UF],[xs QeP,.sc (.int .u32 (zi 2080374840)),xs UE],[xs s_or,.sc (.int .u32 (zi 2080375672)),xs UE],[xs QeR,.sc (.int .u32 (zi 2080375416)),xs UE]] (Wo [(Qa.mk Y9 i0 s_),(Qa.mk GI (zi 1) s_),(Qa.mk Qah (zi 2) s_),(Qa.mk Pq (zi 4) s_),(Qa.mk E8 (zi 6) s_),(Qa.mk Pw (zi 32) s_X),(Qa.mk Pv (zi 48) s_X),(Qa.mk Fb (zi 128) s_X),(Qa.mk Fc (zi 144) s_X),(Qa.mk GJ (zi 160) s_X),(Qa.mk GK (zi 176) s_X),(Qa.mk GG (zi 192) s_X),(Qa.mk GE (zi 208) s_X),(Qa.mk GH (zi 224) s_X),(Qa.mk GF (zi 240) s_X),(Qa.mk Qaf (zi 256) QR),(Qa.mk Po (zi 1024) QR),(Qa.mk GL (zi 1280) QR),(Qa.mk PA (zi 1536) QR),(Qa.mk Pr (zi 3072) QR),(Qa.mk Fa (zi 3328) QR),(Qa.mk E6 (zi 8192) Vx),(Qa.mk GD (zi 8704) Vx),(Qa.mk Ff (zi 9216) Vx),(Qa.mk E9 (zi 10752) Q7),(Qa.mk Qag (zi 17408) QR),(Qa.mk E7 (zi 17664) QR),(Qa.mk Pp (zi 17920) QR),(Qa.mk Qae (zi 18432) Gy),(Qa.mk GA (zi 24576) Q7),(Qa.mk GB (zi 25600) Q7),(Qa.mk GC (zi 26112) Q7),(Qa.mk Fe (zi 26624) Q7),(Qa.mk Fd (zi 27648) Q7),(Qa.mk Ps (zi 32768) VI),(Qa.mk Px (zi 36864) VI),(Qa.mk Pt (zi 40960) VJ),(Qa.mk Py (zi 45056) VJ),(Qa.mk Pu (zi 49152) VK),(Qa.mk Pz (zi 53248) VK),(Qa.mk Qac (zi 57344) W8),(Qa.mk Qcd (zi 59392) s_T8),(Qa.mk Qad (zi 59648) s_T8),(Qa.mk Gz (zi 469762048) XE),(Qa.mk Pl (zi 402685952) Yj),(Qa.mk Pm (zi 402702336) JX),(Qa.mk S7 (zi 402706432) JX),(Qa.mk Pn (zi 402710528) JX),(Qa.mk Qcc (zi 1879048192) Y8),(Qa.mk SX (zi 805306368) Qw),(Qa.mk S8 (zi 872415232) Qw),(Qa.mk SY (zi 939524096) Qw),(Qa.mk S6 (zi 1342177280) Qw),(Qa.mk Qaa (zi 1409286144) Qw),(Qa.mk SZ (zi 1476395008) Qw),(Qa.mk S9 (zi 1543503872) Qw),(Qa.mk QeQ (zi 2013265920) Ue),(Qa.mk Qcb (zi 2013265921) Ue),(Qa.mk Qca (zi 2046820352) J2),(Qa.mk SW (zi 2046820353) J2),(Qa.mk QeO (zi 2080375316) UF),(Qa.mk Qce (zi 2080374864) UF),(Qa.mk Qab (zi 2080375254) UF),(Qa.mk QeP (zi 2080374840) UE),(Qa.mk s_or (zi 2080375672) UE),(Qa.mk QeR (zi 2080375416) UE)]) (rt SC [(Qa.mk Y9 i0 s_),(Qa.mk GI (zi 1) s_),(Qa.mk Qah (zi 2) s_),(Qa.mk Pq (zi 4) s_),(Qa.mk E8 (zi 6) s_),(Qa.mk Pw (zi 32) s_X),(Qa.mk Pv (zi 48) s_X),(Qa.mk Fb (zi 128) s_X),(Qa.mk Fc (zi 144) s_X),(Qa.mk GJ (zi 160) s_X),(Qa.mk GK (zi 176) s_X),(Qa.mk GG (zi 192) s_X),(Qa.mk GE (zi 208) s_X),(Qa.mk GH (zi 224) s_X),(Qa.mk GF (zi 240) s_X),(Qa.mk Qaf (zi 256) QR),(Qa.mk Po (zi 1024) QR),(Qa.mk GL (zi 1280) QR),(Qa.mk PA (zi 1536) QR),(Qa.mk Pr (zi 3072) QR),(Qa.mk Fa (zi 3328) QR),(Qa.mk E6 (zi 8192) Vx),(Qa.mk GD (zi 8704) Vx),(Qa.mk Ff (zi 9216) Vx),(Qa.mk E9 (zi 10752) Q7),(Qa.mk Qag (zi 17408) QR),(Qa.mk E7 (zi 17664) QR),(Qa.mk Pp (zi 17920) QR),(Qa.mk Qae (zi 18432) Gy),(Qa.mk GA (zi 24576) Q7),(Qa.mk GB (zi 25600) Q7),(Qa.mk GC (zi 26112) Q7),(Qa.mk Fe (zi 26624) Q7),(Qa.mk Fd (zi 27648) Q7),(Qa.mk Ps (zi 32768) VI),(Qa.mk Px (zi 36864) VI),(Qa.mk Pt (zi 40960) VJ),(Qa.mk Py (zi 45056) VJ),(Qa.mk Pu (zi 49152) VK),(Qa.mk Pz (zi 53248) VK),(Qa.mk Qac (zi 57344) W8),(Qa.mk Qcd (zi 59392) s_T8),(Qa.mk Qad (zi 59648) s_T8),(Qa.mk Gz (zi 469762048) XE),(Qa.mk Pl (zi 402685952) Yj),(Qa.mk Pm (zi 402702336) JX),(Qa.mk S7 (zi 402706432) JX),(Qa.mk Pn (zi 402710528) JX),(Qa.mk Qcc (zi 1879048192) Y8),(Qa.mk SX (zi 805306368) Qw),(Qa.mk S8 (zi 872415232) Qw),(Qa.mk SY (zi 939524096) Qw),(Qa.mk S6 (zi 1342177280) Qw),(Qa.mk Qaa (zi 1409286144) Qw),(Qa.mk SZ (zi 1476395008) Qw),(Qa.mk S9 (zi 1543503872) Qw),(Qa.mk QeQ (zi 2013265920) Ue),(Qa.mk Qcb (zi 2013265921) Ue),(Qa.mk Qca (zi 2046820352) J2),(Qa.mk SW (zi 2046820353) J2),(Qa.mk QeO (zi 2080375316) UF),(Qa.mk Qce (zi 2080374864) UF),(Qa.mk Qab (zi 2080375254) UF),(Qa.mk QeP (zi 2080374840) UE),(Qa.mk s_or (zi 2080375672) UE),(Qa.mk QeR (zi 2080375416) UE)]))
theorem Jf.ok {r : (List Qa)} (h : Jf = some r) : ww 139 [] [] = some (SC r) := by
 refine fnP (QjP) ?_ h
 exact ⟨(Fy [(Qa.mk Y9 (0 : Int) s_),(Qa.mk GI (1 : Int) s_),(Qa.mk Qah (2 : Int) s_),(Qa.mk Pq (4 : Int) s_),(Qa.mk E8 (6 : Int) s_),(Qa.mk Pw (32 : Int) s_X),(Qa.mk Pv (48 : Int) s_X),(Qa.mk Fb (128 : Int) s_X),(Qa.mk Fc (144 : Int) s_X),(Qa.mk GJ (160 : Int) s_X),(Qa.mk GK (176 : Int) s_X),(Qa.mk GG (192 : Int) s_X),(Qa.mk GE (208 : Int) s_X),(Qa.mk GH (224 : Int) s_X),(Qa.mk GF (240 : Int) s_X),(Qa.mk Qaf (256 : Int) QR),(Qa.mk Po (1024 : Int) QR),(Qa.mk GL (1280 : Int) QR),(Qa.mk PA (1536 : Int) QR),(Qa.mk Pr (3072 : Int) QR),(Qa.mk Fa (3328 : Int) QR),(Qa.mk E6 (8192 : Int) Vx),(Qa.mk GD (8704 : Int) Vx),(Qa.mk Ff (9216 : Int) Vx),(Qa.mk E9 (10752 : Int) Q7),(Qa.mk Qag (17408 : Int) QR),(Qa.mk E7 (17664 : Int) QR),(Qa.mk Pp (17920 : Int) QR),(Qa.mk Qae (18432 : Int) Gy),(Qa.mk GA (24576 : Int) Q7),(Qa.mk GB (25600 : Int) Q7),(Qa.mk GC (26112 : Int) Q7),(Qa.mk Fe (26624 : Int) Q7),(Qa.mk Fd (27648 : Int) Q7),(Qa.mk Ps (32768 : Int) VI),(Qa.mk Px (36864 : Int) VI),(Qa.mk Pt (40960 : Int) VJ),(Qa.mk Py (45056 : Int) VJ),(Qa.mk Pu (49152 : Int) VK),(Qa.mk Pz (53248 : Int) VK),(Qa.mk Qac (57344 : Int) W8),(Qa.mk Qcd (59392 : Int) s_T8),(Qa.mk Qad (59648 : Int) s_T8),(Qa.mk Gz (469762048 : Int) XE),(Qa.mk Pl (402685952 : Int) Yj),(Qa.mk Pm (402702336 : Int) JX),(Qa.mk S7 (402706432 : Int) JX),(Qa.mk Pn (402710528 : Int) JX),(Qa.mk Qcc (1879048192 : Int) Y8),(Qa.mk SX (805306368 : Int) Qw),(Qa.mk S8 (872415232 : Int) Qw),(Qa.mk SY (939524096 : Int) Qw),(Qa.mk S6 (1342177280 : Int) Qw),(Qa.mk Qaa (1409286144 : Int) Qw),(Qa.mk SZ (1476395008 : Int) Qw),(Qa.mk S9 (1543503872 : Int) Qw),(Qa.mk QeQ (2013265920 : Int) Ue),(Qa.mk Qcb (2013265921 : Int) Ue),(Qa.mk Qca (2046820352 : Int) J2),(Qa.mk SW (2046820353 : Int) J2),(Qa.mk QeO (2080375316 : Int) UF),(Qa.mk Qce (2080374864 : Int) UF),(Qa.mk Qab (2080375254 : Int) UF),(Qa.mk QeP (2080374840 : Int) UE),(Qa.mk s_or (2080375672 : Int) UE),(Qa.mk QeR (2080375416 : Int) UE)]),rfl⟩
noncomputable abbrev ZG {ρ R : Type} (k : (List Qa) → Tr ρ R) : Tr ρ R := .call (ww 139 [] []) (Jf) SC k
noncomputable def Jf.s : Nat → Option (List Qa)
 | 0 => none
 | k + 1 => QdE
theorem Jf.cv : Cv (fun k => Jf.s k ) (Jf ) := .un rfl (by exact .const _)
abbrev Zq := Qa → Option ByteArray
def Sd (a0 : Qa) : Option ByteArray := (some a0.name)
noncomputable def Vh : Zq := Sd
noncomputable def QeX (a0 : Qa) : Tr ByteArray AH := (rt Qj a0.name)
theorem Vh.ok {a0 : Qa} {r : ByteArray} (h : Vh a0 = some r) : ww 167 [.agg (V5 a0)] [] = some (Qj r) := by
 refine fnP (QeX a0) ?_ h
 exact rfl
noncomputable abbrev QeY {ρ R : Type} (a0 : Qa) (k : ByteArray → Tr ρ R) : Tr ρ R := .call (ww 167 [.agg (V5 a0)] []) (Vh a0) Qj k
noncomputable def Vh.s : Nat → Qa → Option ByteArray
 | 0,_ => none
 | k + 1,a0 => Sd a0
theorem Vh.cv (a0 : Qa) : Cv (fun k => Vh.s k a0) (Vh a0) := .un rfl (by exact .const _)
abbrev Qc9 := Int → Option ByteArray
def Z4 (C0 : V3) (C1 : Zq) (a0 : Int) : Option ByteArray := ((C0).bind fun r1 => (bif (decide (a0 ≥ 0)) then (bif (decide (a0 < (((r1.length) : Nat) : Int))) then (bif (decide (0 ≤ a0)) then ((r1[(Int.toNat a0)]?).bind fun e2 => ((C1 e2).bind fun r3 => (some r3))) else none) else (some s_)) else (some s_)))
theorem Qor {C0 : Nat → V3} {D0 : V3} (H0 : Cv C0 D0) {C1 : Nat → Zq} {D1 : Zq} (H1 : Cv1 C1 D1) (a0 : Int) : Cv (fun k => Z4 (C0 k) (C1 k) a0) (Z4 D0 D1 a0) := by
 unfold Z4
 exact .bind (H0) fun r1 => .cond (.cond (.cond (.bind (.const _) fun e2 => .bind (H1 _) fun r3 => by exact .const _) cst) cst) cst
noncomputable def XF : Qc9 := Z4 Jf Vh
theorem XF.eq (a0 : Int) : XF a0 = Z4 Jf Vh a0 := rfl
noncomputable def Qos (a0 : Int) : Tr ByteArray AH := (ZG fun r1 => (let u47 := (decide (a0 ≥ 0)); .as u47 (yesN 2 u47 (.num ((Wo r1).length) (r1.length) (yesN 2 u47 (.as (decide (a0 < (((r1.length) : Nat) : Int))) (.as (decide (0 ≤ a0)) (.row ((Wo r1)[(Int.toNat a0)]?) (r1[(Int.toNat a0)]?) V5 fun (e2 : Qa) => (QeY e2 fun r3 => (rt Qj r3))) .fail) (rt Qj s_))))) (noN 4 u47 (.no false (rt Qj s_)))))
theorem XF.ok {a0 : Int} {r : ByteArray} (h : XF a0 = some r) : ww 166 [xi a0,.fn (.func 167) [] []] [] = some (Qj r) := by
 refine fnP (Qos a0) ?_ h
 exact fun r1 h => ⟨Jf.ok h,⟨rfl,fun q0 => Qh 2 (q0) (⟨(YK _),Qh 2 (q0) (⟨rfl,fun q1 => ⟨rfl,fun q2 => fun e2 h => ⟨ZN h,fun r3 h => ⟨Vh.ok h,rfl⟩⟩,fun q2 => trivial⟩,fun q1 => rfl⟩)⟩),fun q0 => noN_ok 4 (q0) (⟨rfl,rfl⟩)⟩⟩
noncomputable abbrev Qot {ρ R : Type} (a0 : Int) (k : ByteArray → Tr ρ R) : Tr ρ R := .call (ww 166 [xi a0,.fn (.func 167) [] []] []) (XF a0) Qj k
noncomputable def XF.s : Nat → Int → Option ByteArray
 | 0,_ => none
 | k + 1,a0 => Z4 (Jf.s k) (Vh.s k) a0
theorem XF.cv (a0 : Int) : Cv (fun k => XF.s k a0) (XF a0) := .un rfl (Qor Jf.cv Vh.cv a0)
abbrev Gk := Int → Option ByteArray
def YB (C0 : Qc9) (a0 : Int) : Option ByteArray := ((C0 a0).bind fun r1 => (some r1))
theorem QlD {C0 : Nat → Qc9} {D0 : Qc9} (H0 : Cv1 C0 D0) (a0 : Int) : Cv (fun k => YB (C0 k) a0) (YB D0 a0) := by
 unfold YB
 exact .bind (H0 _) fun r1 => by exact .const _
noncomputable def Ja : Gk := YB XF
theorem Ja.eq (a0 : Int) : Ja a0 = YB XF a0 := rfl
noncomputable def QlE (a0 : Int) : Tr ByteArray AH := (Qot a0 fun r1 => (rt Qj r1))
theorem Ja.ok {a0 : Int} {r : ByteArray} (h : Ja a0 = some r) : ww 110 [xi a0] [] = some (Qj r) := by
 refine fnP (QlE a0) ?_ h
 exact fun r1 h => ⟨XF.ok h,rfl⟩
noncomputable abbrev F2 {ρ R : Type} (a0 : Int) (k : ByteArray → Tr ρ R) : Tr ρ R := .call (ww 110 [xi a0] []) (Ja a0) Qj k
noncomputable def Ja.s : Nat → Int → Option ByteArray
 | 0,_ => none
 | k + 1,a0 => YB (XF.s k) a0
theorem Ja.cv (a0 : Int) : Cv (fun k => Ja.s k a0) (Ja a0) := .un rfl (QlD XF.cv a0)
abbrev QgM := Int → Option Int
def GS (C0 : Gk) (a0 : Int) : Option Int := ((C0 a0).bind fun r1 => (bif (eqS r1 s_) then (some (0 : Int)) else (bif (decide (a0 < 43)) then (some (2 : Int)) else (some (4 : Int)))))
theorem QlF {C0 : Nat → Gk} {D0 : Gk} (H0 : Cv1 C0 D0) (a0 : Int) : Cv (fun k => GS (C0 k) a0) (GS D0 a0) := by
 unfold GS
 exact .bind (H0 _) fun r1 => by exact .const _
noncomputable def Wa : QgM := GS Ja
noncomputable def QlG (a0 : Int) : Tr Int AH := (F2 a0 fun r1 => (.as (eqS r1 s_) (rt Qe i0) (.as (decide (a0 < 43)) (rt Qe (zi 2)) (rt Qe (zi 4)))))
theorem Wa.ok {a0 : Int} {r : Int} (h : Wa a0 = some r) : ww 140 [xi a0] [] = some (Qe r) := by
 refine fnP (QlG a0) ?_ h
 exact fun r1 h => ⟨Ja.ok h,⟨rfl,fun q0 => rfl,fun q0 => ⟨rfl,fun q1 => rfl,fun q1 => rfl⟩⟩⟩
noncomputable abbrev QlH {ρ R : Type} (a0 : Int) (k : Int → Tr ρ R) : Tr ρ R := .call (ww 140 [xi a0] []) (Wa a0) Qe k
noncomputable def Wa.s : Nat → Int → Option Int
 | 0,_ => none
 | k + 1,a0 => GS (Ja.s k) a0
theorem Wa.cv (a0 : Int) : Cv (fun k => Wa.s k a0) (Wa a0) := .un rfl (QlF Ja.cv a0)
abbrev YZ := ByteArray → Option (List ByteArray)
noncomputable def Jv (a0 : ByteArray) : Option (List ByteArray) := fieldsS a0
noncomputable abbrev PI {ρ R : Type} (a0 : ByteArray) (k : (List ByteArray) → Tr ρ R) : Tr ρ R := .call (ww 145 [xs a0] []) (Jv a0) J3 k
theorem Jv.ok {a0 : ByteArray} {r : (List ByteArray)} (h : Jv a0 = some r) : ww 145 [xs a0] [] = some (J3 r) := (Gg rfl _ _).trans (QmC h)
noncomputable def Jv.s : Nat → ByteArray → Option (List ByteArray)
 | 0,_ => none
 | _ + 1,a0 => fieldsS a0
theorem Jv.cv (a0 : ByteArray) : Cv (fun k => Jv.s k a0) (Jv a0) := .un rfl (.const _)
abbrev ZU := Qa → Option (List ByteArray)
def Ym (C0 : YZ) (a0 : Qa) : Option (List ByteArray) := ((C0 a0.kinds).bind fun r1 => (some r1))
theorem QfU {C0 : Nat → YZ} {D0 : YZ} (H0 : Cv1 C0 D0) (a0 : Qa) : Cv (fun k => Ym (C0 k) a0) (Ym D0 a0) := by
 unfold Ym
 exact .bind (H0 _) fun r1 => by exact .const _
noncomputable def Wb : ZU := Ym Jv
noncomputable def QfV (a0 : Qa) : Tr (List ByteArray) AH := (PI a0.kinds fun r1 => (rt J3 r1))
theorem Wb.ok {a0 : Qa} {r : (List ByteArray)} (h : Wb a0 = some r) : ww 142 [.agg (V5 a0)] [] = some (J3 r) := by
 refine fnP (QfV a0) ?_ h
 exact fun r1 h => ⟨Jv.ok h,rfl⟩
noncomputable abbrev QfW {ρ R : Type} (a0 : Qa) (k : (List ByteArray) → Tr ρ R) : Tr ρ R := .call (ww 142 [.agg (V5 a0)] []) (Wb a0) J3 k
noncomputable def Wb.s : Nat → Qa → Option (List ByteArray)
 | 0,_ => none
 | k + 1,a0 => Ym (Jv.s k) a0
theorem Wb.cv (a0 : Qa) : Cv (fun k => Wb.s k a0) (Wb a0) := .un rfl (QfU Jv.cv a0)
abbrev Qco := Int → Option (List ByteArray)
def GT (C0 : V3) (C1 : ZU) (a0 : Int) : Option (List ByteArray) := ((C0).bind fun r1 => (bif (decide (a0 ≥ 0)) then (bif (decide (a0 < (((r1.length) : Nat) : Int))) then (bif (decide (0 ≤ a0)) then ((r1[(Int.toNat a0)]?).bind fun e2 => ((C1 e2).bind fun r3 => (some r3))) else none) else (some ([] : List ByteArray))) else (some ([] : List ByteArray))))
theorem QlI {C0 : Nat → V3} {D0 : V3} (H0 : Cv C0 D0) {C1 : Nat → ZU} {D1 : ZU} (H1 : Cv1 C1 D1) (a0 : Int) : Cv (fun k => GT (C0 k) (C1 k) a0) (GT D0 D1 a0) := by
 unfold GT
 exact .bind (H0) fun r1 => .cond (.cond (.cond (.bind (.const _) fun e2 => .bind (H1 _) fun r3 => by exact .const _) cst) cst) cst
noncomputable def Vz : Qco := GT Jf Wb
noncomputable def QlJ (a0 : Int) : Tr (List ByteArray) AH := (ZG fun r1 => (let u48 := (decide (a0 ≥ 0)); .as u48 (yesN 2 u48 (.num ((Wo r1).length) (r1.length) (yesN 2 u48 (.as (decide (a0 < (((r1.length) : Nat) : Int))) (.as (decide (0 ≤ a0)) (.row ((Wo r1)[(Int.toNat a0)]?) (r1[(Int.toNat a0)]?) V5 fun (e2 : Qa) => (QfW e2 fun r3 => (rt J3 r3))) .fail) (rt J3 ([] : List ByteArray)))))) (noN 4 u48 (.no false (rt J3 ([] : List ByteArray))))))
theorem Vz.ok {a0 : Int} {r : (List ByteArray)} (h : Vz a0 = some r) : ww 141 [xi a0,.fn (.func 142) [] []] [] = some (J3 r) := by
 refine fnP (QlJ a0) ?_ h
 exact fun r1 h => ⟨Jf.ok h,⟨rfl,fun q0 => Qh 2 (q0) (⟨(YK _),Qh 2 (q0) (⟨rfl,fun q1 => ⟨rfl,fun q2 => fun e2 h => ⟨ZN h,fun r3 h => ⟨Wb.ok h,rfl⟩⟩,fun q2 => trivial⟩,fun q1 => rfl⟩)⟩),fun q0 => noN_ok 4 (q0) (⟨rfl,rfl⟩)⟩⟩
noncomputable abbrev QeZ {ρ R : Type} (a0 : Int) (k : (List ByteArray) → Tr ρ R) : Tr ρ R := .call (ww 141 [xi a0,.fn (.func 142) [] []] []) (Vz a0) J3 k
noncomputable def Vz.s : Nat → Int → Option (List ByteArray)
 | 0,_ => none
 | k + 1,a0 => GT (Jf.s k) (Wb.s k) a0
theorem Vz.cv (a0 : Int) : Cv (fun k => Vz.s k a0) (Vz a0) := .un rfl (QlI Jf.cv Wb.cv a0)
def Us (r : (Qv × Bool)) : AV × Heap := (.tup [.agg (ZB r.1),xo r.2],[])
abbrev ZH := ByteArray → Option (Qv × Bool)
def Qcp (a0 : ByteArray) : Option (Qv × Bool) := (bif (eqS a0 s_U5) then (some ((Qv.mk (4 : Int) (5 : Int) (1 : Int) (0 : Int)),true)) else (bif (eqS a0 s_U7) then (some ((Qv.mk (4 : Int) (7 : Int) (1 : Int) (0 : Int)),true)) else (bif (eqS a0 s_O5) then (some ((Qv.mk (4 : Int) (5 : Int) (1 : Int) (1 : Int)),true)) else (bif (eqS a0 s_M1) then (some ((Qv.mk (8 : Int) (4 : Int) (1 : Int) (0 : Int)),true)) else (bif (eqS a0 s_M2) then (some ((Qv.mk (8 : Int) (4 : Int) (2 : Int) (0 : Int)),true)) else (bif (eqS a0 s_M4) then (some ((Qv.mk (8 : Int) (4 : Int) (4 : Int) (0 : Int)),true)) else (bif (eqS a0 s_O1) then (some ((Qv.mk (10 : Int) (1 : Int) (1 : Int) (0 : Int)),true)) else (bif (eqS a0 s_I2) then (some ((Qv.mk (8 : Int) (2 : Int) (1 : Int) (0 : Int)),true)) else (bif (eqS a0 s_D) then (some ((Qv.mk (21 : Int) (5 : Int) (1 : Int) (0 : Int)),true)) else (bif (eqS a0 s_A) then (some ((Qv.mk (16 : Int) (5 : Int) (1 : Int) (0 : Int)),true)) else (bif (eqS a0 s_B) then (some ((Qv.mk (11 : Int) (5 : Int) (1 : Int) (0 : Int)),true)) else (bif (eqS a0 s_O2) then (some ((Qv.mk (20 : Int) (2 : Int) (1 : Int) (0 : Int)),true)) else (bif (eqS a0 s_I4) then (some ((Qv.mk (16 : Int) (4 : Int) (1 : Int) (0 : Int)),true)) else (some ((Qv.mk (0 : Int) (0 : Int) (0 : Int) (0 : Int)),false)))))))))))))))
noncomputable def QF : ZH := Qcp
noncomputable def QiC (a0 : ByteArray) : Tr (Qv × Bool) AH := (.as (eqS a0 s_U5) (rt Us ((Qv.mk (zi 4) (zi 5) (zi 1) i0),true)) (.as (eqS a0 s_U7) (rt Us ((Qv.mk (zi 4) (zi 7) (zi 1) i0),true)) (.as (eqS a0 s_O5) (rt Us ((Qv.mk (zi 4) (zi 5) (zi 1) (zi 1)),true)) (.as (eqS a0 s_M1) (rt Us ((Qv.mk (zi 8) (zi 4) (zi 1) i0),true)) (.as (eqS a0 s_M2) (rt Us ((Qv.mk (zi 8) (zi 4) (zi 2) i0),true)) (.as (eqS a0 s_M4) (rt Us ((Qv.mk (zi 8) (zi 4) (zi 4) i0),true)) (.as (eqS a0 s_O1) (rt Us ((Qv.mk (zi 10) (zi 1) (zi 1) i0),true)) (.as (eqS a0 s_I2) (rt Us ((Qv.mk (zi 8) (zi 2) (zi 1) i0),true)) (.as (eqS a0 s_D) (rt Us ((Qv.mk (zi 21) (zi 5) (zi 1) i0),true)) (.as (eqS a0 s_A) (rt Us ((Qv.mk (zi 16) (zi 5) (zi 1) i0),true)) (.as (eqS a0 s_B) (rt Us ((Qv.mk (zi 11) (zi 5) (zi 1) i0),true)) (.as (eqS a0 s_O2) (rt Us ((Qv.mk (zi 20) (zi 2) (zi 1) i0),true)) (.as (eqS a0 s_I4) (rt Us ((Qv.mk (zi 16) (zi 4) (zi 1) i0),true)) (rt Us ((Qv.mk i0 i0 i0 i0),false)))))))))))))))
theorem QF.ok {a0 : ByteArray} {r : (Qv × Bool)} (h : QF a0 = some r) : ww 188 [xs a0] [] = some (Us r) := by
 refine fnP (QiC a0) ?_ h
 exact ⟨rfl,fun q0 => rfl,fun q0 => ⟨rfl,fun q1 => rfl,fun q1 => ⟨rfl,fun q2 => rfl,fun q2 => ⟨rfl,fun q3 => rfl,fun q3 => ⟨rfl,fun q4 => rfl,fun q4 => ⟨rfl,fun q5 => rfl,fun q5 => ⟨rfl,fun q6 => rfl,fun q6 => ⟨rfl,fun q7 => rfl,fun q7 => ⟨rfl,fun q8 => rfl,fun q8 => ⟨rfl,fun q9 => rfl,fun q9 => ⟨rfl,fun q10 => rfl,fun q10 => ⟨rfl,fun q11 => rfl,fun q11 => ⟨rfl,fun q12 => rfl,fun q12 => rfl⟩⟩⟩⟩⟩⟩⟩⟩⟩⟩⟩⟩⟩
noncomputable abbrev Qcq {ρ R : Type} (a0 : ByteArray) (k : (Qv × Bool) → Tr ρ R) : Tr ρ R := .call (ww 188 [xs a0] []) (QF a0) Us k
noncomputable def QF.s : Nat → ByteArray → Option (Qv × Bool)
 | 0,_ => none
 | k + 1,a0 => Qcp a0
theorem QF.cv (a0 : ByteArray) : Cv (fun k => QF.s k a0) (QF a0) := .un rfl (by exact .const _)
abbrev Qal := Qv → Int → Option Int
def GU (a0 : Qv) (a1 : Int) : Option Int := (bif (decide (0 ≤ a0.at_)) then (bif (decide (0 ≤ a0.bits)) then (some (w64 ((w64 ((w64 (andI .u32 (shrI .u32 a1 a0.at_) (IntKind.u32.wrap ((shlI .u32 (1 : Int) a0.bits) - 1)))) * a0.step)) + a0.less))) else none) else none)
noncomputable def Wi : Qal := GU
theorem Wi.eq (a0 : Qv) (a1 : Int) : Wi a0 a1 = GU a0 a1 := rfl
noncomputable def Qe0 (a0 : Qv) (a1 : Int) : Tr Int AH := (.as (decide (0 ≤ a0.at_)) (.as (decide (0 ≤ a0.bits)) (rt Qe (w64 ((w64 ((w64 (andI .u32 (shrI .u32 a1 a0.at_) (IntKind.u32.wrap ((shlI .u32 (zi 1) a0.bits) - 1)))) * a0.step)) + a0.less))) .fail) .fail)
theorem Wi.ok {a0 : Qv} {a1 : Int} {r : Int} (h : Wi a0 a1 = some r) : ww 189 [.agg (ZB a0),.sc (.int .u32 a1)] [] = some (Qe r) := by
 refine fnP (Qe0 a0 a1) ?_ h
 exact ⟨rfl,fun q0 => ⟨rfl,fun q1 => rfl,fun q1 => trivial⟩,fun q0 => trivial⟩
noncomputable abbrev Qe1 {ρ R : Type} (a0 : Qv) (a1 : Int) (k : Int → Tr ρ R) : Tr ρ R := .call (ww 189 [.agg (ZB a0),.sc (.int .u32 a1)] []) (Wi a0 a1) Qe k
def EX (r : Int) : AV × Heap := (.sc (.int .u64 r),[])
abbrev GV := ByteArray → Option Int
def QdF (a0 : ByteArray) : Option Int := (bif (eqS a0 s_Y) then (some (4 : Int)) else (some (0 : Int)))
noncomputable def JV : GV := QdF
noncomputable def QjQ (a0 : ByteArray) : Tr Int AH := (.as (eqS a0 s_Y) (rt EX (zi 4)) (rt EX i0))
theorem JV.ok {a0 : ByteArray} {r : Int} (h : JV a0 = some r) : ww 190 [xs a0] [] = some (EX r) := by
 refine fnP (QjQ a0) ?_ h
 exact ⟨rfl,fun q0 => rfl,fun q0 => rfl⟩
noncomputable abbrev YQ {ρ R : Type} (a0 : ByteArray) (k : Int → Tr ρ R) : Tr ρ R := .call (ww 190 [xs a0] []) (JV a0) EX k
noncomputable def JV.s : Nat → ByteArray → Option Int
 | 0,_ => none
 | k + 1,a0 => QdF a0
theorem JV.cv (a0 : ByteArray) : Cv (fun k => JV.s k a0) (JV a0) := .un rfl (by exact .const _)
abbrev Gl := Int → Int → Option Int
def GW (a0 : Int) (a1 : Int) : Option Int := (bif (decide (0 ≤ (w64 ((64 : Int) - (if (64 : Int) < (if (1 : Int) > a1 then (1 : Int) else a1) then (64 : Int) else (if (1 : Int) > a1 then (1 : Int) else a1)))))) then (some (shrI .i64 (shlI .i64 a0 (w64 ((64 : Int) - (if (64 : Int) < (if (1 : Int) > a1 then (1 : Int) else a1) then (64 : Int) else (if (1 : Int) > a1 then (1 : Int) else a1))))) (w64 ((64 : Int) - (if (64 : Int) < (if (1 : Int) > a1 then (1 : Int) else a1) then (64 : Int) else (if (1 : Int) > a1 then (1 : Int) else a1)))))) else none)
noncomputable def Jd : Gl := GW
theorem Jd.eq (a0 : Int) (a1 : Int) : Jd a0 a1 = GW a0 a1 := rfl
noncomputable def QlK (a0 : Int) (a1 : Int) : Tr Int AH := (let u49 := (decide (0 ≤ (w64 ((zi 64) - (if (zi 64) < (if (zi 1) > a1 then (zi 1) else a1) then (zi 64) else (if (zi 1) > a1 then (zi 1) else a1)))))); .as u49 (.yes u49 (rt Qe (shrI .i64 (shlI .i64 a0 (w64 ((zi 64) - (if (zi 64) < (if (zi 1) > a1 then (zi 1) else a1) then (zi 64) else (if (zi 1) > a1 then (zi 1) else a1))))) (w64 ((zi 64) - (if (zi 64) < (if (zi 1) > a1 then (zi 1) else a1) then (zi 64) else (if (zi 1) > a1 then (zi 1) else a1))))))) .fail)
theorem Jd.ok {a0 : Int} {a1 : Int} {r : Int} (h : Jd a0 a1 = some r) : ww 193 [xi a0,xi a1] [] = some (Qe r) := by
 refine fnP (QlK a0 a1) ?_ h
 exact ⟨rfl,fun q0 => ⟨q0,rfl⟩,fun q0 => trivial⟩
noncomputable abbrev GX {ρ R : Type} (a0 : Int) (a1 : Int) (k : Int → Tr ρ R) : Tr ρ R := .call (ww 193 [xi a0,xi a1] []) (Jd a0 a1) Qe k
noncomputable def Jd.s : Nat → Int → Int → Option Int
 | 0,_,_ => none
 | k + 1,a0,a1 => GW a0 a1
theorem Jd.cv (a0 : Int) (a1 : Int) : Cv (fun k => Jd.s k a0 a1) (Jd a0 a1) := .un rfl (by exact .const _)
abbrev QdG := Int → Int → Int → Option Int
def PJ (C0 : Gl) (a0 : Int) (a1 : Int) (a2 : Int) : Option Int := ((C0 (orI .i64 (orI .i64 (shlI .i64 a0 (16 : Int)) (shlI .i64 a1 (11 : Int))) a2) (20 : Int)).bind fun r1 => (some r1))
noncomputable def WJ : QdG := PJ Jd
theorem WJ.eq (a0 : Int) (a1 : Int) (a2 : Int) : WJ a0 a1 a2 = PJ Jd a0 a1 a2 := rfl
noncomputable def QiD (a0 : Int) (a1 : Int) (a2 : Int) : Tr Int AH := (.yes (decide (0 ≤ (zi 16))) (.yes (decide (0 ≤ (zi 11))) (GX (orI .i64 (orI .i64 (shlI .i64 a0 (zi 16)) (shlI .i64 a1 (zi 11))) a2) (zi 20) fun r1 => (rt Qe r1))))
theorem WJ.ok {a0 : Int} {a1 : Int} {a2 : Int} {r : Int} (h : WJ a0 a1 a2 = some r) : ww 191 [xi a0,xi a1,xi a2] [] = some (Qe r) := by
 refine fnP (QiD a0 a1 a2) ?_ h
 exact ⟨rfl,⟨rfl,fun r1 h => ⟨Jd.ok h,rfl⟩⟩⟩
noncomputable abbrev QiE {ρ R : Type} (a0 : Int) (a1 : Int) (a2 : Int) (k : Int → Tr ρ R) : Tr ρ R := .call (ww 191 [xi a0,xi a1,xi a2] []) (WJ a0 a1 a2) Qe k
abbrev Fj := Int → Int → Int → Option Int
structure Jh where
 x0 : Int
 x1 : Int
 x2 : Int
 x7 : Int
 x8 : Int
def XO (a : Jh) : St := { n := 27,nx := 0,env := [(0,xi a.x0),(1,xi a.x1),(2,xi a.x2),(7,xi a.x7),(8,xi a.x8)],heap := [] }
def FF (a : Int) : Ex × St := (.exit 0,{ n := 27,nx := 0,env := [(7,xi a)],heap := [] })
abbrev Ze := Jh → Option Int
def XP (a : Jh) : Option (Jh ⊕ Int) := (bif (decide (a.x8 ≥ 0)) then (bif (a.x0 == 1) then (bif (a.x8 == a.x1) then (some (.inl (Jh.mk a.x0 a.x1 a.x2 (orI .i64 (shlI .i64 a.x7 (8 : Int)) (andI .i64 a.x2 (255 : Int))) (w64 (a.x8 - 1))))) else (some (.inl (Jh.mk a.x0 a.x1 a.x2 (orI .i64 (shlI .i64 a.x7 (8 : Int)) (255 : Int)) (w64 (a.x8 - 1)))))) else (bif (a.x8 == a.x1) then (some (.inl (Jh.mk a.x0 a.x1 a.x2 (orI .i64 (shlI .i64 a.x7 (8 : Int)) (andI .i64 a.x2 (255 : Int))) (w64 (a.x8 - 1))))) else (some (.inl (Jh.mk a.x0 a.x1 a.x2 (orI .i64 (shlI .i64 a.x7 (8 : Int)) (0 : Int)) (w64 (a.x8 - 1))))))) else (some (.inr a.x7)))
noncomputable def Ul.s (k : Nat) : Ze := iter (XP ) k
theorem Ul.cv (a : Jh) : Cv (fun k => Ul.s k a) (loopW (XP ) a) := Cv.iter (fun a => by exact .const _) a
noncomputable def Ul : Ze := loopW (XP )
theorem Ul.eq (a : Jh) : Ul a = (XP a).bind (Sum.elim Ul some) := Jc _ _
noncomputable abbrev Qhv {ρ R : Type} (a : Jh) (k0 : Int → Tr ρ R) : Tr ρ R := .loop (loopAt pp 192 3) (XO a) (Ul a) FF k0
noncomputable def Qhw (a : Jh) : Tr (Jh ⊕ Int) XS := (.as (decide (a.x8 ≥ 0)) (.as (a.x0 == 1) (.as (a.x8 == a.x1) (.yes (decide (0 ≤ (zi 8))) (lf XO (Jh.mk a.x0 a.x1 a.x2 (orI .i64 (shlI .i64 a.x7 (zi 8)) (andI .i64 a.x2 (zi 255))) (w64 (a.x8 - 1))))) (.yes (decide (0 ≤ (zi 8))) (lf XO (Jh.mk a.x0 a.x1 a.x2 (orI .i64 (shlI .i64 a.x7 (zi 8)) (zi 255)) (w64 (a.x8 - 1)))))) (.as (a.x8 == a.x1) (.yes (decide (0 ≤ (zi 8))) (lf XO (Jh.mk a.x0 a.x1 a.x2 (orI .i64 (shlI .i64 a.x7 (zi 8)) (andI .i64 a.x2 (zi 255))) (w64 (a.x8 - 1))))) (.yes (decide (0 ≤ (zi 8))) (lf XO (Jh.mk a.x0 a.x1 a.x2 (orI .i64 (shlI .i64 a.x7 (zi 8)) i0) (w64 (a.x8 - 1))))))) (rx FF a.x7))
theorem Ul.ok {a : Jh} {r : Int} (h : Ul a = some r) : lw 0 192 (loopAt pp 192 3) (XO a) = some (FF r) := by
 refine lpP h Qhw fun a => ?_
 exact ⟨rfl,fun q0 => ⟨rfl,fun q1 => ⟨rfl,fun q2 => ⟨rfl,rfl⟩,fun q2 => ⟨rfl,rfl⟩⟩,fun q1 => ⟨rfl,fun q2 => ⟨rfl,rfl⟩,fun q2 => ⟨rfl,rfl⟩⟩⟩,fun q0 => rfl⟩
def YC (C0 : Gl) (L1 : Ze) (a0 : Int) (a1 : Int) (a2 : Int) : Option Int := ((L1 (Jh.mk a0 a1 a2 (0 : Int) (3 : Int))).bind (fun (o1 : Int) => ((C0 o1 (32 : Int)).bind fun r2 => (some r2))))
theorem QlL {C0 : Nat → Gl} {D0 : Gl} (H0 : Cv2 C0 D0) {L1 : Nat → Ze} {M1 : Ze} (N1 : Cv1 L1 M1) (a0 : Int) (a1 : Int) (a2 : Int) : Cv (fun k => YC (C0 k) (L1 k) a0 a1 a2) (YC D0 M1 a0 a1 a2) := by
 unfold YC
 exact .bind (N1 _) (fun o1 => .bind (H0 _ _) fun r2 => by exact .const _)
noncomputable def Va : Fj := YC Jd Ul
theorem Va.eq (a0 : Int) (a1 : Int) (a2 : Int) : Va a0 a1 a2 = YC Jd Ul a0 a1 a2 := rfl
noncomputable def QlM (a0 : Int) (a1 : Int) (a2 : Int) : Tr Int AH := (Qhv (Jh.mk a0 a1 a2 i0 (zi 3)) (fun o1 => (GX o1 (zi 32) fun r2 => (rt Qe r2))))
theorem Va.ok {a0 : Int} {a1 : Int} {a2 : Int} {r : Int} (h : Va a0 a1 a2 = some r) : ww 192 [xi a0,xi a1,xi a2] [] = some (Qe r) := by
 refine fnP (QlM a0 a1 a2) ?_ h
 exact fun o1 h => ⟨Ul.ok h,fun r2 h => ⟨Jd.ok h,rfl⟩⟩
noncomputable abbrev Qe2 {ρ R : Type} (a0 : Int) (a1 : Int) (a2 : Int) (k : Int → Tr ρ R) : Tr ρ R := .call (ww 192 [xi a0,xi a1,xi a2] []) (Va a0 a1 a2) Qe k
noncomputable def Va.s : Nat → Int → Int → Int → Option Int
 | 0,_,_,_ => none
 | k + 1,a0,a1,a2 => YC (Jd.s k) (Ul.s k) a0 a1 a2
theorem Va.cv (a0 : Int) (a1 : Int) (a2 : Int) : Cv (fun k => Va.s k a0 a1 a2) (Va a0 a1 a2) := .un rfl (QlL Jd.cv Ul.cv a0 a1 a2)
abbrev Fk := ByteArray → Option Int
def Qe3 (a0 : ByteArray) : Option Int := (bif (eqS a0 s_T8) then (some (9 : Int)) else (bif (eqS a0 Ue) then (some (25 : Int)) else (some (16 : Int))))
noncomputable def Jx : Fk := Qe3
noncomputable def QlN (a0 : ByteArray) : Tr Int AH := (.as (eqS a0 s_T8) (rt Qe (zi 9)) (.as (eqS a0 Ue) (rt Qe (zi 25)) (rt Qe (zi 16))))
theorem Jx.ok {a0 : ByteArray} {r : Int} (h : Jx a0 = some r) : ww 194 [xs a0] [] = some (Qe r) := by
 refine fnP (QlN a0) ?_ h
 exact ⟨rfl,fun q0 => rfl,fun q0 => ⟨rfl,fun q1 => rfl,fun q1 => rfl⟩⟩
noncomputable abbrev QaZ {ρ R : Type} (a0 : ByteArray) (k : Int → Tr ρ R) : Tr ρ R := .call (ww 194 [xs a0] []) (Jx a0) Qe k
noncomputable def Jx.s : Nat → ByteArray → Option Int
 | 0,_ => none
 | k + 1,a0 => Qe3 a0
theorem Jx.cv (a0 : ByteArray) : Cv (fun k => Jx.s k a0) (Jx a0) := .un rfl (by exact .const _)
abbrev QiF := ByteArray → Int → Option Int
def Ua (C0 : ZH) (C1 : Qal) (C2 : GV) (C3 : QdG) (C4 : Fj) (C5 : Gl) (C6 : Fk) (a0 : ByteArray) (a1 : Int) : Option Int := ((C0 a0).bind fun r1 => (bif r1.2 then ((C1 r1.1 a1).bind fun r2 => (some r2)) else (bif (eqS a0 s_X) then ((C2 a0).bind fun r3 => (bif (decide (0 ≤ r3)) then (some (w64 ((andI .i64 (shrI .i64 (w64 a1) r3) (15 : Int)) + (w64 ((w64 (Int.tdiv (andI .i64 (shrI .i64 (w64 a1) r3) (15 : Int)) (8 : Int))) * (16 : Int)))))) else none)) else (bif (eqS a0 s_Y) then ((C2 a0).bind fun r4 => (bif (decide (0 ≤ r4)) then (some (w64 ((andI .i64 (shrI .i64 (w64 a1) r4) (15 : Int)) + (w64 ((w64 (Int.tdiv (andI .i64 (shrI .i64 (w64 a1) r4) (15 : Int)) (8 : Int))) * (16 : Int)))))) else none)) else (bif (eqS a0 VY) then ((C3 (andI .i64 (shrI .i64 (w64 a1) (11 : Int)) (15 : Int)) (andI .i64 (shrI .i64 (w64 a1) (16 : Int)) (31 : Int)) (andI .i64 (w64 a1) (2047 : Int))).bind fun r5 => (some r5)) else (bif (eqS a0 s_C8) then ((C4 (andI .i64 (shrI .i64 (w64 a1) (10 : Int)) (1 : Int)) (andI .i64 (shrI .i64 (w64 a1) (8 : Int)) (3 : Int)) (andI .i64 (w64 a1) (255 : Int))).bind fun r6 => (some r6)) else (bif (eqS a0 VZ) then ((C5 (w64 a1) (16 : Int)).bind fun r7 => (some r7)) else (bif (eqS a0 s_T8) then ((C5 (w64 a1) (8 : Int)).bind fun r8 => (some (w64 ((2 : Int) * r8)))) else ((C6 a0).bind fun r9 => ((C5 (andNotI .i64 (w64 a1) (1 : Int)) r9).bind fun r10 => (some r10)))))))))))
noncomputable def JQ : QiF := Ua QF Wi JV WJ Va Jd Jx
theorem JQ.eq (a0 : ByteArray) (a1 : Int) : JQ a0 a1 = Ua QF Wi JV WJ Va Jd Jx a0 a1 := rfl
noncomputable def Qm5 (a0 : ByteArray) (a1 : Int) : Tr Int AH := (Qcq a0 fun r1 => (.as r1.2 (Qe1 r1.1 a1 fun r2 => (rt Qe r2)) (let u50 := (eqS a0 s_X); .as u50 (.yes u50 (YQ a0 fun r3 => (.as (decide (0 ≤ r3)) (.yes (decide ((zi 8) ≠ 0)) (rt Qe (w64 ((andI .i64 (shrI .i64 (w64 a1) r3) (zi 15)) + (w64 ((w64 (Int.tdiv (andI .i64 (shrI .i64 (w64 a1) r3) (zi 15)) (zi 8))) * (zi 16))))))) .fail))) (.as (eqS a0 s_Y) (YQ a0 fun r4 => (.as (decide (0 ≤ r4)) (.yes (decide ((zi 8) ≠ 0)) (rt Qe (w64 ((andI .i64 (shrI .i64 (w64 a1) r4) (zi 15)) + (w64 ((w64 (Int.tdiv (andI .i64 (shrI .i64 (w64 a1) r4) (zi 15)) (zi 8))) * (zi 16))))))) .fail)) (.as (eqS a0 VY) (.yes (decide (0 ≤ (zi 11))) (.yes (decide (0 ≤ (zi 16))) (QiE (andI .i64 (shrI .i64 (w64 a1) (zi 11)) (zi 15)) (andI .i64 (shrI .i64 (w64 a1) (zi 16)) (zi 31)) (andI .i64 (w64 a1) (zi 2047)) fun r5 => (rt Qe r5)))) (.as (eqS a0 s_C8) (.yes (decide (0 ≤ (zi 10))) (.yes (decide (0 ≤ (zi 8))) (Qe2 (andI .i64 (shrI .i64 (w64 a1) (zi 10)) (zi 1)) (andI .i64 (shrI .i64 (w64 a1) (zi 8)) (zi 3)) (andI .i64 (w64 a1) (zi 255)) fun r6 => (rt Qe r6)))) (.as (eqS a0 VZ) (GX (w64 a1) (zi 16) fun r7 => (rt Qe r7)) (.as (eqS a0 s_T8) (GX (w64 a1) (zi 8) fun r8 => (rt Qe (w64 ((zi 2) * r8)))) (QaZ a0 fun r9 => (GX (andNotI .i64 (w64 a1) (zi 1)) r9 fun r10 => (rt Qe r10)))))))))))
theorem JQ.ok {a0 : ByteArray} {a1 : Int} {r : Int} (h : JQ a0 a1 = some r) : ww 143 [xs a0,.sc (.int .u32 a1)] [] = some (Qe r) := by
 refine fnP (Qm5 a0 a1) ?_ h
 exact fun r1 h => ⟨QF.ok h,⟨rfl,fun q0 => fun r2 h => ⟨Wi.ok h,rfl⟩,fun q0 => ⟨rfl,fun q1 => ⟨q1,fun r3 h => ⟨JV.ok h,⟨rfl,fun q2 => ⟨rfl,rfl⟩,fun q2 => trivial⟩⟩⟩,fun q1 => ⟨rfl,fun q2 => fun r4 h => ⟨JV.ok h,⟨rfl,fun q3 => ⟨rfl,rfl⟩,fun q3 => trivial⟩⟩,fun q2 => ⟨rfl,fun q3 => ⟨rfl,⟨rfl,fun r5 h => ⟨WJ.ok h,rfl⟩⟩⟩,fun q3 => ⟨rfl,fun q4 => ⟨rfl,⟨rfl,fun r6 h => ⟨Va.ok h,rfl⟩⟩⟩,fun q4 => ⟨rfl,fun q5 => fun r7 h => ⟨Jd.ok h,rfl⟩,fun q5 => ⟨rfl,fun q6 => fun r8 h => ⟨Jd.ok h,rfl⟩,fun q6 => fun r9 h => ⟨Jx.ok h,fun r10 h => ⟨Jd.ok h,rfl⟩⟩⟩⟩⟩⟩⟩⟩⟩⟩
noncomputable abbrev Qm6 {ρ R : Type} (a0 : ByteArray) (a1 : Int) (k : Int → Tr ρ R) : Tr ρ R := .call (ww 143 [xs a0,.sc (.int .u32 a1)] []) (JQ a0 a1) Qe k
def Xb (r : Int) : AV × Heap := (.sc (.int .u32 r),[])
abbrev EY := Qa → Option Int
def Qcr (a0 : Qa) : Option Int := (some a0.bits)
noncomputable def WK : EY := Qcr
noncomputable def QiG (a0 : Qa) : Tr Int AH := (rt Xb a0.bits)
theorem WK.ok {a0 : Qa} {r : Int} (h : WK a0 = some r) : ww 196 [.agg (V5 a0)] [] = some (Xb r) := by
 refine fnP (QiG a0) ?_ h
 exact rfl
noncomputable abbrev QiH {ρ R : Type} (a0 : Qa) (k : Int → Tr ρ R) : Tr ρ R := .call (ww 196 [.agg (V5 a0)] []) (WK a0) Xb k
noncomputable def WK.s : Nat → Qa → Option Int
 | 0,_ => none
 | k + 1,a0 => Qcr a0
theorem WK.cv (a0 : Qa) : Cv (fun k => WK.s k a0) (WK a0) := .un rfl (by exact .const _)
abbrev QgN := Int → Option Int
def GY (C0 : V3) (C1 : EY) (a0 : Int) : Option Int := ((C0).bind fun r1 => (bif (decide (a0 ≥ 0)) then (bif (decide (a0 < (((r1.length) : Nat) : Int))) then (bif (decide (0 ≤ a0)) then ((r1[(Int.toNat a0)]?).bind fun e2 => ((C1 e2).bind fun r3 => (some r3))) else none) else (some (0 : Int))) else (some (0 : Int))))
theorem QlO {C0 : Nat → V3} {D0 : V3} (H0 : Cv C0 D0) {C1 : Nat → EY} {D1 : EY} (H1 : Cv1 C1 D1) (a0 : Int) : Cv (fun k => GY (C0 k) (C1 k) a0) (GY D0 D1 a0) := by
 unfold GY
 exact .bind (H0) fun r1 => .cond (.cond (.cond (.bind (.const _) fun e2 => .bind (H1 _) fun r3 => by exact .const _) cst) cst) cst
noncomputable def Wn : QgN := GY Jf WK
noncomputable def QlP (a0 : Int) : Tr Int AH := (ZG fun r1 => (let u51 := (decide (a0 ≥ 0)); .as u51 (yesN 2 u51 (.num ((Wo r1).length) (r1.length) (yesN 2 u51 (.as (decide (a0 < (((r1.length) : Nat) : Int))) (.as (decide (0 ≤ a0)) (.row ((Wo r1)[(Int.toNat a0)]?) (r1[(Int.toNat a0)]?) V5 fun (e2 : Qa) => (QiH e2 fun r3 => (rt Xb r3))) .fail) (rt Xb i0))))) (noN 4 u51 (.no false (rt Xb i0)))))
theorem Wn.ok {a0 : Int} {r : Int} (h : Wn a0 = some r) : ww 195 [xi a0,.fn (.func 196) [] []] [] = some (Xb r) := by
 refine fnP (QlP a0) ?_ h
 exact fun r1 h => ⟨Jf.ok h,⟨rfl,fun q0 => Qh 2 (q0) (⟨(YK _),Qh 2 (q0) (⟨rfl,fun q1 => ⟨rfl,fun q2 => fun e2 h => ⟨ZN h,fun r3 h => ⟨WK.ok h,rfl⟩⟩,fun q2 => trivial⟩,fun q1 => rfl⟩)⟩),fun q0 => noN_ok 4 (q0) (⟨rfl,rfl⟩)⟩⟩
noncomputable abbrev QlQ {ρ R : Type} (a0 : Int) (k : Int → Tr ρ R) : Tr ρ R := .call (ww 195 [xi a0,.fn (.func 196) [] []] []) (Wn a0) Xb k
noncomputable def Wn.s : Nat → Int → Option Int
 | 0,_ => none
 | k + 1,a0 => GY (Jf.s k) (WK.s k) a0
theorem Wn.cv (a0 : Int) : Cv (fun k => Wn.s k a0) (Wn a0) := .un rfl (QlO Jf.cv WK.cv a0)
def QB (r : (Int × Bool)) : AV × Heap := (.tup [.sc (.int .u32 r.1),xo r.2],[])
abbrev Zr := Qv → Int → Option (Int × Bool)
def Y0 (a0 : Qv) (a1 : Int) : Option (Int × Bool) := (bif (decide (a1 < a0.less)) then (some ((0 : Int),false)) else (bif (decide (0 ≤ a0.bits)) then (bif (decide ((w64 (a1 - a0.less)) ≥ (shlI .i64 a0.step a0.bits))) then (some ((0 : Int),false)) else (bif (decide (a0.step ≠ 0)) then (bif ((Int.tmod (w64 (a1 - a0.less)) a0.step) != 0) then (some ((0 : Int),false)) else (bif (decide (0 ≤ a0.at_)) then (some ((shlI .u32 (IntKind.u32.wrap (w64 (Int.tdiv (w64 (a1 - a0.less)) a0.step))) a0.at_),true)) else none)) else none)) else none))
noncomputable def QM : Zr := Y0
theorem QM.eq (a0 : Qv) (a1 : Int) : QM a0 a1 = Y0 a0 a1 := rfl
noncomputable def Qe4 (a0 : Qv) (a1 : Int) : Tr (Int × Bool) AH := (let u54 := (decide (a1 < a0.less)); .as u54 (yesN 10 u54 (yesN 10 true (rt QB (i0,false)))) (noN 8 u54 (.as (decide (0 ≤ a0.bits)) (noN 2 u54 (let u53 := (decide ((w64 (a1 - a0.less)) ≥ (shlI .i64 a0.step a0.bits))); .as u53 (yesN 8 u53 (.yes true (rt QB (i0,false)))) (noN 6 u53 (let u52 := (decide (a0.step ≠ 0)); .as u52 (noN 2 u53 (.as ((Int.tmod (w64 (a1 - a0.less)) a0.step) != 0) (rt QB (i0,false)) (.yes u52 (.as (decide (0 ≤ a0.at_)) (rt QB ((shlI .u32 (IntKind.u32.wrap (w64 (Int.tdiv (w64 (a1 - a0.less)) a0.step))) a0.at_),true)) .fail)))) .fail)))) .fail)))
theorem QM.ok {a0 : Qv} {a1 : Int} {r : (Int × Bool)} (h : QM a0 a1 = some r) : ww 223 [.agg (ZB a0),xi a1] [] = some (QB r) := by
 refine fnP (Qe4 a0 a1) ?_ h
 exact ⟨rfl,fun q0 => Qh 10 (q0) (Qh 10 (rfl) (rfl)),fun q0 => noN_ok 8 (q0) (⟨rfl,fun q1 => noN_ok 2 (q0) (⟨rfl,fun q2 => Qh 8 (q2) (⟨rfl,rfl⟩),fun q2 => noN_ok 6 (q2) (⟨rfl,fun q3 => noN_ok 2 (q2) (⟨rfl,fun q4 => rfl,fun q4 => ⟨q3,⟨rfl,fun q5 => rfl,fun q5 => trivial⟩⟩⟩),fun q3 => trivial⟩)⟩),fun q1 => trivial⟩)⟩
noncomputable abbrev Qe5 {ρ R : Type} (a0 : Qv) (a1 : Int) (k : (Int × Bool) → Tr ρ R) : Tr ρ R := .call (ww 223 [.agg (ZB a0),xi a1] []) (QM a0 a1) QB k
noncomputable def QM.s : Nat → Qv → Int → Option (Int × Bool)
 | 0,_,_ => none
 | k + 1,a0,a1 => Y0 a0 a1
theorem QM.cv (a0 : Qv) (a1 : Int) : Cv (fun k => QM.s k a0 a1) (QM a0 a1) := .un rfl (by exact .const _)
abbrev F3 := Int → Option (Int × Int × Int)
def SD (a0 : Int) : Option (Int × Int × Int) := (some ((andI .i64 (shrI .i64 a0 (16 : Int)) (15 : Int)),(andI .i64 (shrI .i64 a0 (11 : Int)) (31 : Int)),(andI .i64 a0 (2047 : Int))))
noncomputable def Vg : F3 := SD
theorem Vg.eq (a0 : Int) : Vg a0 = SD a0 := rfl
noncomputable def QjR (a0 : Int) : Tr (Int × Int × Int) AH := (.yes (decide (0 ≤ (zi 16))) (.yes (decide (0 ≤ (zi 11))) (rt Zo ((andI .i64 (shrI .i64 a0 (zi 16)) (zi 15)),(andI .i64 (shrI .i64 a0 (zi 11)) (zi 31)),(andI .i64 a0 (zi 2047))))))
theorem Vg.ok {a0 : Int} {r : (Int × Int × Int)} (h : Vg a0 = some r) : ww 224 [xi a0] [] = some (Zo r) := by
 refine fnP (QjR a0) ?_ h
 exact ⟨rfl,⟨rfl,rfl⟩⟩
noncomputable abbrev QjS {ρ R : Type} (a0 : Int) (k : (Int × Int × Int) → Tr ρ R) : Tr ρ R := .call (ww 224 [xi a0] []) (Vg a0) Zo k
noncomputable def Vg.s : Nat → Int → Option (Int × Int × Int)
 | 0,_ => none
 | k + 1,a0 => SD a0
theorem Vg.cv (a0 : Int) : Cv (fun k => Vg.s k a0) (Vg a0) := .un rfl (by exact .const _)
abbrev Qcs := Int → Int → Option Bool
noncomputable def Jy (a0 : Int) (a1 : Int) : Option Bool := fitsS a0 a1
noncomputable abbrev Qa0 {ρ R : Type} (a0 : Int) (a1 : Int) (k : Bool → Tr ρ R) : Tr ρ R := .call (ww 225 [xi a0,xi a1] []) (Jy a0 a1) Qm k
theorem Jy.ok {a0 : Int} {a1 : Int} {r : Bool} (h : Jy a0 a1 = some r) : ww 225 [xi a0,xi a1] [] = some (Qm r) := (Gg rfl _ _).trans (QpW h)
noncomputable def Jy.s : Nat → Int → Int → Option Bool
 | 0,_,_ => none
 | _ + 1,a0,a1 => fitsS a0 a1
theorem Jy.cv (a0 : Int) (a1 : Int) : Cv (fun k => Jy.s k a0 a1) (Jy a0 a1) := .un rfl (.const _)
def SE (r : (List Qq)) : AV × Heap := (.sl (XV r),[])
abbrev F4 := Option (List Qq)
def SF : Option (List Qq) := (some [(Qq.mk (0 : Int) (0 : Int)),(Qq.mk (0 : Int) (1 : Int)),(Qq.mk (0 : Int) (2 : Int)),(Qq.mk (0 : Int) (3 : Int)),(Qq.mk (1 : Int) (0 : Int)),(Qq.mk (1 : Int) (1 : Int)),(Qq.mk (1 : Int) (2 : Int)),(Qq.mk (1 : Int) (3 : Int))])
noncomputable def VT : F4 := SF
theorem VT.eq : VT = SF := rfl
noncomputable def QjT : Tr (List Qq) AH := (.rows [[xi i0,xi i0],[xi i0,xi (zi 1)],[xi i0,xi (zi 2)],[xi i0,xi (zi 3)],[xi (zi 1),xi i0],[xi (zi 1),xi (zi 1)],[xi (zi 1),xi (zi 2)],[xi (zi 1),xi (zi 3)]] (XV [(Qq.mk i0 i0),(Qq.mk i0 (zi 1)),(Qq.mk i0 (zi 2)),(Qq.mk i0 (zi 3)),(Qq.mk (zi 1) i0),(Qq.mk (zi 1) (zi 1)),(Qq.mk (zi 1) (zi 2)),(Qq.mk (zi 1) (zi 3))]) (rt SE [(Qq.mk i0 i0),(Qq.mk i0 (zi 1)),(Qq.mk i0 (zi 2)),(Qq.mk i0 (zi 3)),(Qq.mk (zi 1) i0),(Qq.mk (zi 1) (zi 1)),(Qq.mk (zi 1) (zi 2)),(Qq.mk (zi 1) (zi 3))]))
theorem VT.ok {r : (List Qq)} (h : VT = some r) : ww 249 [] [] = some (SE r) := by
 refine fnP (QjT) ?_ h
 exact ⟨(EA [(Qq.mk (0 : Int) (0 : Int)),(Qq.mk (0 : Int) (1 : Int)),(Qq.mk (0 : Int) (2 : Int)),(Qq.mk (0 : Int) (3 : Int)),(Qq.mk (1 : Int) (0 : Int)),(Qq.mk (1 : Int) (1 : Int)),(Qq.mk (1 : Int) (2 : Int)),(Qq.mk (1 : Int) (3 : Int))]),rfl⟩
noncomputable abbrev QjU {ρ R : Type} (k : (List Qq) → Tr ρ R) : Tr ρ R := .call (ww 249 [] []) (VT) SE k
noncomputable def VT.s : Nat → Option (List Qq)
 | 0 => none
 | k + 1 => SF
theorem VT.cv : Cv (fun k => VT.s k ) (VT ) := .un rfl (by exact .const _)
abbrev GZ := Qq → Int → Option Int
def Xg (C0 : Fj) (a0 : Qq) (a1 : Int) : Option Int := ((C0 a0.f a0.scale a1).bind fun r1 => (some r1))
theorem Qhx {C0 : Nat → Fj} {D0 : Fj} (H0 : Cv3 C0 D0) (a0 : Qq) (a1 : Int) : Cv (fun k => Xg (C0 k) a0 a1) (Xg D0 a0 a1) := by
 unfold Xg
 exact .bind (H0 _ _ _) fun r1 => by exact .const _
noncomputable def UP : GZ := Xg Va
theorem UP.eq (a0 : Qq) (a1 : Int) : UP a0 a1 = Xg Va a0 a1 := rfl
noncomputable def Qhy (a0 : Qq) (a1 : Int) : Tr Int AH := (Qe2 a0.f a0.scale a1 fun r1 => (rt Qe r1))
theorem UP.ok {a0 : Qq} {a1 : Int} {r : Int} (h : UP a0 a1 = some r) : ww 251 [.agg (Xj a0),xi a1] [] = some (Qe r) := by
 refine fnP (Qhy a0 a1) ?_ h
 exact fun r1 h => ⟨Va.ok h,rfl⟩
noncomputable abbrev Qhz {ρ R : Type} (a0 : Qq) (a1 : Int) (k : Int → Tr ρ R) : Tr ρ R := .call (ww 251 [.agg (Xj a0),xi a1] []) (UP a0 a1) Qe k
noncomputable def UP.s : Nat → Qq → Int → Option Int
 | 0,_,_ => none
 | k + 1,a0,a1 => Xg (Va.s k) a0 a1
theorem UP.cv (a0 : Qq) (a1 : Int) : Cv (fun k => UP.s k a0 a1) (UP a0 a1) := .un rfl (Qhx Va.cv a0 a1)
abbrev F5 := Int → Qq → Option Int
structure JY where
 x0 : Int
 x1_f0 : Qq
 x6 : Int
def EG (a : JY) : St := { n := 16,nx := 0,env := [(0,xi a.x0),(1,.fn (.func 251) [.agg (Xj a.x1_f0)] []),(6,xi a.x6)],heap := [] }
def Se (a : Int) : Ex × St := (.ret,{ n := 16,nx := 0,env := [(4,xi a)],heap := [] })
def Sf (a : Unit) : Ex × St := (.exit 0,{ n := 16,nx := 0,env := [],heap := [] })
def EH (a : (Int ⊕ Unit)) : Ex × St := Sum.elim Se Sf a
abbrev YM := JY → Option (Int ⊕ Unit)
def WA (C0 : GZ) (a : JY) : Option (JY ⊕ (Int ⊕ Unit)) := (bif (decide (a.x6 < 256)) then ((C0 a.x1_f0 a.x6).bind fun r1 => (bif (r1 == a.x0) then (some (.inr (.inl a.x6))) else (some (.inl (JY.mk a.x0 a.x1_f0 (w64 (a.x6 + 1))))))) else (some (.inr (.inr ()))))
theorem QfX {C0 : Nat → GZ} {D0 : GZ} (H0 : Cv2 C0 D0) (a : JY) : Cv (fun k => WA (C0 k) a) (WA D0 a) := by
 unfold WA
 exact .cond (.bind (H0 _ _) fun r1 => by exact .const _) cst
noncomputable def Ut.s (k : Nat) : YM := iter (WA (UP.s k)) k
theorem Ut.cv (a : JY) : Cv (fun k => Ut.s k a) (loopW (WA UP) a) := Cv.iter (fun a => QfX UP.cv a) a
noncomputable def Ut : YM := loopW (WA UP)
theorem Ut.eq (a : JY) : Ut a = (WA UP a).bind (Sum.elim Ut some) := Jc _ _
noncomputable abbrev QfY {ρ R : Type} (a : JY) (k0 : Int → Tr ρ R) (k1 : Unit → Tr ρ R) : Tr ρ R := .loop2 (loopAt pp 250 2) (EG a) (Ut a) Se Sf k0 k1
noncomputable def QfZ (a : JY) : Tr (JY ⊕ (Int ⊕ Unit)) XS := (.as (decide (a.x6 < 256)) (Qhz a.x1_f0 a.x6 fun r1 => (.as (r1 == a.x0) (rx EH (.inl a.x6)) (lf EG (JY.mk a.x0 a.x1_f0 (w64 (a.x6 + 1)))))) (rx EH (.inr ())))
theorem Ut.ok {a : JY} {r : (Int ⊕ Unit)} (h : Ut a = some r) : lw 0 250 (loopAt pp 250 2) (EG a) = some (EH r) := by
 refine lpP h QfZ fun a => ?_
 exact ⟨rfl,fun q0 => fun r1 h => ⟨UP.ok h,⟨rfl,fun q1 => rfl,fun q1 => rfl⟩⟩,fun q0 => rfl⟩
def X8 (L0 : YM) (a0 : Int) (a1_f0 : Qq) : Option Int := ((L0 (JY.mk a0 a1_f0 (0 : Int))).bind fun x => Sum.elim (fun (o1 : Int) => (some o1)) (fun (o2 : Unit) => (some (-1 : Int))) x)
theorem QjV {L0 : Nat → YM} {M0 : YM} (N0 : Cv1 L0 M0) (a0 : Int) (a1_f0 : Qq) : Cv (fun k => X8 (L0 k) a0 a1_f0) (X8 M0 a0 a1_f0) := by
 unfold X8
 exact .bind (N0 _) fun x => .sum (fun o1 => by exact .const _) (fun o2 => by exact .const _) x
noncomputable def Vt : F5 := X8 Ut
theorem Vt.eq (a0 : Int) (a1_f0 : Qq) : Vt a0 a1_f0 = X8 Ut a0 a1_f0 := rfl
noncomputable def QjW (a0 : Int) (a1_f0 : Qq) : Tr Int AH := (QfY (JY.mk a0 a1_f0 i0) (fun o1 => (rt Qe o1)) (fun o2 => (rt Qe (-1 : Int))))
theorem Vt.ok {a0 : Int} {a1_f0 : Qq} {r : Int} (h : Vt a0 a1_f0 = some r) : ww 250 [xi a0,.fn (.func 251) [.agg (Xj a1_f0)] []] [] = some (Qe r) := by
 refine fnP (QjW a0 a1_f0) ?_ h
 exact ⟨fun o1 h => ⟨Ut.ok (r := (.inl _)) h,rfl⟩,fun o2 h => ⟨Ut.ok (r := (.inr _)) h,rfl⟩⟩
noncomputable abbrev QjX {ρ R : Type} (a0 : Int) (a1_f0 : Qq) (k : Int → Tr ρ R) : Tr ρ R := .call (ww 250 [xi a0,.fn (.func 251) [.agg (Xj a1_f0)] []] []) (Vt a0 a1_f0) Qe k
noncomputable def Vt.s : Nat → Int → Qq → Option Int
 | 0,_,_ => none
 | k + 1,a0,a1_f0 => X8 (Ut.s k) a0 a1_f0
theorem Vt.cv (a0 : Int) (a1_f0 : Qq) : Cv (fun k => Vt.s k a0 a1_f0) (Vt a0 a1_f0) := .un rfl (QjV Ut.cv a0 a1_f0)
abbrev Sg := Int → Option (Int × Int × Int × Bool)
structure Un where
 x0 : Int
 x8 : (List Qq)
 x9 : Int
 x10 : Int
structure VO where
 x2 : Int
 x3 : Int
 x4 : Int
 x5 : Bool
def FG (a : Un) : St := { n := 26,nx := 0,env := [(0,xi a.x0),(8,.sl (XV a.x8)),(9,xi a.x9),(10,xi a.x10)],heap := [] }
def Qam (a : VO) : Ex × St := (.ret,{ n := 26,nx := 0,env := [(2,xi a.x2),(3,xi a.x3),(4,xi a.x4),(5,xo a.x5)],heap := [] })
def Qan (a : Unit) : Ex × St := (.exit 0,{ n := 26,nx := 0,env := [],heap := [] })
def FH (a : (VO ⊕ Unit)) : Ex × St := Sum.elim Qam Qan a
abbrev Zf := Un → Option (VO ⊕ Unit)
def WQ (C0 : F5) (a : Un) : Option (Un ⊕ (VO ⊕ Unit)) := (bif (decide (a.x10 < a.x9)) then (bif (decide (0 ≤ a.x10)) then ((a.x8[(Int.toNat a.x10)]?).bind fun e1 => ((C0 a.x0 e1).bind fun r2 => (bif (decide (r2 ≥ 0)) then (some (.inr (.inl (VO.mk e1.f e1.scale r2 true)))) else (some (.inl (Un.mk a.x0 a.x8 a.x9 (w64 (a.x10 + 1)))))))) else none) else (some (.inr (.inr ()))))
theorem QhA {C0 : Nat → F5} {D0 : F5} (H0 : Cv2 C0 D0) (a : Un) : Cv (fun k => WQ (C0 k) a) (WQ D0 a) := by
 unfold WQ
 exact .cond (.cond (.bind (.const _) fun e1 => .bind (H0 _ _) fun r2 => by exact .const _) cst) cst
noncomputable def Uw.s (k : Nat) : Zf := iter (WQ (Vt.s k)) k
theorem Uw.cv (a : Un) : Cv (fun k => Uw.s k a) (loopW (WQ Vt) a) := Cv.iter (fun a => QhA Vt.cv a) a
noncomputable def Uw : Zf := loopW (WQ Vt)
theorem Uw.eq (a : Un) : Uw a = (WQ Vt a).bind (Sum.elim Uw some) := Jc _ _
noncomputable abbrev QhB {ρ R : Type} (a : Un) (k0 : VO → Tr ρ R) (k1 : Unit → Tr ρ R) : Tr ρ R := .loop2 (loopAt pp 226 2) (FG a) (Uw a) Qam Qan k0 k1
noncomputable def QhC (a : Un) : Tr (Un ⊕ (VO ⊕ Unit)) XS := (.as (decide (a.x10 < a.x9)) (.as (decide (0 ≤ a.x10)) (.row ((XV a.x8)[(Int.toNat a.x10)]?) (a.x8[(Int.toNat a.x10)]?) Xj fun (e1 : Qq) => (QjX a.x0 e1 fun r2 => (.as (decide (r2 ≥ 0)) (rx FH (.inl (VO.mk e1.f e1.scale r2 true))) (lf FG (Un.mk a.x0 a.x8 a.x9 (w64 (a.x10 + 1))))))) .fail) (rx FH (.inr ())))
theorem Uw.ok {a : Un} {r : (VO ⊕ Unit)} (h : Uw a = some r) : lw 0 226 (loopAt pp 226 2) (FG a) = some (FH r) := by
 refine lpP h QhC fun a => ?_
 exact ⟨rfl,fun q0 => ⟨rfl,fun q1 => fun e1 h => ⟨QfP h,fun r2 h => ⟨Vt.ok h,⟨rfl,fun q2 => rfl,fun q2 => rfl⟩⟩⟩,fun q1 => trivial⟩,fun q0 => rfl⟩
def YD (C0 : F4) (L1 : Zf) (a0 : Int) : Option (Int × Int × Int × Bool) := ((C0).bind fun r1 => ((L1 (Un.mk a0 r1 (((r1.length) : Nat) : Int) (0 : Int))).bind fun x => Sum.elim (fun (o2 : VO) => (some (o2.x2,o2.x3,o2.x4,o2.x5))) (fun (o3 : Unit) => (some ((0 : Int),(0 : Int),(0 : Int),false))) x))
theorem QlR {C0 : Nat → F4} {D0 : F4} (H0 : Cv C0 D0) {L1 : Nat → Zf} {M1 : Zf} (N1 : Cv1 L1 M1) (a0 : Int) : Cv (fun k => YD (C0 k) (L1 k) a0) (YD D0 M1 a0) := by
 unfold YD
 exact .bind (H0) fun r1 => .bind (N1 _) fun x => .sum (fun o2 => by exact .const _) (fun o3 => by exact .const _) x
noncomputable def VV : Sg := YD VT Uw
theorem VV.eq (a0 : Int) : VV a0 = YD VT Uw a0 := rfl
noncomputable def QlS (a0 : Int) : Tr (Int × Int × Int × Bool) AH := (QjU fun r1 => (.num ((XV r1).length) (r1.length) (QhB (Un.mk a0 r1 (((r1.length) : Nat) : Int) i0) (fun o2 => (rt XW (o2.x2,o2.x3,o2.x4,o2.x5))) (fun o3 => (rt XW (i0,i0,i0,false))))))
theorem VV.ok {a0 : Int} {r : (Int × Int × Int × Bool)} (h : VV a0 = some r) : ww 226 [xi a0] [] = some (XW r) := by
 refine fnP (QlS a0) ?_ h
 exact fun r1 h => ⟨VT.ok h,⟨(QfQ _),⟨fun o2 h => ⟨Uw.ok (r := (.inl _)) h,rfl⟩,fun o3 h => ⟨Uw.ok (r := (.inr _)) h,rfl⟩⟩⟩⟩
noncomputable abbrev QlT {ρ R : Type} (a0 : Int) (k : (Int × Int × Int × Bool) → Tr ρ R) : Tr ρ R := .call (ww 226 [xi a0] []) (VV a0) XW k
noncomputable def VV.s : Nat → Int → Option (Int × Int × Int × Bool)
 | 0,_ => none
 | k + 1,a0 => YD (VT.s k) (Uw.s k) a0
theorem VV.cv (a0 : Int) : Cv (fun k => VV.s k a0) (VV a0) := .un rfl (QlR VT.cv Uw.cv a0)
abbrev QiI := ByteArray → Int → Option (Int × Bool)
def Uq (C0 : ZH) (C1 : Zr) (C2 : GV) (C3 : F3) (C4 : Qcs) (C5 : Sg) (C6 : Fk) (a0 : ByteArray) (a1 : Int) : Option (Int × Bool) := ((C0 a0).bind fun r1 => (bif r1.2 then ((C1 r1.1 a1).bind fun r2 => (some (r2.1,r2.2))) else (bif (eqS a0 s_X) then (bif (decide (a1 < 0)) then (some ((0 : Int),false)) else (bif (decide (a1 > 7)) then (bif (decide (a1 < 24)) then (some ((0 : Int),false)) else (bif (decide (a1 > 31)) then (some ((0 : Int),false)) else ((C2 a0).bind fun r3 => (bif (decide (0 ≤ r3)) then (some ((shlI .u32 (IntKind.u32.wrap (w64 (a1 - (w64 ((w64 (Int.tdiv a1 (24 : Int))) * (16 : Int)))))) r3),true)) else none)))) else (bif (decide (a1 > 31)) then (some ((0 : Int),false)) else ((C2 a0).bind fun r4 => (bif (decide (0 ≤ r4)) then (some ((shlI .u32 (IntKind.u32.wrap (w64 (a1 - (w64 ((w64 (Int.tdiv a1 (24 : Int))) * (16 : Int)))))) r4),true)) else none))))) else (bif (eqS a0 s_Y) then (bif (decide (a1 < 0)) then (some ((0 : Int),false)) else (bif (decide (a1 > 7)) then (bif (decide (a1 < 24)) then (some ((0 : Int),false)) else (bif (decide (a1 > 31)) then (some ((0 : Int),false)) else ((C2 a0).bind fun r5 => (bif (decide (0 ≤ r5)) then (some ((shlI .u32 (IntKind.u32.wrap (w64 (a1 - (w64 ((w64 (Int.tdiv a1 (24 : Int))) * (16 : Int)))))) r5),true)) else none)))) else (bif (decide (a1 > 31)) then (some ((0 : Int),false)) else ((C2 a0).bind fun r6 => (bif (decide (0 ≤ r6)) then (some ((shlI .u32 (IntKind.u32.wrap (w64 (a1 - (w64 ((w64 (Int.tdiv a1 (24 : Int))) * (16 : Int)))))) r6),true)) else none))))) else (bif (eqS a0 VY) then ((C3 a1).bind fun r7 => ((C4 a1 (20 : Int)).bind fun r8 => (some ((IntKind.u32.wrap (orI .i64 (orI .i64 (shlI .i64 r7.1 (11 : Int)) (shlI .i64 r7.2.1 (16 : Int))) r7.2.2)),r8)))) else (bif (eqS a0 s_C8) then ((C5 a1).bind fun r9 => (some ((IntKind.u32.wrap (orI .i64 (orI .i64 (shlI .i64 r9.1 (10 : Int)) (shlI .i64 r9.2.1 (8 : Int))) r9.2.2.1)),r9.2.2.2))) else (bif (eqS a0 VZ) then ((C4 a1 (16 : Int)).bind fun r10 => (some ((IntKind.u32.wrap (andI .i64 a1 (65535 : Int))),r10))) else (bif ((Int.tmod a1 (2 : Int)) != 0) then (some ((0 : Int),false)) else ((C6 a0).bind fun r11 => ((C4 a1 r11).bind fun r12 => (bif (!r12) then (some ((0 : Int),false)) else (bif (eqS a0 s_T8) then (some ((IntKind.u32.wrap (andI .i64 (w64 (Int.tdiv a1 (2 : Int))) (255 : Int))),true)) else ((C6 a0).bind fun r13 => (bif (decide (0 ≤ r13)) then (some ((IntKind.u32.wrap (andI .i64 a1 (w64 ((shlI .i64 (1 : Int) r13) - 1)))),true)) else none))))))))))))))
theorem Qm7 {C0 : Nat → ZH} {D0 : ZH} (H0 : Cv1 C0 D0) {C1 : Nat → Zr} {D1 : Zr} (H1 : Cv2 C1 D1) {C2 : Nat → GV} {D2 : GV} (H2 : Cv1 C2 D2) {C3 : Nat → F3} {D3 : F3} (H3 : Cv1 C3 D3) {C4 : Nat → Qcs} {D4 : Qcs} (H4 : Cv2 C4 D4) {C5 : Nat → Sg} {D5 : Sg} (H5 : Cv1 C5 D5) {C6 : Nat → Fk} {D6 : Fk} (H6 : Cv1 C6 D6) (a0 : ByteArray) (a1 : Int) : Cv (fun k => Uq (C0 k) (C1 k) (C2 k) (C3 k) (C4 k) (C5 k) (C6 k) a0 a1) (Uq D0 D1 D2 D3 D4 D5 D6 a0 a1) := by
 unfold Uq
 exact .bind (H0 _) fun r1 => .cond (.bind (H1 _ _) fun r2 => by exact .const _) (.cond (.cond cst (.cond (.cond cst (.cond cst (.bind (H2 _) fun r3 => by exact .const _))) (.cond cst (.bind (H2 _) fun r4 => by exact .const _)))) (.cond (.cond cst (.cond (.cond cst (.cond cst (.bind (H2 _) fun r5 => by exact .const _))) (.cond cst (.bind (H2 _) fun r6 => by exact .const _)))) (.cond (.bind (H3 _) fun r7 => .bind (H4 _ _) fun r8 => by exact .const _) (.cond (.bind (H5 _) fun r9 => by exact .const _) (.cond (.bind (H4 _ _) fun r10 => by exact .const _) (.cond cst (.bind (H6 _) fun r11 => .bind (H4 _ _) fun r12 => .cond cst (.cond cst (.bind (H6 _) fun r13 => by exact .const _)))))))))
noncomputable def JA : QiI := Uq QF QM JV Vg Jy VV Jx
theorem JA.eq (a0 : ByteArray) (a1 : Int) : JA a0 a1 = Uq QF QM JV Vg Jy VV Jx a0 a1 := rfl
noncomputable def Qm8 (a0 : ByteArray) (a1 : Int) : Tr (Int × Bool) AH := (Qcq a0 fun r1 => (.as r1.2 (Qe5 r1.1 a1 fun r2 => (rt QB (r2.1,r2.2))) (let u62 := (eqS a0 s_X); .as u62 (.yes u62 (let u57 := (decide (a1 < 0)); .as u57 (yesN 4 u57 (yesN 4 true (rt QB (i0,false)))) (noN 2 u57 (let u56 := (decide (a1 > 7)); .as u56 (.yes u56 (.no u57 (.yes u56 (.no u57 (let u55 := (decide (a1 < 24)); .as u55 (yesN 2 u55 (.yes true (rt QB (i0,false)))) (noN 2 u55 (.as (decide (a1 > 31)) (rt QB (i0,false)) (.yes (decide ((zi 24) ≠ 0)) (YQ a0 fun r3 => (.as (decide (0 ≤ r3)) (rt QB ((shlI .u32 (IntKind.u32.wrap (w64 (a1 - (w64 ((w64 (Int.tdiv a1 (zi 24))) * (zi 16)))))) r3),true)) .fail)))))))))) (.no u56 (.no u57 (.no u56 (.no u57 (noN 3 false (.as (decide (a1 > 31)) (rt QB (i0,false)) (.yes (decide ((zi 24) ≠ 0)) (YQ a0 fun r4 => (.as (decide (0 ≤ r4)) (rt QB ((shlI .u32 (IntKind.u32.wrap (w64 (a1 - (w64 ((w64 (Int.tdiv a1 (zi 24))) * (zi 16)))))) r4),true)) .fail))))))))))))) (.as (eqS a0 s_Y) (let u60 := (decide (a1 < 0)); .as u60 (yesN 4 u60 (yesN 4 true (rt QB (i0,false)))) (noN 2 u60 (let u59 := (decide (a1 > 7)); .as u59 (.yes u59 (.no u60 (.yes u59 (.no u60 (let u58 := (decide (a1 < 24)); .as u58 (yesN 2 u58 (.yes true (rt QB (i0,false)))) (noN 2 u58 (.as (decide (a1 > 31)) (rt QB (i0,false)) (.yes (decide ((zi 24) ≠ 0)) (YQ a0 fun r5 => (.as (decide (0 ≤ r5)) (rt QB ((shlI .u32 (IntKind.u32.wrap (w64 (a1 - (w64 ((w64 (Int.tdiv a1 (zi 24))) * (zi 16)))))) r5),true)) .fail)))))))))) (.no u59 (.no u60 (.no u59 (.no u60 (noN 3 false (.as (decide (a1 > 31)) (rt QB (i0,false)) (.yes (decide ((zi 24) ≠ 0)) (YQ a0 fun r6 => (.as (decide (0 ≤ r6)) (rt QB ((shlI .u32 (IntKind.u32.wrap (w64 (a1 - (w64 ((w64 (Int.tdiv a1 (zi 24))) * (zi 16)))))) r6),true)) .fail)))))))))))) (.as (eqS a0 VY) (QjS a1 fun r7 => (.yes (decide (0 ≤ (zi 11))) (.yes (decide (0 ≤ (zi 16))) (Qa0 a1 (zi 20) fun r8 => (rt QB ((IntKind.u32.wrap (orI .i64 (orI .i64 (shlI .i64 r7.1 (zi 11)) (shlI .i64 r7.2.1 (zi 16))) r7.2.2)),r8)))))) (.as (eqS a0 s_C8) (QlT a1 fun r9 => (.yes (decide (0 ≤ (zi 10))) (.yes (decide (0 ≤ (zi 8))) (rt QB ((IntKind.u32.wrap (orI .i64 (orI .i64 (shlI .i64 r9.1 (zi 10)) (shlI .i64 r9.2.1 (zi 8))) r9.2.2.1)),r9.2.2.2))))) (.as (eqS a0 VZ) (Qa0 a1 (zi 16) fun r10 => (rt QB ((IntKind.u32.wrap (andI .i64 a1 (zi 65535))),r10))) (.yes (decide ((zi 2) ≠ 0)) (let u61 := ((Int.tmod a1 (zi 2)) != 0); .as u61 (yesN 5 u61 (.yes true (rt QB (i0,false)))) (noN 2 u61 (QaZ a0 fun r11 => (.no u61 (Qa0 a1 r11 fun r12 => (noN 2 u61 (.as (!r12) (rt QB (i0,false)) (.as (eqS a0 s_T8) (.yes (decide ((zi 2) ≠ 0)) (rt QB ((IntKind.u32.wrap (andI .i64 (w64 (Int.tdiv a1 (zi 2))) (zi 255))),true))) (QaZ a0 fun r13 => (.as (decide (0 ≤ r13)) (rt QB ((IntKind.u32.wrap (andI .i64 a1 (w64 ((shlI .i64 (zi 1) r13) - 1)))),true)) .fail))))))))))))))))))
theorem JA.ok {a0 : ByteArray} {a1 : Int} {r : (Int × Bool)} (h : JA a0 a1 = some r) : ww 197 [xs a0,xi a1] [] = some (QB r) := by
 refine fnP (Qm8 a0 a1) ?_ h
 exact fun r1 h => ⟨QF.ok h,⟨rfl,fun q0 => fun r2 h => ⟨QM.ok h,rfl⟩,fun q0 => ⟨rfl,fun q1 => ⟨q1,⟨rfl,fun q2 => Qh 4 (q2) (Qh 4 (rfl) (rfl)),fun q2 => noN_ok 2 (q2) (⟨rfl,fun q3 => ⟨q3,⟨q2,⟨q3,⟨q2,⟨rfl,fun q4 => Qh 2 (q4) (⟨rfl,rfl⟩),fun q4 => noN_ok 2 (q4) (⟨rfl,fun q5 => rfl,fun q5 => ⟨rfl,fun r3 h => ⟨JV.ok h,⟨rfl,fun q6 => rfl,fun q6 => trivial⟩⟩⟩⟩)⟩⟩⟩⟩⟩,fun q3 => ⟨q3,⟨q2,⟨q3,⟨q2,noN_ok 3 (rfl) (⟨rfl,fun q4 => rfl,fun q4 => ⟨rfl,fun r4 h => ⟨JV.ok h,⟨rfl,fun q5 => rfl,fun q5 => trivial⟩⟩⟩⟩)⟩⟩⟩⟩⟩)⟩⟩,fun q1 => ⟨rfl,fun q2 => ⟨rfl,fun q3 => Qh 4 (q3) (Qh 4 (rfl) (rfl)),fun q3 => noN_ok 2 (q3) (⟨rfl,fun q4 => ⟨q4,⟨q3,⟨q4,⟨q3,⟨rfl,fun q5 => Qh 2 (q5) (⟨rfl,rfl⟩),fun q5 => noN_ok 2 (q5) (⟨rfl,fun q6 => rfl,fun q6 => ⟨rfl,fun r5 h => ⟨JV.ok h,⟨rfl,fun q7 => rfl,fun q7 => trivial⟩⟩⟩⟩)⟩⟩⟩⟩⟩,fun q4 => ⟨q4,⟨q3,⟨q4,⟨q3,noN_ok 3 (rfl) (⟨rfl,fun q5 => rfl,fun q5 => ⟨rfl,fun r6 h => ⟨JV.ok h,⟨rfl,fun q6 => rfl,fun q6 => trivial⟩⟩⟩⟩)⟩⟩⟩⟩⟩)⟩,fun q2 => ⟨rfl,fun q3 => fun r7 h => ⟨Vg.ok h,⟨rfl,⟨rfl,fun r8 h => ⟨Jy.ok h,rfl⟩⟩⟩⟩,fun q3 => ⟨rfl,fun q4 => fun r9 h => ⟨VV.ok h,⟨rfl,⟨rfl,rfl⟩⟩⟩,fun q4 => ⟨rfl,fun q5 => fun r10 h => ⟨Jy.ok h,rfl⟩,fun q5 => ⟨rfl,⟨rfl,fun q6 => Qh 5 (q6) (⟨rfl,rfl⟩),fun q6 => noN_ok 2 (q6) (fun r11 h => ⟨Jx.ok h,⟨q6,fun r12 h => ⟨Jy.ok h,noN_ok 2 (q6) (⟨rfl,fun q7 => rfl,fun q7 => ⟨rfl,fun q8 => ⟨rfl,rfl⟩,fun q8 => fun r13 h => ⟨Jx.ok h,⟨rfl,fun q9 => rfl,fun q9 => trivial⟩⟩⟩⟩)⟩⟩⟩)⟩⟩⟩⟩⟩⟩⟩⟩⟩
noncomputable abbrev Qm9 {ρ R : Type} (a0 : ByteArray) (a1 : Int) (k : (Int × Bool) → Tr ρ R) : Tr ρ R := .call (ww 197 [xs a0,xi a1] []) (JA a0 a1) QB k
noncomputable def JA.s : Nat → ByteArray → Int → Option (Int × Bool)
 | 0,_,_ => none
 | k + 1,a0,a1 => Uq (QF.s k) (QM.s k) (JV.s k) (Vg.s k) (Jy.s k) (VV.s k) (Jx.s k) a0 a1
theorem JA.cv (a0 : ByteArray) (a1 : Int) : Cv (fun k => JA.s k a0 a1) (JA a0 a1) := .un rfl (Qm7 QF.cv QM.cv JV.cv Vg.cv Jy.cv VV.cv Jx.cv a0 a1)
abbrev QgO := Qi → Option (Int × Bool)
structure UV where
 x4 : Int
 x26 : (List ByteArray)
 x27 : Int
 x28 : Int
 h0 : Qi
structure Vl where
 x2 : Int
 x3 : Bool
def FI (a : UV) : St := { n := 50,nx := 1,env := [(1,.ptr 0 0),(4,.sc (.int .u32 a.x4)),(26,.sl (Qc a.x26)),(27,xi a.x27),(28,xi a.x28)],heap := [(0,.box [0,101] (Vw a.h0))] }
def Qao (a : Vl) : Ex × St := (.ret,{ n := 50,nx := 0,env := [(2,.sc (.int .u32 a.x2)),(3,xo a.x3)],heap := [] })
def Qap (a : Int) : Ex × St := (.exit 0,{ n := 50,nx := 0,env := [(4,.sc (.int .u32 a))],heap := [] })
def FJ (a : (Vl ⊕ Int)) : Ex × St := Sum.elim Qao Qap a
abbrev Qct := UV → Option (Vl ⊕ Int)
def XQ (C0 : QiI) (a : UV) : Option (UV ⊕ (Vl ⊕ Int)) := (bif (decide (a.x28 < a.x27)) then (bif (decide (0 ≤ a.x28)) then ((a.x26[(Int.toNat a.x28)]?).bind fun e1 => ((a.h0.F[(Int.toNat a.x28)]?).bind fun e2 => ((C0 e1 e2).bind fun r3 => (bif (!r3.2) then (some (.inr (.inl (Vl.mk (0 : Int) false)))) else (some (.inl (UV.mk (orI .u32 a.x4 r3.1) a.x26 a.x27 (w64 (a.x28 + 1)) a.h0))))))) else none) else (some (.inr (.inr a.x4))))
noncomputable def Jq : Qct := loopW (XQ JA)
theorem Jq.eq (a : UV) : Jq a = (XQ JA a).bind (Sum.elim Jq some) := Jc _ _
noncomputable abbrev QhD {ρ R : Type} (a : UV) (k0 : Vl → Tr ρ R) (k1 : Int → Tr ρ R) : Tr ρ R := .loop2 (loopAt pp 144 7) (FI a) (Jq a) Qao Qap k0 k1
noncomputable def QhE (a : UV) : Tr (UV ⊕ (Vl ⊕ Int)) XS := (.as (decide (a.x28 < a.x27)) (let u63 := (decide (0 ≤ a.x28)); .as u63 (.row ((Qc a.x26)[(Int.toNat a.x28)]?) (a.x26[(Int.toNat a.x28)]?) J7 fun (e1 : ByteArray) => (.yes u63 (.row ((Qr a.h0.F)[(Int.toNat a.x28)]?) (a.h0.F[(Int.toNat a.x28)]?) VX fun (e2 : Int) => (Qm9 e1 e2 fun r3 => (.as (!r3.2) (rx FJ (.inl (Vl.mk i0 false))) (lf FI (UV.mk (orI .u32 a.x4 r3.1) a.x26 a.x27 (w64 (a.x28 + 1)) a.h0))))))) .fail) (rx FJ (.inr a.x4)))
theorem Jq.ok {a : UV} {r : (Vl ⊕ Int)} (h : Jq a = some r) : lw 0 144 (loopAt pp 144 7) (FI a) = some (FJ r) := by
 refine lpP h QhE fun a => ?_
 exact ⟨rfl,fun q0 => ⟨rfl,fun q1 => fun e1 h => ⟨Jp h,⟨q1,fun e2 h => ⟨J6 h,fun r3 h => ⟨JA.ok h,⟨rfl,fun q2 => rfl,fun q2 => rfl⟩⟩⟩⟩⟩,fun q1 => trivial⟩,fun q0 => rfl⟩
def G2 (C0 : Gk) (C1 : QgN) (C2 : Qco) (L3 : Qct) (a0 : Qi) : Option (Int × Bool) := ((C0 a0.Op).bind fun r1 => (bif (eqS r1 s_) then (some ((0 : Int),false)) else ((C1 a0.Op).bind fun r2 => ((C2 a0.Op).bind fun r3 => (bif ((((r3.length) : Nat) : Int) != (((a0.F.length) : Nat) : Int)) then (some ((0 : Int),false)) else ((L3 (UV.mk r2 r3 (((r3.length) : Nat) : Int) (0 : Int) a0)).bind fun x => Sum.elim (fun (o4 : Vl) => (some (o4.x2,o4.x3))) (fun (o5 : Int) => (some (o5,true))) x))))))
noncomputable def Wc : QgO := G2 Ja Wn Vz Jq
theorem Wc.eq (a0 : Qi) : Wc a0 = G2 Ja Wn Vz Jq a0 := rfl
noncomputable def QlU (a0 : Qi) : Tr (Int × Bool) AH := (F2 a0.Op fun r1 => (.as (eqS r1 s_) (rt QB (i0,false)) (QlQ a0.Op fun r2 => (QeZ a0.Op fun r3 => (.num ((Qc r3).length) (r3.length) (.num ((Qr a0.F).length) (a0.F.length) (.as ((((r3.length) : Nat) : Int) != (((a0.F.length) : Nat) : Int)) (rt QB (i0,false)) (.num ((Qc r3).length) (r3.length) (QhD (UV.mk r2 r3 (((r3.length) : Nat) : Int) i0 a0) (fun o4 => (rt QB (o4.x2,o4.x3))) (fun o5 => (rt QB (o5,true))))))))))))
theorem Wc.ok {a0 : Qi} {r : (Int × Bool)} (h : Wc a0 = some r) : ww 144 [.agg (Vw a0)] [] = some (QB r) := by
 refine fnP (QlU a0) ?_ h
 exact fun r1 h => ⟨Ja.ok h,⟨rfl,fun q0 => rfl,fun q0 => fun r2 h => ⟨Wn.ok h,fun r3 h => ⟨Vz.ok h,⟨(Qk _),⟨(Js _),⟨rfl,fun q1 => rfl,fun q1 => ⟨(Qk _),⟨fun o4 h => ⟨Jq.ok (r := (.inl _)) h,rfl⟩,fun o5 h => ⟨Jq.ok (r := (.inr _)) h,rfl⟩⟩⟩⟩⟩⟩⟩⟩⟩⟩
noncomputable abbrev QlV {ρ R : Type} (a0 : Qi) (k : (Int × Bool) → Tr ρ R) : Tr ρ R := .call (ww 144 [.agg (Vw a0)] []) (Wc a0) QB k
def Qaq (r : (List Int)) : AV × Heap := (.sl (Qr r),[])
abbrev QhF := (List Int) → Option (List Int)
noncomputable def XG (a0 : (List Int)) : Option (List Int) := cloneB 8 a0
noncomputable abbrev Qf0 {ρ R : Type} (a0 : (List Int)) (k : (List Int) → Tr ρ R) : Tr ρ R := .call (ww 81 [.sl (Qr a0)] []) (XG a0) Qaq k
theorem XG.ok {a0 : (List Int)} {r : (List Int)} (h : XG a0 = some r) : ww 81 [.sl (Qr a0)] [] = some (Qaq r) := (Gg rfl _ _).trans (QmE (.int .i64) (fun _ => rfl) h)
def Yn (r : (Qi × Int × Bool)) : AV × Heap := (.tup [.agg (Vw r.1),xi r.2.1,xo r.2.2],[])
abbrev QdH := (List Int) → Option (Qi × Int × Bool)
structure Ug where
 x3 : Int
 x5 : Int
 x33 : (List Int)
 x34 : Int
 x35 : Int
 h0 : Qi
structure VA where
 x3 : Int
 x5 : Int
 h0 : Qi
def G3 (a : Ug) : St := { n := 91,nx := 2,env := [(2,.ptr 0 0),(3,xi a.x3),(5,.sc (.int .u32 a.x5)),(33,.sl (R_u8 a.x33)),(34,xi a.x34),(35,xi a.x35)],heap := [(0,.box [0,101] [xi a.h0.Op,.arr 1]),(1,.arr true 1 (Qr a.h0.F))] }
def G4 (a : VA) : Ex × St := (.exit 0,{ n := 91,nx := 2,env := [(2,.ptr 0 0),(3,xi a.x3),(5,.sc (.int .u32 a.x5))],heap := [(0,.box [0,101] [xi a.h0.Op,.arr 1]),(1,.arr true 1 (Qr a.h0.F))] })
abbrev Qar := Ug → Option VA
def Y1 (a : Ug) : Option (Ug ⊕ VA) := (bif (decide (a.x35 < a.x34)) then (bif (decide (0 ≤ a.x35)) then ((a.x33[(Int.toNat a.x35)]?).bind fun e1 => (some (.inl (Ug.mk a.x3 (orI .u32 (shlI .u32 a.x5 (8 : Int)) (IntKind.u32.wrap e1)) a.x33 a.x34 (w64 (a.x35 + 1)) a.h0)))) else none) else (some (.inr (VA.mk a.x3 a.x5 a.h0))))
noncomputable def UW : Qar := loopW (Y1 )
theorem UW.eq (a : Ug) : UW a = (Y1 a).bind (Sum.elim UW some) := Jc _ _
noncomputable abbrev Qe6 {ρ R : Type} (a : Ug) (k0 : VA → Tr ρ R) : Tr ρ R := .loop (loopAt pp 91 6) (G3 a) (UW a) G4 k0
noncomputable def Qe7 (a : Ug) : Tr (Ug ⊕ VA) XS := (.as (decide (a.x35 < a.x34)) (.as (decide (0 ≤ a.x35)) (.row ((R_u8 a.x33)[(Int.toNat a.x35)]?) (a.x33[(Int.toNat a.x35)]?) C_u8 fun (e1 : Int) => (.yes (decide (0 ≤ (zi 8))) (lf G3 (Ug.mk a.x3 (orI .u32 (shlI .u32 a.x5 (zi 8)) (IntKind.u32.wrap e1)) a.x33 a.x34 (w64 (a.x35 + 1)) a.h0)))) .fail) (rx G4 (VA.mk a.x3 a.x5 a.h0)))
theorem UW.ok {a : Ug} {r : VA} (h : UW a = some r) : lw 0 91 (loopAt pp 91 6) (G3 a) = some (G4 r) := by
 refine lpP h Qe7 fun a => ?_
 exact ⟨rfl,fun q0 => ⟨rfl,fun q1 => fun e1 h => ⟨Ey h,⟨rfl,rfl⟩⟩,fun q1 => trivial⟩,fun q0 => rfl⟩
structure Uh where
 x3 : Int
 x5 : Int
 x46 : Int
 x47 : Int
 x57 : (List ByteArray)
 x58 : Int
 x59 : Int
 h0 : Qi
 h1 : Qi
structure VB where
 x3 : Int
 x5 : Int
 x46 : Int
 x47 : Int
 h0 : Qi
 h1 : Qi
def G5 (a : Uh) : St := { n := 91,nx := 4,env := [(2,.ptr 0 0),(3,xi a.x3),(5,.sc (.int .u32 a.x5)),(9,.ptr 1 0),(46,xi a.x46),(47,xi a.x47),(57,.sl (Qc a.x57)),(58,xi a.x58),(59,xi a.x59)],heap := [(0,.box [0,101] [xi a.h0.Op,.arr 2]),(1,.box [0,101] [xi a.h1.Op,.arr 3]),(2,.arr true 1 (Qr a.h0.F)),(3,.arr true 1 (Qr a.h1.F))] }
def G6 (a : VB) : Ex × St := (.exit 4,{ n := 91,nx := 4,env := [(2,.ptr 0 0),(3,xi a.x3),(5,.sc (.int .u32 a.x5)),(9,.ptr 1 0),(46,xi a.x46),(47,xi a.x47)],heap := [(0,.box [0,101] [xi a.h0.Op,.arr 2]),(1,.box [0,101] [xi a.h1.Op,.arr 3]),(2,.arr true 1 (Qr a.h0.F)),(3,.arr true 1 (Qr a.h1.F))] })
abbrev Qas := Uh → Option VB
def Y2 (C0 : QiF) (a : Uh) : Option (Uh ⊕ VB) := (bif (decide (a.x59 < a.x58)) then (bif (decide (0 ≤ a.x59)) then ((a.x57[(Int.toNat a.x59)]?).bind fun e1 => ((C0 e1 a.x5).bind fun r2 => (bif (decide ((a.h1.F.length + [r2].length) * 8 ≤ most)) then (some (.inl (Uh.mk a.x3 a.x5 a.x46 a.x47 a.x57 a.x58 (w64 (a.x59 + 1)) a.h0 (Qi.mk a.h1.Op (a.h1.F ++ [r2]))))) else none))) else none) else (some (.inr (VB.mk a.x3 a.x5 a.x46 a.x47 a.h0 a.h1))))
noncomputable def UX : Qas := loopW (Y2 JQ)
theorem UX.eq (a : Uh) : UX a = (Y2 JQ a).bind (Sum.elim UX some) := Jc _ _
noncomputable abbrev Qe8 {ρ R : Type} (a : Uh) (k0 : VB → Tr ρ R) : Tr ρ R := .loop (loopAt pp 91 16) (G5 a) (UX a) G6 k0
noncomputable def Qe9 (a : Uh) : Tr (Uh ⊕ VB) XS := (.as (decide (a.x59 < a.x58)) (.as (decide (0 ≤ a.x59)) (.row ((Qc a.x57)[(Int.toNat a.x59)]?) (a.x57[(Int.toNat a.x59)]?) J7 fun (e1 : ByteArray) => (Qm6 e1 a.x5 fun r2 => (.rows [[xi r2]] (Qr [r2]) (.yes (decide ((Qr [r2]).all (fun r => r.length == 1) = true)) (.ask (decide (((Qr a.h1.F).length + (Qr [r2]).length) * 8 ≤ most)) (decide ((a.h1.F.length + [r2].length) * 8 ≤ most)) (.rows ((Qr a.h1.F) ++ (Qr [r2])) (Qr (a.h1.F ++ [r2])) (lf G5 (Uh.mk a.x3 a.x5 a.x46 a.x47 a.x57 a.x58 (w64 (a.x59 + 1)) a.h0 (Qi.mk a.h1.Op (a.h1.F ++ [r2]))))) .fail))))) .fail) (rx G6 (VB.mk a.x3 a.x5 a.x46 a.x47 a.h0 a.h1)))
theorem UX.ok {a : Uh} {r : VB} (h : UX a = some r) : lw 0 91 (loopAt pp 91 16) (G5 a) = some (G6 r) := by
 refine lpP h Qe9 fun a => ?_
 exact ⟨rfl,fun q0 => ⟨rfl,fun q1 => fun e1 h => ⟨Jp h,fun r2 h => ⟨JQ.ok h,⟨(JT [r2]),⟨(decide_eq_true (P8 _)),⟨(by rw [Js,Js]),fun q2 => ⟨(Gv _ _),rfl⟩,fun q2 => trivial⟩⟩⟩⟩⟩,fun q1 => trivial⟩,fun q0 => rfl⟩
structure Jo where
 x3 : Int
 x5 : Int
 x46 : Int
 x47 : Int
 h0 : Qi
structure Vb where
 x3 : Int
 x4 : Bool
 h0 : Qi
def XX (a : Jo) : St := { n := 91,nx := 2,env := [(2,.ptr 0 0),(3,xi a.x3),(5,.sc (.int .u32 a.x5)),(46,xi a.x46),(47,xi a.x47)],heap := [(0,.box [0,101] [xi a.h0.Op,.arr 1]),(1,.arr true 1 (Qr a.h0.F))] }
def PK (a : Vb) : Ex × St := (.ret,{ n := 91,nx := 1,env := [(2,.ptr 0 0),(3,xi a.x3),(4,xo a.x4)],heap := [(0,.box [0,101] (Vw a.h0))] })
def PL (a : Qi) : Ex × St := (.exit 2,{ n := 91,nx := 2,env := [(2,.ptr 0 0)],heap := [(0,.box [0,101] [xi a.Op,.arr 1]),(1,.arr true 1 (Qr a.F))] })
def G7 (a : (Vb ⊕ Qi)) : Ex × St := Sum.elim PK PL a
abbrev Qat := Jo → Option (Vb ⊕ Qi)
def Y3 (C0 : QgM) (C1 : Qco) (C2 : QgO) (C3 : QhF) (L4 : Qas) (a : Jo) : Option (Jo ⊕ (Vb ⊕ Qi)) := (bif (decide (a.x47 < a.x46)) then ((C0 a.x47).bind fun r1 => (bif (r1 != a.x3) then (some (.inl (Jo.mk a.x3 a.x5 a.x46 (w64 (a.x47 + 1)) a.h0))) else ((C1 a.x47).bind fun r2 => ((L4 (Uh.mk a.x3 a.x5 a.x46 a.x47 r2 (((r2.length) : Nat) : Int) (0 : Int) a.h0 (Qi.mk a.x47 ([] : List Int)))).bind (fun (o3 : VB) => ((C2 o3.h1).bind fun r4 => (bif r4.2 then (bif (r4.1 == o3.x5) then ((C3 o3.h1.F).bind fun r5 => (some (.inr (.inl (Vb.mk o3.x3 true (Qi.mk o3.h1.Op r5)))))) else (some (.inl (Jo.mk o3.x3 o3.x5 o3.x46 (w64 (o3.x47 + 1)) o3.h0)))) else (some (.inl (Jo.mk o3.x3 o3.x5 o3.x46 (w64 (o3.x47 + 1)) o3.h0)))))))))) else (some (.inr (.inr a.h0))))
noncomputable def UB : Qat := loopW (Y3 Wa Vz Wc XG UX)
theorem UB.eq (a : Jo) : UB a = (Y3 Wa Vz Wc XG UX a).bind (Sum.elim UB some) := Jc _ _
noncomputable abbrev Qfa {ρ R : Type} (a : Jo) (k0 : Vb → Tr ρ R) (k1 : Qi → Tr ρ R) : Tr ρ R := .loop2 (loopAt pp 91 11) (XX a) (UB a) PK PL k0 k1
noncomputable def Qfb (a : Jo) : Tr (Jo ⊕ (Vb ⊕ Qi)) XS := (.as (decide (a.x47 < a.x46)) (QlH a.x47 fun r1 => (.as (r1 != a.x3) (lf XX (Jo.mk a.x3 a.x5 a.x46 (w64 (a.x47 + 1)) a.h0)) (QeZ a.x47 fun r2 => (.num ((Qc r2).length) (r2.length) (Qe8 (Uh.mk a.x3 a.x5 a.x46 a.x47 r2 (((r2.length) : Nat) : Int) i0 a.h0 (Qi.mk a.x47 ([] : List Int))) (fun o3 => (QlV o3.h1 fun r4 => (.as r4.2 (yesN 3 r4.2 (.as (r4.1 == o3.x5) (Qf0 o3.h1.F fun r5 => (rx G7 (.inl (Vb.mk o3.x3 true (Qi.mk o3.h1.Op r5))))) (lf XX (Jo.mk o3.x3 o3.x5 o3.x46 (w64 (o3.x47 + 1)) o3.h0)))) (noN 3 r4.2 (.no false (lf XX (Jo.mk o3.x3 o3.x5 o3.x46 (w64 (o3.x47 + 1)) o3.h0)))))))))))) (rx G7 (.inr a.h0)))
theorem UB.ok {a : Jo} {r : (Vb ⊕ Qi)} (h : UB a = some r) : lw 0 91 (loopAt pp 91 11) (XX a) = some (G7 r) := by
 refine lpP h Qfb fun a => ?_
 exact ⟨rfl,fun q0 => fun r1 h => ⟨Wa.ok h,⟨rfl,fun q1 => rfl,fun q1 => fun r2 h => ⟨Vz.ok h,⟨(Qk _),fun o3 h => ⟨UX.ok h,fun r4 h => ⟨Wc.ok h,⟨rfl,fun q2 => Qh 3 (q2) (⟨rfl,fun q3 => fun r5 h => ⟨XG.ok h,rfl⟩,fun q3 => rfl⟩),fun q2 => noN_ok 3 (q2) (⟨rfl,rfl⟩)⟩⟩⟩⟩⟩⟩⟩,fun q0 => rfl⟩
def PM (C0 : QgL) (C1 : V3) (L2 : Qar) (L3 : Qat) (a0 : (List Int)) : Option (Qi × Int × Bool) := (bif (decide ((((a0.length) : Nat) : Int) < 2)) then (some ((Qi.mk (0 : Int) ([] : List Int)),(0 : Int),false)) else ((a0[(Int.toNat 0)]?).bind fun e1 => ((C0 e1).bind fun r2 => (bif (decide ((((a0.length) : Nat) : Int) < r2)) then (some ((Qi.mk (0 : Int) ([] : List Int)),(0 : Int),false)) else ((a0[(Int.toNat 0)]?).bind fun e3 => ((C0 e3).bind fun r4 => (bif (decide (0 ≤ (0 : Int) ∧ (0 : Int) ≤ r4 ∧ r4 ≤ ((a0.length : Nat) : Int))) then ((L2 (Ug.mk r4 (0 : Int) ((a0.drop (Int.toNat 0)).take (Int.toNat (r4 - 0))) (((((a0.drop (Int.toNat 0)).take (Int.toNat (r4 - 0))).length) : Nat) : Int) (0 : Int) (Qi.mk (0 : Int) ([] : List Int)))).bind (fun (o5 : VA) => ((C1).bind fun r6 => ((L3 (Jo.mk o5.x3 o5.x5 (((r6.length) : Nat) : Int) (0 : Int) o5.h0)).bind fun x => Sum.elim (fun (o7 : Vb) => (some (o7.h0,o7.x3,o7.x4))) (fun (o8 : Qi) => (some ((Qi.mk (0 : Int) ([] : List Int)),(0 : Int),false))) x)))) else none)))))))
noncomputable def W5 : QdH := PM Xf Jf UW UB
theorem W5.eq (a0 : (List Int)) : W5 a0 = PM Xf Jf UW UB a0 := rfl
noncomputable def QiJ (a0 : (List Int)) : Tr (Qi × Int × Bool) AH := (.num ((R_u8 a0).length) (a0.length) (let u64 := (decide ((((a0.length) : Nat) : Int) < 2)); .as u64 (yesN 7 u64 (.yes true (rt Yn ((Qi.mk i0 ([] : List Int)),i0,false)))) (.no u64 (.num ((R_u8 a0).length) (a0.length) (noN 2 u64 (.yes (decide (0 ≤ i0)) (.row ((R_u8 a0)[(Int.toNat 0)]?) (a0[(Int.toNat 0)]?) C_u8 fun (e1 : Int) => (noN 2 u64 (QeW e1 fun r2 => (noN 2 u64 (.as (decide ((((a0.length) : Nat) : Int) < r2)) (rt Yn ((Qi.mk i0 ([] : List Int)),i0,false)) (.yes (decide (0 ≤ i0)) (.row ((R_u8 a0)[(Int.toNat 0)]?) (a0[(Int.toNat 0)]?) C_u8 fun (e3 : Int) => (QeW e3 fun r4 => (.yes (decide ((R_u8 a0).all (fun r => r.length == 1) = true)) (.ask (in2 i0 r4 (((R_u8 a0).length : Nat) : Int)) (in2 i0 r4 ((a0.length : Nat) : Int)) (.rows (((R_u8 a0).drop (Int.toNat 0)).take (Int.toNat (r4 - 0))) (R_u8 ((a0.drop (Int.toNat 0)).take (Int.toNat (r4 - 0)))) (.num ((R_u8 ((a0.drop (Int.toNat 0)).take (Int.toNat (r4 - 0)))).length) (((a0.drop (Int.toNat 0)).take (Int.toNat (r4 - 0))).length) (Qe6 (Ug.mk r4 i0 ((a0.drop (Int.toNat 0)).take (Int.toNat (r4 - 0))) (((((a0.drop (Int.toNat 0)).take (Int.toNat (r4 - 0))).length) : Nat) : Int) i0 (Qi.mk i0 ([] : List Int))) (fun o5 => (ZG fun r6 => (.num ((Wo r6).length) (r6.length) (Qfa (Jo.mk o5.x3 o5.x5 (((r6.length) : Nat) : Int) i0 o5.h0) (fun o7 => (rt Yn (o7.h0,o7.x3,o7.x4))) (fun o8 => (rt Yn ((Qi.mk i0 ([] : List Int)),i0,false)))))))))) .fail))))))))))))))))
theorem W5.ok {a0 : (List Int)} {r : (Qi × Int × Bool)} (h : W5 a0 = some r) : ww 91 [.sl (R_u8 a0)] [] = some (Yn r) := by
 refine fnP (QiJ a0) ?_ h
 exact ⟨(Wl _),⟨rfl,fun q0 => Qh 7 (q0) (⟨rfl,rfl⟩),fun q0 => ⟨q0,⟨(Wl _),noN_ok 2 (q0) (⟨rfl,fun e1 h => ⟨Ey h,noN_ok 2 (q0) (fun r2 h => ⟨Xf.ok h,noN_ok 2 (q0) (⟨rfl,fun q1 => rfl,fun q1 => ⟨rfl,fun e3 h => ⟨Ey h,fun r4 h => ⟨Xf.ok h,⟨(decide_eq_true (Pj _)),⟨(by rw [Wl]),fun q2 => ⟨(by rw [QaO]),⟨(Wl _),fun o5 h => ⟨UW.ok h,fun r6 h => ⟨Jf.ok h,⟨(YK _),⟨fun o7 h => ⟨UB.ok (r := (.inl _)) h,rfl⟩,fun o8 h => ⟨UB.ok (r := (.inr _)) h,rfl⟩⟩⟩⟩⟩⟩⟩,fun q2 => trivial⟩⟩⟩⟩⟩⟩)⟩)⟩⟩)⟩⟩⟩⟩
noncomputable abbrev QiK {ρ R : Type} (a0 : (List Int)) (k : (Qi × Int × Bool) → Tr ρ R) : Tr ρ R := .call (ww 91 [.sl (R_u8 a0)] []) (W5 a0) Yn k
abbrev Yf := Qa → Option ByteArray
def Fm (a0 : Qa) : Option ByteArray := (some a0.kinds)
noncomputable def Uo : Yf := Fm
noncomputable def Qcu (a0 : Qa) : Tr ByteArray AH := (rt Qj a0.kinds)
theorem Uo.ok {a0 : Qa} {r : ByteArray} (h : Uo a0 = some r) : ww 200 [.agg (V5 a0)] [] = some (Qj r) := by
 refine fnP (Qcu a0) ?_ h
 exact rfl
noncomputable abbrev Qcv {ρ R : Type} (a0 : Qa) (k : ByteArray → Tr ρ R) : Tr ρ R := .call (ww 200 [.agg (V5 a0)] []) (Uo a0) Qj k
noncomputable def Uo.s : Nat → Qa → Option ByteArray
 | 0,_ => none
 | k + 1,a0 => Fm a0
theorem Uo.cv (a0 : Qa) : Cv (fun k => Uo.s k a0) (Uo a0) := .un rfl (by exact .const _)
abbrev Si := Int → Option ByteArray
def YE (C0 : V3) (C1 : Yf) (a0 : Int) : Option ByteArray := ((C0).bind fun r1 => (bif (decide (a0 ≥ 0)) then (bif (decide (a0 < (((r1.length) : Nat) : Int))) then (bif (decide (0 ≤ a0)) then ((r1[(Int.toNat a0)]?).bind fun e2 => ((C1 e2).bind fun r3 => (some r3))) else none) else (some s_)) else (some s_)))
theorem QlW {C0 : Nat → V3} {D0 : V3} (H0 : Cv C0 D0) {C1 : Nat → Yf} {D1 : Yf} (H1 : Cv1 C1 D1) (a0 : Int) : Cv (fun k => YE (C0 k) (C1 k) a0) (YE D0 D1 a0) := by
 unfold YE
 exact .bind (H0) fun r1 => .cond (.cond (.cond (.bind (.const _) fun e2 => .bind (H1 _) fun r3 => by exact .const _) cst) cst) cst
noncomputable def Wy : Si := YE Jf Uo
theorem Wy.eq (a0 : Int) : Wy a0 = YE Jf Uo a0 := rfl
noncomputable def QlX (a0 : Int) : Tr ByteArray AH := (ZG fun r1 => (let u65 := (decide (a0 ≥ 0)); .as u65 (yesN 2 u65 (.num ((Wo r1).length) (r1.length) (yesN 2 u65 (.as (decide (a0 < (((r1.length) : Nat) : Int))) (.as (decide (0 ≤ a0)) (.row ((Wo r1)[(Int.toNat a0)]?) (r1[(Int.toNat a0)]?) V5 fun (e2 : Qa) => (Qcv e2 fun r3 => (rt Qj r3))) .fail) (rt Qj s_))))) (noN 4 u65 (.no false (rt Qj s_)))))
theorem Wy.ok {a0 : Int} {r : ByteArray} (h : Wy a0 = some r) : ww 166 [xi a0,.fn (.func 200) [] []] [] = some (Qj r) := by
 refine fnP (QlX a0) ?_ h
 exact fun r1 h => ⟨Jf.ok h,⟨rfl,fun q0 => Qh 2 (q0) (⟨(YK _),Qh 2 (q0) (⟨rfl,fun q1 => ⟨rfl,fun q2 => fun e2 h => ⟨ZN h,fun r3 h => ⟨Uo.ok h,rfl⟩⟩,fun q2 => trivial⟩,fun q1 => rfl⟩)⟩),fun q0 => noN_ok 4 (q0) (⟨rfl,rfl⟩)⟩⟩
noncomputable abbrev QlY {ρ R : Type} (a0 : Int) (k : ByteArray → Tr ρ R) : Tr ρ R := .call (ww 166 [xi a0,.fn (.func 200) [] []] []) (Wy a0) Qj k
noncomputable def Wy.s : Nat → Int → Option ByteArray
 | 0,_ => none
 | k + 1,a0 => YE (Jf.s k) (Uo.s k) a0
theorem Wy.cv (a0 : Int) : Cv (fun k => Wy.s k a0) (Wy a0) := .un rfl (QlW Jf.cv Uo.cv a0)
abbrev Qfc := Int → Option ByteArray
def X9 (C0 : Si) (a0 : Int) : Option ByteArray := ((C0 a0).bind fun r1 => (some r1))
theorem QjY {C0 : Nat → Si} {D0 : Si} (H0 : Cv1 C0 D0) (a0 : Int) : Cv (fun k => X9 (C0 k) a0) (X9 D0 a0) := by
 unfold X9
 exact .bind (H0 _) fun r1 => by exact .const _
noncomputable def Ur : Qfc := X9 Wy
theorem Ur.eq (a0 : Int) : Ur a0 = X9 Wy a0 := rfl
noncomputable def QjZ (a0 : Int) : Tr ByteArray AH := (QlY a0 fun r1 => (rt Qj r1))
theorem Ur.ok {a0 : Int} {r : ByteArray} (h : Ur a0 = some r) : ww 146 [xi a0] [] = some (Qj r) := by
 refine fnP (QjZ a0) ?_ h
 exact fun r1 h => ⟨Wy.ok h,rfl⟩
noncomputable abbrev Qj0 {ρ R : Type} (a0 : Int) (k : ByteArray → Tr ρ R) : Tr ρ R := .call (ww 146 [xi a0] []) (Ur a0) Qj k
noncomputable def Ur.s : Nat → Int → Option ByteArray
 | 0,_ => none
 | k + 1,a0 => X9 (Wy.s k) a0
theorem Ur.cv (a0 : Int) : Cv (fun k => Ur.s k a0) (Ur a0) := .un rfl (QjY Wy.cv a0)
abbrev Qdg := ByteArray → ByteArray → Option Bool
noncomputable def Wz (a0 : ByteArray) (a1 : ByteArray) : Option Bool := containsS a0 a1
noncomputable abbrev Qcw {ρ R : Type} (a0 : ByteArray) (a1 : ByteArray) (k : Bool → Tr ρ R) : Tr ρ R := .call (ww 177 [xs a0,xs a1] []) (Wz a0 a1) Qm k
theorem Wz.ok {a0 : ByteArray} {a1 : ByteArray} {r : Bool} (h : Wz a0 a1 = some r) : ww 177 [xs a0,xs a1] [] = some (Qm r) := (Gg rfl _ _).trans (QjH h)
abbrev QbA := Int → Option ByteArray
noncomputable def U2 (a0 : Int) : Option ByteArray := itoaQ a0
noncomputable abbrev Xu {ρ R : Type} (a0 : Int) (k : ByteArray → Tr ρ R) : Tr ρ R := .call (ww 93 [xi a0] []) (U2 a0) Qj k
theorem U2.ok {a0 : Int} {r : ByteArray} (h : U2 a0 = some r) : ww 93 [xi a0] [] = some (Qj r) := (Gg rfl _ _).trans (QpV ((Qim _).symm.trans h))
abbrev Qcx := ByteArray → Int → Option ByteArray
def FK (C0 : Qdg) (C1 : QbA) (a0 : ByteArray) (a1 : Int) : Option ByteArray := (bif (decide (((h_20.size + a0.size : Nat) : Int) ≤ IntKind.i64.max)) then (bif (decide ((((h_20 ++ a0).size + h_20.size : Nat) : Int) ≤ IntKind.i64.max)) then ((C0 JE ((h_20 ++ a0) ++ h_20)).bind fun r1 => (bif r1 then ((C1 a1).bind fun r2 => (bif (decide (((s_r.size + r2.size : Nat) : Int) ≤ IntKind.i64.max)) then (some (s_r ++ r2)) else none)) else (bif (decide (0 ≤ (0 : Int) ∧ (0 : Int) < ((a0.size : Nat) : Int))) then (bif (((a0.data.getD (Int.toNat 0) 0).toNat : Int) == 84) then (bif (decide (a1 < 0)) then ((C1 (w64 (0 - a1))).bind fun r3 => (bif (decide (((Gx.size + r3.size : Nat) : Int) ≤ IntKind.i64.max)) then (some (Gx ++ r3)) else none)) else ((C1 a1).bind fun r4 => (bif (decide (((Gw.size + r4.size : Nat) : Int) ≤ IntKind.i64.max)) then (some (Gw ++ r4)) else none))) else ((C1 a1).bind fun r5 => (some r5))) else none))) else none) else none)
noncomputable def WE : Qcx := FK Wz U2
theorem WE.eq (a0 : ByteArray) (a1 : Int) : WE a0 a1 = FK Wz U2 a0 a1 := rfl
noncomputable def QhG (a0 : ByteArray) (a1 : Int) : Tr ByteArray AH := (.as (decide (((h_20.size + a0.size : Nat) : Int) ≤ IntKind.i64.max)) (.as (decide ((((h_20 ++ a0).size + h_20.size : Nat) : Int) ≤ IntKind.i64.max)) (Qcw JE ((h_20 ++ a0) ++ h_20) fun r1 => (.as r1 (Xu a1 fun r2 => (.as (decide (((s_r.size + r2.size : Nat) : Int) ≤ IntKind.i64.max)) (rt Qj (s_r ++ r2)) .fail)) (let u67 := (in1 i0 (zz a0)); .as u67 (let u66 := ((gb a0 i0) == 84); .as u66 (yesN 2 u66 (.as (decide (a1 < 0)) (Xu (w64 (0 - a1)) fun r3 => (.as (decide (((Gx.size + r3.size : Nat) : Int) ≤ IntKind.i64.max)) (rt Qj (Gx ++ r3)) .fail)) (.yes u67 (.yes u66 (Xu a1 fun r4 => (.as (decide (((Gw.size + r4.size : Nat) : Int) ≤ IntKind.i64.max)) (rt Qj (Gw ++ r4)) .fail)))))) (noN 2 u66 (.no false (.yes u67 (.no u66 (Xu a1 fun r5 => (rt Qj r5))))))) .fail))) .fail) .fail)
theorem WE.ok {a0 : ByteArray} {a1 : Int} {r : ByteArray} (h : WE a0 a1 = some r) : ww 147 [xs a0,xi a1] [] = some (Qj r) := by
 refine fnP (QhG a0 a1) ?_ h
 exact ⟨rfl,fun q0 => ⟨rfl,fun q1 => fun r1 h => ⟨Wz.ok h,⟨rfl,fun q2 => fun r2 h => ⟨U2.ok h,⟨rfl,fun q3 => rfl,fun q3 => trivial⟩⟩,fun q2 => ⟨rfl,fun q3 => ⟨rfl,fun q4 => Qh 2 (q4) (⟨rfl,fun q5 => fun r3 h => ⟨U2.ok h,⟨rfl,fun q6 => rfl,fun q6 => trivial⟩⟩,fun q5 => ⟨q3,⟨q4,fun r4 h => ⟨U2.ok h,⟨rfl,fun q6 => rfl,fun q6 => trivial⟩⟩⟩⟩⟩),fun q4 => noN_ok 2 (q4) (⟨rfl,⟨q3,⟨q4,fun r5 h => ⟨U2.ok h,rfl⟩⟩⟩⟩)⟩,fun q3 => trivial⟩⟩⟩,fun q1 => trivial⟩,fun q0 => trivial⟩
noncomputable abbrev QhH {ρ R : Type} (a0 : ByteArray) (a1 : Int) (k : ByteArray → Tr ρ R) : Tr ρ R := .call (ww 147 [xs a0,xi a1] []) (WE a0 a1) Qj k
abbrev QhI := (List ByteArray) → ByteArray → Option ByteArray
noncomputable def Wd (a0 : (List ByteArray)) (a1 : ByteArray) : Option ByteArray := joinS a0 a1
noncomputable abbrev Qf1 {ρ R : Type} (a0 : (List ByteArray)) (a1 : ByteArray) (k : ByteArray → Tr ρ R) : Tr ρ R := .call (ww 69 [.sl (Qc a0),xs a1] []) (Wd a0 a1) Qj k
theorem Wd.ok {a0 : (List ByteArray)} {a1 : ByteArray} {r : ByteArray} (h : Wd a0 a1 = some r) : ww 69 [.sl (Qc a0),xs a1] [] = some (Qj r) := (Gg rfl _ _).trans (QpX h)
abbrev PN := Qi → Option ByteArray
structure Jl where
 x9 : (List ByteArray)
 x10 : Int
 x11 : Int
 h0 : Qi
 r1 : (List ByteArray)
structure Uj where
 h0 : Qi
 r1 : (List ByteArray)
def YF (a : Jl) : St := { n := 40,nx := 2,env := [(1,.ptr 0 0),(3,.arr 1),(9,.sl (Qc a.x9)),(10,xi a.x10),(11,xi a.x11)],heap := [(0,.box [0,101] (Vw a.h0)),(1,.arr true 1 (Qc a.r1))] }
def YG (a : Uj) : Ex × St := (.exit 0,{ n := 40,nx := 2,env := [(1,.ptr 0 0),(3,.arr 1)],heap := [(0,.box [0,101] (Vw a.h0)),(1,.arr true 1 (Qc a.r1))] })
abbrev Eu := Jl → Option Uj
def Xk (C0 : Qcx) (a : Jl) : Option (Jl ⊕ Uj) := (bif (decide (a.x11 < a.x10)) then (bif (decide (0 ≤ a.x11)) then ((a.x9[(Int.toNat a.x11)]?).bind fun e1 => ((a.h0.F[(Int.toNat a.x11)]?).bind fun e2 => ((C0 e1 e2).bind fun r3 => (bif (decide ((a.r1.length + [r3].length) * 16 ≤ most)) then (some (.inl (Jl.mk a.x9 a.x10 (w64 (a.x11 + 1)) a.h0 (a.r1 ++ [r3])))) else none)))) else none) else (some (.inr (Uj.mk a.h0 a.r1))))
noncomputable def Jw : Eu := loopW (Xk WE)
theorem Jw.eq (a : Jl) : Jw a = (Xk WE a).bind (Sum.elim Jw some) := Jc _ _
noncomputable abbrev Qa1 {ρ R : Type} (a : Jl) (k0 : Uj → Tr ρ R) : Tr ρ R := .loop (loopAt pp 92 3) (YF a) (Jw a) YG k0
noncomputable def Qa2 (a : Jl) : Tr (Jl ⊕ Uj) XS := (.as (decide (a.x11 < a.x10)) (let u68 := (decide (0 ≤ a.x11)); .as u68 (.row ((Qc a.x9)[(Int.toNat a.x11)]?) (a.x9[(Int.toNat a.x11)]?) J7 fun (e1 : ByteArray) => (.yes u68 (.row ((Qr a.h0.F)[(Int.toNat a.x11)]?) (a.h0.F[(Int.toNat a.x11)]?) VX fun (e2 : Int) => (QhH e1 e2 fun r3 => (.rows [[xs r3]] (Qc [r3]) (.yes (decide ((Qc [r3]).all (fun r => r.length == 1) = true)) (.ask (decide (((Qc a.r1).length + (Qc [r3]).length) * 16 ≤ most)) (decide ((a.r1.length + [r3].length) * 16 ≤ most)) (.rows ((Qc a.r1) ++ (Qc [r3])) (Qc (a.r1 ++ [r3])) (lf YF (Jl.mk a.x9 a.x10 (w64 (a.x11 + 1)) a.h0 (a.r1 ++ [r3])))) .fail))))))) .fail) (rx YG (Uj.mk a.h0 a.r1)))
theorem Jw.ok {a : Jl} {r : Uj} (h : Jw a = some r) : lw 0 92 (loopAt pp 92 3) (YF a) = some (YG r) := by
 refine lpP h Qa2 fun a => ?_
 exact ⟨rfl,fun q0 => ⟨rfl,fun q1 => fun e1 h => ⟨Jp h,⟨q1,fun e2 h => ⟨J6 h,fun r3 h => ⟨WE.ok h,⟨(QY [r3]),⟨(decide_eq_true (Jn _)),⟨(by rw [Qk,Qk]),fun q2 => ⟨(JD _ _),rfl⟩,fun q2 => trivial⟩⟩⟩⟩⟩⟩⟩,fun q1 => trivial⟩,fun q0 => rfl⟩
def Zx (C0 : Qfc) (C1 : YZ) (C2 : Gk) (C3 : QhI) (L4 : Eu) (a0 : Qi) : Option ByteArray := ((C0 a0.Op).bind fun r1 => ((C1 r1).bind fun r2 => ((L4 (Jl.mk r2 (((r2.length) : Nat) : Int) (0 : Int) a0 ([] : List ByteArray))).bind (fun (o3 : Uj) => (bif ((((o3.r1.length) : Nat) : Int) == 0) then ((C2 o3.h0.Op).bind fun r4 => (some r4)) else ((C2 o3.h0.Op).bind fun r5 => (bif (decide (((r5.size + h_20.size : Nat) : Int) ≤ IntKind.i64.max)) then ((C3 o3.r1 XC).bind fun r6 => (bif (decide ((((r5 ++ h_20).size + r6.size : Nat) : Int) ≤ IntKind.i64.max)) then (some ((r5 ++ h_20) ++ r6)) else none)) else none)))))))
noncomputable def U3 : PN := Zx Ur Jv Ja Wd Jw
theorem U3.eq (a0 : Qi) : U3 a0 = Zx Ur Jv Ja Wd Jw a0 := rfl
noncomputable def Qdh (a0 : Qi) : Tr ByteArray AH := (Qj0 a0.Op fun r1 => (PI r1 fun r2 => (.num ((Qc r2).length) (r2.length) (Qa1 (Jl.mk r2 (((r2.length) : Nat) : Int) i0 a0 ([] : List ByteArray)) (fun o3 => (.num ((Qc o3.r1).length) (o3.r1.length) (.as ((((o3.r1.length) : Nat) : Int) == 0) (F2 o3.h0.Op fun r4 => (rt Qj r4)) (F2 o3.h0.Op fun r5 => (.as (decide (((r5.size + h_20.size : Nat) : Int) ≤ IntKind.i64.max)) (Qf1 o3.r1 XC fun r6 => (.as (decide ((((r5 ++ h_20).size + r6.size : Nat) : Int) ≤ IntKind.i64.max)) (rt Qj ((r5 ++ h_20) ++ r6)) .fail)) .fail)))))))))
theorem U3.ok {a0 : Qi} {r : ByteArray} (h : U3 a0 = some r) : ww 92 [.agg (Vw a0)] [] = some (Qj r) := by
 refine fnP (Qdh a0) ?_ h
 exact fun r1 h => ⟨Ur.ok h,fun r2 h => ⟨Jv.ok h,⟨(Qk _),fun o3 h => ⟨Jw.ok h,⟨(Qk _),⟨rfl,fun q0 => fun r4 h => ⟨Ja.ok h,rfl⟩,fun q0 => fun r5 h => ⟨Ja.ok h,⟨rfl,fun q1 => fun r6 h => ⟨Wd.ok h,⟨rfl,fun q2 => rfl,fun q2 => trivial⟩⟩,fun q1 => trivial⟩⟩⟩⟩⟩⟩⟩⟩
noncomputable abbrev Qdi {ρ R : Type} (a0 : Qi) (k : ByteArray → Tr ρ R) : Tr ρ R := .call (ww 92 [.agg (Vw a0)] []) (U3 a0) Qj k
def YU (r : (ByteArray × Bool × Qy)) : AV × Heap := (.tup [xs r.1,xo r.2.1],[(0,.box [] [.ptr 1 0]),(1,.box [] (V4 r.2.2))])
abbrev Fo := Int → ByteArray → Qy → Option (ByteArray × Bool × Qy)
def YV (a0 : Int) (a1 : ByteArray) (h1 : Qy) : Option (ByteArray × Bool × Qy) := (bif (decide (0 ≤ a0 ∧ a0 ≤ ((h1.b.length : Nat) : Int) ∧ ((h1.b.length : Nat) : Int) ≤ ((h1.b.length : Nat) : Int))) then (some (a1,true,(Qy.mk ((h1.b.drop (Int.toNat a0)).take (Int.toNat (((h1.b.length : Nat) : Int) - a0)))))) else none)
noncomputable def J0 : Fo := YV
theorem J0.eq (a0 : Int) (a1 : ByteArray) (h1 : Qy) : J0 a0 a1 h1 = YV a0 a1 h1 := rfl
noncomputable def QbJ (a0 : Int) (a1 : ByteArray) (h1 : Qy) : Tr (ByteArray × Bool × Qy) AH := (.yes (decide ((R_u8 h1.b).all (fun r => r.length == 1) = true)) (.ask (in2 a0 (((R_u8 h1.b).length : Nat) : Int) (((R_u8 h1.b).length : Nat) : Int)) (in2 a0 ((h1.b.length : Nat) : Int) ((h1.b.length : Nat) : Int)) (.rows (((R_u8 h1.b).drop (Int.toNat a0)).take (Int.toNat ((((R_u8 h1.b).length : Nat) : Int) - a0))) (R_u8 ((h1.b.drop (Int.toNat a0)).take (Int.toNat (((h1.b.length : Nat) : Int) - a0)))) (rt YU (a1,true,(Qy.mk ((h1.b.drop (Int.toNat a0)).take (Int.toNat (((h1.b.length : Nat) : Int) - a0))))))) .fail))
theorem J0.ok {a0 : Int} {a1 : ByteArray} {h1 : Qy} {r : (ByteArray × Bool × Qy)} (h : J0 a0 a1 h1 = some r) : ww 90 [xi a0,xs a1,.ptr 0 0] [(0,.box [] [.ptr 1 0]),(1,.box [] (V4 h1))] = some (YU r) := by
 refine fnP (QbJ a0 a1 h1) ?_ h
 exact ⟨(decide_eq_true (Pj _)),⟨(by rw [Wl]),fun q0 => ⟨(by rw [QaO,Wl]),rfl⟩,fun q0 => trivial⟩⟩
noncomputable abbrev YW {ρ R : Type} (a0 : Int) (a1 : ByteArray) (h1 : Qy) (k : (ByteArray × Bool × Qy) → Tr ρ R) : Tr ρ R := .call (ww 90 [xi a0,xs a1,.ptr 0 0] [(0,.box [] [.ptr 1 0]),(1,.box [] (V4 h1))]) (J0 a0 a1 h1) YU k
def WO (r : (ByteArray × Bool × Qy)) : AV × Heap := (.tup [xs r.1,xo r.2.1],[(0,.box [] (V4 r.2.2))])
abbrev Z5 := Qy → Option (ByteArray × Bool × Qy)
def Zy (C0 : QdH) (C1 : PN) (C2 : Fo) (C3 : QbA) (h0 : Qy) : Option (ByteArray × Bool × Qy) := (bif ((((h0.b.length) : Nat) : Int) == 0) then (some (s_,false,h0)) else ((C0 h0.b).bind fun r1 => (bif r1.2.2 then ((C1 r1.1).bind fun r2 => ((C2 r1.2.1 r2 h0).bind fun r3 => (some (r3.1,r3.2.1,r3.2.2)))) else (bif ((((h0.b.length) : Nat) : Int) == 1) then ((h0.b[(Int.toNat 0)]?).bind fun e4 => ((C3 (w64 e4)).bind fun r5 => (bif (decide (((Yh.size + r5.size : Nat) : Int) ≤ IntKind.i64.max)) then ((C2 (1 : Int) (Yh ++ r5) h0).bind fun r6 => (some (r6.1,r6.2.1,r6.2.2))) else none))) else ((h0.b[(Int.toNat 0)]?).bind fun e7 => ((h0.b[(Int.toNat 1)]?).bind fun e8 => ((C3 (orI .i64 (shlI .i64 (w64 e7) (8 : Int)) (w64 e8))).bind fun r9 => (bif (decide (((Yi.size + r9.size : Nat) : Int) ≤ IntKind.i64.max)) then ((C2 (2 : Int) (Yi ++ r9) h0).bind fun r10 => (some (r10.1,r10.2.1,r10.2.2))) else none))))))))
noncomputable def JG : Z5 := Zy W5 U3 J0 U2
theorem JG.eq (h0 : Qy) : JG h0 = Zy W5 U3 J0 U2 h0 := rfl
noncomputable def Qdj (h0 : Qy) : Tr (ByteArray × Bool × Qy) AH := (.num ((R_u8 h0.b).length) (h0.b.length) (.as ((((h0.b.length) : Nat) : Int) == 0) (rt WO (s_,false,h0)) (QiK h0.b fun r1 => (.as r1.2.2 (Qdi r1.1 fun r2 => (YW r1.2.1 r2 h0 fun r3 => (rt WO (r3.1,r3.2.1,r3.2.2)))) (.num ((R_u8 h0.b).length) (h0.b.length) (.as ((((h0.b.length) : Nat) : Int) == 1) (.yes (decide (0 ≤ i0)) (.row ((R_u8 h0.b)[(Int.toNat 0)]?) (h0.b[(Int.toNat 0)]?) C_u8 fun (e4 : Int) => (Xu (w64 e4) fun r5 => (.as (decide (((Yh.size + r5.size : Nat) : Int) ≤ IntKind.i64.max)) (YW (zi 1) (Yh ++ r5) h0 fun r6 => (rt WO (r6.1,r6.2.1,r6.2.2))) .fail)))) (.yes (decide (0 ≤ i0)) (.row ((R_u8 h0.b)[(Int.toNat 0)]?) (h0.b[(Int.toNat 0)]?) C_u8 fun (e7 : Int) => (.yes (decide (0 ≤ (zi 8))) (.yes (decide (0 ≤ (zi 1))) (.row ((R_u8 h0.b)[(Int.toNat 1)]?) (h0.b[(Int.toNat 1)]?) C_u8 fun (e8 : Int) => (Xu (orI .i64 (shlI .i64 (w64 e7) (zi 8)) (w64 e8)) fun r9 => (.as (decide (((Yi.size + r9.size : Nat) : Int) ≤ IntKind.i64.max)) (YW (zi 2) (Yi ++ r9) h0 fun r10 => (rt WO (r10.1,r10.2.1,r10.2.2))) .fail)))))))))))))
theorem JG.ok {h0 : Qy} {r : (ByteArray × Bool × Qy)} (h : JG h0 = some r) : ww 45 [.ptr 0 0] [(0,.box [] (V4 h0))] = some (WO r) := by
 refine fnP (Qdj h0) ?_ h
 exact ⟨(Wl _),⟨rfl,fun q0 => rfl,fun q0 => fun r1 h => ⟨W5.ok h,⟨rfl,fun q1 => fun r2 h => ⟨U3.ok h,fun r3 h => ⟨J0.ok h,rfl⟩⟩,fun q1 => ⟨(Wl _),⟨rfl,fun q2 => ⟨rfl,fun e4 h => ⟨Ey h,fun r5 h => ⟨U2.ok h,⟨rfl,fun q3 => fun r6 h => ⟨J0.ok h,rfl⟩,fun q3 => trivial⟩⟩⟩⟩,fun q2 => ⟨rfl,fun e7 h => ⟨Ey h,⟨rfl,⟨rfl,fun e8 h => ⟨Ey h,fun r9 h => ⟨U2.ok h,⟨rfl,fun q3 => fun r10 h => ⟨J0.ok h,rfl⟩,fun q3 => trivial⟩⟩⟩⟩⟩⟩⟩⟩⟩⟩⟩⟩⟩
noncomputable abbrev FQ {ρ R : Type} (h0 : Qy) (k : (ByteArray × Bool × Qy) → Tr ρ R) : Tr ρ R := .call (ww 45 [.ptr 0 0] [(0,.box [] (V4 h0))]) (JG h0) WO k
def PO (r : (List ByteArray)) : AV × Heap := (.tup [],[(0,.box [1] [.arr 2]),(2,.arr true 1 (Qc r))])
abbrev QdI := ByteArray → (List ByteArray) → Option (List ByteArray)
def G8 (a0 : ByteArray) (h0 : (List ByteArray)) : Option (List ByteArray) := (bif (decide ((h0.length + [a0].length) * 16 ≤ most)) then (some (h0 ++ [a0])) else none)
noncomputable def Wv : QdI := G8
theorem Wv.eq (a0 : ByteArray) (h0 : (List ByteArray)) : Wv a0 h0 = G8 a0 h0 := rfl
noncomputable def QiL (a0 : ByteArray) (h0 : (List ByteArray)) : Tr (List ByteArray) AH := (.rows [[xs a0]] (Qc [a0]) (.yes (decide ((Qc [a0]).all (fun r => r.length == 1) = true)) (.ask (decide (((Qc h0).length + (Qc [a0]).length) * 16 ≤ most)) (decide ((h0.length + [a0].length) * 16 ≤ most)) (.rows ((Qc h0) ++ (Qc [a0])) (Qc (h0 ++ [a0])) (rt PO (h0 ++ [a0]))) .fail)))
theorem Wv.ok {a0 : ByteArray} {h0 : (List ByteArray)} {r : (List ByteArray)} (h : Wv a0 h0 = some r) : ww 50 [xs a0,.ptr 0 0] [(0,.box [1] [.arr 1]),(1,.arr true 1 (Qc h0))] = some (PO r) := by
 refine fnP (QiL a0 h0) ?_ h
 exact ⟨(QY [a0]),⟨(decide_eq_true (Jn _)),⟨(by rw [Qk,Qk]),fun q0 => ⟨(JD _ _),rfl⟩,fun q0 => trivial⟩⟩⟩
noncomputable abbrev QiM {ρ R : Type} (a0 : ByteArray) (h0 : (List ByteArray)) (k : (List ByteArray) → Tr ρ R) : Tr ρ R := .call (ww 50 [xs a0,.ptr 0 0] [(0,.box [1] [.arr 1]),(1,.arr true 1 (Qc h0))]) (Wv a0 h0) PO k
def Qa3 (r : (Qy × (List ByteArray))) : AV × Heap := (.tup [],[(0,.box [] (V4 r.1)),(1,.box [1] [.arr 3]),(3,.arr true 1 (Qc r.2))])
abbrev QgP := Qy → (List ByteArray) → Option (Qy × (List ByteArray))
structure UY where
 x4 : ByteArray
 x5 : Bool
 h0 : Qy
 h1 : (List ByteArray)
structure Wk where
 h0 : Qy
 h1 : (List ByteArray)
def FL (a : UY) : St := { n := 20,nx := 4,env := [(0,.fn (.func 45) [.ptr 0 0] []),(1,.fn (.func 50) [] [.ptr 1 0]),(4,xs a.x4),(5,xo a.x5)],heap := [(0,.box [] (V4 a.h0)),(1,.box [1] [.arr 3]),(3,.arr true 1 (Qc a.h1))] }
def FM (a : Wk) : Ex × St := (.exit 0,{ n := 20,nx := 4,env := [],heap := [(0,.box [] (V4 a.h0)),(1,.box [1] [.arr 3]),(3,.arr true 1 (Qc a.h1))] })
abbrev Qcy := UY → Option Wk
def ZV (C0 : QdI) (C1 : Z5) (a : UY) : Option (UY ⊕ Wk) := (bif a.x5 then ((C0 a.x4 a.h1).bind fun r1 => ((C1 a.h0).bind fun r2 => (some (.inl (UY.mk r2.1 r2.2.1 r2.2.2 r1))))) else (some (.inr (Wk.mk a.h0 a.h1))))
noncomputable def Vs : Qcy := loopW (ZV Wv JG)
theorem Vs.eq (a : UY) : Vs a = (ZV Wv JG a).bind (Sum.elim Vs some) := Jc _ _
noncomputable abbrev QhJ {ρ R : Type} (a : UY) (k0 : Wk → Tr ρ R) : Tr ρ R := .loop (loopAt pp 44 1) (FL a) (Vs a) FM k0
noncomputable def QhK (a : UY) : Tr (UY ⊕ Wk) XS := (.as a.x5 (QiM a.x4 a.h1 fun r1 => (FQ a.h0 fun r2 => (lf FL (UY.mk r2.1 r2.2.1 r2.2.2 r1)))) (rx FM (Wk.mk a.h0 a.h1)))
theorem Vs.ok {a : UY} {r : Wk} (h : Vs a = some r) : lw 3 44 (loopAt pp 44 1) (FL a) = some (FM r) := by
 refine lpP h QhK fun a => ?_
 exact ⟨rfl,fun q0 => fun r1 h => ⟨Wv.ok h,fun r2 h => ⟨JG.ok h,rfl⟩⟩,fun q0 => rfl⟩
def Qa4 (C0 : Z5) (L1 : Qcy) (h0 : Qy) (h1 : (List ByteArray)) : Option (Qy × (List ByteArray)) := ((C0 h0).bind fun r1 => ((L1 (UY.mk r1.1 r1.2.1 r1.2.2 h1)).bind (fun (o2 : Wk) => (some (o2.h0,o2.h1)))))
noncomputable def Ya : QgP := Qa4 JG Vs
theorem Ya.eq (h0 : Qy) (h1 : (List ByteArray)) : Ya h0 h1 = Qa4 JG Vs h0 h1 := rfl
noncomputable def QlZ (h0 : Qy) (h1 : (List ByteArray)) : Tr (Qy × (List ByteArray)) AH := (FQ h0 fun r1 => (QhJ (UY.mk r1.1 r1.2.1 r1.2.2 h1) (fun o2 => (rt Qa3 (o2.h0,o2.h1)))))
theorem Ya.ok {h0 : Qy} {h1 : (List ByteArray)} {r : (Qy × (List ByteArray))} (h : Ya h0 h1 = some r) : ww 44 [.fn (.func 45) [.ptr 0 0] [],.fn (.func 50) [] [.ptr 1 0]] [(0,.box [] (V4 h0)),(1,.box [1] [.arr 2]),(2,.arr true 1 (Qc h1))] = some (Qa3 r) := by
 refine fnP (QlZ h0 h1) ?_ h
 exact fun r1 h => ⟨JG.ok h,fun o2 h => ⟨Vs.ok h,rfl⟩⟩
noncomputable abbrev Ql0 {ρ R : Type} (h0 : Qy) (h1 : (List ByteArray)) (k : (Qy × (List ByteArray)) → Tr ρ R) : Tr ρ R := .call (ww 44 [.fn (.func 45) [.ptr 0 0] [],.fn (.func 50) [] [.ptr 1 0]] [(0,.box [] (V4 h0)),(1,.box [1] [.arr 2]),(2,.arr true 1 (Qc h1))]) (Ya h0 h1) Qa3 k
abbrev Qfd := (List ByteArray) → Option (List ByteArray)
noncomputable def WX (a0 : (List ByteArray)) : Option (List ByteArray) := cloneT 16 a0
noncomputable abbrev Qd7 {ρ R : Type} (a0 : (List ByteArray)) (k : (List ByteArray) → Tr ρ R) : Tr ρ R := .call (ww 51 [.sl (Qc a0)] []) (WX a0) J3 k
theorem WX.ok {a0 : (List ByteArray)} {r : (List ByteArray)} (h : WX a0 = some r) : ww 51 [.sl (Qc a0)] [] = some (J3 r) := (Gg rfl _ _).trans (QmF J7 (fun _ => rfl) h)
abbrev QgQ := (List Int) → Option (List ByteArray)
def Qa5 (C0 : QgP) (C1 : Qfd) (a0 : (List Int)) : Option (List ByteArray) := ((C0 (Qy.mk a0) ([] : List ByteArray)).bind fun r1 => ((C1 r1.2).bind fun r2 => (some r2)))
noncomputable def Yb : QgQ := Qa5 Ya WX
theorem Yb.eq (a0 : (List Int)) : Yb a0 = Qa5 Ya WX a0 := rfl
noncomputable def Ql1 (a0 : (List Int)) : Tr (List ByteArray) AH := (Ql0 (Qy.mk a0) ([] : List ByteArray) fun r1 => (Qd7 r1.2 fun r2 => (rt J3 r2)))
theorem Yb.ok {a0 : (List Int)} {r : (List ByteArray)} (h : Yb a0 = some r) : ww 19 [.sl (R_u8 a0)] [] = some (J3 r) := by
 refine fnP (Ql1 a0) ?_ h
 exact fun r1 h => ⟨Ya.ok h,fun r2 h => ⟨WX.ok h,rfl⟩⟩
noncomputable abbrev Ql2 {ρ R : Type} (a0 : (List Int)) (k : (List ByteArray) → Tr ρ R) : Tr ρ R := .call (ww 19 [.sl (R_u8 a0)] []) (Yb a0) J3 k
abbrev QiN := ByteArray → Option ByteArray
structure JH where
 x0 : ByteArray
 x3 : Bool
 x4 : Int
def Yo (a : JH) : St := { n := 29,nx := 0,env := [(0,xs a.x0),(3,xo a.x3),(4,xi a.x4)],heap := [] }
def QbB (a : ByteArray) : Ex × St := (.ret,{ n := 29,nx := 0,env := [(2,xs a)],heap := [] })
def QbC (a : ByteArray) : Ex × St := (.exit 0,{ n := 29,nx := 0,env := [(0,xs a)],heap := [] })
def G9 (a : (ByteArray ⊕ ByteArray)) : Ex × St := Sum.elim QbB QbC a
abbrev QdJ := JH → Option (ByteArray ⊕ ByteArray)
def Ea (a : JH) : Option (JH ⊕ (ByteArray ⊕ ByteArray)) := (bif (decide (a.x4 < ((a.x0.size : Nat) : Int))) then (bif (decide (0 ≤ a.x4 ∧ a.x4 < ((a.x0.size : Nat) : Int))) then (bif (((a.x0.data.getD (Int.toNat a.x4) 0).toNat : Int) == 34) then (bif (((a.x0.data.getD (Int.toNat a.x4) 0).toNat : Int) == 35) then (bif (!(!a.x3)) then (bif (decide (0 ≤ (0 : Int) ∧ (0 : Int) ≤ a.x4 ∧ a.x4 ≤ ((a.x0.size : Nat) : Int))) then (some (.inr (.inl (a.x0.extract (Int.toNat 0) (Int.toNat a.x4))))) else none) else (some (.inl (JH.mk a.x0 (!a.x3) (w64 (a.x4 + 1)))))) else (some (.inl (JH.mk a.x0 (!a.x3) (w64 (a.x4 + 1)))))) else (bif (((a.x0.data.getD (Int.toNat a.x4) 0).toNat : Int) == 35) then (bif (!a.x3) then (bif (decide (0 ≤ (0 : Int) ∧ (0 : Int) ≤ a.x4 ∧ a.x4 ≤ ((a.x0.size : Nat) : Int))) then (some (.inr (.inl (a.x0.extract (Int.toNat 0) (Int.toNat a.x4))))) else none) else (some (.inl (JH.mk a.x0 a.x3 (w64 (a.x4 + 1)))))) else (some (.inl (JH.mk a.x0 a.x3 (w64 (a.x4 + 1))))))) else none) else (some (.inr (.inr a.x0))))
noncomputable def VC : QdJ := loopW (Ea )
theorem VC.eq (a : JH) : VC a = (Ea a).bind (Sum.elim VC some) := Jc _ _
noncomputable abbrev QiO {ρ R : Type} (a : JH) (k0 : ByteArray → Tr ρ R) (k1 : ByteArray → Tr ρ R) : Tr ρ R := .loop2 (loopAt pp 54 3) (Yo a) (VC a) QbB QbC k0 k1
noncomputable def QiP (a : JH) : Tr (JH ⊕ (ByteArray ⊕ ByteArray)) XS := (.as (decide (a.x4 < (zz a.x0))) (let u71 := (in1 a.x4 (zz a.x0)); .as u71 (.as ((gb a.x0 a.x4) == 34) (.yes u71 (let u69 := ((gb a.x0 a.x4) == 35); .as u69 (yesN 2 u69 (.as (!(!a.x3)) (.as (in2 i0 a.x4 (zz a.x0)) (rx G9 (.inl (cu a.x0 i0 a.x4))) .fail) (lf Yo (JH.mk a.x0 (!a.x3) (w64 (a.x4 + 1)))))) (noN 2 u69 (.no false (lf Yo (JH.mk a.x0 (!a.x3) (w64 (a.x4 + 1)))))))) (.yes u71 (let u70 := ((gb a.x0 a.x4) == 35); .as u70 (yesN 2 u70 (.as (!a.x3) (.as (in2 i0 a.x4 (zz a.x0)) (rx G9 (.inl (cu a.x0 i0 a.x4))) .fail) (lf Yo (JH.mk a.x0 a.x3 (w64 (a.x4 + 1)))))) (noN 2 u70 (.no false (lf Yo (JH.mk a.x0 a.x3 (w64 (a.x4 + 1))))))))) .fail) (rx G9 (.inr a.x0)))
theorem VC.ok {a : JH} {r : (ByteArray ⊕ ByteArray)} (h : VC a = some r) : lw 0 54 (loopAt pp 54 3) (Yo a) = some (G9 r) := by
 refine lpP h QiP fun a => ?_
 exact ⟨rfl,fun q0 => ⟨rfl,fun q1 => ⟨rfl,fun q2 => ⟨q1,⟨rfl,fun q3 => Qh 2 (q3) (⟨rfl,fun q4 => ⟨rfl,fun q5 => rfl,fun q5 => trivial⟩,fun q4 => rfl⟩),fun q3 => noN_ok 2 (q3) (⟨rfl,rfl⟩)⟩⟩,fun q2 => ⟨q1,⟨rfl,fun q3 => Qh 2 (q3) (⟨rfl,fun q4 => ⟨rfl,fun q5 => rfl,fun q5 => trivial⟩,fun q4 => rfl⟩),fun q3 => noN_ok 2 (q3) (⟨rfl,rfl⟩)⟩⟩⟩,fun q1 => trivial⟩,fun q0 => rfl⟩
def Qcz (L0 : QdJ) (a0 : ByteArray) : Option ByteArray := ((L0 (JH.mk a0 false (0 : Int))).bind fun x => Sum.elim (fun (o1 : ByteArray) => (some o1)) (fun (o2 : ByteArray) => (some o2)) x)
noncomputable def YR : QiN := Qcz VC
theorem YR.eq (a0 : ByteArray) : YR a0 = Qcz VC a0 := rfl
noncomputable def Qna (a0 : ByteArray) : Tr ByteArray AH := (QiO (JH.mk a0 false i0) (fun o1 => (rt Qj o1)) (fun o2 => (rt Qj o2)))
theorem YR.ok {a0 : ByteArray} {r : ByteArray} (h : YR a0 = some r) : ww 54 [xs a0] [] = some (Qj r) := by
 refine fnP (Qna a0) ?_ h
 exact ⟨fun o1 h => ⟨VC.ok (r := (.inl _)) h,rfl⟩,fun o2 h => ⟨VC.ok (r := (.inr _)) h,rfl⟩⟩
noncomputable abbrev Qnb {ρ R : Type} (a0 : ByteArray) (k : ByteArray → Tr ρ R) : Tr ρ R := .call (ww 54 [xs a0] []) (YR a0) Qj k
abbrev Qa6 := ByteArray → Option ByteArray
def Eb (a : ByteArray) : St := { n := 43,nx := 0,env := [(0,xs a)],heap := [] }
def Ec (a : ByteArray) : Ex × St := (.exit 0,{ n := 43,nx := 0,env := [(0,xs a)],heap := [] })
abbrev QdK := ByteArray → Option ByteArray
def PP (a : ByteArray) : Option (ByteArray ⊕ ByteArray) := (bif (decide (((a.size : Nat) : Int) > 0)) then (bif (decide (0 ≤ (0 : Int) ∧ (0 : Int) < ((a.size : Nat) : Int))) then (bif (((a.data.getD (Int.toNat 0) 0).toNat : Int) == 32) then (bif (decide (0 ≤ (1 : Int) ∧ (1 : Int) ≤ ((a.size : Nat) : Int) ∧ ((a.size : Nat) : Int) ≤ ((a.size : Nat) : Int))) then (some (.inl (a.extract (Int.toNat 1) (Int.toNat ((a.size : Nat) : Int))))) else none) else (bif (((a.data.getD (Int.toNat 0) 0).toNat : Int) == 9) then (bif (decide (0 ≤ (1 : Int) ∧ (1 : Int) ≤ ((a.size : Nat) : Int) ∧ ((a.size : Nat) : Int) ≤ ((a.size : Nat) : Int))) then (some (.inl (a.extract (Int.toNat 1) (Int.toNat ((a.size : Nat) : Int))))) else none) else (some (.inr a)))) else none) else (some (.inr a)))
noncomputable def Ww : QdK := loopW (PP )
theorem Ww.eq (a : ByteArray) : Ww a = (PP a).bind (Sum.elim Ww some) := Jc _ _
noncomputable abbrev QiQ {ρ R : Type} (a : ByteArray) (k0 : ByteArray → Tr ρ R) : Tr ρ R := .loop (loopAt pp 53 1) (Eb a) (Ww a) Ec k0
noncomputable def QiR (a : ByteArray) : Tr (ByteArray ⊕ ByteArray) XS := (let u74 := (decide ((zz a) > 0)); .as u74 (.yes u74 (let u73 := (in1 i0 (zz a)); .as u73 (yesN 2 u74 (let u72 := ((gb a i0) == 32); .as u72 (yesN 2 u72 (.yes u74 (.yes u72 (.yes u74 (.yes true (.as (in2 (zi 1) (zz a) (zz a)) (lf Eb (cu a (zi 1) (zz a))) .fail)))))) (.no u72 (.yes u73 (.no u72 (.yes u74 (.no u72 (.yes u74 (.as ((gb a i0) == 9) (.as (in2 (zi 1) (zz a) (zz a)) (lf Eb (cu a (zi 1) (zz a))) .fail) (rx Ec a)))))))))) .fail)) (noN 5 u74 (.no false (rx Ec a))))
theorem Ww.ok {a : ByteArray} {r : ByteArray} (h : Ww a = some r) : lw 0 53 (loopAt pp 53 1) (Eb a) = some (Ec r) := by
 refine lpP h QiR fun a => ?_
 exact ⟨rfl,fun q0 => ⟨q0,⟨rfl,fun q1 => Qh 2 (q0) (⟨rfl,fun q2 => Qh 2 (q2) (⟨q0,⟨q2,⟨q0,⟨rfl,⟨rfl,fun q3 => rfl,fun q3 => trivial⟩⟩⟩⟩⟩),fun q2 => ⟨q2,⟨q1,⟨q2,⟨q0,⟨q2,⟨q0,⟨rfl,fun q3 => ⟨rfl,fun q4 => rfl,fun q4 => trivial⟩,fun q3 => rfl⟩⟩⟩⟩⟩⟩⟩⟩),fun q1 => trivial⟩⟩,fun q0 => noN_ok 5 (q0) (⟨rfl,rfl⟩)⟩
def Ed (a : ByteArray) : St := { n := 43,nx := 0,env := [(0,xs a)],heap := [] }
def Ee (a : ByteArray) : Ex × St := (.exit 2,{ n := 43,nx := 0,env := [(0,xs a)],heap := [] })
abbrev QdL := ByteArray → Option ByteArray
def PQ (a : ByteArray) : Option (ByteArray ⊕ ByteArray) := (bif (decide (((a.size : Nat) : Int) > 0)) then (bif (decide (0 ≤ (w64 (((a.size : Nat) : Int) - 1)) ∧ (w64 (((a.size : Nat) : Int) - 1)) < ((a.size : Nat) : Int))) then (bif (((a.data.getD (Int.toNat (w64 (((a.size : Nat) : Int) - 1))) 0).toNat : Int) == 32) then (bif (decide (0 ≤ (0 : Int) ∧ (0 : Int) ≤ (w64 (((a.size : Nat) : Int) - 1)) ∧ (w64 (((a.size : Nat) : Int) - 1)) ≤ ((a.size : Nat) : Int))) then (some (.inl (a.extract (Int.toNat 0) (Int.toNat (w64 (((a.size : Nat) : Int) - 1)))))) else none) else (bif (((a.data.getD (Int.toNat (w64 (((a.size : Nat) : Int) - 1))) 0).toNat : Int) == 9) then (bif (decide (0 ≤ (0 : Int) ∧ (0 : Int) ≤ (w64 (((a.size : Nat) : Int) - 1)) ∧ (w64 (((a.size : Nat) : Int) - 1)) ≤ ((a.size : Nat) : Int))) then (some (.inl (a.extract (Int.toNat 0) (Int.toNat (w64 (((a.size : Nat) : Int) - 1)))))) else none) else (some (.inr a)))) else none) else (some (.inr a)))
noncomputable def Wx : QdL := loopW (PQ )
theorem Wx.eq (a : ByteArray) : Wx a = (PQ a).bind (Sum.elim Wx some) := Jc _ _
noncomputable abbrev QiS {ρ R : Type} (a : ByteArray) (k0 : ByteArray → Tr ρ R) : Tr ρ R := .loop (loopAt pp 53 3) (Ed a) (Wx a) Ee k0
noncomputable def QiT (a : ByteArray) : Tr (ByteArray ⊕ ByteArray) XS := (let u77 := (decide ((zz a) > 0)); .as u77 (yesN 4 u77 (let u76 := (in1 (w64 ((zz a) - 1)) (zz a)); .as u76 (yesN 2 u77 (let u75 := ((gb a (w64 ((zz a) - 1))) == 32); .as u75 (yesN 5 u75 (.yes u77 (.yes u75 (.yes u77 (.yes true (.as (in2 i0 (w64 ((zz a) - 1)) (zz a)) (lf Ed (cu a i0 (w64 ((zz a) - 1)))) .fail)))))) (noN 4 u75 (.yes u76 (.no u75 (.yes u77 (.no u75 (.yes u77 (.as ((gb a (w64 ((zz a) - 1))) == 9) (.as (in2 i0 (w64 ((zz a) - 1)) (zz a)) (lf Ed (cu a i0 (w64 ((zz a) - 1)))) .fail) (rx Ee a)))))))))) .fail)) (noN 8 u77 (.no false (rx Ee a))))
theorem Wx.ok {a : ByteArray} {r : ByteArray} (h : Wx a = some r) : lw 0 53 (loopAt pp 53 3) (Ed a) = some (Ee r) := by
 refine lpP h QiT fun a => ?_
 exact ⟨rfl,fun q0 => Qh 4 (q0) (⟨rfl,fun q1 => Qh 2 (q0) (⟨rfl,fun q2 => Qh 5 (q2) (⟨q0,⟨q2,⟨q0,⟨rfl,⟨rfl,fun q3 => rfl,fun q3 => trivial⟩⟩⟩⟩⟩),fun q2 => noN_ok 4 (q2) (⟨q1,⟨q2,⟨q0,⟨q2,⟨q0,⟨rfl,fun q3 => ⟨rfl,fun q4 => rfl,fun q4 => trivial⟩,fun q3 => rfl⟩⟩⟩⟩⟩⟩)⟩),fun q1 => trivial⟩),fun q0 => noN_ok 8 (q0) (⟨rfl,rfl⟩)⟩
def QcA (L0 : QdK) (L1 : QdL) (a0 : ByteArray) : Option ByteArray := ((L0 a0).bind (fun (o1 : ByteArray) => ((L1 o1).bind (fun (o2 : ByteArray) => (some o2)))))
noncomputable def Vu : Qa6 := QcA Ww Wx
theorem Vu.eq (a0 : ByteArray) : Vu a0 = QcA Ww Wx a0 := rfl
noncomputable def Qnc (a0 : ByteArray) : Tr ByteArray AH := (QiQ a0 (fun o1 => (QiS o1 (fun o2 => (rt Qj o2)))))
theorem Vu.ok {a0 : ByteArray} {r : ByteArray} (h : Vu a0 = some r) : ww 53 [xs a0] [] = some (Qj r) := by
 refine fnP (Qnc a0) ?_ h
 exact fun o1 h => ⟨Ww.ok h,fun o2 h => ⟨Wx.ok h,rfl⟩⟩
noncomputable abbrev XY {ρ R : Type} (a0 : ByteArray) (k : ByteArray → Tr ρ R) : Tr ρ R := .call (ww 53 [xs a0] []) (Vu a0) Qj k
abbrev Qd8 := ByteArray → Option Bool
structure Qt where
 x0 : ByteArray
 x3 : Bool
 x4 : Int
def Jr (a : Qt) : St := { n := 65,nx := 0,env := [(0,xs a.x0),(3,xo a.x3),(4,xi a.x4)],heap := [] }
def QbD (a : Bool) : Ex × St := (.ret,{ n := 65,nx := 0,env := [(2,xo a)],heap := [] })
def QbE (a : Bool) : Ex × St := (.exit 0,{ n := 65,nx := 0,env := [(3,xo a)],heap := [] })
def Ws (a : (Bool ⊕ Bool)) : Ex × St := Sum.elim QbD QbE a
abbrev QdM := Qt → Option (Bool ⊕ Bool)
def Yp (a : Qt) : Option (Qt ⊕ (Bool ⊕ Bool)) := (bif (decide (a.x4 < ((a.x0.size : Nat) : Int))) then (bif (decide (0 ≤ a.x4 ∧ a.x4 < ((a.x0.size : Nat) : Int))) then (bif (decide (((a.x0.data.getD (Int.toNat a.x4) 0).toNat : Int) ≥ 48)) then (bif (decide (((a.x0.data.getD (Int.toNat a.x4) 0).toNat : Int) ≥ 97)) then (bif (!(decide (((a.x0.data.getD (Int.toNat a.x4) 0).toNat : Int) ≤ 122))) then (bif (((a.x0.data.getD (Int.toNat a.x4) 0).toNat : Int) != 95) then (bif (a.x4 == 0) then (some (.inr (.inl false))) else (bif (!(decide (((a.x0.data.getD (Int.toNat a.x4) 0).toNat : Int) ≤ 57))) then (some (.inr (.inl false))) else (bif (decide (a.x4 > 0)) then (some (.inl (Qt.mk a.x0 a.x3 (w64 (a.x4 + 1))))) else (some (.inl (Qt.mk a.x0 a.x3 (w64 (a.x4 + 1)))))))) else (bif (decide (a.x4 > 0)) then (bif (!(decide (((a.x0.data.getD (Int.toNat a.x4) 0).toNat : Int) ≤ 57))) then (some (.inl (Qt.mk a.x0 false (w64 (a.x4 + 1))))) else (some (.inl (Qt.mk a.x0 a.x3 (w64 (a.x4 + 1)))))) else (some (.inl (Qt.mk a.x0 a.x3 (w64 (a.x4 + 1))))))) else (bif (decide (a.x4 > 0)) then (bif (!(decide (((a.x0.data.getD (Int.toNat a.x4) 0).toNat : Int) ≤ 57))) then (some (.inl (Qt.mk a.x0 false (w64 (a.x4 + 1))))) else (some (.inl (Qt.mk a.x0 a.x3 (w64 (a.x4 + 1)))))) else (some (.inl (Qt.mk a.x0 a.x3 (w64 (a.x4 + 1))))))) else (bif (((a.x0.data.getD (Int.toNat a.x4) 0).toNat : Int) != 95) then (bif (a.x4 == 0) then (some (.inr (.inl false))) else (bif (!(decide (((a.x0.data.getD (Int.toNat a.x4) 0).toNat : Int) ≤ 57))) then (some (.inr (.inl false))) else (bif (decide (a.x4 > 0)) then (some (.inl (Qt.mk a.x0 a.x3 (w64 (a.x4 + 1))))) else (some (.inl (Qt.mk a.x0 a.x3 (w64 (a.x4 + 1)))))))) else (bif (decide (a.x4 > 0)) then (bif (!(decide (((a.x0.data.getD (Int.toNat a.x4) 0).toNat : Int) ≤ 57))) then (some (.inl (Qt.mk a.x0 false (w64 (a.x4 + 1))))) else (some (.inl (Qt.mk a.x0 a.x3 (w64 (a.x4 + 1)))))) else (some (.inl (Qt.mk a.x0 a.x3 (w64 (a.x4 + 1)))))))) else (bif (decide (((a.x0.data.getD (Int.toNat a.x4) 0).toNat : Int) ≥ 97)) then (bif (!(decide (((a.x0.data.getD (Int.toNat a.x4) 0).toNat : Int) ≤ 122))) then (bif (((a.x0.data.getD (Int.toNat a.x4) 0).toNat : Int) != 95) then (bif (a.x4 == 0) then (some (.inr (.inl false))) else (some (.inr (.inl false)))) else (bif (decide (a.x4 > 0)) then (some (.inl (Qt.mk a.x0 false (w64 (a.x4 + 1))))) else (some (.inl (Qt.mk a.x0 a.x3 (w64 (a.x4 + 1))))))) else (bif (decide (a.x4 > 0)) then (some (.inl (Qt.mk a.x0 false (w64 (a.x4 + 1))))) else (some (.inl (Qt.mk a.x0 a.x3 (w64 (a.x4 + 1))))))) else (bif (((a.x0.data.getD (Int.toNat a.x4) 0).toNat : Int) != 95) then (bif (a.x4 == 0) then (some (.inr (.inl false))) else (some (.inr (.inl false)))) else (bif (decide (a.x4 > 0)) then (some (.inl (Qt.mk a.x0 false (w64 (a.x4 + 1))))) else (some (.inl (Qt.mk a.x0 a.x3 (w64 (a.x4 + 1))))))))) else none) else (some (.inr (.inr a.x3))))
noncomputable def U4 : QdM := loopW (Yp )
theorem U4.eq (a : Qt) : U4 a = (Yp a).bind (Sum.elim U4 some) := Jc _ _
noncomputable abbrev QcB {ρ R : Type} (a : Qt) (k0 : Bool → Tr ρ R) (k1 : Bool → Tr ρ R) : Tr ρ R := .loop2 (loopAt pp 83 5) (Jr a) (U4 a) QbD QbE k0 k1
noncomputable def QiU (a : Qt) : Tr (Qt ⊕ (Bool ⊕ Bool)) XS := (.as (decide (a.x4 < (zz a.x0))) (.as (in1 a.x4 (zz a.x0)) (let u100 := (decide ((gb a.x0 a.x4) ≥ 48)); .as u100 (yesN 2 u100 (let u90 := (decide ((gb a.x0 a.x4) ≥ 97)); .as u90 (yesN 2 u90 (let u84 := (!(decide ((gb a.x0 a.x4) ≤ 122))); .as u84 (yesN 2 u84 (let u82 := ((gb a.x0 a.x4) != 95); .as u82 (yesN 2 u82 (let u80 := (a.x4 == 0); .as u80 (.yes u80 (.yes u82 (.yes u80 (.yes u82 (.yes true (rx Ws (.inl false))))))) (.no u80 (.yes u82 (.no u80 (.yes u82 (let u79 := (!(decide ((gb a.x0 a.x4) ≤ 57))); .as u79 (rx Ws (.inl false)) (let u78 := (decide (a.x4 > 0)); .as u78 (yesN 2 u78 (.no u79 (lf Jr (Qt.mk a.x0 a.x3 (w64 (a.x4 + 1)))))) (noN 2 u78 (.no false (lf Jr (Qt.mk a.x0 a.x3 (w64 (a.x4 + 1)))))))))))))) (noN 4 u82 (.no false (let u81 := (decide (a.x4 > 0)); .as u81 (yesN 2 u81 (.as (!(decide ((gb a.x0 a.x4) ≤ 57))) (lf Jr (Qt.mk a.x0 false (w64 (a.x4 + 1)))) (lf Jr (Qt.mk a.x0 a.x3 (w64 (a.x4 + 1)))))) (noN 2 u81 (.no false (lf Jr (Qt.mk a.x0 a.x3 (w64 (a.x4 + 1))))))))))) (noN 2 u84 (noN 6 false (let u83 := (decide (a.x4 > 0)); .as u83 (yesN 2 u83 (.as (!(decide ((gb a.x0 a.x4) ≤ 57))) (lf Jr (Qt.mk a.x0 false (w64 (a.x4 + 1)))) (lf Jr (Qt.mk a.x0 a.x3 (w64 (a.x4 + 1)))))) (noN 2 u83 (.no false (lf Jr (Qt.mk a.x0 a.x3 (w64 (a.x4 + 1))))))))))) (noN 2 u90 (yesN 3 true (let u89 := ((gb a.x0 a.x4) != 95); .as u89 (yesN 2 u89 (let u87 := (a.x4 == 0); .as u87 (.yes u87 (.yes u89 (.yes u87 (.yes u89 (.yes true (rx Ws (.inl false))))))) (.no u87 (.yes u89 (.no u87 (.yes u89 (let u86 := (!(decide ((gb a.x0 a.x4) ≤ 57))); .as u86 (rx Ws (.inl false)) (let u85 := (decide (a.x4 > 0)); .as u85 (yesN 2 u85 (.no u86 (lf Jr (Qt.mk a.x0 a.x3 (w64 (a.x4 + 1)))))) (noN 2 u85 (.no false (lf Jr (Qt.mk a.x0 a.x3 (w64 (a.x4 + 1)))))))))))))) (noN 4 u89 (.no false (let u88 := (decide (a.x4 > 0)); .as u88 (yesN 2 u88 (.as (!(decide ((gb a.x0 a.x4) ≤ 57))) (lf Jr (Qt.mk a.x0 false (w64 (a.x4 + 1)))) (lf Jr (Qt.mk a.x0 a.x3 (w64 (a.x4 + 1)))))) (noN 2 u88 (.no false (lf Jr (Qt.mk a.x0 a.x3 (w64 (a.x4 + 1)))))))))))))) (noN 2 u100 (let u99 := (decide ((gb a.x0 a.x4) ≥ 97)); .as u99 (yesN 2 u99 (let u95 := (!(decide ((gb a.x0 a.x4) ≤ 122))); .as u95 (yesN 2 u95 (let u93 := ((gb a.x0 a.x4) != 95); .as u93 (yesN 2 u93 (let u91 := (a.x4 == 0); .as u91 (.yes u91 (.yes u93 (.yes u91 (.yes u93 (.yes true (rx Ws (.inl false))))))) (.no u91 (.yes u93 (.no u91 (.yes u93 (.yes true (rx Ws (.inl false))))))))) (noN 4 u93 (.no false (let u92 := (decide (a.x4 > 0)); .as u92 (yesN 2 u92 (.yes true (lf Jr (Qt.mk a.x0 false (w64 (a.x4 + 1)))))) (noN 2 u92 (.no false (lf Jr (Qt.mk a.x0 a.x3 (w64 (a.x4 + 1))))))))))) (noN 2 u95 (noN 6 false (let u94 := (decide (a.x4 > 0)); .as u94 (yesN 2 u94 (.yes true (lf Jr (Qt.mk a.x0 false (w64 (a.x4 + 1)))))) (noN 2 u94 (.no false (lf Jr (Qt.mk a.x0 a.x3 (w64 (a.x4 + 1))))))))))) (noN 2 u99 (yesN 3 true (let u98 := ((gb a.x0 a.x4) != 95); .as u98 (yesN 2 u98 (let u96 := (a.x4 == 0); .as u96 (.yes u96 (.yes u98 (.yes u96 (.yes u98 (.yes true (rx Ws (.inl false))))))) (.no u96 (.yes u98 (.no u96 (.yes u98 (.yes true (rx Ws (.inl false))))))))) (noN 4 u98 (.no false (let u97 := (decide (a.x4 > 0)); .as u97 (yesN 2 u97 (.yes true (lf Jr (Qt.mk a.x0 false (w64 (a.x4 + 1)))))) (noN 2 u97 (.no false (lf Jr (Qt.mk a.x0 a.x3 (w64 (a.x4 + 1))))))))))))))) .fail) (rx Ws (.inr a.x3)))
theorem U4.ok {a : Qt} {r : (Bool ⊕ Bool)} (h : U4 a = some r) : lw 0 83 (loopAt pp 83 5) (Jr a) = some (Ws r) := by
 refine lpP h QiU fun a => ?_
 exact ⟨rfl,fun q0 => ⟨rfl,fun q1 => ⟨rfl,fun q2 => Qh 2 (q2) (⟨rfl,fun q3 => Qh 2 (q3) (⟨rfl,fun q4 => Qh 2 (q4) (⟨rfl,fun q5 => Qh 2 (q5) (⟨rfl,fun q6 => ⟨q6,⟨q5,⟨q6,⟨q5,⟨rfl,rfl⟩⟩⟩⟩⟩,fun q6 => ⟨q6,⟨q5,⟨q6,⟨q5,⟨rfl,fun q7 => rfl,fun q7 => ⟨rfl,fun q8 => Qh 2 (q8) (⟨q7,rfl⟩),fun q8 => noN_ok 2 (q8) (⟨rfl,rfl⟩)⟩⟩⟩⟩⟩⟩⟩),fun q5 => noN_ok 4 (q5) (⟨rfl,⟨rfl,fun q6 => Qh 2 (q6) (⟨rfl,fun q7 => rfl,fun q7 => rfl⟩),fun q6 => noN_ok 2 (q6) (⟨rfl,rfl⟩)⟩⟩)⟩),fun q4 => noN_ok 2 (q4) (noN_ok 6 (rfl) (⟨rfl,fun q5 => Qh 2 (q5) (⟨rfl,fun q6 => rfl,fun q6 => rfl⟩),fun q5 => noN_ok 2 (q5) (⟨rfl,rfl⟩)⟩))⟩),fun q3 => noN_ok 2 (q3) (Qh 3 (rfl) (⟨rfl,fun q4 => Qh 2 (q4) (⟨rfl,fun q5 => ⟨q5,⟨q4,⟨q5,⟨q4,⟨rfl,rfl⟩⟩⟩⟩⟩,fun q5 => ⟨q5,⟨q4,⟨q5,⟨q4,⟨rfl,fun q6 => rfl,fun q6 => ⟨rfl,fun q7 => Qh 2 (q7) (⟨q6,rfl⟩),fun q7 => noN_ok 2 (q7) (⟨rfl,rfl⟩)⟩⟩⟩⟩⟩⟩⟩),fun q4 => noN_ok 4 (q4) (⟨rfl,⟨rfl,fun q5 => Qh 2 (q5) (⟨rfl,fun q6 => rfl,fun q6 => rfl⟩),fun q5 => noN_ok 2 (q5) (⟨rfl,rfl⟩)⟩⟩)⟩))⟩),fun q2 => noN_ok 2 (q2) (⟨rfl,fun q3 => Qh 2 (q3) (⟨rfl,fun q4 => Qh 2 (q4) (⟨rfl,fun q5 => Qh 2 (q5) (⟨rfl,fun q6 => ⟨q6,⟨q5,⟨q6,⟨q5,⟨rfl,rfl⟩⟩⟩⟩⟩,fun q6 => ⟨q6,⟨q5,⟨q6,⟨q5,⟨rfl,rfl⟩⟩⟩⟩⟩⟩),fun q5 => noN_ok 4 (q5) (⟨rfl,⟨rfl,fun q6 => Qh 2 (q6) (⟨rfl,rfl⟩),fun q6 => noN_ok 2 (q6) (⟨rfl,rfl⟩)⟩⟩)⟩),fun q4 => noN_ok 2 (q4) (noN_ok 6 (rfl) (⟨rfl,fun q5 => Qh 2 (q5) (⟨rfl,rfl⟩),fun q5 => noN_ok 2 (q5) (⟨rfl,rfl⟩)⟩))⟩),fun q3 => noN_ok 2 (q3) (Qh 3 (rfl) (⟨rfl,fun q4 => Qh 2 (q4) (⟨rfl,fun q5 => ⟨q5,⟨q4,⟨q5,⟨q4,⟨rfl,rfl⟩⟩⟩⟩⟩,fun q5 => ⟨q5,⟨q4,⟨q5,⟨q4,⟨rfl,rfl⟩⟩⟩⟩⟩⟩),fun q4 => noN_ok 4 (q4) (⟨rfl,⟨rfl,fun q5 => Qh 2 (q5) (⟨rfl,rfl⟩),fun q5 => noN_ok 2 (q5) (⟨rfl,rfl⟩)⟩⟩)⟩))⟩)⟩,fun q1 => trivial⟩,fun q0 => rfl⟩
def QcC (L0 : QdM) (a0 : ByteArray) : Option Bool := (bif (decide (((a0.size : Nat) : Int) < 1)) then (some false) else (bif (decide (((a0.size : Nat) : Int) > 12)) then (some false) else (bif (decide (0 ≤ (0 : Int) ∧ (0 : Int) < ((a0.size : Nat) : Int))) then (bif (((a0.data.getD (Int.toNat 0) 0).toNat : Int) == 114) then ((L0 (Qt.mk a0 (decide (((a0.size : Nat) : Int) > 1)) (0 : Int))).bind fun x => Sum.elim (fun (o1 : Bool) => (some o1)) (fun (o2 : Bool) => (some (!o2))) x) else ((L0 (Qt.mk a0 false (0 : Int))).bind fun x => Sum.elim (fun (o3 : Bool) => (some o3)) (fun (o4 : Bool) => (some (!o4))) x)) else none)))
noncomputable def Xv : Qd8 := QcC U4
theorem Xv.eq (a0 : ByteArray) : Xv a0 = QcC U4 a0 := rfl
noncomputable def Qnd (a0 : ByteArray) : Tr Bool AH := (let u102 := (decide ((zz a0) < 1)); .as u102 (yesN 3 u102 (.yes true (rt Qm false))) (noN 3 u102 (.as (decide ((zz a0) > 12)) (rt Qm false) (.as (in1 i0 (zz a0)) (let u101 := ((gb a0 i0) == 114); .as u101 (yesN 3 u101 (QcB (Qt.mk a0 (decide ((zz a0) > 1)) i0) (fun o1 => (rt Qm o1)) (fun o2 => (rt Qm (!o2))))) (noN 3 u101 (QcB (Qt.mk a0 false i0) (fun o3 => (rt Qm o3)) (fun o4 => (rt Qm (!o4)))))) .fail))))
theorem Xv.ok {a0 : ByteArray} {r : Bool} (h : Xv a0 = some r) : ww 83 [xs a0] [] = some (Qm r) := by
 refine fnP (Qnd a0) ?_ h
 exact ⟨rfl,fun q0 => Qh 3 (q0) (⟨rfl,rfl⟩),fun q0 => noN_ok 3 (q0) (⟨rfl,fun q1 => rfl,fun q1 => ⟨rfl,fun q2 => ⟨rfl,fun q3 => Qh 3 (q3) (⟨fun o1 h => ⟨U4.ok (r := (.inl _)) h,rfl⟩,fun o2 h => ⟨U4.ok (r := (.inr _)) h,rfl⟩⟩),fun q3 => noN_ok 3 (q3) (⟨fun o3 h => ⟨U4.ok (r := (.inl _)) h,rfl⟩,fun o4 h => ⟨U4.ok (r := (.inr _)) h,rfl⟩⟩)⟩,fun q2 => trivial⟩⟩)⟩
noncomputable abbrev QgR {ρ R : Type} (a0 : ByteArray) (k : Bool → Tr ρ R) : Tr ρ R := .call (ww 83 [xs a0] []) (Xv a0) Qm k
abbrev Qd9 := ByteArray → Option Bool
def QcD (C0 : Qd8) (a0 : ByteArray) : Option Bool := ((C0 a0).bind fun r1 => (some r1))
noncomputable def Xw : Qd9 := QcD Xv
theorem Xw.eq (a0 : ByteArray) : Xw a0 = QcD Xv a0 := rfl
noncomputable def Qne (a0 : ByteArray) : Tr Bool AH := (QgR a0 fun r1 => (rt Qm r1))
theorem Xw.ok {a0 : ByteArray} {r : Bool} (h : Xw a0 = some r) : ww 34 [xs a0] [] = some (Qm r) := by
 refine fnP (Qne a0) ?_ h
 exact fun r1 h => ⟨Xv.ok h,rfl⟩
noncomputable abbrev QgS {ρ R : Type} (a0 : ByteArray) (k : Bool → Tr ρ R) : Tr ρ R := .call (ww 34 [xs a0] []) (Xw a0) Qm k
def F6 (r : (ByteArray × ByteArray)) : AV × Heap := (.tup [xs r.1,xs r.2],[])
abbrev QgT := ByteArray → Option (ByteArray × ByteArray)
structure Up where
 x0 : ByteArray
 x4 : Int
structure Vm where
 x2 : ByteArray
 x3 : ByteArray
def ZW (a : Up) : St := { n := 30,nx := 0,env := [(0,xs a.x0),(4,xi a.x4)],heap := [] }
def Qau (a : Vm) : Ex × St := (.ret,{ n := 30,nx := 0,env := [(2,xs a.x2),(3,xs a.x3)],heap := [] })
def Qav (a : ByteArray) : Ex × St := (.exit 0,{ n := 30,nx := 0,env := [(0,xs a)],heap := [] })
def FN (a : (Vm ⊕ ByteArray)) : Ex × St := Sum.elim Qau Qav a
abbrev QcE := Up → Option (Vm ⊕ ByteArray)
def ZX (C0 : Qd9) (C1 : Qa6) (a : Up) : Option (Up ⊕ (Vm ⊕ ByteArray)) := (bif (decide (a.x4 < ((a.x0.size : Nat) : Int))) then (bif (decide (0 ≤ a.x4 ∧ a.x4 < ((a.x0.size : Nat) : Int))) then (bif (((a.x0.data.getD (Int.toNat a.x4) 0).toNat : Int) == 58) then (bif (decide (0 ≤ (0 : Int) ∧ (0 : Int) ≤ a.x4 ∧ a.x4 ≤ ((a.x0.size : Nat) : Int))) then ((C0 (a.x0.extract (Int.toNat 0) (Int.toNat a.x4))).bind fun r1 => (bif r1 then (bif (decide (0 ≤ (w64 (a.x4 + 1)) ∧ (w64 (a.x4 + 1)) ≤ ((a.x0.size : Nat) : Int) ∧ ((a.x0.size : Nat) : Int) ≤ ((a.x0.size : Nat) : Int))) then ((C1 (a.x0.extract (Int.toNat (w64 (a.x4 + 1))) (Int.toNat ((a.x0.size : Nat) : Int)))).bind fun r2 => (some (.inr (.inl (Vm.mk (a.x0.extract (Int.toNat 0) (Int.toNat a.x4)) r2))))) else none) else (some (.inl (Up.mk a.x0 (w64 (a.x4 + 1))))))) else none) else (some (.inl (Up.mk a.x0 (w64 (a.x4 + 1)))))) else none) else (some (.inr (.inr a.x0))))
noncomputable def Vc : QcE := loopW (ZX Xw Vu)
theorem Vc.eq (a : Up) : Vc a = (ZX Xw Vu a).bind (Sum.elim Vc some) := Jc _ _
noncomputable abbrev QhL {ρ R : Type} (a : Up) (k0 : Vm → Tr ρ R) (k1 : ByteArray → Tr ρ R) : Tr ρ R := .loop2 (loopAt pp 52 2) (ZW a) (Vc a) Qau Qav k0 k1
noncomputable def QhM (a : Up) : Tr (Up ⊕ (Vm ⊕ ByteArray)) XS := (.as (decide (a.x4 < (zz a.x0))) (.as (in1 a.x4 (zz a.x0)) (let u104 := ((gb a.x0 a.x4) == 58); .as u104 (yesN 2 u104 (let u103 := (in2 i0 a.x4 (zz a.x0)); .as u103 (.yes u104 (QgS (cu a.x0 i0 a.x4) fun r1 => (.yes u104 (.as r1 (.yes u103 (.as (in2 (w64 (a.x4 + 1)) (zz a.x0) (zz a.x0)) (XY (cu a.x0 (w64 (a.x4 + 1)) (zz a.x0)) fun r2 => (rx FN (.inl (Vm.mk (cu a.x0 i0 a.x4) r2)))) .fail)) (lf ZW (Up.mk a.x0 (w64 (a.x4 + 1)))))))) .fail)) (noN 4 u104 (.no false (lf ZW (Up.mk a.x0 (w64 (a.x4 + 1))))))) .fail) (rx FN (.inr a.x0)))
theorem Vc.ok {a : Up} {r : (Vm ⊕ ByteArray)} (h : Vc a = some r) : lw 0 52 (loopAt pp 52 2) (ZW a) = some (FN r) := by
 refine lpP h QhM fun a => ?_
 exact ⟨rfl,fun q0 => ⟨rfl,fun q1 => ⟨rfl,fun q2 => Qh 2 (q2) (⟨rfl,fun q3 => ⟨q2,fun r1 h => ⟨Xw.ok h,⟨q2,⟨rfl,fun q4 => ⟨q3,⟨rfl,fun q5 => fun r2 h => ⟨Vu.ok h,rfl⟩,fun q5 => trivial⟩⟩,fun q4 => rfl⟩⟩⟩⟩,fun q3 => trivial⟩),fun q2 => noN_ok 4 (q2) (⟨rfl,rfl⟩)⟩,fun q1 => trivial⟩,fun q0 => rfl⟩
def Qa7 (L0 : QcE) (a0 : ByteArray) : Option (ByteArray × ByteArray) := ((L0 (Up.mk a0 (0 : Int))).bind fun x => Sum.elim (fun (o1 : Vm) => (some (o1.x2,o1.x3))) (fun (o2 : ByteArray) => (some (s_,o2))) x)
noncomputable def Yc : QgT := Qa7 Vc
theorem Yc.eq (a0 : ByteArray) : Yc a0 = Qa7 Vc a0 := rfl
noncomputable def Ql3 (a0 : ByteArray) : Tr (ByteArray × ByteArray) AH := (QhL (Up.mk a0 i0) (fun o1 => (rt F6 (o1.x2,o1.x3))) (fun o2 => (rt F6 (s_,o2))))
theorem Yc.ok {a0 : ByteArray} {r : (ByteArray × ByteArray)} (h : Yc a0 = some r) : ww 52 [xs a0] [] = some (F6 r) := by
 refine fnP (Ql3 a0) ?_ h
 exact ⟨fun o1 h => ⟨Vc.ok (r := (.inl _)) h,rfl⟩,fun o2 h => ⟨Vc.ok (r := (.inr _)) h,rfl⟩⟩
noncomputable abbrev Ql4 {ρ R : Type} (a0 : ByteArray) (k : (ByteArray × ByteArray) → Tr ρ R) : Tr ρ R := .call (ww 52 [xs a0] []) (Yc a0) F6 k
abbrev QgU := ByteArray → Option (List ByteArray)
structure QH where
 x0 : ByteArray
 x4 : Bool
 x5 : Int
 x6 : Int
 r0 : (List ByteArray)
def UC (a : QH) : St := { n := 50,nx := 1,env := [(0,xs a.x0),(3,.arr 0),(4,xo a.x4),(5,xi a.x5),(6,xi a.x6)],heap := [(0,.arr true 1 (Qc a.r0))] }
def FO (a : (List ByteArray)) : Ex × St := (.exit 0,{ n := 50,nx := 1,env := [(3,.arr 0)],heap := [(0,.arr true 1 (Qc a))] })
abbrev QcF := QH → Option (List ByteArray)
def YN (C0 : Qa6) (a : QH) : Option (QH ⊕ (List ByteArray)) := (bif (decide (a.x6 ≤ ((a.x0.size : Nat) : Int))) then (bif (decide (a.x6 < ((a.x0.size : Nat) : Int))) then (bif (decide (0 ≤ a.x6 ∧ a.x6 < ((a.x0.size : Nat) : Int))) then (bif (((a.x0.data.getD (Int.toNat a.x6) 0).toNat : Int) == 34) then (bif (a.x6 == ((a.x0.size : Nat) : Int)) then (bif (decide (0 ≤ a.x5 ∧ a.x5 ≤ a.x6 ∧ a.x6 ≤ ((a.x0.size : Nat) : Int))) then ((C0 (a.x0.extract (Int.toNat a.x5) (Int.toNat a.x6))).bind fun r1 => (bif (decide ((a.r0.length + [r1].length) * 16 ≤ most)) then (some (.inl (QH.mk a.x0 (!a.x4) (w64 (a.x6 + 1)) (w64 (a.x6 + 1)) (a.r0 ++ [r1])))) else none)) else none) else (bif (((a.x0.data.getD (Int.toNat a.x6) 0).toNat : Int) == 44) then (bif (!(!a.x4)) then (bif (decide (0 ≤ a.x5 ∧ a.x5 ≤ a.x6 ∧ a.x6 ≤ ((a.x0.size : Nat) : Int))) then ((C0 (a.x0.extract (Int.toNat a.x5) (Int.toNat a.x6))).bind fun r2 => (bif (decide ((a.r0.length + [r2].length) * 16 ≤ most)) then (some (.inl (QH.mk a.x0 (!a.x4) (w64 (a.x6 + 1)) (w64 (a.x6 + 1)) (a.r0 ++ [r2])))) else none)) else none) else (some (.inl (QH.mk a.x0 (!a.x4) a.x5 (w64 (a.x6 + 1)) a.r0)))) else (some (.inl (QH.mk a.x0 (!a.x4) a.x5 (w64 (a.x6 + 1)) a.r0))))) else (bif (a.x6 == ((a.x0.size : Nat) : Int)) then (bif (decide (0 ≤ a.x5 ∧ a.x5 ≤ a.x6 ∧ a.x6 ≤ ((a.x0.size : Nat) : Int))) then ((C0 (a.x0.extract (Int.toNat a.x5) (Int.toNat a.x6))).bind fun r3 => (bif (decide ((a.r0.length + [r3].length) * 16 ≤ most)) then (some (.inl (QH.mk a.x0 a.x4 (w64 (a.x6 + 1)) (w64 (a.x6 + 1)) (a.r0 ++ [r3])))) else none)) else none) else (bif (((a.x0.data.getD (Int.toNat a.x6) 0).toNat : Int) == 44) then (bif (!a.x4) then (bif (decide (0 ≤ a.x5 ∧ a.x5 ≤ a.x6 ∧ a.x6 ≤ ((a.x0.size : Nat) : Int))) then ((C0 (a.x0.extract (Int.toNat a.x5) (Int.toNat a.x6))).bind fun r4 => (bif (decide ((a.r0.length + [r4].length) * 16 ≤ most)) then (some (.inl (QH.mk a.x0 a.x4 (w64 (a.x6 + 1)) (w64 (a.x6 + 1)) (a.r0 ++ [r4])))) else none)) else none) else (some (.inl (QH.mk a.x0 a.x4 a.x5 (w64 (a.x6 + 1)) a.r0)))) else (some (.inl (QH.mk a.x0 a.x4 a.x5 (w64 (a.x6 + 1)) a.r0)))))) else none) else (bif (a.x6 == ((a.x0.size : Nat) : Int)) then (bif (decide (0 ≤ a.x5 ∧ a.x5 ≤ a.x6 ∧ a.x6 ≤ ((a.x0.size : Nat) : Int))) then ((C0 (a.x0.extract (Int.toNat a.x5) (Int.toNat a.x6))).bind fun r5 => (bif (decide ((a.r0.length + [r5].length) * 16 ≤ most)) then (some (.inl (QH.mk a.x0 a.x4 (w64 (a.x6 + 1)) (w64 (a.x6 + 1)) (a.r0 ++ [r5])))) else none)) else none) else (bif (decide (0 ≤ a.x6 ∧ a.x6 < ((a.x0.size : Nat) : Int))) then (bif (((a.x0.data.getD (Int.toNat a.x6) 0).toNat : Int) == 44) then (bif (!a.x4) then (bif (decide (0 ≤ a.x5 ∧ a.x5 ≤ a.x6 ∧ a.x6 ≤ ((a.x0.size : Nat) : Int))) then ((C0 (a.x0.extract (Int.toNat a.x5) (Int.toNat a.x6))).bind fun r6 => (bif (decide ((a.r0.length + [r6].length) * 16 ≤ most)) then (some (.inl (QH.mk a.x0 a.x4 (w64 (a.x6 + 1)) (w64 (a.x6 + 1)) (a.r0 ++ [r6])))) else none)) else none) else (some (.inl (QH.mk a.x0 a.x4 a.x5 (w64 (a.x6 + 1)) a.r0)))) else (some (.inl (QH.mk a.x0 a.x4 a.x5 (w64 (a.x6 + 1)) a.r0)))) else none))) else (some (.inr a.r0)))
noncomputable def Ux : QcF := loopW (YN Vu)
theorem Ux.eq (a : QH) : Ux a = (YN Vu a).bind (Sum.elim Ux some) := Jc _ _
noncomputable abbrev QhN {ρ R : Type} (a : QH) (k0 : (List ByteArray) → Tr ρ R) : Tr ρ R := .loop (loopAt pp 55 4) (UC a) (Ux a) FO k0
noncomputable def QhO (a : QH) : Tr (QH ⊕ (List ByteArray)) XS := (.as (decide (a.x6 ≤ (zz a.x0))) (let u112 := (decide (a.x6 < (zz a.x0))); .as u112 (yesN 2 u112 (let u109 := (in1 a.x6 (zz a.x0)); .as u109 (yesN 2 u112 (.as ((gb a.x0 a.x6) == 34) (let u106 := (a.x6 == (zz a.x0)); .as u106 (yesN 6 u106 (.yes true (.as (in2 a.x5 a.x6 (zz a.x0)) (XY (cu a.x0 a.x5 a.x6) fun r1 => (.rows [[xs r1]] (Qc [r1]) (.yes (decide ((Qc [r1]).all (fun r => r.length == 1) = true)) (.ask (decide (((Qc a.r0).length + (Qc [r1]).length) * 16 ≤ most)) (decide ((a.r0.length + [r1].length) * 16 ≤ most)) (.rows ((Qc a.r0) ++ (Qc [r1])) (Qc (a.r0 ++ [r1])) (lf UC (QH.mk a.x0 (!a.x4) (w64 (a.x6 + 1)) (w64 (a.x6 + 1)) (a.r0 ++ [r1])))) .fail)))) .fail))) (noN 2 u106 (.yes u109 (noN 2 u106 (let u105 := ((gb a.x0 a.x6) == 44); .as u105 (.yes u105 (.no u106 (.yes u105 (.no u106 (.as (!(!a.x4)) (.as (in2 a.x5 a.x6 (zz a.x0)) (XY (cu a.x0 a.x5 a.x6) fun r2 => (.rows [[xs r2]] (Qc [r2]) (.yes (decide ((Qc [r2]).all (fun r => r.length == 1) = true)) (.ask (decide (((Qc a.r0).length + (Qc [r2]).length) * 16 ≤ most)) (decide ((a.r0.length + [r2].length) * 16 ≤ most)) (.rows ((Qc a.r0) ++ (Qc [r2])) (Qc (a.r0 ++ [r2])) (lf UC (QH.mk a.x0 (!a.x4) (w64 (a.x6 + 1)) (w64 (a.x6 + 1)) (a.r0 ++ [r2])))) .fail)))) .fail) (lf UC (QH.mk a.x0 (!a.x4) a.x5 (w64 (a.x6 + 1)) a.r0))))))) (.no u105 (.no u106 (.no u105 (.no u106 (.no false (lf UC (QH.mk a.x0 (!a.x4) a.x5 (w64 (a.x6 + 1)) a.r0)))))))))))) (let u108 := (a.x6 == (zz a.x0)); .as u108 (yesN 6 u108 (.yes true (.as (in2 a.x5 a.x6 (zz a.x0)) (XY (cu a.x0 a.x5 a.x6) fun r3 => (.rows [[xs r3]] (Qc [r3]) (.yes (decide ((Qc [r3]).all (fun r => r.length == 1) = true)) (.ask (decide (((Qc a.r0).length + (Qc [r3]).length) * 16 ≤ most)) (decide ((a.r0.length + [r3].length) * 16 ≤ most)) (.rows ((Qc a.r0) ++ (Qc [r3])) (Qc (a.r0 ++ [r3])) (lf UC (QH.mk a.x0 a.x4 (w64 (a.x6 + 1)) (w64 (a.x6 + 1)) (a.r0 ++ [r3])))) .fail)))) .fail))) (noN 2 u108 (.yes u109 (noN 2 u108 (let u107 := ((gb a.x0 a.x6) == 44); .as u107 (.yes u107 (.no u108 (.yes u107 (.no u108 (.as (!a.x4) (.as (in2 a.x5 a.x6 (zz a.x0)) (XY (cu a.x0 a.x5 a.x6) fun r4 => (.rows [[xs r4]] (Qc [r4]) (.yes (decide ((Qc [r4]).all (fun r => r.length == 1) = true)) (.ask (decide (((Qc a.r0).length + (Qc [r4]).length) * 16 ≤ most)) (decide ((a.r0.length + [r4].length) * 16 ≤ most)) (.rows ((Qc a.r0) ++ (Qc [r4])) (Qc (a.r0 ++ [r4])) (lf UC (QH.mk a.x0 a.x4 (w64 (a.x6 + 1)) (w64 (a.x6 + 1)) (a.r0 ++ [r4])))) .fail)))) .fail) (lf UC (QH.mk a.x0 a.x4 a.x5 (w64 (a.x6 + 1)) a.r0))))))) (.no u107 (.no u108 (.no u107 (.no u108 (.no false (lf UC (QH.mk a.x0 a.x4 a.x5 (w64 (a.x6 + 1)) a.r0)))))))))))))) .fail)) (noN 4 u112 (.no false (let u111 := (a.x6 == (zz a.x0)); .as u111 (yesN 6 u111 (.yes true (.as (in2 a.x5 a.x6 (zz a.x0)) (XY (cu a.x0 a.x5 a.x6) fun r5 => (.rows [[xs r5]] (Qc [r5]) (.yes (decide ((Qc [r5]).all (fun r => r.length == 1) = true)) (.ask (decide (((Qc a.r0).length + (Qc [r5]).length) * 16 ≤ most)) (decide ((a.r0.length + [r5].length) * 16 ≤ most)) (.rows ((Qc a.r0) ++ (Qc [r5])) (Qc (a.r0 ++ [r5])) (lf UC (QH.mk a.x0 a.x4 (w64 (a.x6 + 1)) (w64 (a.x6 + 1)) (a.r0 ++ [r5])))) .fail)))) .fail))) (noN 2 u111 (.as (in1 a.x6 (zz a.x0)) (noN 2 u111 (let u110 := ((gb a.x0 a.x6) == 44); .as u110 (.yes u110 (.no u111 (.yes u110 (.no u111 (.as (!a.x4) (.as (in2 a.x5 a.x6 (zz a.x0)) (XY (cu a.x0 a.x5 a.x6) fun r6 => (.rows [[xs r6]] (Qc [r6]) (.yes (decide ((Qc [r6]).all (fun r => r.length == 1) = true)) (.ask (decide (((Qc a.r0).length + (Qc [r6]).length) * 16 ≤ most)) (decide ((a.r0.length + [r6].length) * 16 ≤ most)) (.rows ((Qc a.r0) ++ (Qc [r6])) (Qc (a.r0 ++ [r6])) (lf UC (QH.mk a.x0 a.x4 (w64 (a.x6 + 1)) (w64 (a.x6 + 1)) (a.r0 ++ [r6])))) .fail)))) .fail) (lf UC (QH.mk a.x0 a.x4 a.x5 (w64 (a.x6 + 1)) a.r0))))))) (.no u110 (.no u111 (.no u110 (.no u111 (.no false (lf UC (QH.mk a.x0 a.x4 a.x5 (w64 (a.x6 + 1)) a.r0))))))))) .fail)))))) (rx FO a.r0))
theorem Ux.ok {a : QH} {r : (List ByteArray)} (h : Ux a = some r) : lw 0 55 (loopAt pp 55 4) (UC a) = some (FO r) := by
 refine lpP h QhO fun a => ?_
 exact ⟨rfl,fun q0 => ⟨rfl,fun q1 => Qh 2 (q1) (⟨rfl,fun q2 => Qh 2 (q1) (⟨rfl,fun q3 => ⟨rfl,fun q4 => Qh 6 (q4) (⟨rfl,⟨rfl,fun q5 => fun r1 h => ⟨Vu.ok h,⟨(QY [r1]),⟨(decide_eq_true (Jn _)),⟨(by rw [Qk,Qk]),fun q6 => ⟨(JD _ _),rfl⟩,fun q6 => trivial⟩⟩⟩⟩,fun q5 => trivial⟩⟩),fun q4 => noN_ok 2 (q4) (⟨q2,noN_ok 2 (q4) (⟨rfl,fun q5 => ⟨q5,⟨q4,⟨q5,⟨q4,⟨rfl,fun q6 => ⟨rfl,fun q7 => fun r2 h => ⟨Vu.ok h,⟨(QY [r2]),⟨(decide_eq_true (Jn _)),⟨(by rw [Qk,Qk]),fun q8 => ⟨(JD _ _),rfl⟩,fun q8 => trivial⟩⟩⟩⟩,fun q7 => trivial⟩,fun q6 => rfl⟩⟩⟩⟩⟩,fun q5 => ⟨q5,⟨q4,⟨q5,⟨q4,⟨rfl,rfl⟩⟩⟩⟩⟩⟩)⟩)⟩,fun q3 => ⟨rfl,fun q4 => Qh 6 (q4) (⟨rfl,⟨rfl,fun q5 => fun r3 h => ⟨Vu.ok h,⟨(QY [r3]),⟨(decide_eq_true (Jn _)),⟨(by rw [Qk,Qk]),fun q6 => ⟨(JD _ _),rfl⟩,fun q6 => trivial⟩⟩⟩⟩,fun q5 => trivial⟩⟩),fun q4 => noN_ok 2 (q4) (⟨q2,noN_ok 2 (q4) (⟨rfl,fun q5 => ⟨q5,⟨q4,⟨q5,⟨q4,⟨rfl,fun q6 => ⟨rfl,fun q7 => fun r4 h => ⟨Vu.ok h,⟨(QY [r4]),⟨(decide_eq_true (Jn _)),⟨(by rw [Qk,Qk]),fun q8 => ⟨(JD _ _),rfl⟩,fun q8 => trivial⟩⟩⟩⟩,fun q7 => trivial⟩,fun q6 => rfl⟩⟩⟩⟩⟩,fun q5 => ⟨q5,⟨q4,⟨q5,⟨q4,⟨rfl,rfl⟩⟩⟩⟩⟩⟩)⟩)⟩⟩),fun q2 => trivial⟩),fun q1 => noN_ok 4 (q1) (⟨rfl,⟨rfl,fun q2 => Qh 6 (q2) (⟨rfl,⟨rfl,fun q3 => fun r5 h => ⟨Vu.ok h,⟨(QY [r5]),⟨(decide_eq_true (Jn _)),⟨(by rw [Qk,Qk]),fun q4 => ⟨(JD _ _),rfl⟩,fun q4 => trivial⟩⟩⟩⟩,fun q3 => trivial⟩⟩),fun q2 => noN_ok 2 (q2) (⟨rfl,fun q3 => noN_ok 2 (q2) (⟨rfl,fun q4 => ⟨q4,⟨q2,⟨q4,⟨q2,⟨rfl,fun q5 => ⟨rfl,fun q6 => fun r6 h => ⟨Vu.ok h,⟨(QY [r6]),⟨(decide_eq_true (Jn _)),⟨(by rw [Qk,Qk]),fun q7 => ⟨(JD _ _),rfl⟩,fun q7 => trivial⟩⟩⟩⟩,fun q6 => trivial⟩,fun q5 => rfl⟩⟩⟩⟩⟩,fun q4 => ⟨q4,⟨q2,⟨q4,⟨q2,⟨rfl,rfl⟩⟩⟩⟩⟩⟩),fun q3 => trivial⟩)⟩⟩)⟩,fun q0 => rfl⟩
def Qa8 (L0 : QcF) (a0 : ByteArray) : Option (List ByteArray) := ((L0 (QH.mk a0 false (0 : Int) (0 : Int) ([] : List ByteArray))).bind (fun (o1 : (List ByteArray)) => (some o1)))
noncomputable def Yd : QgU := Qa8 Ux
theorem Yd.eq (a0 : ByteArray) : Yd a0 = Qa8 Ux a0 := rfl
noncomputable def Ql5 (a0 : ByteArray) : Tr (List ByteArray) AH := (QhN (QH.mk a0 false i0 i0 ([] : List ByteArray)) (fun o1 => (rt J3 o1)))
theorem Yd.ok {a0 : ByteArray} {r : (List ByteArray)} (h : Yd a0 = some r) : ww 55 [xs a0] [] = some (J3 r) := by
 refine fnP (Ql5 a0) ?_ h
 exact fun o1 h => ⟨Ux.ok h,rfl⟩
noncomputable abbrev Ql6 {ρ R : Type} (a0 : ByteArray) (k : (List ByteArray) → Tr ρ R) : Tr ρ R := .call (ww 55 [xs a0] []) (Yd a0) J3 k
abbrev QcG := ByteArray → Option Bool
structure JZ where
 x0 : ByteArray
 x3 : Int
def Z6 (a : JZ) : St := { n := 28,nx := 0,env := [(0,xs a.x0),(3,xi a.x3)],heap := [] }
def FR (a : Bool) : Ex × St := (.ret,{ n := 28,nx := 0,env := [(2,xo a)],heap := [] })
def FS (a : Unit) : Ex × St := (.exit 0,{ n := 28,nx := 0,env := [],heap := [] })
def YH (a : (Bool ⊕ Unit)) : Ex × St := Sum.elim FR FS a
abbrev XZ := JZ → Option (Bool ⊕ Unit)
def Z7 (a : JZ) : Option (JZ ⊕ (Bool ⊕ Unit)) := (bif (decide ((w64 ((w64 (a.x3 + ((a.x0.size : Nat) : Int))) + 2)) ≤ 11)) then (bif (decide (((a.x0.size : Nat) : Int) > 0)) then (bif (decide (0 ≤ a.x3 ∧ a.x3 ≤ (w64 ((w64 (a.x3 + ((a.x0.size : Nat) : Int))) + 2)) ∧ (w64 ((w64 (a.x3 + ((a.x0.size : Nat) : Int))) + 2)) ≤ ((JE.size : Nat) : Int))) then (bif (decide (((h_20.size + a.x0.size : Nat) : Int) ≤ IntKind.i64.max)) then (bif (decide ((((h_20 ++ a.x0).size + h_20.size : Nat) : Int) ≤ IntKind.i64.max)) then (bif (eqS (JE.extract (Int.toNat a.x3) (Int.toNat (w64 ((w64 (a.x3 + ((a.x0.size : Nat) : Int))) + 2)))) ((h_20 ++ a.x0) ++ h_20)) then (some (.inr (.inl true))) else (some (.inl (JZ.mk a.x0 (w64 (a.x3 + 1)))))) else none) else none) else none) else (some (.inr (.inr ())))) else (some (.inr (.inr ()))))
noncomputable def Vn.s (k : Nat) : XZ := iter (Z7 ) k
theorem Vn.cv (a : JZ) : Cv (fun k => Vn.s k a) (loopW (Z7 ) a) := Cv.iter (fun a => by exact .const _) a
noncomputable def Vn : XZ := loopW (Z7 )
noncomputable abbrev Qea {ρ R : Type} (a : JZ) (k0 : Bool → Tr ρ R) (k1 : Unit → Tr ρ R) : Tr ρ R := .loop2 (loopAt pp 39 2) (Z6 a) (Vn a) FR FS k0 k1
noncomputable def Qeb (a : JZ) : Tr (JZ ⊕ (Bool ⊕ Unit)) XS := (let u113 := (decide ((w64 ((w64 (a.x3 + (zz a.x0))) + 2)) ≤ 11)); .as u113 (yesN 3 u113 (.as (decide ((zz a.x0) > 0)) (.as (in2 a.x3 (w64 ((w64 (a.x3 + (zz a.x0))) + 2)) (zz JE)) (.as (decide (((h_20.size + a.x0.size : Nat) : Int) ≤ IntKind.i64.max)) (.as (decide ((((h_20 ++ a.x0).size + h_20.size : Nat) : Int) ≤ IntKind.i64.max)) (.as (eqS (cu JE a.x3 (w64 ((w64 (a.x3 + (zz a.x0))) + 2))) ((h_20 ++ a.x0) ++ h_20)) (rx YH (.inl true)) (lf Z6 (JZ.mk a.x0 (w64 (a.x3 + 1))))) .fail) .fail) .fail) (rx YH (.inr ())))) (noN 3 u113 (.no false (rx YH (.inr ())))))
theorem Vn.ok {a : JZ} {r : (Bool ⊕ Unit)} (h : Vn a = some r) : lw 0 39 (loopAt pp 39 2) (Z6 a) = some (YH r) := by
 refine lpP h Qeb fun a => ?_
 exact ⟨rfl,fun q0 => Qh 3 (q0) (⟨rfl,fun q1 => ⟨rfl,fun q2 => ⟨rfl,fun q3 => ⟨rfl,fun q4 => ⟨rfl,fun q5 => rfl,fun q5 => rfl⟩,fun q4 => trivial⟩,fun q3 => trivial⟩,fun q2 => trivial⟩,fun q1 => rfl⟩),fun q0 => noN_ok 3 (q0) (⟨rfl,rfl⟩)⟩
def YO (L0 : XZ) (a0 : ByteArray) : Option Bool := ((L0 (JZ.mk a0 (0 : Int))).bind fun x => Sum.elim (fun (o1 : Bool) => (some o1)) (fun (o2 : Unit) => (some false)) x)
theorem QhP {L0 : Nat → XZ} {M0 : XZ} (N0 : Cv1 L0 M0) (a0 : ByteArray) : Cv (fun k => YO (L0 k) a0) (YO M0 a0) := by
 unfold YO
 exact .bind (N0 _) fun x => .sum (fun o1 => by exact .const _) (fun o2 => by exact .const _) x
noncomputable def UQ : QcG := YO Vn
noncomputable def QhQ (a0 : ByteArray) : Tr Bool AH := (Qea (JZ.mk a0 i0) (fun o1 => (rt Qm o1)) (fun o2 => (rt Qm false)))
theorem UQ.ok {a0 : ByteArray} {r : Bool} (h : UQ a0 = some r) : ww 39 [xs a0] [] = some (Qm r) := by
 refine fnP (QhQ a0) ?_ h
 exact ⟨fun o1 h => ⟨Vn.ok (r := (.inl _)) h,rfl⟩,fun o2 h => ⟨Vn.ok (r := (.inr _)) h,rfl⟩⟩
noncomputable abbrev QhR {ρ R : Type} (a0 : ByteArray) (k : Bool → Tr ρ R) : Tr ρ R := .call (ww 39 [xs a0] []) (UQ a0) Qm k
noncomputable def UQ.s : Nat → ByteArray → Option Bool
 | 0,_ => none
 | k + 1,a0 => YO (Vn.s k) a0
theorem UQ.cv (a0 : ByteArray) : Cv (fun k => UQ.s k a0) (UQ a0) := .un rfl (QhP Vn.cv a0)
abbrev Qkk := ByteArray → Option Int
structure Vd where
 x0 : ByteArray
 x3 : Int
 x4 : Int
def SG (a : Vd) : St := { n := 55,nx := 0,env := [(0,xs a.x0),(3,xi a.x3),(4,xi a.x4)],heap := [] }
def QcH (a : Int) : Ex × St := (.ret,{ n := 55,nx := 0,env := [(2,xi a)],heap := [] })
def QcI (a : Int) : Ex × St := (.exit 0,{ n := 55,nx := 0,env := [(3,xi a)],heap := [] })
def EZ (a : (Int ⊕ Int)) : Ex × St := Sum.elim QcH QcI a
abbrev Qfe := Vd → Option (Int ⊕ Int)
def E1 (a : Vd) : Option (Vd ⊕ (Int ⊕ Int)) := (bif (decide (a.x4 < ((a.x0.size : Nat) : Int))) then (bif (decide (0 ≤ a.x4 ∧ a.x4 < ((a.x0.size : Nat) : Int))) then (bif (decide (((a.x0.data.getD (Int.toNat a.x4) 0).toNat : Int) < 48)) then (some (.inr (.inl (-1 : Int)))) else (bif (decide (((a.x0.data.getD (Int.toNat a.x4) 0).toNat : Int) > 57)) then (some (.inr (.inl (-1 : Int)))) else (some (.inl (Vd.mk a.x0 (w64 ((w64 ((10 : Int) * a.x3)) + (w64 (IntKind.u8.wrap (((a.x0.data.getD (Int.toNat a.x4) 0).toNat : Int) - 48))))) (w64 (a.x4 + 1))))))) else none) else (some (.inr (.inr a.x3))))
noncomputable def Ub : Qfe := loopW (E1 )
theorem Ub.eq (a : Vd) : Ub a = (E1 a).bind (Sum.elim Ub some) := Jc _ _
noncomputable abbrev QdN {ρ R : Type} (a : Vd) (k0 : Int → Tr ρ R) (k1 : Int → Tr ρ R) : Tr ρ R := .loop2 (loopAt pp 205 5) (SG a) (Ub a) QcH QcI k0 k1
noncomputable def Qj1 (a : Vd) : Tr (Vd ⊕ (Int ⊕ Int)) XS := (.as (decide (a.x4 < (zz a.x0))) (let u115 := (in1 a.x4 (zz a.x0)); .as u115 (let u114 := (decide ((gb a.x0 a.x4) < 48)); .as u114 (yesN 4 u114 (.yes true (rx EZ (.inl (-1 : Int))))) (noN 2 u114 (.yes u115 (noN 2 u114 (.as (decide ((gb a.x0 a.x4) > 57)) (rx EZ (.inl (-1 : Int))) (.yes u115 (lf SG (Vd.mk a.x0 (w64 ((w64 ((zi 10) * a.x3)) + (w64 (IntKind.u8.wrap ((gb a.x0 a.x4) - 48))))) (w64 (a.x4 + 1)))))))))) .fail) (rx EZ (.inr a.x3)))
theorem Ub.ok {a : Vd} {r : (Int ⊕ Int)} (h : Ub a = some r) : lw 0 205 (loopAt pp 205 5) (SG a) = some (EZ r) := by
 refine lpP h Qj1 fun a => ?_
 exact ⟨rfl,fun q0 => ⟨rfl,fun q1 => ⟨rfl,fun q2 => Qh 4 (q2) (⟨rfl,rfl⟩),fun q2 => noN_ok 2 (q2) (⟨q1,noN_ok 2 (q2) (⟨rfl,fun q3 => rfl,fun q3 => ⟨q1,rfl⟩⟩)⟩)⟩,fun q1 => trivial⟩,fun q0 => rfl⟩
def Qec (L0 : Qfe) (a0 : ByteArray) : Option Int := (bif (decide (((a0.size : Nat) : Int) < 2)) then (some (-1 : Int)) else (bif (decide (((a0.size : Nat) : Int) > 3)) then (some (-1 : Int)) else (bif (decide (0 ≤ (0 : Int) ∧ (0 : Int) < ((a0.size : Nat) : Int))) then (bif (((a0.data.getD (Int.toNat 0) 0).toNat : Int) != 114) then (some (-1 : Int)) else (bif (decide (0 ≤ (1 : Int) ∧ (1 : Int) < ((a0.size : Nat) : Int))) then (bif (((a0.data.getD (Int.toNat 1) 0).toNat : Int) == 48) then (bif (decide (((a0.size : Nat) : Int) > 2)) then (some (-1 : Int)) else ((L0 (Vd.mk a0 (0 : Int) (1 : Int))).bind fun x => Sum.elim (fun (o1 : Int) => (some o1)) (fun (o2 : Int) => (bif (decide (o2 > 31)) then (some (-1 : Int)) else (some o2))) x)) else ((L0 (Vd.mk a0 (0 : Int) (1 : Int))).bind fun x => Sum.elim (fun (o3 : Int) => (some o3)) (fun (o4 : Int) => (bif (decide (o4 > 31)) then (some (-1 : Int)) else (some o4))) x)) else none)) else none)))
noncomputable def ZI : Qkk := Qec Ub
theorem ZI.eq (a0 : ByteArray) : ZI a0 = Qec Ub a0 := rfl
noncomputable def Qou (a0 : ByteArray) : Tr Int AH := (let u119 := (decide ((zz a0) < 2)); .as u119 (yesN 3 u119 (yesN 11 true (rt Qe (-1 : Int)))) (noN 3 u119 (let u118 := (decide ((zz a0) > 3)); .as u118 (yesN 3 u118 (yesN 7 true (rt Qe (-1 : Int)))) (.no u118 (.as (in1 i0 (zz a0)) (noN 2 u118 (let u117 := ((gb a0 i0) != 114); .as u117 (yesN 5 u117 (.yes true (rt Qe (-1 : Int)))) (.no u117 (.as (in1 (zi 1) (zz a0)) (noN 2 u117 (let u116 := ((gb a0 (zi 1)) == 48); .as u116 (yesN 2 u116 (.no u117 (.yes u116 (.no u117 (.as (decide ((zz a0) > 2)) (rt Qe (-1 : Int)) (QdN (Vd.mk a0 i0 (zi 1)) (fun o1 => (rt Qe o1)) (fun o2 => (.as (decide (o2 > 31)) (rt Qe (-1 : Int)) (rt Qe o2))))))))) (noN 2 u116 (.no u117 (.no u116 (.no u117 (.no false (QdN (Vd.mk a0 i0 (zi 1)) (fun o3 => (rt Qe o3)) (fun o4 => (.as (decide (o4 > 31)) (rt Qe (-1 : Int)) (rt Qe o4))))))))))) .fail)))) .fail)))))
theorem ZI.ok {a0 : ByteArray} {r : Int} (h : ZI a0 = some r) : ww 205 [xs a0] [] = some (Qe r) := by
 refine fnP (Qou a0) ?_ h
 exact ⟨rfl,fun q0 => Qh 3 (q0) (Qh 11 (rfl) (rfl)),fun q0 => noN_ok 3 (q0) (⟨rfl,fun q1 => Qh 3 (q1) (Qh 7 (rfl) (rfl)),fun q1 => ⟨q1,⟨rfl,fun q2 => noN_ok 2 (q1) (⟨rfl,fun q3 => Qh 5 (q3) (⟨rfl,rfl⟩),fun q3 => ⟨q3,⟨rfl,fun q4 => noN_ok 2 (q3) (⟨rfl,fun q5 => Qh 2 (q5) (⟨q3,⟨q5,⟨q3,⟨rfl,fun q6 => rfl,fun q6 => ⟨fun o1 h => ⟨Ub.ok (r := (.inl _)) h,rfl⟩,fun o2 h => ⟨Ub.ok (r := (.inr _)) h,⟨rfl,fun q7 => rfl,fun q7 => rfl⟩⟩⟩⟩⟩⟩⟩),fun q5 => noN_ok 2 (q5) (⟨q3,⟨q5,⟨q3,⟨rfl,⟨fun o3 h => ⟨Ub.ok (r := (.inl _)) h,rfl⟩,fun o4 h => ⟨Ub.ok (r := (.inr _)) h,⟨rfl,fun q6 => rfl,fun q6 => rfl⟩⟩⟩⟩⟩⟩⟩)⟩),fun q4 => trivial⟩⟩⟩),fun q2 => trivial⟩⟩⟩)⟩
noncomputable abbrev Qov {ρ R : Type} (a0 : ByteArray) (k : Int → Tr ρ R) : Tr ρ R := .call (ww 205 [xs a0] []) (ZI a0) Qe k
def Z8 (r : Qb) : AV × Heap := (.tup [],[(0,.box [] (QP r))])
abbrev Ef := Qb → Option Qb
def YX (a : Qb) : St := { n := 31,nx := 1,env := [(0,.ptr 0 0)],heap := [(0,.box [] (QP a))] }
def XI (a : Qb) : Ex × St := (.exit 0,{ n := 31,nx := 1,env := [],heap := [(0,.box [] (QP a))] })
abbrev Fp := Qb → Option Qb
def XJ (a : Qb) : Option (Qb ⊕ Qb) := (bif (decide (a.P < ((a.S.size : Nat) : Int))) then (bif (decide (0 ≤ a.P ∧ a.P < ((a.S.size : Nat) : Int))) then (bif (((a.S.data.getD (Int.toNat a.P) 0).toNat : Int) == 32) then (some (.inl (Qb.mk a.S (w64 (a.P + 1)) a.Deep a.Bad))) else (some (.inr a))) else none) else (some (.inr a)))
noncomputable def J1 : Fp := loopW (XJ )
theorem J1.eq (a : Qb) : J1 a = (XJ a).bind (Sum.elim J1 some) := Jc _ _
noncomputable abbrev QbK {ρ R : Type} (a : Qb) (k0 : Qb → Tr ρ R) : Tr ρ R := .loop (loopAt pp 160 0) (YX a) (J1 a) XI k0
noncomputable def QbL (a : Qb) : Tr (Qb ⊕ Qb) XS := (let u120 := (decide (a.P < (zz a.S))); .as u120 (yesN 8 u120 (.as (in1 a.P (zz a.S)) (yesN 2 u120 (.as ((gb a.S a.P) == 32) (lf YX (Qb.mk a.S (w64 (a.P + 1)) a.Deep a.Bad)) (rx XI a))) .fail)) (noN 10 u120 (.no false (rx XI a))))
theorem J1.ok {a : Qb} {r : Qb} (h : J1 a = some r) : lw 1 160 (loopAt pp 160 0) (YX a) = some (XI r) := by
 refine lpP h QbL fun a => ?_
 exact ⟨rfl,fun q0 => Qh 8 (q0) (⟨rfl,fun q1 => Qh 2 (q0) (⟨rfl,fun q2 => rfl,fun q2 => rfl⟩),fun q1 => trivial⟩),fun q0 => noN_ok 10 (q0) (⟨rfl,rfl⟩)⟩
def Z9 (L0 : Fp) (h0 : Qb) : Option Qb := ((L0 h0).bind (fun (o1 : Qb) => (some o1)))
noncomputable def UA : Ef := Z9 J1
theorem UA.eq (h0 : Qb) : UA h0 = Z9 J1 h0 := rfl
noncomputable def Qed (h0 : Qb) : Tr Qb AH := (QbK h0 (fun o1 => (rt Z8 o1)))
theorem UA.ok {h0 : Qb} {r : Qb} (h : UA h0 = some r) : ww 160 [.ptr 0 0] [(0,.box [] (QP h0))] = some (Z8 r) := by
 refine fnP (Qed h0) ?_ h
 exact fun o1 h => ⟨J1.ok h,rfl⟩
noncomputable abbrev PR {ρ R : Type} (h0 : Qb) (k : Qb → Tr ρ R) : Tr ρ R := .call (ww 160 [.ptr 0 0] [(0,.box [] (QP h0))]) (UA h0) Z8 k
def Yq (r : (Bool × Qb)) : AV × Heap := (xo r.1,[(0,.box [] (QP r.2))])
abbrev WR := ByteArray → Qb → Option (Bool × Qb)
def EI (C0 : Ef) (a1 : ByteArray) (h0 : Qb) : Option (Bool × Qb) := ((C0 h0).bind fun r1 => (bif (decide ((w64 (r1.P + ((a1.size : Nat) : Int))) > ((r1.S.size : Nat) : Int))) then (some (false,r1)) else (bif (decide (0 ≤ r1.P ∧ r1.P ≤ (w64 (r1.P + ((a1.size : Nat) : Int))) ∧ (w64 (r1.P + ((a1.size : Nat) : Int))) ≤ ((r1.S.size : Nat) : Int))) then (bif (!(eqS (r1.S.extract (Int.toNat r1.P) (Int.toNat (w64 (r1.P + ((a1.size : Nat) : Int))))) a1)) then (some (false,r1)) else (some (true,(Qb.mk r1.S (w64 (r1.P + ((a1.size : Nat) : Int))) r1.Deep r1.Bad)))) else none)))
noncomputable def JI : WR := EI UA
theorem JI.eq (a1 : ByteArray) (h0 : Qb) : JI a1 h0 = EI UA a1 h0 := rfl
noncomputable def Qf2 (a1 : ByteArray) (h0 : Qb) : Tr (Bool × Qb) AH := (PR h0 fun r1 => (let u121 := (decide ((w64 (r1.P + (zz a1))) > (zz r1.S))); .as u121 (yesN 18 u121 (.yes true (rt Yq (false,r1)))) (noN 15 u121 (.as (in2 r1.P (w64 (r1.P + (zz a1))) (zz r1.S)) (noN 3 u121 (.as (!(eqS (cu r1.S r1.P (w64 (r1.P + (zz a1)))) a1)) (rt Yq (false,r1)) (rt Yq (true,(Qb.mk r1.S (w64 (r1.P + (zz a1))) r1.Deep r1.Bad))))) .fail))))
theorem JI.ok {a1 : ByteArray} {h0 : Qb} {r : (Bool × Qb)} (h : JI a1 h0 = some r) : ww 233 [.ptr 0 0,xs a1] [(0,.box [] (QP h0))] = some (Yq r) := by
 refine fnP (Qf2 a1 h0) ?_ h
 exact fun r1 h => ⟨UA.ok h,⟨rfl,fun q0 => Qh 18 (q0) (⟨rfl,rfl⟩),fun q0 => noN_ok 15 (q0) (⟨rfl,fun q1 => noN_ok 3 (q0) (⟨rfl,fun q2 => rfl,fun q2 => rfl⟩),fun q1 => trivial⟩)⟩⟩
noncomputable abbrev Xx {ρ R : Type} (a1 : ByteArray) (h0 : Qb) (k : (Bool × Qb) → Tr ρ R) : Tr ρ R := .call (ww 233 [.ptr 0 0,xs a1] [(0,.box [] (QP h0))]) (JI a1 h0) Yq k
abbrev Fq := Int → Int → Option Int
def Eg (a0 : Int) (a1 : Int) : Option Int := (bif (decide (a0 ≥ 48)) then (bif (decide (a0 ≤ (57 : Int))) then (some (w64 (IntKind.u8.wrap (a0 - 48)))) else (bif (a1 == 16) then (bif (decide (a0 ≥ 97)) then (bif (decide (a0 ≤ (102 : Int))) then (some (w64 ((w64 (IntKind.u8.wrap (a0 - 97))) + 10))) else (some (-1 : Int))) else (some (-1 : Int))) else (some (-1 : Int)))) else (bif (a1 == 16) then (bif (decide (a0 ≥ 97)) then (bif (decide (a0 ≤ (102 : Int))) then (some (w64 ((w64 (IntKind.u8.wrap (a0 - 97))) + 10))) else (some (-1 : Int))) else (some (-1 : Int))) else (some (-1 : Int))))
noncomputable def Ve : Fq := Eg
theorem Ve.eq (a0 : Int) (a1 : Int) : Ve a0 a1 = Eg a0 a1 := rfl
noncomputable def Ql7 (a0 : Int) (a1 : Int) : Tr Int AH := (let u126 := (decide (a0 ≥ 48)); .as u126 (yesN 2 u126 (.as (decide (a0 ≤ (zi 57))) (rt Qe (w64 (IntKind.u8.wrap (a0 - 48)))) (let u123 := (a1 == 16); .as u123 (yesN 2 u123 (let u122 := (decide (a0 ≥ 97)); .as u122 (yesN 2 u122 (.as (decide (a0 ≤ (zi 102))) (rt Qe (w64 ((w64 (IntKind.u8.wrap (a0 - 97))) + 10))) (rt Qe (-1 : Int)))) (noN 2 u122 (.no false (rt Qe (-1 : Int)))))) (noN 2 u123 (noN 4 false (rt Qe (-1 : Int))))))) (noN 2 u126 (.no false (let u125 := (a1 == 16); .as u125 (yesN 2 u125 (let u124 := (decide (a0 ≥ 97)); .as u124 (yesN 2 u124 (.as (decide (a0 ≤ (zi 102))) (rt Qe (w64 ((w64 (IntKind.u8.wrap (a0 - 97))) + 10))) (rt Qe (-1 : Int)))) (noN 2 u124 (.no false (rt Qe (-1 : Int)))))) (noN 2 u125 (noN 4 false (rt Qe (-1 : Int))))))))
theorem Ve.ok {a0 : Int} {a1 : Int} {r : Int} (h : Ve a0 a1 = some r) : ww 236 [xb a0,xi a1] [] = some (Qe r) := by
 refine fnP (Ql7 a0 a1) ?_ h
 exact ⟨rfl,fun q0 => Qh 2 (q0) (⟨rfl,fun q1 => rfl,fun q1 => ⟨rfl,fun q2 => Qh 2 (q2) (⟨rfl,fun q3 => Qh 2 (q3) (⟨rfl,fun q4 => rfl,fun q4 => rfl⟩),fun q3 => noN_ok 2 (q3) (⟨rfl,rfl⟩)⟩),fun q2 => noN_ok 2 (q2) (noN_ok 4 (rfl) (rfl))⟩⟩),fun q0 => noN_ok 2 (q0) (⟨rfl,⟨rfl,fun q1 => Qh 2 (q1) (⟨rfl,fun q2 => Qh 2 (q2) (⟨rfl,fun q3 => rfl,fun q3 => rfl⟩),fun q2 => noN_ok 2 (q2) (⟨rfl,rfl⟩)⟩),fun q1 => noN_ok 2 (q1) (noN_ok 4 (rfl) (rfl))⟩⟩)⟩
noncomputable abbrev Qa9 {ρ R : Type} (a0 : Int) (a1 : Int) (k : Int → Tr ρ R) : Tr ρ R := .call (ww 236 [xb a0,xi a1] []) (Ve a0 a1) Qe k
def Qx (r : (Qd × Qb)) : AV × Heap := (.agg (Ud r.1),[(0,.box [] (QP r.2))])
abbrev Yg := Int → Qb → Option (Qd × Qb)
structure Je where
 x1 : Int
 x5 : Int
 x6 : Int
 h0 : Qb
 h1 : Qd
structure JC where
 h0 : Qb
 h1 : Qd
structure Ji where
 x5 : Int
 x6 : Int
 h0 : Qb
 h1 : Qd
def Yr (a : Je) : St := { n := 74,nx := 2,env := [(0,.ptr 0 0),(1,xi a.x1),(4,.ptr 1 0),(5,xi a.x5),(6,xi a.x6)],heap := [(0,.box [] (QP a.h0)),(1,.box [] (Ud a.h1))] }
def ZJ (a : JC) : Ex × St := (.ret,{ n := 74,nx := 2,env := [(4,.ptr 1 0)],heap := [(0,.box [] (QP a.h0)),(1,.box [] (Ud a.h1))] })
def ZK (a : Ji) : Ex × St := (.exit 0,{ n := 74,nx := 2,env := [(0,.ptr 0 0),(4,.ptr 1 0),(5,xi a.x5),(6,xi a.x6)],heap := [(0,.box [] (QP a.h0)),(1,.box [] (Ud a.h1))] })
def Xd (a : (JC ⊕ Ji)) : Ex × St := Sum.elim ZJ ZK a
abbrev Eh := Je → Option (JC ⊕ Ji)
def WB (C0 : Fq) (a : Je) : Option (Je ⊕ (JC ⊕ Ji)) := (bif (decide (a.h0.P < ((a.h0.S.size : Nat) : Int))) then (bif (decide (0 ≤ a.h0.P ∧ a.h0.P < ((a.h0.S.size : Nat) : Int))) then ((C0 ((a.h0.S.data.getD (Int.toNat a.h0.P) 0).toNat : Int) a.x1).bind fun r1 => (bif (decide (r1 ≥ 0)) then ((C0 ((a.h0.S.data.getD (Int.toNat a.h0.P) 0).toNat : Int) a.x1).bind fun r2 => (bif (decide ((w64 ((w64 (a.x1 * a.x5)) + r2)) ≥ 4294967296)) then (some (.inr (.inl (JC.mk (Qb.mk a.h0.S (w64 (a.h0.P + 1)) a.h0.Deep true) (Qd.mk (0 : Int) (0 : Int) s_ ([] : List Qd)))))) else (some (.inl (Je.mk a.x1 (w64 ((w64 (a.x1 * a.x5)) + r2)) a.x6 (Qb.mk a.h0.S (w64 (a.h0.P + 1)) a.h0.Deep a.h0.Bad) a.h1))))) else (some (.inr (.inr (Ji.mk a.x5 a.x6 a.h0 a.h1)))))) else none) else (some (.inr (.inr (Ji.mk a.x5 a.x6 a.h0 a.h1)))))
noncomputable def QO : Eh := loopW (WB Ve)
theorem QO.eq (a : Je) : QO a = (WB Ve a).bind (Sum.elim QO some) := Jc _ _
noncomputable abbrev Qaw {ρ R : Type} (a : Je) (k0 : JC → Tr ρ R) (k1 : Ji → Tr ρ R) : Tr ρ R := .loop2 (loopAt pp 235 2) (Yr a) (QO a) ZJ ZK k0 k1
noncomputable def Qax (a : Je) : Tr (Je ⊕ (JC ⊕ Ji)) XS := (let u128 := (decide (a.h0.P < (zz a.h0.S))); .as u128 (yesN 8 u128 (let u127 := (in1 a.h0.P (zz a.h0.S)); .as u127 (yesN 2 u128 (Qa9 (gb a.h0.S a.h0.P) a.x1 fun r1 => (yesN 2 u128 (.as (decide (r1 ≥ 0)) (.yes u127 (Qa9 (gb a.h0.S a.h0.P) a.x1 fun r2 => (.as (decide ((w64 ((w64 (a.x1 * a.x5)) + r2)) ≥ 4294967296)) (rx Xd (.inl (JC.mk (Qb.mk a.h0.S (w64 (a.h0.P + 1)) a.h0.Deep true) (Qd.mk i0 i0 s_ ([] : List Qd))))) (lf Yr (Je.mk a.x1 (w64 ((w64 (a.x1 * a.x5)) + r2)) a.x6 (Qb.mk a.h0.S (w64 (a.h0.P + 1)) a.h0.Deep a.h0.Bad) a.h1))))) (rx Xd (.inr (Ji.mk a.x5 a.x6 a.h0 a.h1))))))) .fail)) (noN 12 u128 (.no false (rx Xd (.inr (Ji.mk a.x5 a.x6 a.h0 a.h1))))))
theorem QO.ok {a : Je} {r : (JC ⊕ Ji)} (h : QO a = some r) : lw 1 235 (loopAt pp 235 2) (Yr a) = some (Xd r) := by
 refine lpP h Qax fun a => ?_
 exact ⟨rfl,fun q0 => Qh 8 (q0) (⟨rfl,fun q1 => Qh 2 (q0) (fun r1 h => ⟨Ve.ok h,Qh 2 (q0) (⟨rfl,fun q2 => ⟨q1,fun r2 h => ⟨Ve.ok h,⟨rfl,fun q3 => rfl,fun q3 => rfl⟩⟩⟩,fun q2 => rfl⟩)⟩),fun q1 => trivial⟩),fun q0 => noN_ok 12 (q0) (⟨rfl,rfl⟩)⟩
def X0 (L0 : Eh) (a1 : Int) (h0 : Qb) : Option (Qd × Qb) := ((L0 (Je.mk a1 (0 : Int) h0.P h0 (Qd.mk (0 : Int) (0 : Int) s_ ([] : List Qd)))).bind fun x => Sum.elim (fun (o1 : JC) => (some (o1.h1,o1.h0))) (fun (o2 : Ji) => (bif (o2.x6 == o2.h0.P) then (some ((Qd.mk (1 : Int) o2.x5 s_ ([] : List Qd)),(Qb.mk o2.h0.S o2.h0.P o2.h0.Deep true))) else (some ((Qd.mk (1 : Int) o2.x5 s_ ([] : List Qd)),o2.h0)))) x)
noncomputable def Ju : Yg := X0 QO
theorem Ju.eq (a1 : Int) (h0 : Qb) : Ju a1 h0 = X0 QO a1 h0 := rfl
noncomputable def QcJ (a1 : Int) (h0 : Qb) : Tr (Qd × Qb) AH := (Qaw (Je.mk a1 i0 h0.P h0 (Qd.mk i0 i0 s_ ([] : List Qd))) (fun o1 => (rt Qx (o1.h1,o1.h0))) (fun o2 => (.as (o2.x6 == o2.h0.P) (rt Qx ((Qd.mk (zi 1) o2.x5 s_ ([] : List Qd)),(Qb.mk o2.h0.S o2.h0.P o2.h0.Deep true))) (rt Qx ((Qd.mk (zi 1) o2.x5 s_ ([] : List Qd)),o2.h0)))))
theorem Ju.ok {a1 : Int} {h0 : Qb} {r : (Qd × Qb)} (h : Ju a1 h0 = some r) : ww 235 [.ptr 0 0,xi a1] [(0,.box [] (QP h0))] = some (Qx r) := by
 refine fnP (QcJ a1 h0) ?_ h
 exact ⟨fun o1 h => ⟨QO.ok (r := (.inl _)) h,rfl⟩,fun o2 h => ⟨QO.ok (r := (.inr _)) h,⟨rfl,fun q0 => rfl,fun q0 => rfl⟩⟩⟩
noncomputable abbrev Fr {ρ R : Type} (a1 : Int) (h0 : Qb) (k : (Qd × Qb) → Tr ρ R) : Tr ρ R := .call (ww 235 [.ptr 0 0,xi a1] [(0,.box [] (QP h0))]) (Ju a1 h0) Qx k
abbrev Y4 := Qb → Option (Qd × Qb)
structure QE where
 x3 : Int
 h0 : Qb
 h1 : Qd
structure QS where
 x3 : Int
 h0 : Qb
 h1 : Qd
def UN (a : QE) : St := { n := 111,nx := 2,env := [(0,.ptr 0 0),(2,.ptr 1 0),(3,xi a.x3)],heap := [(0,.box [] (QP a.h0)),(1,.box [] (Ud a.h1))] }
def VW (a : QS) : Ex × St := (.exit 0,{ n := 111,nx := 2,env := [(0,.ptr 0 0),(2,.ptr 1 0),(3,xi a.x3)],heap := [(0,.box [] (QP a.h0)),(1,.box [] (Ud a.h1))] })
abbrev Fs := QE → Option QS
def XK (a : QE) : Option (QE ⊕ QS) := (bif (decide (a.h0.P < ((a.h0.S.size : Nat) : Int))) then (bif (decide (0 ≤ a.h0.P ∧ a.h0.P < ((a.h0.S.size : Nat) : Int))) then (bif (decide (((a.h0.S.data.getD (Int.toNat a.h0.P) 0).toNat : Int) ≥ 97)) then (bif (decide (((a.h0.S.data.getD (Int.toNat a.h0.P) 0).toNat : Int) ≤ 122)) then (some (.inl (QE.mk a.x3 (Qb.mk a.h0.S (w64 (a.h0.P + 1)) a.h0.Deep a.h0.Bad) a.h1))) else (bif (decide (((a.h0.S.data.getD (Int.toNat a.h0.P) 0).toNat : Int) ≥ 48)) then (bif (decide (((a.h0.S.data.getD (Int.toNat a.h0.P) 0).toNat : Int) ≤ 57)) then (some (.inl (QE.mk a.x3 (Qb.mk a.h0.S (w64 (a.h0.P + 1)) a.h0.Deep a.h0.Bad) a.h1))) else (bif (((a.h0.S.data.getD (Int.toNat a.h0.P) 0).toNat : Int) == 95) then (some (.inl (QE.mk a.x3 (Qb.mk a.h0.S (w64 (a.h0.P + 1)) a.h0.Deep a.h0.Bad) a.h1))) else (some (.inr (QS.mk a.x3 a.h0 a.h1))))) else (bif (((a.h0.S.data.getD (Int.toNat a.h0.P) 0).toNat : Int) == 95) then (some (.inl (QE.mk a.x3 (Qb.mk a.h0.S (w64 (a.h0.P + 1)) a.h0.Deep a.h0.Bad) a.h1))) else (some (.inr (QS.mk a.x3 a.h0 a.h1)))))) else (bif (decide (((a.h0.S.data.getD (Int.toNat a.h0.P) 0).toNat : Int) ≥ 48)) then (bif (decide (((a.h0.S.data.getD (Int.toNat a.h0.P) 0).toNat : Int) ≤ 57)) then (some (.inl (QE.mk a.x3 (Qb.mk a.h0.S (w64 (a.h0.P + 1)) a.h0.Deep a.h0.Bad) a.h1))) else (bif (((a.h0.S.data.getD (Int.toNat a.h0.P) 0).toNat : Int) == 95) then (some (.inl (QE.mk a.x3 (Qb.mk a.h0.S (w64 (a.h0.P + 1)) a.h0.Deep a.h0.Bad) a.h1))) else (some (.inr (QS.mk a.x3 a.h0 a.h1))))) else (bif (((a.h0.S.data.getD (Int.toNat a.h0.P) 0).toNat : Int) == 95) then (some (.inl (QE.mk a.x3 (Qb.mk a.h0.S (w64 (a.h0.P + 1)) a.h0.Deep a.h0.Bad) a.h1))) else (some (.inr (QS.mk a.x3 a.h0 a.h1)))))) else none) else (some (.inr (QS.mk a.x3 a.h0 a.h1))))
noncomputable def JL : Fs := loopW (XK )
theorem JL.eq (a : QE) : JL a = (XK a).bind (Sum.elim JL some) := Jc _ _
noncomputable abbrev QbM {ρ R : Type} (a : QE) (k0 : QS → Tr ρ R) : Tr ρ R := .loop (loopAt pp 237 2) (UN a) (JL a) VW k0
end Go.Ab
