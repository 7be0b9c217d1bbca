/- DisBack: part 2 of the proof that, whatever the input, the law returns true and the input reads as it did; its conditions are those of the given row. -/
import Derived.Test.YtblfhkldljfhiaaGreatDoorZDisBack1
import Derived.Test.YtblfhkldljfhiaaGreatDoorProg
set_option linter.unusedVariables false
set_option linter.unusedSimpArgs false
namespace Go.Ab
open Go.Proofs
def Qkn (x : Int) : List AV := [.sc (.int .i64 x)]
def QS (l : List Int) : List (List AV) := l.map Qkn
theorem Jw (l : List Int) : l.map Qkn = QS l := rfl
def Jh : Rw Int := ⟨Qkn,QS,Jw,1,fun _ => rfl⟩
def C_u8 (x : Int) : List AV := [.sc (.int .u8 x)]
def R_u8 (l : List Int) : List (List AV) := l.map C_u8
theorem YL (l : List Int) : l.map C_u8 = R_u8 l := rfl
theorem QeS (l : List Int) (i n : Nat) : ((R_u8 l).drop i).take n = R_u8 ((l.drop i).take n) := by simp only [← YL,List.map_take,List.map_drop]
theorem QjB (n : Nat) (a : Int) : List.replicate n (C_u8 a) = R_u8 (List.replicate n a) := by simp only [← YL,List.map_replicate]
theorem QjC (l : List Int) : (R_u8 l).all (fun r => r.length == 1) = true := by rw [← YL]; exact Qjy (C := C_u8) (fun _ => rfl) l
theorem QeT (l : List Int) : (R_u8 l).length = l.length := by rw [← YL,List.length_map]
def E_u8 : Rw Int := ⟨C_u8,R_u8,YL,1,fun _ => rfl⟩
def QbH (x : ByteArray) : List AV := [.sc (.string x)]
def Qr (l : List ByteArray) : List (List AV) := l.map QbH
theorem Js (l : List ByteArray) : l.map QbH = Qr l := rfl
theorem QoT (l : List ByteArray) (i : Nat) (a : ByteArray) : (Qr l).set i (QbH a) = Qr (l.set i a) := by simp only [← Js,List.map_set]
theorem QlN (l : List ByteArray) (i n : Nat) : ((Qr l).drop i).take n = Qr ((l.drop i).take n) := by simp only [← Js,List.map_take,List.map_drop]
theorem QoU (l : List ByteArray) : (Qr l).all (fun r => r.length == 1) = true := by rw [← Js]; exact Qjy (C := QbH) (fun _ => rfl) l
theorem GP (l : List ByteArray) : (Qr l).length = l.length := by rw [← Js,List.length_map]
def Qv : Rw ByteArray := ⟨QbH,Qr,Js,1,fun _ => rfl⟩
structure QD where
 Name : ByteArray
 Bits : ByteArray
 Kinds : ByteArray
deriving Inhabited
def P5 (x : QD) : List AV := [.sc (.string x.Name),.sc (.string x.Bits),.sc (.string x.Kinds)]
structure Qi where
 Op : Int
 F : (List Int)
deriving Inhabited
def Wd (x : Qi) : List AV := [.sc (.int .i64 x.Op),.sl (QS x.F)]
def Qsv (x : (List Int)) : List AV := [.sl (R_u8 x)]
def Qoq (l : List (List Int)) : List (List AV) := l.map Qsv
theorem QmQ (l : List (List Int)) : l.map Qsv = Qoq l := rfl
def Qyk : Rw (List Int) := ⟨Qsv,Qoq,QmQ,1,fun _ => rfl⟩
structure Qg where
 Name : ByteArray
 Text : ByteArray
deriving Inhabited
def F1 (x : Qg) : List AV := [.sc (.string x.Name),.sc (.string x.Text)]
def QL (l : List Qg) : List (List AV) := l.map F1
theorem ZP (l : List Qg) : l.map F1 = QL l := rfl
theorem P6 (l : List Qg) (i : Nat) (a : Qg) : (QL l).set i (F1 a) = QL (l.set i a) := by simp only [← ZP,List.map_set]
theorem Et (l : List Qg) : (QL l).length = l.length := by rw [← ZP,List.length_map]
def UY : Rw Qg := ⟨F1,QL,ZP,2,fun _ => rfl⟩
structure QE where
 b : (List Int)
deriving Inhabited
def WT (x : QE) : List AV := [.sl (R_u8 x.b)]
structure Qa where
 name : ByteArray
 bits : Int
 kinds : ByteArray
deriving Inhabited
def Yg (x : Qa) : List AV := [.sc (.string x.name),.sc (.int .u32 x.bits),.sc (.string x.kinds)]
def QcV (l : List Qa) : List (List AV) := l.map Yg
theorem QfH (l : List Qa) : l.map Yg = QcV l := rfl
def Zi : Rw Qa := ⟨Yg,QcV,QfH,3,fun _ => rfl⟩
structure QA where
 at_ : Int
 bits : Int
 step : Int
 less : Int
deriving Inhabited
def EU (x : QA) : List AV := [.sc (.int .u64 x.at_),.sc (.int .u64 x.bits),.sc (.int .i64 x.step),.sc (.int .i64 x.less)]
structure Qt where
 f : Int
 scale : Int
deriving Inhabited
def Zj (x : Qt) : List AV := [.sc (.int .i64 x.f),.sc (.int .i64 x.scale)]
def F2 (l : List Qt) : List (List AV) := l.map Zj
theorem Qd0 (l : List Qt) : l.map Zj = F2 l := rfl
def Qko : Rw Qt := ⟨Zj,F2,Qd0,2,fun _ => rfl⟩
structure Qk where
 Name : ByteArray
 Value : Int
deriving Inhabited
def QgE (x : Qk) : List AV := [.sc (.string x.Name),.sc (.int .i64 x.Value)]
def Ql (l : List Qk) : List (List AV) := l.map QgE
theorem E6 (l : List Qk) : l.map QgE = Ql l := rfl
def Yy : Rw Qk := ⟨QgE,Ql,E6,2,fun _ => rfl⟩
structure Q5 where
 Frag : ByteArray
 Line : Int
 E : Int
deriving Inhabited
def QeU (x : Q5) : List AV := [.sc (.string x.Frag),.sc (.int .i64 x.Line),.sc (.int .i64 x.E)]
def Qp (l : List Q5) : List (List AV) := l.map QeU
theorem Qd1 (l : List Q5) : l.map QeU = Qp l := rfl
def Xr : Rw Q5 := ⟨QeU,Qp,Qd1,3,fun _ => rfl⟩
structure Qd where
 Kind : Int
 N : Int
 Name : ByteArray
 L : (List Qd)
deriving Inhabited
mutual
def Qkp : Qd → List AV
 | ⟨x0,x1,x2,x3⟩ => [.sc (.int .i64 x0),.sc (.int .i64 x1),.sc (.string x2),.sl (We x3)]
def We : List Qd → List (List AV)
 | [] => []
 | x :: l => Qkp x :: We l
end
def Jg (x : Qd) : List AV := [.sc (.int .i64 x.Kind),.sc (.int .i64 x.N),.sc (.string x.Name),.sl (We x.L)]
theorem P7 (l : List Qd) : l.map Jg = We l := by
 induction l with
 | nil => rw [We]; rfl
 | cons x l ih => rw [We,List.map_cons,ih]; congr 1; cases x; rw [Qkp]; rfl
def Eu : Rw Qd := ⟨Jg,We,P7,4,fun _ => rfl⟩
structure Qj where
 Reg : Int
 E : Qd
deriving Inhabited
def QcW (x : Qj) : List AV := [.sc (.int .i64 x.Reg),.sc (.int .i64 x.E.Kind),.sc (.int .i64 x.E.N),.sc (.string x.E.Name),.sl (We x.E.L)]
def Jl (l : List Qj) : List (List AV) := l.map QcW
theorem Qav (l : List Qj) : l.map QcW = Jl l := rfl
def Zk : Rw Qj := ⟨QcW,Jl,Qav,5,fun _ => rfl⟩
structure Qe where
 Line : Int
 Label : ByteArray
 Kind : Int
 Op : Int
 Text : ByteArray
 Args : (List Qj)
deriving Inhabited
def Qbj (x : Qe) : List AV := [.sc (.int .i64 x.Line),.sc (.string x.Label),.sc (.int .i64 x.Kind),.sc (.int .i64 x.Op),.sc (.string x.Text),.sl (Jl x.Args)]
def Ya (l : List Qe) : List (List AV) := l.map Qbj
theorem P8 (l : List Qe) : l.map Qbj = Ya l := rfl
def Qbk : Rw Qe := ⟨Qbj,Ya,P8,6,fun _ => rfl⟩
structure Qf where
 S : Qe
 Frag : ByteArray
 Size : Int
 At : Int
 Grown : Bool
 Is : Bool
 Value : Int
deriving Inhabited
def WE (x : Qf) : List AV := [.sc (.int .i64 x.S.Line),.sc (.string x.S.Label),.sc (.int .i64 x.S.Kind),.sc (.int .i64 x.S.Op),.sc (.string x.S.Text),.sl (Jl x.S.Args),.sc (.string x.Frag),.sc (.int .i64 x.Size),.sc (.int .i64 x.At),.sc (.bool x.Grown),.sc (.bool x.Is),.sc (.int .i64 x.Value)]
def Qh (l : List Qf) : List (List AV) := l.map WE
theorem E7 (l : List Qf) : l.map WE = Qh l := rfl
theorem Uv (l : List Qf) (i : Nat) (a : Qf) : (Qh l).set i (WE a) = Qh (l.set i a) := by simp only [← E7,List.map_set]
theorem JD (l : List Qf) : (Qh l).length = l.length := by rw [← E7,List.length_map]
def Qy : Rw Qf := ⟨WE,Qh,E7,12,fun _ => rfl⟩
structure Qc where
 Syms : (List Qk)
 L : (List Qf)
 D : (List Q5)
deriving Inhabited
structure Qb where
 S : ByteArray
 P : Int
 Deep : Int
 Bad : Bool
deriving Inhabited
def QU (x : Qb) : List AV := [.sc (.string x.S),.sc (.int .i64 x.P),.sc (.int .i64 x.Deep),.sc (.bool x.Bad)]
def bytesL (s : ByteArray) : List Int := s.data.toList.map fun b => (b.toNat : Int)
def listB (l : List Int) : List UInt8 := l.map fun n => UInt8.ofNat n.toNat
theorem QeV (s : ByteArray) : byteRows s.data.toList = R_u8 (bytesL s) := by simp only [byteRows,R_u8,bytesL,List.map_map]; rfl
theorem QmR (l : List Int) : bytesOfRows (R_u8 l) = some (listB l) := by
 induction l with
 | nil => rfl
 | cons x l ih => simp only [R_u8,listB,List.map_cons] at ih ⊢; simp only [bytesOfRows,C_u8,rowByte,ih,Option.bind_some,Option.map_some]
def h_0a : ByteArray := ⟨#[10]⟩
def h_20 : ByteArray := ⟨#[32]⟩
def JQ : ByteArray := ⟨#[32,88,32,89,32,68,32,65,32,66,32]⟩
def h_26 : ByteArray := ⟨#[38]⟩
def h_28 : ByteArray := ⟨#[40]⟩
def h_29 : ByteArray := ⟨#[41]⟩
def h_2a : ByteArray := ⟨#[42]⟩
def h_2b : ByteArray := ⟨#[43]⟩
def SL : ByteArray := ⟨#[44,32]⟩
def h_2d : ByteArray := ⟨#[45]⟩
def h_2e : ByteArray := ⟨#[46]⟩
def F3 : ByteArray := ⟨#[46,32,43,32]⟩
def F4 : ByteArray := ⟨#[46,32,45,32]⟩
def P9 : ByteArray := ⟨#[46,97,108,105,103,110]⟩
def Sa : ByteArray := ⟨#[46,97,115,99,105,105]⟩
def YM : ByteArray := ⟨#[46,98,121,116,101]⟩
def ZQ : ByteArray := ⟨#[46,98,121,116,101,32]⟩
def QeW : ByteArray := ⟨#[46,101,113,117]⟩
def YN : ByteArray := ⟨#[46,104,97,108,102]⟩
def ZR : ByteArray := ⟨#[46,104,97,108,102,32]⟩
def QbI : ByteArray := ⟨#[46,108,111,110,103]⟩
def Sb : ByteArray := ⟨#[46,115,112,97,99,101]⟩
def QtZ : ByteArray := ⟨#[60,60]⟩
def Qt0 : ByteArray := ⟨#[62,62]⟩
def US : ByteArray := ⟨#[65,32,68,32,66]⟩
def Ua : ByteArray := ⟨#[65,32,68,32,67,56]⟩
def UT : ByteArray := ⟨#[68,32,65,32,66]⟩
def ZS : ByteArray := ⟨#[68,32,65,32,67,56]⟩
def YO : ByteArray := ⟨#[68,32,65,32,83,49,54]⟩
def GQ : ByteArray := ⟨#[68,32,76,50,48]⟩
def Qz : ByteArray := ⟨#[68,32,83,49,54,32,65]⟩
def Yh : ByteArray := ⟨#[79,49,32,73,50,32,84,56]⟩
def Uh : ByteArray := ⟨#[79,50,32,73,52,32,84,49,53]⟩
def Wf : ByteArray := ⟨#[88,32,79,53]⟩
def Jk : ByteArray := ⟨#[88,32,85,53]⟩
def F5 : ByteArray := ⟨#[88,32,85,55]⟩
def QW : ByteArray := ⟨#[88,32,89]⟩
def Wq : ByteArray := ⟨#[89,32,77,49,32,88]⟩
def Wr : ByteArray := ⟨#[89,32,77,50,32,88]⟩
def Ws : ByteArray := ⟨#[89,32,77,52,32,88]⟩
def h_7c : ByteArray := ⟨#[124]⟩
def Qm : ByteArray := ⟨#[115,101,95,105,108,108,101,103,97,108,58,48,48,48,48,58,124,115,101,95,105,115,121,110,99,58,48,48,48,49,58,124,115,101,95,115,99,58,48,48,48,50,58,124,115,101,95,98,108,114,58,48,48,48,52,58,124,115,101,95,98,99,116,114,58,48,48,48,54,58,124,115,101,95,110,111,116,58,48,48,50,48,58,88,124,115,101,95,110,101,103,58,48,48,51,48,58,88,124,115,101,95,109,102,108,114,58,48,48,56,48,58,88,124,115,101,95,109,116,108,114,58,48,48,57,48,58,88,124,115,101,95,109,102,99,116,114,58,48,48,97,48,58,88,124,115,101,95,109,116,99,116,114,58,48,48,98,48,58,88,124,115,101,95,101,120,116,122,98,58,48,48,99,48,58,88,124,115,101,95,101,120,116,115,98,58,48,48,100,48,58,88,124,115,101,95,101,120,116,122,104,58,48,48,101,48,58,88,124,115,101,95,101,120,116,115,104,58,48,48,102,48,58,88,124,115,101,95,109,114,58,48,49,48,48,58,88,32,89,124,115,101,95,97,100,100,58,48,52,48,48,58,88,32,89,124,115,101,95,109,117,108,108,119,58,48,53,48,48,58,88,32,89,124,115,101,95,115,117,98,58,48,54,48,48,58,88,32,89,124,115,101,95,99,109,112,58,48,99,48,48,58,88,32,89,124,115,101,95,99,109,112,108,58,48,100,48,48,58,88,32,89,124,115,101,95,97,100,100,105,58,50,48,48,48,58,88,32,79,53,124,115,101,95,99,109,112,108,105,58,50,50,48,48,58,88,32,79,53,124,115,101,95,115,117,98,105,58,50,52,48,48,58,88,32,79,53,124,115,101,95,99,109,112,105,58,50,97,48,48,58,88,32,85,53,124,115,101,95,111,114,58,52,52,48,48,58,88,32,89,124,115,101,95,97,110,100,99,58,52,53,48,48,58,88,32,89,124,115,101,95,97,110,100,58,52,54,48,48,58,88,32,89,124,115,101,95,108,105,58,52,56,48,48,58,88,32,85,55,124,115,101,95,98,99,108,114,105,58,54,48,48,48,58,88,32,85,53,124,115,101,95,98,115,101,116,105,58,54,52,48,48,58,88,32,85,53,124,115,101,95,98,116,115,116,105,58,54,54,48,48,58,88,32,85,53,124,115,101,95,115,114,119,105,58,54,56,48,48,58,88,32,85,53,124,115,101,95,115,108,119,105,58,54,99,48,48,58,88,32,85,53,124,115,101,95,108,98,122,58,56,48,48,48,58,89,32,77,49,32,88,124,115,101,95,115,116,98,58,57,48,48,48,58,89,32,77,49,32,88,124,115,101,95,108,104,122,58,97,48,48,48,58,89,32,77,50,32,88,124,115,101,95,115,116,104,58,98,48,48,48,58,89,32,77,50,32,88,124,115,101,95,108,119,122,58,99,48,48,48,58,89,32,77,52,32,88,124,115,101,95,115,116,119,58,100,48,48,48,58,89,32,77,52,32,88,124,115,101,95,98,99,58,101,48,48,48,58,79,49,32,73,50,32,84,56,124,115,101,95,98,58,101,56,48,48,58,84,56,124,115,101,95,98,108,58,101,57,48,48,58,84,56,124,101,95,97,100,100,49,54,105,58,49,99,48,48,48,48,48,48,58,68,32,65,32,83,49,54,124,101,95,97,100,100,105,58,49,56,48,48,56,48,48,48,58,68,32,65,32,67,56,124,101,95,97,110,100,105,58,49,56,48,48,99,48,48,48,58,65,32,68,32,67,56,124,101,95,111,114,105,58,49,56,48,48,100,48,48,48,58,65,32,68,32,67,56,124,101,95,120,111,114,105,58,49,56,48,48,101,48,48,48,58,65,32,68,32,67,56,124,101,95,108,105,58,55,48,48,48,48,48,48,48,58,68,32,76,50,48,124,101,95,108,98,122,58,51,48,48,48,48,48,48,48,58,68,32,83,49,54,32,65,124,101,95,115,116,98,58,51,52,48,48,48,48,48,48,58,68,32,83,49,54,32,65,124,101,95,108,104,97,58,51,56,48,48,48,48,48,48,58,68,32,83,49,54,32,65,124,101,95,108,119,122,58,53,48,48,48,48,48,48,48,58,68,32,83,49,54,32,65,124,101,95,115,116,119,58,53,52,48,48,48,48,48,48,58,68,32,83,49,54,32,65,124,101,95,108,104,122,58,53,56,48,48,48,48,48,48,58,68,32,83,49,54,32,65,124,101,95,115,116,104,58,53,99,48,48,48,48,48,48,58,68,32,83,49,54,32,65,124,101,95,98,58,55,56,48,48,48,48,48,48,58,84,50,52,124,101,95,98,108,58,55,56,48,48,48,48,48,49,58,84,50,52,124,101,95,98,99,58,55,97,48,48,48,48,48,48,58,79,50,32,73,52,32,84,49,53,124,101,95,98,99,108,58,55,97,48,48,48,48,48,49,58,79,50,32,73,52,32,84,49,53,124,97,100,100,58,55,99,48,48,48,50,49,52,58,68,32,65,32,66,124,115,117,98,102,58,55,99,48,48,48,48,53,48,58,68,32,65,32,66,124,109,117,108,108,119,58,55,99,48,48,48,49,100,54,58,68,32,65,32,66,124,97,110,100,58,55,99,48,48,48,48,51,56,58,65,32,68,32,66,124,111,114,58,55,99,48,48,48,51,55,56,58,65,32,68,32,66,124,120,111,114,58,55,99,48,48,48,50,55,56,58,65,32,68,32,66,124]⟩
def s_ : ByteArray := ⟨#[]⟩
def s_0x : ByteArray := ⟨#[48,120]⟩
def s_A : ByteArray := ⟨#[65]⟩
def s_B : ByteArray := ⟨#[66]⟩
def s_C8 : ByteArray := ⟨#[67,56]⟩
def s_D : ByteArray := ⟨#[68]⟩
def s_I2 : ByteArray := ⟨#[73,50]⟩
def s_I4 : ByteArray := ⟨#[73,52]⟩
def WJ : ByteArray := ⟨#[76,50,48]⟩
def s_M1 : ByteArray := ⟨#[77,49]⟩
def s_M2 : ByteArray := ⟨#[77,50]⟩
def s_M4 : ByteArray := ⟨#[77,52]⟩
def s_O1 : ByteArray := ⟨#[79,49]⟩
def s_O2 : ByteArray := ⟨#[79,50]⟩
def s_O5 : ByteArray := ⟨#[79,53]⟩
def WK : ByteArray := ⟨#[83,49,54]⟩
def WL : ByteArray := ⟨#[84,49,53]⟩
def Uo : ByteArray := ⟨#[84,50,52]⟩
def s_T8 : ByteArray := ⟨#[84,56]⟩
def s_U5 : ByteArray := ⟨#[85,53]⟩
def s_U7 : ByteArray := ⟨#[85,55]⟩
def s_X : ByteArray := ⟨#[88]⟩
def s_Y : ByteArray := ⟨#[89]⟩
def Qkq : ByteArray := ⟨#[97,100,100]⟩
def Qkr : ByteArray := ⟨#[97,110,100]⟩
def s_b : ByteArray := ⟨#[98]⟩
def s_bc : ByteArray := ⟨#[98,99]⟩
def s_bl : ByteArray := ⟨#[98,108]⟩
def F6 : ByteArray := ⟨#[101,95,97,100,100,49,54,105]⟩
def QbJ : ByteArray := ⟨#[101,95,97,100,100,105]⟩
def QbK : ByteArray := ⟨#[101,95,97,110,100,105]⟩
def E8 : ByteArray := ⟨#[101,95,98]⟩
def Gd : ByteArray := ⟨#[101,95,98,99]⟩
def Qd2 : ByteArray := ⟨#[101,95,98,99,108]⟩
def Gf : ByteArray := ⟨#[101,95,98,108]⟩
def Qd3 : ByteArray := ⟨#[101,95,108,98,122]⟩
def Qd4 : ByteArray := ⟨#[101,95,108,104,97]⟩
def Qd5 : ByteArray := ⟨#[101,95,108,104,122]⟩
def QgF : ByteArray := ⟨#[101,95,108,105]⟩
def Qd6 : ByteArray := ⟨#[101,95,108,119,122]⟩
def Qd7 : ByteArray := ⟨#[101,95,111,114,105]⟩
def Qd8 : ByteArray := ⟨#[101,95,115,116,98]⟩
def Qd9 : ByteArray := ⟨#[101,95,115,116,104]⟩
def Qea : ByteArray := ⟨#[101,95,115,116,119]⟩
def QbL : ByteArray := ⟨#[101,95,120,111,114,105]⟩
def Qeb : ByteArray := ⟨#[109,117,108,108,119]⟩
def s_or : ByteArray := ⟨#[111,114]⟩
def Yi : ByteArray := ⟨#[112,113,115,116,117,118,119,120,121,122]⟩
def s_r : ByteArray := ⟨#[114]⟩
def QbM : ByteArray := ⟨#[115,101,95,97,100,100]⟩
def SM : ByteArray := ⟨#[115,101,95,97,100,100,105]⟩
def QbN : ByteArray := ⟨#[115,101,95,97,110,100]⟩
def SN : ByteArray := ⟨#[115,101,95,97,110,100,99]⟩
def Gg : ByteArray := ⟨#[115,101,95,98]⟩
def Y7 : ByteArray := ⟨#[115,101,95,98,99]⟩
def F7 : ByteArray := ⟨#[115,101,95,98,99,108,114,105]⟩
def SO : ByteArray := ⟨#[115,101,95,98,99,116,114]⟩
def Y8 : ByteArray := ⟨#[115,101,95,98,108]⟩
def QbO : ByteArray := ⟨#[115,101,95,98,108,114]⟩
def F8 : ByteArray := ⟨#[115,101,95,98,115,101,116,105]⟩
def F9 : ByteArray := ⟨#[115,101,95,98,116,115,116,105]⟩
def QbP : ByteArray := ⟨#[115,101,95,99,109,112]⟩
def SP : ByteArray := ⟨#[115,101,95,99,109,112,105]⟩
def SS : ByteArray := ⟨#[115,101,95,99,109,112,108]⟩
def Pa : ByteArray := ⟨#[115,101,95,99,109,112,108,105]⟩
def Pb : ByteArray := ⟨#[115,101,95,101,120,116,115,98]⟩
def Pd : ByteArray := ⟨#[115,101,95,101,120,116,115,104]⟩
def Pe : ByteArray := ⟨#[115,101,95,101,120,116,122,98]⟩
def Pf : ByteArray := ⟨#[115,101,95,101,120,116,122,104]⟩
def GR : ByteArray := ⟨#[115,101,95,105,108,108,101,103,97,108]⟩
def Pg : ByteArray := ⟨#[115,101,95,105,115,121,110,99]⟩
def QbQ : ByteArray := ⟨#[115,101,95,108,98,122]⟩
def QbR : ByteArray := ⟨#[115,101,95,108,104,122]⟩
def Qec : ByteArray := ⟨#[115,101,95,108,105]⟩
def QbS : ByteArray := ⟨#[115,101,95,108,119,122]⟩
def Ph : ByteArray := ⟨#[115,101,95,109,102,99,116,114]⟩
def SU : ByteArray := ⟨#[115,101,95,109,102,108,114]⟩
def Qed : ByteArray := ⟨#[115,101,95,109,114]⟩
def Pj : ByteArray := ⟨#[115,101,95,109,116,99,116,114]⟩
def SV : ByteArray := ⟨#[115,101,95,109,116,108,114]⟩
def Pk : ByteArray := ⟨#[115,101,95,109,117,108,108,119]⟩
def QbT : ByteArray := ⟨#[115,101,95,110,101,103]⟩
def QbU : ByteArray := ⟨#[115,101,95,110,111,116]⟩
def Qee : ByteArray := ⟨#[115,101,95,111,114]⟩
def Qef : ByteArray := ⟨#[115,101,95,115,99]⟩
def SW : ByteArray := ⟨#[115,101,95,115,108,119,105]⟩
def SX : ByteArray := ⟨#[115,101,95,115,114,119,105]⟩
def QbV : ByteArray := ⟨#[115,101,95,115,116,98]⟩
def QbW : ByteArray := ⟨#[115,101,95,115,116,104]⟩
def QbX : ByteArray := ⟨#[115,101,95,115,116,119]⟩
def QbY : ByteArray := ⟨#[115,101,95,115,117,98]⟩
def SY : ByteArray := ⟨#[115,101,95,115,117,98,105]⟩
def QgG : ByteArray := ⟨#[115,117,98,102]⟩
def Qks : ByteArray := ⟨#[120,111,114]⟩
def anT : List (Nat × List (Nat × Ann)) := [
 (3,[(7,⟨[7,8],[],[6],[],false⟩)]),
 (16,[(3,⟨[0,1,2,7,8],[7],[6],[(7,1),(9,1)],false⟩),(7,⟨[0,1,2,7,8,9,10],[0,1,2,7,8,9],[6],[(7,1),(9,1)],false⟩)]),
 (20,[(2,⟨[0,2,4],[0,2],[2,3],[],false⟩),(12,⟨[2,5,6,7],[2,5,6,7],[2,3],[],false⟩)]),
 (32,[(5,⟨[0,4,5,6,7,8],[4,5],[2,3],[(4,6),(5,1)],false⟩)]),
 (35,[(4,⟨[1,4,5,6,7],[4,5],[4],[],true⟩)]),
 (36,[(4,⟨[0,3,4,5],[3],[2],[(3,1)],false⟩)]),
 (39,[(2,⟨[0,3],[],[2],[],false⟩)]),
 (41,[(8,⟨[2,3,8],[],[6,7],[],false⟩)]),
 (42,[(7,⟨[1,4,7,8,9],[4,8],[2,3],[],false⟩)]),
 (44,[(1,⟨[0,1,4,5],[],[],[],true⟩)]),
 (49,[(14,⟨[7,8,9,10],[7,8,9],[4,5,6],[(9,1)],true⟩),(19,⟨[7,8,9,10,11],[7,8,9,10,11],[4,5,6],[(9,1)],true⟩),(23,⟨[7,8,9,10],[7,8,9,10],[4,5,6],[(9,1)],true⟩)]),
 (52,[(2,⟨[0,4],[0],[2,3],[],false⟩)]),
 (53,[(1,⟨[0],[0],[2],[],false⟩),(3,⟨[0],[0],[2],[],false⟩)]),
 (54,[(3,⟨[0,3,4],[0],[2],[],false⟩)]),
 (55,[(4,⟨[0,3,4,5,6],[3],[2],[(3,1)],false⟩)]),
 (58,[(5,⟨[0,1,4,7,8,9,10,11],[4],[4,5,6],[],false⟩)]),
 (83,[(5,⟨[0,3,4],[3],[2],[],false⟩)]),
 (87,[(6,⟨[1,6,7],[],[2],[],false⟩)]),
 (88,[(3,⟨[0,3,4],[3],[2],[],false⟩)]),
 (91,[(6,⟨[2,3,5,33,34,35],[2,3,5],[2,3,4],[],false⟩),(11,⟨[2,3,5,46,47],[2],[2,3,4],[],false⟩),(16,⟨[2,3,5,9,46,47,57,58,59],[2,3,5,9,46,47],[2,3,4],[],false⟩)]),
 (92,[(3,⟨[1,3,9,10,11],[1,3],[2],[(3,1)],false⟩)]),
 (94,[(1,⟨[0,1,4],[],[],[],true⟩),(5,⟨[0,1,4,5,6,7],[0,1,4,5],[],[],true⟩),(9,⟨[0,1,4,5,8],[0,1,4],[],[],true⟩)]),
 (95,[(2,⟨[0,2,3],[0,2],[],[(2,1001),(6,1001)],true⟩),(6,⟨[0,2,4],[],[],[(2,1001),(6,1001)],true⟩),(13,⟨[0,2,4,5,6,7],[0,2,4],[],[(2,1001),(6,1001)],true⟩)]),
 (96,[(1,⟨[0,2],[],[],[],true⟩)]),
 (97,[(3,⟨[0,3,4],[0,3,4],[2],[],true⟩)]),
 (98,[(5,⟨[0,2,4,8,9],[4,8],[6,7],[(8,1)],true⟩)]),
 (100,[(4,⟨[0,4],[0],[2,3],[],false⟩)]),
 (101,[(3,⟨[0,1,6,7],[6],[4,5],[(6,5)],false⟩)]),
 (144,[(7,⟨[1,4,26,27,28],[4],[2,3],[],false⟩)]),
 (149,[(2,⟨[0,1,5],[],[4],[],true⟩)]),
 (151,[(3,⟨[0,3,4],[3],[2],[],true⟩),(8,⟨[0,3,4,5],[0,3,4],[2],[],true⟩)]),
 (152,[(3,⟨[0,3,4],[0,3],[2],[(3,1002)],true⟩),(9,⟨[0,3,5],[3],[2],[(3,1002)],true⟩),(12,⟨[0,3,5,6],[0,3,5],[2],[(3,1002)],true⟩)]),
 (153,[(3,⟨[0,1,5,6],[5],[4],[],true⟩)]),
 (154,[(3,⟨[0,5,6],[],[4],[],true⟩),(7,⟨[0,5,6,7,8],[0,5,6,7],[4],[],true⟩),(11,⟨[0,5,6,7,9],[0,5,6,7],[4],[],true⟩)]),
 (155,[(4,⟨[2,4,8,9,10],[9],[6,7],[],false⟩)]),
 (157,[(3,⟨[0,1,2,3,10,11],[10],[8,9],[(10,1)],false⟩)]),
 (159,[(4,⟨[0,1,4,5],[],[4],[],false⟩)]),
 (160,[(0,⟨[0],[],[],[],false⟩)]),
 (187,[(4,⟨[0,6],[],[2,3,4,5],[],false⟩),(7,⟨[0,6,7],[0,6],[2,3,4,5],[],false⟩)]),
 (192,[(3,⟨[0,1,2,7,8],[7],[6],[],false⟩)]),
 (202,[(3,⟨[1,3,4],[3],[2],[],false⟩)]),
 (203,[(5,⟨[1,3,4],[3],[2],[(3,1)],false⟩),(9,⟨[1,3,4,5,6],[1,3,4],[2],[(3,1)],false⟩)]),
 (204,[(2,⟨[0,1,7],[0],[6],[(0,1)],true⟩)]),
 (205,[(5,⟨[0,3,4],[3],[2],[],false⟩)]),
 (207,[(2,⟨[0,1,5],[],[4],[],false⟩)]),
 (222,[(3,⟨[0,1,2,7,8],[7],[6],[],false⟩)]),
 (226,[(2,⟨[0,8,9,10],[],[2,3,4,5],[],false⟩)]),
 (232,[(2,⟨[0,1,5],[],[4],[],false⟩)]),
 (235,[(2,⟨[0,1,4,5,6],[0,4,5,6],[4],[],false⟩)]),
 (237,[(2,⟨[0,2,3],[0,2,3],[2],[],false⟩)]),
 (250,[(2,⟨[0,1,6],[],[4],[],false⟩)])]
def kdT : List (Nat × List Nat) := [(27,[102]),(37,[0,0,0,0,0,5]),(56,[129,131,178]),(60,[0,101]),(92,[0,112,103]),(113,[0,0,0,0,0,5]),(1000204,[1])]
def extT : List (Nat × (List AV → Heap → Option (AV × Heap))) := [(15,knownX),(48,(cloneK 2 32)),(69,joinX),(81,(cloneV 8)),(93,itoaX),(145,fieldsX),(177,containsX),(225,fitsX)]
def G : Cfg := { ext := fun f => get f extT,an := fun f r => ((get f anT).bind (get r)).getD {},kd := fun t => (get t kdT).getD [],own := fun f => [17,19,35,44,46,204].contains f,keep := fun f => [49,94,95,96,97,98,99,149,150,151,152,153,154].contains f }
def anT0 : List (Nat × List (Nat × Ann)) := [
 (44,[(1,⟨[0,1,4,5],[],[],[],true⟩)]),
 (91,[(6,⟨[2,3,5,33,34,35],[2,3,5],[2,3,4],[],false⟩),(11,⟨[2,3,5,46,47],[2],[2,3,4],[],false⟩),(16,⟨[2,3,5,9,46,47,57,58,59],[2,3,5,9,46,47],[2,3,4],[],false⟩)]),
 (92,[(3,⟨[1,3,9,10,11],[1,3],[2],[(3,1)],false⟩)]),
 (144,[(7,⟨[1,4,26,27,28],[4],[2,3],[],false⟩)]),
 (192,[(3,⟨[0,1,2,7,8],[7],[6],[],false⟩)]),
 (226,[(2,⟨[0,8,9,10],[],[2,3,4,5],[],false⟩)]),
 (250,[(2,⟨[0,1,6],[],[4],[],false⟩)])]
def kdT0 : List (Nat × List Nat) := [(27,[102]),(33,[1]),(60,[0,101]),(1000204,[1])]
def extT0 : List (Nat × (List AV → Heap → Option (AV × Heap))) := [(48,(cloneK 2 32)),(51,(cloneK 1 16)),(69,joinX),(81,(cloneV 8)),(93,itoaX),(145,fieldsX),(177,containsX),(225,fitsX)]
def G0 : Cfg := { ext := fun f => get f extT0,an := fun f r => ((get f anT0).bind (get r)).getD {},kd := fun t => (get t kdT0).getD [],own := fun f => [17,19,35,44,46,204].contains f,keep := fun f => [49,94,95,96,97,98,99,149,150,151,152,153,154].contains f }
theorem Qsw : evalFn Tryz.prog G0 2000 15 [] [] = some (.sc (.bool true),[]) := by kernel_rfl
noncomputable abbrev pp : Program := Tryz.prog
noncomputable abbrev ww : CallF := evW Tryz.prog G
noncomputable abbrev lw (m f : Nat) : Loops := lpW Tryz.prog G m (G.an f)
def QF (r : Bool) : AV × Heap := (xo r,[])
abbrev Qt1 := Option Bool
noncomputable def Fk : Option Bool := (some true)
theorem Fk.ok {r : Bool} (h : Fk = some r) : ww 15 [] [] = some (QF r) := (FI rfl _ _).trans (QvA h)
noncomputable abbrev Qsx {Γ : Prop} {lp : Loops} {ρ R : Type} {en : ρ → R} (k : Bool → Pn Γ lp en) : Pn Γ lp en := pC (ww 15 [] []) (Fk) QF (fun _ => Fk.ok) k
def Qq (r : Int) : AV × Heap := (xi r,[])
abbrev QeX := Int → Int → Option Int
def QiW (a0 : Int) (a1 : Int) : Option Int := (bif (decide (a1 ≠ 0)) then (bif (decide ((Int.tmod a0 a1) < 0)) then (some (w64 ((Int.tmod a0 a1) + a1))) else (some (Int.tmod a0 a1))) else none)
noncomputable def V6 : QeX := QiW
theorem V6.eq (a0 : Int) (a1 : Int) : V6 a0 a1 = QiW a0 a1 := rfl
noncomputable def Qqt (a0 : Int) (a1 : Int) : Pn True (lw 0 84) Qq := (pA (decide (a1 ≠ 0)) (pA (decide ((Int.tmod a0 a1) < 0)) (pR (w64 ((Int.tmod a0 a1) + a1))) (pR (Int.tmod a0 a1))) pF)
theorem V6.ok {a0 : Int} {a1 : Int} {r : Int} (h : V6 a0 a1 = some r) : ww 84 [xi a0,xi a1] [] = some (Qq r) := fnQ (Qqt a0 a1) h
noncomputable abbrev Yb {Γ : Prop} {lp : Loops} {ρ R : Type} {en : ρ → R} (a0 : Int) (a1 : Int) (k : Int → Pn Γ lp en) : Pn Γ lp en := pC (ww 84 [xi a0,xi a1] []) (V6 a0 a1) Qq (fun _ => V6.ok) k
def QgH (r : (QD × Int × Bool)) : AV × Heap := (.tup [.agg (P5 r.1),xi r.2.1,xo r.2.2],[])
abbrev Fm := Int → ByteArray → Option (QD × Int × Bool)
structure QC where
 x0 : Int
 x1 : ByteArray
 x7 : Int
 x8 : Int
 x10 : Int
 x11 : Int
 h0 : QD
 h1_0 : ByteArray
 h1_1 : ByteArray
 h1_2 : ByteArray
structure QN where
 x5 : Int
 x6 : Bool
 h0 : QD
def QbZ (a : QC) : St := { n := 56,nx := 2,env := [(0,xi a.x0),(1,xs a.x1),(4,.ptr 0 0),(7,xi a.x7),(8,xi a.x8),(9,.ptr 1 0),(10,xi a.x10),(11,xi a.x11)],heap := [(0,.box [] (P5 a.h0)),(1,.box [] [xs a.h1_0,xs a.h1_1,xs a.h1_2])] }
def QfI (a : QN) : Ex × St := (.ret,{ n := 56,nx := 1,env := [(4,.ptr 0 0),(5,xi a.x5),(6,xo a.x6)],heap := [(0,.box [] (P5 a.h0))] })
def QfJ (a : QD) : Ex × St := (.exit 0,{ n := 56,nx := 1,env := [(4,.ptr 0 0)],heap := [(0,.box [] (P5 a))] })
def QgI : (QN ⊕ QD) → Ex × St := Sum.elim QfI QfJ
abbrev QiX := QC → Option (QN ⊕ QD)
def GS (a : QC) : Option (QC ⊕ (QN ⊕ QD)) := (bif (decide (a.x11 < 1212)) then (bif (decide (0 ≤ a.x11 ∧ a.x11 < ((Qm.size : Nat) : Int))) then (bif (((Qm.data.getD (Int.toNat a.x11) 0).toNat : Int) != 58) then (bif (((Qm.data.getD (Int.toNat a.x11) 0).toNat : Int) != 124) then (some (.inl (QC.mk a.x0 a.x1 a.x7 a.x8 a.x10 (w64 (a.x11 + 1)) a.h0 a.h1_0 a.h1_1 a.h1_2))) else (bif (decide (0 ≤ a.x8 ∧ a.x8 ≤ a.x11 ∧ a.x11 ≤ ((Qm.size : Nat) : Int))) then (bif (decide (a.x10 = 0)) then (bif (((Qm.data.getD (Int.toNat a.x11) 0).toNat : Int) == 124) then (bif (a.x7 == a.x0) then (some (.inr (.inl (QN.mk a.x7 true (QD.mk (Qm.extract (Int.toNat a.x8) (Int.toNat a.x11)) a.h1_1 a.h1_2))))) else (bif (eqS (Qm.extract (Int.toNat a.x8) (Int.toNat a.x11)) a.x1) then (some (.inr (.inl (QN.mk a.x7 true (QD.mk (Qm.extract (Int.toNat a.x8) (Int.toNat a.x11)) a.h1_1 a.h1_2))))) else (some (.inl (QC.mk a.x0 a.x1 (w64 (a.x7 + 1)) (w64 (a.x11 + 1)) (0 : Int) (w64 (a.x11 + 1)) a.h0 (Qm.extract (Int.toNat a.x8) (Int.toNat a.x11)) a.h1_1 a.h1_2))))) else (some (.inl (QC.mk a.x0 a.x1 a.x7 (w64 (a.x11 + 1)) (w64 (a.x10 + 1)) (w64 (a.x11 + 1)) a.h0 (Qm.extract (Int.toNat a.x8) (Int.toNat a.x11)) a.h1_1 a.h1_2)))) else (bif (decide (a.x10 = 1)) then (bif (((Qm.data.getD (Int.toNat a.x11) 0).toNat : Int) == 124) then (bif (a.x7 == a.x0) then (some (.inr (.inl (QN.mk a.x7 true (QD.mk a.h1_0 (Qm.extract (Int.toNat a.x8) (Int.toNat a.x11)) a.h1_2))))) else (bif (eqS a.h1_0 a.x1) then (some (.inr (.inl (QN.mk a.x7 true (QD.mk a.h1_0 (Qm.extract (Int.toNat a.x8) (Int.toNat a.x11)) a.h1_2))))) else (some (.inl (QC.mk a.x0 a.x1 (w64 (a.x7 + 1)) (w64 (a.x11 + 1)) (0 : Int) (w64 (a.x11 + 1)) a.h0 a.h1_0 (Qm.extract (Int.toNat a.x8) (Int.toNat a.x11)) a.h1_2))))) else (some (.inl (QC.mk a.x0 a.x1 a.x7 (w64 (a.x11 + 1)) (w64 (a.x10 + 1)) (w64 (a.x11 + 1)) a.h0 a.h1_0 (Qm.extract (Int.toNat a.x8) (Int.toNat a.x11)) a.h1_2)))) else (bif (decide (a.x10 = 2)) then (bif (((Qm.data.getD (Int.toNat a.x11) 0).toNat : Int) == 124) then (bif (a.x7 == a.x0) then (some (.inr (.inl (QN.mk a.x7 true (QD.mk a.h1_0 a.h1_1 (Qm.extract (Int.toNat a.x8) (Int.toNat a.x11))))))) else (bif (eqS a.h1_0 a.x1) then (some (.inr (.inl (QN.mk a.x7 true (QD.mk a.h1_0 a.h1_1 (Qm.extract (Int.toNat a.x8) (Int.toNat a.x11))))))) else (some (.inl (QC.mk a.x0 a.x1 (w64 (a.x7 + 1)) (w64 (a.x11 + 1)) (0 : Int) (w64 (a.x11 + 1)) a.h0 a.h1_0 a.h1_1 (Qm.extract (Int.toNat a.x8) (Int.toNat a.x11))))))) else (some (.inl (QC.mk a.x0 a.x1 a.x7 (w64 (a.x11 + 1)) (w64 (a.x10 + 1)) (w64 (a.x11 + 1)) a.h0 a.h1_0 a.h1_1 (Qm.extract (Int.toNat a.x8) (Int.toNat a.x11)))))) else none))) else none)) else (bif (decide (0 ≤ a.x8 ∧ a.x8 ≤ a.x11 ∧ a.x11 ≤ ((Qm.size : Nat) : Int))) then (bif (decide (a.x10 = 0)) then (bif (((Qm.data.getD (Int.toNat a.x11) 0).toNat : Int) == 124) then (bif (a.x7 == a.x0) then (some (.inr (.inl (QN.mk a.x7 true (QD.mk (Qm.extract (Int.toNat a.x8) (Int.toNat a.x11)) a.h1_1 a.h1_2))))) else (bif (eqS (Qm.extract (Int.toNat a.x8) (Int.toNat a.x11)) a.x1) then (some (.inr (.inl (QN.mk a.x7 true (QD.mk (Qm.extract (Int.toNat a.x8) (Int.toNat a.x11)) a.h1_1 a.h1_2))))) else (some (.inl (QC.mk a.x0 a.x1 (w64 (a.x7 + 1)) (w64 (a.x11 + 1)) (0 : Int) (w64 (a.x11 + 1)) a.h0 (Qm.extract (Int.toNat a.x8) (Int.toNat a.x11)) a.h1_1 a.h1_2))))) else (some (.inl (QC.mk a.x0 a.x1 a.x7 (w64 (a.x11 + 1)) (w64 (a.x10 + 1)) (w64 (a.x11 + 1)) a.h0 (Qm.extract (Int.toNat a.x8) (Int.toNat a.x11)) a.h1_1 a.h1_2)))) else (bif (decide (a.x10 = 1)) then (bif (((Qm.data.getD (Int.toNat a.x11) 0).toNat : Int) == 124) then (bif (a.x7 == a.x0) then (some (.inr (.inl (QN.mk a.x7 true (QD.mk a.h1_0 (Qm.extract (Int.toNat a.x8) (Int.toNat a.x11)) a.h1_2))))) else (bif (eqS a.h1_0 a.x1) then (some (.inr (.inl (QN.mk a.x7 true (QD.mk a.h1_0 (Qm.extract (Int.toNat a.x8) (Int.toNat a.x11)) a.h1_2))))) else (some (.inl (QC.mk a.x0 a.x1 (w64 (a.x7 + 1)) (w64 (a.x11 + 1)) (0 : Int) (w64 (a.x11 + 1)) a.h0 a.h1_0 (Qm.extract (Int.toNat a.x8) (Int.toNat a.x11)) a.h1_2))))) else (some (.inl (QC.mk a.x0 a.x1 a.x7 (w64 (a.x11 + 1)) (w64 (a.x10 + 1)) (w64 (a.x11 + 1)) a.h0 a.h1_0 (Qm.extract (Int.toNat a.x8) (Int.toNat a.x11)) a.h1_2)))) else (bif (decide (a.x10 = 2)) then (bif (((Qm.data.getD (Int.toNat a.x11) 0).toNat : Int) == 124) then (bif (a.x7 == a.x0) then (some (.inr (.inl (QN.mk a.x7 true (QD.mk a.h1_0 a.h1_1 (Qm.extract (Int.toNat a.x8) (Int.toNat a.x11))))))) else (bif (eqS a.h1_0 a.x1) then (some (.inr (.inl (QN.mk a.x7 true (QD.mk a.h1_0 a.h1_1 (Qm.extract (Int.toNat a.x8) (Int.toNat a.x11))))))) else (some (.inl (QC.mk a.x0 a.x1 (w64 (a.x7 + 1)) (w64 (a.x11 + 1)) (0 : Int) (w64 (a.x11 + 1)) a.h0 a.h1_0 a.h1_1 (Qm.extract (Int.toNat a.x8) (Int.toNat a.x11))))))) else (some (.inl (QC.mk a.x0 a.x1 a.x7 (w64 (a.x11 + 1)) (w64 (a.x10 + 1)) (w64 (a.x11 + 1)) a.h0 a.h1_0 a.h1_1 (Qm.extract (Int.toNat a.x8) (Int.toNat a.x11)))))) else none))) else none)) else none) else (some (.inr (.inr a.h0))))
noncomputable def UZ : QiX := loopW (GS )
theorem UZ.eq (a : QC) : UZ a = (GS a).bind (Sum.elim UZ some) := QK _ _
noncomputable def QoV (a : QC) : Pn True (lw 0 58) (Sum.elim (fun a => (Ex.norm,QbZ a)) QgI) := (pA (decide (a.x11 < 1212)) (let u8 := (in1 a.x11 (zz Qm)); pA u8 (let u7 := ((gb Qm a.x11) != 58); pA u7 (pY u7 (fun g => g.2) (pY u8 (fun g => g.1.2) (pYN 2 u7 (fun g => g.2) (pA ((gb Qm a.x11) != 124) (pR (.inl (QC.mk a.x0 a.x1 a.x7 a.x8 a.x10 (w64 (a.x11 + 1)) a.h0 a.h1_0 a.h1_1 a.h1_2))) (pA (in2 a.x8 a.x11 (zz Qm)) (pB (decide (a.x10 = ((0 : Nat) : Int))) (decide (a.x10 = 0)) rfl (pY u8 (fun g => g.1.1.1.1.2) (pA ((gb Qm a.x11) == 124) (let u1 := (a.x7 == a.x0); pA u1 (pYN 4 u1 (fun g => g.2) (pU true rfl (pU (decide (i0 = ((0 : Nat) : Int))) rfl (pV (decide ((zi 1) = ((0 : Nat) : Int))) rfl (pU (decide ((zi 1) = ((1 : Nat) : Int))) rfl (pV (decide ((zi 2) = ((0 : Nat) : Int))) rfl (pV (decide ((zi 2) = ((1 : Nat) : Int))) rfl (pU (decide ((zi 2) = ((2 : Nat) : Int))) rfl (pR (.inr (.inl (QN.mk a.x7 true (QD.mk (cu Qm a.x8 a.x11) a.h1_1 a.h1_2))))))))))))) (pU (decide (i0 = ((0 : Nat) : Int))) rfl (pNN 4 u1 (fun g => g.2) (pA (eqS (cu Qm a.x8 a.x11) a.x1) (pU (decide (i0 = ((0 : Nat) : Int))) rfl (pV (decide ((zi 1) = ((0 : Nat) : Int))) rfl (pU (decide ((zi 1) = ((1 : Nat) : Int))) rfl (pV (decide ((zi 2) = ((0 : Nat) : Int))) rfl (pV (decide ((zi 2) = ((1 : Nat) : Int))) rfl (pU (decide ((zi 2) = ((2 : Nat) : Int))) rfl (pR (.inr (.inl (QN.mk a.x7 true (QD.mk (cu Qm a.x8 a.x11) a.h1_1 a.h1_2))))))))))) (pR (.inl (QC.mk a.x0 a.x1 (w64 (a.x7 + 1)) (w64 (a.x11 + 1)) i0 (w64 (a.x11 + 1)) a.h0 (cu Qm a.x8 a.x11) a.h1_1 a.h1_2))))))) (pR (.inl (QC.mk a.x0 a.x1 a.x7 (w64 (a.x11 + 1)) (w64 (a.x10 + 1)) (w64 (a.x11 + 1)) a.h0 (cu Qm a.x8 a.x11) a.h1_1 a.h1_2))))) (pB (decide (a.x10 = ((1 : Nat) : Int))) (decide (a.x10 = 1)) rfl (pY u8 (fun g => g.1.1.1.1.1.2) (pA ((gb Qm a.x11) == 124) (let u2 := (a.x7 == a.x0); pA u2 (pYN 4 u2 (fun g => g.2) (pU true rfl (pU (decide (i0 = ((0 : Nat) : Int))) rfl (pV (decide ((zi 1) = ((0 : Nat) : Int))) rfl (pU (decide ((zi 1) = ((1 : Nat) : Int))) rfl (pV (decide ((zi 2) = ((0 : Nat) : Int))) rfl (pV (decide ((zi 2) = ((1 : Nat) : Int))) rfl (pU (decide ((zi 2) = ((2 : Nat) : Int))) rfl (pR (.inr (.inl (QN.mk a.x7 true (QD.mk a.h1_0 (cu Qm a.x8 a.x11) a.h1_2))))))))))))) (pU (decide (i0 = ((0 : Nat) : Int))) rfl (pNN 4 u2 (fun g => g.2) (pA (eqS a.h1_0 a.x1) (pU (decide (i0 = ((0 : Nat) : Int))) rfl (pV (decide ((zi 1) = ((0 : Nat) : Int))) rfl (pU (decide ((zi 1) = ((1 : Nat) : Int))) rfl (pV (decide ((zi 2) = ((0 : Nat) : Int))) rfl (pV (decide ((zi 2) = ((1 : Nat) : Int))) rfl (pU (decide ((zi 2) = ((2 : Nat) : Int))) rfl (pR (.inr (.inl (QN.mk a.x7 true (QD.mk a.h1_0 (cu Qm a.x8 a.x11) a.h1_2))))))))))) (pR (.inl (QC.mk a.x0 a.x1 (w64 (a.x7 + 1)) (w64 (a.x11 + 1)) i0 (w64 (a.x11 + 1)) a.h0 a.h1_0 (cu Qm a.x8 a.x11) a.h1_2))))))) (pR (.inl (QC.mk a.x0 a.x1 a.x7 (w64 (a.x11 + 1)) (w64 (a.x10 + 1)) (w64 (a.x11 + 1)) a.h0 a.h1_0 (cu Qm a.x8 a.x11) a.h1_2))))) (pB (decide (a.x10 = ((2 : Nat) : Int))) (decide (a.x10 = 2)) rfl (pY u8 (fun g => g.1.1.1.1.1.1.2) (pA ((gb Qm a.x11) == 124) (let u3 := (a.x7 == a.x0); pA u3 (pYN 4 u3 (fun g => g.2) (pU true rfl (pU (decide (i0 = ((0 : Nat) : Int))) rfl (pV (decide ((zi 1) = ((0 : Nat) : Int))) rfl (pU (decide ((zi 1) = ((1 : Nat) : Int))) rfl (pV (decide ((zi 2) = ((0 : Nat) : Int))) rfl (pV (decide ((zi 2) = ((1 : Nat) : Int))) rfl (pU (decide ((zi 2) = ((2 : Nat) : Int))) rfl (pR (.inr (.inl (QN.mk a.x7 true (QD.mk a.h1_0 a.h1_1 (cu Qm a.x8 a.x11)))))))))))))) (pU (decide (i0 = ((0 : Nat) : Int))) rfl (pNN 4 u3 (fun g => g.2) (pA (eqS a.h1_0 a.x1) (pU (decide (i0 = ((0 : Nat) : Int))) rfl (pV (decide ((zi 1) = ((0 : Nat) : Int))) rfl (pU (decide ((zi 1) = ((1 : Nat) : Int))) rfl (pV (decide ((zi 2) = ((0 : Nat) : Int))) rfl (pV (decide ((zi 2) = ((1 : Nat) : Int))) rfl (pU (decide ((zi 2) = ((2 : Nat) : Int))) rfl (pR (.inr (.inl (QN.mk a.x7 true (QD.mk a.h1_0 a.h1_1 (cu Qm a.x8 a.x11)))))))))))) (pR (.inl (QC.mk a.x0 a.x1 (w64 (a.x7 + 1)) (w64 (a.x11 + 1)) i0 (w64 (a.x11 + 1)) a.h0 a.h1_0 a.h1_1 (cu Qm a.x8 a.x11)))))))) (pR (.inl (QC.mk a.x0 a.x1 a.x7 (w64 (a.x11 + 1)) (w64 (a.x10 + 1)) (w64 (a.x11 + 1)) a.h0 a.h1_0 a.h1_1 (cu Qm a.x8 a.x11)))))) pF))) pF))))) (pNN 3 u7 (fun g => g.2) (pV false rfl (pA (in2 a.x8 a.x11 (zz Qm)) (pB (decide (a.x10 = ((0 : Nat) : Int))) (decide (a.x10 = 0)) rfl (pY u8 (fun g => g.1.1.1.2) (pA ((gb Qm a.x11) == 124) (let u4 := (a.x7 == a.x0); pA u4 (pYN 4 u4 (fun g => g.2) (pU true rfl (pU (decide (i0 = ((0 : Nat) : Int))) rfl (pV (decide ((zi 1) = ((0 : Nat) : Int))) rfl (pU (decide ((zi 1) = ((1 : Nat) : Int))) rfl (pV (decide ((zi 2) = ((0 : Nat) : Int))) rfl (pV (decide ((zi 2) = ((1 : Nat) : Int))) rfl (pU (decide ((zi 2) = ((2 : Nat) : Int))) rfl (pR (.inr (.inl (QN.mk a.x7 true (QD.mk (cu Qm a.x8 a.x11) a.h1_1 a.h1_2))))))))))))) (pU (decide (i0 = ((0 : Nat) : Int))) rfl (pNN 4 u4 (fun g => g.2) (pA (eqS (cu Qm a.x8 a.x11) a.x1) (pU (decide (i0 = ((0 : Nat) : Int))) rfl (pV (decide ((zi 1) = ((0 : Nat) : Int))) rfl (pU (decide ((zi 1) = ((1 : Nat) : Int))) rfl (pV (decide ((zi 2) = ((0 : Nat) : Int))) rfl (pV (decide ((zi 2) = ((1 : Nat) : Int))) rfl (pU (decide ((zi 2) = ((2 : Nat) : Int))) rfl (pR (.inr (.inl (QN.mk a.x7 true (QD.mk (cu Qm a.x8 a.x11) a.h1_1 a.h1_2))))))))))) (pR (.inl (QC.mk a.x0 a.x1 (w64 (a.x7 + 1)) (w64 (a.x11 + 1)) i0 (w64 (a.x11 + 1)) a.h0 (cu Qm a.x8 a.x11) a.h1_1 a.h1_2))))))) (pR (.inl (QC.mk a.x0 a.x1 a.x7 (w64 (a.x11 + 1)) (w64 (a.x10 + 1)) (w64 (a.x11 + 1)) a.h0 (cu Qm a.x8 a.x11) a.h1_1 a.h1_2))))) (pB (decide (a.x10 = ((1 : Nat) : Int))) (decide (a.x10 = 1)) rfl (pY u8 (fun g => g.1.1.1.1.2) (pA ((gb Qm a.x11) == 124) (let u5 := (a.x7 == a.x0); pA u5 (pYN 4 u5 (fun g => g.2) (pU true rfl (pU (decide (i0 = ((0 : Nat) : Int))) rfl (pV (decide ((zi 1) = ((0 : Nat) : Int))) rfl (pU (decide ((zi 1) = ((1 : Nat) : Int))) rfl (pV (decide ((zi 2) = ((0 : Nat) : Int))) rfl (pV (decide ((zi 2) = ((1 : Nat) : Int))) rfl (pU (decide ((zi 2) = ((2 : Nat) : Int))) rfl (pR (.inr (.inl (QN.mk a.x7 true (QD.mk a.h1_0 (cu Qm a.x8 a.x11) a.h1_2))))))))))))) (pU (decide (i0 = ((0 : Nat) : Int))) rfl (pNN 4 u5 (fun g => g.2) (pA (eqS a.h1_0 a.x1) (pU (decide (i0 = ((0 : Nat) : Int))) rfl (pV (decide ((zi 1) = ((0 : Nat) : Int))) rfl (pU (decide ((zi 1) = ((1 : Nat) : Int))) rfl (pV (decide ((zi 2) = ((0 : Nat) : Int))) rfl (pV (decide ((zi 2) = ((1 : Nat) : Int))) rfl (pU (decide ((zi 2) = ((2 : Nat) : Int))) rfl (pR (.inr (.inl (QN.mk a.x7 true (QD.mk a.h1_0 (cu Qm a.x8 a.x11) a.h1_2))))))))))) (pR (.inl (QC.mk a.x0 a.x1 (w64 (a.x7 + 1)) (w64 (a.x11 + 1)) i0 (w64 (a.x11 + 1)) a.h0 a.h1_0 (cu Qm a.x8 a.x11) a.h1_2))))))) (pR (.inl (QC.mk a.x0 a.x1 a.x7 (w64 (a.x11 + 1)) (w64 (a.x10 + 1)) (w64 (a.x11 + 1)) a.h0 a.h1_0 (cu Qm a.x8 a.x11) a.h1_2))))) (pB (decide (a.x10 = ((2 : Nat) : Int))) (decide (a.x10 = 2)) rfl (pY u8 (fun g => g.1.1.1.1.1.2) (pA ((gb Qm a.x11) == 124) (let u6 := (a.x7 == a.x0); pA u6 (pYN 4 u6 (fun g => g.2) (pU true rfl (pU (decide (i0 = ((0 : Nat) : Int))) rfl (pV (decide ((zi 1) = ((0 : Nat) : Int))) rfl (pU (decide ((zi 1) = ((1 : Nat) : Int))) rfl (pV (decide ((zi 2) = ((0 : Nat) : Int))) rfl (pV (decide ((zi 2) = ((1 : Nat) : Int))) rfl (pU (decide ((zi 2) = ((2 : Nat) : Int))) rfl (pR (.inr (.inl (QN.mk a.x7 true (QD.mk a.h1_0 a.h1_1 (cu Qm a.x8 a.x11)))))))))))))) (pU (decide (i0 = ((0 : Nat) : Int))) rfl (pNN 4 u6 (fun g => g.2) (pA (eqS a.h1_0 a.x1) (pU (decide (i0 = ((0 : Nat) : Int))) rfl (pV (decide ((zi 1) = ((0 : Nat) : Int))) rfl (pU (decide ((zi 1) = ((1 : Nat) : Int))) rfl (pV (decide ((zi 2) = ((0 : Nat) : Int))) rfl (pV (decide ((zi 2) = ((1 : Nat) : Int))) rfl (pU (decide ((zi 2) = ((2 : Nat) : Int))) rfl (pR (.inr (.inl (QN.mk a.x7 true (QD.mk a.h1_0 a.h1_1 (cu Qm a.x8 a.x11)))))))))))) (pR (.inl (QC.mk a.x0 a.x1 (w64 (a.x7 + 1)) (w64 (a.x11 + 1)) i0 (w64 (a.x11 + 1)) a.h0 a.h1_0 a.h1_1 (cu Qm a.x8 a.x11)))))))) (pR (.inl (QC.mk a.x0 a.x1 a.x7 (w64 (a.x11 + 1)) (w64 (a.x10 + 1)) (w64 (a.x11 + 1)) a.h0 a.h1_0 a.h1_1 (cu Qm a.x8 a.x11)))))) pF))) pF)))) pF) (pR (.inr (.inr a.h0))))
theorem UZ.ok {a : QC} {r : (QN ⊕ QD)} (h : UZ a = some r) : lw 0 58 (loopAt pp 58 5) (QbZ a) = some (QgI r) := lpQ QoV h
noncomputable abbrev QoW {Γ : Prop} {ρ R : Type} {en : ρ → R} (a : QC) (k0 : QN → Pn Γ (lw 0 58) en) (k1 : QD → Pn Γ (lw 0 58) en) : Pn Γ (lw 0 58) en := p2 (loopAt pp 58 5) (QbZ a) (UZ a) QfI QfJ (fun _ => UZ.ok) k0 k1
def QgJ (L0 : QiX) (a0 : Int) (a1 : ByteArray) : Option (QD × Int × Bool) := ((L0 (QC.mk a0 a1 (0 : Int) (0 : Int) (0 : Int) (0 : Int) (QD.mk s_ s_ s_) s_ s_ s_)).bind fun x => Sum.elim (fun (o1 : QN) => (some (o1.h0,o1.x5,o1.x6))) (fun (o2 : QD) => (some ((QD.mk s_ s_ s_),(0 : Int),false))) x)
noncomputable def Wb : Fm := QgJ UZ
theorem Wb.eq (a0 : Int) (a1 : ByteArray) : Wb a0 a1 = QgJ UZ a0 a1 := rfl
noncomputable def Qt2 (a0 : Int) (a1 : ByteArray) : Pn True (lw 0 58) QgH := (QoW (QC.mk a0 a1 i0 i0 i0 i0 (QD.mk s_ s_ s_) s_ s_ s_) (fun o1 => (pR (o1.h0,o1.x5,o1.x6))) (fun o2 => (pR ((QD.mk s_ s_ s_),i0,false))))
theorem Wb.ok {a0 : Int} {a1 : ByteArray} {r : (QD × Int × Bool)} (h : Wb a0 a1 = some r) : ww 58 [xi a0,xs a1] [] = some (QgH r) := fnQ (Qt2 a0 a1) h
noncomputable abbrev SZ {Γ : Prop} {lp : Loops} {ρ R : Type} {en : ρ → R} (a0 : Int) (a1 : ByteArray) (k : (QD × Int × Bool) → Pn Γ lp en) : Pn Γ lp en := pC (ww 58 [xi a0,xs a1] []) (Wb a0 a1) QgH (fun _ => Wb.ok) k
def QQ (r : ByteArray) : AV × Heap := (xs r,[])
abbrev QcX := Int → Option ByteArray
def Qbl (C0 : Fm) (a0 : Int) : Option ByteArray := ((C0 a0 h_20).bind fun r1 => (some r1.1.Kinds))
noncomputable def WU : QcX := Qbl Wb
theorem WU.eq (a0 : Int) : WU a0 = Qbl Wb a0 := rfl
noncomputable def Qsy (a0 : Int) : Pn True (lw 0 37) QQ := (SZ a0 h_20 fun r1 => (pR r1.1.Kinds))
theorem WU.ok {a0 : Int} {r : ByteArray} (h : WU a0 = some r) : ww 37 [xi a0] [] = some (QQ r) := fnQ (Qsy a0) h
noncomputable abbrev QeY {Γ : Prop} {lp : Loops} {ρ R : Type} {en : ρ → R} (a0 : Int) (k : ByteArray → Pn Γ lp en) : Pn Γ lp en := pC (ww 37 [xi a0] []) (WU a0) QQ (fun _ => WU.ok) k
def UI (r : (List ByteArray)) : AV × Heap := (.sl (Qr r),[])
abbrev FJ := ByteArray → Option (List ByteArray)
structure Jt where
 x0 : ByteArray
 x4 : Int
 x5 : Int
 r0 : (List ByteArray)
def Qaw (a : Jt) : St := { n := 35,nx := 1,env := [(0,xs a.x0),(3,.arr 0),(4,xi a.x4),(5,xi a.x5)],heap := [(0,.arr true 1 (Qr a.r0))] }
def Qax (a : (List ByteArray)) : Ex × St := (.exit 0,{ n := 35,nx := 1,env := [(3,.arr 0)],heap := [(0,.arr true 1 (Qr a))] })
abbrev GT := Jt → Option (List ByteArray)
def Qay (a : Jt) : Option (Jt ⊕ (List ByteArray)) := (bif (decide (a.x5 ≤ ((a.x0.size : Nat) : Int))) then (bif (a.x5 == ((a.x0.size : Nat) : Int)) then (bif (decide (a.x5 > a.x4)) then (bif (decide (0 ≤ a.x4 ∧ a.x4 ≤ a.x5 ∧ a.x5 ≤ ((a.x0.size : Nat) : Int))) then (bif (decide ((a.r0.length + [(a.x0.extract (Int.toNat a.x4) (Int.toNat a.x5))].length) * 16 ≤ most)) then (some (.inl (Jt.mk a.x0 (w64 (a.x5 + 1)) (w64 (a.x5 + 1)) (a.r0 ++ [(a.x0.extract (Int.toNat a.x4) (Int.toNat a.x5))])))) else none) else none) else (some (.inl (Jt.mk a.x0 (w64 (a.x5 + 1)) (w64 (a.x5 + 1)) a.r0)))) else (bif (decide (0 ≤ a.x5 ∧ a.x5 < ((a.x0.size : Nat) : Int))) then (bif (((a.x0.data.getD (Int.toNat a.x5) 0).toNat : Int) == 32) then (bif (decide (a.x5 > a.x4)) then (bif (decide (0 ≤ a.x4 ∧ a.x4 ≤ a.x5 ∧ a.x5 ≤ ((a.x0.size : Nat) : Int))) then (bif (decide ((a.r0.length + [(a.x0.extract (Int.toNat a.x4) (Int.toNat a.x5))].length) * 16 ≤ most)) then (some (.inl (Jt.mk a.x0 (w64 (a.x5 + 1)) (w64 (a.x5 + 1)) (a.r0 ++ [(a.x0.extract (Int.toNat a.x4) (Int.toNat a.x5))])))) else none) else none) else (some (.inl (Jt.mk a.x0 (w64 (a.x5 + 1)) (w64 (a.x5 + 1)) a.r0)))) else (some (.inl (Jt.mk a.x0 a.x4 (w64 (a.x5 + 1)) a.r0)))) else none)) else (some (.inr a.r0)))
noncomputable def XI.s (k : Nat) : GT := iter (Qay ) k
theorem XI.cv (a : Jt) : Cv (fun k => XI.s k a) (loopW (Qay ) a) := Cv.iter (fun a => by exact .const _) a
noncomputable def XI : GT := loopW (Qay )
noncomputable def QnC (a : Jt) : Pn True (lw 0 36) (Sum.elim (fun a => (Ex.norm,Qaw a)) Qax) := (pA (decide (a.x5 ≤ (zz a.x0))) (let u9 := (a.x5 == (zz a.x0)); pA u9 (pYN 4 u9 (fun g => g.2) (pU true rfl (pA (decide (a.x5 > a.x4)) (pA (in2 a.x4 a.x5 (zz a.x0)) (pZ [[xs (cu a.x0 a.x4 a.x5)]] (Qr [(cu a.x0 a.x4 a.x5)]) (Js [(cu a.x0 a.x4 a.x5)]) (pQ Qv 16 a.r0 [(cu a.x0 a.x4 a.x5)] (pR (.inl (Jt.mk a.x0 (w64 (a.x5 + 1)) (w64 (a.x5 + 1)) (a.r0 ++ [(cu a.x0 a.x4 a.x5)])))))) pF) (pR (.inl (Jt.mk a.x0 (w64 (a.x5 + 1)) (w64 (a.x5 + 1)) a.r0)))))) (pNN 2 u9 (fun g => g.2) (pA (in1 a.x5 (zz a.x0)) (pNN 2 u9 (fun g => g.1.2) (pA ((gb a.x0 a.x5) == 32) (pA (decide (a.x5 > a.x4)) (pA (in2 a.x4 a.x5 (zz a.x0)) (pZ [[xs (cu a.x0 a.x4 a.x5)]] (Qr [(cu a.x0 a.x4 a.x5)]) (Js [(cu a.x0 a.x4 a.x5)]) (pQ Qv 16 a.r0 [(cu a.x0 a.x4 a.x5)] (pR (.inl (Jt.mk a.x0 (w64 (a.x5 + 1)) (w64 (a.x5 + 1)) (a.r0 ++ [(cu a.x0 a.x4 a.x5)])))))) pF) (pR (.inl (Jt.mk a.x0 (w64 (a.x5 + 1)) (w64 (a.x5 + 1)) a.r0)))) (pR (.inl (Jt.mk a.x0 a.x4 (w64 (a.x5 + 1)) a.r0))))) pF))) (pR (.inr a.r0)))
theorem XI.ok {a : Jt} {r : (List ByteArray)} (h : XI a = some r) : lw 0 36 (loopAt pp 36 4) (Qaw a) = some (Qax r) := lpQ QnC h
noncomputable abbrev QnD {Γ : Prop} {ρ R : Type} {en : ρ → R} (a : Jt) (k0 : (List ByteArray) → Pn Γ (lw 0 36) en) : Pn Γ (lw 0 36) en := p1 (loopAt pp 36 4) (Qaw a) (XI a) Qax (fun _ => XI.ok) k0
def Pl (L0 : GT) (a0 : ByteArray) : Option (List ByteArray) := ((L0 (Jt.mk a0 (0 : Int) (0 : Int) ([] : List ByteArray))).bind (fun (o1 : (List ByteArray)) => (some o1)))
theorem Qsz {L0 : Nat → GT} {M0 : GT} (N0 : Cv1 L0 M0) (a0 : ByteArray) : Cv (fun k => Pl (L0 k) a0) (Pl M0 a0) := by
 unfold Pl
 exact .bind (N0 _) (fun o1 => by exact .const _)
noncomputable def JZ : FJ := Pl XI
noncomputable def QsA (a0 : ByteArray) : Pn True (lw 0 36) UI := (QnD (Jt.mk a0 i0 i0 ([] : List ByteArray)) (fun o1 => (pR o1)))
theorem JZ.ok {a0 : ByteArray} {r : (List ByteArray)} (h : JZ a0 = some r) : ww 36 [xs a0] [] = some (UI r) := fnQ (QsA a0) h
noncomputable abbrev Pm {Γ : Prop} {lp : Loops} {ρ R : Type} {en : ρ → R} (a0 : ByteArray) (k : (List ByteArray) → Pn Γ lp en) : Pn Γ lp en := pC (ww 36 [xs a0] []) (JZ a0) UI (fun _ => JZ.ok) k
noncomputable def JZ.s : Nat → ByteArray → Option (List ByteArray)
 | 0,_ => none
 | k + 1,a0 => Pl (XI.s k) a0
theorem JZ.cv (a0 : ByteArray) : Cv (fun k => JZ.s k a0) (JZ a0) := .un rfl (Qsz XI.cv a0)
abbrev QiY := ByteArray → Int → Option Int
def Po (C0 : QeX) (a0 : ByteArray) (a1 : Int) : Option Int := ((C0 a1 (9 : Int)).bind fun r1 => (bif (eqS a0 s_X) then (bif (decide (0 ≤ r1 ∧ r1 < (([(0 : Int),(1 : Int),(7 : Int),(24 : Int),(31 : Int),(5 : Int),(28 : Int),(3 : Int),(30 : Int)].length : Nat) : Int))) then (([(0 : Int),(1 : Int),(7 : Int),(24 : Int),(31 : Int),(5 : Int),(28 : Int),(3 : Int),(30 : Int)][(Int.toNat r1)]?).bind fun e2 => (some e2)) else none) else (bif (eqS a0 s_Y) then (bif (decide (0 ≤ r1 ∧ r1 < (([(0 : Int),(1 : Int),(7 : Int),(24 : Int),(31 : Int),(5 : Int),(28 : Int),(3 : Int),(30 : Int)].length : Nat) : Int))) then (([(0 : Int),(1 : Int),(7 : Int),(24 : Int),(31 : Int),(5 : Int),(28 : Int),(3 : Int),(30 : Int)][(Int.toNat r1)]?).bind fun e3 => (some e3)) else none) else (bif (eqS a0 s_D) then (bif (decide (0 ≤ r1 ∧ r1 < (([(0 : Int),(31 : Int),(1 : Int),(15 : Int),(16 : Int),(7 : Int),(30 : Int),(12 : Int),(3 : Int)].length : Nat) : Int))) then (([(0 : Int),(31 : Int),(1 : Int),(15 : Int),(16 : Int),(7 : Int),(30 : Int),(12 : Int),(3 : Int)][(Int.toNat r1)]?).bind fun e4 => (some e4)) else none) else (bif (eqS a0 s_A) then (bif (decide (0 ≤ r1 ∧ r1 < (([(0 : Int),(31 : Int),(1 : Int),(15 : Int),(16 : Int),(7 : Int),(30 : Int),(12 : Int),(3 : Int)].length : Nat) : Int))) then (([(0 : Int),(31 : Int),(1 : Int),(15 : Int),(16 : Int),(7 : Int),(30 : Int),(12 : Int),(3 : Int)][(Int.toNat r1)]?).bind fun e5 => (some e5)) else none) else (bif (eqS a0 s_B) then (bif (decide (0 ≤ r1 ∧ r1 < (([(0 : Int),(31 : Int),(1 : Int),(15 : Int),(16 : Int),(7 : Int),(30 : Int),(12 : Int),(3 : Int)].length : Nat) : Int))) then (([(0 : Int),(31 : Int),(1 : Int),(15 : Int),(16 : Int),(7 : Int),(30 : Int),(12 : Int),(3 : Int)][(Int.toNat r1)]?).bind fun e6 => (some e6)) else none) else (bif (eqS a0 s_U5) then (bif (decide (0 ≤ r1 ∧ r1 < (([(0 : Int),(31 : Int),(1 : Int),(15 : Int),(16 : Int),(7 : Int),(30 : Int),(12 : Int),(3 : Int)].length : Nat) : Int))) then (([(0 : Int),(31 : Int),(1 : Int),(15 : Int),(16 : Int),(7 : Int),(30 : Int),(12 : Int),(3 : Int)][(Int.toNat r1)]?).bind fun e7 => (some e7)) else none) else (bif (eqS a0 s_U7) then (bif (decide (0 ≤ r1 ∧ r1 < (([(0 : Int),(127 : Int),(64 : Int),(1 : Int),(63 : Int),(100 : Int),(7 : Int),(15 : Int),(16 : Int)].length : Nat) : Int))) then (([(0 : Int),(127 : Int),(64 : Int),(1 : Int),(63 : Int),(100 : Int),(7 : Int),(15 : Int),(16 : Int)][(Int.toNat r1)]?).bind fun e8 => (some e8)) else none) else (bif (eqS a0 s_O5) then (bif (decide (0 ≤ r1 ∧ r1 < (([(1 : Int),(32 : Int),(2 : Int),(16 : Int),(31 : Int),(17 : Int),(8 : Int),(5 : Int),(30 : Int)].length : Nat) : Int))) then (([(1 : Int),(32 : Int),(2 : Int),(16 : Int),(31 : Int),(17 : Int),(8 : Int),(5 : Int),(30 : Int)][(Int.toNat r1)]?).bind fun e9 => (some e9)) else none) else (bif (eqS a0 s_M1) then (bif (decide (0 ≤ r1 ∧ r1 < (([(0 : Int),(15 : Int),(1 : Int),(7 : Int),(8 : Int),(4 : Int),(12 : Int),(3 : Int),(14 : Int)].length : Nat) : Int))) then (([(0 : Int),(15 : Int),(1 : Int),(7 : Int),(8 : Int),(4 : Int),(12 : Int),(3 : Int),(14 : Int)][(Int.toNat r1)]?).bind fun e10 => (some e10)) else none) else (bif (eqS a0 s_I4) then (bif (decide (0 ≤ r1 ∧ r1 < (([(0 : Int),(15 : Int),(1 : Int),(7 : Int),(8 : Int),(4 : Int),(12 : Int),(3 : Int),(14 : Int)].length : Nat) : Int))) then (([(0 : Int),(15 : Int),(1 : Int),(7 : Int),(8 : Int),(4 : Int),(12 : Int),(3 : Int),(14 : Int)][(Int.toNat r1)]?).bind fun e11 => (some e11)) else none) else (bif (eqS a0 s_M2) then (bif (decide (0 ≤ r1 ∧ r1 < (([(0 : Int),(15 : Int),(1 : Int),(7 : Int),(8 : Int),(4 : Int),(12 : Int),(3 : Int),(14 : Int)].length : Nat) : Int))) then (([(0 : Int),(15 : Int),(1 : Int),(7 : Int),(8 : Int),(4 : Int),(12 : Int),(3 : Int),(14 : Int)][(Int.toNat r1)]?).bind fun e12 => (some (w64 ((2 : Int) * e12)))) else none) else (bif (eqS a0 s_M4) then (bif (decide (0 ≤ r1 ∧ r1 < (([(0 : Int),(15 : Int),(1 : Int),(7 : Int),(8 : Int),(4 : Int),(12 : Int),(3 : Int),(14 : Int)].length : Nat) : Int))) then (([(0 : Int),(15 : Int),(1 : Int),(7 : Int),(8 : Int),(4 : Int),(12 : Int),(3 : Int),(14 : Int)][(Int.toNat r1)]?).bind fun e13 => (some (w64 ((4 : Int) * e13)))) else none) else (bif (eqS a0 s_O1) then ((C0 a1 (2 : Int)).bind fun r14 => (some r14)) else (bif (eqS a0 s_I2) then ((C0 a1 (4 : Int)).bind fun r15 => (some r15)) else (bif (eqS a0 s_O2) then ((C0 a1 (4 : Int)).bind fun r16 => (some r16)) else (bif (eqS a0 s_T8) then ((C0 a1 (256 : Int)).bind fun r17 => (some (w64 ((2 : Int) * (w64 (r17 - 128)))))) else (bif (eqS a0 WK) then (bif (decide (0 ≤ r1 ∧ r1 < (([(0 : Int),(32767 : Int),(-32768 : Int),(-1 : Int),(1 : Int),(255 : Int),(-256 : Int),(4660 : Int),(-4660 : Int)].length : Nat) : Int))) then (([(0 : Int),(32767 : Int),(-32768 : Int),(-1 : Int),(1 : Int),(255 : Int),(-256 : Int),(4660 : Int),(-4660 : Int)][(Int.toNat r1)]?).bind fun e18 => (some e18)) else none) else (bif (eqS a0 WJ) then ((C0 a1 (1048576 : Int)).bind fun r19 => (some (w64 (r19 - 524288)))) else (bif (eqS a0 WL) then ((C0 a1 (32768 : Int)).bind fun r20 => (some (w64 ((2 : Int) * (w64 (r20 - 16384)))))) else (bif (eqS a0 Uo) then ((C0 a1 (16777216 : Int)).bind fun r21 => (some (w64 ((2 : Int) * (w64 (r21 - 8388608)))))) else (bif (decide (0 ≤ r1 ∧ r1 < (([(0 : Int),(255 : Int),(256 : Int),(65280 : Int),(-1 : Int),(-2 : Int),(16711680 : Int),(-256 : Int),(2130706432 : Int)].length : Nat) : Int))) then (([(0 : Int),(255 : Int),(256 : Int),(65280 : Int),(-1 : Int),(-2 : Int),(16711680 : Int),(-256 : Int),(2130706432 : Int)][(Int.toNat r1)]?).bind fun e22 => (some e22)) else none))))))))))))))))))))))
noncomputable def WM : QiY := Po V6
theorem WM.eq (a0 : ByteArray) (a1 : Int) : WM a0 a1 = Po V6 a0 a1 := rfl
noncomputable def QoX (a0 : ByteArray) (a1 : Int) : Pn True (lw 0 85) Qq := (Yb a1 (zi 9) fun r1 => (let u15 := (eqS a0 s_X); pA u15 (pY u15 (fun g => g.2) (pZ [[xi i0],[xi (zi 1)],[xi (zi 7)],[xi (zi 24)],[xi (zi 31)],[xi (zi 5)],[xi (zi 28)],[xi (zi 3)],[xi (zi 30)]] (QS [i0,(zi 1),(zi 7),(zi 24),(zi 31),(zi 5),(zi 28),(zi 3),(zi 30)]) (Jw [i0,(zi 1),(zi 7),(zi 24),(zi 31),(zi 5),(zi 28),(zi 3),(zi 30)]) (pG Jh [i0,(zi 1),(zi 7),(zi 24),(zi 31),(zi 5),(zi 28),(zi 3),(zi 30)] r1 (pI Jh [i0,(zi 1),(zi 7),(zi 24),(zi 31),(zi 5),(zi 28),(zi 3),(zi 30)] r1 fun e2 => (pR e2)) pF))) (pA (eqS a0 s_Y) (pZ [[xi i0],[xi (zi 1)],[xi (zi 7)],[xi (zi 24)],[xi (zi 31)],[xi (zi 5)],[xi (zi 28)],[xi (zi 3)],[xi (zi 30)]] (QS [i0,(zi 1),(zi 7),(zi 24),(zi 31),(zi 5),(zi 28),(zi 3),(zi 30)]) (Jw [i0,(zi 1),(zi 7),(zi 24),(zi 31),(zi 5),(zi 28),(zi 3),(zi 30)]) (pG Jh [i0,(zi 1),(zi 7),(zi 24),(zi 31),(zi 5),(zi 28),(zi 3),(zi 30)] r1 (pI Jh [i0,(zi 1),(zi 7),(zi 24),(zi 31),(zi 5),(zi 28),(zi 3),(zi 30)] r1 fun e3 => (pR e3)) pF)) (let u14 := (eqS a0 s_D); pA u14 (pY u14 (fun g => g.2) (pZ [[xi i0],[xi (zi 31)],[xi (zi 1)],[xi (zi 15)],[xi (zi 16)],[xi (zi 7)],[xi (zi 30)],[xi (zi 12)],[xi (zi 3)]] (QS [i0,(zi 31),(zi 1),(zi 15),(zi 16),(zi 7),(zi 30),(zi 12),(zi 3)]) (Jw [i0,(zi 31),(zi 1),(zi 15),(zi 16),(zi 7),(zi 30),(zi 12),(zi 3)]) (pG Jh [i0,(zi 31),(zi 1),(zi 15),(zi 16),(zi 7),(zi 30),(zi 12),(zi 3)] r1 (pI Jh [i0,(zi 31),(zi 1),(zi 15),(zi 16),(zi 7),(zi 30),(zi 12),(zi 3)] r1 fun e4 => (pR e4)) pF))) (let u13 := (eqS a0 s_A); pA u13 (pY u13 (fun g => g.2) (pZ [[xi i0],[xi (zi 31)],[xi (zi 1)],[xi (zi 15)],[xi (zi 16)],[xi (zi 7)],[xi (zi 30)],[xi (zi 12)],[xi (zi 3)]] (QS [i0,(zi 31),(zi 1),(zi 15),(zi 16),(zi 7),(zi 30),(zi 12),(zi 3)]) (Jw [i0,(zi 31),(zi 1),(zi 15),(zi 16),(zi 7),(zi 30),(zi 12),(zi 3)]) (pG Jh [i0,(zi 31),(zi 1),(zi 15),(zi 16),(zi 7),(zi 30),(zi 12),(zi 3)] r1 (pI Jh [i0,(zi 31),(zi 1),(zi 15),(zi 16),(zi 7),(zi 30),(zi 12),(zi 3)] r1 fun e5 => (pR e5)) pF))) (let u12 := (eqS a0 s_B); pA u12 (pY u12 (fun g => g.2) (pZ [[xi i0],[xi (zi 31)],[xi (zi 1)],[xi (zi 15)],[xi (zi 16)],[xi (zi 7)],[xi (zi 30)],[xi (zi 12)],[xi (zi 3)]] (QS [i0,(zi 31),(zi 1),(zi 15),(zi 16),(zi 7),(zi 30),(zi 12),(zi 3)]) (Jw [i0,(zi 31),(zi 1),(zi 15),(zi 16),(zi 7),(zi 30),(zi 12),(zi 3)]) (pG Jh [i0,(zi 31),(zi 1),(zi 15),(zi 16),(zi 7),(zi 30),(zi 12),(zi 3)] r1 (pI Jh [i0,(zi 31),(zi 1),(zi 15),(zi 16),(zi 7),(zi 30),(zi 12),(zi 3)] r1 fun e6 => (pR e6)) pF))) (pA (eqS a0 s_U5) (pZ [[xi i0],[xi (zi 31)],[xi (zi 1)],[xi (zi 15)],[xi (zi 16)],[xi (zi 7)],[xi (zi 30)],[xi (zi 12)],[xi (zi 3)]] (QS [i0,(zi 31),(zi 1),(zi 15),(zi 16),(zi 7),(zi 30),(zi 12),(zi 3)]) (Jw [i0,(zi 31),(zi 1),(zi 15),(zi 16),(zi 7),(zi 30),(zi 12),(zi 3)]) (pG Jh [i0,(zi 31),(zi 1),(zi 15),(zi 16),(zi 7),(zi 30),(zi 12),(zi 3)] r1 (pI Jh [i0,(zi 31),(zi 1),(zi 15),(zi 16),(zi 7),(zi 30),(zi 12),(zi 3)] r1 fun e7 => (pR e7)) pF)) (pA (eqS a0 s_U7) (pZ [[xi i0],[xi (zi 127)],[xi (zi 64)],[xi (zi 1)],[xi (zi 63)],[xi (zi 100)],[xi (zi 7)],[xi (zi 15)],[xi (zi 16)]] (QS [i0,(zi 127),(zi 64),(zi 1),(zi 63),(zi 100),(zi 7),(zi 15),(zi 16)]) (Jw [i0,(zi 127),(zi 64),(zi 1),(zi 63),(zi 100),(zi 7),(zi 15),(zi 16)]) (pG Jh [i0,(zi 127),(zi 64),(zi 1),(zi 63),(zi 100),(zi 7),(zi 15),(zi 16)] r1 (pI Jh [i0,(zi 127),(zi 64),(zi 1),(zi 63),(zi 100),(zi 7),(zi 15),(zi 16)] r1 fun e8 => (pR e8)) pF)) (pA (eqS a0 s_O5) (pZ [[xi (zi 1)],[xi (zi 32)],[xi (zi 2)],[xi (zi 16)],[xi (zi 31)],[xi (zi 17)],[xi (zi 8)],[xi (zi 5)],[xi (zi 30)]] (QS [(zi 1),(zi 32),(zi 2),(zi 16),(zi 31),(zi 17),(zi 8),(zi 5),(zi 30)]) (Jw [(zi 1),(zi 32),(zi 2),(zi 16),(zi 31),(zi 17),(zi 8),(zi 5),(zi 30)]) (pG Jh [(zi 1),(zi 32),(zi 2),(zi 16),(zi 31),(zi 17),(zi 8),(zi 5),(zi 30)] r1 (pI Jh [(zi 1),(zi 32),(zi 2),(zi 16),(zi 31),(zi 17),(zi 8),(zi 5),(zi 30)] r1 fun e9 => (pR e9)) pF)) (let u11 := (eqS a0 s_M1); pA u11 (pY u11 (fun g => g.2) (pZ [[xi i0],[xi (zi 15)],[xi (zi 1)],[xi (zi 7)],[xi (zi 8)],[xi (zi 4)],[xi (zi 12)],[xi (zi 3)],[xi (zi 14)]] (QS [i0,(zi 15),(zi 1),(zi 7),(zi 8),(zi 4),(zi 12),(zi 3),(zi 14)]) (Jw [i0,(zi 15),(zi 1),(zi 7),(zi 8),(zi 4),(zi 12),(zi 3),(zi 14)]) (pG Jh [i0,(zi 15),(zi 1),(zi 7),(zi 8),(zi 4),(zi 12),(zi 3),(zi 14)] r1 (pI Jh [i0,(zi 15),(zi 1),(zi 7),(zi 8),(zi 4),(zi 12),(zi 3),(zi 14)] r1 fun e10 => (pR e10)) pF))) (pA (eqS a0 s_I4) (pZ [[xi i0],[xi (zi 15)],[xi (zi 1)],[xi (zi 7)],[xi (zi 8)],[xi (zi 4)],[xi (zi 12)],[xi (zi 3)],[xi (zi 14)]] (QS [i0,(zi 15),(zi 1),(zi 7),(zi 8),(zi 4),(zi 12),(zi 3),(zi 14)]) (Jw [i0,(zi 15),(zi 1),(zi 7),(zi 8),(zi 4),(zi 12),(zi 3),(zi 14)]) (pG Jh [i0,(zi 15),(zi 1),(zi 7),(zi 8),(zi 4),(zi 12),(zi 3),(zi 14)] r1 (pI Jh [i0,(zi 15),(zi 1),(zi 7),(zi 8),(zi 4),(zi 12),(zi 3),(zi 14)] r1 fun e11 => (pR e11)) pF)) (pA (eqS a0 s_M2) (pZ [[xi i0],[xi (zi 15)],[xi (zi 1)],[xi (zi 7)],[xi (zi 8)],[xi (zi 4)],[xi (zi 12)],[xi (zi 3)],[xi (zi 14)]] (QS [i0,(zi 15),(zi 1),(zi 7),(zi 8),(zi 4),(zi 12),(zi 3),(zi 14)]) (Jw [i0,(zi 15),(zi 1),(zi 7),(zi 8),(zi 4),(zi 12),(zi 3),(zi 14)]) (pG Jh [i0,(zi 15),(zi 1),(zi 7),(zi 8),(zi 4),(zi 12),(zi 3),(zi 14)] r1 (pI Jh [i0,(zi 15),(zi 1),(zi 7),(zi 8),(zi 4),(zi 12),(zi 3),(zi 14)] r1 fun e12 => (pR (w64 ((zi 2) * e12)))) pF)) (pA (eqS a0 s_M4) (pZ [[xi i0],[xi (zi 15)],[xi (zi 1)],[xi (zi 7)],[xi (zi 8)],[xi (zi 4)],[xi (zi 12)],[xi (zi 3)],[xi (zi 14)]] (QS [i0,(zi 15),(zi 1),(zi 7),(zi 8),(zi 4),(zi 12),(zi 3),(zi 14)]) (Jw [i0,(zi 15),(zi 1),(zi 7),(zi 8),(zi 4),(zi 12),(zi 3),(zi 14)]) (pG Jh [i0,(zi 15),(zi 1),(zi 7),(zi 8),(zi 4),(zi 12),(zi 3),(zi 14)] r1 (pI Jh [i0,(zi 15),(zi 1),(zi 7),(zi 8),(zi 4),(zi 12),(zi 3),(zi 14)] r1 fun e13 => (pR (w64 ((zi 4) * e13)))) pF)) (pA (eqS a0 s_O1) (Yb a1 (zi 2) fun r14 => (pR r14)) (let u10 := (eqS a0 s_I2); pA u10 (pY u10 (fun g => g.2) (Yb a1 (zi 4) fun r15 => (pR r15))) (pA (eqS a0 s_O2) (Yb a1 (zi 4) fun r16 => (pR r16)) (pA (eqS a0 s_T8) (Yb a1 (zi 256) fun r17 => (pR (w64 ((zi 2) * (w64 (r17 - 128)))))) (pA (eqS a0 WK) (pZ [[xi i0],[xi (zi 32767)],[xi (-32768 : Int)],[xi (-1 : Int)],[xi (zi 1)],[xi (zi 255)],[xi (-256 : Int)],[xi (zi 4660)],[xi (-4660 : Int)]] (QS [i0,(zi 32767),(-32768 : Int),(-1 : Int),(zi 1),(zi 255),(-256 : Int),(zi 4660),(-4660 : Int)]) (Jw [i0,(zi 32767),(-32768 : Int),(-1 : Int),(zi 1),(zi 255),(-256 : Int),(zi 4660),(-4660 : Int)]) (pG Jh [i0,(zi 32767),(-32768 : Int),(-1 : Int),(zi 1),(zi 255),(-256 : Int),(zi 4660),(-4660 : Int)] r1 (pI Jh [i0,(zi 32767),(-32768 : Int),(-1 : Int),(zi 1),(zi 255),(-256 : Int),(zi 4660),(-4660 : Int)] r1 fun e18 => (pR e18)) pF)) (pA (eqS a0 WJ) (Yb a1 (zi 1048576) fun r19 => (pR (w64 (r19 - 524288)))) (pA (eqS a0 WL) (Yb a1 (zi 32768) fun r20 => (pR (w64 ((zi 2) * (w64 (r20 - 16384)))))) (pA (eqS a0 Uo) (Yb a1 (zi 16777216) fun r21 => (pR (w64 ((zi 2) * (w64 (r21 - 8388608)))))) (pZ [[xi i0],[xi (zi 255)],[xi (zi 256)],[xi (zi 65280)],[xi (-1 : Int)],[xi (-2 : Int)],[xi (zi 16711680)],[xi (-256 : Int)],[xi (zi 2130706432)]] (QS [i0,(zi 255),(zi 256),(zi 65280),(-1 : Int),(-2 : Int),(zi 16711680),(-256 : Int),(zi 2130706432)]) (Jw [i0,(zi 255),(zi 256),(zi 65280),(-1 : Int),(-2 : Int),(zi 16711680),(-256 : Int),(zi 2130706432)]) (pG Jh [i0,(zi 255),(zi 256),(zi 65280),(-1 : Int),(-2 : Int),(zi 16711680),(-256 : Int),(zi 2130706432)] r1 (pI Jh [i0,(zi 255),(zi 256),(zi 65280),(-1 : Int),(-2 : Int),(zi 16711680),(-256 : Int),(zi 2130706432)] r1 fun e22 => (pR e22)) pF)))))))))))))))))))))))
theorem WM.ok {a0 : ByteArray} {a1 : Int} {r : Int} (h : WM a0 a1 = some r) : ww 85 [xs a0,xi a1] [] = some (Qq r) := fnQ (QoX a0 a1) h
noncomputable abbrev QgK {Γ : Prop} {lp : Loops} {ρ R : Type} {en : ρ → R} (a0 : ByteArray) (a1 : Int) (k : Int → Pn Γ lp en) : Pn Γ lp en := pC (ww 85 [xs a0,xi a1] []) (WM a0 a1) Qq (fun _ => WM.ok) k
def QgL (r : (Int × (List Int))) : AV × Heap := (.agg [xi r.1,.arr 0],[(0,.arr false 1 (QS r.2))])
abbrev QoY := Int → (List Int) → Option (Int × (List Int))
structure UE where
 x1 : (List Int)
 x6 : (List ByteArray)
 x7 : Int
 h0 : Qi
 h1 : Qi
structure Xs where
 h0 : Qi
 h1 : Qi
def Qb0 (a : UE) : St := { n := 43,nx := 4,env := [(1,.sl (QS a.x1)),(4,.ptr 0 0),(5,.ptr 1 0),(6,.sl (Qr a.x6)),(7,xi a.x7)],heap := [(0,.box [0,101] [xi a.h0.Op,.arr 2]),(1,.box [0,101] [xi a.h1.Op,.arr 3]),(2,.arr false 1 (QS a.h0.F)),(3,.arr false 1 (QS a.h1.F))] }
def Qb1 (a : Xs) : Ex × St := (.exit 0,{ n := 43,nx := 4,env := [(4,.ptr 0 0),(5,.ptr 1 0)],heap := [(0,.box [0,101] [xi a.h0.Op,.arr 2]),(1,.box [0,101] [xi a.h1.Op,.arr 3]),(2,.arr false 1 (QS a.h0.F)),(3,.arr false 1 (QS a.h1.F))] })
abbrev QiZ := UE → Option Xs
def Pp (C0 : QiY) (a : UE) : Option (UE ⊕ Xs) := (bif (decide (a.x7 < (((a.x6.length) : Nat) : Int))) then (bif (decide (a.x7 < (((a.x1.length) : Nat) : Int))) then (bif (decide (0 ≤ a.x7)) then ((a.x1[(Int.toNat a.x7)]?).bind fun e1 => ((a.x6[(Int.toNat a.x7)]?).bind fun e2 => ((C0 e2 e1).bind fun r3 => (bif (decide ((a.h1.F.length + [r3].length) * 8 ≤ most)) then (some (.inl (UE.mk a.x1 a.x6 (w64 (a.x7 + 1)) a.h0 (Qi.mk a.h1.Op (a.h1.F ++ [r3]))))) else none)))) else none) else (bif (decide (0 ≤ a.x7)) then ((a.x6[(Int.toNat a.x7)]?).bind fun e4 => ((C0 e4 a.x7).bind fun r5 => (bif (decide ((a.h1.F.length + [r5].length) * 8 ≤ most)) then (some (.inl (UE.mk a.x1 a.x6 (w64 (a.x7 + 1)) a.h0 (Qi.mk a.h1.Op (a.h1.F ++ [r5]))))) else none))) else none)) else (some (.inr (Xs.mk a.h0 a.h1))))
noncomputable def WN : QiZ := loopW (Pp WM)
theorem WN.eq (a : UE) : WN a = (Pp WM a).bind (Sum.elim WN some) := QK _ _
noncomputable def QoZ (a : UE) : Pn True (lw 0 35) (Sum.elim (fun a => (Ex.norm,Qb0 a)) Qb1) := (pH Qv a.x6 (pA (decide (a.x7 < (((a.x6.length) : Nat) : Int))) (pH Jh a.x1 (pA (decide (a.x7 < (((a.x1.length) : Nat) : Int))) (let u16 := (decide (0 ≤ a.x7)); pA u16 (pI Jh a.x1 a.x7 fun e1 => (pY u16 (fun g => g.2) (pI Qv a.x6 a.x7 fun e2 => (QgK e2 e1 fun r3 => (pZ [[xi r3]] (QS [r3]) (Jw [r3]) (pQ Jh 8 a.h1.F [r3] (pR (.inl (UE.mk a.x1 a.x6 (w64 (a.x7 + 1)) a.h0 (Qi.mk a.h1.Op (a.h1.F ++ [r3]))))))))))) pF) (pA (decide (0 ≤ a.x7)) (pI Qv a.x6 a.x7 fun e4 => (QgK e4 a.x7 fun r5 => (pZ [[xi r5]] (QS [r5]) (Jw [r5]) (pQ Jh 8 a.h1.F [r5] (pR (.inl (UE.mk a.x1 a.x6 (w64 (a.x7 + 1)) a.h0 (Qi.mk a.h1.Op (a.h1.F ++ [r5]))))))))) pF))) (pR (.inr (Xs.mk a.h0 a.h1)))))
theorem WN.ok {a : UE} {r : Xs} (h : WN a = some r) : lw 0 35 (loopAt pp 35 4) (Qb0 a) = some (Qb1 r) := lpQ QoZ h
noncomputable abbrev Qo0 {Γ : Prop} {ρ R : Type} {en : ρ → R} (a : UE) (k0 : Xs → Pn Γ (lw 0 35) en) : Pn Γ (lw 0 35) en := p1 (loopAt pp 35 4) (Qb0 a) (WN a) Qb1 (fun _ => WN.ok) k0
def QgM (C0 : QeX) (C1 : QcX) (C2 : FJ) (L3 : QiZ) (a0 : Int) (a1 : (List Int)) : Option (Int × (List Int)) := ((C0 a0 (66 : Int)).bind fun r1 => ((C1 r1).bind fun r2 => ((C2 r2).bind fun r3 => ((L3 (UE.mk a1 r3 (0 : Int) (Qi.mk (0 : Int) ([] : List Int)) (Qi.mk r1 ([] : List Int)))).bind (fun (o4 : Xs) => (some (o4.h1.Op,o4.h1.F)))))))
noncomputable def Gm : QoY := QgM V6 WU JZ WN
theorem Gm.eq (a0 : Int) (a1 : (List Int)) : Gm a0 a1 = QgM V6 WU JZ WN a0 a1 := rfl
noncomputable def Qt3 (a0 : Int) (a1 : (List Int)) : Pn True (lw 0 35) QgL := (Yb a0 (zi 66) fun r1 => (QeY r1 fun r2 => (Pm r2 fun r3 => (Qo0 (UE.mk a1 r3 i0 (Qi.mk i0 ([] : List Int)) (Qi.mk r1 ([] : List Int))) (fun o4 => (pR (o4.h1.Op,o4.h1.F)))))))
theorem Gm.ok {a0 : Int} {a1 : (List Int)} {r : (Int × (List Int))} (h : Gm a0 a1 = some r) : ww 35 [xi a0,.sl (QS a1)] [] = some (QgL r) := fnQ (Qt3 a0 a1) h
noncomputable abbrev Qt4 {Γ : Prop} {lp : Loops} {ρ R : Type} {en : ρ → R} (a0 : Int) (a1 : (List Int)) (k : (Int × (List Int)) → Pn Γ lp en) : Pn Γ lp en := pC (ww 35 [xi a0,.sl (QS a1)] []) (Gm a0 a1) QgL (fun _ => Gm.ok) k
abbrev Qkt := Int → Int → Int → Option Bool
def Qeg (a0 : Int) (a1 : Int) (a2 : Int) : Option Bool := (bif (decide (a0 ≥ 0)) then (bif (decide (a0 < (w64 (a1 * a2)))) then (bif (decide (a2 ≠ 0)) then (some ((Int.tmod a0 a2) == 0)) else none) else (some false)) else (some false))
noncomputable def V1 : Qkt := Qeg
theorem V1.eq (a0 : Int) (a1 : Int) (a2 : Int) : V1 a0 a1 a2 = Qeg a0 a1 a2 := rfl
noncomputable def Qxp (a0 : Int) (a1 : Int) (a2 : Int) : Pn True (lw 0 184) QF := (let u18 := (decide (a0 ≥ 0)); pA u18 (pYN 5 u18 (fun g => g.2) (let u17 := (decide (a0 < (w64 (a1 * a2)))); pA u17 (pYN 2 u17 (fun g => g.2) (pA (decide (a2 ≠ 0)) (pYN 2 u17 (fun g => g.1.2) (pR ((Int.tmod a0 a2) == 0))) pF)) (pNN 4 u17 (fun g => g.2) (pR false)))) (pNN 5 u18 (fun g => g.2) (pNN 5 false (fun _ => rfl) (pR false))))
theorem V1.ok {a0 : Int} {a1 : Int} {a2 : Int} {r : Bool} (h : V1 a0 a1 a2 = some r) : ww 184 [xi a0,xi a1,xi a2] [] = some (QF r) := fnQ (Qxp a0 a1 a2) h
noncomputable abbrev YE {Γ : Prop} {lp : Loops} {ρ R : Type} {en : ρ → R} (a0 : Int) (a1 : Int) (a2 : Int) (k : Bool → Pn Γ lp en) : Pn Γ lp en := pC (ww 184 [xi a0,xi a1,xi a2] []) (V1 a0 a1 a2) QF (fun _ => V1.ok) k
noncomputable def V1.s : Nat → Int → Int → Int → Option Bool
 | 0,_,_,_ => none
 | k + 1,a0,a1,a2 => Qeg a0 a1 a2
theorem V1.cv (a0 : Int) (a1 : Int) (a2 : Int) : Cv (fun k => V1.s k a0 a1 a2) (V1 a0 a1 a2) := .un rfl (by exact .const _)
abbrev Zw := Int → Int → Option Bool
def QcY (a0 : Int) (a1 : Int) : Option Bool := (bif (decide (0 ≤ (IntKind.u64.wrap (w64 (a1 - 1))))) then (bif (decide (a0 ≥ (w64 ((0 : Int) - (shlI .i64 (1 : Int) (IntKind.u64.wrap (w64 (a1 - 1)))))))) then (some (decide (a0 < (shlI .i64 (1 : Int) (IntKind.u64.wrap (w64 (a1 - 1))))))) else (some false)) else none)
noncomputable def JF : Zw := QcY
theorem JF.eq (a0 : Int) (a1 : Int) : JF a0 a1 = QcY a0 a1 := rfl
noncomputable def Qt5 (a0 : Int) (a1 : Int) : Pn True (lw 0 221) QF := (pA (decide (0 ≤ (IntKind.u64.wrap (w64 (a1 - 1))))) (let u19 := (decide (a0 ≥ (w64 (i0 - (shlI .i64 (zi 1) (IntKind.u64.wrap (w64 (a1 - 1)))))))); pA u19 (pYN 3 u19 (fun g => g.2) (pR (decide (a0 < (shlI .i64 (zi 1) (IntKind.u64.wrap (w64 (a1 - 1)))))))) (pNN 3 u19 (fun g => g.2) (pR false))) pF)
theorem JF.ok {a0 : Int} {a1 : Int} {r : Bool} (h : JF a0 a1 = some r) : ww 221 [xi a0,xi a1] [] = some (QF r) := fnQ (Qt5 a0 a1) h
noncomputable abbrev QcZ {Γ : Prop} {lp : Loops} {ρ R : Type} {en : ρ → R} (a0 : Int) (a1 : Int) (k : Bool → Pn Γ lp en) : Pn Γ lp en := pC (ww 221 [xi a0,xi a1] []) (JF a0 a1) QF (fun _ => JF.ok) k
noncomputable def JF.s : Nat → Int → Int → Option Bool
 | 0,_,_ => none
 | k + 1,a0,a1 => QcY a0 a1
theorem JF.cv (a0 : Int) (a1 : Int) : Cv (fun k => JF.s k a0 a1) (JF a0 a1) := .un rfl (by exact .const _)
abbrev QeZ := Int → Int → Option Bool
def Z4 (C0 : Zw) (a0 : Int) (a1 : Int) : Option Bool := (bif ((Int.tmod a0 (2 : Int)) == 0) then ((C0 a0 a1).bind fun r1 => (some r1)) else (some false))
theorem Qt6 {C0 : Nat → Zw} {D0 : Zw} (H0 : Cv2 C0 D0) (a0 : Int) (a1 : Int) : Cv (fun k => Z4 (C0 k) a0 a1) (Z4 D0 a0 a1) := by
 unfold Z4
 exact .cond (.bind (H0 _ _) fun r1 => by exact .const _) cst
noncomputable def UL : QeZ := Z4 JF
theorem UL.eq (a0 : Int) (a1 : Int) : UL a0 a1 = Z4 JF a0 a1 := rfl
noncomputable def Qt7 (a0 : Int) (a1 : Int) : Pn True (lw 0 220) QF := (pU (decide ((zi 2) ≠ 0)) rfl (let u20 := ((Int.tmod a0 (zi 2)) == 0); pA u20 (pYN 2 u20 (fun g => g.2) (QcZ a0 a1 fun r1 => (pY u20 (fun g => g.2) (pR r1)))) (pNN 3 u20 (fun g => g.2) (pR false))))
theorem UL.ok {a0 : Int} {a1 : Int} {r : Bool} (h : UL a0 a1 = some r) : ww 220 [xi a0,xi a1] [] = some (QF r) := fnQ (Qt7 a0 a1) h
noncomputable abbrev QgN {Γ : Prop} {lp : Loops} {ρ R : Type} {en : ρ → R} (a0 : Int) (a1 : Int) (k : Bool → Pn Γ lp en) : Pn Γ lp en := pC (ww 220 [xi a0,xi a1] []) (UL a0 a1) QF (fun _ => UL.ok) k
noncomputable def UL.s : Nat → Int → Int → Option Bool
 | 0,_,_ => none
 | k + 1,a0,a1 => Z4 (JF.s k) a0 a1
theorem UL.cv (a0 : Int) (a1 : Int) : Cv (fun k => UL.s k a0 a1) (UL a0 a1) := .un rfl (Qt6 JF.cv a0 a1)
abbrev Qe0 := Int → Int → Option Int
def S6 (a0 : Int) (a1 : Int) : Option Int := (bif (decide (0 ≤ (IntKind.u64.wrap a1))) then (bif (decide ((andI .i64 a0 (w64 ((shlI .i64 (1 : Int) (IntKind.u64.wrap a1)) - 1))) ≥ (w64 (Int.tdiv (shlI .i64 (1 : Int) (IntKind.u64.wrap a1)) (2 : Int))))) then (some (w64 ((andI .i64 a0 (w64 ((shlI .i64 (1 : Int) (IntKind.u64.wrap a1)) - 1))) - (shlI .i64 (1 : Int) (IntKind.u64.wrap a1))))) else (some (andI .i64 a0 (w64 ((shlI .i64 (1 : Int) (IntKind.u64.wrap a1)) - 1))))) else none)
noncomputable def Jm : Qe0 := S6
theorem Jm.eq (a0 : Int) (a1 : Int) : Jm a0 a1 = S6 a0 a1 := rfl
noncomputable def Qt8 (a0 : Int) (a1 : Int) : Pn True (lw 0 247) Qq := (pA (decide (0 ≤ (IntKind.u64.wrap a1))) (pU (decide ((zi 2) ≠ 0)) rfl (pA (decide ((andI .i64 a0 (w64 ((shlI .i64 (zi 1) (IntKind.u64.wrap a1)) - 1))) ≥ (w64 (Int.tdiv (shlI .i64 (zi 1) (IntKind.u64.wrap a1)) (zi 2))))) (pR (w64 ((andI .i64 a0 (w64 ((shlI .i64 (zi 1) (IntKind.u64.wrap a1)) - 1))) - (shlI .i64 (zi 1) (IntKind.u64.wrap a1))))) (pR (andI .i64 a0 (w64 ((shlI .i64 (zi 1) (IntKind.u64.wrap a1)) - 1)))))) pF)
theorem Jm.ok {a0 : Int} {a1 : Int} {r : Int} (h : Jm a0 a1 = some r) : ww 247 [xi a0,xi a1] [] = some (Qq r) := fnQ (Qt8 a0 a1) h
noncomputable abbrev Qt9 {Γ : Prop} {lp : Loops} {ρ R : Type} {en : ρ → R} (a0 : Int) (a1 : Int) (k : Int → Pn Γ lp en) : Pn Γ lp en := pC (ww 247 [xi a0,xi a1] []) (Jm a0 a1) Qq (fun _ => Jm.ok) k
noncomputable def Jm.s : Nat → Int → Int → Option Int
 | 0,_,_ => none
 | k + 1,a0,a1 => S6 a0 a1
theorem Jm.cv (a0 : Int) (a1 : Int) : Cv (fun k => Jm.s k a0 a1) (Jm a0 a1) := .un rfl (by exact .const _)
abbrev Qe1 := Int → Int → Int → Option Int
structure UF where
 x0 : Int
 x1 : Int
 x2 : Int
 x7 : Int
 x8 : Int
def Qb2 (a : UF) : St := { n := 26,nx := 0,env := [(0,xi a.x0),(1,xi a.x1),(2,xi a.x2),(7,xi a.x7),(8,xi a.x8)],heap := [] }
def Qb3 (a : Int) : Ex × St := (.exit 0,{ n := 26,nx := 0,env := [(7,xi a)],heap := [] })
abbrev EV := UF → Option Int
def ZT (a : UF) : Option (UF ⊕ Int) := (bif (decide (a.x8 ≥ 0)) then (bif (a.x8 == a.x1) then (some (.inl (UF.mk a.x0 a.x1 a.x2 (w64 ((w64 (a.x7 * (256 : Int))) + a.x2)) (w64 (a.x8 - 1))))) else (some (.inl (UF.mk a.x0 a.x1 a.x2 (w64 ((w64 (a.x7 * (256 : Int))) + (w64 ((255 : Int) * a.x0)))) (w64 (a.x8 - 1)))))) else (some (.inr a.x7)))
noncomputable def U0.s (k : Nat) : EV := iter (ZT ) k
theorem U0.cv (a : UF) : Cv (fun k => U0.s k a) (loopW (ZT ) a) := Cv.iter (fun a => by exact .const _) a
noncomputable def U0 : EV := loopW (ZT )
theorem U0.eq (a : UF) : U0 a = (ZT a).bind (Sum.elim U0 some) := QK _ _
noncomputable def Qo1 (a : UF) : Pn True (lw 0 222) (Sum.elim (fun a => (Ex.norm,Qb2 a)) Qb3) := (pA (decide (a.x8 ≥ 0)) (pA (a.x8 == a.x1) (pR (.inl (UF.mk a.x0 a.x1 a.x2 (w64 ((w64 (a.x7 * (zi 256))) + a.x2)) (w64 (a.x8 - 1))))) (pR (.inl (UF.mk a.x0 a.x1 a.x2 (w64 ((w64 (a.x7 * (zi 256))) + (w64 ((zi 255) * a.x0)))) (w64 (a.x8 - 1)))))) (pR (.inr a.x7)))
theorem U0.ok {a : UF} {r : Int} (h : U0 a = some r) : lw 0 222 (loopAt pp 222 3) (Qb2 a) = some (Qb3 r) := lpQ Qo1 h
noncomputable abbrev Qo2 {Γ : Prop} {ρ R : Type} {en : ρ → R} (a : UF) (k0 : Int → Pn Γ (lw 0 222) en) : Pn Γ (lw 0 222) en := p1 (loopAt pp 222 3) (Qb2 a) (U0 a) Qb3 (fun _ => U0.ok) k0
def GU (C0 : Qe0) (L1 : EV) (a0 : Int) (a1 : Int) (a2 : Int) : Option Int := ((L1 (UF.mk a0 a1 a2 (0 : Int) (3 : Int))).bind (fun (o1 : Int) => ((C0 o1 (32 : Int)).bind fun r2 => (some r2))))
theorem Qua {C0 : Nat → Qe0} {D0 : Qe0} (H0 : Cv2 C0 D0) {L1 : Nat → EV} {M1 : EV} (N1 : Cv1 L1 M1) (a0 : Int) (a1 : Int) (a2 : Int) : Cv (fun k => GU (C0 k) (L1 k) a0 a1 a2) (GU D0 M1 a0 a1 a2) := by
 unfold GU
 exact .bind (N1 _) (fun o1 => .bind (H0 _ _) fun r2 => by exact .const _)
noncomputable def Wt : Qe1 := GU Jm U0
theorem Wt.eq (a0 : Int) (a1 : Int) (a2 : Int) : Wt a0 a1 a2 = GU Jm U0 a0 a1 a2 := rfl
noncomputable def Qub (a0 : Int) (a1 : Int) (a2 : Int) : Pn True (lw 0 222) Qq := (Qo2 (UF.mk a0 a1 a2 i0 (zi 3)) (fun o1 => (Qt9 o1 (zi 32) fun r2 => (pR r2))))
theorem Wt.ok {a0 : Int} {a1 : Int} {a2 : Int} {r : Int} (h : Wt a0 a1 a2 = some r) : ww 222 [xi a0,xi a1,xi a2] [] = some (Qq r) := fnQ (Qub a0 a1 a2) h
noncomputable abbrev Quc {Γ : Prop} {lp : Loops} {ρ R : Type} {en : ρ → R} (a0 : Int) (a1 : Int) (a2 : Int) (k : Int → Pn Γ lp en) : Pn Γ lp en := pC (ww 222 [xi a0,xi a1,xi a2] []) (Wt a0 a1 a2) Qq (fun _ => Wt.ok) k
noncomputable def Wt.s : Nat → Int → Int → Int → Option Int
 | 0,_,_,_ => none
 | k + 1,a0,a1,a2 => GU (Jm.s k) (U0.s k) a0 a1 a2
theorem Wt.cv (a0 : Int) (a1 : Int) (a2 : Int) : Cv (fun k => Wt.s k a0 a1 a2) (Wt a0 a1 a2) := .un rfl (Qua Jm.cv U0.cv a0 a1 a2)
def FK (r : (Int × Int × Int × Bool)) : AV × Heap := (.tup [xi r.1,xi r.2.1,xi r.2.2.1,xo r.2.2.2],[])
abbrev Fo := Int → Option (Int × Int × Int × Bool)
structure Vl where
 x0 : Int
 x6 : Int
 x7 : Int
structure W4 where
 x2 : Int
 x3 : Int
 x4 : Int
 x5 : Bool
structure W5 where
 x0 : Int
 x6 : Int
def Qb4 (a : Vl) : St := { n := 35,nx := 0,env := [(0,xi a.x0),(6,xi a.x6),(7,xi a.x7)],heap := [] }
def QfK (a : W4) : Ex × St := (.ret,{ n := 35,nx := 0,env := [(2,xi a.x2),(3,xi a.x3),(4,xi a.x4),(5,xo a.x5)],heap := [] })
def QfL (a : W5) : Ex × St := (.exit 2,{ n := 35,nx := 0,env := [(0,xi a.x0),(6,xi a.x6)],heap := [] })
def QgO : (W4 ⊕ W5) → Ex × St := Sum.elim QfK QfL
abbrev EW := Vl → Option (W4 ⊕ W5)
def Yj (C0 : Qe1) (a : Vl) : Option (Vl ⊕ (W4 ⊕ W5)) := (bif (decide (a.x7 < 4)) then (bif (decide (0 ≤ (IntKind.u64.wrap (w64 ((8 : Int) * a.x7))))) then ((C0 a.x6 a.x7 (andI .i64 (shrI .i64 a.x0 (IntKind.u64.wrap (w64 ((8 : Int) * a.x7)))) (255 : Int))).bind fun r1 => (bif (r1 == a.x0) then (some (.inr (.inl (W4.mk a.x6 a.x7 (andI .i64 (shrI .i64 a.x0 (IntKind.u64.wrap (w64 ((8 : Int) * a.x7)))) (255 : Int)) true)))) else (some (.inl (Vl.mk a.x0 a.x6 (w64 (a.x7 + 1))))))) else none) else (some (.inr (.inr (W5.mk a.x0 a.x6)))))
theorem Qo3 {C0 : Nat → Qe1} {D0 : Qe1} (H0 : Cv3 C0 D0) (a : Vl) : Cv (fun k => Yj (C0 k) a) (Yj D0 a) := by
 unfold Yj
 exact .cond (.cond (.bind (H0 _ _ _) fun r1 => by exact .const _) cst) cst
noncomputable def Uj.s (k : Nat) : EW := iter (Yj (Wt.s k)) k
theorem Uj.cv (a : Vl) : Cv (fun k => Uj.s k a) (loopW (Yj Wt) a) := Cv.iter (fun a => Qo3 Wt.cv a) a
noncomputable def Uj : EW := loopW (Yj Wt)
theorem Uj.eq (a : Vl) : Uj a = (Yj Wt a).bind (Sum.elim Uj some) := QK _ _
noncomputable def Qo4 (a : Vl) : Pn True (lw 0 187) (Sum.elim (fun a => (Ex.norm,Qb4 a)) QgO) := (pA (decide (a.x7 < 4)) (pA (decide (0 ≤ (IntKind.u64.wrap (w64 ((zi 8) * a.x7))))) (Quc a.x6 a.x7 (andI .i64 (shrI .i64 a.x0 (IntKind.u64.wrap (w64 ((zi 8) * a.x7)))) (zi 255)) fun r1 => (pA (r1 == a.x0) (pR (.inr (.inl (W4.mk a.x6 a.x7 (andI .i64 (shrI .i64 a.x0 (IntKind.u64.wrap (w64 ((zi 8) * a.x7)))) (zi 255)) true)))) (pR (.inl (Vl.mk a.x0 a.x6 (w64 (a.x7 + 1))))))) pF) (pR (.inr (.inr (W5.mk a.x0 a.x6)))))
theorem Uj.ok {a : Vl} {r : (W4 ⊕ W5)} (h : Uj a = some r) : lw 0 187 (loopAt pp 187 7) (Qb4 a) = some (QgO r) := lpQ Qo4 h
noncomputable abbrev Qo5 {Γ : Prop} {ρ R : Type} {en : ρ → R} (a : Vl) (k0 : W4 → Pn Γ (lw 0 187) en) (k1 : W5 → Pn Γ (lw 0 187) en) : Pn Γ (lw 0 187) en := p2 (loopAt pp 187 7) (Qb4 a) (Uj a) QfK QfL (fun _ => Uj.ok) k0 k1
structure Vm where
 x0 : Int
 x6 : Int
structure Xt where
 x2 : Int
 x3 : Int
 x4 : Int
 x5 : Bool
def Qb5 (a : Vm) : St := { n := 35,nx := 0,env := [(0,xi a.x0),(6,xi a.x6)],heap := [] }
def QfM (a : Xt) : Ex × St := (.ret,{ n := 35,nx := 0,env := [(2,xi a.x2),(3,xi a.x3),(4,xi a.x4),(5,xo a.x5)],heap := [] })
def QfN (a : Unit) : Ex × St := (.exit 0,{ n := 35,nx := 0,env := [],heap := [] })
def QgP : (Xt ⊕ Unit) → Ex × St := Sum.elim QfM QfN
abbrev EX := Vm → Option (Xt ⊕ Unit)
def XO (L0 : EW) (a : Vm) : Option (Vm ⊕ (Xt ⊕ Unit)) := (bif (decide (a.x6 < 2)) then ((L0 (Vl.mk a.x0 a.x6 (0 : Int))).bind fun x => Sum.elim (fun (o1 : W4) => (some (.inr (.inl (Xt.mk o1.x2 o1.x3 o1.x4 o1.x5))))) (fun (o2 : W5) => (some (.inl (Vm.mk o2.x0 (w64 (o2.x6 + 1)))))) x) else (some (.inr (.inr ()))))
theorem Qo6 {L0 : Nat → EW} {M0 : EW} (N0 : Cv1 L0 M0) (a : Vm) : Cv (fun k => XO (L0 k) a) (XO M0 a) := by
 unfold XO
 exact .cond (.bind (N0 _) fun x => .sum (fun o1 => by exact .const _) (fun o2 => by exact .const _) x) cst
noncomputable def Vn.s (k : Nat) : EX := iter (XO (Uj.s k)) k
theorem Vn.cv (a : Vm) : Cv (fun k => Vn.s k a) (loopW (XO Uj) a) := Cv.iter (fun a => Qo6 Uj.cv a) a
noncomputable def Vn : EX := loopW (XO Uj)
theorem Vn.eq (a : Vm) : Vn a = (XO Uj a).bind (Sum.elim Vn some) := QK _ _
noncomputable def Qo7 (a : Vm) : Pn True (lw 0 187) (Sum.elim (fun a => (Ex.norm,Qb5 a)) QgP) := (pA (decide (a.x6 < 2)) (Qo5 (Vl.mk a.x0 a.x6 i0) (fun o1 => (pR (.inr (.inl (Xt.mk o1.x2 o1.x3 o1.x4 o1.x5))))) (fun o2 => (pR (.inl (Vm.mk o2.x0 (w64 (o2.x6 + 1))))))) (pR (.inr (.inr ()))))
theorem Vn.ok {a : Vm} {r : (Xt ⊕ Unit)} (h : Vn a = some r) : lw 0 187 (loopAt pp 187 4) (Qb5 a) = some (QgP r) := lpQ Qo7 h
noncomputable abbrev Qo8 {Γ : Prop} {ρ R : Type} {en : ρ → R} (a : Vm) (k0 : Xt → Pn Γ (lw 0 187) en) (k1 : Unit → Pn Γ (lw 0 187) en) : Pn Γ (lw 0 187) en := p2 (loopAt pp 187 4) (Qb5 a) (Vn a) QfM QfN (fun _ => Vn.ok) k0 k1
def GV (C0 : Zw) (L1 : EX) (a0 : Int) : Option (Int × Int × Int × Bool) := ((C0 a0 (32 : Int)).bind fun r1 => (bif (!r1) then (some ((0 : Int),(0 : Int),(0 : Int),false)) else ((L1 (Vm.mk a0 (0 : Int))).bind fun x => Sum.elim (fun (o2 : Xt) => (some (o2.x2,o2.x3,o2.x4,o2.x5))) (fun (o3 : Unit) => (some ((0 : Int),(0 : Int),(0 : Int),false))) x)))
theorem Qud {C0 : Nat → Zw} {D0 : Zw} (H0 : Cv2 C0 D0) {L1 : Nat → EX} {M1 : EX} (N1 : Cv1 L1 M1) (a0 : Int) : Cv (fun k => GV (C0 k) (L1 k) a0) (GV D0 M1 a0) := by
 unfold GV
 exact .bind (H0 _ _) fun r1 => .cond cst (.bind (N1 _) fun x => .sum (fun o2 => by exact .const _) (fun o3 => by exact .const _) x)
noncomputable def Vy : Fo := GV JF Vn
theorem Vy.eq (a0 : Int) : Vy a0 = GV JF Vn a0 := rfl
noncomputable def Que (a0 : Int) : Pn True (lw 0 187) FK := (QcZ a0 (zi 32) fun r1 => (pA (!r1) (pR (i0,i0,i0,false)) (Qo8 (Vm.mk a0 i0) (fun o2 => (pR (o2.x2,o2.x3,o2.x4,o2.x5))) (fun o3 => (pR (i0,i0,i0,false))))))
theorem Vy.ok {a0 : Int} {r : (Int × Int × Int × Bool)} (h : Vy a0 = some r) : ww 187 [xi a0] [] = some (FK r) := fnQ (Que a0) h
noncomputable abbrev QmS {Γ : Prop} {lp : Loops} {ρ R : Type} {en : ρ → R} (a0 : Int) (k : (Int × Int × Int × Bool) → Pn Γ lp en) : Pn Γ lp en := pC (ww 187 [xi a0] []) (Vy a0) FK (fun _ => Vy.ok) k
noncomputable def Vy.s : Nat → Int → Option (Int × Int × Int × Bool)
 | 0,_ => none
 | k + 1,a0 => GV (JF.s k) (Vn.s k) a0
theorem Vy.cv (a0 : Int) : Cv (fun k => Vy.s k a0) (Vy a0) := .un rfl (Qud JF.cv Vn.cv a0)
abbrev Qe2 := ByteArray → Int → Option Bool
def FL (C0 : QeZ) (C1 : Zw) (C2 : Fo) (a0 : ByteArray) (a1 : Int) : Option Bool := (bif (eqS a0 s_T8) then ((C0 a1 (9 : Int)).bind fun r1 => (some r1)) else (bif (eqS a0 WK) then ((C1 a1 (16 : Int)).bind fun r2 => (some r2)) else (bif (eqS a0 WJ) then ((C1 a1 (20 : Int)).bind fun r3 => (some r3)) else (bif (eqS a0 WL) then ((C0 a1 (16 : Int)).bind fun r4 => (some r4)) else (bif (eqS a0 Uo) then ((C0 a1 (25 : Int)).bind fun r5 => (some r5)) else ((C2 a1).bind fun r6 => (bif (eqS a0 s_C8) then (some r6.2.2.2) else (some false))))))))
theorem Quf {C0 : Nat → QeZ} {D0 : QeZ} (H0 : Cv2 C0 D0) {C1 : Nat → Zw} {D1 : Zw} (H1 : Cv2 C1 D1) {C2 : Nat → Fo} {D2 : Fo} (H2 : Cv1 C2 D2) (a0 : ByteArray) (a1 : Int) : Cv (fun k => FL (C0 k) (C1 k) (C2 k) a0 a1) (FL D0 D1 D2 a0 a1) := by
 unfold FL
 exact .cond (.bind (H0 _ _) fun r1 => by exact .const _) (.cond (.bind (H1 _ _) fun r2 => by exact .const _) (.cond (.bind (H1 _ _) fun r3 => by exact .const _) (.cond (.bind (H0 _ _) fun r4 => by exact .const _) (.cond (.bind (H0 _ _) fun r5 => by exact .const _) (.bind (H2 _) fun r6 => by exact .const _)))))
noncomputable def QY : Qe2 := FL UL JF Vy
theorem QY.eq (a0 : ByteArray) (a1 : Int) : QY a0 a1 = FL UL JF Vy a0 a1 := rfl
noncomputable def Qug (a0 : ByteArray) (a1 : Int) : Pn True (lw 0 185) QF := (pA (eqS a0 s_T8) (QgN a1 (zi 9) fun r1 => (pR r1)) (pA (eqS a0 WK) (QcZ a1 (zi 16) fun r2 => (pR r2)) (pA (eqS a0 WJ) (QcZ a1 (zi 20) fun r3 => (pR r3)) (pA (eqS a0 WL) (QgN a1 (zi 16) fun r4 => (pR r4)) (pA (eqS a0 Uo) (QgN a1 (zi 25) fun r5 => (pR r5)) (QmS a1 fun r6 => (let u21 := (eqS a0 s_C8); pA u21 (pY u21 (fun g => g.2) (pR r6.2.2.2)) (pN u21 (fun g => g.2) (pR false)))))))))
theorem QY.ok {a0 : ByteArray} {a1 : Int} {r : Bool} (h : QY a0 a1 = some r) : ww 185 [xs a0,xi a1] [] = some (QF r) := fnQ (Qug a0 a1) h
noncomputable abbrev Quh {Γ : Prop} {lp : Loops} {ρ R : Type} {en : ρ → R} (a0 : ByteArray) (a1 : Int) (k : Bool → Pn Γ lp en) : Pn Γ lp en := pC (ww 185 [xs a0,xi a1] []) (QY a0 a1) QF (fun _ => QY.ok) k
noncomputable def QY.s : Nat → ByteArray → Int → Option Bool
 | 0,_,_ => none
 | k + 1,a0,a1 => FL (UL.s k) (JF.s k) (Vy.s k) a0 a1
theorem QY.cv (a0 : ByteArray) (a1 : Int) : Cv (fun k => QY.s k a0 a1) (QY a0 a1) := .un rfl (Quf UL.cv JF.cv Vy.cv a0 a1)
abbrev QlO := ByteArray → Int → Option Bool
def Sc (C0 : Qkt) (C1 : Qe2) (a0 : ByteArray) (a1 : Int) : Option Bool := (bif (eqS a0 s_X) then (bif (decide (a1 ≥ 0)) then (bif (decide (a1 ≤ 7)) then (some true) else (bif (decide (a1 ≥ 24)) then (some (decide (a1 ≤ 31))) else (some false))) else (bif (decide (a1 ≥ 24)) then (some (decide (a1 ≤ 31))) else (some false))) else (bif (eqS a0 s_Y) then (bif (decide (a1 ≥ 0)) then (bif (decide (a1 ≤ 7)) then (some true) else (bif (decide (a1 ≥ 24)) then (some (decide (a1 ≤ 31))) else (some false))) else (bif (decide (a1 ≥ 24)) then (some (decide (a1 ≤ 31))) else (some false))) else (bif (eqS a0 s_U5) then ((C0 a1 (32 : Int) (1 : Int)).bind fun r1 => (some r1)) else (bif (eqS a0 s_D) then ((C0 a1 (32 : Int) (1 : Int)).bind fun r2 => (some r2)) else (bif (eqS a0 s_A) then ((C0 a1 (32 : Int) (1 : Int)).bind fun r3 => (some r3)) else (bif (eqS a0 s_B) then ((C0 a1 (32 : Int) (1 : Int)).bind fun r4 => (some r4)) else (bif (eqS a0 s_U7) then ((C0 a1 (128 : Int) (1 : Int)).bind fun r5 => (some r5)) else (bif (eqS a0 s_O5) then ((C0 (w64 (a1 - 1)) (32 : Int) (1 : Int)).bind fun r6 => (some r6)) else (bif (eqS a0 s_M1) then ((C0 a1 (16 : Int) (1 : Int)).bind fun r7 => (some r7)) else (bif (eqS a0 s_I4) then ((C0 a1 (16 : Int) (1 : Int)).bind fun r8 => (some r8)) else (bif (eqS a0 s_M2) then ((C0 a1 (16 : Int) (2 : Int)).bind fun r9 => (some r9)) else (bif (eqS a0 s_M4) then ((C0 a1 (16 : Int) (4 : Int)).bind fun r10 => (some r10)) else (bif (eqS a0 s_O1) then ((C0 a1 (2 : Int) (1 : Int)).bind fun r11 => (some r11)) else (bif (eqS a0 s_I2) then ((C0 a1 (4 : Int) (1 : Int)).bind fun r12 => (some r12)) else (bif (eqS a0 s_O2) then ((C0 a1 (4 : Int) (1 : Int)).bind fun r13 => (some r13)) else ((C1 a0 a1).bind fun r14 => (some r14)))))))))))))))))
theorem QvB {C0 : Nat → Qkt} {D0 : Qkt} (H0 : Cv3 C0 D0) {C1 : Nat → Qe2} {D1 : Qe2} (H1 : Cv2 C1 D1) (a0 : ByteArray) (a1 : Int) : Cv (fun k => Sc (C0 k) (C1 k) a0 a1) (Sc D0 D1 a0 a1) := by
 unfold Sc
 exact .cond cst (.cond cst (.cond (.bind (H0 _ _ _) fun r1 => by exact .const _) (.cond (.bind (H0 _ _ _) fun r2 => by exact .const _) (.cond (.bind (H0 _ _ _) fun r3 => by exact .const _) (.cond (.bind (H0 _ _ _) fun r4 => by exact .const _) (.cond (.bind (H0 _ _ _) fun r5 => by exact .const _) (.cond (.bind (H0 _ _ _) fun r6 => by exact .const _) (.cond (.bind (H0 _ _ _) fun r7 => by exact .const _) (.cond (.bind (H0 _ _ _) fun r8 => by exact .const _) (.cond (.bind (H0 _ _ _) fun r9 => by exact .const _) (.cond (.bind (H0 _ _ _) fun r10 => by exact .const _) (.cond (.bind (H0 _ _ _) fun r11 => by exact .const _) (.cond (.bind (H0 _ _ _) fun r12 => by exact .const _) (.cond (.bind (H0 _ _ _) fun r13 => by exact .const _) (.bind (H1 _ _) fun r14 => by exact .const _)))))))))))))))
noncomputable def QV : QlO := Sc V1 QY
theorem QV.eq (a0 : ByteArray) (a1 : Int) : QV a0 a1 = Sc V1 QY a0 a1 := rfl
noncomputable def QvC (a0 : ByteArray) (a1 : Int) : Pn True (lw 0 135) QF := (let u35 := (eqS a0 s_X); pA u35 (pY u35 (fun g => g.2) (let u25 := (decide (a1 ≥ 0)); pA u25 (pYN 2 u25 (fun g => g.2) (let u23 := (decide (a1 ≤ 7)); pA u23 (pYN 4 u23 (fun g => g.2) (pR true)) (pNN 2 u23 (fun g => g.2) (let u22 := (decide (a1 ≥ 24)); pA u22 (pY u22 (fun g => g.2) (pN u23 (fun g => g.1.2) (pY u22 (fun g => g.2) (pN u23 (fun g => g.1.2) (pR (decide (a1 ≤ 31))))))) (pN u22 (fun g => g.2) (pN u23 (fun g => g.1.2) (pN u22 (fun g => g.2) (pN u23 (fun g => g.1.2) (pR false))))))))) (pNN 2 u25 (fun g => g.2) (pNN 3 false (fun _ => rfl) (let u24 := (decide (a1 ≥ 24)); pA u24 (pY u24 (fun g => g.2) (pV false rfl (pY u24 (fun g => g.2) (pV false rfl (pR (decide (a1 ≤ 31))))))) (pN u24 (fun g => g.2) (pV false rfl (pN u24 (fun g => g.2) (pV false rfl (pR false)))))))))) (pA (eqS a0 s_Y) (let u29 := (decide (a1 ≥ 0)); pA u29 (pYN 2 u29 (fun g => g.2) (let u27 := (decide (a1 ≤ 7)); pA u27 (pYN 4 u27 (fun g => g.2) (pR true)) (pNN 2 u27 (fun g => g.2) (let u26 := (decide (a1 ≥ 24)); pA u26 (pY u26 (fun g => g.2) (pN u27 (fun g => g.1.2) (pY u26 (fun g => g.2) (pN u27 (fun g => g.1.2) (pR (decide (a1 ≤ 31))))))) (pN u26 (fun g => g.2) (pN u27 (fun g => g.1.2) (pN u26 (fun g => g.2) (pN u27 (fun g => g.1.2) (pR false))))))))) (pNN 2 u29 (fun g => g.2) (pNN 3 false (fun _ => rfl) (let u28 := (decide (a1 ≥ 24)); pA u28 (pY u28 (fun g => g.2) (pV false rfl (pY u28 (fun g => g.2) (pV false rfl (pR (decide (a1 ≤ 31))))))) (pN u28 (fun g => g.2) (pV false rfl (pN u28 (fun g => g.2) (pV false rfl (pR false))))))))) (let u34 := (eqS a0 s_U5); pA u34 (pY u34 (fun g => g.2) (YE a1 (zi 32) (zi 1) fun r1 => (pR r1))) (let u33 := (eqS a0 s_D); pA u33 (pY u33 (fun g => g.2) (YE a1 (zi 32) (zi 1) fun r2 => (pR r2))) (let u32 := (eqS a0 s_A); pA u32 (pY u32 (fun g => g.2) (YE a1 (zi 32) (zi 1) fun r3 => (pR r3))) (pA (eqS a0 s_B) (YE a1 (zi 32) (zi 1) fun r4 => (pR r4)) (pA (eqS a0 s_U7) (YE a1 (zi 128) (zi 1) fun r5 => (pR r5)) (pA (eqS a0 s_O5) (YE (w64 (a1 - 1)) (zi 32) (zi 1) fun r6 => (pR r6)) (let u31 := (eqS a0 s_M1); pA u31 (pY u31 (fun g => g.2) (YE a1 (zi 16) (zi 1) fun r7 => (pR r7))) (pA (eqS a0 s_I4) (YE a1 (zi 16) (zi 1) fun r8 => (pR r8)) (pA (eqS a0 s_M2) (YE a1 (zi 16) (zi 2) fun r9 => (pR r9)) (pA (eqS a0 s_M4) (YE a1 (zi 16) (zi 4) fun r10 => (pR r10)) (pA (eqS a0 s_O1) (YE a1 (zi 2) (zi 1) fun r11 => (pR r11)) (let u30 := (eqS a0 s_I2); pA u30 (pY u30 (fun g => g.2) (YE a1 (zi 4) (zi 1) fun r12 => (pR r12))) (pA (eqS a0 s_O2) (YE a1 (zi 4) (zi 1) fun r13 => (pR r13)) (Quh a0 a1 fun r14 => (pR r14)))))))))))))))))
theorem QV.ok {a0 : ByteArray} {a1 : Int} {r : Bool} (h : QV a0 a1 = some r) : ww 135 [xs a0,xi a1] [] = some (QF r) := fnQ (QvC a0 a1) h
noncomputable abbrev Qo9 {Γ : Prop} {lp : Loops} {ρ R : Type} {en : ρ → R} (a0 : ByteArray) (a1 : Int) (k : Bool → Pn Γ lp en) : Pn Γ lp en := pC (ww 135 [xs a0,xi a1] []) (QV a0 a1) QF (fun _ => QV.ok) k
noncomputable def QV.s : Nat → ByteArray → Int → Option Bool
 | 0,_,_ => none
 | k + 1,a0,a1 => Sc (V1.s k) (QY.s k) a0 a1
theorem QV.cv (a0 : ByteArray) (a1 : Int) : Cv (fun k => QV.s k a0 a1) (QV a0 a1) := .un rfl (QvB V1.cv QY.cv a0 a1)
abbrev QmT := Qi → Option Bool
structure VK where
 x6 : (List ByteArray)
 x7 : Int
 h0 : Qi
def Qaz (a : VK) : St := { n := 45,nx := 1,env := [(1,.ptr 0 0),(6,.sl (Qr a.x6)),(7,xi a.x7)],heap := [(0,.box [0,101] (Wd a.h0))] }
def Qeh (a : Bool) : Ex × St := (.ret,{ n := 45,nx := 0,env := [(2,xo a)],heap := [] })
def Qei (a : Unit) : Ex × St := (.exit 0,{ n := 45,nx := 0,env := [],heap := [] })
def QfO : (Bool ⊕ Unit) → Ex × St := Sum.elim Qeh Qei
abbrev QgQ := VK → Option (Bool ⊕ Unit)
def E9 (C0 : QlO) (a : VK) : Option (VK ⊕ (Bool ⊕ Unit)) := (bif (decide (a.x7 < (((a.x6.length) : Nat) : Int))) then (bif (decide (0 ≤ a.x7)) then ((a.x6[(Int.toNat a.x7)]?).bind fun e1 => ((a.h0.F[(Int.toNat a.x7)]?).bind fun e2 => ((C0 e1 e2).bind fun r3 => (bif (!r3) then (some (.inr (.inl false))) else (some (.inl (VK.mk a.x6 (w64 (a.x7 + 1)) a.h0))))))) else none) else (some (.inr (.inr ()))))
noncomputable def Ut : QgQ := loopW (E9 QV)
theorem Ut.eq (a : VK) : Ut a = (E9 QV a).bind (Sum.elim Ut some) := QK _ _
noncomputable def QnE (a : VK) : Pn True (lw 0 87) (Sum.elim (fun a => (Ex.norm,Qaz a)) QfO) := (pH Qv a.x6 (pA (decide (a.x7 < (((a.x6.length) : Nat) : Int))) (let u36 := (decide (0 ≤ a.x7)); pA u36 (pI Qv a.x6 a.x7 fun e1 => (pY u36 (fun g => g.2) (pI Jh a.h0.F a.x7 fun e2 => (Qo9 e1 e2 fun r3 => (pA (!r3) (pR (.inr (.inl false))) (pR (.inl (VK.mk a.x6 (w64 (a.x7 + 1)) a.h0)))))))) pF) (pR (.inr (.inr ())))))
theorem Ut.ok {a : VK} {r : (Bool ⊕ Unit)} (h : Ut a = some r) : lw 0 87 (loopAt pp 87 6) (Qaz a) = some (QfO r) := lpQ QnE h
noncomputable abbrev QnF {Γ : Prop} {ρ R : Type} {en : ρ → R} (a : VK) (k0 : Bool → Pn Γ (lw 0 87) en) (k1 : Unit → Pn Γ (lw 0 87) en) : Pn Γ (lw 0 87) en := p2 (loopAt pp 87 6) (Qaz a) (Ut a) Qeh Qei (fun _ => Ut.ok) k0 k1
def Qbm (C0 : Fm) (C1 : FJ) (L2 : QgQ) (a0 : Qi) : Option Bool := ((C0 a0.Op h_20).bind fun r1 => ((C1 r1.1.Kinds).bind fun r2 => (bif (!r1.2.2) then (some false) else (bif ((((a0.F.length) : Nat) : Int) != (((r2.length) : Nat) : Int)) then (some false) else ((L2 (VK.mk r2 (0 : Int) a0)).bind fun x => Sum.elim (fun (o3 : Bool) => (some o3)) (fun (o4 : Unit) => (some true)) x)))))
noncomputable def WV : QmT := Qbm Wb JZ Ut
theorem WV.eq (a0 : Qi) : WV a0 = Qbm Wb JZ Ut a0 := rfl
noncomputable def QsB (a0 : Qi) : Pn True (lw 0 87) QF := (SZ a0.Op h_20 fun r1 => (Pm r1.1.Kinds fun r2 => (pA (!r1.2.2) (pYN 6 (!r1.2.2) (fun g => g.2) (pU true rfl (pR false))) (pNN 2 (!r1.2.2) (fun g => g.2) (pH Jh a0.F (pNN 2 (!r1.2.2) (fun g => g.2) (pH Qv r2 (pNN 2 (!r1.2.2) (fun g => g.2) (pA ((((a0.F.length) : Nat) : Int) != (((r2.length) : Nat) : Int)) (pR false) (QnF (VK.mk r2 i0 a0) (fun o3 => (pR o3)) (fun o4 => (pR true))))))))))))
theorem WV.ok {a0 : Qi} {r : Bool} (h : WV a0 = some r) : ww 87 [.agg (Wd a0)] [] = some (QF r) := fnQ (QsB a0) h
noncomputable abbrev QsC {Γ : Prop} {lp : Loops} {ρ R : Type} {en : ρ → R} (a0 : Qi) (k : Bool → Pn Γ lp en) : Pn Γ lp en := pC (ww 87 [.agg (Wd a0)] []) (WV a0) QF (fun _ => WV.ok) k
abbrev Qrj := ByteArray → Option Int
structure V2 where
 x0 : ByteArray
 x3 : Int
 x4 : Int
def Qdr (a : V2) : St := { n := 32,nx := 0,env := [(0,xs a.x0),(3,xi a.x3),(4,xi a.x4)],heap := [] }
def Qds (a : Int) : Ex × St := (.exit 0,{ n := 32,nx := 0,env := [(3,xi a)],heap := [] })
abbrev Pq := V2 → Option Int
def Qdt (a : V2) : Option (V2 ⊕ Int) := (bif (decide (a.x4 < ((a.x0.size : Nat) : Int))) then (bif (decide (0 ≤ a.x4 ∧ a.x4 < ((a.x0.size : Nat) : Int))) then (bif (decide (((a.x0.data.getD (Int.toNat a.x4) 0).toNat : Int) ≥ 97)) then (some (.inl (V2.mk a.x0 (w64 ((w64 ((16 : Int) * a.x3)) + (w64 ((w64 (IntKind.u8.wrap (((a.x0.data.getD (Int.toNat a.x4) 0).toNat : Int) - 97))) + 10)))) (w64 (a.x4 + 1))))) else (some (.inl (V2.mk a.x0 (w64 ((w64 ((16 : Int) * a.x3)) + (w64 (IntKind.u8.wrap (((a.x0.data.getD (Int.toNat a.x4) 0).toNat : Int) - 48))))) (w64 (a.x4 + 1)))))) else none) else (some (.inr a.x3)))
noncomputable def Yz.s (k : Nat) : Pq := iter (Qdt ) k
theorem Yz.cv (a : V2) : Cv (fun k => Yz.s k a) (loopW (Qdt ) a) := Cv.iter (fun a => by exact .const _) a
noncomputable def Yz : Pq := loopW (Qdt )
noncomputable def Qqu (a : V2) : Pn True (lw 0 88) (Sum.elim (fun a => (Ex.norm,Qdr a)) Qds) := (pA (decide (a.x4 < (zz a.x0))) (let u37 := (in1 a.x4 (zz a.x0)); pA u37 (pY u37 (fun g => g.2) (pA (decide ((gb a.x0 a.x4) ≥ 97)) (pY u37 (fun g => g.1.2) (pR (.inl (V2.mk a.x0 (w64 ((w64 ((zi 16) * a.x3)) + (w64 ((w64 (IntKind.u8.wrap ((gb a.x0 a.x4) - 97))) + 10)))) (w64 (a.x4 + 1)))))) (pR (.inl (V2.mk a.x0 (w64 ((w64 ((zi 16) * a.x3)) + (w64 (IntKind.u8.wrap ((gb a.x0 a.x4) - 48))))) (w64 (a.x4 + 1))))))) pF) (pR (.inr a.x3)))
theorem Yz.ok {a : V2} {r : Int} (h : Yz a = some r) : lw 0 88 (loopAt pp 88 3) (Qdr a) = some (Qds r) := lpQ Qqu h
noncomputable abbrev Qqv {Γ : Prop} {ρ R : Type} {en : ρ → R} (a : V2) (k0 : Int → Pn Γ (lw 0 88) en) : Pn Γ (lw 0 88) en := p1 (loopAt pp 88 3) (Qdr a) (Yz a) Qds (fun _ => Yz.ok) k0
def Qb6 (L0 : Pq) (a0 : ByteArray) : Option Int := ((L0 (V2.mk a0 (0 : Int) (0 : Int))).bind (fun (o1 : Int) => (some o1)))
theorem QvD {L0 : Nat → Pq} {M0 : Pq} (N0 : Cv1 L0 M0) (a0 : ByteArray) : Cv (fun k => Qb6 (L0 k) a0) (Qb6 M0 a0) := by
 unfold Qb6
 exact .bind (N0 _) (fun o1 => by exact .const _)
noncomputable def ZU : Qrj := Qb6 Yz
noncomputable def QvE (a0 : ByteArray) : Pn True (lw 0 88) Qq := (Qqv (V2.mk a0 i0 i0) (fun o1 => (pR o1)))
theorem ZU.ok {a0 : ByteArray} {r : Int} (h : ZU a0 = some r) : ww 88 [xs a0] [] = some (Qq r) := fnQ (QvE a0) h
noncomputable abbrev QvF {Γ : Prop} {lp : Loops} {ρ R : Type} {en : ρ → R} (a0 : ByteArray) (k : Int → Pn Γ lp en) : Pn Γ lp en := pC (ww 88 [xs a0] []) (ZU a0) Qq (fun _ => ZU.ok) k
noncomputable def ZU.s : Nat → ByteArray → Option Int
 | 0,_ => none
 | k + 1,a0 => Qb6 (Yz.s k) a0
theorem ZU.cv (a0 : ByteArray) : Cv (fun k => ZU.s k a0) (ZU a0) := .un rfl (QvD Yz.cv a0)
abbrev Qe3 := Int → Option Int
def S7 (a0 : Int) : Option Int := (bif (decide (a0 > 7)) then (some (w64 (a0 - 16))) else (some a0))
noncomputable def Xj : Qe3 := S7
theorem Xj.eq (a0 : Int) : Xj a0 = S7 a0 := rfl
noncomputable def Qui (a0 : Int) : Pn True (lw 0 136) Qq := (pA (decide (a0 > 7)) (pR (w64 (a0 - 16))) (pR a0))
theorem Xj.ok {a0 : Int} {r : Int} (h : Xj a0 = some r) : ww 136 [xi a0] [] = some (Qq r) := fnQ (Qui a0) h
noncomputable abbrev QmU {Γ : Prop} {lp : Loops} {ρ R : Type} {en : ρ → R} (a0 : Int) (k : Int → Pn Γ lp en) : Pn Γ lp en := pC (ww 136 [xi a0] []) (Xj a0) Qq (fun _ => Xj.ok) k
noncomputable def Xj.s : Nat → Int → Option Int
 | 0,_ => none
 | k + 1,a0 => S7 a0
theorem Xj.cv (a0 : Int) : Cv (fun k => Xj.s k a0) (Xj a0) := .un rfl (by exact .const _)
def Ev (r : (Int × Int × Int)) : AV × Heap := (.tup [xi r.1,xi r.2.1,xi r.2.2],[])
abbrev Qc0 := Int → Option (Int × Int × Int)
def Qbn (a0 : Int) : Option (Int × Int × Int) := (some ((andI .i64 (shrI .i64 a0 (16 : Int)) (15 : Int)),(andI .i64 (shrI .i64 a0 (11 : Int)) (31 : Int)),(andI .i64 a0 (2047 : Int))))
noncomputable def VR : Qc0 := Qbn
theorem VR.eq (a0 : Int) : VR a0 = Qbn a0 := rfl
noncomputable def QsD (a0 : Int) : Pn True (lw 0 186) Ev := (pU (decide (0 ≤ (zi 16))) rfl (pU (decide (0 ≤ (zi 11))) rfl (pR ((andI .i64 (shrI .i64 a0 (zi 16)) (zi 15)),(andI .i64 (shrI .i64 a0 (zi 11)) (zi 31)),(andI .i64 a0 (zi 2047))))))
theorem VR.ok {a0 : Int} {r : (Int × Int × Int)} (h : VR a0 = some r) : ww 186 [xi a0] [] = some (Ev r) := fnQ (QsD a0) h
noncomputable abbrev QsE {Γ : Prop} {lp : Loops} {ρ R : Type} {en : ρ → R} (a0 : Int) (k : (Int × Int × Int) → Pn Γ lp en) : Pn Γ lp en := pC (ww 186 [xi a0] []) (VR a0) Ev (fun _ => VR.ok) k
noncomputable def VR.s : Nat → Int → Option (Int × Int × Int)
 | 0,_ => none
 | k + 1,a0 => Qbn a0
theorem VR.cv (a0 : Int) : Cv (fun k => VR.s k a0) (VR a0) := .un rfl (by exact .const _)
abbrev Qe4 := ByteArray → Int → Option Int
def FM (C0 : Qc0) (C1 : Fo) (a0 : ByteArray) (a1 : Int) : Option Int := (bif (eqS a0 s_D) then (some (shlI .i64 a1 (21 : Int))) else (bif (eqS a0 s_A) then (some (shlI .i64 a1 (16 : Int))) else (bif (eqS a0 s_I4) then (some (shlI .i64 a1 (16 : Int))) else (bif (eqS a0 s_B) then (some (shlI .i64 a1 (11 : Int))) else (bif (eqS a0 WK) then (some (andI .i64 a1 (65535 : Int))) else (bif (eqS a0 WL) then (some (andI .i64 a1 (65535 : Int))) else (bif (eqS a0 Uo) then (some (andI .i64 a1 (33554431 : Int))) else (bif (eqS a0 s_O2) then (some (shlI .i64 a1 (20 : Int))) else (bif (eqS a0 WJ) then ((C0 a1).bind fun r1 => (some (orI .i64 (orI .i64 (shlI .i64 r1.1 (11 : Int)) (shlI .i64 r1.2.1 (16 : Int))) r1.2.2))) else ((C1 a1).bind fun r2 => (some (orI .i64 (orI .i64 (shlI .i64 r2.1 (10 : Int)) (shlI .i64 r2.2.1 (8 : Int))) r2.2.2.1))))))))))))
theorem Quj {C0 : Nat → Qc0} {D0 : Qc0} (H0 : Cv1 C0 D0) {C1 : Nat → Fo} {D1 : Fo} (H1 : Cv1 C1 D1) (a0 : ByteArray) (a1 : Int) : Cv (fun k => FM (C0 k) (C1 k) a0 a1) (FM D0 D1 a0 a1) := by
 unfold FM
 exact .cond cst (.cond cst (.cond cst (.cond cst (.cond cst (.cond cst (.cond cst (.cond cst (.cond (.bind (H0 _) fun r1 => by exact .const _) (.bind (H1 _) fun r2 => by exact .const _)))))))))
noncomputable def QP : Qe4 := FM VR Vy
theorem QP.eq (a0 : ByteArray) (a1 : Int) : QP a0 a1 = FM VR Vy a0 a1 := rfl
noncomputable def Quk (a0 : ByteArray) (a1 : Int) : Pn True (lw 0 137) Qq := (pA (eqS a0 s_D) (pU (decide (0 ≤ (zi 21))) rfl (pR (shlI .i64 a1 (zi 21)))) (let u39 := (eqS a0 s_A); pA u39 (pY u39 (fun g => g.2) (pU (decide (0 ≤ (zi 16))) rfl (pR (shlI .i64 a1 (zi 16))))) (pA (eqS a0 s_I4) (pU (decide (0 ≤ (zi 16))) rfl (pR (shlI .i64 a1 (zi 16)))) (pA (eqS a0 s_B) (pU (decide (0 ≤ (zi 11))) rfl (pR (shlI .i64 a1 (zi 11)))) (let u38 := (eqS a0 WK); pA u38 (pY u38 (fun g => g.2) (pR (andI .i64 a1 (zi 65535)))) (pA (eqS a0 WL) (pR (andI .i64 a1 (zi 65535))) (pA (eqS a0 Uo) (pR (andI .i64 a1 (zi 33554431))) (pA (eqS a0 s_O2) (pU (decide (0 ≤ (zi 20))) rfl (pR (shlI .i64 a1 (zi 20)))) (pA (eqS a0 WJ) (QsE a1 fun r1 => (pU (decide (0 ≤ (zi 11))) rfl (pU (decide (0 ≤ (zi 16))) rfl (pR (orI .i64 (orI .i64 (shlI .i64 r1.1 (zi 11)) (shlI .i64 r1.2.1 (zi 16))) r1.2.2))))) (QmS a1 fun r2 => (pU (decide (0 ≤ (zi 10))) rfl (pU (decide (0 ≤ (zi 8))) rfl (pR (orI .i64 (orI .i64 (shlI .i64 r2.1 (zi 10)) (shlI .i64 r2.2.1 (zi 8))) r2.2.2.1))))))))))))))
theorem QP.ok {a0 : ByteArray} {a1 : Int} {r : Int} (h : QP a0 a1 = some r) : ww 137 [xs a0,xi a1] [] = some (Qq r) := fnQ (Quk a0 a1) h
noncomputable abbrev Qul {Γ : Prop} {lp : Loops} {ρ R : Type} {en : ρ → R} (a0 : ByteArray) (a1 : Int) (k : Int → Pn Γ lp en) : Pn Γ lp en := pC (ww 137 [xs a0,xi a1] []) (QP a0 a1) Qq (fun _ => QP.ok) k
noncomputable def QP.s : Nat → ByteArray → Int → Option Int
 | 0,_,_ => none
 | k + 1,a0,a1 => FM (VR.s k) (Vy.s k) a0 a1
theorem QP.cv (a0 : ByteArray) (a1 : Int) : Cv (fun k => QP.s k a0 a1) (QP a0 a1) := .un rfl (Quj VR.cv Vy.cv a0 a1)
abbrev Qrk := ByteArray → Int → Option Int
def Sd (C0 : Qe3) (C1 : Qe4) (a0 : ByteArray) (a1 : Int) : Option Int := (bif (eqS a0 s_X) then ((C0 a1).bind fun r1 => (some r1)) else (bif (eqS a0 s_Y) then ((C0 a1).bind fun r2 => (some (shlI .i64 r2 (4 : Int)))) else (bif (eqS a0 s_U5) then (some (shlI .i64 a1 (4 : Int))) else (bif (eqS a0 s_U7) then (some (shlI .i64 a1 (4 : Int))) else (bif (eqS a0 s_O5) then (some (shlI .i64 (w64 (a1 - 1)) (4 : Int))) else (bif (eqS a0 s_M1) then (some (shlI .i64 a1 (8 : Int))) else (bif (eqS a0 s_I2) then (some (shlI .i64 a1 (8 : Int))) else (bif (eqS a0 s_M2) then (some (shlI .i64 (w64 (Int.tdiv a1 (2 : Int))) (8 : Int))) else (bif (eqS a0 s_M4) then (some (shlI .i64 (w64 (Int.tdiv a1 (4 : Int))) (8 : Int))) else (bif (eqS a0 s_O1) then (some (shlI .i64 a1 (10 : Int))) else (bif (eqS a0 s_T8) then (some (andI .i64 (w64 (Int.tdiv a1 (2 : Int))) (255 : Int))) else ((C1 a0 a1).bind fun r3 => (some r3)))))))))))))
theorem QvG {C0 : Nat → Qe3} {D0 : Qe3} (H0 : Cv1 C0 D0) {C1 : Nat → Qe4} {D1 : Qe4} (H1 : Cv2 C1 D1) (a0 : ByteArray) (a1 : Int) : Cv (fun k => Sd (C0 k) (C1 k) a0 a1) (Sd D0 D1 a0 a1) := by
 unfold Sd
 exact .cond (.bind (H0 _) fun r1 => by exact .const _) (.cond (.bind (H0 _) fun r2 => by exact .const _) (.cond cst (.cond cst (.cond cst (.cond cst (.cond cst (.cond cst (.cond cst (.cond cst (.cond cst (.bind (H1 _ _) fun r3 => by exact .const _)))))))))))
noncomputable def Q0 : Qrk := Sd Xj QP
theorem Q0.eq (a0 : ByteArray) (a1 : Int) : Q0 a0 a1 = Sd Xj QP a0 a1 := rfl
noncomputable def QvH (a0 : ByteArray) (a1 : Int) : Pn True (lw 0 89) Qq := (pA (eqS a0 s_X) (QmU a1 fun r1 => (pR r1)) (pA (eqS a0 s_Y) (QmU a1 fun r2 => (pU (decide (0 ≤ (zi 4))) rfl (pR (shlI .i64 r2 (zi 4))))) (let u41 := (eqS a0 s_U5); pA u41 (pY u41 (fun g => g.2) (pU (decide (0 ≤ (zi 4))) rfl (pR (shlI .i64 a1 (zi 4))))) (pA (eqS a0 s_U7) (pU (decide (0 ≤ (zi 4))) rfl (pR (shlI .i64 a1 (zi 4)))) (pA (eqS a0 s_O5) (pU (decide (0 ≤ (zi 4))) rfl (pR (shlI .i64 (w64 (a1 - 1)) (zi 4)))) (let u40 := (eqS a0 s_M1); pA u40 (pY u40 (fun g => g.2) (pU (decide (0 ≤ (zi 8))) rfl (pR (shlI .i64 a1 (zi 8))))) (pA (eqS a0 s_I2) (pU (decide (0 ≤ (zi 8))) rfl (pR (shlI .i64 a1 (zi 8)))) (pA (eqS a0 s_M2) (pU (decide ((zi 2) ≠ 0)) rfl (pU (decide (0 ≤ (zi 8))) rfl (pR (shlI .i64 (w64 (Int.tdiv a1 (zi 2))) (zi 8))))) (pA (eqS a0 s_M4) (pU (decide ((zi 4) ≠ 0)) rfl (pU (decide (0 ≤ (zi 8))) rfl (pR (shlI .i64 (w64 (Int.tdiv a1 (zi 4))) (zi 8))))) (pA (eqS a0 s_O1) (pU (decide (0 ≤ (zi 10))) rfl (pR (shlI .i64 a1 (zi 10)))) (pA (eqS a0 s_T8) (pU (decide ((zi 2) ≠ 0)) rfl (pR (andI .i64 (w64 (Int.tdiv a1 (zi 2))) (zi 255)))) (Qul a0 a1 fun r3 => (pR r3)))))))))))))
theorem Q0.ok {a0 : ByteArray} {a1 : Int} {r : Int} (h : Q0 a0 a1 = some r) : ww 89 [xs a0,xi a1] [] = some (Qq r) := fnQ (QvH a0 a1) h
noncomputable abbrev QvI {Γ : Prop} {lp : Loops} {ρ R : Type} {en : ρ → R} (a0 : ByteArray) (a1 : Int) (k : Int → Pn Γ lp en) : Pn Γ lp en := pC (ww 89 [xs a0,xi a1] []) (Q0 a0 a1) Qq (fun _ => Q0.ok) k
noncomputable def Q0.s : Nat → ByteArray → Int → Option Int
 | 0,_,_ => none
 | k + 1,a0,a1 => Sd (Xj.s k) (QP.s k) a0 a1
theorem Q0.cv (a0 : ByteArray) (a1 : Int) : Cv (fun k => Q0.s k a0 a1) (Q0 a0 a1) := .un rfl (QvG Xj.cv QP.cv a0 a1)
def Qdu (r : ((List Int) × Bool)) : AV × Heap := (.tup [.sl (R_u8 r.1),xo r.2],[])
abbrev Qe5 := Qi → Option ((List Int) × Bool)
structure Vd where
 x7 : (List ByteArray)
 x8 : Int
 x9 : Int
 h0 : Qi
 h1 : QD
structure Xf where
 x8 : Int
 h0 : QD
def Se (a : Vd) : St := { n := 66,nx := 2,env := [(1,.ptr 0 0),(4,.ptr 1 0),(7,.sl (Qr a.x7)),(8,xi a.x8),(9,xi a.x9)],heap := [(0,.box [0,101] (Wd a.h0)),(1,.box [] (P5 a.h1))] }
def Sf (a : Xf) : Ex × St := (.exit 0,{ n := 66,nx := 1,env := [(4,.ptr 0 0),(8,xi a.x8)],heap := [(0,.box [] (P5 a.h0))] })
abbrev QfP := Vd → Option Xf
def Ew (C0 : Qrk) (a : Vd) : Option (Vd ⊕ Xf) := (bif (decide (a.x9 < (((a.x7.length) : Nat) : Int))) then (bif (decide (0 ≤ a.x9)) then ((a.x7[(Int.toNat a.x9)]?).bind fun e1 => ((a.h0.F[(Int.toNat a.x9)]?).bind fun e2 => ((C0 e1 e2).bind fun r3 => (some (.inl (Vd.mk a.x7 (orI .i64 a.x8 r3) (w64 (a.x9 + 1)) a.h0 a.h1)))))) else none) else (some (.inr (Xf.mk a.x8 a.h1))))
noncomputable def UU : QfP := loopW (Ew Q0)
theorem UU.eq (a : Vd) : UU a = (Ew Q0 a).bind (Sum.elim UU some) := QK _ _
noncomputable def QlP (a : Vd) : Pn True (lw 0 42) (Sum.elim (fun a => (Ex.norm,Se a)) Sf) := (pH Qv a.x7 (pA (decide (a.x9 < (((a.x7.length) : Nat) : Int))) (let u42 := (decide (0 ≤ a.x9)); pA u42 (pI Qv a.x7 a.x9 fun e1 => (pY u42 (fun g => g.2) (pI Jh a.h0.F a.x9 fun e2 => (QvI e1 e2 fun r3 => (pR (.inl (Vd.mk a.x7 (orI .i64 a.x8 r3) (w64 (a.x9 + 1)) a.h0 a.h1))))))) pF) (pR (.inr (Xf.mk a.x8 a.h1)))))
theorem UU.ok {a : Vd} {r : Xf} (h : UU a = some r) : lw 0 42 (loopAt pp 42 7) (Se a) = some (Sf r) := lpQ QlP h
noncomputable abbrev QlQ {Γ : Prop} {ρ R : Type} {en : ρ → R} (a : Vd) (k0 : Xf → Pn Γ (lw 0 42) en) : Pn Γ (lw 0 42) en := p1 (loopAt pp 42 7) (Se a) (UU a) Sf (fun _ => UU.ok) k0
def SC (C0 : QmT) (C1 : Fm) (C2 : FJ) (C3 : Qrj) (L4 : QfP) (a0 : Qi) : Option ((List Int) × Bool) := ((C0 a0).bind fun r1 => (bif (!r1) then (some (([] : List Int),false)) else ((C1 a0.Op h_20).bind fun r2 => ((C2 r2.1.Kinds).bind fun r3 => ((C3 r2.1.Bits).bind fun r4 => ((L4 (Vd.mk r3 r4 (0 : Int) a0 r2.1)).bind (fun (o5 : Xf) => (bif (((o5.h0.Bits.size : Nat) : Int) == 4) then (some ([(IntKind.u8.wrap (shrI .i64 o5.x8 (8 : Int))),(IntKind.u8.wrap o5.x8)],true)) else (some ([(IntKind.u8.wrap (shrI .i64 o5.x8 (24 : Int))),(IntKind.u8.wrap (shrI .i64 o5.x8 (16 : Int))),(IntKind.u8.wrap (shrI .i64 o5.x8 (8 : Int))),(IntKind.u8.wrap o5.x8)],true))))))))))
noncomputable def VA : Qe5 := SC WV Wb JZ ZU UU
theorem VA.eq (a0 : Qi) : VA a0 = SC WV Wb JZ ZU UU a0 := rfl
noncomputable def Qqw (a0 : Qi) : Pn True (lw 0 42) Qdu := (QsC a0 fun r1 => (pA (!r1) (pR (([] : List Int),false)) (SZ a0.Op h_20 fun r2 => (Pm r2.1.Kinds fun r3 => (QvF r2.1.Bits fun r4 => (QlQ (Vd.mk r3 r4 i0 a0 r2.1) (fun o5 => (pA ((zz o5.h0.Bits) == 4) (pU (decide (0 ≤ (zi 8))) rfl (pZ [[xb (IntKind.u8.wrap (shrI .i64 o5.x8 (zi 8)))],[xb (IntKind.u8.wrap o5.x8)]] (R_u8 [(IntKind.u8.wrap (shrI .i64 o5.x8 (zi 8))),(IntKind.u8.wrap o5.x8)]) (YL [(IntKind.u8.wrap (shrI .i64 o5.x8 (zi 8))),(IntKind.u8.wrap o5.x8)]) (pR ([(IntKind.u8.wrap (shrI .i64 o5.x8 (zi 8))),(IntKind.u8.wrap o5.x8)],true)))) (pU (decide (0 ≤ (zi 24))) rfl (pU (decide (0 ≤ (zi 16))) rfl (pU (decide (0 ≤ (zi 8))) rfl (pZ [[xb (IntKind.u8.wrap (shrI .i64 o5.x8 (zi 24)))],[xb (IntKind.u8.wrap (shrI .i64 o5.x8 (zi 16)))],[xb (IntKind.u8.wrap (shrI .i64 o5.x8 (zi 8)))],[xb (IntKind.u8.wrap o5.x8)]] (R_u8 [(IntKind.u8.wrap (shrI .i64 o5.x8 (zi 24))),(IntKind.u8.wrap (shrI .i64 o5.x8 (zi 16))),(IntKind.u8.wrap (shrI .i64 o5.x8 (zi 8))),(IntKind.u8.wrap o5.x8)]) (YL [(IntKind.u8.wrap (shrI .i64 o5.x8 (zi 24))),(IntKind.u8.wrap (shrI .i64 o5.x8 (zi 16))),(IntKind.u8.wrap (shrI .i64 o5.x8 (zi 8))),(IntKind.u8.wrap o5.x8)]) (pR ([(IntKind.u8.wrap (shrI .i64 o5.x8 (zi 24))),(IntKind.u8.wrap (shrI .i64 o5.x8 (zi 16))),(IntKind.u8.wrap (shrI .i64 o5.x8 (zi 8))),(IntKind.u8.wrap o5.x8)],true))))))))))))))
theorem VA.ok {a0 : Qi} {r : ((List Int) × Bool)} (h : VA a0 = some r) : ww 42 [.agg (Wd a0)] [] = some (Qdu r) := fnQ (Qqw a0) h
noncomputable abbrev Qi0 {Γ : Prop} {lp : Loops} {ρ R : Type} {en : ρ → R} (a0 : Qi) (k : ((List Int) × Bool) → Pn Γ lp en) : Pn Γ lp en := pC (ww 42 [.agg (Wd a0)] []) (VA a0) Qdu (fun _ => VA.ok) k
abbrev Qku := Int → Int → Option Int
def Qi1 (a0 : Int) (a1 : Int) : Option Int := (bif (decide (a1 ≠ 0)) then (bif (decide ((Int.tmod a0 a1) < 0)) then (some (w64 ((Int.tmod a0 a1) + a1))) else (some (Int.tmod a0 a1))) else none)
noncomputable def YA : Qku := Qi1
theorem YA.eq (a0 : Int) (a1 : Int) : YA a0 a1 = Qi1 a0 a1 := rfl
noncomputable def Qqx (a0 : Int) (a1 : Int) : Pn True (lw 0 43) Qq := (pA (decide (a1 ≠ 0)) (pA (decide ((Int.tmod a0 a1) < 0)) (pR (w64 ((Int.tmod a0 a1) + a1))) (pR (Int.tmod a0 a1))) pF)
theorem YA.ok {a0 : Int} {a1 : Int} {r : Int} (h : YA a0 a1 = some r) : ww 43 [xi a0,xi a1] [] = some (Qq r) := fnQ (Qqx a0 a1) h
noncomputable abbrev Qi2 {Γ : Prop} {lp : Loops} {ρ R : Type} {en : ρ → R} (a0 : Int) (a1 : Int) (k : Int → Pn Γ lp en) : Pn Γ lp en := pC (ww 43 [xi a0,xi a1] []) (YA a0 a1) Qq (fun _ => YA.ok) k
def Qe6 (r : (List Int)) : AV × Heap := (.sl (R_u8 r),[])
abbrev QmV := (List Int) → (List Int) → (List Int) → Option (List Int)
structure VL where
 x0 : (List Int)
 x1 : (List Int)
 x2 : (List Int)
 x8 : Int
 x10 : Int
 r0 : (List Int)
 r1 : (List Int)
structure Wu where
 x0 : (List Int)
 x1 : (List Int)
 x2 : (List Int)
 x8 : Int
 r0 : (List Int)
 r1 : (List Int)
def QaA (a : VL) : St := { n := 79,nx := 2,env := [(0,.sl (QS a.x0)),(1,.sl (QS a.x1)),(2,.sl (R_u8 a.x2)),(7,.arr 0),(8,xi a.x8),(9,.arr 1),(10,xi a.x10)],heap := [(0,.arr true 1 (R_u8 a.r0)),(1,.arr true 1 (QS a.r1))] }
def QaB (a : Wu) : Ex × St := (.exit 2,{ n := 79,nx := 2,env := [(0,.sl (QS a.x0)),(1,.sl (QS a.x1)),(2,.sl (R_u8 a.x2)),(7,.arr 0),(8,xi a.x8),(9,.arr 1)],heap := [(0,.arr true 1 (R_u8 a.r0)),(1,.arr true 1 (QS a.r1))] })
abbrev QgR := VL → Option Wu
def Fa (a : VL) : Option (VL ⊕ Wu) := (bif (decide (a.x10 < 3)) then (bif (decide ((((a.x1.length) : Nat) : Int) > 0)) then (bif (decide ((((a.x1.length) : Nat) : Int) ≠ 0)) then (bif (decide (0 ≤ (Int.tmod (w64 (a.x8 + a.x10)) (((a.x1.length) : Nat) : Int)))) then ((a.x1[(Int.toNat (Int.tmod (w64 (a.x8 + a.x10)) (((a.x1.length) : Nat) : Int)))]?).bind fun e1 => (bif (decide ((a.r1.length + [e1].length) * 8 ≤ most)) then (some (.inl (VL.mk a.x0 a.x1 a.x2 a.x8 (w64 (a.x10 + 1)) a.r0 (a.r1 ++ [e1])))) else none)) else none) else none) else (some (.inr (Wu.mk a.x0 a.x1 a.x2 a.x8 a.r0 a.r1)))) else (some (.inr (Wu.mk a.x0 a.x1 a.x2 a.x8 a.r0 a.r1))))
noncomputable def Wv : QgR := loopW (Fa )
theorem Wv.eq (a : VL) : Wv a = (Fa a).bind (Sum.elim Wv some) := QK _ _
noncomputable def QnG (a : VL) : Pn True (lw 0 16) (Sum.elim (fun a => (Ex.norm,QaA a)) QaB) := (let u43 := (decide (a.x10 < 3)); pA u43 (pY u43 (fun g => g.2) (pH Jh a.x1 (pYN 2 u43 (fun g => g.2) (pA (decide ((((a.x1.length) : Nat) : Int) > 0)) (pH Jh a.x1 (pA (decide ((((a.x1.length) : Nat) : Int) ≠ 0)) (pA (decide (0 ≤ (Int.tmod (w64 (a.x8 + a.x10)) (((a.x1.length) : Nat) : Int)))) (pI Jh a.x1 (Int.tmod (w64 (a.x8 + a.x10)) (((a.x1.length) : Nat) : Int)) fun e1 => (pZ [[xi e1]] (QS [e1]) (Jw [e1]) (pQ Jh 8 a.r1 [e1] (pR (.inl (VL.mk a.x0 a.x1 a.x2 a.x8 (w64 (a.x10 + 1)) a.r0 (a.r1 ++ [e1]))))))) pF) pF)) (pR (.inr (Wu.mk a.x0 a.x1 a.x2 a.x8 a.r0 a.r1))))))) (pNN 3 u43 (fun g => g.2) (pV false rfl (pR (.inr (Wu.mk a.x0 a.x1 a.x2 a.x8 a.r0 a.r1))))))
theorem Wv.ok {a : VL} {r : Wu} (h : Wv a = some r) : lw 0 16 (loopAt pp 16 7) (QaA a) = some (QaB r) := lpQ QnG h
noncomputable abbrev QnH {Γ : Prop} {ρ R : Type} {en : ρ → R} (a : VL) (k0 : Wu → Pn Γ (lw 0 16) en) : Pn Γ (lw 0 16) en := p1 (loopAt pp 16 7) (QaA a) (Wv a) QaB (fun _ => Wv.ok) k0
structure UM where
 x0 : (List Int)
 x1 : (List Int)
 x2 : (List Int)
 x8 : Int
 r0 : (List Int)
def QaC (a : UM) : St := { n := 79,nx := 1,env := [(0,.sl (QS a.x0)),(1,.sl (QS a.x1)),(2,.sl (R_u8 a.x2)),(7,.arr 0),(8,xi a.x8)],heap := [(0,.arr true 1 (R_u8 a.r0))] }
def QaD (a : (List Int)) : Ex × St := (.exit 0,{ n := 79,nx := 1,env := [(7,.arr 0)],heap := [(0,.arr true 1 (R_u8 a))] })
abbrev QgS := UM → Option (List Int)
def Fb (C0 : QoY) (C1 : Qe5) (C2 : Qku) (L3 : QgR) (a : UM) : Option (UM ⊕ (List Int)) := (bif (decide (a.x8 < (((a.x0.length) : Nat) : Int))) then (bif (decide (a.x8 < 30)) then ((L3 (VL.mk a.x0 a.x1 a.x2 a.x8 (0 : Int) a.r0 ([] : List Int))).bind (fun (o1 : Wu) => (bif (decide (0 ≤ o1.x8)) then ((o1.x0[(Int.toNat o1.x8)]?).bind fun e2 => ((C0 e2 o1.r1).bind fun r3 => ((C1 (Qi.mk r3.1 r3.2)).bind fun r4 => (bif (decide ((o1.r0.length + r4.1.length) * 1 ≤ most)) then ((o1.x0[(Int.toNat o1.x8)]?).bind fun e5 => ((C2 (w64 (Int.tdiv e5 (70 : Int))) (5 : Int)).bind fun r6 => (bif (r6 == 0) then ((o1.x0[(Int.toNat o1.x8)]?).bind fun e7 => ((C2 e7 (w64 ((((o1.x2.length) : Nat) : Int) + 1))).bind fun r8 => (bif (decide (0 ≤ (0 : Int) ∧ (0 : Int) ≤ r8 ∧ r8 ≤ ((o1.x2.length : Nat) : Int))) then (bif (decide (((o1.r0 ++ r4.1).length + ((o1.x2.drop (Int.toNat 0)).take (Int.toNat (r8 - 0))).length) * 1 ≤ most)) then (some (.inl (UM.mk o1.x0 o1.x1 o1.x2 (w64 (o1.x8 + 1)) ((o1.r0 ++ r4.1) ++ ((o1.x2.drop (Int.toNat 0)).take (Int.toNat (r8 - 0))))))) else none) else none))) else (some (.inl (UM.mk o1.x0 o1.x1 o1.x2 (w64 (o1.x8 + 1)) (o1.r0 ++ r4.1))))))) else none)))) else none))) else (some (.inr a.r0))) else (some (.inr a.r0)))
noncomputable def Ww : QgS := loopW (Fb Gm VA YA Wv)
theorem Ww.eq (a : UM) : Ww a = (Fb Gm VA YA Wv a).bind (Sum.elim Ww some) := QK _ _
noncomputable def QnI (a : UM) : Pn True (lw 0 16) (Sum.elim (fun a => (Ex.norm,QaC a)) QaD) := (pH Jh a.x0 (let u45 := (decide (a.x8 < (((a.x0.length) : Nat) : Int))); pA u45 (pYN 2 u45 (fun g => g.2) (pA (decide (a.x8 < 30)) (QnH (VL.mk a.x0 a.x1 a.x2 a.x8 i0 a.r0 ([] : List Int)) (fun o1 => (let u44 := (decide (0 ≤ o1.x8)); pA u44 (pI Jh o1.x0 o1.x8 fun e2 => (Qt4 e2 o1.r1 fun r3 => (Qi0 (Qi.mk r3.1 r3.2) fun r4 => (pQ E_u8 1 o1.r0 r4.1 (pY u44 (fun g => g.1.2) (pI Jh o1.x0 o1.x8 fun e5 => (pU (decide ((zi 70) ≠ 0)) rfl (Qi2 (w64 (Int.tdiv e5 (zi 70))) (zi 5) fun r6 => (pA (r6 == 0) (pY u44 (fun g => g.1.1.2) (pI Jh o1.x0 o1.x8 fun e7 => (pH E_u8 o1.x2 (Qi2 e7 (w64 ((((o1.x2.length) : Nat) : Int) + 1)) fun r8 => (pU (decide ((R_u8 o1.x2).all (fun r => r.length == 1) = true)) (decide_eq_true (QjC _)) (pB (in2 i0 r8 (((R_u8 o1.x2).length : Nat) : Int)) (in2 i0 r8 ((o1.x2.length : Nat) : Int)) (by rw [QeT]) (pZ (((R_u8 o1.x2).drop (Int.toNat 0)).take (Int.toNat (r8 - 0))) (R_u8 ((o1.x2.drop (Int.toNat 0)).take (Int.toNat (r8 - 0)))) (by rw [QeS]) (pQ E_u8 1 (o1.r0 ++ r4.1) ((o1.x2.drop (Int.toNat 0)).take (Int.toNat (r8 - 0))) (pR (.inl (UM.mk o1.x0 o1.x1 o1.x2 (w64 (o1.x8 + 1)) ((o1.r0 ++ r4.1) ++ ((o1.x2.drop (Int.toNat 0)).take (Int.toNat (r8 - 0))))))))) pF)))))) (pR (.inl (UM.mk o1.x0 o1.x1 o1.x2 (w64 (o1.x8 + 1)) (o1.r0 ++ r4.1))))))))))))) pF))) (pR (.inr a.r0)))) (pNN 2 u45 (fun g => g.2) (pV false rfl (pR (.inr a.r0))))))
theorem Ww.ok {a : UM} {r : (List Int)} (h : Ww a = some r) : lw 0 16 (loopAt pp 16 3) (QaC a) = some (QaD r) := lpQ QnI h
noncomputable abbrev QnJ {Γ : Prop} {ρ R : Type} {en : ρ → R} (a : UM) (k0 : (List Int) → Pn Γ (lw 0 16) en) : Pn Γ (lw 0 16) en := p1 (loopAt pp 16 3) (QaC a) (Ww a) QaD (fun _ => Ww.ok) k0
def Qe7 (L0 : QgS) (a0 : (List Int)) (a1 : (List Int)) (a2 : (List Int)) : Option (List Int) := ((L0 (UM.mk a0 a1 a2 (0 : Int) ([] : List Int))).bind (fun (o1 : (List Int)) => (some o1)))
noncomputable def Zx : QmV := Qe7 Ww
theorem Zx.eq (a0 : (List Int)) (a1 : (List Int)) (a2 : (List Int)) : Zx a0 a1 a2 = Qe7 Ww a0 a1 a2 := rfl
noncomputable def QsF (a0 : (List Int)) (a1 : (List Int)) (a2 : (List Int)) : Pn True (lw 0 16) Qe6 := (QnJ (UM.mk a0 a1 a2 i0 ([] : List Int)) (fun o1 => (pR o1)))
theorem Zx.ok {a0 : (List Int)} {a1 : (List Int)} {a2 : (List Int)} {r : (List Int)} (h : Zx a0 a1 a2 = some r) : ww 16 [.sl (QS a0),.sl (QS a1),.sl (R_u8 a2)] [] = some (Qe6 r) := fnQ (QsF a0 a1 a2) h
noncomputable abbrev QsG {Γ : Prop} {lp : Loops} {ρ R : Type} {en : ρ → R} (a0 : (List Int)) (a1 : (List Int)) (a2 : (List Int)) (k : (List Int) → Pn Γ lp en) : Pn Γ lp en := pC (ww 16 [.sl (QS a0),.sl (QS a1),.sl (R_u8 a2)] []) (Zx a0 a1 a2) Qe6 (fun _ => Zx.ok) k
abbrev QmW := Int → Option Int
def Qe8 (a0 : Int) : Option Int := (bif (decide ((shrI .u8 a0 (4 : Int)) < 8)) then (bif ((andI .u8 (shrI .u8 a0 (4 : Int)) (1 : Int)) == 1) then (some (4 : Int)) else (some (2 : Int))) else (some (2 : Int)))
noncomputable def YP : QmW := Qe8
theorem YP.eq (a0 : Int) : YP a0 = Qe8 a0 := rfl
noncomputable def QsH (a0 : Int) : Pn True (lw 0 138) Qq := (pU (decide (0 ≤ (zi 4))) rfl (let u46 := (decide ((shrI .u8 a0 (zi 4)) < 8)); pA u46 (pY u46 (fun g => g.2) (pU (decide (0 ≤ (zi 4))) rfl (pYN 3 u46 (fun g => g.2) (pA ((andI .u8 (shrI .u8 a0 (zi 4)) (zi 1)) == 1) (pR (zi 4)) (pR (zi 2)))))) (pNN 4 u46 (fun g => g.2) (pV false rfl (pR (zi 2))))))
theorem YP.ok {a0 : Int} {r : Int} (h : YP a0 = some r) : ww 138 [xb a0] [] = some (Qq r) := fnQ (QsH a0) h
noncomputable abbrev Qkv {Γ : Prop} {lp : Loops} {ρ R : Type} {en : ρ → R} (a0 : Int) (k : Int → Pn Γ lp en) : Pn Γ lp en := pC (ww 138 [xb a0] []) (YP a0) Qq (fun _ => YP.ok) k
def Qdv (r : (List Qa)) : AV × Heap := (.sl (QcV r),[])
abbrev WO := Option (List Qa)
def Qi3 : Option (List Qa) := (some [(Qa.mk GR (0 : Int) s_),(Qa.mk Pg (1 : Int) s_),(Qa.mk Qef (2 : Int) s_),(Qa.mk QbO (4 : Int) s_),(Qa.mk SO (6 : Int) s_),(Qa.mk QbU (32 : Int) s_X),(Qa.mk QbT (48 : Int) s_X),(Qa.mk SU (128 : Int) s_X),(Qa.mk SV (144 : Int) s_X),(Qa.mk Ph (160 : Int) s_X),(Qa.mk Pj (176 : Int) s_X),(Qa.mk Pe (192 : Int) s_X),(Qa.mk Pb (208 : Int) s_X),(Qa.mk Pf (224 : Int) s_X),(Qa.mk Pd (240 : Int) s_X),(Qa.mk Qed (256 : Int) QW),(Qa.mk QbM (1024 : Int) QW),(Qa.mk Pk (1280 : Int) QW),(Qa.mk QbY (1536 : Int) QW),(Qa.mk QbP (3072 : Int) QW),(Qa.mk SS (3328 : Int) QW),(Qa.mk SM (8192 : Int) Wf),(Qa.mk Pa (8704 : Int) Wf),(Qa.mk SY (9216 : Int) Wf),(Qa.mk SP (10752 : Int) Jk),(Qa.mk Qee (17408 : Int) QW),(Qa.mk SN (17664 : Int) QW),(Qa.mk QbN (17920 : Int) QW),(Qa.mk Qec (18432 : Int) F5),(Qa.mk F7 (24576 : Int) Jk),(Qa.mk F8 (25600 : Int) Jk),(Qa.mk F9 (26112 : Int) Jk),(Qa.mk SX (26624 : Int) Jk),(Qa.mk SW (27648 : Int) Jk),(Qa.mk QbQ (32768 : Int) Wq),(Qa.mk QbV (36864 : Int) Wq),(Qa.mk QbR (40960 : Int) Wr),(Qa.mk QbW (45056 : Int) Wr),(Qa.mk QbS (49152 : Int) Ws),(Qa.mk QbX (53248 : Int) Ws),(Qa.mk Y7 (57344 : Int) Yh),(Qa.mk Gg (59392 : Int) s_T8),(Qa.mk Y8 (59648 : Int) s_T8),(Qa.mk F6 (469762048 : Int) YO),(Qa.mk QbJ (402685952 : Int) ZS),(Qa.mk QbK (402702336 : Int) Ua),(Qa.mk Qd7 (402706432 : Int) Ua),(Qa.mk QbL (402710528 : Int) Ua),(Qa.mk QgF (1879048192 : Int) GQ),(Qa.mk Qd3 (805306368 : Int) Qz),(Qa.mk Qd8 (872415232 : Int) Qz),(Qa.mk Qd4 (939524096 : Int) Qz),(Qa.mk Qd6 (1342177280 : Int) Qz),(Qa.mk Qea (1409286144 : Int) Qz),(Qa.mk Qd5 (1476395008 : Int) Qz),(Qa.mk Qd9 (1543503872 : Int) Qz),(Qa.mk E8 (2013265920 : Int) Uo),(Qa.mk Gf (2013265921 : Int) Uo),(Qa.mk Gd (2046820352 : Int) Uh),(Qa.mk Qd2 (2046820353 : Int) Uh),(Qa.mk Qkq (2080375316 : Int) UT),(Qa.mk QgG (2080374864 : Int) UT),(Qa.mk Qeb (2080375254 : Int) UT),(Qa.mk Qkr (2080374840 : Int) US),(Qa.mk s_or (2080375672 : Int) US),(Qa.mk Qks (2080375416 : Int) US)])
noncomputable def JL : WO := Qi3
noncomputable def Qqy : Pn True (lw 0 139) Qdv := (pZ [[xs GR,.sc (.int .u32 i0),xs s_],[xs Pg,.sc (.int .u32 (zi 1)),xs s_],[xs Qef,.sc (.int .u32 (zi 2)),xs s_],[xs QbO,.sc (.int .u32 (zi 4)),xs s_],[xs SO,.sc (.int .u32 (zi 6)),xs s_],[xs QbU,.sc (.int .u32 (zi 32)),xs s_X],[xs QbT,.sc (.int .u32 (zi 48)),xs s_X],[xs SU,.sc (.int .u32 (zi 128)),xs s_X],[xs SV,.sc (.int .u32 (zi 144)),xs s_X],[xs Ph,.sc (.int .u32 (zi 160)),xs s_X],[xs Pj,.sc (.int .u32 (zi 176)),xs s_X],[xs Pe,.sc (.int .u32 (zi 192)),xs s_X],[xs Pb,.sc (.int .u32 (zi 208)),xs s_X],[xs Pf,.sc (.int .u32 (zi 224)),xs s_X],[xs Pd,.sc (.int .u32 (zi 240)),xs s_X],[xs Qed,.sc (.int .u32 (zi 256)),xs QW],[xs QbM,.sc (.int .u32 (zi 1024)),xs QW],[xs Pk,.sc (.int .u32 (zi 1280)),xs QW],[xs QbY,.sc (.int .u32 (zi 1536)),xs QW],[xs QbP,.sc (.int .u32 (zi 3072)),xs QW],[xs SS,.sc (.int .u32 (zi 3328)),xs QW],[xs SM,.sc (.int .u32 (zi 8192)),xs Wf],[xs Pa,.sc (.int .u32 (zi 8704)),xs Wf],[xs SY,.sc (.int .u32 (zi 9216)),xs Wf],[xs SP,.sc (.int .u32 (zi 10752)),xs Jk],[xs Qee,.sc (.int .u32 (zi 17408)),xs QW],[xs SN,.sc (.int .u32 (zi 17664)),xs QW],[xs QbN,.sc (.int .u32 (zi 17920)),xs QW],[xs Qec,.sc (.int .u32 (zi 18432)),xs F5],[xs F7,.sc (.int .u32 (zi 24576)),xs Jk],[xs F8,.sc (.int .u32 (zi 25600)),xs Jk],[xs F9,.sc (.int .u32 (zi 26112)),xs Jk],[xs SX,.sc (.int .u32 (zi 26624)),xs Jk],[xs SW,.sc (.int .u32 (zi 27648)),xs Jk],[xs QbQ,.sc (.int .u32 (zi 32768)),xs Wq],[xs QbV,.sc (.int .u32 (zi 36864)),xs Wq],[xs QbR,.sc (.int .u32 (zi 40960)),xs Wr],[xs QbW,.sc (.int .u32 (zi 45056)),xs Wr],[xs QbS,.sc (.int .u32 (zi 49152)),xs Ws],[xs QbX,.sc (.int .u32 (zi 53248)),xs Ws],[xs Y7,.sc (.int .u32 (zi 57344)),xs Yh],[xs Gg,.sc (.int .u32 (zi 59392)),xs s_T8],[xs Y8,.sc (.int .u32 (zi 59648)),xs s_T8],[xs F6,.sc (.int .u32 (zi 469762048)),xs YO],[xs QbJ,.sc (.int .u32 (zi 402685952)),xs ZS],[xs QbK,.sc (.int .u32 (zi 402702336)),xs Ua],[xs Qd7,.sc (.int .u32 (zi 402706432)),xs Ua],[xs QbL,.sc (.int .u32 (zi 402710528)),xs Ua],[xs QgF,.sc (.int .u32 (zi 1879048192)),xs GQ],[xs Qd3,.sc (.int .u32 (zi 805306368)),xs Qz],[xs Qd8,.sc (.int .u32 (zi 872415232)),xs Qz],[xs Qd4,.sc (.int .u32 (zi 939524096)),xs Qz],[xs Qd6,.sc (.int .u32 (zi 1342177280)),xs Qz],[xs Qea,.sc (.int .u32 (zi 1409286144)),xs Qz],[xs Qd5,.sc (.int .u32 (zi 1476395008)),xs Qz],[xs Qd9,.sc (.int .u32 (zi 1543503872)),xs Qz],[xs E8,.sc (.int .u32 (zi 2013265920)),xs Uo],[xs Gf,.sc (.int .u32 (zi 2013265921)),xs Uo],[xs Gd,.sc (.int .u32 (zi 2046820352)),xs Uh],[xs Qd2,.sc (.int .u32 (zi 2046820353)),xs Uh],[xs Qkq,.sc (.int .u32 (zi 2080375316)),xs UT],[xs QgG,.sc (.int .u32 (zi 2080374864)),xs UT],[xs Qeb,.sc (.int .u32 (zi 2080375254)),xs UT],[xs Qkr,.sc (.int .u32 (zi 2080374840)),xs US],[xs s_or,.sc (.int .u32 (zi 2080375672)),xs US],[xs Qks,.sc (.int .u32 (zi 2080375416)),xs US]] (QcV [(Qa.mk GR i0 s_),(Qa.mk Pg (zi 1) s_),(Qa.mk Qef (zi 2) s_),(Qa.mk QbO (zi 4) s_),(Qa.mk SO (zi 6) s_),(Qa.mk QbU (zi 32) s_X),(Qa.mk QbT (zi 48) s_X),(Qa.mk SU (zi 128) s_X),(Qa.mk SV (zi 144) s_X),(Qa.mk Ph (zi 160) s_X),(Qa.mk Pj (zi 176) s_X),(Qa.mk Pe (zi 192) s_X),(Qa.mk Pb (zi 208) s_X),(Qa.mk Pf (zi 224) s_X),(Qa.mk Pd (zi 240) s_X),(Qa.mk Qed (zi 256) QW),(Qa.mk QbM (zi 1024) QW),(Qa.mk Pk (zi 1280) QW),(Qa.mk QbY (zi 1536) QW),(Qa.mk QbP (zi 3072) QW),(Qa.mk SS (zi 3328) QW),(Qa.mk SM (zi 8192) Wf),(Qa.mk Pa (zi 8704) Wf),(Qa.mk SY (zi 9216) Wf),(Qa.mk SP (zi 10752) Jk),(Qa.mk Qee (zi 17408) QW),(Qa.mk SN (zi 17664) QW),(Qa.mk QbN (zi 17920) QW),(Qa.mk Qec (zi 18432) F5),(Qa.mk F7 (zi 24576) Jk),(Qa.mk F8 (zi 25600) Jk),(Qa.mk F9 (zi 26112) Jk),(Qa.mk SX (zi 26624) Jk),(Qa.mk SW (zi 27648) Jk),(Qa.mk QbQ (zi 32768) Wq),(Qa.mk QbV (zi 36864) Wq),(Qa.mk QbR (zi 40960) Wr),(Qa.mk QbW (zi 45056) Wr),(Qa.mk QbS (zi 49152) Ws),(Qa.mk QbX (zi 53248) Ws),(Qa.mk Y7 (zi 57344) Yh),(Qa.mk Gg (zi 59392) s_T8),(Qa.mk Y8 (zi 59648) s_T8),(Qa.mk F6 (zi 469762048) YO),(Qa.mk QbJ (zi 402685952) ZS),(Qa.mk QbK (zi 402702336) Ua),(Qa.mk Qd7 (zi 402706432) Ua),(Qa.mk QbL (zi 402710528) Ua),(Qa.mk QgF (zi 1879048192) GQ),(Qa.mk Qd3 (zi 805306368) Qz),(Qa.mk Qd8 (zi 872415232) Qz),(Qa.mk Qd4 (zi 939524096) Qz),(Qa.mk Qd6 (zi 1342177280) Qz),(Qa.mk Qea (zi 1409286144) Qz),(Qa.mk Qd5 (zi 1476395008) Qz),(Qa.mk Qd9 (zi 1543503872) Qz),(Qa.mk E8 (zi 2013265920) Uo),(Qa.mk Gf (zi 2013265921) Uo),(Qa.mk Gd (zi 2046820352) Uh),(Qa.mk Qd2 (zi 2046820353) Uh),(Qa.mk Qkq (zi 2080375316) UT),(Qa.mk QgG (zi 2080374864) UT),(Qa.mk Qeb (zi 2080375254) UT),(Qa.mk Qkr (zi 2080374840) US),(Qa.mk s_or (zi 2080375672) US),(Qa.mk Qks (zi 2080375416) US)]) (QfH [(Qa.mk GR i0 s_),(Qa.mk Pg (zi 1) s_),(Qa.mk Qef (zi 2) s_),(Qa.mk QbO (zi 4) s_),(Qa.mk SO (zi 6) s_),(Qa.mk QbU (zi 32) s_X),(Qa.mk QbT (zi 48) s_X),(Qa.mk SU (zi 128) s_X),(Qa.mk SV (zi 144) s_X),(Qa.mk Ph (zi 160) s_X),(Qa.mk Pj (zi 176) s_X),(Qa.mk Pe (zi 192) s_X),(Qa.mk Pb (zi 208) s_X),(Qa.mk Pf (zi 224) s_X),(Qa.mk Pd (zi 240) s_X),(Qa.mk Qed (zi 256) QW),(Qa.mk QbM (zi 1024) QW),(Qa.mk Pk (zi 1280) QW),(Qa.mk QbY (zi 1536) QW),(Qa.mk QbP (zi 3072) QW),(Qa.mk SS (zi 3328) QW),(Qa.mk SM (zi 8192) Wf),(Qa.mk Pa (zi 8704) Wf),(Qa.mk SY (zi 9216) Wf),(Qa.mk SP (zi 10752) Jk),(Qa.mk Qee (zi 17408) QW),(Qa.mk SN (zi 17664) QW),(Qa.mk QbN (zi 17920) QW),(Qa.mk Qec (zi 18432) F5),(Qa.mk F7 (zi 24576) Jk),(Qa.mk F8 (zi 25600) Jk),(Qa.mk F9 (zi 26112) Jk),(Qa.mk SX (zi 26624) Jk),(Qa.mk SW (zi 27648) Jk),(Qa.mk QbQ (zi 32768) Wq),(Qa.mk QbV (zi 36864) Wq),(Qa.mk QbR (zi 40960) Wr),(Qa.mk QbW (zi 45056) Wr),(Qa.mk QbS (zi 49152) Ws),(Qa.mk QbX (zi 53248) Ws),(Qa.mk Y7 (zi 57344) Yh),(Qa.mk Gg (zi 59392) s_T8),(Qa.mk Y8 (zi 59648) s_T8),(Qa.mk F6 (zi 469762048) YO),(Qa.mk QbJ (zi 402685952) ZS),(Qa.mk QbK (zi 402702336) Ua),(Qa.mk Qd7 (zi 402706432) Ua),(Qa.mk QbL (zi 402710528) Ua),(Qa.mk QgF (zi 1879048192) GQ),(Qa.mk Qd3 (zi 805306368) Qz),(Qa.mk Qd8 (zi 872415232) Qz),(Qa.mk Qd4 (zi 939524096) Qz),(Qa.mk Qd6 (zi 1342177280) Qz),(Qa.mk Qea (zi 1409286144) Qz),(Qa.mk Qd5 (zi 1476395008) Qz),(Qa.mk Qd9 (zi 1543503872) Qz),(Qa.mk E8 (zi 2013265920) Uo),(Qa.mk Gf (zi 2013265921) Uo),(Qa.mk Gd (zi 2046820352) Uh),(Qa.mk Qd2 (zi 2046820353) Uh),(Qa.mk Qkq (zi 2080375316) UT),(Qa.mk QgG (zi 2080374864) UT),(Qa.mk Qeb (zi 2080375254) UT),(Qa.mk Qkr (zi 2080374840) US),(Qa.mk s_or (zi 2080375672) US),(Qa.mk Qks (zi 2080375416) US)]) (pR [(Qa.mk GR i0 s_),(Qa.mk Pg (zi 1) s_),(Qa.mk Qef (zi 2) s_),(Qa.mk QbO (zi 4) s_),(Qa.mk SO (zi 6) s_),(Qa.mk QbU (zi 32) s_X),(Qa.mk QbT (zi 48) s_X),(Qa.mk SU (zi 128) s_X),(Qa.mk SV (zi 144) s_X),(Qa.mk Ph (zi 160) s_X),(Qa.mk Pj (zi 176) s_X),(Qa.mk Pe (zi 192) s_X),(Qa.mk Pb (zi 208) s_X),(Qa.mk Pf (zi 224) s_X),(Qa.mk Pd (zi 240) s_X),(Qa.mk Qed (zi 256) QW),(Qa.mk QbM (zi 1024) QW),(Qa.mk Pk (zi 1280) QW),(Qa.mk QbY (zi 1536) QW),(Qa.mk QbP (zi 3072) QW),(Qa.mk SS (zi 3328) QW),(Qa.mk SM (zi 8192) Wf),(Qa.mk Pa (zi 8704) Wf),(Qa.mk SY (zi 9216) Wf),(Qa.mk SP (zi 10752) Jk),(Qa.mk Qee (zi 17408) QW),(Qa.mk SN (zi 17664) QW),(Qa.mk QbN (zi 17920) QW),(Qa.mk Qec (zi 18432) F5),(Qa.mk F7 (zi 24576) Jk),(Qa.mk F8 (zi 25600) Jk),(Qa.mk F9 (zi 26112) Jk),(Qa.mk SX (zi 26624) Jk),(Qa.mk SW (zi 27648) Jk),(Qa.mk QbQ (zi 32768) Wq),(Qa.mk QbV (zi 36864) Wq),(Qa.mk QbR (zi 40960) Wr),(Qa.mk QbW (zi 45056) Wr),(Qa.mk QbS (zi 49152) Ws),(Qa.mk QbX (zi 53248) Ws),(Qa.mk Y7 (zi 57344) Yh),(Qa.mk Gg (zi 59392) s_T8),(Qa.mk Y8 (zi 59648) s_T8),(Qa.mk F6 (zi 469762048) YO),(Qa.mk QbJ (zi 402685952) ZS),(Qa.mk QbK (zi 402702336) Ua),(Qa.mk Qd7 (zi 402706432) Ua),(Qa.mk QbL (zi 402710528) Ua),(Qa.mk QgF (zi 1879048192) GQ),(Qa.mk Qd3 (zi 805306368) Qz),(Qa.mk Qd8 (zi 872415232) Qz),(Qa.mk Qd4 (zi 939524096) Qz),(Qa.mk Qd6 (zi 1342177280) Qz),(Qa.mk Qea (zi 1409286144) Qz),(Qa.mk Qd5 (zi 1476395008) Qz),(Qa.mk Qd9 (zi 1543503872) Qz),(Qa.mk E8 (zi 2013265920) Uo),(Qa.mk Gf (zi 2013265921) Uo),(Qa.mk Gd (zi 2046820352) Uh),(Qa.mk Qd2 (zi 2046820353) Uh),(Qa.mk Qkq (zi 2080375316) UT),(Qa.mk QgG (zi 2080374864) UT),(Qa.mk Qeb (zi 2080375254) UT),(Qa.mk Qkr (zi 2080374840) US),(Qa.mk s_or (zi 2080375672) US),(Qa.mk Qks (zi 2080375416) US)]))
theorem JL.ok {r : (List Qa)} (h : JL = some r) : ww 139 [] [] = some (Qdv r) := fnQ (Qqy) h
noncomputable abbrev EY {Γ : Prop} {lp : Loops} {ρ R : Type} {en : ρ → R} (k : (List Qa) → Pn Γ lp en) : Pn Γ lp en := pC (ww 139 [] []) (JL) Qdv (fun _ => JL.ok) k
noncomputable def JL.s : Nat → Option (List Qa)
 | 0 => none
 | k + 1 => Qi3
theorem JL.cv : Cv (fun k => JL.s k ) (JL ) := .un rfl (by exact .const _)
abbrev Ey := Qa → Option ByteArray
def Qc1 (a0 : Qa) : Option ByteArray := (some a0.name)
noncomputable def VM : Ey := Qc1
noncomputable def Qkw (a0 : Qa) : Pn True (lw 0 167) QQ := (pR a0.name)
theorem VM.ok {a0 : Qa} {r : ByteArray} (h : VM a0 = some r) : ww 167 [.agg (Yg a0)] [] = some (QQ r) := fnQ (Qkw a0) h
noncomputable abbrev Qkx {Γ : Prop} {lp : Loops} {ρ R : Type} {en : ρ → R} (a0 : Qa) (k : ByteArray → Pn Γ lp en) : Pn Γ lp en := pC (ww 167 [.agg (Yg a0)] []) (VM a0) QQ (fun _ => VM.ok) k
noncomputable def VM.s : Nat → Qa → Option ByteArray
 | 0,_ => none
 | k + 1,a0 => Qc1 a0
theorem VM.cv (a0 : Qa) : Cv (fun k => VM.s k a0) (VM a0) := .un rfl (by exact .const _)
abbrev Qim := Int → Option ByteArray
def Fp (C0 : WO) (C1 : Ey) (a0 : Int) : Option ByteArray := ((C0).bind fun r1 => (bif (decide (a0 ≥ 0)) then (bif (decide (a0 < (((r1.length) : Nat) : Int))) then (bif (decide (0 ≤ a0)) then ((r1[(Int.toNat a0)]?).bind fun e2 => ((C1 e2).bind fun r3 => (some r3))) else none) else (some s_)) else (some s_)))
theorem QvJ {C0 : Nat → WO} {D0 : WO} (H0 : Cv C0 D0) {C1 : Nat → Ey} {D1 : Ey} (H1 : Cv1 C1 D1) (a0 : Int) : Cv (fun k => Fp (C0 k) (C1 k) a0) (Fp D0 D1 a0) := by
 unfold Fp
 exact .bind (H0) fun r1 => .cond (.cond (.cond (.bind (.const _) fun e2 => .bind (H1 _) fun r3 => by exact .const _) cst) cst) cst
noncomputable def YQ : Qim := Fp JL VM
theorem YQ.eq (a0 : Int) : YQ a0 = Fp JL VM a0 := rfl
noncomputable def QvK (a0 : Int) : Pn True (lw 0 166) QQ := (EY fun r1 => (let u47 := (decide (a0 ≥ 0)); pA u47 (pYN 2 u47 (fun g => g.2) (pH Zi r1 (pYN 2 u47 (fun g => g.2) (pA (decide (a0 < (((r1.length) : Nat) : Int))) (pA (decide (0 ≤ a0)) (pI Zi r1 a0 fun e2 => (Qkx e2 fun r3 => (pR r3))) pF) (pR s_))))) (pNN 4 u47 (fun g => g.2) (pV false rfl (pR s_)))))
theorem YQ.ok {a0 : Int} {r : ByteArray} (h : YQ a0 = some r) : ww 166 [xi a0,.fn (.func 167) [] []] [] = some (QQ r) := fnQ (QvK a0) h
noncomputable abbrev QvL {Γ : Prop} {lp : Loops} {ρ R : Type} {en : ρ → R} (a0 : Int) (k : ByteArray → Pn Γ lp en) : Pn Γ lp en := pC (ww 166 [xi a0,.fn (.func 167) [] []] []) (YQ a0) QQ (fun _ => YQ.ok) k
noncomputable def YQ.s : Nat → Int → Option ByteArray
 | 0,_ => none
 | k + 1,a0 => Fp (JL.s k) (VM.s k) a0
theorem YQ.cv (a0 : Int) : Cv (fun k => YQ.s k a0) (YQ a0) := .un rfl (QvJ JL.cv VM.cv a0)
abbrev FN := Int → Option ByteArray
def Z6 (C0 : Qim) (a0 : Int) : Option ByteArray := ((C0 a0).bind fun r1 => (some r1))
theorem QsI {C0 : Nat → Qim} {D0 : Qim} (H0 : Cv1 C0 D0) (a0 : Int) : Cv (fun k => Z6 (C0 k) a0) (Z6 D0 a0) := by
 unfold Z6
 exact .bind (H0 _) fun r1 => by exact .const _
noncomputable def Jr : FN := Z6 YQ
theorem Jr.eq (a0 : Int) : Jr a0 = Z6 YQ a0 := rfl
noncomputable def QsJ (a0 : Int) : Pn True (lw 0 110) QQ := (QvL a0 fun r1 => (pR r1))
theorem Jr.ok {a0 : Int} {r : ByteArray} (h : Jr a0 = some r) : ww 110 [xi a0] [] = some (QQ r) := fnQ (QsJ a0) h
noncomputable abbrev Qbo {Γ : Prop} {lp : Loops} {ρ R : Type} {en : ρ → R} (a0 : Int) (k : ByteArray → Pn Γ lp en) : Pn Γ lp en := pC (ww 110 [xi a0] []) (Jr a0) QQ (fun _ => Jr.ok) k
noncomputable def Jr.s : Nat → Int → Option ByteArray
 | 0,_ => none
 | k + 1,a0 => Z6 (YQ.s k) a0
theorem Jr.cv (a0 : Int) : Cv (fun k => Jr.s k a0) (Jr a0) := .un rfl (QsI YQ.cv a0)
abbrev QmX := Int → Option Int
def Pr (C0 : FN) (a0 : Int) : Option Int := ((C0 a0).bind fun r1 => (bif (eqS r1 s_) then (some (0 : Int)) else (bif (decide (a0 < 43)) then (some (2 : Int)) else (some (4 : Int)))))
theorem QsK {C0 : Nat → FN} {D0 : FN} (H0 : Cv1 C0 D0) (a0 : Int) : Cv (fun k => Pr (C0 k) a0) (Pr D0 a0) := by
 unfold Pr
 exact .bind (H0 _) fun r1 => by exact .const _
noncomputable def WW : QmX := Pr Jr
noncomputable def QsL (a0 : Int) : Pn True (lw 0 140) Qq := (Qbo a0 fun r1 => (pA (eqS r1 s_) (pR i0) (pA (decide (a0 < 43)) (pR (zi 2)) (pR (zi 4)))))
theorem WW.ok {a0 : Int} {r : Int} (h : WW a0 = some r) : ww 140 [xi a0] [] = some (Qq r) := fnQ (QsL a0) h
noncomputable abbrev QsM {Γ : Prop} {lp : Loops} {ρ R : Type} {en : ρ → R} (a0 : Int) (k : Int → Pn Γ lp en) : Pn Γ lp en := pC (ww 140 [xi a0] []) (WW a0) Qq (fun _ => WW.ok) k
noncomputable def WW.s : Nat → Int → Option Int
 | 0,_ => none
 | k + 1,a0 => Pr (Jr.s k) a0
theorem WW.cv (a0 : Int) : Cv (fun k => WW.s k a0) (WW a0) := .un rfl (QsK Jr.cv a0)
abbrev GG := ByteArray → Option (List ByteArray)
noncomputable def JU (a0 : ByteArray) : Option (List ByteArray) := fieldsS a0
theorem JU.ok {a0 : ByteArray} {r : (List ByteArray)} (h : JU a0 = some r) : ww 145 [xs a0] [] = some (UI r) := (FI rfl _ _).trans (QtU h)
noncomputable abbrev Qb7 {Γ : Prop} {lp : Loops} {ρ R : Type} {en : ρ → R} (a0 : ByteArray) (k : (List ByteArray) → Pn Γ lp en) : Pn Γ lp en := pC (ww 145 [xs a0] []) (JU a0) UI (fun _ => JU.ok) k
noncomputable def JU.s : Nat → ByteArray → Option (List ByteArray)
 | 0,_ => none
 | _ + 1,a0 => fieldsS a0
theorem JU.cv (a0 : ByteArray) : Cv (fun k => JU.s k a0) (JU a0) := .un rfl (.const _)
abbrev Fc := Qa → Option (List ByteArray)
def ZV (C0 : GG) (a0 : Qa) : Option (List ByteArray) := ((C0 a0.kinds).bind fun r1 => (some r1))
theorem QlR {C0 : Nat → GG} {D0 : GG} (H0 : Cv1 C0 D0) (a0 : Qa) : Cv (fun k => ZV (C0 k) a0) (ZV D0 a0) := by
 unfold ZV
 exact .bind (H0 _) fun r1 => by exact .const _
noncomputable def WX : Fc := ZV JU
noncomputable def QlS (a0 : Qa) : Pn True (lw 0 142) UI := (Qb7 a0.kinds fun r1 => (pR r1))
theorem WX.ok {a0 : Qa} {r : (List ByteArray)} (h : WX a0 = some r) : ww 142 [.agg (Yg a0)] [] = some (UI r) := fnQ (QlS a0) h
noncomputable abbrev QlT {Γ : Prop} {lp : Loops} {ρ R : Type} {en : ρ → R} (a0 : Qa) (k : (List ByteArray) → Pn Γ lp en) : Pn Γ lp en := pC (ww 142 [.agg (Yg a0)] []) (WX a0) UI (fun _ => WX.ok) k
noncomputable def WX.s : Nat → Qa → Option (List ByteArray)
 | 0,_ => none
 | k + 1,a0 => ZV (JU.s k) a0
theorem WX.cv (a0 : Qa) : Cv (fun k => WX.s k a0) (WX a0) := .un rfl (QlR JU.cv a0)
abbrev QgT := Int → Option (List ByteArray)
def Ps (C0 : WO) (C1 : Fc) (a0 : Int) : Option (List ByteArray) := ((C0).bind fun r1 => (bif (decide (a0 ≥ 0)) then (bif (decide (a0 < (((r1.length) : Nat) : Int))) then (bif (decide (0 ≤ a0)) then ((r1[(Int.toNat a0)]?).bind fun e2 => ((C1 e2).bind fun r3 => (some r3))) else none) else (some ([] : List ByteArray))) else (some ([] : List ByteArray))))
theorem QsN {C0 : Nat → WO} {D0 : WO} (H0 : Cv C0 D0) {C1 : Nat → Fc} {D1 : Fc} (H1 : Cv1 C1 D1) (a0 : Int) : Cv (fun k => Ps (C0 k) (C1 k) a0) (Ps D0 D1 a0) := by
 unfold Ps
 exact .bind (H0) fun r1 => .cond (.cond (.cond (.bind (.const _) fun e2 => .bind (H1 _) fun r3 => by exact .const _) cst) cst) cst
noncomputable def WH : QgT := Ps JL WX
noncomputable def QsO (a0 : Int) : Pn True (lw 0 141) UI := (EY fun r1 => (let u48 := (decide (a0 ≥ 0)); pA u48 (pYN 2 u48 (fun g => g.2) (pH Zi r1 (pYN 2 u48 (fun g => g.2) (pA (decide (a0 < (((r1.length) : Nat) : Int))) (pA (decide (0 ≤ a0)) (pI Zi r1 a0 fun e2 => (QlT e2 fun r3 => (pR r3))) pF) (pR ([] : List ByteArray)))))) (pNN 4 u48 (fun g => g.2) (pV false rfl (pR ([] : List ByteArray))))))
theorem WH.ok {a0 : Int} {r : (List ByteArray)} (h : WH a0 = some r) : ww 141 [xi a0,.fn (.func 142) [] []] [] = some (UI r) := fnQ (QsO a0) h
noncomputable abbrev Qky {Γ : Prop} {lp : Loops} {ρ R : Type} {en : ρ → R} (a0 : Int) (k : (List ByteArray) → Pn Γ lp en) : Pn Γ lp en := pC (ww 141 [xi a0,.fn (.func 142) [] []] []) (WH a0) UI (fun _ => WH.ok) k
noncomputable def WH.s : Nat → Int → Option (List ByteArray)
 | 0,_ => none
 | k + 1,a0 => Ps (JL.s k) (WX.s k) a0
theorem WH.cv (a0 : Int) : Cv (fun k => WH.s k a0) (WH a0) := .un rfl (QsN JL.cv WX.cv a0)
def Qb8 (r : (QA × Bool)) : AV × Heap := (.tup [.agg (EU r.1),xo r.2],[])
abbrev EZ := ByteArray → Option (QA × Bool)
def QgU (a0 : ByteArray) : Option (QA × Bool) := (bif (eqS a0 s_U5) then (some ((QA.mk (4 : Int) (5 : Int) (1 : Int) (0 : Int)),true)) else (bif (eqS a0 s_U7) then (some ((QA.mk (4 : Int) (7 : Int) (1 : Int) (0 : Int)),true)) else (bif (eqS a0 s_O5) then (some ((QA.mk (4 : Int) (5 : Int) (1 : Int) (1 : Int)),true)) else (bif (eqS a0 s_M1) then (some ((QA.mk (8 : Int) (4 : Int) (1 : Int) (0 : Int)),true)) else (bif (eqS a0 s_M2) then (some ((QA.mk (8 : Int) (4 : Int) (2 : Int) (0 : Int)),true)) else (bif (eqS a0 s_M4) then (some ((QA.mk (8 : Int) (4 : Int) (4 : Int) (0 : Int)),true)) else (bif (eqS a0 s_O1) then (some ((QA.mk (10 : Int) (1 : Int) (1 : Int) (0 : Int)),true)) else (bif (eqS a0 s_I2) then (some ((QA.mk (8 : Int) (2 : Int) (1 : Int) (0 : Int)),true)) else (bif (eqS a0 s_D) then (some ((QA.mk (21 : Int) (5 : Int) (1 : Int) (0 : Int)),true)) else (bif (eqS a0 s_A) then (some ((QA.mk (16 : Int) (5 : Int) (1 : Int) (0 : Int)),true)) else (bif (eqS a0 s_B) then (some ((QA.mk (11 : Int) (5 : Int) (1 : Int) (0 : Int)),true)) else (bif (eqS a0 s_O2) then (some ((QA.mk (20 : Int) (2 : Int) (1 : Int) (0 : Int)),true)) else (bif (eqS a0 s_I4) then (some ((QA.mk (16 : Int) (4 : Int) (1 : Int) (0 : Int)),true)) else (some ((QA.mk (0 : Int) (0 : Int) (0 : Int) (0 : Int)),false)))))))))))))))
noncomputable def QG : EZ := QgU
noncomputable def Qpa (a0 : ByteArray) : Pn True (lw 0 188) Qb8 := (pA (eqS a0 s_U5) (pR ((QA.mk (zi 4) (zi 5) (zi 1) i0),true)) (pA (eqS a0 s_U7) (pR ((QA.mk (zi 4) (zi 7) (zi 1) i0),true)) (pA (eqS a0 s_O5) (pR ((QA.mk (zi 4) (zi 5) (zi 1) (zi 1)),true)) (pA (eqS a0 s_M1) (pR ((QA.mk (zi 8) (zi 4) (zi 1) i0),true)) (pA (eqS a0 s_M2) (pR ((QA.mk (zi 8) (zi 4) (zi 2) i0),true)) (pA (eqS a0 s_M4) (pR ((QA.mk (zi 8) (zi 4) (zi 4) i0),true)) (pA (eqS a0 s_O1) (pR ((QA.mk (zi 10) (zi 1) (zi 1) i0),true)) (pA (eqS a0 s_I2) (pR ((QA.mk (zi 8) (zi 2) (zi 1) i0),true)) (pA (eqS a0 s_D) (pR ((QA.mk (zi 21) (zi 5) (zi 1) i0),true)) (pA (eqS a0 s_A) (pR ((QA.mk (zi 16) (zi 5) (zi 1) i0),true)) (pA (eqS a0 s_B) (pR ((QA.mk (zi 11) (zi 5) (zi 1) i0),true)) (pA (eqS a0 s_O2) (pR ((QA.mk (zi 20) (zi 2) (zi 1) i0),true)) (pA (eqS a0 s_I4) (pR ((QA.mk (zi 16) (zi 4) (zi 1) i0),true)) (pR ((QA.mk i0 i0 i0 i0),false)))))))))))))))
theorem QG.ok {a0 : ByteArray} {r : (QA × Bool)} (h : QG a0 = some r) : ww 188 [xs a0] [] = some (Qb8 r) := fnQ (Qpa a0) h
noncomputable abbrev QgV {Γ : Prop} {lp : Loops} {ρ R : Type} {en : ρ → R} (a0 : ByteArray) (k : (QA × Bool) → Pn Γ lp en) : Pn Γ lp en := pC (ww 188 [xs a0] []) (QG a0) Qb8 (fun _ => QG.ok) k
noncomputable def QG.s : Nat → ByteArray → Option (QA × Bool)
 | 0,_ => none
 | k + 1,a0 => QgU a0
theorem QG.cv (a0 : ByteArray) : Cv (fun k => QG.s k a0) (QG a0) := .un rfl (by exact .const _)
abbrev Qej := QA → Int → Option Int
def Pt (a0 : QA) (a1 : Int) : Option Int := (bif (decide (0 ≤ a0.at_)) then (bif (decide (0 ≤ a0.bits)) then (some (w64 ((w64 ((w64 (andI .u32 (shrI .u32 a1 a0.at_) (IntKind.u32.wrap ((shlI .u32 (1 : Int) a0.bits) - 1)))) * a0.step)) + a0.less))) else none) else none)
noncomputable def W6 : Qej := Pt
theorem W6.eq (a0 : QA) (a1 : Int) : W6 a0 a1 = Pt a0 a1 := rfl
noncomputable def Qkz (a0 : QA) (a1 : Int) : Pn True (lw 0 189) Qq := (pA (decide (0 ≤ a0.at_)) (pA (decide (0 ≤ a0.bits)) (pR (w64 ((w64 ((w64 (andI .u32 (shrI .u32 a1 a0.at_) (IntKind.u32.wrap ((shlI .u32 (zi 1) a0.bits) - 1)))) * a0.step)) + a0.less))) pF) pF)
theorem W6.ok {a0 : QA} {a1 : Int} {r : Int} (h : W6 a0 a1 = some r) : ww 189 [.agg (EU a0),.sc (.int .u32 a1)] [] = some (Qq r) := fnQ (Qkz a0 a1) h
noncomputable abbrev QkA {Γ : Prop} {lp : Loops} {ρ R : Type} {en : ρ → R} (a0 : QA) (a1 : Int) (k : Int → Pn Γ lp en) : Pn Γ lp en := pC (ww 189 [.agg (EU a0),.sc (.int .u32 a1)] []) (W6 a0 a1) Qq (fun _ => W6.ok) k
def Qdw (r : Int) : AV × Heap := (.sc (.int .u64 r),[])
abbrev Pu := ByteArray → Option Int
def Qi4 (a0 : ByteArray) : Option Int := (bif (eqS a0 s_Y) then (some (4 : Int)) else (some (0 : Int)))
noncomputable def Vo : Pu := Qi4
noncomputable def Qqz (a0 : ByteArray) : Pn True (lw 0 190) Qdw := (pA (eqS a0 s_Y) (pR (zi 4)) (pR i0))
theorem Vo.ok {a0 : ByteArray} {r : Int} (h : Vo a0 = some r) : ww 190 [xs a0] [] = some (Qdw r) := fnQ (Qqz a0) h
noncomputable abbrev Gn {Γ : Prop} {lp : Loops} {ρ R : Type} {en : ρ → R} (a0 : ByteArray) (k : Int → Pn Γ lp en) : Pn Γ lp en := pC (ww 190 [xs a0] []) (Vo a0) Qdw (fun _ => Vo.ok) k
noncomputable def Vo.s : Nat → ByteArray → Option Int
 | 0,_ => none
 | k + 1,a0 => Qi4 a0
theorem Vo.cv (a0 : ByteArray) : Cv (fun k => Vo.s k a0) (Vo a0) := .un rfl (by exact .const _)
abbrev FO := Int → Int → Option Int
def Pv (a0 : Int) (a1 : Int) : Option Int := (bif (decide (0 ≤ (w64 ((64 : Int) - (if (64 : Int) < (if (1 : Int) > a1 then (1 : Int) else a1) then (64 : Int) else (if (1 : Int) > a1 then (1 : Int) else a1)))))) then (some (shrI .i64 (shlI .i64 a0 (w64 ((64 : Int) - (if (64 : Int) < (if (1 : Int) > a1 then (1 : Int) else a1) then (64 : Int) else (if (1 : Int) > a1 then (1 : Int) else a1))))) (w64 ((64 : Int) - (if (64 : Int) < (if (1 : Int) > a1 then (1 : Int) else a1) then (64 : Int) else (if (1 : Int) > a1 then (1 : Int) else a1)))))) else none)
noncomputable def JA : FO := Pv
theorem JA.eq (a0 : Int) (a1 : Int) : JA a0 a1 = Pv a0 a1 := rfl
noncomputable def QsP (a0 : Int) (a1 : Int) : Pn True (lw 0 193) Qq := (let u49 := (decide (0 ≤ (w64 ((zi 64) - (if (zi 64) < (if (zi 1) > a1 then (zi 1) else a1) then (zi 64) else (if (zi 1) > a1 then (zi 1) else a1)))))); pA u49 (pY u49 (fun g => g.2) (pR (shrI .i64 (shlI .i64 a0 (w64 ((zi 64) - (if (zi 64) < (if (zi 1) > a1 then (zi 1) else a1) then (zi 64) else (if (zi 1) > a1 then (zi 1) else a1))))) (w64 ((zi 64) - (if (zi 64) < (if (zi 1) > a1 then (zi 1) else a1) then (zi 64) else (if (zi 1) > a1 then (zi 1) else a1))))))) pF)
theorem JA.ok {a0 : Int} {a1 : Int} {r : Int} (h : JA a0 a1 = some r) : ww 193 [xi a0,xi a1] [] = some (Qq r) := fnQ (QsP a0 a1) h
noncomputable abbrev Pw {Γ : Prop} {lp : Loops} {ρ R : Type} {en : ρ → R} (a0 : Int) (a1 : Int) (k : Int → Pn Γ lp en) : Pn Γ lp en := pC (ww 193 [xi a0,xi a1] []) (JA a0 a1) Qq (fun _ => JA.ok) k
noncomputable def JA.s : Nat → Int → Int → Option Int
 | 0,_,_ => none
 | k + 1,a0,a1 => Pv a0 a1
theorem JA.cv (a0 : Int) (a1 : Int) : Cv (fun k => JA.s k a0 a1) (JA a0 a1) := .un rfl (by exact .const _)
abbrev Qi5 := Int → Int → Int → Option Int
def Qb9 (C0 : FO) (a0 : Int) (a1 : Int) (a2 : Int) : Option Int := ((C0 (orI .i64 (orI .i64 (shlI .i64 a0 (16 : Int)) (shlI .i64 a1 (11 : Int))) a2) (20 : Int)).bind fun r1 => (some r1))
noncomputable def XP : Qi5 := Qb9 JA
theorem XP.eq (a0 : Int) (a1 : Int) (a2 : Int) : XP a0 a1 a2 = Qb9 JA a0 a1 a2 := rfl
noncomputable def Qpb (a0 : Int) (a1 : Int) (a2 : Int) : Pn True (lw 0 191) Qq := (pU (decide (0 ≤ (zi 16))) rfl (pU (decide (0 ≤ (zi 11))) rfl (Pw (orI .i64 (orI .i64 (shlI .i64 a0 (zi 16)) (shlI .i64 a1 (zi 11))) a2) (zi 20) fun r1 => (pR r1))))
theorem XP.ok {a0 : Int} {a1 : Int} {a2 : Int} {r : Int} (h : XP a0 a1 a2 = some r) : ww 191 [xi a0,xi a1,xi a2] [] = some (Qq r) := fnQ (Qpb a0 a1 a2) h
noncomputable abbrev Qpc {Γ : Prop} {lp : Loops} {ρ R : Type} {en : ρ → R} (a0 : Int) (a1 : Int) (a2 : Int) (k : Int → Pn Γ lp en) : Pn Γ lp en := pC (ww 191 [xi a0,xi a1,xi a2] []) (XP a0 a1 a2) Qq (fun _ => XP.ok) k
abbrev S8 := Int → Int → Int → Option Int
structure Ju where
 x0 : Int
 x1 : Int
 x2 : Int
 x7 : Int
 x8 : Int
def QaE (a : Ju) : St := { n := 27,nx := 0,env := [(0,xi a.x0),(1,xi a.x1),(2,xi a.x2),(7,xi a.x7),(8,xi a.x8)],heap := [] }
def QaF (a : Int) : Ex × St := (.exit 0,{ n := 27,nx := 0,env := [(7,xi a)],heap := [] })
abbrev GW := Ju → Option Int
def Y9 (a : Ju) : Option (Ju ⊕ Int) := (bif (decide (a.x8 ≥ 0)) then (bif (a.x0 == 1) then (bif (a.x8 == a.x1) then (some (.inl (Ju.mk a.x0 a.x1 a.x2 (orI .i64 (shlI .i64 a.x7 (8 : Int)) (andI .i64 a.x2 (255 : Int))) (w64 (a.x8 - 1))))) else (some (.inl (Ju.mk a.x0 a.x1 a.x2 (orI .i64 (shlI .i64 a.x7 (8 : Int)) (255 : Int)) (w64 (a.x8 - 1)))))) else (bif (a.x8 == a.x1) then (some (.inl (Ju.mk a.x0 a.x1 a.x2 (orI .i64 (shlI .i64 a.x7 (8 : Int)) (andI .i64 a.x2 (255 : Int))) (w64 (a.x8 - 1))))) else (some (.inl (Ju.mk a.x0 a.x1 a.x2 (orI .i64 (shlI .i64 a.x7 (8 : Int)) (0 : Int)) (w64 (a.x8 - 1))))))) else (some (.inr a.x7)))
noncomputable def Uu.s (k : Nat) : GW := iter (Y9 ) k
theorem Uu.cv (a : Ju) : Cv (fun k => Uu.s k a) (loopW (Y9 ) a) := Cv.iter (fun a => by exact .const _) a
noncomputable def Uu : GW := loopW (Y9 )
theorem Uu.eq (a : Ju) : Uu a = (Y9 a).bind (Sum.elim Uu some) := QK _ _
noncomputable def QnK (a : Ju) : Pn True (lw 0 192) (Sum.elim (fun a => (Ex.norm,QaE a)) QaF) := (pA (decide (a.x8 ≥ 0)) (pA (a.x0 == 1) (pA (a.x8 == a.x1) (pU (decide (0 ≤ (zi 8))) rfl (pR (.inl (Ju.mk a.x0 a.x1 a.x2 (orI .i64 (shlI .i64 a.x7 (zi 8)) (andI .i64 a.x2 (zi 255))) (w64 (a.x8 - 1)))))) (pU (decide (0 ≤ (zi 8))) rfl (pR (.inl (Ju.mk a.x0 a.x1 a.x2 (orI .i64 (shlI .i64 a.x7 (zi 8)) (zi 255)) (w64 (a.x8 - 1))))))) (pA (a.x8 == a.x1) (pU (decide (0 ≤ (zi 8))) rfl (pR (.inl (Ju.mk a.x0 a.x1 a.x2 (orI .i64 (shlI .i64 a.x7 (zi 8)) (andI .i64 a.x2 (zi 255))) (w64 (a.x8 - 1)))))) (pU (decide (0 ≤ (zi 8))) rfl (pR (.inl (Ju.mk a.x0 a.x1 a.x2 (orI .i64 (shlI .i64 a.x7 (zi 8)) i0) (w64 (a.x8 - 1)))))))) (pR (.inr a.x7)))
theorem Uu.ok {a : Ju} {r : Int} (h : Uu a = some r) : lw 0 192 (loopAt pp 192 3) (QaE a) = some (QaF r) := lpQ QnK h
noncomputable abbrev QnL {Γ : Prop} {ρ R : Type} {en : ρ → R} (a : Ju) (k0 : Int → Pn Γ (lw 0 192) en) : Pn Γ (lw 0 192) en := p1 (loopAt pp 192 3) (QaE a) (Uu a) QaF (fun _ => Uu.ok) k0
def Z7 (C0 : FO) (L1 : GW) (a0 : Int) (a1 : Int) (a2 : Int) : Option Int := ((L1 (Ju.mk a0 a1 a2 (0 : Int) (3 : Int))).bind (fun (o1 : Int) => ((C0 o1 (32 : Int)).bind fun r2 => (some r2))))
theorem QsQ {C0 : Nat → FO} {D0 : FO} (H0 : Cv2 C0 D0) {L1 : Nat → GW} {M1 : GW} (N1 : Cv1 L1 M1) (a0 : Int) (a1 : Int) (a2 : Int) : Cv (fun k => Z7 (C0 k) (L1 k) a0 a1 a2) (Z7 D0 M1 a0 a1 a2) := by
 unfold Z7
 exact .bind (N1 _) (fun o1 => .bind (H0 _ _) fun r2 => by exact .const _)
noncomputable def VS : S8 := Z7 JA Uu
theorem VS.eq (a0 : Int) (a1 : Int) (a2 : Int) : VS a0 a1 a2 = Z7 JA Uu a0 a1 a2 := rfl
noncomputable def QsR (a0 : Int) (a1 : Int) (a2 : Int) : Pn True (lw 0 192) Qq := (QnL (Ju.mk a0 a1 a2 i0 (zi 3)) (fun o1 => (Pw o1 (zi 32) fun r2 => (pR r2))))
theorem VS.ok {a0 : Int} {a1 : Int} {a2 : Int} {r : Int} (h : VS a0 a1 a2 = some r) : ww 192 [xi a0,xi a1,xi a2] [] = some (Qq r) := fnQ (QsR a0 a1 a2) h
noncomputable abbrev QkB {Γ : Prop} {lp : Loops} {ρ R : Type} {en : ρ → R} (a0 : Int) (a1 : Int) (a2 : Int) (k : Int → Pn Γ lp en) : Pn Γ lp en := pC (ww 192 [xi a0,xi a1,xi a2] []) (VS a0 a1 a2) Qq (fun _ => VS.ok) k
noncomputable def VS.s : Nat → Int → Int → Int → Option Int
 | 0,_,_,_ => none
 | k + 1,a0,a1,a2 => Z7 (JA.s k) (Uu.s k) a0 a1 a2
theorem VS.cv (a0 : Int) (a1 : Int) (a2 : Int) : Cv (fun k => VS.s k a0 a1 a2) (VS a0 a1 a2) := .un rfl (QsQ JA.cv Uu.cv a0 a1 a2)
abbrev S9 := ByteArray → Option Int
def QkC (a0 : ByteArray) : Option Int := (bif (eqS a0 s_T8) then (some (9 : Int)) else (bif (eqS a0 Uo) then (some (25 : Int)) else (some (16 : Int))))
noncomputable def J0 : S9 := QkC
noncomputable def QsS (a0 : ByteArray) : Pn True (lw 0 194) Qq := (pA (eqS a0 s_T8) (pR (zi 9)) (pA (eqS a0 Uo) (pR (zi 25)) (pR (zi 16))))
theorem J0.ok {a0 : ByteArray} {r : Int} (h : J0 a0 = some r) : ww 194 [xs a0] [] = some (Qq r) := fnQ (QsS a0) h
noncomputable abbrev Qe9 {Γ : Prop} {lp : Loops} {ρ R : Type} {en : ρ → R} (a0 : ByteArray) (k : Int → Pn Γ lp en) : Pn Γ lp en := pC (ww 194 [xs a0] []) (J0 a0) Qq (fun _ => J0.ok) k
noncomputable def J0.s : Nat → ByteArray → Option Int
 | 0,_ => none
 | k + 1,a0 => QkC a0
theorem J0.cv (a0 : ByteArray) : Cv (fun k => J0.s k a0) (J0 a0) := .un rfl (by exact .const _)
abbrev Qpd := ByteArray → Int → Option Int
def Um (C0 : EZ) (C1 : Qej) (C2 : Pu) (C3 : Qi5) (C4 : S8) (C5 : FO) (C6 : S9) (a0 : ByteArray) (a1 : Int) : Option Int := ((C0 a0).bind fun r1 => (bif r1.2 then ((C1 r1.1 a1).bind fun r2 => (some r2)) else (bif (eqS a0 s_X) then ((C2 a0).bind fun r3 => (bif (decide (0 ≤ r3)) then (some (w64 ((andI .i64 (shrI .i64 (w64 a1) r3) (15 : Int)) + (w64 ((w64 (Int.tdiv (andI .i64 (shrI .i64 (w64 a1) r3) (15 : Int)) (8 : Int))) * (16 : Int)))))) else none)) else (bif (eqS a0 s_Y) then ((C2 a0).bind fun r4 => (bif (decide (0 ≤ r4)) then (some (w64 ((andI .i64 (shrI .i64 (w64 a1) r4) (15 : Int)) + (w64 ((w64 (Int.tdiv (andI .i64 (shrI .i64 (w64 a1) r4) (15 : Int)) (8 : Int))) * (16 : Int)))))) else none)) else (bif (eqS a0 WJ) then ((C3 (andI .i64 (shrI .i64 (w64 a1) (11 : Int)) (15 : Int)) (andI .i64 (shrI .i64 (w64 a1) (16 : Int)) (31 : Int)) (andI .i64 (w64 a1) (2047 : Int))).bind fun r5 => (some r5)) else (bif (eqS a0 s_C8) then ((C4 (andI .i64 (shrI .i64 (w64 a1) (10 : Int)) (1 : Int)) (andI .i64 (shrI .i64 (w64 a1) (8 : Int)) (3 : Int)) (andI .i64 (w64 a1) (255 : Int))).bind fun r6 => (some r6)) else (bif (eqS a0 WK) then ((C5 (w64 a1) (16 : Int)).bind fun r7 => (some r7)) else (bif (eqS a0 s_T8) then ((C5 (w64 a1) (8 : Int)).bind fun r8 => (some (w64 ((2 : Int) * r8)))) else ((C6 a0).bind fun r9 => ((C5 (andNotI .i64 (w64 a1) (1 : Int)) r9).bind fun r10 => (some r10)))))))))))
noncomputable def J4 : Qpd := Um QG W6 Vo XP VS JA J0
theorem J4.eq (a0 : ByteArray) (a1 : Int) : J4 a0 a1 = Um QG W6 Vo XP VS JA J0 a0 a1 := rfl
noncomputable def Qum (a0 : ByteArray) (a1 : Int) : Pn True (lw 0 143) Qq := (QgV a0 fun r1 => (pA r1.2 (QkA r1.1 a1 fun r2 => (pR r2)) (let u50 := (eqS a0 s_X); pA u50 (pY u50 (fun g => g.2) (Gn a0 fun r3 => (pA (decide (0 ≤ r3)) (pU (decide ((zi 8) ≠ 0)) rfl (pR (w64 ((andI .i64 (shrI .i64 (w64 a1) r3) (zi 15)) + (w64 ((w64 (Int.tdiv (andI .i64 (shrI .i64 (w64 a1) r3) (zi 15)) (zi 8))) * (zi 16))))))) pF))) (pA (eqS a0 s_Y) (Gn a0 fun r4 => (pA (decide (0 ≤ r4)) (pU (decide ((zi 8) ≠ 0)) rfl (pR (w64 ((andI .i64 (shrI .i64 (w64 a1) r4) (zi 15)) + (w64 ((w64 (Int.tdiv (andI .i64 (shrI .i64 (w64 a1) r4) (zi 15)) (zi 8))) * (zi 16))))))) pF)) (pA (eqS a0 WJ) (pU (decide (0 ≤ (zi 11))) rfl (pU (decide (0 ≤ (zi 16))) rfl (Qpc (andI .i64 (shrI .i64 (w64 a1) (zi 11)) (zi 15)) (andI .i64 (shrI .i64 (w64 a1) (zi 16)) (zi 31)) (andI .i64 (w64 a1) (zi 2047)) fun r5 => (pR r5)))) (pA (eqS a0 s_C8) (pU (decide (0 ≤ (zi 10))) rfl (pU (decide (0 ≤ (zi 8))) rfl (QkB (andI .i64 (shrI .i64 (w64 a1) (zi 10)) (zi 1)) (andI .i64 (shrI .i64 (w64 a1) (zi 8)) (zi 3)) (andI .i64 (w64 a1) (zi 255)) fun r6 => (pR r6)))) (pA (eqS a0 WK) (Pw (w64 a1) (zi 16) fun r7 => (pR r7)) (pA (eqS a0 s_T8) (Pw (w64 a1) (zi 8) fun r8 => (pR (w64 ((zi 2) * r8)))) (Qe9 a0 fun r9 => (Pw (andNotI .i64 (w64 a1) (zi 1)) r9 fun r10 => (pR r10)))))))))))
theorem J4.ok {a0 : ByteArray} {a1 : Int} {r : Int} (h : J4 a0 a1 = some r) : ww 143 [xs a0,.sc (.int .u32 a1)] [] = some (Qq r) := fnQ (Qum a0 a1) h
noncomputable abbrev Qun {Γ : Prop} {lp : Loops} {ρ R : Type} {en : ρ → R} (a0 : ByteArray) (a1 : Int) (k : Int → Pn Γ lp en) : Pn Γ lp en := pC (ww 143 [xs a0,.sc (.int .u32 a1)] []) (J4 a0 a1) Qq (fun _ => J4.ok) k
def ZW (r : Int) : AV × Heap := (.sc (.int .u32 r),[])
abbrev SD := Qa → Option Int
def QgW (a0 : Qa) : Option Int := (some a0.bits)
noncomputable def XQ : SD := QgW
noncomputable def Qpe (a0 : Qa) : Pn True (lw 0 196) ZW := (pR a0.bits)
theorem XQ.ok {a0 : Qa} {r : Int} (h : XQ a0 = some r) : ww 196 [.agg (Yg a0)] [] = some (ZW r) := fnQ (Qpe a0) h
noncomputable abbrev Qpf {Γ : Prop} {lp : Loops} {ρ R : Type} {en : ρ → R} (a0 : Qa) (k : Int → Pn Γ lp en) : Pn Γ lp en := pC (ww 196 [.agg (Yg a0)] []) (XQ a0) ZW (fun _ => XQ.ok) k
noncomputable def XQ.s : Nat → Qa → Option Int
 | 0,_ => none
 | k + 1,a0 => QgW a0
theorem XQ.cv (a0 : Qa) : Cv (fun k => XQ.s k a0) (XQ a0) := .un rfl (by exact .const _)
abbrev QmY := Int → Option Int
def Px (C0 : WO) (C1 : SD) (a0 : Int) : Option Int := ((C0).bind fun r1 => (bif (decide (a0 ≥ 0)) then (bif (decide (a0 < (((r1.length) : Nat) : Int))) then (bif (decide (0 ≤ a0)) then ((r1[(Int.toNat a0)]?).bind fun e2 => ((C1 e2).bind fun r3 => (some r3))) else none) else (some (0 : Int))) else (some (0 : Int))))
theorem QsT {C0 : Nat → WO} {D0 : WO} (H0 : Cv C0 D0) {C1 : Nat → SD} {D1 : SD} (H1 : Cv1 C1 D1) (a0 : Int) : Cv (fun k => Px (C0 k) (C1 k) a0) (Px D0 D1 a0) := by
 unfold Px
 exact .bind (H0) fun r1 => .cond (.cond (.cond (.bind (.const _) fun e2 => .bind (H1 _) fun r3 => by exact .const _) cst) cst) cst
noncomputable def Xe : QmY := Px JL XQ
noncomputable def QsU (a0 : Int) : Pn True (lw 0 195) ZW := (EY fun r1 => (let u51 := (decide (a0 ≥ 0)); pA u51 (pYN 2 u51 (fun g => g.2) (pH Zi r1 (pYN 2 u51 (fun g => g.2) (pA (decide (a0 < (((r1.length) : Nat) : Int))) (pA (decide (0 ≤ a0)) (pI Zi r1 a0 fun e2 => (Qpf e2 fun r3 => (pR r3))) pF) (pR i0))))) (pNN 4 u51 (fun g => g.2) (pV false rfl (pR i0)))))
theorem Xe.ok {a0 : Int} {r : Int} (h : Xe a0 = some r) : ww 195 [xi a0,.fn (.func 196) [] []] [] = some (ZW r) := fnQ (QsU a0) h
noncomputable abbrev QsV {Γ : Prop} {lp : Loops} {ρ R : Type} {en : ρ → R} (a0 : Int) (k : Int → Pn Γ lp en) : Pn Γ lp en := pC (ww 195 [xi a0,.fn (.func 196) [] []] []) (Xe a0) ZW (fun _ => Xe.ok) k
noncomputable def Xe.s : Nat → Int → Option Int
 | 0,_ => none
 | k + 1,a0 => Px (JL.s k) (XQ.s k) a0
theorem Xe.cv (a0 : Int) : Cv (fun k => Xe.s k a0) (Xe a0) := .un rfl (QsT JL.cv XQ.cv a0)
def WP (r : (Int × Bool)) : AV × Heap := (.tup [.sc (.int .u32 r.1),xo r.2],[])
abbrev Ez := QA → Int → Option (Int × Bool)
def GH (a0 : QA) (a1 : Int) : Option (Int × Bool) := (bif (decide (a1 < a0.less)) then (some ((0 : Int),false)) else (bif (decide (0 ≤ a0.bits)) then (bif (decide ((w64 (a1 - a0.less)) ≥ (shlI .i64 a0.step a0.bits))) then (some ((0 : Int),false)) else (bif (decide (a0.step ≠ 0)) then (bif ((Int.tmod (w64 (a1 - a0.less)) a0.step) != 0) then (some ((0 : Int),false)) else (bif (decide (0 ≤ a0.at_)) then (some ((shlI .u32 (IntKind.u32.wrap (w64 (Int.tdiv (w64 (a1 - a0.less)) a0.step))) a0.at_),true)) else none)) else none)) else none))
noncomputable def QR : Ez := GH
theorem QR.eq (a0 : QA) (a1 : Int) : QR a0 a1 = GH a0 a1 := rfl
noncomputable def QkD (a0 : QA) (a1 : Int) : Pn True (lw 0 223) WP := (let u54 := (decide (a1 < a0.less)); pA u54 (pYN 10 u54 (fun g => g.2) (pYN 10 true (fun _ => rfl) (pR (i0,false)))) (pNN 8 u54 (fun g => g.2) (pA (decide (0 ≤ a0.bits)) (pNN 2 u54 (fun g => g.1.2) (let u53 := (decide ((w64 (a1 - a0.less)) ≥ (shlI .i64 a0.step a0.bits))); pA u53 (pYN 8 u53 (fun g => g.2) (pU true rfl (pR (i0,false)))) (pNN 6 u53 (fun g => g.2) (let u52 := (decide (a0.step ≠ 0)); pA u52 (pNN 2 u53 (fun g => g.1.2) (pA ((Int.tmod (w64 (a1 - a0.less)) a0.step) != 0) (pR (i0,false)) (pY u52 (fun g => g.1.2) (pA (decide (0 ≤ a0.at_)) (pR ((shlI .u32 (IntKind.u32.wrap (w64 (Int.tdiv (w64 (a1 - a0.less)) a0.step))) a0.at_),true)) pF)))) pF)))) pF)))
theorem QR.ok {a0 : QA} {a1 : Int} {r : (Int × Bool)} (h : QR a0 a1 = some r) : ww 223 [.agg (EU a0),xi a1] [] = some (WP r) := fnQ (QkD a0 a1) h
noncomputable abbrev QkE {Γ : Prop} {lp : Loops} {ρ R : Type} {en : ρ → R} (a0 : QA) (a1 : Int) (k : (Int × Bool) → Pn Γ lp en) : Pn Γ lp en := pC (ww 223 [.agg (EU a0),xi a1] []) (QR a0 a1) WP (fun _ => QR.ok) k
noncomputable def QR.s : Nat → QA → Int → Option (Int × Bool)
 | 0,_,_ => none
 | k + 1,a0,a1 => GH a0 a1
theorem QR.cv (a0 : QA) (a1 : Int) : Cv (fun k => QR.s k a0 a1) (QR a0 a1) := .un rfl (by exact .const _)
abbrev Qbp := Int → Option (Int × Int × Int)
def Qdx (a0 : Int) : Option (Int × Int × Int) := (some ((andI .i64 (shrI .i64 a0 (16 : Int)) (15 : Int)),(andI .i64 (shrI .i64 a0 (11 : Int)) (31 : Int)),(andI .i64 a0 (2047 : Int))))
noncomputable def VB : Qbp := Qdx
theorem VB.eq (a0 : Int) : VB a0 = Qdx a0 := rfl
noncomputable def QqA (a0 : Int) : Pn True (lw 0 224) Ev := (pU (decide (0 ≤ (zi 16))) rfl (pU (decide (0 ≤ (zi 11))) rfl (pR ((andI .i64 (shrI .i64 a0 (zi 16)) (zi 15)),(andI .i64 (shrI .i64 a0 (zi 11)) (zi 31)),(andI .i64 a0 (zi 2047))))))
theorem VB.ok {a0 : Int} {r : (Int × Int × Int)} (h : VB a0 = some r) : ww 224 [xi a0] [] = some (Ev r) := fnQ (QqA a0) h
noncomputable abbrev QqB {Γ : Prop} {lp : Loops} {ρ R : Type} {en : ρ → R} (a0 : Int) (k : (Int × Int × Int) → Pn Γ lp en) : Pn Γ lp en := pC (ww 224 [xi a0] []) (VB a0) Ev (fun _ => VB.ok) k
noncomputable def VB.s : Nat → Int → Option (Int × Int × Int)
 | 0,_ => none
 | k + 1,a0 => Qdx a0
theorem VB.cv (a0 : Int) : Cv (fun k => VB.s k a0) (VB a0) := .un rfl (by exact .const _)
abbrev QgX := Int → Int → Option Bool
noncomputable def J1 (a0 : Int) (a1 : Int) : Option Bool := fitsS a0 a1
theorem J1.ok {a0 : Int} {a1 : Int} {r : Bool} (h : J1 a0 a1 = some r) : ww 225 [xi a0,xi a1] [] = some (QF r) := (FI rfl _ _).trans (Qxn h)
noncomputable abbrev Qfa {Γ : Prop} {lp : Loops} {ρ R : Type} {en : ρ → R} (a0 : Int) (a1 : Int) (k : Bool → Pn Γ lp en) : Pn Γ lp en := pC (ww 225 [xi a0,xi a1] []) (J1 a0 a1) QF (fun _ => J1.ok) k
noncomputable def J1.s : Nat → Int → Int → Option Bool
 | 0,_,_ => none
 | _ + 1,a0,a1 => fitsS a0 a1
theorem J1.cv (a0 : Int) (a1 : Int) : Cv (fun k => J1.s k a0 a1) (J1 a0 a1) := .un rfl (.const _)
def Qdy (r : (List Qt)) : AV × Heap := (.sl (F2 r),[])
abbrev Qbq := Option (List Qt)
def Qdz : Option (List Qt) := (some [(Qt.mk (0 : Int) (0 : Int)),(Qt.mk (0 : Int) (1 : Int)),(Qt.mk (0 : Int) (2 : Int)),(Qt.mk (0 : Int) (3 : Int)),(Qt.mk (1 : Int) (0 : Int)),(Qt.mk (1 : Int) (1 : Int)),(Qt.mk (1 : Int) (2 : Int)),(Qt.mk (1 : Int) (3 : Int))])
noncomputable def WF : Qbq := Qdz
theorem WF.eq : WF = Qdz := rfl
noncomputable def QqC : Pn True (lw 0 249) Qdy := (pZ [[xi i0,xi i0],[xi i0,xi (zi 1)],[xi i0,xi (zi 2)],[xi i0,xi (zi 3)],[xi (zi 1),xi i0],[xi (zi 1),xi (zi 1)],[xi (zi 1),xi (zi 2)],[xi (zi 1),xi (zi 3)]] (F2 [(Qt.mk i0 i0),(Qt.mk i0 (zi 1)),(Qt.mk i0 (zi 2)),(Qt.mk i0 (zi 3)),(Qt.mk (zi 1) i0),(Qt.mk (zi 1) (zi 1)),(Qt.mk (zi 1) (zi 2)),(Qt.mk (zi 1) (zi 3))]) (Qd0 [(Qt.mk i0 i0),(Qt.mk i0 (zi 1)),(Qt.mk i0 (zi 2)),(Qt.mk i0 (zi 3)),(Qt.mk (zi 1) i0),(Qt.mk (zi 1) (zi 1)),(Qt.mk (zi 1) (zi 2)),(Qt.mk (zi 1) (zi 3))]) (pR [(Qt.mk i0 i0),(Qt.mk i0 (zi 1)),(Qt.mk i0 (zi 2)),(Qt.mk i0 (zi 3)),(Qt.mk (zi 1) i0),(Qt.mk (zi 1) (zi 1)),(Qt.mk (zi 1) (zi 2)),(Qt.mk (zi 1) (zi 3))]))
theorem WF.ok {r : (List Qt)} (h : WF = some r) : ww 249 [] [] = some (Qdy r) := fnQ (QqC) h
noncomputable abbrev QqD {Γ : Prop} {lp : Loops} {ρ R : Type} {en : ρ → R} (k : (List Qt) → Pn Γ lp en) : Pn Γ lp en := pC (ww 249 [] []) (WF) Qdy (fun _ => WF.ok) k
noncomputable def WF.s : Nat → Option (List Qt)
 | 0 => none
 | k + 1 => Qdz
theorem WF.cv : Cv (fun k => WF.s k ) (WF ) := .un rfl (by exact .const _)
abbrev Py := Qt → Int → Option Int
def Yr (C0 : S8) (a0 : Qt) (a1 : Int) : Option Int := ((C0 a0.f a0.scale a1).bind fun r1 => (some r1))
theorem QnM {C0 : Nat → S8} {D0 : S8} (H0 : Cv3 C0 D0) (a0 : Qt) (a1 : Int) : Cv (fun k => Yr (C0 k) a0 a1) (Yr D0 a0 a1) := by
 unfold Yr
 exact .bind (H0 _ _ _) fun r1 => by exact .const _
noncomputable def U9 : Py := Yr VS
theorem U9.eq (a0 : Qt) (a1 : Int) : U9 a0 a1 = Yr VS a0 a1 := rfl
noncomputable def QnN (a0 : Qt) (a1 : Int) : Pn True (lw 0 251) Qq := (QkB a0.f a0.scale a1 fun r1 => (pR r1))
theorem U9.ok {a0 : Qt} {a1 : Int} {r : Int} (h : U9 a0 a1 = some r) : ww 251 [.agg (Zj a0),xi a1] [] = some (Qq r) := fnQ (QnN a0 a1) h
noncomputable abbrev QnO {Γ : Prop} {lp : Loops} {ρ R : Type} {en : ρ → R} (a0 : Qt) (a1 : Int) (k : Int → Pn Γ lp en) : Pn Γ lp en := pC (ww 251 [.agg (Zj a0),xi a1] []) (U9 a0 a1) Qq (fun _ => U9.ok) k
noncomputable def U9.s : Nat → Qt → Int → Option Int
 | 0,_,_ => none
 | k + 1,a0,a1 => Yr (VS.s k) a0 a1
theorem U9.cv (a0 : Qt) (a1 : Int) : Cv (fun k => U9.s k a0 a1) (U9 a0 a1) := .un rfl (QnM VS.cv a0 a1)
abbrev Qbr := Int → Qt → Option Int
structure Up where
 x0 : Int
 x1_f0 : Qt
 x6 : Int
def Sg (a : Up) : St := { n := 16,nx := 0,env := [(0,xi a.x0),(1,.fn (.func 251) [.agg (Zj a.x1_f0)] []),(6,xi a.x6)],heap := [] }
def Qc2 (a : Int) : Ex × St := (.ret,{ n := 16,nx := 0,env := [(4,xi a)],heap := [] })
def Qc3 (a : Unit) : Ex × St := (.exit 0,{ n := 16,nx := 0,env := [],heap := [] })
def Qek : (Int ⊕ Unit) → Ex × St := Sum.elim Qc2 Qc3
abbrev Gh := Up → Option (Int ⊕ Unit)
def Xz (C0 : Py) (a : Up) : Option (Up ⊕ (Int ⊕ Unit)) := (bif (decide (a.x6 < 256)) then ((C0 a.x1_f0 a.x6).bind fun r1 => (bif (r1 == a.x0) then (some (.inr (.inl a.x6))) else (some (.inl (Up.mk a.x0 a.x1_f0 (w64 (a.x6 + 1))))))) else (some (.inr (.inr ()))))
theorem QlU {C0 : Nat → Py} {D0 : Py} (H0 : Cv2 C0 D0) (a : Up) : Cv (fun k => Xz (C0 k) a) (Xz D0 a) := by
 unfold Xz
 exact .cond (.bind (H0 _ _) fun r1 => by exact .const _) cst
noncomputable def UV.s (k : Nat) : Gh := iter (Xz (U9.s k)) k
theorem UV.cv (a : Up) : Cv (fun k => UV.s k a) (loopW (Xz U9) a) := Cv.iter (fun a => QlU U9.cv a) a
noncomputable def UV : Gh := loopW (Xz U9)
theorem UV.eq (a : Up) : UV a = (Xz U9 a).bind (Sum.elim UV some) := QK _ _
noncomputable def QlV (a : Up) : Pn True (lw 0 250) (Sum.elim (fun a => (Ex.norm,Sg a)) Qek) := (pA (decide (a.x6 < 256)) (QnO a.x1_f0 a.x6 fun r1 => (pA (r1 == a.x0) (pR (.inr (.inl a.x6))) (pR (.inl (Up.mk a.x0 a.x1_f0 (w64 (a.x6 + 1))))))) (pR (.inr (.inr ()))))
theorem UV.ok {a : Up} {r : (Int ⊕ Unit)} (h : UV a = some r) : lw 0 250 (loopAt pp 250 2) (Sg a) = some (Qek r) := lpQ QlV h
noncomputable abbrev QlW {Γ : Prop} {ρ R : Type} {en : ρ → R} (a : Up) (k0 : Int → Pn Γ (lw 0 250) en) (k1 : Unit → Pn Γ (lw 0 250) en) : Pn Γ (lw 0 250) en := p2 (loopAt pp 250 2) (Sg a) (UV a) Qc2 Qc3 (fun _ => UV.ok) k0 k1
def Zy (L0 : Gh) (a0 : Int) (a1_f0 : Qt) : Option Int := ((L0 (Up.mk a0 a1_f0 (0 : Int))).bind fun x => Sum.elim (fun (o1 : Int) => (some o1)) (fun (o2 : Unit) => (some (-1 : Int))) x)
theorem QqE {L0 : Nat → Gh} {M0 : Gh} (N0 : Cv1 L0 M0) (a0 : Int) (a1_f0 : Qt) : Cv (fun k => Zy (L0 k) a0 a1_f0) (Zy M0 a0 a1_f0) := by
 unfold Zy
 exact .bind (N0 _) fun x => .sum (fun o1 => by exact .const _) (fun o2 => by exact .const _) x
noncomputable def V7 : Qbr := Zy UV
theorem V7.eq (a0 : Int) (a1_f0 : Qt) : V7 a0 a1_f0 = Zy UV a0 a1_f0 := rfl
noncomputable def QqF (a0 : Int) (a1_f0 : Qt) : Pn True (lw 0 250) Qq := (QlW (Up.mk a0 a1_f0 i0) (fun o1 => (pR o1)) (fun o2 => (pR (-1 : Int))))
theorem V7.ok {a0 : Int} {a1_f0 : Qt} {r : Int} (h : V7 a0 a1_f0 = some r) : ww 250 [xi a0,.fn (.func 251) [.agg (Zj a1_f0)] []] [] = some (Qq r) := fnQ (QqF a0 a1_f0) h
noncomputable abbrev QqG {Γ : Prop} {lp : Loops} {ρ R : Type} {en : ρ → R} (a0 : Int) (a1_f0 : Qt) (k : Int → Pn Γ lp en) : Pn Γ lp en := pC (ww 250 [xi a0,.fn (.func 251) [.agg (Zj a1_f0)] []] []) (V7 a0 a1_f0) Qq (fun _ => V7.ok) k
noncomputable def V7.s : Nat → Int → Qt → Option Int
 | 0,_,_ => none
 | k + 1,a0,a1_f0 => Zy (UV.s k) a0 a1_f0
theorem V7.cv (a0 : Int) (a1_f0 : Qt) : Cv (fun k => V7.s k a0 a1_f0) (V7 a0 a1_f0) := .un rfl (QqE UV.cv a0 a1_f0)
abbrev Qc4 := Int → Option (Int × Int × Int × Bool)
structure UN where
 x0 : Int
 x8 : (List Qt)
 x9 : Int
 x10 : Int
structure Xc where
 x2 : Int
 x3 : Int
 x4 : Int
 x5 : Bool
def QaG (a : UN) : St := { n := 26,nx := 0,env := [(0,xi a.x0),(8,.sl (F2 a.x8)),(9,xi a.x9),(10,xi a.x10)],heap := [] }
def Qel (a : Xc) : Ex × St := (.ret,{ n := 26,nx := 0,env := [(2,xi a.x2),(3,xi a.x3),(4,xi a.x4),(5,xo a.x5)],heap := [] })
def Qem (a : Unit) : Ex × St := (.exit 0,{ n := 26,nx := 0,env := [],heap := [] })
def QfQ : (Xc ⊕ Unit) → Ex × St := Sum.elim Qel Qem
abbrev GX := UN → Option (Xc ⊕ Unit)
def X1 (C0 : Qbr) (a : UN) : Option (UN ⊕ (Xc ⊕ Unit)) := (bif (decide (a.x10 < a.x9)) then (bif (decide (0 ≤ a.x10)) then ((a.x8[(Int.toNat a.x10)]?).bind fun e1 => ((C0 a.x0 e1).bind fun r2 => (bif (decide (r2 ≥ 0)) then (some (.inr (.inl (Xc.mk e1.f e1.scale r2 true)))) else (some (.inl (UN.mk a.x0 a.x8 a.x9 (w64 (a.x10 + 1)))))))) else none) else (some (.inr (.inr ()))))
theorem QnP {C0 : Nat → Qbr} {D0 : Qbr} (H0 : Cv2 C0 D0) (a : UN) : Cv (fun k => X1 (C0 k) a) (X1 D0 a) := by
 unfold X1
 exact .cond (.cond (.bind (.const _) fun e1 => .bind (H0 _ _) fun r2 => by exact .const _) cst) cst
noncomputable def Va.s (k : Nat) : GX := iter (X1 (V7.s k)) k
theorem Va.cv (a : UN) : Cv (fun k => Va.s k a) (loopW (X1 V7) a) := Cv.iter (fun a => QnP V7.cv a) a
noncomputable def Va : GX := loopW (X1 V7)
theorem Va.eq (a : UN) : Va a = (X1 V7 a).bind (Sum.elim Va some) := QK _ _
noncomputable def QnQ (a : UN) : Pn True (lw 0 226) (Sum.elim (fun a => (Ex.norm,QaG a)) QfQ) := (pA (decide (a.x10 < a.x9)) (pA (decide (0 ≤ a.x10)) (pI Qko a.x8 a.x10 fun e1 => (QqG a.x0 e1 fun r2 => (pA (decide (r2 ≥ 0)) (pR (.inr (.inl (Xc.mk e1.f e1.scale r2 true)))) (pR (.inl (UN.mk a.x0 a.x8 a.x9 (w64 (a.x10 + 1)))))))) pF) (pR (.inr (.inr ()))))
theorem Va.ok {a : UN} {r : (Xc ⊕ Unit)} (h : Va a = some r) : lw 0 226 (loopAt pp 226 2) (QaG a) = some (QfQ r) := lpQ QnQ h
noncomputable abbrev QnR {Γ : Prop} {ρ R : Type} {en : ρ → R} (a : UN) (k0 : Xc → Pn Γ (lw 0 226) en) (k1 : Unit → Pn Γ (lw 0 226) en) : Pn Γ (lw 0 226) en := p2 (loopAt pp 226 2) (QaG a) (Va a) Qel Qem (fun _ => Va.ok) k0 k1
def Z8 (C0 : Qbq) (L1 : GX) (a0 : Int) : Option (Int × Int × Int × Bool) := ((C0).bind fun r1 => ((L1 (UN.mk a0 r1 (((r1.length) : Nat) : Int) (0 : Int))).bind fun x => Sum.elim (fun (o2 : Xc) => (some (o2.x2,o2.x3,o2.x4,o2.x5))) (fun (o3 : Unit) => (some ((0 : Int),(0 : Int),(0 : Int),false))) x))
theorem QsW {C0 : Nat → Qbq} {D0 : Qbq} (H0 : Cv C0 D0) {L1 : Nat → GX} {M1 : GX} (N1 : Cv1 L1 M1) (a0 : Int) : Cv (fun k => Z8 (C0 k) (L1 k) a0) (Z8 D0 M1 a0) := by
 unfold Z8
 exact .bind (H0) fun r1 => .bind (N1 _) fun x => .sum (fun o2 => by exact .const _) (fun o3 => by exact .const _) x
noncomputable def WI : Qc4 := Z8 WF Va
theorem WI.eq (a0 : Int) : WI a0 = Z8 WF Va a0 := rfl
noncomputable def QsX (a0 : Int) : Pn True (lw 0 226) FK := (QqD fun r1 => (pH Qko r1 (QnR (UN.mk a0 r1 (((r1.length) : Nat) : Int) i0) (fun o2 => (pR (o2.x2,o2.x3,o2.x4,o2.x5))) (fun o3 => (pR (i0,i0,i0,false))))))
theorem WI.ok {a0 : Int} {r : (Int × Int × Int × Bool)} (h : WI a0 = some r) : ww 226 [xi a0] [] = some (FK r) := fnQ (QsX a0) h
noncomputable abbrev QsY {Γ : Prop} {lp : Loops} {ρ R : Type} {en : ρ → R} (a0 : Int) (k : (Int × Int × Int × Bool) → Pn Γ lp en) : Pn Γ lp en := pC (ww 226 [xi a0] []) (WI a0) FK (fun _ => WI.ok) k
noncomputable def WI.s : Nat → Int → Option (Int × Int × Int × Bool)
 | 0,_ => none
 | k + 1,a0 => Z8 (WF.s k) (Va.s k) a0
theorem WI.cv (a0 : Int) : Cv (fun k => WI.s k a0) (WI a0) := .un rfl (QsW WF.cv Va.cv a0)
abbrev Qpg := ByteArray → Int → Option (Int × Bool)
def UC (C0 : EZ) (C1 : Ez) (C2 : Pu) (C3 : Qbp) (C4 : QgX) (C5 : Qc4) (C6 : S9) (a0 : ByteArray) (a1 : Int) : Option (Int × Bool) := ((C0 a0).bind fun r1 => (bif r1.2 then ((C1 r1.1 a1).bind fun r2 => (some (r2.1,r2.2))) else (bif (eqS a0 s_X) then (bif (decide (a1 < 0)) then (some ((0 : Int),false)) else (bif (decide (a1 > 7)) then (bif (decide (a1 < 24)) then (some ((0 : Int),false)) else (bif (decide (a1 > 31)) then (some ((0 : Int),false)) else ((C2 a0).bind fun r3 => (bif (decide (0 ≤ r3)) then (some ((shlI .u32 (IntKind.u32.wrap (w64 (a1 - (w64 ((w64 (Int.tdiv a1 (24 : Int))) * (16 : Int)))))) r3),true)) else none)))) else (bif (decide (a1 > 31)) then (some ((0 : Int),false)) else ((C2 a0).bind fun r4 => (bif (decide (0 ≤ r4)) then (some ((shlI .u32 (IntKind.u32.wrap (w64 (a1 - (w64 ((w64 (Int.tdiv a1 (24 : Int))) * (16 : Int)))))) r4),true)) else none))))) else (bif (eqS a0 s_Y) then (bif (decide (a1 < 0)) then (some ((0 : Int),false)) else (bif (decide (a1 > 7)) then (bif (decide (a1 < 24)) then (some ((0 : Int),false)) else (bif (decide (a1 > 31)) then (some ((0 : Int),false)) else ((C2 a0).bind fun r5 => (bif (decide (0 ≤ r5)) then (some ((shlI .u32 (IntKind.u32.wrap (w64 (a1 - (w64 ((w64 (Int.tdiv a1 (24 : Int))) * (16 : Int)))))) r5),true)) else none)))) else (bif (decide (a1 > 31)) then (some ((0 : Int),false)) else ((C2 a0).bind fun r6 => (bif (decide (0 ≤ r6)) then (some ((shlI .u32 (IntKind.u32.wrap (w64 (a1 - (w64 ((w64 (Int.tdiv a1 (24 : Int))) * (16 : Int)))))) r6),true)) else none))))) else (bif (eqS a0 WJ) then ((C3 a1).bind fun r7 => ((C4 a1 (20 : Int)).bind fun r8 => (some ((IntKind.u32.wrap (orI .i64 (orI .i64 (shlI .i64 r7.1 (11 : Int)) (shlI .i64 r7.2.1 (16 : Int))) r7.2.2)),r8)))) else (bif (eqS a0 s_C8) then ((C5 a1).bind fun r9 => (some ((IntKind.u32.wrap (orI .i64 (orI .i64 (shlI .i64 r9.1 (10 : Int)) (shlI .i64 r9.2.1 (8 : Int))) r9.2.2.1)),r9.2.2.2))) else (bif (eqS a0 WK) then ((C4 a1 (16 : Int)).bind fun r10 => (some ((IntKind.u32.wrap (andI .i64 a1 (65535 : Int))),r10))) else (bif ((Int.tmod a1 (2 : Int)) != 0) then (some ((0 : Int),false)) else ((C6 a0).bind fun r11 => ((C4 a1 r11).bind fun r12 => (bif (!r12) then (some ((0 : Int),false)) else (bif (eqS a0 s_T8) then (some ((IntKind.u32.wrap (andI .i64 (w64 (Int.tdiv a1 (2 : Int))) (255 : Int))),true)) else ((C6 a0).bind fun r13 => (bif (decide (0 ≤ r13)) then (some ((IntKind.u32.wrap (andI .i64 a1 (w64 ((shlI .i64 (1 : Int) r13) - 1)))),true)) else none))))))))))))))
theorem Quo {C0 : Nat → EZ} {D0 : EZ} (H0 : Cv1 C0 D0) {C1 : Nat → Ez} {D1 : Ez} (H1 : Cv2 C1 D1) {C2 : Nat → Pu} {D2 : Pu} (H2 : Cv1 C2 D2) {C3 : Nat → Qbp} {D3 : Qbp} (H3 : Cv1 C3 D3) {C4 : Nat → QgX} {D4 : QgX} (H4 : Cv2 C4 D4) {C5 : Nat → Qc4} {D5 : Qc4} (H5 : Cv1 C5 D5) {C6 : Nat → S9} {D6 : S9} (H6 : Cv1 C6 D6) (a0 : ByteArray) (a1 : Int) : Cv (fun k => UC (C0 k) (C1 k) (C2 k) (C3 k) (C4 k) (C5 k) (C6 k) a0 a1) (UC D0 D1 D2 D3 D4 D5 D6 a0 a1) := by
 unfold UC
 exact .bind (H0 _) fun r1 => .cond (.bind (H1 _ _) fun r2 => by exact .const _) (.cond (.cond cst (.cond (.cond cst (.cond cst (.bind (H2 _) fun r3 => by exact .const _))) (.cond cst (.bind (H2 _) fun r4 => by exact .const _)))) (.cond (.cond cst (.cond (.cond cst (.cond cst (.bind (H2 _) fun r5 => by exact .const _))) (.cond cst (.bind (H2 _) fun r6 => by exact .const _)))) (.cond (.bind (H3 _) fun r7 => .bind (H4 _ _) fun r8 => by exact .const _) (.cond (.bind (H5 _) fun r9 => by exact .const _) (.cond (.bind (H4 _ _) fun r10 => by exact .const _) (.cond cst (.bind (H6 _) fun r11 => .bind (H4 _ _) fun r12 => .cond cst (.cond cst (.bind (H6 _) fun r13 => by exact .const _)))))))))
noncomputable def JP : Qpg := UC QG QR Vo VB J1 WI J0
theorem JP.eq (a0 : ByteArray) (a1 : Int) : JP a0 a1 = UC QG QR Vo VB J1 WI J0 a0 a1 := rfl
noncomputable def Qup (a0 : ByteArray) (a1 : Int) : Pn True (lw 0 197) WP := (QgV a0 fun r1 => (pA r1.2 (QkE r1.1 a1 fun r2 => (pR (r2.1,r2.2))) (let u62 := (eqS a0 s_X); pA u62 (pY u62 (fun g => g.2) (let u57 := (decide (a1 < 0)); pA u57 (pYN 4 u57 (fun g => g.2) (pYN 4 true (fun _ => rfl) (pR (i0,false)))) (pNN 2 u57 (fun g => g.2) (let u56 := (decide (a1 > 7)); pA u56 (pY u56 (fun g => g.2) (pN u57 (fun g => g.1.2) (pY u56 (fun g => g.2) (pN u57 (fun g => g.1.2) (let u55 := (decide (a1 < 24)); pA u55 (pYN 2 u55 (fun g => g.2) (pU true rfl (pR (i0,false)))) (pNN 2 u55 (fun g => g.2) (pA (decide (a1 > 31)) (pR (i0,false)) (pU (decide ((zi 24) ≠ 0)) rfl (Gn a0 fun r3 => (pA (decide (0 ≤ r3)) (pR ((shlI .u32 (IntKind.u32.wrap (w64 (a1 - (w64 ((w64 (Int.tdiv a1 (zi 24))) * (zi 16)))))) r3),true)) pF)))))))))) (pN u56 (fun g => g.2) (pN u57 (fun g => g.1.2) (pN u56 (fun g => g.2) (pN u57 (fun g => g.1.2) (pNN 3 false (fun _ => rfl) (pA (decide (a1 > 31)) (pR (i0,false)) (pU (decide ((zi 24) ≠ 0)) rfl (Gn a0 fun r4 => (pA (decide (0 ≤ r4)) (pR ((shlI .u32 (IntKind.u32.wrap (w64 (a1 - (w64 ((w64 (Int.tdiv a1 (zi 24))) * (zi 16)))))) r4),true)) pF))))))))))))) (pA (eqS a0 s_Y) (let u60 := (decide (a1 < 0)); pA u60 (pYN 4 u60 (fun g => g.2) (pYN 4 true (fun _ => rfl) (pR (i0,false)))) (pNN 2 u60 (fun g => g.2) (let u59 := (decide (a1 > 7)); pA u59 (pY u59 (fun g => g.2) (pN u60 (fun g => g.1.2) (pY u59 (fun g => g.2) (pN u60 (fun g => g.1.2) (let u58 := (decide (a1 < 24)); pA u58 (pYN 2 u58 (fun g => g.2) (pU true rfl (pR (i0,false)))) (pNN 2 u58 (fun g => g.2) (pA (decide (a1 > 31)) (pR (i0,false)) (pU (decide ((zi 24) ≠ 0)) rfl (Gn a0 fun r5 => (pA (decide (0 ≤ r5)) (pR ((shlI .u32 (IntKind.u32.wrap (w64 (a1 - (w64 ((w64 (Int.tdiv a1 (zi 24))) * (zi 16)))))) r5),true)) pF)))))))))) (pN u59 (fun g => g.2) (pN u60 (fun g => g.1.2) (pN u59 (fun g => g.2) (pN u60 (fun g => g.1.2) (pNN 3 false (fun _ => rfl) (pA (decide (a1 > 31)) (pR (i0,false)) (pU (decide ((zi 24) ≠ 0)) rfl (Gn a0 fun r6 => (pA (decide (0 ≤ r6)) (pR ((shlI .u32 (IntKind.u32.wrap (w64 (a1 - (w64 ((w64 (Int.tdiv a1 (zi 24))) * (zi 16)))))) r6),true)) pF)))))))))))) (pA (eqS a0 WJ) (QqB a1 fun r7 => (pU (decide (0 ≤ (zi 11))) rfl (pU (decide (0 ≤ (zi 16))) rfl (Qfa a1 (zi 20) fun r8 => (pR ((IntKind.u32.wrap (orI .i64 (orI .i64 (shlI .i64 r7.1 (zi 11)) (shlI .i64 r7.2.1 (zi 16))) r7.2.2)),r8)))))) (pA (eqS a0 s_C8) (QsY a1 fun r9 => (pU (decide (0 ≤ (zi 10))) rfl (pU (decide (0 ≤ (zi 8))) rfl (pR ((IntKind.u32.wrap (orI .i64 (orI .i64 (shlI .i64 r9.1 (zi 10)) (shlI .i64 r9.2.1 (zi 8))) r9.2.2.1)),r9.2.2.2))))) (pA (eqS a0 WK) (Qfa a1 (zi 16) fun r10 => (pR ((IntKind.u32.wrap (andI .i64 a1 (zi 65535))),r10))) (pU (decide ((zi 2) ≠ 0)) rfl (let u61 := ((Int.tmod a1 (zi 2)) != 0); pA u61 (pYN 5 u61 (fun g => g.2) (pU true rfl (pR (i0,false)))) (pNN 2 u61 (fun g => g.2) (Qe9 a0 fun r11 => (pN u61 (fun g => g.2) (Qfa a1 r11 fun r12 => (pNN 2 u61 (fun g => g.2) (pA (!r12) (pR (i0,false)) (pA (eqS a0 s_T8) (pU (decide ((zi 2) ≠ 0)) rfl (pR ((IntKind.u32.wrap (andI .i64 (w64 (Int.tdiv a1 (zi 2))) (zi 255))),true))) (Qe9 a0 fun r13 => (pA (decide (0 ≤ r13)) (pR ((IntKind.u32.wrap (andI .i64 a1 (w64 ((shlI .i64 (zi 1) r13) - 1)))),true)) pF))))))))))))))))))
theorem JP.ok {a0 : ByteArray} {a1 : Int} {r : (Int × Bool)} (h : JP a0 a1 = some r) : ww 197 [xs a0,xi a1] [] = some (WP r) := fnQ (Qup a0 a1) h
noncomputable abbrev Quq {Γ : Prop} {lp : Loops} {ρ R : Type} {en : ρ → R} (a0 : ByteArray) (a1 : Int) (k : (Int × Bool) → Pn Γ lp en) : Pn Γ lp en := pC (ww 197 [xs a0,xi a1] []) (JP a0 a1) WP (fun _ => JP.ok) k
noncomputable def JP.s : Nat → ByteArray → Int → Option (Int × Bool)
 | 0,_,_ => none
 | k + 1,a0,a1 => UC (QG.s k) (QR.s k) (Vo.s k) (VB.s k) (J1.s k) (WI.s k) (J0.s k) a0 a1
theorem JP.cv (a0 : ByteArray) (a1 : Int) : Cv (fun k => JP.s k a0 a1) (JP a0 a1) := .un rfl (Quo QG.cv QR.cv Vo.cv VB.cv J1.cv WI.cv J0.cv a0 a1)
abbrev QmZ := Qi → Option (Int × Bool)
structure VN where
 x4 : Int
 x26 : (List ByteArray)
 x27 : Int
 x28 : Int
 h0 : Qi
structure Wx where
 x2 : Int
 x3 : Bool
def QaH (a : VN) : St := { n := 50,nx := 1,env := [(1,.ptr 0 0),(4,.sc (.int .u32 a.x4)),(26,.sl (Qr a.x26)),(27,xi a.x27),(28,xi a.x28)],heap := [(0,.box [0,101] (Wd a.h0))] }
def Qen (a : Wx) : Ex × St := (.ret,{ n := 50,nx := 0,env := [(2,.sc (.int .u32 a.x2)),(3,xo a.x3)],heap := [] })
def Qeo (a : Int) : Ex × St := (.exit 0,{ n := 50,nx := 0,env := [(4,.sc (.int .u32 a))],heap := [] })
def QfR : (Wx ⊕ Int) → Ex × St := Sum.elim Qen Qeo
abbrev QgY := VN → Option (Wx ⊕ Int)
def Za (C0 : Qpg) (a : VN) : Option (VN ⊕ (Wx ⊕ Int)) := (bif (decide (a.x28 < a.x27)) then (bif (decide (0 ≤ a.x28)) then ((a.x26[(Int.toNat a.x28)]?).bind fun e1 => ((a.h0.F[(Int.toNat a.x28)]?).bind fun e2 => ((C0 e1 e2).bind fun r3 => (bif (!r3.2) then (some (.inr (.inl (Wx.mk (0 : Int) false)))) else (some (.inl (VN.mk (orI .u32 a.x4 r3.1) a.x26 a.x27 (w64 (a.x28 + 1)) a.h0))))))) else none) else (some (.inr (.inr a.x4))))
noncomputable def JI : QgY := loopW (Za JP)
theorem JI.eq (a : VN) : JI a = (Za JP a).bind (Sum.elim JI some) := QK _ _
noncomputable def QnS (a : VN) : Pn True (lw 0 144) (Sum.elim (fun a => (Ex.norm,QaH a)) QfR) := (pA (decide (a.x28 < a.x27)) (let u63 := (decide (0 ≤ a.x28)); pA u63 (pI Qv a.x26 a.x28 fun e1 => (pY u63 (fun g => g.2) (pI Jh a.h0.F a.x28 fun e2 => (Quq e1 e2 fun r3 => (pA (!r3.2) (pR (.inr (.inl (Wx.mk i0 false)))) (pR (.inl (VN.mk (orI .u32 a.x4 r3.1) a.x26 a.x27 (w64 (a.x28 + 1)) a.h0)))))))) pF) (pR (.inr (.inr a.x4))))
theorem JI.ok {a : VN} {r : (Wx ⊕ Int)} (h : JI a = some r) : lw 0 144 (loopAt pp 144 7) (QaH a) = some (QfR r) := lpQ QnS h
noncomputable abbrev QnT {Γ : Prop} {ρ R : Type} {en : ρ → R} (a : VN) (k0 : Wx → Pn Γ (lw 0 144) en) (k1 : Int → Pn Γ (lw 0 144) en) : Pn Γ (lw 0 144) en := p2 (loopAt pp 144 7) (QaH a) (JI a) Qen Qeo (fun _ => JI.ok) k0 k1
def Pz (C0 : FN) (C1 : QmY) (C2 : QgT) (L3 : QgY) (a0 : Qi) : Option (Int × Bool) := ((C0 a0.Op).bind fun r1 => (bif (eqS r1 s_) then (some ((0 : Int),false)) else ((C1 a0.Op).bind fun r2 => ((C2 a0.Op).bind fun r3 => (bif ((((r3.length) : Nat) : Int) != (((a0.F.length) : Nat) : Int)) then (some ((0 : Int),false)) else ((L3 (VN.mk r2 r3 (((r3.length) : Nat) : Int) (0 : Int) a0)).bind fun x => Sum.elim (fun (o4 : Wx) => (some (o4.x2,o4.x3))) (fun (o5 : Int) => (some (o5,true))) x))))))
noncomputable def WY : QmZ := Pz Jr Xe WH JI
theorem WY.eq (a0 : Qi) : WY a0 = Pz Jr Xe WH JI a0 := rfl
noncomputable def QsZ (a0 : Qi) : Pn True (lw 0 144) WP := (Qbo a0.Op fun r1 => (pA (eqS r1 s_) (pR (i0,false)) (QsV a0.Op fun r2 => (Qky a0.Op fun r3 => (pH Qv r3 (pH Jh a0.F (pA ((((r3.length) : Nat) : Int) != (((a0.F.length) : Nat) : Int)) (pR (i0,false)) (pH Qv r3 (QnT (VN.mk r2 r3 (((r3.length) : Nat) : Int) i0 a0) (fun o4 => (pR (o4.x2,o4.x3))) (fun o5 => (pR (o5,true))))))))))))
theorem WY.ok {a0 : Qi} {r : (Int × Bool)} (h : WY a0 = some r) : ww 144 [.agg (Wd a0)] [] = some (WP r) := fnQ (QsZ a0) h
noncomputable abbrev Qs0 {Γ : Prop} {lp : Loops} {ρ R : Type} {en : ρ → R} (a0 : Qi) (k : (Int × Bool) → Pn Γ lp en) : Pn Γ lp en := pC (ww 144 [.agg (Wd a0)] []) (WY a0) WP (fun _ => WY.ok) k
def Qep (r : (List Int)) : AV × Heap := (.sl (QS r),[])
abbrev QnU := (List Int) → Option (List Int)
noncomputable def YR (a0 : (List Int)) : Option (List Int) := cloneB 8 a0
theorem YR.ok {a0 : (List Int)} {r : (List Int)} (h : YR a0 = some r) : ww 81 [.sl (QS a0)] [] = some (Qep r) := (FI rfl _ _).trans (QtW (.int .i64) (fun _ => rfl) h)
noncomputable abbrev QlX {Γ : Prop} {lp : Loops} {ρ R : Type} {en : ρ → R} (a0 : (List Int)) (k : (List Int) → Pn Γ lp en) : Pn Γ lp en := pC (ww 81 [.sl (QS a0)] []) (YR a0) Qep (fun _ => YR.ok) k
def Qca (r : (Qi × Int × Bool)) : AV × Heap := (.tup [.agg (Wd r.1),xi r.2.1,xo r.2.2],[])
abbrev Qi6 := (List Int) → Option (Qi × Int × Bool)
structure UO where
 x3 : Int
 x5 : Int
 x33 : (List Int)
 x34 : Int
 x35 : Int
 h0 : Qi
structure WZ where
 x3 : Int
 x5 : Int
 h0 : Qi
def PA (a : UO) : St := { n := 91,nx := 2,env := [(2,.ptr 0 0),(3,xi a.x3),(5,.sc (.int .u32 a.x5)),(33,.sl (R_u8 a.x33)),(34,xi a.x34),(35,xi a.x35)],heap := [(0,.box [0,101] [xi a.h0.Op,.arr 1]),(1,.arr true 1 (QS a.h0.F))] }
def PB (a : WZ) : Ex × St := (.exit 0,{ n := 91,nx := 2,env := [(2,.ptr 0 0),(3,xi a.x3),(5,.sc (.int .u32 a.x5))],heap := [(0,.box [0,101] [xi a.h0.Op,.arr 1]),(1,.arr true 1 (QS a.h0.F))] })
abbrev Qeq := UO → Option WZ
def GI (a : UO) : Option (UO ⊕ WZ) := (bif (decide (a.x35 < a.x34)) then (bif (decide (0 ≤ a.x35)) then ((a.x33[(Int.toNat a.x35)]?).bind fun e1 => (some (.inl (UO.mk a.x3 (orI .u32 (shlI .u32 a.x5 (8 : Int)) (IntKind.u32.wrap e1)) a.x33 a.x34 (w64 (a.x35 + 1)) a.h0)))) else none) else (some (.inr (WZ.mk a.x3 a.x5 a.h0))))
noncomputable def Ve : Qeq := loopW (GI )
theorem Ve.eq (a : UO) : Ve a = (GI a).bind (Sum.elim Ve some) := QK _ _
noncomputable def QkF (a : UO) : Pn True (lw 0 91) (Sum.elim (fun a => (Ex.norm,PA a)) PB) := (pA (decide (a.x35 < a.x34)) (pA (decide (0 ≤ a.x35)) (pI E_u8 a.x33 a.x35 fun e1 => (pU (decide (0 ≤ (zi 8))) rfl (pR (.inl (UO.mk a.x3 (orI .u32 (shlI .u32 a.x5 (zi 8)) (IntKind.u32.wrap e1)) a.x33 a.x34 (w64 (a.x35 + 1)) a.h0))))) pF) (pR (.inr (WZ.mk a.x3 a.x5 a.h0))))
theorem Ve.ok {a : UO} {r : WZ} (h : Ve a = some r) : lw 0 91 (loopAt pp 91 6) (PA a) = some (PB r) := lpQ QkF h
noncomputable abbrev QkG {Γ : Prop} {ρ R : Type} {en : ρ → R} (a : UO) (k0 : WZ → Pn Γ (lw 0 91) en) : Pn Γ (lw 0 91) en := p1 (loopAt pp 91 6) (PA a) (Ve a) PB (fun _ => Ve.ok) k0
structure UP where
 x3 : Int
 x5 : Int
 x46 : Int
 x47 : Int
 x57 : (List ByteArray)
 x58 : Int
 x59 : Int
 h0 : Qi
 h1 : Qi
structure W0 where
 x3 : Int
 x5 : Int
 x46 : Int
 x47 : Int
 h0 : Qi
 h1 : Qi
def PC (a : UP) : St := { n := 91,nx := 4,env := [(2,.ptr 0 0),(3,xi a.x3),(5,.sc (.int .u32 a.x5)),(9,.ptr 1 0),(46,xi a.x46),(47,xi a.x47),(57,.sl (Qr a.x57)),(58,xi a.x58),(59,xi a.x59)],heap := [(0,.box [0,101] [xi a.h0.Op,.arr 2]),(1,.box [0,101] [xi a.h1.Op,.arr 3]),(2,.arr true 1 (QS a.h0.F)),(3,.arr true 1 (QS a.h1.F))] }
def PD (a : W0) : Ex × St := (.exit 4,{ n := 91,nx := 4,env := [(2,.ptr 0 0),(3,xi a.x3),(5,.sc (.int .u32 a.x5)),(9,.ptr 1 0),(46,xi a.x46),(47,xi a.x47)],heap := [(0,.box [0,101] [xi a.h0.Op,.arr 2]),(1,.box [0,101] [xi a.h1.Op,.arr 3]),(2,.arr true 1 (QS a.h0.F)),(3,.arr true 1 (QS a.h1.F))] })
abbrev Qer := UP → Option W0
def GJ (C0 : Qpd) (a : UP) : Option (UP ⊕ W0) := (bif (decide (a.x59 < a.x58)) then (bif (decide (0 ≤ a.x59)) then ((a.x57[(Int.toNat a.x59)]?).bind fun e1 => ((C0 e1 a.x5).bind fun r2 => (bif (decide ((a.h1.F.length + [r2].length) * 8 ≤ most)) then (some (.inl (UP.mk a.x3 a.x5 a.x46 a.x47 a.x57 a.x58 (w64 (a.x59 + 1)) a.h0 (Qi.mk a.h1.Op (a.h1.F ++ [r2]))))) else none))) else none) else (some (.inr (W0.mk a.x3 a.x5 a.x46 a.x47 a.h0 a.h1))))
noncomputable def Vf : Qer := loopW (GJ J4)
theorem Vf.eq (a : UP) : Vf a = (GJ J4 a).bind (Sum.elim Vf some) := QK _ _
noncomputable def QkH (a : UP) : Pn True (lw 0 91) (Sum.elim (fun a => (Ex.norm,PC a)) PD) := (pA (decide (a.x59 < a.x58)) (pA (decide (0 ≤ a.x59)) (pI Qv a.x57 a.x59 fun e1 => (Qun e1 a.x5 fun r2 => (pZ [[xi r2]] (QS [r2]) (Jw [r2]) (pQ Jh 8 a.h1.F [r2] (pR (.inl (UP.mk a.x3 a.x5 a.x46 a.x47 a.x57 a.x58 (w64 (a.x59 + 1)) a.h0 (Qi.mk a.h1.Op (a.h1.F ++ [r2]))))))))) pF) (pR (.inr (W0.mk a.x3 a.x5 a.x46 a.x47 a.h0 a.h1))))
theorem Vf.ok {a : UP} {r : W0} (h : Vf a = some r) : lw 0 91 (loopAt pp 91 16) (PC a) = some (PD r) := lpQ QkH h
noncomputable abbrev QkI {Γ : Prop} {ρ R : Type} {en : ρ → R} (a : UP) (k0 : W0 → Pn Γ (lw 0 91) en) : Pn Γ (lw 0 91) en := p1 (loopAt pp 91 16) (PC a) (Vf a) PD (fun _ => Vf.ok) k0
structure JG where
 x3 : Int
 x5 : Int
 x46 : Int
 x47 : Int
 h0 : Qi
structure Wg where
 x3 : Int
 x4 : Bool
 h0 : Qi
def PE (a : JG) : St := { n := 91,nx := 2,env := [(2,.ptr 0 0),(3,xi a.x3),(5,.sc (.int .u32 a.x5)),(46,xi a.x46),(47,xi a.x47)],heap := [(0,.box [0,101] [xi a.h0.Op,.arr 1]),(1,.arr true 1 (QS a.h0.F))] }
def Qcb (a : Wg) : Ex × St := (.ret,{ n := 91,nx := 1,env := [(2,.ptr 0 0),(3,xi a.x3),(4,xo a.x4)],heap := [(0,.box [0,101] (Wd a.h0))] })
def Qcc (a : Qi) : Ex × St := (.exit 2,{ n := 91,nx := 2,env := [(2,.ptr 0 0)],heap := [(0,.box [0,101] [xi a.Op,.arr 1]),(1,.arr true 1 (QS a.F))] })
def Qc5 : (Wg ⊕ Qi) → Ex × St := Sum.elim Qcb Qcc
abbrev Qes := JG → Option (Wg ⊕ Qi)
def GK (C0 : QmX) (C1 : QgT) (C2 : QmZ) (C3 : QnU) (L4 : Qer) (a : JG) : Option (JG ⊕ (Wg ⊕ Qi)) := (bif (decide (a.x47 < a.x46)) then ((C0 a.x47).bind fun r1 => (bif (r1 != a.x3) then (some (.inl (JG.mk a.x3 a.x5 a.x46 (w64 (a.x47 + 1)) a.h0))) else ((C1 a.x47).bind fun r2 => ((L4 (UP.mk a.x3 a.x5 a.x46 a.x47 r2 (((r2.length) : Nat) : Int) (0 : Int) a.h0 (Qi.mk a.x47 ([] : List Int)))).bind (fun (o3 : W0) => ((C2 o3.h1).bind fun r4 => (bif r4.2 then (bif (r4.1 == o3.x5) then ((C3 o3.h1.F).bind fun r5 => (some (.inr (.inl (Wg.mk o3.x3 true (Qi.mk o3.h1.Op r5)))))) else (some (.inl (JG.mk o3.x3 o3.x5 o3.x46 (w64 (o3.x47 + 1)) o3.h0)))) else (some (.inl (JG.mk o3.x3 o3.x5 o3.x46 (w64 (o3.x47 + 1)) o3.h0)))))))))) else (some (.inr (.inr a.h0))))
noncomputable def Vg : Qes := loopW (GK WW WH WY YR Vf)
theorem Vg.eq (a : JG) : Vg a = (GK WW WH WY YR Vf a).bind (Sum.elim Vg some) := QK _ _
noncomputable def QkJ (a : JG) : Pn True (lw 0 91) (Sum.elim (fun a => (Ex.norm,PE a)) Qc5) := (pA (decide (a.x47 < a.x46)) (QsM a.x47 fun r1 => (pA (r1 != a.x3) (pR (.inl (JG.mk a.x3 a.x5 a.x46 (w64 (a.x47 + 1)) a.h0))) (Qky a.x47 fun r2 => (pH Qv r2 (QkI (UP.mk a.x3 a.x5 a.x46 a.x47 r2 (((r2.length) : Nat) : Int) i0 a.h0 (Qi.mk a.x47 ([] : List Int))) (fun o3 => (Qs0 o3.h1 fun r4 => (pA r4.2 (pYN 3 r4.2 (fun g => g.2) (pA (r4.1 == o3.x5) (QlX o3.h1.F fun r5 => (pR (.inr (.inl (Wg.mk o3.x3 true (Qi.mk o3.h1.Op r5)))))) (pR (.inl (JG.mk o3.x3 o3.x5 o3.x46 (w64 (o3.x47 + 1)) o3.h0))))) (pNN 3 r4.2 (fun g => g.2) (pV false rfl (pR (.inl (JG.mk o3.x3 o3.x5 o3.x46 (w64 (o3.x47 + 1)) o3.h0))))))))))))) (pR (.inr (.inr a.h0))))
theorem Vg.ok {a : JG} {r : (Wg ⊕ Qi)} (h : Vg a = some r) : lw 0 91 (loopAt pp 91 11) (PE a) = some (Qc5 r) := lpQ QkJ h
noncomputable abbrev QkK {Γ : Prop} {ρ R : Type} {en : ρ → R} (a : JG) (k0 : Wg → Pn Γ (lw 0 91) en) (k1 : Qi → Pn Γ (lw 0 91) en) : Pn Γ (lw 0 91) en := p2 (loopAt pp 91 11) (PE a) (Vg a) Qcb Qcc (fun _ => Vg.ok) k0 k1
def Qcd (C0 : QmW) (C1 : WO) (L2 : Qeq) (L3 : Qes) (a0 : (List Int)) : Option (Qi × Int × Bool) := (bif (decide ((((a0.length) : Nat) : Int) < 2)) then (some ((Qi.mk (0 : Int) ([] : List Int)),(0 : Int),false)) else ((a0[(Int.toNat 0)]?).bind fun e1 => ((C0 e1).bind fun r2 => (bif (decide ((((a0.length) : Nat) : Int) < r2)) then (some ((Qi.mk (0 : Int) ([] : List Int)),(0 : Int),false)) else ((a0[(Int.toNat 0)]?).bind fun e3 => ((C0 e3).bind fun r4 => (bif (decide (0 ≤ (0 : Int) ∧ (0 : Int) ≤ r4 ∧ r4 ≤ ((a0.length : Nat) : Int))) then ((L2 (UO.mk r4 (0 : Int) ((a0.drop (Int.toNat 0)).take (Int.toNat (r4 - 0))) (((((a0.drop (Int.toNat 0)).take (Int.toNat (r4 - 0))).length) : Nat) : Int) (0 : Int) (Qi.mk (0 : Int) ([] : List Int)))).bind (fun (o5 : WZ) => ((C1).bind fun r6 => ((L3 (JG.mk o5.x3 o5.x5 (((r6.length) : Nat) : Int) (0 : Int) o5.h0)).bind fun x => Sum.elim (fun (o7 : Wg) => (some (o7.h0,o7.x3,o7.x4))) (fun (o8 : Qi) => (some ((Qi.mk (0 : Int) ([] : List Int)),(0 : Int),false))) x)))) else none)))))))
noncomputable def Yc : Qi6 := Qcd YP JL Ve Vg
theorem Yc.eq (a0 : (List Int)) : Yc a0 = Qcd YP JL Ve Vg a0 := rfl
noncomputable def Qph (a0 : (List Int)) : Pn True (lw 0 91) Qca := (pH E_u8 a0 (let u64 := (decide ((((a0.length) : Nat) : Int) < 2)); pA u64 (pYN 7 u64 (fun g => g.2) (pU true rfl (pR ((Qi.mk i0 ([] : List Int)),i0,false)))) (pN u64 (fun g => g.2) (pH E_u8 a0 (pNN 2 u64 (fun g => g.2) (pU (decide (0 ≤ i0)) rfl (pI E_u8 a0 i0 fun e1 => (pNN 2 u64 (fun g => g.2) (Qkv e1 fun r2 => (pNN 2 u64 (fun g => g.2) (pA (decide ((((a0.length) : Nat) : Int) < r2)) (pR ((Qi.mk i0 ([] : List Int)),i0,false)) (pU (decide (0 ≤ i0)) rfl (pI E_u8 a0 i0 fun e3 => (Qkv e3 fun r4 => (pU (decide ((R_u8 a0).all (fun r => r.length == 1) = true)) (decide_eq_true (QjC _)) (pB (in2 i0 r4 (((R_u8 a0).length : Nat) : Int)) (in2 i0 r4 ((a0.length : Nat) : Int)) (by rw [QeT]) (pZ (((R_u8 a0).drop (Int.toNat 0)).take (Int.toNat (r4 - 0))) (R_u8 ((a0.drop (Int.toNat 0)).take (Int.toNat (r4 - 0)))) (by rw [QeS]) (pH E_u8 ((a0.drop (Int.toNat 0)).take (Int.toNat (r4 - 0))) (QkG (UO.mk r4 i0 ((a0.drop (Int.toNat 0)).take (Int.toNat (r4 - 0))) (((((a0.drop (Int.toNat 0)).take (Int.toNat (r4 - 0))).length) : Nat) : Int) i0 (Qi.mk i0 ([] : List Int))) (fun o5 => (EY fun r6 => (pH Zi r6 (QkK (JG.mk o5.x3 o5.x5 (((r6.length) : Nat) : Int) i0 o5.h0) (fun o7 => (pR (o7.h0,o7.x3,o7.x4))) (fun o8 => (pR ((Qi.mk i0 ([] : List Int)),i0,false)))))))))) pF))))))))))))))))
theorem Yc.ok {a0 : (List Int)} {r : (Qi × Int × Bool)} (h : Yc a0 = some r) : ww 91 [.sl (R_u8 a0)] [] = some (Qca r) := fnQ (Qph a0) h
noncomputable abbrev Qpi {Γ : Prop} {lp : Loops} {ρ R : Type} {en : ρ → R} (a0 : (List Int)) (k : (Qi × Int × Bool) → Pn Γ lp en) : Pn Γ lp en := pC (ww 91 [.sl (R_u8 a0)] []) (Yc a0) Qca (fun _ => Yc.ok) k
abbrev ZJ := Qa → Option ByteArray
def Qaa (a0 : Qa) : Option ByteArray := (some a0.kinds)
noncomputable def Uw : ZJ := Qaa
noncomputable def QgZ (a0 : Qa) : Pn True (lw 0 200) QQ := (pR a0.kinds)
theorem Uw.ok {a0 : Qa} {r : ByteArray} (h : Uw a0 = some r) : ww 200 [.agg (Yg a0)] [] = some (QQ r) := fnQ (QgZ a0) h
noncomputable abbrev Qg0 {Γ : Prop} {lp : Loops} {ρ R : Type} {en : ρ → R} (a0 : Qa) (k : ByteArray → Pn Γ lp en) : Pn Γ lp en := pC (ww 200 [.agg (Yg a0)] []) (Uw a0) QQ (fun _ => Uw.ok) k
noncomputable def Uw.s : Nat → Qa → Option ByteArray
 | 0,_ => none
 | k + 1,a0 => Qaa a0
theorem Uw.cv (a0 : Qa) : Cv (fun k => Uw.s k a0) (Uw a0) := .un rfl (by exact .const _)
abbrev Qc6 := Int → Option ByteArray
def Z9 (C0 : WO) (C1 : ZJ) (a0 : Int) : Option ByteArray := ((C0).bind fun r1 => (bif (decide (a0 ≥ 0)) then (bif (decide (a0 < (((r1.length) : Nat) : Int))) then (bif (decide (0 ≤ a0)) then ((r1[(Int.toNat a0)]?).bind fun e2 => ((C1 e2).bind fun r3 => (some r3))) else none) else (some s_)) else (some s_)))
theorem Qs1 {C0 : Nat → WO} {D0 : WO} (H0 : Cv C0 D0) {C1 : Nat → ZJ} {D1 : ZJ} (H1 : Cv1 C1 D1) (a0 : Int) : Cv (fun k => Z9 (C0 k) (C1 k) a0) (Z9 D0 D1 a0) := by
 unfold Z9
 exact .bind (H0) fun r1 => .cond (.cond (.cond (.bind (.const _) fun e2 => .bind (H1 _) fun r3 => by exact .const _) cst) cst) cst
noncomputable def Xx : Qc6 := Z9 JL Uw
theorem Xx.eq (a0 : Int) : Xx a0 = Z9 JL Uw a0 := rfl
noncomputable def Qs2 (a0 : Int) : Pn True (lw 0 166) QQ := (EY fun r1 => (let u65 := (decide (a0 ≥ 0)); pA u65 (pYN 2 u65 (fun g => g.2) (pH Zi r1 (pYN 2 u65 (fun g => g.2) (pA (decide (a0 < (((r1.length) : Nat) : Int))) (pA (decide (0 ≤ a0)) (pI Zi r1 a0 fun e2 => (Qg0 e2 fun r3 => (pR r3))) pF) (pR s_))))) (pNN 4 u65 (fun g => g.2) (pV false rfl (pR s_)))))
theorem Xx.ok {a0 : Int} {r : ByteArray} (h : Xx a0 = some r) : ww 166 [xi a0,.fn (.func 200) [] []] [] = some (QQ r) := fnQ (Qs2 a0) h
noncomputable abbrev Qs3 {Γ : Prop} {lp : Loops} {ρ R : Type} {en : ρ → R} (a0 : Int) (k : ByteArray → Pn Γ lp en) : Pn Γ lp en := pC (ww 166 [xi a0,.fn (.func 200) [] []] []) (Xx a0) QQ (fun _ => Xx.ok) k
noncomputable def Xx.s : Nat → Int → Option ByteArray
 | 0,_ => none
 | k + 1,a0 => Z9 (JL.s k) (Uw.s k) a0
theorem Xx.cv (a0 : Int) : Cv (fun k => Xx.s k a0) (Xx a0) := .un rfl (Qs1 JL.cv Uw.cv a0)
abbrev QkL := Int → Option ByteArray
def Zz (C0 : Qc6) (a0 : Int) : Option ByteArray := ((C0 a0).bind fun r1 => (some r1))
theorem QqH {C0 : Nat → Qc6} {D0 : Qc6} (H0 : Cv1 C0 D0) (a0 : Int) : Cv (fun k => Zz (C0 k) a0) (Zz D0 a0) := by
 unfold Zz
 exact .bind (H0 _) fun r1 => by exact .const _
noncomputable def UD : QkL := Zz Xx
theorem UD.eq (a0 : Int) : UD a0 = Zz Xx a0 := rfl
noncomputable def QqI (a0 : Int) : Pn True (lw 0 146) QQ := (Qs3 a0 fun r1 => (pR r1))
theorem UD.ok {a0 : Int} {r : ByteArray} (h : UD a0 = some r) : ww 146 [xi a0] [] = some (QQ r) := fnQ (QqI a0) h
noncomputable abbrev QqJ {Γ : Prop} {lp : Loops} {ρ R : Type} {en : ρ → R} (a0 : Int) (k : ByteArray → Pn Γ lp en) : Pn Γ lp en := pC (ww 146 [xi a0] []) (UD a0) QQ (fun _ => UD.ok) k
noncomputable def UD.s : Nat → Int → Option ByteArray
 | 0,_ => none
 | k + 1,a0 => Zz (Xx.s k) a0
theorem UD.cv (a0 : Int) : Cv (fun k => UD.s k a0) (UD a0) := .un rfl (QqH Xx.cv a0)
abbrev Qiw := ByteArray → ByteArray → Option Bool
noncomputable def Xy (a0 : ByteArray) (a1 : ByteArray) : Option Bool := containsS a0 a1
theorem Xy.ok {a0 : ByteArray} {a1 : ByteArray} {r : Bool} (h : Xy a0 a1 = some r) : ww 177 [xs a0,xs a1] [] = some (QF r) := (FI rfl _ _).trans (Qqr h)
noncomputable abbrev Qg1 {Γ : Prop} {lp : Loops} {ρ R : Type} {en : ρ → R} (a0 : ByteArray) (a1 : ByteArray) (k : Bool → Pn Γ lp en) : Pn Γ lp en := pC (ww 177 [xs a0,xs a1] []) (Xy a0 a1) QF (fun _ => Xy.ok) k
abbrev Gi := Int → Option ByteArray
noncomputable def UG (a0 : Int) : Option ByteArray := itoaQ a0
theorem UG.ok {a0 : Int} {r : ByteArray} (h : UG a0 = some r) : ww 93 [xi a0] [] = some (QQ r) := (FI rfl _ _).trans (Qxm ((QoR _).symm.trans h))
noncomputable abbrev XA {Γ : Prop} {lp : Loops} {ρ R : Type} {en : ρ → R} (a0 : Int) (k : ByteArray → Pn Γ lp en) : Pn Γ lp en := pC (ww 93 [xi a0] []) (UG a0) QQ (fun _ => UG.ok) k
noncomputable def UG.s : Nat → Int → Option ByteArray
 | 0,_ => none
 | _ + 1,a0 => itoaQ a0
theorem UG.cv (a0 : Int) : Cv (fun k => UG.s k a0) (UG a0) := .un rfl (.const _)
abbrev Qg2 := ByteArray → Int → Option ByteArray
def QaI (C0 : Qiw) (C1 : Gi) (a0 : ByteArray) (a1 : Int) : Option ByteArray := (bif (decide (((h_20.size + a0.size : Nat) : Int) ≤ IntKind.i64.max)) then (bif (decide ((((h_20 ++ a0).size + h_20.size : Nat) : Int) ≤ IntKind.i64.max)) then ((C0 JQ ((h_20 ++ a0) ++ h_20)).bind fun r1 => (bif r1 then ((C1 a1).bind fun r2 => (bif (decide (((s_r.size + r2.size : Nat) : Int) ≤ IntKind.i64.max)) then (some (s_r ++ r2)) else none)) else (bif (decide (0 ≤ (0 : Int) ∧ (0 : Int) < ((a0.size : Nat) : Int))) then (bif (((a0.data.getD (Int.toNat 0) 0).toNat : Int) == 84) then (bif (decide (a1 < 0)) then ((C1 (w64 (0 - a1))).bind fun r3 => (bif (decide (((F4.size + r3.size : Nat) : Int) ≤ IntKind.i64.max)) then (some (F4 ++ r3)) else none)) else ((C1 a1).bind fun r4 => (bif (decide (((F3.size + r4.size : Nat) : Int) ≤ IntKind.i64.max)) then (some (F3 ++ r4)) else none))) else ((C1 a1).bind fun r5 => (some r5))) else none))) else none) else none)
noncomputable def XJ : Qg2 := QaI Xy UG
theorem XJ.eq (a0 : ByteArray) (a1 : Int) : XJ a0 a1 = QaI Xy UG a0 a1 := rfl
noncomputable def QnV (a0 : ByteArray) (a1 : Int) : Pn True (lw 0 147) QQ := (pA (decide (((h_20.size + a0.size : Nat) : Int) ≤ IntKind.i64.max)) (pA (decide ((((h_20 ++ a0).size + h_20.size : Nat) : Int) ≤ IntKind.i64.max)) (Qg1 JQ ((h_20 ++ a0) ++ h_20) fun r1 => (pA r1 (XA a1 fun r2 => (pA (decide (((s_r.size + r2.size : Nat) : Int) ≤ IntKind.i64.max)) (pR (s_r ++ r2)) pF)) (let u67 := (in1 i0 (zz a0)); pA u67 (let u66 := ((gb a0 i0) == 84); pA u66 (pYN 2 u66 (fun g => g.2) (pA (decide (a1 < 0)) (XA (w64 (0 - a1)) fun r3 => (pA (decide (((F4.size + r3.size : Nat) : Int) ≤ IntKind.i64.max)) (pR (F4 ++ r3)) pF)) (pY u67 (fun g => g.1.1.2) (pY u66 (fun g => g.1.2) (XA a1 fun r4 => (pA (decide (((F3.size + r4.size : Nat) : Int) ≤ IntKind.i64.max)) (pR (F3 ++ r4)) pF)))))) (pNN 2 u66 (fun g => g.2) (pV false rfl (pY u67 (fun g => g.1.2) (pN u66 (fun g => g.2) (XA a1 fun r5 => (pR r5))))))) pF))) pF) pF)
theorem XJ.ok {a0 : ByteArray} {a1 : Int} {r : ByteArray} (h : XJ a0 a1 = some r) : ww 147 [xs a0,xi a1] [] = some (QQ r) := fnQ (QnV a0 a1) h
noncomputable abbrev QnW {Γ : Prop} {lp : Loops} {ρ R : Type} {en : ρ → R} (a0 : ByteArray) (a1 : Int) (k : ByteArray → Pn Γ lp en) : Pn Γ lp en := pC (ww 147 [xs a0,xi a1] []) (XJ a0 a1) QQ (fun _ => XJ.ok) k
abbrev QnX := (List ByteArray) → ByteArray → Option ByteArray
noncomputable def W1 (a0 : (List ByteArray)) (a1 : ByteArray) : Option ByteArray := joinS a0 a1
theorem W1.ok {a0 : (List ByteArray)} {a1 : ByteArray} {r : ByteArray} (h : W1 a0 a1 = some r) : ww 69 [.sl (Qr a0),xs a1] [] = some (QQ r) := (FI rfl _ _).trans (Qxo h)
noncomputable abbrev QlY {Γ : Prop} {lp : Loops} {ρ R : Type} {en : ρ → R} (a0 : (List ByteArray)) (a1 : ByteArray) (k : ByteArray → Pn Γ lp en) : Pn Γ lp en := pC (ww 69 [.sl (Qr a0),xs a1] []) (W1 a0 a1) QQ (fun _ => W1.ok) k
abbrev Qce := Qi → Option ByteArray
structure JE where
 x9 : (List ByteArray)
 x10 : Int
 x11 : Int
 h0 : Qi
 r1 : (List ByteArray)
structure U4 where
 h0 : Qi
 r1 : (List ByteArray)
def Ga (a : JE) : St := { n := 40,nx := 2,env := [(1,.ptr 0 0),(3,.arr 1),(9,.sl (Qr a.x9)),(10,xi a.x10),(11,xi a.x11)],heap := [(0,.box [0,101] (Wd a.h0)),(1,.arr true 1 (Qr a.r1))] }
def Gb (a : U4) : Ex × St := (.exit 0,{ n := 40,nx := 2,env := [(1,.ptr 0 0),(3,.arr 1)],heap := [(0,.box [0,101] (Wd a.h0)),(1,.arr true 1 (Qr a.r1))] })
abbrev PY := JE → Option U4
def Ys (C0 : Qg2) (a : JE) : Option (JE ⊕ U4) := (bif (decide (a.x11 < a.x10)) then (bif (decide (0 ≤ a.x11)) then ((a.x9[(Int.toNat a.x11)]?).bind fun e1 => ((a.h0.F[(Int.toNat a.x11)]?).bind fun e2 => ((C0 e1 e2).bind fun r3 => (bif (decide ((a.r1.length + [r3].length) * 16 ≤ most)) then (some (.inl (JE.mk a.x9 a.x10 (w64 (a.x11 + 1)) a.h0 (a.r1 ++ [r3])))) else none)))) else none) else (some (.inr (U4.mk a.h0 a.r1))))
noncomputable def JM : PY := loopW (Ys XJ)
theorem JM.eq (a : JE) : JM a = (Ys XJ a).bind (Sum.elim JM some) := QK _ _
noncomputable def Qfb (a : JE) : Pn True (lw 0 92) (Sum.elim (fun a => (Ex.norm,Ga a)) Gb) := (pA (decide (a.x11 < a.x10)) (let u68 := (decide (0 ≤ a.x11)); pA u68 (pI Qv a.x9 a.x11 fun e1 => (pY u68 (fun g => g.2) (pI Jh a.h0.F a.x11 fun e2 => (QnW e1 e2 fun r3 => (pZ [[xs r3]] (Qr [r3]) (Js [r3]) (pQ Qv 16 a.r1 [r3] (pR (.inl (JE.mk a.x9 a.x10 (w64 (a.x11 + 1)) a.h0 (a.r1 ++ [r3])))))))))) pF) (pR (.inr (U4.mk a.h0 a.r1))))
theorem JM.ok {a : JE} {r : U4} (h : JM a = some r) : lw 0 92 (loopAt pp 92 3) (Ga a) = some (Gb r) := lpQ Qfb h
noncomputable abbrev Qfc {Γ : Prop} {ρ R : Type} {en : ρ → R} (a : JE) (k0 : U4 → Pn Γ (lw 0 92) en) : Pn Γ (lw 0 92) en := p1 (loopAt pp 92 3) (Ga a) (JM a) Gb (fun _ => JM.ok) k0
def EF (C0 : QkL) (C1 : GG) (C2 : FN) (C3 : QnX) (L4 : PY) (a0 : Qi) : Option ByteArray := ((C0 a0.Op).bind fun r1 => ((C1 r1).bind fun r2 => ((L4 (JE.mk r2 (((r2.length) : Nat) : Int) (0 : Int) a0 ([] : List ByteArray))).bind (fun (o3 : U4) => (bif ((((o3.r1.length) : Nat) : Int) == 0) then ((C2 o3.h0.Op).bind fun r4 => (some r4)) else ((C2 o3.h0.Op).bind fun r5 => (bif (decide (((r5.size + h_20.size : Nat) : Int) ≤ IntKind.i64.max)) then ((C3 o3.r1 SL).bind fun r6 => (bif (decide ((((r5 ++ h_20).size + r6.size : Nat) : Int) ≤ IntKind.i64.max)) then (some ((r5 ++ h_20) ++ r6)) else none)) else none)))))))
noncomputable def Vp : Qce := EF UD JU Jr W1 JM
theorem Vp.eq (a0 : Qi) : Vp a0 = EF UD JU Jr W1 JM a0 := rfl
noncomputable def Qix (a0 : Qi) : Pn True (lw 0 92) QQ := (QqJ a0.Op fun r1 => (Qb7 r1 fun r2 => (pH Qv r2 (Qfc (JE.mk r2 (((r2.length) : Nat) : Int) i0 a0 ([] : List ByteArray)) (fun o3 => (pH Qv o3.r1 (pA ((((o3.r1.length) : Nat) : Int) == 0) (Qbo o3.h0.Op fun r4 => (pR r4)) (Qbo o3.h0.Op fun r5 => (pA (decide (((r5.size + h_20.size : Nat) : Int) ≤ IntKind.i64.max)) (QlY o3.r1 SL fun r6 => (pA (decide ((((r5 ++ h_20).size + r6.size : Nat) : Int) ≤ IntKind.i64.max)) (pR ((r5 ++ h_20) ++ r6)) pF)) pF)))))))))
theorem Vp.ok {a0 : Qi} {r : ByteArray} (h : Vp a0 = some r) : ww 92 [.agg (Wd a0)] [] = some (QQ r) := fnQ (Qix a0) h
noncomputable abbrev Qiy {Γ : Prop} {lp : Loops} {ρ R : Type} {en : ρ → R} (a0 : Qi) (k : ByteArray → Pn Γ lp en) : Pn Γ lp en := pC (ww 92 [.agg (Wd a0)] []) (Vp a0) QQ (fun _ => Vp.ok) k
def Gu (r : (ByteArray × Bool × QE)) : AV × Heap := (.tup [xs r.1,xo r.2.1],[(0,.box [] [.ptr 1 0]),(1,.box [] (WT r.2.2))])
abbrev Qab := Int → ByteArray → QE → Option (ByteArray × Bool × QE)
def Gv (a0 : Int) (a1 : ByteArray) (h1 : QE) : Option (ByteArray × Bool × QE) := (bif (decide (0 ≤ a0 ∧ a0 ≤ ((h1.b.length : Nat) : Int) ∧ ((h1.b.length : Nat) : Int) ≤ ((h1.b.length : Nat) : Int))) then (some (a1,true,(QE.mk ((h1.b.drop (Int.toNat a0)).take (Int.toNat (((h1.b.length : Nat) : Int) - a0)))))) else none)
noncomputable def Vb : Qab := Gv
theorem Vb.eq (a0 : Int) (a1 : ByteArray) (h1 : QE) : Vb a0 a1 h1 = Gv a0 a1 h1 := rfl
noncomputable def Qf8 (a0 : Int) (a1 : ByteArray) (h1 : QE) : Pn True (lw 2 90) Gu := (pU (decide ((R_u8 h1.b).all (fun r => r.length == 1) = true)) (decide_eq_true (QjC _)) (pB (in2 a0 (((R_u8 h1.b).length : Nat) : Int) (((R_u8 h1.b).length : Nat) : Int)) (in2 a0 ((h1.b.length : Nat) : Int) ((h1.b.length : Nat) : Int)) (by rw [QeT]) (pZ (((R_u8 h1.b).drop (Int.toNat a0)).take (Int.toNat ((((R_u8 h1.b).length : Nat) : Int) - a0))) (R_u8 ((h1.b.drop (Int.toNat a0)).take (Int.toNat (((h1.b.length : Nat) : Int) - a0)))) (by rw [QeS,QeT]) (pR (a1,true,(QE.mk ((h1.b.drop (Int.toNat a0)).take (Int.toNat (((h1.b.length : Nat) : Int) - a0))))))) pF))
theorem Vb.ok {a0 : Int} {a1 : ByteArray} {h1 : QE} {r : (ByteArray × Bool × QE)} (h : Vb a0 a1 h1 = some r) : ww 90 [xi a0,xs a1,.ptr 0 0] [(0,.box [] [.ptr 1 0]),(1,.box [] (WT h1))] = some (Gu r) := fnQ (Qf8 a0 a1 h1) h
noncomputable abbrev Gw {Γ : Prop} {lp : Loops} {ρ R : Type} {en : ρ → R} (a0 : Int) (a1 : ByteArray) (h1 : QE) (k : (ByteArray × Bool × QE) → Pn Γ lp en) : Pn Γ lp en := pC (ww 90 [xi a0,xs a1,.ptr 0 0] [(0,.box [] [.ptr 1 0]),(1,.box [] (WT h1))]) (Vb a0 a1 h1) Gu (fun _ => Vb.ok) k
def EG (r : (ByteArray × Bool × QE)) : AV × Heap := (.tup [xs r.1,xo r.2.1],[(0,.box [] (WT r.2.2))])
abbrev Fq := QE → Option (ByteArray × Bool × QE)
def EH (C0 : Qi6) (C1 : Qce) (C2 : Qab) (C3 : Gi) (h0 : QE) : Option (ByteArray × Bool × QE) := (bif ((((h0.b.length) : Nat) : Int) == 0) then (some (s_,false,h0)) else ((C0 h0.b).bind fun r1 => (bif r1.2.2 then ((C1 r1.1).bind fun r2 => ((C2 r1.2.1 r2 h0).bind fun r3 => (some (r3.1,r3.2.1,r3.2.2)))) else (bif ((((h0.b.length) : Nat) : Int) == 1) then ((h0.b[(Int.toNat 0)]?).bind fun e4 => ((C3 (w64 e4)).bind fun r5 => (bif (decide (((ZQ.size + r5.size : Nat) : Int) ≤ IntKind.i64.max)) then ((C2 (1 : Int) (ZQ ++ r5) h0).bind fun r6 => (some (r6.1,r6.2.1,r6.2.2))) else none))) else ((h0.b[(Int.toNat 0)]?).bind fun e7 => ((h0.b[(Int.toNat 1)]?).bind fun e8 => ((C3 (orI .i64 (shlI .i64 (w64 e7) (8 : Int)) (w64 e8))).bind fun r9 => (bif (decide (((ZR.size + r9.size : Nat) : Int) ≤ IntKind.i64.max)) then ((C2 (2 : Int) (ZR ++ r9) h0).bind fun r10 => (some (r10.1,r10.2.1,r10.2.2))) else none))))))))
noncomputable def J8 : Fq := EH Yc Vp Vb UG
theorem J8.eq (h0 : QE) : J8 h0 = EH Yc Vp Vb UG h0 := rfl
noncomputable def Qiz (h0 : QE) : Pn True (lw 1 45) EG := (pH E_u8 h0.b (pA ((((h0.b.length) : Nat) : Int) == 0) (pR (s_,false,h0)) (Qpi h0.b fun r1 => (pA r1.2.2 (Qiy r1.1 fun r2 => (Gw r1.2.1 r2 h0 fun r3 => (pR (r3.1,r3.2.1,r3.2.2)))) (pH E_u8 h0.b (pA ((((h0.b.length) : Nat) : Int) == 1) (pU (decide (0 ≤ i0)) rfl (pI E_u8 h0.b i0 fun e4 => (XA (w64 e4) fun r5 => (pA (decide (((ZQ.size + r5.size : Nat) : Int) ≤ IntKind.i64.max)) (Gw (zi 1) (ZQ ++ r5) h0 fun r6 => (pR (r6.1,r6.2.1,r6.2.2))) pF)))) (pU (decide (0 ≤ i0)) rfl (pI E_u8 h0.b i0 fun e7 => (pU (decide (0 ≤ (zi 8))) rfl (pU (decide (0 ≤ (zi 1))) rfl (pI E_u8 h0.b (zi 1) fun e8 => (XA (orI .i64 (shlI .i64 (w64 e7) (zi 8)) (w64 e8)) fun r9 => (pA (decide (((ZR.size + r9.size : Nat) : Int) ≤ IntKind.i64.max)) (Gw (zi 2) (ZR ++ r9) h0 fun r10 => (pR (r10.1,r10.2.1,r10.2.2))) pF)))))))))))))
theorem J8.ok {h0 : QE} {r : (ByteArray × Bool × QE)} (h : J8 h0 = some r) : ww 45 [.ptr 0 0] [(0,.box [] (WT h0))] = some (EG r) := fnQ (Qiz h0) h
noncomputable abbrev Qa1 {Γ : Prop} {lp : Loops} {ρ R : Type} {en : ρ → R} (h0 : QE) (k : (ByteArray × Bool × QE) → Pn Γ lp en) : Pn Γ lp en := pC (ww 45 [.ptr 0 0] [(0,.box [] (WT h0))]) (J8 h0) EG (fun _ => J8.ok) k
abbrev Qm0 := Int → Option ByteArray
def PF (C0 : Gi) (a0 : Int) : Option ByteArray := (bif (decide (0 ≤ (Int.tmod (w64 (Int.tdiv a0 (100 : Int))) (10 : Int)) ∧ (Int.tmod (w64 (Int.tdiv a0 (100 : Int))) (10 : Int)) ≤ (w64 ((Int.tmod (w64 (Int.tdiv a0 (100 : Int))) (10 : Int)) + 1)) ∧ (w64 ((Int.tmod (w64 (Int.tdiv a0 (100 : Int))) (10 : Int)) + 1)) ≤ ((Yi.size : Nat) : Int))) then ((C0 (Int.tmod (w64 (Int.tdiv a0 (10 : Int))) (10 : Int))).bind fun r1 => (bif (decide ((((Yi.extract (Int.toNat (Int.tmod (w64 (Int.tdiv a0 (100 : Int))) (10 : Int))) (Int.toNat (w64 ((Int.tmod (w64 (Int.tdiv a0 (100 : Int))) (10 : Int)) + 1)))).size + r1.size : Nat) : Int) ≤ IntKind.i64.max)) then ((C0 (Int.tmod a0 (10 : Int))).bind fun r2 => (bif (decide (((((Yi.extract (Int.toNat (Int.tmod (w64 (Int.tdiv a0 (100 : Int))) (10 : Int))) (Int.toNat (w64 ((Int.tmod (w64 (Int.tdiv a0 (100 : Int))) (10 : Int)) + 1)))) ++ r1).size + r2.size : Nat) : Int) ≤ IntKind.i64.max)) then (some (((Yi.extract (Int.toNat (Int.tmod (w64 (Int.tdiv a0 (100 : Int))) (10 : Int))) (Int.toNat (w64 ((Int.tmod (w64 (Int.tdiv a0 (100 : Int))) (10 : Int)) + 1)))) ++ r1) ++ r2)) else none)) else none)) else none)
theorem Qs4 {C0 : Nat → Gi} {D0 : Gi} (H0 : Cv1 C0 D0) (a0 : Int) : Cv (fun k => PF (C0 k) a0) (PF D0 a0) := by
 unfold PF
 exact .cond (.bind (H0 _) fun r1 => .cond (.bind (H0 _) fun r2 => by exact .const _) cst) cst
noncomputable def XR : Qm0 := PF UG
noncomputable def Qs5 (a0 : Int) : Pn True (lw 0 47) QQ := (pU (decide ((zi 100) ≠ 0)) rfl (pU (decide ((zi 10) ≠ 0)) rfl (pA (in2 (Int.tmod (w64 (Int.tdiv a0 (zi 100))) (zi 10)) (w64 ((Int.tmod (w64 (Int.tdiv a0 (zi 100))) (zi 10)) + 1)) (zz Yi)) (pYN 2 (decide ((zi 10) ≠ 0)) (fun _ => rfl) (XA (Int.tmod (w64 (Int.tdiv a0 (zi 10))) (zi 10)) fun r1 => (pA (decide ((((cu Yi (Int.tmod (w64 (Int.tdiv a0 (zi 100))) (zi 10)) (w64 ((Int.tmod (w64 (Int.tdiv a0 (zi 100))) (zi 10)) + 1))).size + r1.size : Nat) : Int) ≤ IntKind.i64.max)) (pU (decide ((zi 10) ≠ 0)) rfl (XA (Int.tmod a0 (zi 10)) fun r2 => (pA (decide (((((cu Yi (Int.tmod (w64 (Int.tdiv a0 (zi 100))) (zi 10)) (w64 ((Int.tmod (w64 (Int.tdiv a0 (zi 100))) (zi 10)) + 1))) ++ r1).size + r2.size : Nat) : Int) ≤ IntKind.i64.max)) (pR (((cu Yi (Int.tmod (w64 (Int.tdiv a0 (zi 100))) (zi 10)) (w64 ((Int.tmod (w64 (Int.tdiv a0 (zi 100))) (zi 10)) + 1))) ++ r1) ++ r2)) pF))) pF))) pF)))
theorem XR.ok {a0 : Int} {r : ByteArray} (h : XR a0 = some r) : ww 47 [xi a0] [] = some (QQ r) := fnQ (Qs5 a0) h
noncomputable abbrev QkM {Γ : Prop} {lp : Loops} {ρ R : Type} {en : ρ → R} (a0 : Int) (k : ByteArray → Pn Γ lp en) : Pn Γ lp en := pC (ww 47 [xi a0] []) (XR a0) QQ (fun _ => XR.ok) k
noncomputable def XR.s : Nat → Int → Option ByteArray
 | 0,_ => none
 | k + 1,a0 => PF (UG.s k) a0
theorem XR.cv (a0 : Int) : Cv (fun k => XR.s k a0) (XR a0) := .un rfl (Qs4 UG.cv a0)
def QaJ (r : (List Qg)) : AV × Heap := (.tup [],[(0,.box [102] [.arr 2]),(2,.arr false 2 (QL r))])
abbrev Qg3 := ByteArray → (List Qg) → Option (List Qg)
def Fd (C0 : Qm0) (a0 : ByteArray) (h0 : (List Qg)) : Option (List Qg) := (bif ((((h0.length) : Nat) : Int) == 0) then ((C0 (((h0.length) : Nat) : Int)).bind fun r1 => (bif (decide ((h0.length + [(Qg.mk r1 s_)].length) * 32 ≤ most)) then (bif (decide (0 ≤ (w64 ((w64 ((((h0.length) : Nat) : Int) + 1)) - 1)) ∧ (w64 ((w64 ((((h0.length) : Nat) : Int) + 1)) - 1)) < (((h0 ++ [(Qg.mk r1 s_)]).length : Nat) : Int))) then (((h0 ++ [(Qg.mk r1 s_)])[(Int.toNat (w64 ((w64 ((((h0.length) : Nat) : Int) + 1)) - 1)))]?).bind fun e2 => (bif (decide (((a0.size + h_0a.size : Nat) : Int) ≤ IntKind.i64.max)) then (bif (decide (((e2.Text.size + (a0 ++ h_0a).size : Nat) : Int) ≤ IntKind.i64.max)) then (((h0 ++ [(Qg.mk r1 s_)])[(Int.toNat (w64 ((w64 ((((h0.length) : Nat) : Int) + 1)) - 1)))]?).bind fun e3 => (some ((h0 ++ [(Qg.mk r1 s_)]).set (Int.toNat (w64 ((w64 ((((h0.length) : Nat) : Int) + 1)) - 1))) (Qg.mk e3.Name (e2.Text ++ (a0 ++ h_0a)))))) else none) else none)) else none) else none)) else (bif (decide (0 ≤ (w64 ((((h0.length) : Nat) : Int) - 1)) ∧ (w64 ((((h0.length) : Nat) : Int) - 1)) < ((h0.length : Nat) : Int))) then ((h0[(Int.toNat (w64 ((((h0.length) : Nat) : Int) - 1)))]?).bind fun e4 => (bif (decide ((w64 ((w64 (((e4.Text.size : Nat) : Int) + ((a0.size : Nat) : Int))) + 1)) > 600)) then ((C0 (((h0.length) : Nat) : Int)).bind fun r5 => (bif (decide ((h0.length + [(Qg.mk r5 s_)].length) * 32 ≤ most)) then (bif (decide (0 ≤ (w64 ((w64 ((((h0.length) : Nat) : Int) + 1)) - 1)) ∧ (w64 ((w64 ((((h0.length) : Nat) : Int) + 1)) - 1)) < (((h0 ++ [(Qg.mk r5 s_)]).length : Nat) : Int))) then (((h0 ++ [(Qg.mk r5 s_)])[(Int.toNat (w64 ((w64 ((((h0.length) : Nat) : Int) + 1)) - 1)))]?).bind fun e6 => (bif (decide (((a0.size + h_0a.size : Nat) : Int) ≤ IntKind.i64.max)) then (bif (decide (((e6.Text.size + (a0 ++ h_0a).size : Nat) : Int) ≤ IntKind.i64.max)) then (((h0 ++ [(Qg.mk r5 s_)])[(Int.toNat (w64 ((w64 ((((h0.length) : Nat) : Int) + 1)) - 1)))]?).bind fun e7 => (some ((h0 ++ [(Qg.mk r5 s_)]).set (Int.toNat (w64 ((w64 ((((h0.length) : Nat) : Int) + 1)) - 1))) (Qg.mk e7.Name (e6.Text ++ (a0 ++ h_0a)))))) else none) else none)) else none) else none)) else ((h0[(Int.toNat (w64 ((((h0.length) : Nat) : Int) - 1)))]?).bind fun e8 => (bif (decide (((a0.size + h_0a.size : Nat) : Int) ≤ IntKind.i64.max)) then (bif (decide (((e8.Text.size + (a0 ++ h_0a).size : Nat) : Int) ≤ IntKind.i64.max)) then ((h0[(Int.toNat (w64 ((((h0.length) : Nat) : Int) - 1)))]?).bind fun e9 => (some (h0.set (Int.toNat (w64 ((((h0.length) : Nat) : Int) - 1))) (Qg.mk e9.Name (e8.Text ++ (a0 ++ h_0a)))))) else none) else none)))) else none))
noncomputable def Xl : Qg3 := Fd XR
theorem Xl.eq (a0 : ByteArray) (h0 : (List Qg)) : Xl a0 h0 = Fd XR a0 h0 := rfl
noncomputable def QnY (a0 : ByteArray) (h0 : (List Qg)) : Pn True (lw 2 46) QaJ := (pH UY h0 (let u69 := ((((h0.length) : Nat) : Int) == 0); pA u69 (pYN 12 u69 (fun g => g.2) (pU true rfl (QkM (((h0.length) : Nat) : Int) fun r1 => (pZ [[xs r1,xs s_]] (QL [(Qg.mk r1 s_)]) (ZP [(Qg.mk r1 s_)]) (pQ UY 32 h0 [(Qg.mk r1 s_)] (pG UY (h0 ++ [(Qg.mk r1 s_)]) (w64 ((w64 ((((h0.length) : Nat) : Int) + 1)) - 1)) (pI UY (h0 ++ [(Qg.mk r1 s_)]) (w64 ((w64 ((((h0.length) : Nat) : Int) + 1)) - 1)) fun e2 => (pA (decide (((a0.size + h_0a.size : Nat) : Int) ≤ IntKind.i64.max)) (pA (decide (((e2.Text.size + (a0 ++ h_0a).size : Nat) : Int) ≤ IntKind.i64.max)) (pY (in1 (w64 ((w64 ((((h0.length) : Nat) : Int) + 1)) - 1)) (((QL (h0 ++ [(Qg.mk r1 s_)])).length : Nat) : Int)) (fun g => (show (in1 (w64 ((w64 ((((h0.length) : Nat) : Int) + 1)) - 1)) (((QL (h0 ++ [(Qg.mk r1 s_)])).length : Nat) : Int)) = (in1 (w64 ((w64 ((((h0.length) : Nat) : Int) + 1)) - 1)) (((h0 ++ [(Qg.mk r1 s_)]).length : Nat) : Int)) from (by rw [Et])).trans g.1.1.2) (pI UY (h0 ++ [(Qg.mk r1 s_)]) (w64 ((w64 ((((h0.length) : Nat) : Int) + 1)) - 1)) fun e3 => (pZ ((QL (h0 ++ [(Qg.mk r1 s_)])).set (Int.toNat (w64 ((w64 ((((h0.length) : Nat) : Int) + 1)) - 1))) [xs e3.Name,xs (e2.Text ++ (a0 ++ h_0a))]) (QL ((h0 ++ [(Qg.mk r1 s_)]).set (Int.toNat (w64 ((w64 ((((h0.length) : Nat) : Int) + 1)) - 1))) (Qg.mk e3.Name (e2.Text ++ (a0 ++ h_0a))))) (P6 (h0 ++ [(Qg.mk r1 s_)]) (Int.toNat (w64 ((w64 ((((h0.length) : Nat) : Int) + 1)) - 1))) (Qg.mk e3.Name (e2.Text ++ (a0 ++ h_0a)))) (pR ((h0 ++ [(Qg.mk r1 s_)]).set (Int.toNat (w64 ((w64 ((((h0.length) : Nat) : Int) + 1)) - 1))) (Qg.mk e3.Name (e2.Text ++ (a0 ++ h_0a)))))))) pF) pF)) pF)))))) (pNN 3 u69 (fun g => g.2) (pG UY h0 (w64 ((((h0.length) : Nat) : Int) - 1)) (pNN 2 u69 (fun g => g.1.2) (pI UY h0 (w64 ((((h0.length) : Nat) : Int) - 1)) fun e4 => (pNN 7 u69 (fun g => g.1.2) (pA (decide ((w64 ((w64 ((zz e4.Text) + (zz a0))) + 1)) > 600)) (QkM (((h0.length) : Nat) : Int) fun r5 => (pZ [[xs r5,xs s_]] (QL [(Qg.mk r5 s_)]) (ZP [(Qg.mk r5 s_)]) (pQ UY 32 h0 [(Qg.mk r5 s_)] (pG UY (h0 ++ [(Qg.mk r5 s_)]) (w64 ((w64 ((((h0.length) : Nat) : Int) + 1)) - 1)) (pI UY (h0 ++ [(Qg.mk r5 s_)]) (w64 ((w64 ((((h0.length) : Nat) : Int) + 1)) - 1)) fun e6 => (pA (decide (((a0.size + h_0a.size : Nat) : Int) ≤ IntKind.i64.max)) (pA (decide (((e6.Text.size + (a0 ++ h_0a).size : Nat) : Int) ≤ IntKind.i64.max)) (pY (in1 (w64 ((w64 ((((h0.length) : Nat) : Int) + 1)) - 1)) (((QL (h0 ++ [(Qg.mk r5 s_)])).length : Nat) : Int)) (fun g => (show (in1 (w64 ((w64 ((((h0.length) : Nat) : Int) + 1)) - 1)) (((QL (h0 ++ [(Qg.mk r5 s_)])).length : Nat) : Int)) = (in1 (w64 ((w64 ((((h0.length) : Nat) : Int) + 1)) - 1)) (((h0 ++ [(Qg.mk r5 s_)]).length : Nat) : Int)) from (by rw [Et])).trans g.1.1.2) (pI UY (h0 ++ [(Qg.mk r5 s_)]) (w64 ((w64 ((((h0.length) : Nat) : Int) + 1)) - 1)) fun e7 => (pZ ((QL (h0 ++ [(Qg.mk r5 s_)])).set (Int.toNat (w64 ((w64 ((((h0.length) : Nat) : Int) + 1)) - 1))) [xs e7.Name,xs (e6.Text ++ (a0 ++ h_0a))]) (QL ((h0 ++ [(Qg.mk r5 s_)]).set (Int.toNat (w64 ((w64 ((((h0.length) : Nat) : Int) + 1)) - 1))) (Qg.mk e7.Name (e6.Text ++ (a0 ++ h_0a))))) (P6 (h0 ++ [(Qg.mk r5 s_)]) (Int.toNat (w64 ((w64 ((((h0.length) : Nat) : Int) + 1)) - 1))) (Qg.mk e7.Name (e6.Text ++ (a0 ++ h_0a)))) (pR ((h0 ++ [(Qg.mk r5 s_)]).set (Int.toNat (w64 ((w64 ((((h0.length) : Nat) : Int) + 1)) - 1))) (Qg.mk e7.Name (e6.Text ++ (a0 ++ h_0a)))))))) pF) pF)) pF)))) (pY (in1 (w64 ((((h0.length) : Nat) : Int) - 1)) (((QL h0).length : Nat) : Int)) (fun g => (show (in1 (w64 ((((h0.length) : Nat) : Int) - 1)) (((QL h0).length : Nat) : Int)) = (in1 (w64 ((((h0.length) : Nat) : Int) - 1)) ((h0.length : Nat) : Int)) from (by rw [Et])).trans g.1.2) (pI UY h0 (w64 ((((h0.length) : Nat) : Int) - 1)) fun e8 => (pA (decide (((a0.size + h_0a.size : Nat) : Int) ≤ IntKind.i64.max)) (pA (decide (((e8.Text.size + (a0 ++ h_0a).size : Nat) : Int) ≤ IntKind.i64.max)) (pY (in1 (w64 ((((h0.length) : Nat) : Int) - 1)) (((QL h0).length : Nat) : Int)) (fun g => (show (in1 (w64 ((((h0.length) : Nat) : Int) - 1)) (((QL h0).length : Nat) : Int)) = (in1 (w64 ((((h0.length) : Nat) : Int) - 1)) ((h0.length : Nat) : Int)) from (by rw [Et])).trans g.1.1.1.2) (pI UY h0 (w64 ((((h0.length) : Nat) : Int) - 1)) fun e9 => (pZ ((QL h0).set (Int.toNat (w64 ((((h0.length) : Nat) : Int) - 1))) [xs e9.Name,xs (e8.Text ++ (a0 ++ h_0a))]) (QL (h0.set (Int.toNat (w64 ((((h0.length) : Nat) : Int) - 1))) (Qg.mk e9.Name (e8.Text ++ (a0 ++ h_0a))))) (P6 h0 (Int.toNat (w64 ((((h0.length) : Nat) : Int) - 1))) (Qg.mk e9.Name (e8.Text ++ (a0 ++ h_0a)))) (pR (h0.set (Int.toNat (w64 ((((h0.length) : Nat) : Int) - 1))) (Qg.mk e9.Name (e8.Text ++ (a0 ++ h_0a)))))))) pF) pF))))))) pF))))
theorem Xl.ok {a0 : ByteArray} {h0 : (List Qg)} {r : (List Qg)} (h : Xl a0 h0 = some r) : ww 46 [xs a0,.ptr 0 0] [(0,.box [102] [.arr 1]),(1,.arr false 2 (QL h0))] = some (QaJ r) := fnQ (QnY a0 h0) h
noncomputable abbrev QnZ {Γ : Prop} {lp : Loops} {ρ R : Type} {en : ρ → R} (a0 : ByteArray) (h0 : (List Qg)) (k : (List Qg) → Pn Γ lp en) : Pn Γ lp en := pC (ww 46 [xs a0,.ptr 0 0] [(0,.box [102] [.arr 1]),(1,.arr false 2 (QL h0))]) (Xl a0 h0) QaJ (fun _ => Xl.ok) k
def Qfd (r : (QE × (List Qg))) : AV × Heap := (.tup [],[(0,.box [] (WT r.1)),(1,.box [102] [.arr 3]),(3,.arr false 2 (QL r.2))])
abbrev Qm1 := QE → (List Qg) → Option (QE × (List Qg))
structure VO where
 x4 : ByteArray
 x5 : Bool
 h0 : QE
 h1 : (List Qg)
structure XB where
 h0 : QE
 h1 : (List Qg)
def QaK (a : VO) : St := { n := 20,nx := 4,env := [(0,.fn (.func 45) [.ptr 0 0] []),(1,.fn (.func 46) [] [.ptr 1 0]),(4,xs a.x4),(5,xo a.x5)],heap := [(0,.box [] (WT a.h0)),(1,.box [102] [.arr 3]),(3,.arr false 2 (QL a.h1))] }
def QaL (a : XB) : Ex × St := (.exit 0,{ n := 20,nx := 4,env := [],heap := [(0,.box [] (WT a.h0)),(1,.box [102] [.arr 3]),(3,.arr false 2 (QL a.h1))] })
abbrev Qg4 := VO → Option XB
def Fe (C0 : Qg3) (C1 : Fq) (a : VO) : Option (VO ⊕ XB) := (bif a.x5 then ((C0 a.x4 a.h1).bind fun r1 => ((C1 a.h0).bind fun r2 => (some (.inl (VO.mk r2.1 r2.2.1 r2.2.2 r1))))) else (some (.inr (XB.mk a.h0 a.h1))))
noncomputable def Vw : Qg4 := loopW (Fe Xl J8)
theorem Vw.eq (a : VO) : Vw a = (Fe Xl J8 a).bind (Sum.elim Vw some) := QK _ _
noncomputable def Qn0 (a : VO) : Pn True (lw 3 44) (Sum.elim (fun a => (Ex.norm,QaK a)) QaL) := (pA a.x5 (QnZ a.x4 a.h1 fun r1 => (Qa1 a.h0 fun r2 => (pR (.inl (VO.mk r2.1 r2.2.1 r2.2.2 r1))))) (pR (.inr (XB.mk a.h0 a.h1))))
theorem Vw.ok {a : VO} {r : XB} (h : Vw a = some r) : lw 3 44 (loopAt pp 44 1) (QaK a) = some (QaL r) := lpQ Qn0 h
noncomputable abbrev Qn1 {Γ : Prop} {ρ R : Type} {en : ρ → R} (a : VO) (k0 : XB → Pn Γ (lw 3 44) en) : Pn Γ (lw 3 44) en := p1 (loopAt pp 44 1) (QaK a) (Vw a) QaL (fun _ => Vw.ok) k0
def Qfe (C0 : Fq) (L1 : Qg4) (h0 : QE) (h1 : (List Qg)) : Option (QE × (List Qg)) := ((C0 h0).bind fun r1 => ((L1 (VO.mk r1.1 r1.2.1 r1.2.2 h1)).bind (fun (o2 : XB) => (some (o2.h0,o2.h1)))))
noncomputable def ZA : Qm1 := Qfe J8 Vw
theorem ZA.eq (h0 : QE) (h1 : (List Qg)) : ZA h0 h1 = Qfe J8 Vw h0 h1 := rfl
noncomputable def Qs6 (h0 : QE) (h1 : (List Qg)) : Pn True (lw 3 44) Qfd := (Qa1 h0 fun r1 => (Qn1 (VO.mk r1.1 r1.2.1 r1.2.2 h1) (fun o2 => (pR (o2.h0,o2.h1)))))
theorem ZA.ok {h0 : QE} {h1 : (List Qg)} {r : (QE × (List Qg))} (h : ZA h0 h1 = some r) : ww 44 [.fn (.func 45) [.ptr 0 0] [],.fn (.func 46) [] [.ptr 1 0]] [(0,.box [] (WT h0)),(1,.box [102] [.arr 2]),(2,.arr false 2 (QL h1))] = some (Qfd r) := fnQ (Qs6 h0 h1) h
noncomputable abbrev Qs7 {Γ : Prop} {lp : Loops} {ρ R : Type} {en : ρ → R} (h0 : QE) (h1 : (List Qg)) (k : (QE × (List Qg)) → Pn Γ lp en) : Pn Γ lp en := pC (ww 44 [.fn (.func 45) [.ptr 0 0] [],.fn (.func 46) [] [.ptr 1 0]] [(0,.box [] (WT h0)),(1,.box [102] [.arr 2]),(2,.arr false 2 (QL h1))]) (ZA h0 h1) Qfd (fun _ => ZA.ok) k
def YS (r : (List Qg)) : AV × Heap := (.sl (QL r),[])
abbrev QkN := (List Qg) → Option (List Qg)
noncomputable def X5 (a0 : (List Qg)) : Option (List Qg) := cloneT 32 a0
theorem X5.ok {a0 : (List Qg)} {r : (List Qg)} (h : X5 a0 = some r) : ww 48 [.sl (QL a0)] [] = some (YS r) := (FI rfl _ _).trans (QtX F1 (fun _ => rfl) h)
noncomputable abbrev QjD {Γ : Prop} {lp : Loops} {ρ R : Type} {en : ρ → R} (a0 : (List Qg)) (k : (List Qg) → Pn Γ lp en) : Pn Γ lp en := pC (ww 48 [.sl (QL a0)] []) (X5 a0) YS (fun _ => X5.ok) k
abbrev QkO := (List Int) → Option (List Qg)
def QdA (C0 : Qm1) (C1 : QkN) (a0 : (List Int)) : Option (List Qg) := ((C0 (QE.mk a0) ([] : List Qg)).bind fun r1 => ((C1 r1.2).bind fun r2 => (some r2)))
noncomputable def YB : QkO := QdA ZA X5
theorem YB.eq (a0 : (List Int)) : YB a0 = QdA ZA X5 a0 := rfl
noncomputable def QqK (a0 : (List Int)) : Pn True (lw 0 17) YS := (Qs7 (QE.mk a0) ([] : List Qg) fun r1 => (QjD r1.2 fun r2 => (pR r2)))
theorem YB.ok {a0 : (List Int)} {r : (List Qg)} (h : YB a0 = some r) : ww 17 [.sl (R_u8 a0)] [] = some (YS r) := fnQ (QqK a0) h
noncomputable abbrev QqL {Γ : Prop} {lp : Loops} {ρ R : Type} {en : ρ → R} (a0 : (List Int)) (k : (List Qg) → Pn Γ lp en) : Pn Γ lp en := pC (ww 17 [.sl (R_u8 a0)] []) (YB a0) YS (fun _ => YB.ok) k
abbrev Qpj := ByteArray → Option ByteArray
structure J6 where
 x0 : ByteArray
 x3 : Bool
 x4 : Int
def Qcf (a : J6) : St := { n := 29,nx := 0,env := [(0,xs a.x0),(3,xo a.x3),(4,xi a.x4)],heap := [] }
def QfS (a : ByteArray) : Ex × St := (.ret,{ n := 29,nx := 0,env := [(2,xs a)],heap := [] })
def QfT (a : ByteArray) : Ex × St := (.exit 0,{ n := 29,nx := 0,env := [(0,xs a)],heap := [] })
def Qg5 : (ByteArray ⊕ ByteArray) → Ex × St := Sum.elim QfS QfT
abbrev Qi7 := J6 → Option (ByteArray ⊕ ByteArray)
def PG (a : J6) : Option (J6 ⊕ (ByteArray ⊕ ByteArray)) := (bif (decide (a.x4 < ((a.x0.size : Nat) : Int))) then (bif (decide (0 ≤ a.x4 ∧ a.x4 < ((a.x0.size : Nat) : Int))) then (bif (((a.x0.data.getD (Int.toNat a.x4) 0).toNat : Int) == 34) then (bif (((a.x0.data.getD (Int.toNat a.x4) 0).toNat : Int) == 35) then (bif (!(!a.x3)) then (bif (decide (0 ≤ (0 : Int) ∧ (0 : Int) ≤ a.x4 ∧ a.x4 ≤ ((a.x0.size : Nat) : Int))) then (some (.inr (.inl (a.x0.extract (Int.toNat 0) (Int.toNat a.x4))))) else none) else (some (.inl (J6.mk a.x0 (!a.x3) (w64 (a.x4 + 1)))))) else (some (.inl (J6.mk a.x0 (!a.x3) (w64 (a.x4 + 1)))))) else (bif (((a.x0.data.getD (Int.toNat a.x4) 0).toNat : Int) == 35) then (bif (!a.x3) then (bif (decide (0 ≤ (0 : Int) ∧ (0 : Int) ≤ a.x4 ∧ a.x4 ≤ ((a.x0.size : Nat) : Int))) then (some (.inr (.inl (a.x0.extract (Int.toNat 0) (Int.toNat a.x4))))) else none) else (some (.inl (J6.mk a.x0 a.x3 (w64 (a.x4 + 1)))))) else (some (.inl (J6.mk a.x0 a.x3 (w64 (a.x4 + 1))))))) else none) else (some (.inr (.inr a.x0))))
noncomputable def WQ : Qi7 := loopW (PG )
theorem WQ.eq (a : J6) : WQ a = (PG a).bind (Sum.elim WQ some) := QK _ _
noncomputable def Qpk (a : J6) : Pn True (lw 0 54) (Sum.elim (fun a => (Ex.norm,Qcf a)) Qg5) := (pA (decide (a.x4 < (zz a.x0))) (let u72 := (in1 a.x4 (zz a.x0)); pA u72 (pA ((gb a.x0 a.x4) == 34) (pY u72 (fun g => g.1.2) (let u70 := ((gb a.x0 a.x4) == 35); pA u70 (pYN 2 u70 (fun g => g.2) (pA (!(!a.x3)) (pA (in2 i0 a.x4 (zz a.x0)) (pR (.inr (.inl (cu a.x0 i0 a.x4)))) pF) (pR (.inl (J6.mk a.x0 (!a.x3) (w64 (a.x4 + 1))))))) (pNN 2 u70 (fun g => g.2) (pV false rfl (pR (.inl (J6.mk a.x0 (!a.x3) (w64 (a.x4 + 1))))))))) (pY u72 (fun g => g.1.2) (let u71 := ((gb a.x0 a.x4) == 35); pA u71 (pYN 2 u71 (fun g => g.2) (pA (!a.x3) (pA (in2 i0 a.x4 (zz a.x0)) (pR (.inr (.inl (cu a.x0 i0 a.x4)))) pF) (pR (.inl (J6.mk a.x0 a.x3 (w64 (a.x4 + 1))))))) (pNN 2 u71 (fun g => g.2) (pV false rfl (pR (.inl (J6.mk a.x0 a.x3 (w64 (a.x4 + 1)))))))))) pF) (pR (.inr (.inr a.x0))))
theorem WQ.ok {a : J6} {r : (ByteArray ⊕ ByteArray)} (h : WQ a = some r) : lw 0 54 (loopAt pp 54 3) (Qcf a) = some (Qg5 r) := lpQ Qpk h
noncomputable abbrev Qpl {Γ : Prop} {ρ R : Type} {en : ρ → R} (a : J6) (k0 : ByteArray → Pn Γ (lw 0 54) en) (k1 : ByteArray → Pn Γ (lw 0 54) en) : Pn Γ (lw 0 54) en := p2 (loopAt pp 54 3) (Qcf a) (WQ a) QfS QfT (fun _ => WQ.ok) k0 k1
def Qg6 (L0 : Qi7) (a0 : ByteArray) : Option ByteArray := ((L0 (J6.mk a0 false (0 : Int))).bind fun x => Sum.elim (fun (o1 : ByteArray) => (some o1)) (fun (o2 : ByteArray) => (some o2)) x)
noncomputable def Gp : Qpj := Qg6 WQ
theorem Gp.eq (a0 : ByteArray) : Gp a0 = Qg6 WQ a0 := rfl
noncomputable def Qur (a0 : ByteArray) : Pn True (lw 0 54) QQ := (Qpl (J6.mk a0 false i0) (fun o1 => (pR o1)) (fun o2 => (pR o2)))
theorem Gp.ok {a0 : ByteArray} {r : ByteArray} (h : Gp a0 = some r) : ww 54 [xs a0] [] = some (QQ r) := fnQ (Qur a0) h
noncomputable abbrev Qus {Γ : Prop} {lp : Loops} {ρ R : Type} {en : ρ → R} (a0 : ByteArray) (k : ByteArray → Pn Γ lp en) : Pn Γ lp en := pC (ww 54 [xs a0] []) (Gp a0) QQ (fun _ => Gp.ok) k
abbrev Qff := ByteArray → Option ByteArray
def Qcg (a : ByteArray) : St := { n := 43,nx := 0,env := [(0,xs a)],heap := [] }
def Qch (a : ByteArray) : Ex × St := (.exit 0,{ n := 43,nx := 0,env := [(0,xs a)],heap := [] })
abbrev Qi8 := ByteArray → Option ByteArray
def Qci (a : ByteArray) : Option (ByteArray ⊕ ByteArray) := (bif (decide (((a.size : Nat) : Int) > 0)) then (bif (decide (0 ≤ (0 : Int) ∧ (0 : Int) < ((a.size : Nat) : Int))) then (bif (((a.data.getD (Int.toNat 0) 0).toNat : Int) == 32) then (bif (decide (0 ≤ (1 : Int) ∧ (1 : Int) ≤ ((a.size : Nat) : Int) ∧ ((a.size : Nat) : Int) ≤ ((a.size : Nat) : Int))) then (some (.inl (a.extract (Int.toNat 1) (Int.toNat ((a.size : Nat) : Int))))) else none) else (bif (((a.data.getD (Int.toNat 0) 0).toNat : Int) == 9) then (bif (decide (0 ≤ (1 : Int) ∧ (1 : Int) ≤ ((a.size : Nat) : Int) ∧ ((a.size : Nat) : Int) ≤ ((a.size : Nat) : Int))) then (some (.inl (a.extract (Int.toNat 1) (Int.toNat ((a.size : Nat) : Int))))) else none) else (some (.inr a)))) else none) else (some (.inr a)))
noncomputable def Xu : Qi8 := loopW (Qci )
theorem Xu.eq (a : ByteArray) : Xu a = (Qci a).bind (Sum.elim Xu some) := QK _ _
noncomputable def Qpm (a : ByteArray) : Pn True (lw 0 53) (Sum.elim (fun a => (Ex.norm,Qcg a)) Qch) := (let u75 := (decide ((zz a) > 0)); pA u75 (pY u75 (fun g => g.2) (let u74 := (in1 i0 (zz a)); pA u74 (pYN 2 u75 (fun g => g.1.2) (let u73 := ((gb a i0) == 32); pA u73 (pYN 2 u73 (fun g => g.2) (pY u75 (fun g => g.1.1.2) (pY u73 (fun g => g.2) (pY u75 (fun g => g.1.1.2) (pU true rfl (pA (in2 (zi 1) (zz a) (zz a)) (pR (.inl (cu a (zi 1) (zz a)))) pF)))))) (pN u73 (fun g => g.2) (pY u74 (fun g => g.1.2) (pN u73 (fun g => g.2) (pY u75 (fun g => g.1.1.2) (pN u73 (fun g => g.2) (pY u75 (fun g => g.1.1.2) (pA ((gb a i0) == 9) (pA (in2 (zi 1) (zz a) (zz a)) (pR (.inl (cu a (zi 1) (zz a)))) pF) (pR (.inr a))))))))))) pF)) (pNN 5 u75 (fun g => g.2) (pV false rfl (pR (.inr a)))))
theorem Xu.ok {a : ByteArray} {r : ByteArray} (h : Xu a = some r) : lw 0 53 (loopAt pp 53 1) (Qcg a) = some (Qch r) := lpQ Qpm h
noncomputable abbrev Qpn {Γ : Prop} {ρ R : Type} {en : ρ → R} (a : ByteArray) (k0 : ByteArray → Pn Γ (lw 0 53) en) : Pn Γ (lw 0 53) en := p1 (loopAt pp 53 1) (Qcg a) (Xu a) Qch (fun _ => Xu.ok) k0
def Qcj (a : ByteArray) : St := { n := 43,nx := 0,env := [(0,xs a)],heap := [] }
def Qck (a : ByteArray) : Ex × St := (.exit 2,{ n := 43,nx := 0,env := [(0,xs a)],heap := [] })
abbrev Qi9 := ByteArray → Option ByteArray
def Qcl (a : ByteArray) : Option (ByteArray ⊕ ByteArray) := (bif (decide (((a.size : Nat) : Int) > 0)) then (bif (decide (0 ≤ (w64 (((a.size : Nat) : Int) - 1)) ∧ (w64 (((a.size : Nat) : Int) - 1)) < ((a.size : Nat) : Int))) then (bif (((a.data.getD (Int.toNat (w64 (((a.size : Nat) : Int) - 1))) 0).toNat : Int) == 32) then (bif (decide (0 ≤ (0 : Int) ∧ (0 : Int) ≤ (w64 (((a.size : Nat) : Int) - 1)) ∧ (w64 (((a.size : Nat) : Int) - 1)) ≤ ((a.size : Nat) : Int))) then (some (.inl (a.extract (Int.toNat 0) (Int.toNat (w64 (((a.size : Nat) : Int) - 1)))))) else none) else (bif (((a.data.getD (Int.toNat (w64 (((a.size : Nat) : Int) - 1))) 0).toNat : Int) == 9) then (bif (decide (0 ≤ (0 : Int) ∧ (0 : Int) ≤ (w64 (((a.size : Nat) : Int) - 1)) ∧ (w64 (((a.size : Nat) : Int) - 1)) ≤ ((a.size : Nat) : Int))) then (some (.inl (a.extract (Int.toNat 0) (Int.toNat (w64 (((a.size : Nat) : Int) - 1)))))) else none) else (some (.inr a)))) else none) else (some (.inr a)))
noncomputable def Xv : Qi9 := loopW (Qcl )
theorem Xv.eq (a : ByteArray) : Xv a = (Qcl a).bind (Sum.elim Xv some) := QK _ _
noncomputable def Qpo (a : ByteArray) : Pn True (lw 0 53) (Sum.elim (fun a => (Ex.norm,Qcj a)) Qck) := (let u78 := (decide ((zz a) > 0)); pA u78 (pYN 4 u78 (fun g => g.2) (let u77 := (in1 (w64 ((zz a) - 1)) (zz a)); pA u77 (pYN 2 u78 (fun g => g.1.2) (let u76 := ((gb a (w64 ((zz a) - 1))) == 32); pA u76 (pYN 5 u76 (fun g => g.2) (pY u78 (fun g => g.1.1.2) (pY u76 (fun g => g.2) (pY u78 (fun g => g.1.1.2) (pU true rfl (pA (in2 i0 (w64 ((zz a) - 1)) (zz a)) (pR (.inl (cu a i0 (w64 ((zz a) - 1))))) pF)))))) (pNN 4 u76 (fun g => g.2) (pY u77 (fun g => g.1.2) (pN u76 (fun g => g.2) (pY u78 (fun g => g.1.1.2) (pN u76 (fun g => g.2) (pY u78 (fun g => g.1.1.2) (pA ((gb a (w64 ((zz a) - 1))) == 9) (pA (in2 i0 (w64 ((zz a) - 1)) (zz a)) (pR (.inl (cu a i0 (w64 ((zz a) - 1))))) pF) (pR (.inr a))))))))))) pF)) (pNN 8 u78 (fun g => g.2) (pV false rfl (pR (.inr a)))))
theorem Xv.ok {a : ByteArray} {r : ByteArray} (h : Xv a = some r) : lw 0 53 (loopAt pp 53 3) (Qcj a) = some (Qck r) := lpQ Qpo h
noncomputable abbrev Qpp {Γ : Prop} {ρ R : Type} {en : ρ → R} (a : ByteArray) (k0 : ByteArray → Pn Γ (lw 0 53) en) : Pn Γ (lw 0 53) en := p1 (loopAt pp 53 3) (Qcj a) (Xv a) Qck (fun _ => Xv.ok) k0
def Qg7 (L0 : Qi8) (L1 : Qi9) (a0 : ByteArray) : Option ByteArray := ((L0 a0).bind (fun (o1 : ByteArray) => ((L1 o1).bind (fun (o2 : ByteArray) => (some o2)))))
noncomputable def Yn : Qff := Qg7 Xu Xv
theorem Yn.eq (a0 : ByteArray) : Yn a0 = Qg7 Xu Xv a0 := rfl
noncomputable def Qut (a0 : ByteArray) : Pn True (lw 0 53) QQ := (Qpn a0 (fun o1 => (Qpp o1 (fun o2 => (pR o2)))))
theorem Yn.ok {a0 : ByteArray} {r : ByteArray} (h : Yn a0 = some r) : ww 53 [xs a0] [] = some (QQ r) := fnQ (Qut a0) h
noncomputable abbrev Zl {Γ : Prop} {lp : Loops} {ρ R : Type} {en : ρ → R} (a0 : ByteArray) (k : ByteArray → Pn Γ lp en) : Pn Γ lp en := pC (ww 53 [xs a0] []) (Yn a0) QQ (fun _ => Yn.ok) k
abbrev QjE := ByteArray → Option Bool
structure Qx where
 x0 : ByteArray
 x3 : Bool
 x4 : Int
def Qcm (a : Qx) : St := { n := 65,nx := 0,env := [(0,xs a.x0),(3,xo a.x3),(4,xi a.x4)],heap := [] }
def QfU (a : Bool) : Ex × St := (.ret,{ n := 65,nx := 0,env := [(2,xo a)],heap := [] })
def QfV (a : Bool) : Ex × St := (.exit 0,{ n := 65,nx := 0,env := [(3,xo a)],heap := [] })
def Qg8 : (Bool ⊕ Bool) → Ex × St := Sum.elim QfU QfV
abbrev Qja := Qx → Option (Bool ⊕ Bool)
def ZX (a : Qx) : Option (Qx ⊕ (Bool ⊕ Bool)) := (bif (decide (a.x4 < ((a.x0.size : Nat) : Int))) then (bif (decide (0 ≤ a.x4 ∧ a.x4 < ((a.x0.size : Nat) : Int))) then (bif (decide (((a.x0.data.getD (Int.toNat a.x4) 0).toNat : Int) ≥ 48)) then (bif (decide (((a.x0.data.getD (Int.toNat a.x4) 0).toNat : Int) ≥ 97)) then (bif (!(decide (((a.x0.data.getD (Int.toNat a.x4) 0).toNat : Int) ≤ 122))) then (bif (((a.x0.data.getD (Int.toNat a.x4) 0).toNat : Int) != 95) then (bif (a.x4 == 0) then (some (.inr (.inl false))) else (bif (!(decide (((a.x0.data.getD (Int.toNat a.x4) 0).toNat : Int) ≤ 57))) then (some (.inr (.inl false))) else (bif (decide (a.x4 > 0)) then (some (.inl (Qx.mk a.x0 a.x3 (w64 (a.x4 + 1))))) else (some (.inl (Qx.mk a.x0 a.x3 (w64 (a.x4 + 1)))))))) else (bif (decide (a.x4 > 0)) then (bif (!(decide (((a.x0.data.getD (Int.toNat a.x4) 0).toNat : Int) ≤ 57))) then (some (.inl (Qx.mk a.x0 false (w64 (a.x4 + 1))))) else (some (.inl (Qx.mk a.x0 a.x3 (w64 (a.x4 + 1)))))) else (some (.inl (Qx.mk a.x0 a.x3 (w64 (a.x4 + 1))))))) else (bif (decide (a.x4 > 0)) then (bif (!(decide (((a.x0.data.getD (Int.toNat a.x4) 0).toNat : Int) ≤ 57))) then (some (.inl (Qx.mk a.x0 false (w64 (a.x4 + 1))))) else (some (.inl (Qx.mk a.x0 a.x3 (w64 (a.x4 + 1)))))) else (some (.inl (Qx.mk a.x0 a.x3 (w64 (a.x4 + 1))))))) else (bif (((a.x0.data.getD (Int.toNat a.x4) 0).toNat : Int) != 95) then (bif (a.x4 == 0) then (some (.inr (.inl false))) else (bif (!(decide (((a.x0.data.getD (Int.toNat a.x4) 0).toNat : Int) ≤ 57))) then (some (.inr (.inl false))) else (bif (decide (a.x4 > 0)) then (some (.inl (Qx.mk a.x0 a.x3 (w64 (a.x4 + 1))))) else (some (.inl (Qx.mk a.x0 a.x3 (w64 (a.x4 + 1)))))))) else (bif (decide (a.x4 > 0)) then (bif (!(decide (((a.x0.data.getD (Int.toNat a.x4) 0).toNat : Int) ≤ 57))) then (some (.inl (Qx.mk a.x0 false (w64 (a.x4 + 1))))) else (some (.inl (Qx.mk a.x0 a.x3 (w64 (a.x4 + 1)))))) else (some (.inl (Qx.mk a.x0 a.x3 (w64 (a.x4 + 1)))))))) else (bif (decide (((a.x0.data.getD (Int.toNat a.x4) 0).toNat : Int) ≥ 97)) then (bif (!(decide (((a.x0.data.getD (Int.toNat a.x4) 0).toNat : Int) ≤ 122))) then (bif (((a.x0.data.getD (Int.toNat a.x4) 0).toNat : Int) != 95) then (bif (a.x4 == 0) then (some (.inr (.inl false))) else (some (.inr (.inl false)))) else (bif (decide (a.x4 > 0)) then (some (.inl (Qx.mk a.x0 false (w64 (a.x4 + 1))))) else (some (.inl (Qx.mk a.x0 a.x3 (w64 (a.x4 + 1))))))) else (bif (decide (a.x4 > 0)) then (some (.inl (Qx.mk a.x0 false (w64 (a.x4 + 1))))) else (some (.inl (Qx.mk a.x0 a.x3 (w64 (a.x4 + 1))))))) else (bif (((a.x0.data.getD (Int.toNat a.x4) 0).toNat : Int) != 95) then (bif (a.x4 == 0) then (some (.inr (.inl false))) else (some (.inr (.inl false)))) else (bif (decide (a.x4 > 0)) then (some (.inl (Qx.mk a.x0 false (w64 (a.x4 + 1))))) else (some (.inl (Qx.mk a.x0 a.x3 (w64 (a.x4 + 1))))))))) else none) else (some (.inr (.inr a.x3))))
noncomputable def WR : Qja := loopW (ZX )
theorem WR.eq (a : Qx) : WR a = (ZX a).bind (Sum.elim WR some) := QK _ _
noncomputable def Qpq (a : Qx) : Pn True (lw 0 83) (Sum.elim (fun a => (Ex.norm,Qcm a)) Qg8) := (pA (decide (a.x4 < (zz a.x0))) (pA (in1 a.x4 (zz a.x0)) (let u101 := (decide ((gb a.x0 a.x4) ≥ 48)); pA u101 (pYN 2 u101 (fun g => g.2) (let u91 := (decide ((gb a.x0 a.x4) ≥ 97)); pA u91 (pYN 2 u91 (fun g => g.2) (let u85 := (!(decide ((gb a.x0 a.x4) ≤ 122))); pA u85 (pYN 2 u85 (fun g => g.2) (let u83 := ((gb a.x0 a.x4) != 95); pA u83 (pYN 2 u83 (fun g => g.2) (let u81 := (a.x4 == 0); pA u81 (pY u81 (fun g => g.2) (pY u83 (fun g => g.1.2) (pY u81 (fun g => g.2) (pY u83 (fun g => g.1.2) (pU true rfl (pR (.inr (.inl false)))))))) (pN u81 (fun g => g.2) (pY u83 (fun g => g.1.2) (pN u81 (fun g => g.2) (pY u83 (fun g => g.1.2) (let u80 := (!(decide ((gb a.x0 a.x4) ≤ 57))); pA u80 (pR (.inr (.inl false))) (let u79 := (decide (a.x4 > 0)); pA u79 (pYN 2 u79 (fun g => g.2) (pN u80 (fun g => g.1.2) (pR (.inl (Qx.mk a.x0 a.x3 (w64 (a.x4 + 1))))))) (pNN 2 u79 (fun g => g.2) (pV false rfl (pR (.inl (Qx.mk a.x0 a.x3 (w64 (a.x4 + 1))))))))))))))) (pNN 4 u83 (fun g => g.2) (pV false rfl (let u82 := (decide (a.x4 > 0)); pA u82 (pYN 2 u82 (fun g => g.2) (pA (!(decide ((gb a.x0 a.x4) ≤ 57))) (pR (.inl (Qx.mk a.x0 false (w64 (a.x4 + 1))))) (pR (.inl (Qx.mk a.x0 a.x3 (w64 (a.x4 + 1))))))) (pNN 2 u82 (fun g => g.2) (pV false rfl (pR (.inl (Qx.mk a.x0 a.x3 (w64 (a.x4 + 1)))))))))))) (pNN 2 u85 (fun g => g.2) (pNN 6 false (fun _ => rfl) (let u84 := (decide (a.x4 > 0)); pA u84 (pYN 2 u84 (fun g => g.2) (pA (!(decide ((gb a.x0 a.x4) ≤ 57))) (pR (.inl (Qx.mk a.x0 false (w64 (a.x4 + 1))))) (pR (.inl (Qx.mk a.x0 a.x3 (w64 (a.x4 + 1))))))) (pNN 2 u84 (fun g => g.2) (pV false rfl (pR (.inl (Qx.mk a.x0 a.x3 (w64 (a.x4 + 1)))))))))))) (pNN 2 u91 (fun g => g.2) (pYN 3 true (fun _ => rfl) (let u90 := ((gb a.x0 a.x4) != 95); pA u90 (pYN 2 u90 (fun g => g.2) (let u88 := (a.x4 == 0); pA u88 (pY u88 (fun g => g.2) (pY u90 (fun g => g.1.2) (pY u88 (fun g => g.2) (pY u90 (fun g => g.1.2) (pU true rfl (pR (.inr (.inl false)))))))) (pN u88 (fun g => g.2) (pY u90 (fun g => g.1.2) (pN u88 (fun g => g.2) (pY u90 (fun g => g.1.2) (let u87 := (!(decide ((gb a.x0 a.x4) ≤ 57))); pA u87 (pR (.inr (.inl false))) (let u86 := (decide (a.x4 > 0)); pA u86 (pYN 2 u86 (fun g => g.2) (pN u87 (fun g => g.1.2) (pR (.inl (Qx.mk a.x0 a.x3 (w64 (a.x4 + 1))))))) (pNN 2 u86 (fun g => g.2) (pV false rfl (pR (.inl (Qx.mk a.x0 a.x3 (w64 (a.x4 + 1))))))))))))))) (pNN 4 u90 (fun g => g.2) (pV false rfl (let u89 := (decide (a.x4 > 0)); pA u89 (pYN 2 u89 (fun g => g.2) (pA (!(decide ((gb a.x0 a.x4) ≤ 57))) (pR (.inl (Qx.mk a.x0 false (w64 (a.x4 + 1))))) (pR (.inl (Qx.mk a.x0 a.x3 (w64 (a.x4 + 1))))))) (pNN 2 u89 (fun g => g.2) (pV false rfl (pR (.inl (Qx.mk a.x0 a.x3 (w64 (a.x4 + 1))))))))))))))) (pNN 2 u101 (fun g => g.2) (let u100 := (decide ((gb a.x0 a.x4) ≥ 97)); pA u100 (pYN 2 u100 (fun g => g.2) (let u96 := (!(decide ((gb a.x0 a.x4) ≤ 122))); pA u96 (pYN 2 u96 (fun g => g.2) (let u94 := ((gb a.x0 a.x4) != 95); pA u94 (pYN 2 u94 (fun g => g.2) (let u92 := (a.x4 == 0); pA u92 (pY u92 (fun g => g.2) (pY u94 (fun g => g.1.2) (pY u92 (fun g => g.2) (pY u94 (fun g => g.1.2) (pU true rfl (pR (.inr (.inl false)))))))) (pN u92 (fun g => g.2) (pY u94 (fun g => g.1.2) (pN u92 (fun g => g.2) (pY u94 (fun g => g.1.2) (pU true rfl (pR (.inr (.inl false)))))))))) (pNN 4 u94 (fun g => g.2) (pV false rfl (let u93 := (decide (a.x4 > 0)); pA u93 (pYN 2 u93 (fun g => g.2) (pU true rfl (pR (.inl (Qx.mk a.x0 false (w64 (a.x4 + 1))))))) (pNN 2 u93 (fun g => g.2) (pV false rfl (pR (.inl (Qx.mk a.x0 a.x3 (w64 (a.x4 + 1)))))))))))) (pNN 2 u96 (fun g => g.2) (pNN 6 false (fun _ => rfl) (let u95 := (decide (a.x4 > 0)); pA u95 (pYN 2 u95 (fun g => g.2) (pU true rfl (pR (.inl (Qx.mk a.x0 false (w64 (a.x4 + 1))))))) (pNN 2 u95 (fun g => g.2) (pV false rfl (pR (.inl (Qx.mk a.x0 a.x3 (w64 (a.x4 + 1)))))))))))) (pNN 2 u100 (fun g => g.2) (pYN 3 true (fun _ => rfl) (let u99 := ((gb a.x0 a.x4) != 95); pA u99 (pYN 2 u99 (fun g => g.2) (let u97 := (a.x4 == 0); pA u97 (pY u97 (fun g => g.2) (pY u99 (fun g => g.1.2) (pY u97 (fun g => g.2) (pY u99 (fun g => g.1.2) (pU true rfl (pR (.inr (.inl false)))))))) (pN u97 (fun g => g.2) (pY u99 (fun g => g.1.2) (pN u97 (fun g => g.2) (pY u99 (fun g => g.1.2) (pU true rfl (pR (.inr (.inl false)))))))))) (pNN 4 u99 (fun g => g.2) (pV false rfl (let u98 := (decide (a.x4 > 0)); pA u98 (pYN 2 u98 (fun g => g.2) (pU true rfl (pR (.inl (Qx.mk a.x0 false (w64 (a.x4 + 1))))))) (pNN 2 u98 (fun g => g.2) (pV false rfl (pR (.inl (Qx.mk a.x0 a.x3 (w64 (a.x4 + 1)))))))))))))))) pF) (pR (.inr (.inr a.x3))))
theorem WR.ok {a : Qx} {r : (Bool ⊕ Bool)} (h : WR a = some r) : lw 0 83 (loopAt pp 83 5) (Qcm a) = some (Qg8 r) := lpQ Qpq h
noncomputable abbrev Qg9 {Γ : Prop} {ρ R : Type} {en : ρ → R} (a : Qx) (k0 : Bool → Pn Γ (lw 0 83) en) (k1 : Bool → Pn Γ (lw 0 83) en) : Pn Γ (lw 0 83) en := p2 (loopAt pp 83 5) (Qcm a) (WR a) QfU QfV (fun _ => WR.ok) k0 k1
def Qha (L0 : Qja) (a0 : ByteArray) : Option Bool := (bif (decide (((a0.size : Nat) : Int) < 1)) then (some false) else (bif (decide (((a0.size : Nat) : Int) > 12)) then (some false) else (bif (decide (0 ≤ (0 : Int) ∧ (0 : Int) < ((a0.size : Nat) : Int))) then (bif (((a0.data.getD (Int.toNat 0) 0).toNat : Int) == 114) then ((L0 (Qx.mk a0 (decide (((a0.size : Nat) : Int) > 1)) (0 : Int))).bind fun x => Sum.elim (fun (o1 : Bool) => (some o1)) (fun (o2 : Bool) => (some (!o2))) x) else ((L0 (Qx.mk a0 false (0 : Int))).bind fun x => Sum.elim (fun (o3 : Bool) => (some o3)) (fun (o4 : Bool) => (some (!o4))) x)) else none)))
noncomputable def Zb : QjE := Qha WR
theorem Zb.eq (a0 : ByteArray) : Zb a0 = Qha WR a0 := rfl
noncomputable def Quu (a0 : ByteArray) : Pn True (lw 0 83) QF := (let u103 := (decide ((zz a0) < 1)); pA u103 (pYN 3 u103 (fun g => g.2) (pU true rfl (pR false))) (pNN 3 u103 (fun g => g.2) (pA (decide ((zz a0) > 12)) (pR false) (pA (in1 i0 (zz a0)) (let u102 := ((gb a0 i0) == 114); pA u102 (pYN 3 u102 (fun g => g.2) (Qg9 (Qx.mk a0 (decide ((zz a0) > 1)) i0) (fun o1 => (pR o1)) (fun o2 => (pR (!o2))))) (pNN 3 u102 (fun g => g.2) (Qg9 (Qx.mk a0 false i0) (fun o3 => (pR o3)) (fun o4 => (pR (!o4)))))) pF))))
theorem Zb.ok {a0 : ByteArray} {r : Bool} (h : Zb a0 = some r) : ww 83 [xs a0] [] = some (QF r) := fnQ (Quu a0) h
noncomputable abbrev Qm2 {Γ : Prop} {lp : Loops} {ρ R : Type} {en : ρ → R} (a0 : ByteArray) (k : Bool → Pn Γ lp en) : Pn Γ lp en := pC (ww 83 [xs a0] []) (Zb a0) QF (fun _ => Zb.ok) k
abbrev QjF := ByteArray → Option Bool
def Qhb (C0 : QjE) (a0 : ByteArray) : Option Bool := ((C0 a0).bind fun r1 => (some r1))
noncomputable def Zc : QjF := Qhb Zb
theorem Zc.eq (a0 : ByteArray) : Zc a0 = Qhb Zb a0 := rfl
noncomputable def Quv (a0 : ByteArray) : Pn True (lw 0 34) QF := (Qm2 a0 fun r1 => (pR r1))
theorem Zc.ok {a0 : ByteArray} {r : Bool} (h : Zc a0 = some r) : ww 34 [xs a0] [] = some (QF r) := fnQ (Quv a0) h
noncomputable abbrev Qm3 {Γ : Prop} {lp : Loops} {ρ R : Type} {en : ρ → R} (a0 : ByteArray) (k : Bool → Pn Γ lp en) : Pn Γ lp en := pC (ww 34 [xs a0] []) (Zc a0) QF (fun _ => Zc.ok) k
def Qfg (r : (ByteArray × ByteArray)) : AV × Heap := (.tup [xs r.1,xs r.2],[])
abbrev Qm4 := ByteArray → Option (ByteArray × ByteArray)
structure UQ where
 x0 : ByteArray
 x4 : Int
structure Wy where
 x2 : ByteArray
 x3 : ByteArray
def QaM (a : UQ) : St := { n := 30,nx := 0,env := [(0,xs a.x0),(4,xi a.x4)],heap := [] }
def Qet (a : Wy) : Ex × St := (.ret,{ n := 30,nx := 0,env := [(2,xs a.x2),(3,xs a.x3)],heap := [] })
def Qeu (a : ByteArray) : Ex × St := (.exit 0,{ n := 30,nx := 0,env := [(0,xs a)],heap := [] })
def QfW : (Wy ⊕ ByteArray) → Ex × St := Sum.elim Qet Qeu
abbrev Qhc := UQ → Option (Wy ⊕ ByteArray)
def Ff (C0 : QjF) (C1 : Qff) (a : UQ) : Option (UQ ⊕ (Wy ⊕ ByteArray)) := (bif (decide (a.x4 < ((a.x0.size : Nat) : Int))) then (bif (decide (0 ≤ a.x4 ∧ a.x4 < ((a.x0.size : Nat) : Int))) then (bif (((a.x0.data.getD (Int.toNat a.x4) 0).toNat : Int) == 58) then (bif (decide (0 ≤ (0 : Int) ∧ (0 : Int) ≤ a.x4 ∧ a.x4 ≤ ((a.x0.size : Nat) : Int))) then ((C0 (a.x0.extract (Int.toNat 0) (Int.toNat a.x4))).bind fun r1 => (bif r1 then (bif (decide (0 ≤ (w64 (a.x4 + 1)) ∧ (w64 (a.x4 + 1)) ≤ ((a.x0.size : Nat) : Int) ∧ ((a.x0.size : Nat) : Int) ≤ ((a.x0.size : Nat) : Int))) then ((C1 (a.x0.extract (Int.toNat (w64 (a.x4 + 1))) (Int.toNat ((a.x0.size : Nat) : Int)))).bind fun r2 => (some (.inr (.inl (Wy.mk (a.x0.extract (Int.toNat 0) (Int.toNat a.x4)) r2))))) else none) else (some (.inl (UQ.mk a.x0 (w64 (a.x4 + 1))))))) else none) else (some (.inl (UQ.mk a.x0 (w64 (a.x4 + 1)))))) else none) else (some (.inr (.inr a.x0))))
noncomputable def V3 : Qhc := loopW (Ff Zc Yn)
theorem V3.eq (a : UQ) : V3 a = (Ff Zc Yn a).bind (Sum.elim V3 some) := QK _ _
noncomputable def Qn2 (a : UQ) : Pn True (lw 0 52) (Sum.elim (fun a => (Ex.norm,QaM a)) QfW) := (pA (decide (a.x4 < (zz a.x0))) (pA (in1 a.x4 (zz a.x0)) (let u105 := ((gb a.x0 a.x4) == 58); pA u105 (pYN 2 u105 (fun g => g.2) (let u104 := (in2 i0 a.x4 (zz a.x0)); pA u104 (pY u105 (fun g => g.1.2) (Qm3 (cu a.x0 i0 a.x4) fun r1 => (pY u105 (fun g => g.1.2) (pA r1 (pY u104 (fun g => g.1.2) (pA (in2 (w64 (a.x4 + 1)) (zz a.x0) (zz a.x0)) (Zl (cu a.x0 (w64 (a.x4 + 1)) (zz a.x0)) fun r2 => (pR (.inr (.inl (Wy.mk (cu a.x0 i0 a.x4) r2))))) pF)) (pR (.inl (UQ.mk a.x0 (w64 (a.x4 + 1))))))))) pF)) (pNN 4 u105 (fun g => g.2) (pV false rfl (pR (.inl (UQ.mk a.x0 (w64 (a.x4 + 1)))))))) pF) (pR (.inr (.inr a.x0))))
theorem V3.ok {a : UQ} {r : (Wy ⊕ ByteArray)} (h : V3 a = some r) : lw 0 52 (loopAt pp 52 2) (QaM a) = some (QfW r) := lpQ Qn2 h
noncomputable abbrev Qn3 {Γ : Prop} {ρ R : Type} {en : ρ → R} (a : UQ) (k0 : Wy → Pn Γ (lw 0 52) en) (k1 : ByteArray → Pn Γ (lw 0 52) en) : Pn Γ (lw 0 52) en := p2 (loopAt pp 52 2) (QaM a) (V3 a) Qet Qeu (fun _ => V3.ok) k0 k1
def Qfh (L0 : Qhc) (a0 : ByteArray) : Option (ByteArray × ByteArray) := ((L0 (UQ.mk a0 (0 : Int))).bind fun x => Sum.elim (fun (o1 : Wy) => (some (o1.x2,o1.x3))) (fun (o2 : ByteArray) => (some (s_,o2))) x)
noncomputable def ZB : Qm4 := Qfh V3
theorem ZB.eq (a0 : ByteArray) : ZB a0 = Qfh V3 a0 := rfl
noncomputable def Qs8 (a0 : ByteArray) : Pn True (lw 0 52) Qfg := (Qn3 (UQ.mk a0 i0) (fun o1 => (pR (o1.x2,o1.x3))) (fun o2 => (pR (s_,o2))))
theorem ZB.ok {a0 : ByteArray} {r : (ByteArray × ByteArray)} (h : ZB a0 = some r) : ww 52 [xs a0] [] = some (Qfg r) := fnQ (Qs8 a0) h
noncomputable abbrev Qs9 {Γ : Prop} {lp : Loops} {ρ R : Type} {en : ρ → R} (a0 : ByteArray) (k : (ByteArray × ByteArray) → Pn Γ lp en) : Pn Γ lp en := pC (ww 52 [xs a0] []) (ZB a0) Qfg (fun _ => ZB.ok) k
abbrev Qm5 := ByteArray → Option (List ByteArray)
structure QI where
 x0 : ByteArray
 x4 : Bool
 x5 : Int
 x6 : Int
 r0 : (List ByteArray)
def QaN (a : QI) : St := { n := 50,nx := 1,env := [(0,xs a.x0),(3,.arr 0),(4,xo a.x4),(5,xi a.x5),(6,xi a.x6)],heap := [(0,.arr true 1 (Qr a.r0))] }
def QaO (a : (List ByteArray)) : Ex × St := (.exit 0,{ n := 50,nx := 1,env := [(3,.arr 0)],heap := [(0,.arr true 1 (Qr a))] })
abbrev Qhd := QI → Option (List ByteArray)
def Gj (C0 : Qff) (a : QI) : Option (QI ⊕ (List ByteArray)) := (bif (decide (a.x6 ≤ ((a.x0.size : Nat) : Int))) then (bif (decide (a.x6 < ((a.x0.size : Nat) : Int))) then (bif (decide (0 ≤ a.x6 ∧ a.x6 < ((a.x0.size : Nat) : Int))) then (bif (((a.x0.data.getD (Int.toNat a.x6) 0).toNat : Int) == 34) then (bif (a.x6 == ((a.x0.size : Nat) : Int)) then (bif (decide (0 ≤ a.x5 ∧ a.x5 ≤ a.x6 ∧ a.x6 ≤ ((a.x0.size : Nat) : Int))) then ((C0 (a.x0.extract (Int.toNat a.x5) (Int.toNat a.x6))).bind fun r1 => (bif (decide ((a.r0.length + [r1].length) * 16 ≤ most)) then (some (.inl (QI.mk a.x0 (!a.x4) (w64 (a.x6 + 1)) (w64 (a.x6 + 1)) (a.r0 ++ [r1])))) else none)) else none) else (bif (((a.x0.data.getD (Int.toNat a.x6) 0).toNat : Int) == 44) then (bif (!(!a.x4)) then (bif (decide (0 ≤ a.x5 ∧ a.x5 ≤ a.x6 ∧ a.x6 ≤ ((a.x0.size : Nat) : Int))) then ((C0 (a.x0.extract (Int.toNat a.x5) (Int.toNat a.x6))).bind fun r2 => (bif (decide ((a.r0.length + [r2].length) * 16 ≤ most)) then (some (.inl (QI.mk a.x0 (!a.x4) (w64 (a.x6 + 1)) (w64 (a.x6 + 1)) (a.r0 ++ [r2])))) else none)) else none) else (some (.inl (QI.mk a.x0 (!a.x4) a.x5 (w64 (a.x6 + 1)) a.r0)))) else (some (.inl (QI.mk a.x0 (!a.x4) a.x5 (w64 (a.x6 + 1)) a.r0))))) else (bif (a.x6 == ((a.x0.size : Nat) : Int)) then (bif (decide (0 ≤ a.x5 ∧ a.x5 ≤ a.x6 ∧ a.x6 ≤ ((a.x0.size : Nat) : Int))) then ((C0 (a.x0.extract (Int.toNat a.x5) (Int.toNat a.x6))).bind fun r3 => (bif (decide ((a.r0.length + [r3].length) * 16 ≤ most)) then (some (.inl (QI.mk a.x0 a.x4 (w64 (a.x6 + 1)) (w64 (a.x6 + 1)) (a.r0 ++ [r3])))) else none)) else none) else (bif (((a.x0.data.getD (Int.toNat a.x6) 0).toNat : Int) == 44) then (bif (!a.x4) then (bif (decide (0 ≤ a.x5 ∧ a.x5 ≤ a.x6 ∧ a.x6 ≤ ((a.x0.size : Nat) : Int))) then ((C0 (a.x0.extract (Int.toNat a.x5) (Int.toNat a.x6))).bind fun r4 => (bif (decide ((a.r0.length + [r4].length) * 16 ≤ most)) then (some (.inl (QI.mk a.x0 a.x4 (w64 (a.x6 + 1)) (w64 (a.x6 + 1)) (a.r0 ++ [r4])))) else none)) else none) else (some (.inl (QI.mk a.x0 a.x4 a.x5 (w64 (a.x6 + 1)) a.r0)))) else (some (.inl (QI.mk a.x0 a.x4 a.x5 (w64 (a.x6 + 1)) a.r0)))))) else none) else (bif (a.x6 == ((a.x0.size : Nat) : Int)) then (bif (decide (0 ≤ a.x5 ∧ a.x5 ≤ a.x6 ∧ a.x6 ≤ ((a.x0.size : Nat) : Int))) then ((C0 (a.x0.extract (Int.toNat a.x5) (Int.toNat a.x6))).bind fun r5 => (bif (decide ((a.r0.length + [r5].length) * 16 ≤ most)) then (some (.inl (QI.mk a.x0 a.x4 (w64 (a.x6 + 1)) (w64 (a.x6 + 1)) (a.r0 ++ [r5])))) else none)) else none) else (bif (decide (0 ≤ a.x6 ∧ a.x6 < ((a.x0.size : Nat) : Int))) then (bif (((a.x0.data.getD (Int.toNat a.x6) 0).toNat : Int) == 44) then (bif (!a.x4) then (bif (decide (0 ≤ a.x5 ∧ a.x5 ≤ a.x6 ∧ a.x6 ≤ ((a.x0.size : Nat) : Int))) then ((C0 (a.x0.extract (Int.toNat a.x5) (Int.toNat a.x6))).bind fun r6 => (bif (decide ((a.r0.length + [r6].length) * 16 ≤ most)) then (some (.inl (QI.mk a.x0 a.x4 (w64 (a.x6 + 1)) (w64 (a.x6 + 1)) (a.r0 ++ [r6])))) else none)) else none) else (some (.inl (QI.mk a.x0 a.x4 a.x5 (w64 (a.x6 + 1)) a.r0)))) else (some (.inl (QI.mk a.x0 a.x4 a.x5 (w64 (a.x6 + 1)) a.r0)))) else none))) else (some (.inr a.r0)))
noncomputable def UK : Qhd := loopW (Gj Yn)
theorem UK.eq (a : QI) : UK a = (Gj Yn a).bind (Sum.elim UK some) := QK _ _
noncomputable def Qn4 (a : QI) : Pn True (lw 0 55) (Sum.elim (fun a => (Ex.norm,QaN a)) QaO) := (pA (decide (a.x6 ≤ (zz a.x0))) (let u113 := (decide (a.x6 < (zz a.x0))); pA u113 (pYN 2 u113 (fun g => g.2) (let u110 := (in1 a.x6 (zz a.x0)); pA u110 (pYN 2 u113 (fun g => g.1.2) (pA ((gb a.x0 a.x6) == 34) (let u107 := (a.x6 == (zz a.x0)); pA u107 (pYN 6 u107 (fun g => g.2) (pU true rfl (pA (in2 a.x5 a.x6 (zz a.x0)) (Zl (cu a.x0 a.x5 a.x6) fun r1 => (pZ [[xs r1]] (Qr [r1]) (Js [r1]) (pQ Qv 16 a.r0 [r1] (pR (.inl (QI.mk a.x0 (!a.x4) (w64 (a.x6 + 1)) (w64 (a.x6 + 1)) (a.r0 ++ [r1]))))))) pF))) (pNN 2 u107 (fun g => g.2) (pY u110 (fun g => g.1.1.2) (pNN 2 u107 (fun g => g.2) (let u106 := ((gb a.x0 a.x6) == 44); pA u106 (pY u106 (fun g => g.2) (pN u107 (fun g => g.1.2) (pY u106 (fun g => g.2) (pN u107 (fun g => g.1.2) (pA (!(!a.x4)) (pA (in2 a.x5 a.x6 (zz a.x0)) (Zl (cu a.x0 a.x5 a.x6) fun r2 => (pZ [[xs r2]] (Qr [r2]) (Js [r2]) (pQ Qv 16 a.r0 [r2] (pR (.inl (QI.mk a.x0 (!a.x4) (w64 (a.x6 + 1)) (w64 (a.x6 + 1)) (a.r0 ++ [r2]))))))) pF) (pR (.inl (QI.mk a.x0 (!a.x4) a.x5 (w64 (a.x6 + 1)) a.r0)))))))) (pN u106 (fun g => g.2) (pN u107 (fun g => g.1.2) (pN u106 (fun g => g.2) (pN u107 (fun g => g.1.2) (pV false rfl (pR (.inl (QI.mk a.x0 (!a.x4) a.x5 (w64 (a.x6 + 1)) a.r0))))))))))))) (let u109 := (a.x6 == (zz a.x0)); pA u109 (pYN 6 u109 (fun g => g.2) (pU true rfl (pA (in2 a.x5 a.x6 (zz a.x0)) (Zl (cu a.x0 a.x5 a.x6) fun r3 => (pZ [[xs r3]] (Qr [r3]) (Js [r3]) (pQ Qv 16 a.r0 [r3] (pR (.inl (QI.mk a.x0 a.x4 (w64 (a.x6 + 1)) (w64 (a.x6 + 1)) (a.r0 ++ [r3]))))))) pF))) (pNN 2 u109 (fun g => g.2) (pY u110 (fun g => g.1.1.2) (pNN 2 u109 (fun g => g.2) (let u108 := ((gb a.x0 a.x6) == 44); pA u108 (pY u108 (fun g => g.2) (pN u109 (fun g => g.1.2) (pY u108 (fun g => g.2) (pN u109 (fun g => g.1.2) (pA (!a.x4) (pA (in2 a.x5 a.x6 (zz a.x0)) (Zl (cu a.x0 a.x5 a.x6) fun r4 => (pZ [[xs r4]] (Qr [r4]) (Js [r4]) (pQ Qv 16 a.r0 [r4] (pR (.inl (QI.mk a.x0 a.x4 (w64 (a.x6 + 1)) (w64 (a.x6 + 1)) (a.r0 ++ [r4]))))))) pF) (pR (.inl (QI.mk a.x0 a.x4 a.x5 (w64 (a.x6 + 1)) a.r0)))))))) (pN u108 (fun g => g.2) (pN u109 (fun g => g.1.2) (pN u108 (fun g => g.2) (pN u109 (fun g => g.1.2) (pV false rfl (pR (.inl (QI.mk a.x0 a.x4 a.x5 (w64 (a.x6 + 1)) a.r0))))))))))))))) pF)) (pNN 4 u113 (fun g => g.2) (pV false rfl (let u112 := (a.x6 == (zz a.x0)); pA u112 (pYN 6 u112 (fun g => g.2) (pU true rfl (pA (in2 a.x5 a.x6 (zz a.x0)) (Zl (cu a.x0 a.x5 a.x6) fun r5 => (pZ [[xs r5]] (Qr [r5]) (Js [r5]) (pQ Qv 16 a.r0 [r5] (pR (.inl (QI.mk a.x0 a.x4 (w64 (a.x6 + 1)) (w64 (a.x6 + 1)) (a.r0 ++ [r5]))))))) pF))) (pNN 2 u112 (fun g => g.2) (pA (in1 a.x6 (zz a.x0)) (pNN 2 u112 (fun g => g.1.2) (let u111 := ((gb a.x0 a.x6) == 44); pA u111 (pY u111 (fun g => g.2) (pN u112 (fun g => g.1.1.2) (pY u111 (fun g => g.2) (pN u112 (fun g => g.1.1.2) (pA (!a.x4) (pA (in2 a.x5 a.x6 (zz a.x0)) (Zl (cu a.x0 a.x5 a.x6) fun r6 => (pZ [[xs r6]] (Qr [r6]) (Js [r6]) (pQ Qv 16 a.r0 [r6] (pR (.inl (QI.mk a.x0 a.x4 (w64 (a.x6 + 1)) (w64 (a.x6 + 1)) (a.r0 ++ [r6]))))))) pF) (pR (.inl (QI.mk a.x0 a.x4 a.x5 (w64 (a.x6 + 1)) a.r0)))))))) (pN u111 (fun g => g.2) (pN u112 (fun g => g.1.1.2) (pN u111 (fun g => g.2) (pN u112 (fun g => g.1.1.2) (pV false rfl (pR (.inl (QI.mk a.x0 a.x4 a.x5 (w64 (a.x6 + 1)) a.r0)))))))))) pF)))))) (pR (.inr a.r0)))
theorem UK.ok {a : QI} {r : (List ByteArray)} (h : UK a = some r) : lw 0 55 (loopAt pp 55 4) (QaN a) = some (QaO r) := lpQ Qn4 h
noncomputable abbrev Qn5 {Γ : Prop} {ρ R : Type} {en : ρ → R} (a : QI) (k0 : (List ByteArray) → Pn Γ (lw 0 55) en) : Pn Γ (lw 0 55) en := p1 (loopAt pp 55 4) (QaN a) (UK a) QaO (fun _ => UK.ok) k0
def Qfi (L0 : Qhd) (a0 : ByteArray) : Option (List ByteArray) := ((L0 (QI.mk a0 false (0 : Int) (0 : Int) ([] : List ByteArray))).bind (fun (o1 : (List ByteArray)) => (some o1)))
noncomputable def ZC : Qm5 := Qfi UK
theorem ZC.eq (a0 : ByteArray) : ZC a0 = Qfi UK a0 := rfl
noncomputable def Qta (a0 : ByteArray) : Pn True (lw 0 55) UI := (Qn5 (QI.mk a0 false i0 i0 ([] : List ByteArray)) (fun o1 => (pR o1)))
theorem ZC.ok {a0 : ByteArray} {r : (List ByteArray)} (h : ZC a0 = some r) : ww 55 [xs a0] [] = some (UI r) := fnQ (Qta a0) h
noncomputable abbrev Qtb {Γ : Prop} {lp : Loops} {ρ R : Type} {en : ρ → R} (a0 : ByteArray) (k : (List ByteArray) → Pn Γ lp en) : Pn Γ lp en := pC (ww 55 [xs a0] []) (ZC a0) UI (fun _ => ZC.ok) k
abbrev Qhe := ByteArray → Option Bool
structure Ux where
 x0 : ByteArray
 x3 : Int
def Fr (a : Ux) : St := { n := 28,nx := 0,env := [(0,xs a.x0),(3,xi a.x3)],heap := [] }
def Qa2 (a : Bool) : Ex × St := (.ret,{ n := 28,nx := 0,env := [(2,xo a)],heap := [] })
def Qa3 (a : Unit) : Ex × St := (.exit 0,{ n := 28,nx := 0,env := [],heap := [] })
def Qcn : (Bool ⊕ Unit) → Ex × St := Sum.elim Qa2 Qa3
abbrev Zm := Ux → Option (Bool ⊕ Unit)
def Ft (a : Ux) : Option (Ux ⊕ (Bool ⊕ Unit)) := (bif (decide ((w64 ((w64 (a.x3 + ((a.x0.size : Nat) : Int))) + 2)) ≤ 11)) then (bif (decide (((a.x0.size : Nat) : Int) > 0)) then (bif (decide (0 ≤ a.x3 ∧ a.x3 ≤ (w64 ((w64 (a.x3 + ((a.x0.size : Nat) : Int))) + 2)) ∧ (w64 ((w64 (a.x3 + ((a.x0.size : Nat) : Int))) + 2)) ≤ ((JQ.size : Nat) : Int))) then (bif (decide (((h_20.size + a.x0.size : Nat) : Int) ≤ IntKind.i64.max)) then (bif (decide ((((h_20 ++ a.x0).size + h_20.size : Nat) : Int) ≤ IntKind.i64.max)) then (bif (eqS (JQ.extract (Int.toNat a.x3) (Int.toNat (w64 ((w64 (a.x3 + ((a.x0.size : Nat) : Int))) + 2)))) ((h_20 ++ a.x0) ++ h_20)) then (some (.inr (.inl true))) else (some (.inl (Ux.mk a.x0 (w64 (a.x3 + 1)))))) else none) else none) else none) else (some (.inr (.inr ())))) else (some (.inr (.inr ()))))
noncomputable def Wz.s (k : Nat) : Zm := iter (Ft ) k
theorem Wz.cv (a : Ux) : Cv (fun k => Wz.s k a) (loopW (Ft ) a) := Cv.iter (fun a => by exact .const _) a
noncomputable def Wz : Zm := loopW (Ft )
noncomputable def QjG (a : Ux) : Pn True (lw 0 39) (Sum.elim (fun a => (Ex.norm,Fr a)) Qcn) := (let u114 := (decide ((w64 ((w64 (a.x3 + (zz a.x0))) + 2)) ≤ 11)); pA u114 (pYN 3 u114 (fun g => g.2) (pA (decide ((zz a.x0) > 0)) (pA (in2 a.x3 (w64 ((w64 (a.x3 + (zz a.x0))) + 2)) (zz JQ)) (pA (decide (((h_20.size + a.x0.size : Nat) : Int) ≤ IntKind.i64.max)) (pA (decide ((((h_20 ++ a.x0).size + h_20.size : Nat) : Int) ≤ IntKind.i64.max)) (pA (eqS (cu JQ a.x3 (w64 ((w64 (a.x3 + (zz a.x0))) + 2))) ((h_20 ++ a.x0) ++ h_20)) (pR (.inr (.inl true))) (pR (.inl (Ux.mk a.x0 (w64 (a.x3 + 1)))))) pF) pF) pF) (pR (.inr (.inr ()))))) (pNN 3 u114 (fun g => g.2) (pV false rfl (pR (.inr (.inr ()))))))
theorem Wz.ok {a : Ux} {r : (Bool ⊕ Unit)} (h : Wz a = some r) : lw 0 39 (loopAt pp 39 2) (Fr a) = some (Qcn r) := lpQ QjG h
noncomputable abbrev QjH {Γ : Prop} {ρ R : Type} {en : ρ → R} (a : Ux) (k0 : Bool → Pn Γ (lw 0 39) en) (k1 : Unit → Pn Γ (lw 0 39) en) : Pn Γ (lw 0 39) en := p2 (loopAt pp 39 2) (Fr a) (Wz a) Qa2 Qa3 (fun _ => Wz.ok) k0 k1
def Gk (L0 : Zm) (a0 : ByteArray) : Option Bool := ((L0 (Ux.mk a0 (0 : Int))).bind fun x => Sum.elim (fun (o1 : Bool) => (some o1)) (fun (o2 : Unit) => (some false)) x)
theorem Qn6 {L0 : Nat → Zm} {M0 : Zm} (N0 : Cv1 L0 M0) (a0 : ByteArray) : Cv (fun k => Gk (L0 k) a0) (Gk M0 a0) := by
 unfold Gk
 exact .bind (N0 _) fun x => .sum (fun o1 => by exact .const _) (fun o2 => by exact .const _) x
noncomputable def Vc : Qhe := Gk Wz
noncomputable def Qn7 (a0 : ByteArray) : Pn True (lw 0 39) QF := (QjH (Ux.mk a0 i0) (fun o1 => (pR o1)) (fun o2 => (pR false)))
theorem Vc.ok {a0 : ByteArray} {r : Bool} (h : Vc a0 = some r) : ww 39 [xs a0] [] = some (QF r) := fnQ (Qn7 a0) h
noncomputable abbrev Qn8 {Γ : Prop} {lp : Loops} {ρ R : Type} {en : ρ → R} (a0 : ByteArray) (k : Bool → Pn Γ lp en) : Pn Γ lp en := pC (ww 39 [xs a0] []) (Vc a0) QF (fun _ => Vc.ok) k
noncomputable def Vc.s : Nat → ByteArray → Option Bool
 | 0,_ => none
 | k + 1,a0 => Gk (Wz.s k) a0
theorem Vc.cv (a0 : ByteArray) : Cv (fun k => Vc.s k a0) (Vc a0) := .un rfl (Qn6 Wz.cv a0)
abbrev Qrl := ByteArray → Option Int
structure V4 where
 x0 : ByteArray
 x3 : Int
 x4 : Int
def QdB (a : V4) : St := { n := 55,nx := 0,env := [(0,xs a.x0),(3,xi a.x3),(4,xi a.x4)],heap := [] }
def Qhf (a : Int) : Ex × St := (.ret,{ n := 55,nx := 0,env := [(2,xi a)],heap := [] })
def Qhg (a : Int) : Ex × St := (.exit 0,{ n := 55,nx := 0,env := [(3,xi a)],heap := [] })
def Qjb : (Int ⊕ Int) → Ex × St := Sum.elim Qhf Qhg
abbrev QkP := V4 → Option (Int ⊕ Int)
def SE (a : V4) : Option (V4 ⊕ (Int ⊕ Int)) := (bif (decide (a.x4 < ((a.x0.size : Nat) : Int))) then (bif (decide (0 ≤ a.x4 ∧ a.x4 < ((a.x0.size : Nat) : Int))) then (bif (decide (((a.x0.data.getD (Int.toNat a.x4) 0).toNat : Int) < 48)) then (some (.inr (.inl (-1 : Int)))) else (bif (decide (((a.x0.data.getD (Int.toNat a.x4) 0).toNat : Int) > 57)) then (some (.inr (.inl (-1 : Int)))) else (some (.inl (V4.mk a.x0 (w64 ((w64 ((10 : Int) * a.x3)) + (w64 (IntKind.u8.wrap (((a.x0.data.getD (Int.toNat a.x4) 0).toNat : Int) - 48))))) (w64 (a.x4 + 1))))))) else none) else (some (.inr (.inr a.x3))))
noncomputable def U6 : QkP := loopW (SE )
theorem U6.eq (a : V4) : U6 a = (SE a).bind (Sum.elim U6 some) := QK _ _
noncomputable def QqM (a : V4) : Pn True (lw 0 205) (Sum.elim (fun a => (Ex.norm,QdB a)) Qjb) := (pA (decide (a.x4 < (zz a.x0))) (let u116 := (in1 a.x4 (zz a.x0)); pA u116 (let u115 := (decide ((gb a.x0 a.x4) < 48)); pA u115 (pYN 4 u115 (fun g => g.2) (pU true rfl (pR (.inr (.inl (-1 : Int)))))) (pNN 2 u115 (fun g => g.2) (pY u116 (fun g => g.1.2) (pNN 2 u115 (fun g => g.2) (pA (decide ((gb a.x0 a.x4) > 57)) (pR (.inr (.inl (-1 : Int)))) (pY u116 (fun g => g.1.1.2) (pR (.inl (V4.mk a.x0 (w64 ((w64 ((zi 10) * a.x3)) + (w64 (IntKind.u8.wrap ((gb a.x0 a.x4) - 48))))) (w64 (a.x4 + 1))))))))))) pF) (pR (.inr (.inr a.x3))))
theorem U6.ok {a : V4} {r : (Int ⊕ Int)} (h : U6 a = some r) : lw 0 205 (loopAt pp 205 5) (QdB a) = some (Qjb r) := lpQ QqM h
noncomputable abbrev Qjc {Γ : Prop} {ρ R : Type} {en : ρ → R} (a : V4) (k0 : Int → Pn Γ (lw 0 205) en) (k1 : Int → Pn Γ (lw 0 205) en) : Pn Γ (lw 0 205) en := p2 (loopAt pp 205 5) (QdB a) (U6 a) Qhf Qhg (fun _ => U6.ok) k0 k1
def QjI (L0 : QkP) (a0 : ByteArray) : Option Int := (bif (decide (((a0.size : Nat) : Int) < 2)) then (some (-1 : Int)) else (bif (decide (((a0.size : Nat) : Int) > 3)) then (some (-1 : Int)) else (bif (decide (0 ≤ (0 : Int) ∧ (0 : Int) < ((a0.size : Nat) : Int))) then (bif (((a0.data.getD (Int.toNat 0) 0).toNat : Int) != 114) then (some (-1 : Int)) else (bif (decide (0 ≤ (1 : Int) ∧ (1 : Int) < ((a0.size : Nat) : Int))) then (bif (((a0.data.getD (Int.toNat 1) 0).toNat : Int) == 48) then (bif (decide (((a0.size : Nat) : Int) > 2)) then (some (-1 : Int)) else ((L0 (V4.mk a0 (0 : Int) (1 : Int))).bind fun x => Sum.elim (fun (o1 : Int) => (some o1)) (fun (o2 : Int) => (bif (decide (o2 > 31)) then (some (-1 : Int)) else (some o2))) x)) else ((L0 (V4.mk a0 (0 : Int) (1 : Int))).bind fun x => Sum.elim (fun (o3 : Int) => (some o3)) (fun (o4 : Int) => (bif (decide (o4 > 31)) then (some (-1 : Int)) else (some o4))) x)) else none)) else none)))
noncomputable def E1 : Qrl := QjI U6
theorem E1.eq (a0 : ByteArray) : E1 a0 = QjI U6 a0 := rfl
noncomputable def QvM (a0 : ByteArray) : Pn True (lw 0 205) Qq := (let u120 := (decide ((zz a0) < 2)); pA u120 (pYN 3 u120 (fun g => g.2) (pYN 11 true (fun _ => rfl) (pR (-1 : Int)))) (pNN 3 u120 (fun g => g.2) (let u119 := (decide ((zz a0) > 3)); pA u119 (pYN 3 u119 (fun g => g.2) (pYN 7 true (fun _ => rfl) (pR (-1 : Int)))) (pN u119 (fun g => g.2) (pA (in1 i0 (zz a0)) (pNN 2 u119 (fun g => g.1.2) (let u118 := ((gb a0 i0) != 114); pA u118 (pYN 5 u118 (fun g => g.2) (pU true rfl (pR (-1 : Int)))) (pN u118 (fun g => g.2) (pA (in1 (zi 1) (zz a0)) (pNN 2 u118 (fun g => g.1.2) (let u117 := ((gb a0 (zi 1)) == 48); pA u117 (pYN 2 u117 (fun g => g.2) (pN u118 (fun g => g.1.1.2) (pY u117 (fun g => g.2) (pN u118 (fun g => g.1.1.2) (pA (decide ((zz a0) > 2)) (pR (-1 : Int)) (Qjc (V4.mk a0 i0 (zi 1)) (fun o1 => (pR o1)) (fun o2 => (pA (decide (o2 > 31)) (pR (-1 : Int)) (pR o2))))))))) (pNN 2 u117 (fun g => g.2) (pN u118 (fun g => g.1.1.2) (pN u117 (fun g => g.2) (pN u118 (fun g => g.1.1.2) (pV false rfl (Qjc (V4.mk a0 i0 (zi 1)) (fun o3 => (pR o3)) (fun o4 => (pA (decide (o4 > 31)) (pR (-1 : Int)) (pR o4))))))))))) pF)))) pF)))))
theorem E1.ok {a0 : ByteArray} {r : Int} (h : E1 a0 = some r) : ww 205 [xs a0] [] = some (Qq r) := fnQ (QvM a0) h
noncomputable abbrev QvN {Γ : Prop} {lp : Loops} {ρ R : Type} {en : ρ → R} (a0 : ByteArray) (k : Int → Pn Γ lp en) : Pn Γ lp en := pC (ww 205 [xs a0] []) (E1 a0) Qq (fun _ => E1.ok) k
def Fu (r : Qb) : AV × Heap := (.tup [],[(0,.box [] (QU r))])
abbrev PH := Qb → Option Qb
def Gx (a : Qb) : St := { n := 31,nx := 1,env := [(0,.ptr 0 0)],heap := [(0,.box [] (QU a))] }
def Gy (a : Qb) : Ex × St := (.exit 0,{ n := 31,nx := 1,env := [],heap := [(0,.box [] (QU a))] })
abbrev Qac := Qb → Option Qb
def Y2 (a : Qb) : Option (Qb ⊕ Qb) := (bif (decide (a.P < ((a.S.size : Nat) : Int))) then (bif (decide (0 ≤ a.P ∧ a.P < ((a.S.size : Nat) : Int))) then (bif (((a.S.data.getD (Int.toNat a.P) 0).toNat : Int) == 32) then (some (.inl (Qb.mk a.S (w64 (a.P + 1)) a.Deep a.Bad))) else (some (.inr a))) else none) else (some (.inr a)))
noncomputable def Ud : Qac := loopW (Y2 )
theorem Ud.eq (a : Qb) : Ud a = (Y2 a).bind (Sum.elim Ud some) := QK _ _
noncomputable def Qf9 (a : Qb) : Pn True (lw 1 160) (Sum.elim (fun a => (Ex.norm,Gx a)) Gy) := (let u121 := (decide (a.P < (zz a.S))); pA u121 (pYN 8 u121 (fun g => g.2) (pA (in1 a.P (zz a.S)) (pYN 2 u121 (fun g => g.1.2) (pA ((gb a.S a.P) == 32) (pR (.inl (Qb.mk a.S (w64 (a.P + 1)) a.Deep a.Bad))) (pR (.inr a)))) pF)) (pNN 10 u121 (fun g => g.2) (pV false rfl (pR (.inr a)))))
theorem Ud.ok {a : Qb} {r : Qb} (h : Ud a = some r) : lw 1 160 (loopAt pp 160 0) (Gx a) = some (Gy r) := lpQ Qf9 h
noncomputable abbrev Qga {Γ : Prop} {ρ R : Type} {en : ρ → R} (a : Qb) (k0 : Qb → Pn Γ (lw 1 160) en) : Pn Γ (lw 1 160) en := p1 (loopAt pp 160 0) (Gx a) (Ud a) Gy (fun _ => Ud.ok) k0
def Fv (L0 : Qac) (h0 : Qb) : Option Qb := ((L0 h0).bind (fun (o1 : Qb) => (some o1)))
noncomputable def Vh : PH := Fv Ud
theorem Vh.eq (h0 : Qb) : Vh h0 = Fv Ud h0 := rfl
noncomputable def QjJ (h0 : Qb) : Pn True (lw 1 160) Fu := (Qga h0 (fun o1 => (pR o1)))
theorem Vh.ok {h0 : Qb} {r : Qb} (h : Vh h0 = some r) : ww 160 [.ptr 0 0] [(0,.box [] (QU h0))] = some (Fu r) := fnQ (QjJ h0) h
noncomputable abbrev Qco {Γ : Prop} {lp : Loops} {ρ R : Type} {en : ρ → R} (h0 : Qb) (k : Qb → Pn Γ lp en) : Pn Γ lp en := pC (ww 160 [.ptr 0 0] [(0,.box [] (QU h0))]) (Vh h0) Fu (fun _ => Vh.ok) k
def Si (r : (Bool × Qb)) : AV × Heap := (xo r.1,[(0,.box [] (QU r.2))])
abbrev X2 := ByteArray → Qb → Option (Bool × Qb)
def Sj (C0 : PH) (a1 : ByteArray) (h0 : Qb) : Option (Bool × Qb) := ((C0 h0).bind fun r1 => (bif (decide ((w64 (r1.P + ((a1.size : Nat) : Int))) > ((r1.S.size : Nat) : Int))) then (some (false,r1)) else (bif (decide (0 ≤ r1.P ∧ r1.P ≤ (w64 (r1.P + ((a1.size : Nat) : Int))) ∧ (w64 (r1.P + ((a1.size : Nat) : Int))) ≤ ((r1.S.size : Nat) : Int))) then (bif (!(eqS (r1.S.extract (Int.toNat r1.P) (Int.toNat (w64 (r1.P + ((a1.size : Nat) : Int))))) a1)) then (some (false,r1)) else (some (true,(Qb.mk r1.S (w64 (r1.P + ((a1.size : Nat) : Int))) r1.Deep r1.Bad)))) else none)))
noncomputable def Vq : X2 := Sj Vh
theorem Vq.eq (a1 : ByteArray) (h0 : Qb) : Vq a1 h0 = Sj Vh a1 h0 := rfl
noncomputable def QlZ (a1 : ByteArray) (h0 : Qb) : Pn True (lw 1 233) Si := (Qco h0 fun r1 => (let u122 := (decide ((w64 (r1.P + (zz a1))) > (zz r1.S))); pA u122 (pYN 18 u122 (fun g => g.2) (pU true rfl (pR (false,r1)))) (pNN 15 u122 (fun g => g.2) (pA (in2 r1.P (w64 (r1.P + (zz a1))) (zz r1.S)) (pNN 3 u122 (fun g => g.1.2) (pA (!(eqS (cu r1.S r1.P (w64 (r1.P + (zz a1)))) a1)) (pR (false,r1)) (pR (true,(Qb.mk r1.S (w64 (r1.P + (zz a1))) r1.Deep r1.Bad))))) pF))))
theorem Vq.ok {a1 : ByteArray} {h0 : Qb} {r : (Bool × Qb)} (h : Vq a1 h0 = some r) : ww 233 [.ptr 0 0,xs a1] [(0,.box [] (QU h0))] = some (Si r) := fnQ (QlZ a1 h0) h
noncomputable abbrev YF {Γ : Prop} {lp : Loops} {ρ R : Type} {en : ρ → R} (a1 : ByteArray) (h0 : Qb) (k : (Bool × Qb) → Pn Γ lp en) : Pn Γ lp en := pC (ww 233 [.ptr 0 0,xs a1] [(0,.box [] (QU h0))]) (Vq a1 h0) Si (fun _ => Vq.ok) k
abbrev Qad := Int → Int → Option Int
def PI (a0 : Int) (a1 : Int) : Option Int := (bif (decide (a0 ≥ 48)) then (bif (decide (a0 ≤ (57 : Int))) then (some (w64 (IntKind.u8.wrap (a0 - 48)))) else (bif (a1 == 16) then (bif (decide (a0 ≥ 97)) then (bif (decide (a0 ≤ (102 : Int))) then (some (w64 ((w64 (IntKind.u8.wrap (a0 - 97))) + 10))) else (some (-1 : Int))) else (some (-1 : Int))) else (some (-1 : Int)))) else (bif (a1 == 16) then (bif (decide (a0 ≥ 97)) then (bif (decide (a0 ≤ (102 : Int))) then (some (w64 ((w64 (IntKind.u8.wrap (a0 - 97))) + 10))) else (some (-1 : Int))) else (some (-1 : Int))) else (some (-1 : Int))))
noncomputable def Wh : Qad := PI
theorem Wh.eq (a0 : Int) (a1 : Int) : Wh a0 a1 = PI a0 a1 := rfl
noncomputable def Qtc (a0 : Int) (a1 : Int) : Pn True (lw 0 236) Qq := (let u127 := (decide (a0 ≥ 48)); pA u127 (pYN 2 u127 (fun g => g.2) (pA (decide (a0 ≤ (zi 57))) (pR (w64 (IntKind.u8.wrap (a0 - 48)))) (let u124 := (a1 == 16); pA u124 (pYN 2 u124 (fun g => g.2) (let u123 := (decide (a0 ≥ 97)); pA u123 (pYN 2 u123 (fun g => g.2) (pA (decide (a0 ≤ (zi 102))) (pR (w64 ((w64 (IntKind.u8.wrap (a0 - 97))) + 10))) (pR (-1 : Int)))) (pNN 2 u123 (fun g => g.2) (pV false rfl (pR (-1 : Int)))))) (pNN 2 u124 (fun g => g.2) (pNN 4 false (fun _ => rfl) (pR (-1 : Int))))))) (pNN 2 u127 (fun g => g.2) (pV false rfl (let u126 := (a1 == 16); pA u126 (pYN 2 u126 (fun g => g.2) (let u125 := (decide (a0 ≥ 97)); pA u125 (pYN 2 u125 (fun g => g.2) (pA (decide (a0 ≤ (zi 102))) (pR (w64 ((w64 (IntKind.u8.wrap (a0 - 97))) + 10))) (pR (-1 : Int)))) (pNN 2 u125 (fun g => g.2) (pV false rfl (pR (-1 : Int)))))) (pNN 2 u126 (fun g => g.2) (pNN 4 false (fun _ => rfl) (pR (-1 : Int))))))))
theorem Wh.ok {a0 : Int} {a1 : Int} {r : Int} (h : Wh a0 a1 = some r) : ww 236 [xb a0,xi a1] [] = some (Qq r) := fnQ (Qtc a0 a1) h
noncomputable abbrev Qfj {Γ : Prop} {lp : Loops} {ρ R : Type} {en : ρ → R} (a0 : Int) (a1 : Int) (k : Int → Pn Γ lp en) : Pn Γ lp en := pC (ww 236 [xb a0,xi a1] []) (Wh a0 a1) Qq (fun _ => Wh.ok) k
def Jb (r : (Qd × Qb)) : AV × Heap := (.agg (Jg r.1),[(0,.box [] (QU r.2))])
abbrev ZK := Int → Qb → Option (Qd × Qb)
structure Jv where
 x1 : Int
 x5 : Int
 x6 : Int
 h0 : Qb
 h1 : Qd
structure Uk where
 h0 : Qb
 h1 : Qd
structure JB where
 x5 : Int
 x6 : Int
 h0 : Qb
 h1 : Qd
def ZY (a : Jv) : St := { n := 74,nx := 2,env := [(0,.ptr 0 0),(1,xi a.x1),(4,.ptr 1 0),(5,xi a.x5),(6,xi a.x6)],heap := [(0,.box [] (QU a.h0)),(1,.box [] (Jg a.h1))] }
def E2 (a : Uk) : Ex × St := (.ret,{ n := 74,nx := 2,env := [(4,.ptr 1 0)],heap := [(0,.box [] (QU a.h0)),(1,.box [] (Jg a.h1))] })
def E3 (a : JB) : Ex × St := (.exit 0,{ n := 74,nx := 2,env := [(0,.ptr 0 0),(4,.ptr 1 0),(5,xi a.x5),(6,xi a.x6)],heap := [(0,.box [] (QU a.h0)),(1,.box [] (Jg a.h1))] })
def FP : (Uk ⊕ JB) → Ex × St := Sum.elim E2 E3
abbrev PJ := Jv → Option (Uk ⊕ JB)
def XC (C0 : Qad) (a : Jv) : Option (Jv ⊕ (Uk ⊕ JB)) := (bif (decide (a.h0.P < ((a.h0.S.size : Nat) : Int))) then (bif (decide (0 ≤ a.h0.P ∧ a.h0.P < ((a.h0.S.size : Nat) : Int))) then ((C0 ((a.h0.S.data.getD (Int.toNat a.h0.P) 0).toNat : Int) a.x1).bind fun r1 => (bif (decide (r1 ≥ 0)) then ((C0 ((a.h0.S.data.getD (Int.toNat a.h0.P) 0).toNat : Int) a.x1).bind fun r2 => (bif (decide ((w64 ((w64 (a.x1 * a.x5)) + r2)) ≥ 4294967296)) then (some (.inr (.inl (Uk.mk (Qb.mk a.h0.S (w64 (a.h0.P + 1)) a.h0.Deep true) (Qd.mk (0 : Int) (0 : Int) s_ ([] : List Qd)))))) else (some (.inl (Jv.mk a.x1 (w64 ((w64 (a.x1 * a.x5)) + r2)) a.x6 (Qb.mk a.h0.S (w64 (a.h0.P + 1)) a.h0.Deep a.h0.Bad) a.h1))))) else (some (.inr (.inr (JB.mk a.x5 a.x6 a.h0 a.h1)))))) else none) else (some (.inr (.inr (JB.mk a.x5 a.x6 a.h0 a.h1)))))
noncomputable def QX : PJ := loopW (XC Wh)
theorem QX.eq (a : Jv) : QX a = (XC Wh a).bind (Sum.elim QX some) := QK _ _
noncomputable def Qev (a : Jv) : Pn True (lw 1 235) (Sum.elim (fun a => (Ex.norm,ZY a)) FP) := (let u129 := (decide (a.h0.P < (zz a.h0.S))); pA u129 (pYN 8 u129 (fun g => g.2) (let u128 := (in1 a.h0.P (zz a.h0.S)); pA u128 (pYN 2 u129 (fun g => g.1.2) (Qfj (gb a.h0.S a.h0.P) a.x1 fun r1 => (pYN 2 u129 (fun g => g.1.2) (pA (decide (r1 ≥ 0)) (pY u128 (fun g => g.1.2) (Qfj (gb a.h0.S a.h0.P) a.x1 fun r2 => (pA (decide ((w64 ((w64 (a.x1 * a.x5)) + r2)) ≥ 4294967296)) (pR (.inr (.inl (Uk.mk (Qb.mk a.h0.S (w64 (a.h0.P + 1)) a.h0.Deep true) (Qd.mk i0 i0 s_ ([] : List Qd)))))) (pR (.inl (Jv.mk a.x1 (w64 ((w64 (a.x1 * a.x5)) + r2)) a.x6 (Qb.mk a.h0.S (w64 (a.h0.P + 1)) a.h0.Deep a.h0.Bad) a.h1)))))) (pR (.inr (.inr (JB.mk a.x5 a.x6 a.h0 a.h1)))))))) pF)) (pNN 12 u129 (fun g => g.2) (pV false rfl (pR (.inr (.inr (JB.mk a.x5 a.x6 a.h0 a.h1)))))))
theorem QX.ok {a : Jv} {r : (Uk ⊕ JB)} (h : QX a = some r) : lw 1 235 (loopAt pp 235 2) (ZY a) = some (FP r) := lpQ Qev h
noncomputable abbrev Qew {Γ : Prop} {ρ R : Type} {en : ρ → R} (a : Jv) (k0 : Uk → Pn Γ (lw 1 235) en) (k1 : JB → Pn Γ (lw 1 235) en) : Pn Γ (lw 1 235) en := p2 (loopAt pp 235 2) (ZY a) (QX a) E2 E3 (fun _ => QX.ok) k0 k1
def Zo (L0 : PJ) (a1 : Int) (h0 : Qb) : Option (Qd × Qb) := ((L0 (Jv.mk a1 (0 : Int) h0.P h0 (Qd.mk (0 : Int) (0 : Int) s_ ([] : List Qd)))).bind fun x => Sum.elim (fun (o1 : Uk) => (some (o1.h1,o1.h0))) (fun (o2 : JB) => (bif (o2.x6 == o2.h0.P) then (some ((Qd.mk (1 : Int) o2.x5 s_ ([] : List Qd)),(Qb.mk o2.h0.S o2.h0.P o2.h0.Deep true))) else (some ((Qd.mk (1 : Int) o2.x5 s_ ([] : List Qd)),o2.h0)))) x)
noncomputable def JR : ZK := Zo QX
theorem JR.eq (a1 : Int) (h0 : Qb) : JR a1 h0 = Zo QX a1 h0 := rfl
noncomputable def Qhh (a1 : Int) (h0 : Qb) : Pn True (lw 1 235) Jb := (Qew (Jv.mk a1 i0 h0.P h0 (Qd.mk i0 i0 s_ ([] : List Qd))) (fun o1 => (pR (o1.h1,o1.h0))) (fun o2 => (pA (o2.x6 == o2.h0.P) (pR ((Qd.mk (zi 1) o2.x5 s_ ([] : List Qd)),(Qb.mk o2.h0.S o2.h0.P o2.h0.Deep true))) (pR ((Qd.mk (zi 1) o2.x5 s_ ([] : List Qd)),o2.h0)))))
theorem JR.ok {a1 : Int} {h0 : Qb} {r : (Qd × Qb)} (h : JR a1 h0 = some r) : ww 235 [.ptr 0 0,xi a1] [(0,.box [] (QU h0))] = some (Jb r) := fnQ (Qhh a1 h0) h
noncomputable abbrev Qae {Γ : Prop} {lp : Loops} {ρ R : Type} {en : ρ → R} (a1 : Int) (h0 : Qb) (k : (Qd × Qb) → Pn Γ lp en) : Pn Γ lp en := pC (ww 235 [.ptr 0 0,xi a1] [(0,.box [] (QU h0))]) (JR a1 h0) Jb (fun _ => JR.ok) k
abbrev GL := Qb → Option (Qd × Qb)
structure QH where
 x3 : Int
 h0 : Qb
 h1 : Qd
structure Q6 where
 x3 : Int
 h0 : Qb
 h1 : Qd
def Gz (a : QH) : St := { n := 111,nx := 2,env := [(0,.ptr 0 0),(2,.ptr 1 0),(3,xi a.x3)],heap := [(0,.box [] (QU a.h0)),(1,.box [] (Jg a.h1))] }
def GA (a : Q6) : Ex × St := (.exit 0,{ n := 111,nx := 2,env := [(0,.ptr 0 0),(2,.ptr 1 0),(3,xi a.x3)],heap := [(0,.box [] (QU a.h0)),(1,.box [] (Jg a.h1))] })
abbrev Qaf := QH → Option Q6
def Y3 (a : QH) : Option (QH ⊕ Q6) := (bif (decide (a.h0.P < ((a.h0.S.size : Nat) : Int))) then (bif (decide (0 ≤ a.h0.P ∧ a.h0.P < ((a.h0.S.size : Nat) : Int))) then (bif (decide (((a.h0.S.data.getD (Int.toNat a.h0.P) 0).toNat : Int) ≥ 97)) then (bif (decide (((a.h0.S.data.getD (Int.toNat a.h0.P) 0).toNat : Int) ≤ 122)) then (some (.inl (QH.mk a.x3 (Qb.mk a.h0.S (w64 (a.h0.P + 1)) a.h0.Deep a.h0.Bad) a.h1))) else (bif (decide (((a.h0.S.data.getD (Int.toNat a.h0.P) 0).toNat : Int) ≥ 48)) then (bif (decide (((a.h0.S.data.getD (Int.toNat a.h0.P) 0).toNat : Int) ≤ 57)) then (some (.inl (QH.mk a.x3 (Qb.mk a.h0.S (w64 (a.h0.P + 1)) a.h0.Deep a.h0.Bad) a.h1))) else (bif (((a.h0.S.data.getD (Int.toNat a.h0.P) 0).toNat : Int) == 95) then (some (.inl (QH.mk a.x3 (Qb.mk a.h0.S (w64 (a.h0.P + 1)) a.h0.Deep a.h0.Bad) a.h1))) else (some (.inr (Q6.mk a.x3 a.h0 a.h1))))) else (bif (((a.h0.S.data.getD (Int.toNat a.h0.P) 0).toNat : Int) == 95) then (some (.inl (QH.mk a.x3 (Qb.mk a.h0.S (w64 (a.h0.P + 1)) a.h0.Deep a.h0.Bad) a.h1))) else (some (.inr (Q6.mk a.x3 a.h0 a.h1)))))) else (bif (decide (((a.h0.S.data.getD (Int.toNat a.h0.P) 0).toNat : Int) ≥ 48)) then (bif (decide (((a.h0.S.data.getD (Int.toNat a.h0.P) 0).toNat : Int) ≤ 57)) then (some (.inl (QH.mk a.x3 (Qb.mk a.h0.S (w64 (a.h0.P + 1)) a.h0.Deep a.h0.Bad) a.h1))) else (bif (((a.h0.S.data.getD (Int.toNat a.h0.P) 0).toNat : Int) == 95) then (some (.inl (QH.mk a.x3 (Qb.mk a.h0.S (w64 (a.h0.P + 1)) a.h0.Deep a.h0.Bad) a.h1))) else (some (.inr (Q6.mk a.x3 a.h0 a.h1))))) else (bif (((a.h0.S.data.getD (Int.toNat a.h0.P) 0).toNat : Int) == 95) then (some (.inl (QH.mk a.x3 (Qb.mk a.h0.S (w64 (a.h0.P + 1)) a.h0.Deep a.h0.Bad) a.h1))) else (some (.inr (Q6.mk a.x3 a.h0 a.h1)))))) else none) else (some (.inr (Q6.mk a.x3 a.h0 a.h1))))
noncomputable def JV : Qaf := loopW (Y3 )
theorem JV.eq (a : QH) : JV a = (Y3 a).bind (Sum.elim JV some) := QK _ _
noncomputable def Qgb (a : QH) : Pn True (lw 1 237) (Sum.elim (fun a => (Ex.norm,Gz a)) GA) := (let u137 := (decide (a.h0.P < (zz a.h0.S))); pA u137 (pYN 8 u137 (fun g => g.2) (let u136 := (in1 a.h0.P (zz a.h0.S)); pA u136 (pYN 2 u137 (fun g => g.1.2) (let u135 := (decide ((gb a.h0.S a.h0.P) ≥ 97)); pA u135 (pYN 8 u135 (fun g => g.2) (pY u136 (fun g => g.1.2) (pY u135 (fun g => g.2) (pY u137 (fun g => g.1.1.2) (pY u135 (fun g => g.2) (pY u137 (fun g => g.1.1.2) (let u132 := (decide ((gb a.h0.S a.h0.P) ≤ 122)); pA u132 (pYN 11 u132 (fun g => g.2) (pY u137 (fun g => g.1.1.1.2) (pY u132 (fun g => g.2) (pY u137 (fun g => g.1.1.1.2) (pYN 10 true (fun _ => rfl) (pY u137 (fun g => g.1.1.1.2) (pU true rfl (pY u137 (fun g => g.1.1.1.2) (pU true rfl (pR (.inl (QH.mk a.x3 (Qb.mk a.h0.S (w64 (a.h0.P + 1)) a.h0.Deep a.h0.Bad) a.h1)))))))))))) (pNN 8 u132 (fun g => g.2) (pY u136 (fun g => g.1.1.2) (pNN 2 u132 (fun g => g.2) (let u131 := (decide ((gb a.h0.S a.h0.P) ≥ 48)); pA u131 (pYN 8 u131 (fun g => g.2) (pY u136 (fun g => g.1.1.1.2) (pY u131 (fun g => g.2) (pN u132 (fun g => g.1.2) (pY u131 (fun g => g.2) (pY u137 (fun g => g.1.1.1.1.2) (pN u132 (fun g => g.1.2) (pY u137 (fun g => g.1.1.1.1.2) (let u130 := (decide ((gb a.h0.S a.h0.P) ≤ 57)); pA u130 (pYN 9 u130 (fun g => g.2) (pY u137 (fun g => g.1.1.1.1.1.2) (pY u130 (fun g => g.2) (pY u137 (fun g => g.1.1.1.1.1.2) (pU true rfl (pR (.inl (QH.mk a.x3 (Qb.mk a.h0.S (w64 (a.h0.P + 1)) a.h0.Deep a.h0.Bad) a.h1)))))))) (pNN 8 u130 (fun g => g.2) (pY u136 (fun g => g.1.1.1.1.2) (pN u130 (fun g => g.2) (pY u137 (fun g => g.1.1.1.1.1.2) (pN u130 (fun g => g.2) (pY u137 (fun g => g.1.1.1.1.1.2) (pA ((gb a.h0.S a.h0.P) == 95) (pR (.inl (QH.mk a.x3 (Qb.mk a.h0.S (w64 (a.h0.P + 1)) a.h0.Deep a.h0.Bad) a.h1))) (pR (.inr (Q6.mk a.x3 a.h0 a.h1))))))))))))))))))) (pNN 9 u131 (fun g => g.2) (pN u132 (fun g => g.1.2) (pN u131 (fun g => g.2) (pY u137 (fun g => g.1.1.1.1.2) (pN u132 (fun g => g.1.2) (pY u137 (fun g => g.1.1.1.1.2) (pNN 9 false (fun _ => rfl) (pY u136 (fun g => g.1.1.1.2) (pV false rfl (pY u137 (fun g => g.1.1.1.1.2) (pV false rfl (pY u137 (fun g => g.1.1.1.1.2) (pA ((gb a.h0.S a.h0.P) == 95) (pR (.inl (QH.mk a.x3 (Qb.mk a.h0.S (w64 (a.h0.P + 1)) a.h0.Deep a.h0.Bad) a.h1))) (pR (.inr (Q6.mk a.x3 a.h0 a.h1))))))))))))))))))))))))))) (pNN 9 u135 (fun g => g.2) (pY u137 (fun g => g.1.1.2) (pN u135 (fun g => g.2) (pY u137 (fun g => g.1.1.2) (pNN 9 false (fun _ => rfl) (pY u136 (fun g => g.1.2) (pNN 2 false (fun _ => rfl) (let u134 := (decide ((gb a.h0.S a.h0.P) ≥ 48)); pA u134 (pYN 8 u134 (fun g => g.2) (pY u136 (fun g => g.1.1.2) (pY u134 (fun g => g.2) (pV false rfl (pY u134 (fun g => g.2) (pY u137 (fun g => g.1.1.1.2) (pV false rfl (pY u137 (fun g => g.1.1.1.2) (let u133 := (decide ((gb a.h0.S a.h0.P) ≤ 57)); pA u133 (pYN 9 u133 (fun g => g.2) (pY u137 (fun g => g.1.1.1.1.2) (pY u133 (fun g => g.2) (pY u137 (fun g => g.1.1.1.1.2) (pU true rfl (pR (.inl (QH.mk a.x3 (Qb.mk a.h0.S (w64 (a.h0.P + 1)) a.h0.Deep a.h0.Bad) a.h1)))))))) (pNN 8 u133 (fun g => g.2) (pY u136 (fun g => g.1.1.1.2) (pN u133 (fun g => g.2) (pY u137 (fun g => g.1.1.1.1.2) (pN u133 (fun g => g.2) (pY u137 (fun g => g.1.1.1.1.2) (pA ((gb a.h0.S a.h0.P) == 95) (pR (.inl (QH.mk a.x3 (Qb.mk a.h0.S (w64 (a.h0.P + 1)) a.h0.Deep a.h0.Bad) a.h1))) (pR (.inr (Q6.mk a.x3 a.h0 a.h1))))))))))))))))))) (pNN 9 u134 (fun g => g.2) (pV false rfl (pN u134 (fun g => g.2) (pY u137 (fun g => g.1.1.1.2) (pV false rfl (pY u137 (fun g => g.1.1.1.2) (pNN 9 false (fun _ => rfl) (pY u136 (fun g => g.1.1.2) (pV false rfl (pY u137 (fun g => g.1.1.1.2) (pV false rfl (pY u137 (fun g => g.1.1.1.2) (pA ((gb a.h0.S a.h0.P) == 95) (pR (.inl (QH.mk a.x3 (Qb.mk a.h0.S (w64 (a.h0.P + 1)) a.h0.Deep a.h0.Bad) a.h1))) (pR (.inr (Q6.mk a.x3 a.h0 a.h1)))))))))))))))))))))))))) pF)) (pNN 16 u137 (fun g => g.2) (pV false rfl (pR (.inr (Q6.mk a.x3 a.h0 a.h1))))))
theorem JV.ok {a : QH} {r : Q6} (h : JV a = some r) : lw 1 237 (loopAt pp 237 2) (Gz a) = some (GA r) := lpQ Qgb h
noncomputable abbrev Qgc {Γ : Prop} {ρ R : Type} {en : ρ → R} (a : QH) (k0 : Q6 → Pn Γ (lw 1 237) en) : Pn Γ (lw 1 237) en := p1 (loopAt pp 237 2) (Gz a) (JV a) GA (fun _ => JV.ok) k0
def Fw (C0 : QjE) (L1 : Qaf) (h0 : Qb) : Option (Qd × Qb) := ((L1 (QH.mk h0.P h0 (Qd.mk (0 : Int) (0 : Int) s_ ([] : List Qd)))).bind (fun (o1 : Q6) => (bif (decide (0 ≤ o1.x3 ∧ o1.x3 ≤ o1.h0.P ∧ o1.h0.P ≤ ((o1.h0.S.size : Nat) : Int))) then ((C0 (o1.h0.S.extract (Int.toNat o1.x3) (Int.toNat o1.h0.P))).bind fun r2 => (bif (!r2) then (some ((Qd.mk (2 : Int) (0 : Int) (o1.h0.S.extract (Int.toNat o1.x3) (Int.toNat o1.h0.P)) ([] : List Qd)),(Qb.mk o1.h0.S o1.h0.P o1.h0.Deep true))) else (some ((Qd.mk (2 : Int) (0 : Int) (o1.h0.S.extract (Int.toNat o1.x3) (Int.toNat o1.h0.P)) ([] : List Qd)),o1.h0)))) else none)))
noncomputable def VT : GL := Fw Zb JV
theorem VT.eq (h0 : Qb) : VT h0 = Fw Zb JV h0 := rfl
noncomputable def QjK (h0 : Qb) : Pn True (lw 1 237) Jb := (Qgc (QH.mk h0.P h0 (Qd.mk i0 i0 s_ ([] : List Qd))) (fun o1 => (let u138 := (in2 o1.x3 o1.h0.P (zz o1.h0.S)); pA u138 (Qm2 (cu o1.h0.S o1.x3 o1.h0.P) fun r2 => (pA (!r2) (pY u138 (fun g => g.1.2) (pR ((Qd.mk (zi 2) i0 (cu o1.h0.S o1.x3 o1.h0.P) ([] : List Qd)),(Qb.mk o1.h0.S o1.h0.P o1.h0.Deep true)))) (pY u138 (fun g => g.1.2) (pR ((Qd.mk (zi 2) i0 (cu o1.h0.S o1.x3 o1.h0.P) ([] : List Qd)),o1.h0))))) pF)))
theorem VT.ok {h0 : Qb} {r : (Qd × Qb)} (h : VT h0 = some r) : ww 237 [.ptr 0 0] [(0,.box [] (QU h0))] = some (Jb r) := fnQ (QjK h0) h
noncomputable abbrev Qcp {Γ : Prop} {lp : Loops} {ρ R : Type} {en : ρ → R} (h0 : Qb) (k : (Qd × Qb) → Pn Γ lp en) : Pn Γ lp en := pC (ww 237 [.ptr 0 0] [(0,.box [] (QU h0))]) (VT h0) Jb (fun _ => VT.ok) k
def Qhi (r : (ByteArray × Int)) : AV × Heap := (.tup [xs r.1,xi r.2],[])
abbrev Qpr := Int → Option (ByteArray × Int)
def Qhj (a0 : Int) : Option (ByteArray × Int) := (bif (a0 == 5) then (some (h_2b,(3 : Int))) else (bif (a0 == 6) then (some (h_2d,(3 : Int))) else (bif (a0 == 7) then (some (h_2a,(4 : Int))) else (bif (a0 == 8) then (some (h_26,(1 : Int))) else (bif (a0 == 9) then (some (h_7c,(0 : Int))) else (bif (a0 == 10) then (some (QtZ,(2 : Int))) else (some (Qt0,(2 : Int)))))))))
noncomputable def Gq : Qpr := Qhj
theorem Gq.eq (a0 : Int) : Gq a0 = Qhj a0 := rfl
noncomputable def Quw (a0 : Int) : Pn True (lw 0 104) Qhi := (pA (a0 == 5) (pR (h_2b,(zi 3))) (pA (a0 == 6) (pR (h_2d,(zi 3))) (pA (a0 == 7) (pR (h_2a,(zi 4))) (pA (a0 == 8) (pR (h_26,(zi 1))) (pA (a0 == 9) (pR (h_7c,i0)) (pA (a0 == 10) (pR (QtZ,(zi 2))) (pR (Qt0,(zi 2)))))))))
theorem Gq.ok {a0 : Int} {r : (ByteArray × Int)} (h : Gq a0 = some r) : ww 104 [xi a0] [] = some (Qhi r) := fnQ (Quw a0) h
noncomputable abbrev Qux {Γ : Prop} {lp : Loops} {ρ R : Type} {en : ρ → R} (a0 : Int) (k : (ByteArray × Int) → Pn Γ lp en) : Pn Γ lp en := pC (ww 104 [xi a0] []) (Gq a0) Qhi (fun _ => Gq.ok) k
def Fx (r : (Int × Qb)) : AV × Heap := (xi r.1,[(0,.box [] (QU r.2))])
abbrev GM := Int → Qb → Option (Int × Qb)
structure Jd where
 x1 : Int
 x5 : Int
 h0 : Qb
structure UJ where
 x4 : Int
 h0 : Qb
def GB (a : Jd) : St := { n := 33,nx := 1,env := [(0,.ptr 0 0),(1,xi a.x1),(5,xi a.x5)],heap := [(0,.box [] (QU a.h0))] }
def PK (a : UJ) : Ex × St := (.ret,{ n := 33,nx := 1,env := [(4,xi a.x4)],heap := [(0,.box [] (QU a.h0))] })
def PL (a : Qb) : Ex × St := (.exit 0,{ n := 33,nx := 1,env := [],heap := [(0,.box [] (QU a))] })
def PZ : (UJ ⊕ Qb) → Ex × St := Sum.elim PK PL
abbrev Qag := Jd → Option (UJ ⊕ Qb)
def Y4 (C0 : Qpr) (C1 : X2) (a : Jd) : Option (Jd ⊕ (UJ ⊕ Qb)) := (bif (decide (a.x5 ≤ 11)) then ((C0 a.x5).bind fun r1 => (bif (r1.2 == a.x1) then (bif (!a.h0.Bad) then ((C1 r1.1 a.h0).bind fun r2 => (bif r2.1 then (some (.inr (.inl (UJ.mk a.x5 r2.2)))) else (some (.inl (Jd.mk a.x1 (w64 (a.x5 + 1)) r2.2))))) else (some (.inl (Jd.mk a.x1 (w64 (a.x5 + 1)) a.h0)))) else (some (.inl (Jd.mk a.x1 (w64 (a.x5 + 1)) a.h0))))) else (some (.inr (.inr a.h0))))
noncomputable def Q7 : Qag := loopW (Y4 Gq Vq)
theorem Q7.eq (a : Jd) : Q7 a = (Y4 Gq Vq a).bind (Sum.elim Q7 some) := QK _ _
noncomputable def Qgd (a : Jd) : Pn True (lw 1 207) (Sum.elim (fun a => (Ex.norm,GB a)) PZ) := (pA (decide (a.x5 ≤ 11)) (Qux a.x5 fun r1 => (let u140 := (r1.2 == a.x1); pA u140 (pYN 5 u140 (fun g => g.2) (let u139 := (!a.h0.Bad); pA u139 (pYN 2 u139 (fun g => g.2) (YF r1.1 a.h0 fun r2 => (pY u139 (fun g => g.2) (pA r2.1 (pR (.inr (.inl (UJ.mk a.x5 r2.2)))) (pR (.inl (Jd.mk a.x1 (w64 (a.x5 + 1)) r2.2))))))) (pNN 3 u139 (fun g => g.2) (pV false rfl (pR (.inl (Jd.mk a.x1 (w64 (a.x5 + 1)) a.h0))))))) (pNN 5 u140 (fun g => g.2) (pNN 5 false (fun _ => rfl) (pR (.inl (Jd.mk a.x1 (w64 (a.x5 + 1)) a.h0))))))) (pR (.inr (.inr a.h0))))
theorem Q7.ok {a : Jd} {r : (UJ ⊕ Qb)} (h : Q7 a = some r) : lw 1 207 (loopAt pp 207 2) (GB a) = some (PZ r) := lpQ Qgd h
noncomputable abbrev Qge {Γ : Prop} {ρ R : Type} {en : ρ → R} (a : Jd) (k0 : UJ → Pn Γ (lw 1 207) en) (k1 : Qb → Pn Γ (lw 1 207) en) : Pn Γ (lw 1 207) en := p2 (loopAt pp 207 2) (GB a) (Q7 a) PK PL (fun _ => Q7.ok) k0 k1
def Fy (L0 : Qag) (a1 : Int) (h0 : Qb) : Option (Int × Qb) := ((L0 (Jd.mk a1 (5 : Int) h0)).bind fun x => Sum.elim (fun (o1 : UJ) => (some (o1.x4,o1.h0))) (fun (o2 : Qb) => (some ((0 : Int),o2))) x)
noncomputable def VU : GM := Fy Q7
theorem VU.eq (a1 : Int) (h0 : Qb) : VU a1 h0 = Fy Q7 a1 h0 := rfl
noncomputable def QjL (a1 : Int) (h0 : Qb) : Pn True (lw 1 207) Fx := (Qge (Jd.mk a1 (zi 5) h0) (fun o1 => (pR (o1.x4,o1.h0))) (fun o2 => (pR (i0,o2))))
theorem VU.ok {a1 : Int} {h0 : Qb} {r : (Int × Qb)} (h : VU a1 h0 = some r) : ww 207 [.ptr 0 0,xi a1] [(0,.box [] (QU h0))] = some (Fx r) := fnQ (QjL a1 h0) h
noncomputable abbrev QjM {Γ : Prop} {lp : Loops} {ρ R : Type} {en : ρ → R} (a1 : Int) (h0 : Qb) (k : (Int × Qb) → Pn Γ lp en) : Pn Γ lp en := pC (ww 207 [.ptr 0 0,xi a1] [(0,.box [] (QU h0))]) (VU a1 h0) Fx (fun _ => VU.ok) k
abbrev X6 := Bool → Qb → Option (Qd × Qb)
abbrev Fz (c : X6) : Prop := ∀ (a1 : Bool) (h0 : Qb) (r : (Qd × Qb)),c a1 h0 = some r → ww 234 [.ptr 0 0,xo a1] [(0,.box [] (QU h0))] = some (Jb r)
abbrev WA := Qb → Option (Qd × Qb)
abbrev EA (c : WA) : Prop := ∀ (h0 : Qb) (r : (Qd × Qb)),c h0 = some r → ww 206 [.ptr 0 0] [(0,.box [] (QU h0))] = some (Jb r)
abbrev Jf := Int → Qb → Option (Qd × Qb)
abbrev YG (c : Jf) : Prop := ∀ (a1 : Int) (h0 : Qb) (r : (Qd × Qb)),c a1 h0 = some r → ww 159 [.ptr 0 0,xi a1] [(0,.box [] (QU h0))] = some (Jb r)
noncomputable abbrev Qa4 {Γ : Prop} {lp : Loops} {ρ R : Type} {en : ρ → R} (c : X6) (i : Fz c) (a1 : Bool) (h0 : Qb) (k : (Qd × Qb) → Pn Γ lp en) : Pn Γ lp en := pC (ww 234 [.ptr 0 0,xo a1] [(0,.box [] (QU h0))]) (c a1 h0) Jb (fun _ => i a1 h0 _) k
noncomputable abbrev Qc7 {Γ : Prop} {lp : Loops} {ρ R : Type} {en : ρ → R} (c : WA) (i : EA c) (h0 : Qb) (k : (Qd × Qb) → Pn Γ lp en) : Pn Γ lp en := pC (ww 206 [.ptr 0 0] [(0,.box [] (QU h0))]) (c h0) Jb (fun _ => i h0 _) k
noncomputable abbrev PM {Γ : Prop} {lp : Loops} {ρ R : Type} {en : ρ → R} (c : Jf) (i : YG c) (a1 : Int) (h0 : Qb) (k : (Qd × Qb) → Pn Γ lp en) : Pn Γ lp en := pC (ww 159 [.ptr 0 0,xi a1] [(0,.box [] (QU h0))]) (c a1 h0) Jb (fun _ => i a1 h0 _) k
def XZ (C0 : Jf) (C1 : X2) (C2 : WA) (a1 : Bool) (h0 : Qb) : Option (Qd × Qb) := (bif (decide (h0.Deep ≥ 12)) then (some ((Qd.mk (0 : Int) (0 : Int) s_ ([] : List Qd)),(Qb.mk h0.S h0.P h0.Deep true))) else (bif a1 then ((C0 (0 : Int) (Qb.mk h0.S h0.P (w64 (h0.Deep + 1)) h0.Bad)).bind fun r1 => ((C1 h_29 r1.2).bind fun r2 => (bif (!r2.1) then (some (r1.1,(Qb.mk r2.2.S r2.2.P (w64 (r2.2.Deep - 1)) true))) else (some (r1.1,(Qb.mk r2.2.S r2.2.P (w64 (r2.2.Deep - 1)) r2.2.Bad)))))) else ((C2 (Qb.mk h0.S h0.P (w64 (h0.Deep + 1)) h0.Bad)).bind fun r3 => (some ((Qd.mk (4 : Int) (0 : Int) s_ [r3.1]),(Qb.mk r3.2.S r3.2.P (w64 (r3.2.Deep - 1)) r3.2.Bad))))))
theorem Qa5 {C0 : Nat → Jf} {D0 : Jf} (H0 : Cv2 C0 D0) {C1 : Nat → X2} {D1 : X2} (H1 : Cv2 C1 D1) {C2 : Nat → WA} {D2 : WA} (H2 : Cv1 C2 D2) (a1 : Bool) (h0 : Qb) : Cv (fun k => XZ (C0 k) (C1 k) (C2 k) a1 h0) (XZ D0 D1 D2 a1 h0) := by
 unfold XZ
 exact .cond cst (.cond (.bind (H0 _ _) fun r1 => .bind (H1 _ _) fun r2 => by exact .const _) (.bind (H2 _) fun r3 => by exact .const _))
noncomputable def QiA (C0 : Jf) (i_r3_reader_two : YG C0) (C1 : WA) (i_r3_reader_one : EA C1) (a1 : Bool) (h0 : Qb) : Pn True (lw 1 234) Jb := (pA (decide (h0.Deep ≥ 12)) (pR ((Qd.mk i0 i0 s_ ([] : List Qd)),(Qb.mk h0.S h0.P h0.Deep true))) (pA a1 (PM C0 i_r3_reader_two i0 (Qb.mk h0.S h0.P (w64 (h0.Deep + 1)) h0.Bad) fun r1 => (YF h_29 r1.2 fun r2 => (pA (!r2.1) (pR (r1.1,(Qb.mk r2.2.S r2.2.P (w64 (r2.2.Deep - 1)) true))) (pR (r1.1,(Qb.mk r2.2.S r2.2.P (w64 (r2.2.Deep - 1)) r2.2.Bad)))))) (Qc7 C1 i_r3_reader_one (Qb.mk h0.S h0.P (w64 (h0.Deep + 1)) h0.Bad) fun r3 => (pZ [[xi r3.1.Kind,xi r3.1.N,xs r3.1.Name,.sl (We r3.1.L)]] (We [r3.1]) (P7 [r3.1]) (pR ((Qd.mk (zi 4) i0 s_ [r3.1]),(Qb.mk r3.2.S r3.2.P (w64 (r3.2.Deep - 1)) r3.2.Bad)))))))
def Xg (C0 : X2) (C1 : X6) (C2 : ZK) (C3 : Qad) (C4 : GL) (h0 : Qb) : Option (Qd × Qb) := (bif h0.Bad then (some ((Qd.mk (0 : Int) (0 : Int) s_ ([] : List Qd)),h0)) else ((C0 h_28 h0).bind fun r1 => (bif r1.1 then ((C1 true r1.2).bind fun r2 => (some (r2.1,r2.2))) else ((C0 h_2d r1.2).bind fun r3 => (bif r3.1 then ((C1 false r3.2).bind fun r4 => (some (r4.1,r4.2))) else ((C0 h_2e r3.2).bind fun r5 => (bif r5.1 then (some ((Qd.mk (3 : Int) (0 : Int) s_ ([] : List Qd)),r5.2)) else ((C0 s_0x r5.2).bind fun r6 => (bif r6.1 then ((C2 (16 : Int) r6.2).bind fun r7 => (some (r7.1,r7.2))) else (bif (decide (r6.2.P < ((r6.2.S.size : Nat) : Int))) then (bif (decide (0 ≤ r6.2.P ∧ r6.2.P < ((r6.2.S.size : Nat) : Int))) then ((C3 ((r6.2.S.data.getD (Int.toNat r6.2.P) 0).toNat : Int) (10 : Int)).bind fun r8 => (bif (decide (r8 ≥ 0)) then ((C2 (10 : Int) r6.2).bind fun r9 => (some (r9.1,r9.2))) else ((C4 r6.2).bind fun r10 => (some (r10.1,r10.2))))) else none) else ((C4 r6.2).bind fun r11 => (some (r11.1,r11.2)))))))))))))
theorem Qc8 {C0 : Nat → X2} {D0 : X2} (H0 : Cv2 C0 D0) {C1 : Nat → X6} {D1 : X6} (H1 : Cv2 C1 D1) {C2 : Nat → ZK} {D2 : ZK} (H2 : Cv2 C2 D2) {C3 : Nat → Qad} {D3 : Qad} (H3 : Cv2 C3 D3) {C4 : Nat → GL} {D4 : GL} (H4 : Cv1 C4 D4) (h0 : Qb) : Cv (fun k => Xg (C0 k) (C1 k) (C2 k) (C3 k) (C4 k) h0) (Xg D0 D1 D2 D3 D4 h0) := by
 unfold Xg
 exact .cond cst (.bind (H0 _ _) fun r1 => .cond (.bind (H1 _ _) fun r2 => by exact .const _) (.bind (H0 _ _) fun r3 => .cond (.bind (H1 _ _) fun r4 => by exact .const _) (.bind (H0 _ _) fun r5 => .cond cst (.bind (H0 _ _) fun r6 => .cond (.bind (H2 _ _) fun r7 => by exact .const _) (.cond (.cond (.bind (H3 _ _) fun r8 => .cond (.bind (H2 _ _) fun r9 => by exact .const _) (.bind (H4 _) fun r10 => by exact .const _)) cst) (.bind (H4 _) fun r11 => by exact .const _))))))
noncomputable def QkQ (C0 : X6) (i_r3_reader_inner : Fz C0) (h0 : Qb) : Pn True (lw 1 206) Jb := (pA h0.Bad (pR ((Qd.mk i0 i0 s_ ([] : List Qd)),h0)) (YF h_28 h0 fun r1 => (pA r1.1 (Qa4 C0 i_r3_reader_inner true r1.2 fun r2 => (pR (r2.1,r2.2))) (YF h_2d r1.2 fun r3 => (pA r3.1 (Qa4 C0 i_r3_reader_inner false r3.2 fun r4 => (pR (r4.1,r4.2))) (YF h_2e r3.2 fun r5 => (pA r5.1 (pR ((Qd.mk (zi 3) i0 s_ ([] : List Qd)),r5.2)) (YF s_0x r5.2 fun r6 => (pA r6.1 (Qae (zi 16) r6.2 fun r7 => (pR (r7.1,r7.2))) (let u141 := (decide (r6.2.P < (zz r6.2.S))); pA u141 (pYN 8 u141 (fun g => g.2) (pA (in1 r6.2.P (zz r6.2.S)) (pY u141 (fun g => g.1.2) (Qfj (gb r6.2.S r6.2.P) (zi 10) fun r8 => (pYN 2 u141 (fun g => g.1.2) (pA (decide (r8 ≥ 0)) (Qae (zi 10) r6.2 fun r9 => (pR (r9.1,r9.2))) (Qcp r6.2 fun r10 => (pR (r10.1,r10.2))))))) pF)) (pNN 11 u141 (fun g => g.2) (pV false rfl (Qcp r6.2 fun r11 => (pR (r11.1,r11.2)))))))))))))))
structure Jn where
 x1 : Int
 h0 : Qb
 h1 : Qd
 h2 : Qd
structure VC where
 h0 : Qb
 h1 : Qd
def GY (a : Jn) : St := { n := 29,nx := 3,env := [(0,.ptr 0 0),(1,xi a.x1),(4,.ptr 1 0),(5,.ptr 2 0)],heap := [(0,.box [] (QU a.h0)),(1,.box [] (Jg a.h1)),(2,.box [] (Jg a.h2))] }
def GZ (a : VC) : Ex × St := (.ret,{ n := 29,nx := 2,env := [(4,.ptr 1 0)],heap := [(0,.box [] (QU a.h0)),(1,.box [] (Jg a.h1))] })
abbrev VJ := Jn → Option VC
def W2 (C0 : GM) (C1 : Jf) (a : Jn) : Option (Jn ⊕ VC) := ((C0 a.x1 a.h0).bind fun r1 => (bif (r1.1 == 0) then (some (.inr (VC.mk r1.2 a.h2))) else ((C1 (w64 (a.x1 + 1)) r1.2).bind fun r2 => (some (.inl (Jn.mk a.x1 r2.2 a.h1 (Qd.mk r1.1 (0 : Int) s_ [a.h2,r2.1])))))))
theorem Qah {C0 : Nat → GM} {D0 : GM} (H0 : Cv2 C0 D0) {C1 : Nat → Jf} {D1 : Jf} (H1 : Cv2 C1 D1) (a : Jn) : Cv (fun k => W2 (C0 k) (C1 k) a) (W2 D0 D1 a) := by
 unfold W2
 exact .bind (H0 _ _) fun r1 => .cond cst (.bind (H1 _ _) fun r2 => by exact .const _)
abbrev EI (l : VJ) : Prop := ∀ (a : Jn) (r : VC),l a = some r → lw 1 159 (loopAt pp 159 4) (GY a) = some (GZ r)
end Go.Ab
