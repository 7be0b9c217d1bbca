/- LineKnown: part 2 of the proof that, whatever the input, the law returns true and the input reads as it did; its conditions are those of the given row. -/
import Derived.Test.YtblfhkldljfhiaaGreatDoorZLineKnown1
import Derived.Test.YtblfhkldljfhiaaGreatDoorProg
set_option linter.unusedVariables false
set_option linter.unusedSimpArgs false
namespace Go.Ab
open Go.Proofs
def P8 (x : Int) : List AV := [.sc (.int .i64 x)]
def JX (l : List Int) : List (List AV) := l.map P8
theorem W6 (l : List Int) : l.map P8 = JX l := rfl
theorem Qam (l m : List Int) : JX l ++ JX m = JX (l ++ m) := by simp only [← W6, List.map_append]
theorem Qb6 {l : List Int} {n : Nat} {a : Int} (h : l[n]? = some a) : (JX l)[n]? = some (P8 a) := by rw [← W6]; exact rows_get h
theorem Qb7 (l : List Int) : (JX l).all (fun r => r.length == 1) = true := by rw [← W6]; exact rows_all (C := P8) (fun _ => rfl) l
theorem EI (l : List Int) : (JX l).length = l.length := by rw [← W6, List.length_map]
def Jp (x : ByteArray) : List AV := [.sc (.string x)]
def Qi (l : List ByteArray) : List (List AV) := l.map Jp
theorem JD (l : List ByteArray) : l.map Jp = Qi l := rfl
theorem P9 (l m : List ByteArray) : Qi l ++ Qi m = Qi (l ++ m) := by simp only [← JD, List.map_append]
theorem Qan (l : List ByteArray) (i : Nat) (a : ByteArray) : (Qi l).set i (Jp a) = Qi (l.set i a) := by simp only [← JD, List.map_set]
theorem J9 {l : List ByteArray} {n : Nat} {a : ByteArray} (h : l[n]? = some a) : (Qi l)[n]? = some (Jp a) := by rw [← JD]; exact rows_get h
theorem Xd (l : List ByteArray) : (Qi l).all (fun r => r.length == 1) = true := by rw [← JD]; exact rows_all (C := Jp) (fun _ => rfl) l
theorem QD (l : List ByteArray) : (Qi l).length = l.length := by rw [← JD, List.length_map]
structure Qc where
  Kind : Int
  N : Int
  Name : ByteArray
  L : (List Qc)
deriving Inhabited
mutual
def Sa : Qc → List AV
  | ⟨x0, x1, x2, x3⟩ => [.sc (.int .i64 x0), .sc (.int .i64 x1), .sc (.string x2), .sl (JY x3)]
def JY : List Qc → List (List AV)
  | [] => []
  | x :: l => Sa x :: JY l
end
def QQ (x : Qc) : List AV := [.sc (.int .i64 x.Kind), .sc (.int .i64 x.N), .sc (.string x.Name), .sl (JY x.L)]
theorem YQ (l : List Qc) : l.map QQ = JY l := by
  induction l with
  | nil => rw [JY]; rfl
  | cons x l ih => rw [JY, List.map_cons, ih]; congr 1; cases x; rw [Sa]; rfl
theorem Z3 {l : List Qc} {n : Nat} {a : Qc} (h : l[n]? = some a) : (JY l)[n]? = some (QQ a) := by rw [← YQ]; exact rows_get h
theorem E0 (l : List Qc) : (JY l).length = l.length := by rw [← YQ, List.length_map]
structure Qj where
  Reg : Int
  E : Qc
deriving Inhabited
def Wf (x : Qj) : List AV := [.sc (.int .i64 x.Reg), .sc (.int .i64 x.E.Kind), .sc (.int .i64 x.E.N), .sc (.string x.E.Name), .sl (JY x.E.L)]
def Qm (l : List Qj) : List (List AV) := l.map Wf
theorem Wg (l : List Qj) : l.map Wf = Qm l := rfl
theorem Eh (l m : List Qj) : Qm l ++ Qm m = Qm (l ++ m) := by simp only [← Wg, List.map_append]
theorem FN {l : List Qj} {n : Nat} {a : Qj} (h : l[n]? = some a) : (Qm l)[n]? = some (Wf a) := by rw [← Wg]; exact rows_get h
theorem FO (l : List Qj) : (Qm l).all (fun r => r.length == 5) = true := by rw [← Wg]; exact rows_all (C := Wf) (fun _ => rfl) l
theorem J5 (l : List Qj) : (Qm l).length = l.length := by rw [← Wg, List.length_map]
structure Qe where
  Line : Int
  Label : ByteArray
  Kind : Int
  Op : Int
  Text : ByteArray
  Args : (List Qj)
deriving Inhabited
def JA (x : Qe) : List AV := [.sc (.int .i64 x.Line), .sc (.string x.Label), .sc (.int .i64 x.Kind), .sc (.int .i64 x.Op), .sc (.string x.Text), .sl (Qm x.Args)]
def JZ (l : List Qe) : List (List AV) := l.map JA
theorem W8 (l : List Qe) : l.map JA = JZ l := rfl
theorem PM (l m : List Qe) : JZ l ++ JZ m = JZ (l ++ m) := by simp only [← W8, List.map_append]
theorem SC (l : List Qe) : (JZ l).all (fun r => r.length == 6) = true := by rw [← W8]; exact rows_all (C := JA) (fun _ => rfl) l
theorem Z4 (l : List Qe) : (JZ l).length = l.length := by rw [← W8, List.length_map]
structure Qb where
  x : Qe
deriving Inhabited
structure Qd where
  name : ByteArray
  bits : Int
  kinds : ByteArray
deriving Inhabited
def Ut (x : Qd) : List AV := [.sc (.string x.name), .sc (.int .u32 x.bits), .sc (.string x.kinds)]
def U7 (l : List Qd) : List (List AV) := l.map Ut
theorem GO (l : List Qd) : l.map Ut = U7 l := rfl
theorem GP {l : List Qd} {n : Nat} {a : Qd} (h : l[n]? = some a) : (U7 l)[n]? = some (Ut a) := by rw [← GO]; exact rows_get h
theorem GQ (l : List Qd) : (U7 l).length = l.length := by rw [← GO, List.length_map]
def Pb (x : Nat) : List AV := [.fn (.func x) [] []]
def Ji (l : List Nat) : List (List AV) := l.map Pb
theorem XF (l : List Nat) : l.map Pb = Ji l := rfl
theorem GR (l m : List Nat) : Ji l ++ Ji m = Ji (l ++ m) := by simp only [← XF, List.map_append]
theorem QbG {l : List Nat} {n : Nat} {a : Nat} (h : l[n]? = some a) : (Ji l)[n]? = some (Pb a) := by rw [← XF]; exact rows_get h
theorem Fx (l : List Nat) : (Ji l).all (fun r => r.length == 1) = true := by rw [← XF]; exact rows_all (C := Pb) (fun _ => rfl) l
theorem WU (l : List Nat) : (Ji l).length = l.length := by rw [← XF, List.length_map]
structure Qa where
  left : ByteArray
  deep : Int
  bad : Bool
deriving Inhabited
def Qh (x : Qa) : List AV := [.sc (.string x.left), .sc (.int .i64 x.deep), .sc (.bool x.bad)]
def Pc (x : (List Int)) : List AV := [.sl (JX x)]
def GA (l : List (List Int)) : List (List AV) := l.map Pc
theorem Fy (l : List (List Int)) : l.map Pc = GA l := rfl
theorem Sb {l : List (List Int)} {n : Nat} {a : (List Int)} (h : l[n]? = some a) : (GA l)[n]? = some (Pc a) := by rw [← Fy]; exact rows_get h
theorem QbH (l : List (List Int)) : (GA l).length = l.length := by rw [← Fy, List.length_map]
def JQ : ByteArray := ⟨#[9, 98, 9, 46, 9, 35]⟩
def h_0a : ByteArray := ⟨#[10]⟩
def h_20 : ByteArray := ⟨#[32]⟩
def Vw : ByteArray := ⟨#[32, 9]⟩
def Xe : ByteArray := ⟨#[32, 88, 32, 89, 32, 68, 32, 65, 32, 66, 32]⟩
def h_22 : ByteArray := ⟨#[34]⟩
def Ua : ByteArray := ⟨#[35, 32, 97, 108, 108]⟩
def h_26 : ByteArray := ⟨#[38]⟩
def h_28 : ByteArray := ⟨#[40]⟩
def h_29 : ByteArray := ⟨#[41]⟩
def h_2a : ByteArray := ⟨#[42]⟩
def h_2b : ByteArray := ⟨#[43]⟩
def h_2c : ByteArray := ⟨#[44]⟩
def UH : ByteArray := ⟨#[44, 32]⟩
def h_2d : ByteArray := ⟨#[45]⟩
def h_2e : ByteArray := ⟨#[46]⟩
def JL : ByteArray := ⟨#[46, 97, 108, 105, 103, 110]⟩
def Qq : ByteArray := ⟨#[46, 97, 108, 105, 103, 110, 32, 52]⟩
def YR : ByteArray := ⟨#[46, 97, 115, 99, 105, 105]⟩
def Ja : ByteArray := ⟨#[46, 97, 115, 99, 105, 105, 32, 34, 97]⟩
def Qg : ByteArray := ⟨#[46, 97, 115, 99, 105, 105, 32, 34, 97, 32, 35, 32, 98, 34]⟩
def Qy : ByteArray := ⟨#[46, 97, 115, 99, 105, 105, 32, 34, 97, 34, 44, 32, 34, 98, 34]⟩
def QI : ByteArray := ⟨#[46, 98, 121, 116, 101]⟩
def QU : ByteArray := ⟨#[46, 98, 121, 116, 101, 32, 49, 44, 32, 50, 44]⟩
def GT : ByteArray := ⟨#[46, 101, 113, 117]⟩
def Jb : ByteArray := ⟨#[46, 101, 113, 117, 32, 53, 44, 32, 107]⟩
def Qo : ByteArray := ⟨#[46, 101, 113, 117, 32, 107, 44, 32, 53]⟩
def Q3 : ByteArray := ⟨#[46, 101, 113, 117, 32, 114, 49, 44, 32, 53]⟩
def Jq : ByteArray := ⟨#[46, 104, 97, 108, 102]⟩
def Jt : ByteArray := ⟨#[46, 108, 111, 110, 103]⟩
def JR : ByteArray := ⟨#[46, 115, 112, 97, 99, 101]⟩
def Jv : ByteArray := ⟨#[46, 119, 111, 114, 100, 32, 49]⟩
def h_3a : ByteArray := ⟨#[58]⟩
def Pd : ByteArray := ⟨#[60, 60]⟩
def Pe : ByteArray := ⟨#[62, 62]⟩
def h_3f : ByteArray := ⟨#[63]⟩
def Ui : ByteArray := ⟨#[65, 32, 68, 32, 66]⟩
def JV : ByteArray := ⟨#[65, 32, 68, 32, 67, 56]⟩
def Uj : ByteArray := ⟨#[68, 32, 65, 32, 66]⟩
def Yj : ByteArray := ⟨#[68, 32, 65, 32, 67, 56]⟩
def Xf : ByteArray := ⟨#[68, 32, 65, 32, 83, 49, 54]⟩
def YJ : ByteArray := ⟨#[68, 32, 76, 50, 48]⟩
def Qw : ByteArray := ⟨#[68, 32, 83, 49, 54, 32, 65]⟩
def WA : ByteArray := ⟨#[79, 49, 32, 73, 50, 32, 84, 56]⟩
def J0 : ByteArray := ⟨#[79, 50, 32, 73, 52, 32, 84, 49, 53]⟩
def US : ByteArray := ⟨#[88, 32, 79, 53]⟩
def Jj : ByteArray := ⟨#[88, 32, 85, 53]⟩
def Zs : ByteArray := ⟨#[88, 32, 85, 55]⟩
def Q6 : ByteArray := ⟨#[88, 32, 89]⟩
def U1 : ByteArray := ⟨#[89, 32, 77, 49, 32, 88]⟩
def U2 : ByteArray := ⟨#[89, 32, 77, 50, 32, 88]⟩
def U3 : ByteArray := ⟨#[89, 32, 77, 52, 32, 88]⟩
def Vr : ByteArray := ⟨#[97, 32, 58]⟩
def Jr : ByteArray := ⟨#[97, 58]⟩
def Jw : ByteArray := ⟨#[97, 58, 32, 98, 58, 32, 99]⟩
def Qu : ByteArray := ⟨#[97, 58, 32, 115, 101, 95, 98, 108, 114]⟩
def Jl : ByteArray := ⟨#[97, 58, 115, 101, 95, 98, 108, 114]⟩
def JG : ByteArray := ⟨#[98, 32, 46]⟩
def Q2 : ByteArray := ⟨#[98, 32, 98]⟩
def Qs : ByteArray := ⟨#[98, 32, 108, 111, 111, 112]⟩
def Jx : ByteArray := ⟨#[98, 99, 32, 49, 44, 32, 50]⟩
def Qk : ByteArray := ⟨#[98, 99, 32, 49, 44, 32, 50, 44, 32, 46]⟩
def Qf : ByteArray := ⟨#[101, 95, 108, 119, 122, 32, 114, 49, 44, 32, 45, 52, 44, 32, 114, 50]⟩
def Uu : ByteArray := ⟨#[103, 111, 58, 32, 115, 101, 95, 97, 100, 100, 32, 114, 51, 44, 32, 114, 52]⟩
def Uk : ByteArray := ⟨#[103, 111, 58, 32, 115, 101, 95, 97, 100, 100, 32, 114, 51, 44, 32, 114, 52, 32, 35, 32, 115, 117, 109]⟩
def Q4 : ByteArray := ⟨#[114, 49, 58, 32, 115, 101, 95, 98, 108, 114]⟩
def QB : ByteArray := ⟨#[115, 101, 95, 97, 100, 100, 32, 114, 48, 51, 44, 32, 114, 52]⟩
def Jc : ByteArray := ⟨#[115, 101, 95, 97, 100, 100, 32, 114, 51]⟩
def QM : ByteArray := ⟨#[115, 101, 95, 97, 100, 100, 32, 114, 51, 32, 114, 52]⟩
def Qp : ByteArray := ⟨#[115, 101, 95, 97, 100, 100, 32, 114, 51, 44, 32, 114, 52]⟩
def QN : ByteArray := ⟨#[115, 101, 95, 97, 100, 100, 32, 114, 51, 44, 114, 52]⟩
def QC : ByteArray := ⟨#[115, 101, 95, 97, 100, 100, 32, 114, 51, 50, 44, 32, 114, 52]⟩
def Jm : ByteArray := ⟨#[115, 101, 95, 98, 108, 114, 32, 49]⟩
def Q5 : ByteArray := ⟨#[115, 101, 95, 108, 105, 32, 51, 44, 32, 49]⟩
def Ql : ByteArray := ⟨#[115, 101, 95, 108, 105, 32, 114, 51, 44, 32, 49, 32, 43, 32, 49]⟩
def QL : ByteArray := ⟨#[115, 101, 95, 108, 105, 32, 114, 51, 44, 32, 49, 43, 49]⟩
def h_7c : ByteArray := ⟨#[124]⟩
def s_ : ByteArray := ⟨#[]⟩
def s_0x : ByteArray := ⟨#[48, 120]⟩
def Z8 : ByteArray := ⟨#[84, 50, 52]⟩
def s_T8 : ByteArray := ⟨#[84, 56]⟩
def s_X : ByteArray := ⟨#[88]⟩
def Sc : ByteArray := ⟨#[97, 100, 100]⟩
def Sd : ByteArray := ⟨#[97, 110, 100]⟩
def s_b : ByteArray := ⟨#[98]⟩
def s_bc : ByteArray := ⟨#[98, 99]⟩
def s_bl : ByteArray := ⟨#[98, 108]⟩
def Zt : ByteArray := ⟨#[101, 95, 97, 100, 100, 49, 54, 105]⟩
def Ei : ByteArray := ⟨#[101, 95, 97, 100, 100, 105]⟩
def Ej : ByteArray := ⟨#[101, 95, 97, 110, 100, 105]⟩
def Se : ByteArray := ⟨#[101, 95, 98]⟩
def Pf : ByteArray := ⟨#[101, 95, 98, 99]⟩
def E1 : ByteArray := ⟨#[101, 95, 98, 99, 108]⟩
def Pg : ByteArray := ⟨#[101, 95, 98, 108]⟩
def E2 : ByteArray := ⟨#[101, 95, 108, 98, 122]⟩
def E3 : ByteArray := ⟨#[101, 95, 108, 104, 97]⟩
def E4 : ByteArray := ⟨#[101, 95, 108, 104, 122]⟩
def Ph : ByteArray := ⟨#[101, 95, 108, 105]⟩
def E5 : ByteArray := ⟨#[101, 95, 108, 119, 122]⟩
def E6 : ByteArray := ⟨#[101, 95, 111, 114, 105]⟩
def E7 : ByteArray := ⟨#[101, 95, 115, 116, 98]⟩
def E8 : ByteArray := ⟨#[101, 95, 115, 116, 104]⟩
def E9 : ByteArray := ⟨#[101, 95, 115, 116, 119]⟩
def Ek : ByteArray := ⟨#[101, 95, 120, 111, 114, 105]⟩
def s_go : ByteArray := ⟨#[103, 111]⟩
def Fa : ByteArray := ⟨#[109, 117, 108, 108, 119]⟩
def X7 : ByteArray := ⟨#[110, 111, 112]⟩
def s_or : ByteArray := ⟨#[111, 114]⟩
def s_r : ByteArray := ⟨#[114]⟩
def s_r4 : ByteArray := ⟨#[114, 52]⟩
def El : ByteArray := ⟨#[115, 101, 95, 97, 100, 100]⟩
def GB : ByteArray := ⟨#[115, 101, 95, 97, 100, 100, 105]⟩
def Em : ByteArray := ⟨#[115, 101, 95, 97, 110, 100]⟩
def GC : ByteArray := ⟨#[115, 101, 95, 97, 110, 100, 99]⟩
def Pi : ByteArray := ⟨#[115, 101, 95, 98]⟩
def Fb : ByteArray := ⟨#[115, 101, 95, 98, 99]⟩
def Zu : ByteArray := ⟨#[115, 101, 95, 98, 99, 108, 114, 105]⟩
def GD : ByteArray := ⟨#[115, 101, 95, 98, 99, 116, 114]⟩
def Fc : ByteArray := ⟨#[115, 101, 95, 98, 108]⟩
def QR : ByteArray := ⟨#[115, 101, 95, 98, 108, 114]⟩
def Zv : ByteArray := ⟨#[115, 101, 95, 98, 115, 101, 116, 105]⟩
def Zw : ByteArray := ⟨#[115, 101, 95, 98, 116, 115, 116, 105]⟩
def En : ByteArray := ⟨#[115, 101, 95, 99, 109, 112]⟩
def GE : ByteArray := ⟨#[115, 101, 95, 99, 109, 112, 105]⟩
def GF : ByteArray := ⟨#[115, 101, 95, 99, 109, 112, 108]⟩
def Zx : ByteArray := ⟨#[115, 101, 95, 99, 109, 112, 108, 105]⟩
def Zy : ByteArray := ⟨#[115, 101, 95, 101, 120, 116, 115, 98]⟩
def Zz : ByteArray := ⟨#[115, 101, 95, 101, 120, 116, 115, 104]⟩
def ZA : ByteArray := ⟨#[115, 101, 95, 101, 120, 116, 122, 98]⟩
def ZB : ByteArray := ⟨#[115, 101, 95, 101, 120, 116, 122, 104]⟩
def YK : ByteArray := ⟨#[115, 101, 95, 105, 108, 108, 101, 103, 97, 108]⟩
def ZC : ByteArray := ⟨#[115, 101, 95, 105, 115, 121, 110, 99]⟩
def Eo : ByteArray := ⟨#[115, 101, 95, 108, 98, 122]⟩
def Ep : ByteArray := ⟨#[115, 101, 95, 108, 104, 122]⟩
def Fd : ByteArray := ⟨#[115, 101, 95, 108, 105]⟩
def Eq : ByteArray := ⟨#[115, 101, 95, 108, 119, 122]⟩
def ZD : ByteArray := ⟨#[115, 101, 95, 109, 102, 99, 116, 114]⟩
def GG : ByteArray := ⟨#[115, 101, 95, 109, 102, 108, 114]⟩
def Fe : ByteArray := ⟨#[115, 101, 95, 109, 114]⟩
def ZE : ByteArray := ⟨#[115, 101, 95, 109, 116, 99, 116, 114]⟩
def GH : ByteArray := ⟨#[115, 101, 95, 109, 116, 108, 114]⟩
def ZF : ByteArray := ⟨#[115, 101, 95, 109, 117, 108, 108, 119]⟩
def Er : ByteArray := ⟨#[115, 101, 95, 110, 101, 103]⟩
def Es : ByteArray := ⟨#[115, 101, 95, 110, 111, 116]⟩
def Ff : ByteArray := ⟨#[115, 101, 95, 111, 114]⟩
def Fg : ByteArray := ⟨#[115, 101, 95, 115, 99]⟩
def GI : ByteArray := ⟨#[115, 101, 95, 115, 108, 119, 105]⟩
def GJ : ByteArray := ⟨#[115, 101, 95, 115, 114, 119, 105]⟩
def Et : ByteArray := ⟨#[115, 101, 95, 115, 116, 98]⟩
def Eu : ByteArray := ⟨#[115, 101, 95, 115, 116, 104]⟩
def Ev : ByteArray := ⟨#[115, 101, 95, 115, 116, 119]⟩
def Ew : ByteArray := ⟨#[115, 101, 95, 115, 117, 98]⟩
def GK : ByteArray := ⟨#[115, 101, 95, 115, 117, 98, 105]⟩
def Pj : ByteArray := ⟨#[115, 117, 98, 102]⟩
def Sf : ByteArray := ⟨#[120, 111, 114]⟩
def anT : List (Nat × List (Nat × Ann)) := [
  (8, [(11, { keep := [12, 13], out := [], res := [8], own := [(11, 1)], full := false })]),
  (26, [(15, { keep := [1, 3, 4, 40, 41, 42], out := [1, 3, 4], res := [2], own := [(4, 1)], full := false })]),
  (31, [(2, { keep := [2, 3, 9, 10, 11], out := [2, 3], res := [2, 3], own := [(2, 6), (3, 1)], full := false })]),
  (71, [(3, { keep := [0, 3, 4], out := [], res := [2], own := [], full := false })]),
  (72, [(2, { keep := [0, 1, 5], out := [5], res := [4], own := [], full := false })]),
  (83, [(5, { keep := [0, 3, 4], out := [3], res := [2], own := [], full := false })]),
  (116, [(1, { keep := [0, 1], out := [0], res := [4], own := [], full := false })]),
  (123, [(5, { keep := [3, 10, 11], out := [3], res := [2], own := [(3, 1)], full := true })]),
  (125, [(3, { keep := [0, 1, 5, 14, 15, 16], out := [1, 5], res := [4], own := [(5, 200)], full := false })]),
  (126, [(2, { keep := [0, 1, 7, 8], out := [], res := [4], own := [], full := false })]),
  (127, [(3, { keep := [0, 1, 5, 6], out := [5], res := [4], own := [], full := false })]),
  (128, [(3, { keep := [0, 5, 6, 7], out := [5], res := [4], own := [(5, 200)], full := false })]),
  (175, [(2, { keep := [0, 1, 7, 8], out := [], res := [4], own := [], full := false })]),
  (215, [(5, { keep := [0, 1, 4, 5, 6], out := [4, 5], res := [4], own := [], full := false })]),
  (244, [(2, { keep := [0, 7, 8, 9], out := [], res := [4], own := [], full := false })]),
  (266, [(2, { keep := [0, 1, 8], out := [0], res := [4], own := [], full := false })]),
  (269, [(3, { keep := [0, 1, 2, 6, 7, 12], out := [0, 1, 6, 7], res := [6], own := [], full := false })])]
def kdT : List (Nat × List Nat) := [(37, [0, 0, 0, 0, 0, 5]), (56, [129, 131, 178]), (60, [0, 1]), (113, [0, 0, 0, 0, 0, 5])]
def extT : List (Nat × (List AV → Heap → Option (AV × Heap))) := [(69, joinX), (70, indexByteX), (74, trimX), (77, (cloneF 5 64)), (79, splitX), (80, (cloneF 6 80)), (81, (cloneV 8)), (93, itoaX), (145, fieldsX), (177, containsX), (241, atoiX)]
def G : Cfg := { ext := fun f => get f extT, an := fun f r => ((get f anT).bind (get r)).getD {}, kd := fun t => (get t kdT).getD [] }
def XG (r : (List ByteArray)) : AV × Heap := (.arr 0, [(0, .arr false 1 (Qi r))])
def Uh.s : Nat → ByteArray → ByteArray → Option (List ByteArray)
  | 0, _, _ => none
  | _ + 1, a0, a1 => splitS a0 a1
theorem Uh.ok : ∀ (k : Nat), ∀ (a0 : ByteArray) (a1 : ByteArray) (r : (List ByteArray)), Uh.s k a0 a1 = some r → evalFn Tryz.prog G k 79 [.sc (.string a0), .sc (.string a1)] [] = some (XG r)
  | 0, _, _, _, h => (nomatch h)
  | k + 1, a0, a1, r, h => split_ok h
noncomputable def Uh (a0 : ByteArray) (a1 : ByteArray) : Option (List ByteArray) := splitS a0 a1
theorem Uh.mono (k : Nat) (a0 : ByteArray) (a1 : ByteArray) : Le (Uh.s k a0 a1) (Uh.s (k + 1) a0 a1) := by
  cases k with
  | zero => exact fun r h => nomatch h
  | succ k => exact Le.refl _
def Yz (r : Int) : AV × Heap := (.sc (.int .i64 r), [])
def Up.s : Nat → ByteArray → Int → Option Int
  | 0, _, _ => none
  | _ + 1, a0, a1 => indexByteS a0 a1
theorem Up.ok : ∀ (k : Nat), ∀ (a0 : ByteArray) (a1 : Int) (r : Int), Up.s k a0 a1 = some r → evalFn Tryz.prog G k 70 [.sc (.string a0), .sc (.int .u8 a1)] [] = some (Yz r)
  | 0, _, _, _, h => (nomatch h)
  | k + 1, a0, a1, r, h => indexByte_ok h
noncomputable def Up (a0 : ByteArray) (a1 : Int) : Option Int := indexByteS a0 a1
theorem Up.mono (k : Nat) (a0 : ByteArray) (a1 : Int) : Le (Up.s k a0 a1) (Up.s (k + 1) a0 a1) := by
  cases k with
  | zero => exact fun r h => nomatch h
  | succ k => exact Le.refl _
def Ue (r : ByteArray) : AV × Heap := (.sc (.string r), [])
def JE.s : Nat → ByteArray → ByteArray → Option ByteArray
  | 0, _, _ => none
  | _ + 1, a0, a1 => trimS2 a0 a1
theorem JE.ok : ∀ (k : Nat), ∀ (a0 : ByteArray) (a1 : ByteArray) (r : ByteArray), JE.s k a0 a1 = some r → evalFn Tryz.prog G k 74 [.sc (.string a0), .sc (.string a1)] [] = some (Ue r)
  | 0, _, _, _, h => (nomatch h)
  | k + 1, a0, a1, r, h => trim_ok h
theorem JE.mono (k : Nat) (a0 : ByteArray) (a1 : ByteArray) : Le (JE.s k a0 a1) (JE.s (k + 1) a0 a1) := by
  cases k with
  | zero => exact fun r h => nomatch h
  | succ k => exact Le.refl _
def Zc (r : ByteArray) : AV × Heap := (.sc (.string r), [])
structure QS where
  x0 : ByteArray
  x3 : Bool
  x4 : Int
def Vf (a : QS) : St := { n := 31, nx := 0, env := [(0, .sc (.string a.x0)), (3, .sc (.bool a.x3)), (4, .sc (.int .i64 a.x4))], heap := [] }
def W9 (a : ByteArray) : Ex × St := (.ret, { n := 31, nx := 0, env := [(2, .sc (.string a))], heap := [] })
def YS (C0 : ByteArray → ByteArray → Option ByteArray) (a : QS) : Option (QS ⊕ ByteArray) := (bif (a.x4 == ((a.x0.size : Nat) : Int)) then (bif (decide (0 ≤ (0 : Int) ∧ (0 : Int) ≤ a.x4 ∧ a.x4 ≤ ((a.x0.size : Nat) : Int))) then ((C0 (a.x0.extract (Int.toNat (0 : Int)) (Int.toNat a.x4)) Vw).bind fun (r1 : ByteArray) => (some (.inr r1))) else none) else (bif (decide (0 ≤ a.x4 ∧ a.x4 < ((a.x0.size : Nat) : Int))) then (bif (((a.x0.data.getD (Int.toNat a.x4) 0).toNat : Int) == (35 : Int)) then (bif (!a.x3) then (bif (decide (0 ≤ (0 : Int) ∧ (0 : Int) ≤ a.x4 ∧ a.x4 ≤ ((a.x0.size : Nat) : Int))) then ((C0 (a.x0.extract (Int.toNat (0 : Int)) (Int.toNat a.x4)) Vw).bind fun (r2 : ByteArray) => (some (.inr r2))) else none) else (bif (((a.x0.data.getD (Int.toNat a.x4) 0).toNat : Int) == (34 : Int)) then (some (.inl (QS.mk a.x0 (!a.x3) (w64 (a.x4 + (1 : Int)))))) else (some (.inl (QS.mk a.x0 a.x3 (w64 (a.x4 + (1 : Int)))))))) else (bif (((a.x0.data.getD (Int.toNat a.x4) 0).toNat : Int) == (34 : Int)) then (some (.inl (QS.mk a.x0 (!a.x3) (w64 (a.x4 + (1 : Int)))))) else (some (.inl (QS.mk a.x0 a.x3 (w64 (a.x4 + (1 : Int)))))))) else none))
def YT (P : Program) (call : CallF) (C0 : ByteArray → ByteArray → Option ByteArray) (a : QS) : Tr (QS ⊕ ByteArray) (Ex × St) := (.as (a.x4 == ((a.x0.size : Nat) : Int)) (yesN 6 (a.x4 == ((a.x0.size : Nat) : Int)) (.yes true (.as (decide (0 ≤ (0 : Int) ∧ (0 : Int) ≤ a.x4 ∧ a.x4 ≤ ((a.x0.size : Nat) : Int))) (.call (call 74 [.sc (.string (a.x0.extract (Int.toNat (0 : Int)) (Int.toNat a.x4))), .sc (.string Vw)] []) (C0 (a.x0.extract (Int.toNat (0 : Int)) (Int.toNat a.x4)) Vw) Ue fun (r1 : ByteArray) => (rx W9 r1)) .fail))) (noN 2 (a.x4 == ((a.x0.size : Nat) : Int)) (.as (decide (0 ≤ a.x4 ∧ a.x4 < ((a.x0.size : Nat) : Int))) (noN 2 (a.x4 == ((a.x0.size : Nat) : Int)) (.as (((a.x0.data.getD (Int.toNat a.x4) 0).toNat : Int) == (35 : Int)) (.yes (((a.x0.data.getD (Int.toNat a.x4) 0).toNat : Int) == (35 : Int)) (.no (a.x4 == ((a.x0.size : Nat) : Int)) (.yes (((a.x0.data.getD (Int.toNat a.x4) 0).toNat : Int) == (35 : Int)) (.no (a.x4 == ((a.x0.size : Nat) : Int)) (.as (!a.x3) (.as (decide (0 ≤ (0 : Int) ∧ (0 : Int) ≤ a.x4 ∧ a.x4 ≤ ((a.x0.size : Nat) : Int))) (.call (call 74 [.sc (.string (a.x0.extract (Int.toNat (0 : Int)) (Int.toNat a.x4))), .sc (.string Vw)] []) (C0 (a.x0.extract (Int.toNat (0 : Int)) (Int.toNat a.x4)) Vw) Ue fun (r2 : ByteArray) => (rx W9 r2)) .fail) (.yes (decide (0 ≤ a.x4 ∧ a.x4 < ((a.x0.size : Nat) : Int))) (.as (((a.x0.data.getD (Int.toNat a.x4) 0).toNat : Int) == (34 : Int)) (lf Vf (QS.mk a.x0 (!a.x3) (w64 (a.x4 + (1 : Int))))) (lf Vf (QS.mk a.x0 a.x3 (w64 (a.x4 + (1 : Int)))))))))))) (.no (((a.x0.data.getD (Int.toNat a.x4) 0).toNat : Int) == (35 : Int)) (.no (a.x4 == ((a.x0.size : Nat) : Int)) (.no (((a.x0.data.getD (Int.toNat a.x4) 0).toNat : Int) == (35 : Int)) (.no (a.x4 == ((a.x0.size : Nat) : Int)) (.no false (.yes (decide (0 ≤ a.x4 ∧ a.x4 < ((a.x0.size : Nat) : Int))) (.as (((a.x0.data.getD (Int.toNat a.x4) 0).toNat : Int) == (34 : Int)) (lf Vf (QS.mk a.x0 (!a.x3) (w64 (a.x4 + (1 : Int))))) (lf Vf (QS.mk a.x0 a.x3 (w64 (a.x4 + (1 : Int)))))))))))))) .fail)))
theorem SD (call : CallF) (C0 : ByteArray → ByteArray → Option ByteArray) (a : QS) : (YT Tryz.prog call C0 a).norm (roundT Tryz.prog G.kd call 0 (G.an 71) (loopAt Tryz.prog 71 3) (Vf a)) = YT Tryz.prog call C0 a := by kernel_rfl
theorem SE (P : Program) (call : CallF) (lp : Loops) (C0 : ByteArray → ByteArray → Option ByteArray) (K0 : ∀ (a0 : ByteArray) (a1 : ByteArray) (r : ByteArray), C0 a0 a1 = some r → (call 74 [.sc (.string a0), .sc (.string a1)] []) = some (Ue r)) (a : QS) : (YT P call C0 a).ok lp (Sum.elim (fun a => (.norm, Vf a)) W9) := ⟨rfl, fun hq0 => yesN_ok 6 (hq0) (⟨rfl, ⟨rfl, fun hq1 => fun r1 hr1 => ⟨K0 _ _ _ hr1, rfl⟩, fun hq1 => trivial⟩⟩), fun hq0 => noN_ok 2 (hq0) (⟨rfl, fun hq1 => noN_ok 2 (hq0) (⟨rfl, fun hq2 => ⟨hq2, ⟨hq0, ⟨hq2, ⟨hq0, ⟨rfl, fun hq3 => ⟨rfl, fun hq4 => fun r2 hr2 => ⟨K0 _ _ _ hr2, rfl⟩, fun hq4 => trivial⟩, fun hq3 => ⟨hq1, ⟨rfl, fun hq4 => rfl, fun hq4 => rfl⟩⟩⟩⟩⟩⟩⟩, fun hq2 => ⟨hq2, ⟨hq0, ⟨hq2, ⟨hq0, ⟨rfl, ⟨hq1, ⟨rfl, fun hq3 => rfl, fun hq3 => rfl⟩⟩⟩⟩⟩⟩⟩⟩), fun hq1 => trivial⟩)⟩
theorem SF {C0 : Nat → ByteArray → ByteArray → Option ByteArray} {D0 : ByteArray → ByteArray → Option ByteArray} (H0 : ∀ (a0 : ByteArray) (a1 : ByteArray), Cv (fun k => C0 k a0 a1) (D0 a0 a1)) (a : QS) : Cv (fun k => YS (C0 k) a) (YS D0 a) := by
  unfold YS
  exact .cond (.cond (.bind (H0 _ _) fun r1 => by exact .const _) (by exact .const _)) (.cond (.cond (.cond (.cond (.bind (H0 _ _) fun r2 => by exact .const _) (by exact .const _)) (by exact .const _)) (by exact .const _)) (by exact .const _))
def Xg.s (k : Nat) (C0 : ByteArray → ByteArray → Option ByteArray) : QS → Option ByteArray := iter (YS C0) k
theorem Sg (call : CallF) (k : Nat) (C0 : ByteArray → ByteArray → Option ByteArray) (K0 : ∀ (a0 : ByteArray) (a1 : ByteArray) (r : ByteArray), C0 a0 a1 = some r → (call 74 [.sc (.string a0), .sc (.string a1)] []) = some (Ue r)) (a : QS) (r : ByteArray) (h : Xg.s k C0 a = some r) : loopsF Tryz.prog G.kd call 0 (G.an 71) k (loopAt Tryz.prog 71 3) (Vf a) = some (W9 r) :=
  loop_ok (fun a => YT Tryz.prog call C0 a) (fun _ => rfl) (fun a => SD call _ a) (fun a => SE _ call _ _ K0 a) (fun r => nofun) h
theorem Xg.m {j k : Nat} (hj : j ≤ k) (C0 : ByteArray → ByteArray → Option ByteArray) (D0 : ByteArray → ByteArray → Option ByteArray) (H0 : ∀ (a0 : ByteArray) (a1 : ByteArray), Le (C0 a0 a1) (D0 a0 a1)) (a : QS) : Le (Xg.s j C0 a) (Xg.s k D0 a) := Le.iter (fun a => (SF (fun a0 a1 => .two (H0 a0 a1)) a).1 0) hj a
def Z9 (L0 : QS → Option ByteArray) (a0 : ByteArray) : Option ByteArray := ((L0 (QS.mk a0 false (0 : Int))).bind (fun (o1 : ByteArray) => (some o1)))
def Ga (P : Program) (call : CallF) (L0 : QS → Option ByteArray) (a0 : ByteArray) : Tr ByteArray (AV × Heap) := (.loop (loopAt P 71 3) (Vf (QS.mk a0 false (0 : Int))) (L0 (QS.mk a0 false (0 : Int))) W9 (fun (o1 : ByteArray) => (rt Zc o1)))
theorem Qa1 (call : CallF) (L0 : QS → Option ByteArray) (a0 : ByteArray) : (Ga Tryz.prog call L0 a0).norm (bodyT Tryz.prog call G 71 [.sc (.string a0)] []) = Ga Tryz.prog call L0 a0 := by kernel_rfl
theorem Qa2 (P : Program) (call : CallF) (lp : Loops) (L0 : QS → Option ByteArray) (N0 : ∀ (a : QS) (r : ByteArray), L0 a = some r → lp (loopAt P 71 3) (Vf a) = some (W9 r)) (a0 : ByteArray) : (Ga P call L0 a0).ok lp Zc := fun o1 ho1 => ⟨N0 _ _ ho1, rfl⟩
theorem Qa3 {L0 : Nat → QS → Option ByteArray} {M0 : QS → Option ByteArray} (N0 : ∀ a, Cv (fun k => L0 k a) (M0 a)) (a0 : ByteArray) : Cv (fun k => Z9 (L0 k) a0) (Z9 M0 a0) := by
  unfold Z9
  exact .bind (N0 _) (fun o1 => by exact .const _)
def XH.s : Nat → ByteArray → Option ByteArray
  | 0, _ => none
  | k + 1, a0 => Z9 (Xg.s k (fun a0 a1 => JE.s k a0 a1)) a0
theorem XH.ok : ∀ (k : Nat), ∀ (a0 : ByteArray) (r : ByteArray), XH.s k a0 = some r → evalFn Tryz.prog G k 71 [.sc (.string a0)] [] = some (Zc r)
  | 0, _, _, h => (nomatch h)
  | k + 1, a0, r, h => fn_ok rfl (Ga Tryz.prog (evalFn Tryz.prog G k) (Xg.s k (fun a0 a1 => JE.s k a0 a1)) a0) (Qa1 _ _ a0) (Qa2 _ _ _ _  (Sg _ k _ (JE.ok k)) a0) h
theorem XH.mono : ∀ (k : Nat) (a0 : ByteArray), Le (XH.s k a0) (XH.s (k + 1) a0)
  | 0, _ => fun r h => (nomatch h)
  | k + 1, a0 => (Qa3 (fun a => .two ((Xg.m (Nat.le_succ k) (fun a0 a1 => JE.s k a0 a1) (fun a0 a1 => JE.s (k + 1) a0 a1) (JE.mono k)) a)) a0).1 0
def U0 (r : Bool) : AV × Heap := (.sc (.bool r), [])
def Qao  (a0 : Int) : Option Bool := (bif (decide (a0 ≥ (48 : Int))) then (some (decide (a0 ≤ (57 : Int)))) else (some false))
def ZG (P : Program) (call : CallF)  (a0 : Int) : Tr Bool (AV × Heap) := (.as (decide (a0 ≥ (48 : Int))) (yesN 2 (decide (a0 ≥ (48 : Int))) (rt U0 (decide (a0 ≤ (57 : Int))))) (noN 2 (decide (a0 ≥ (48 : Int))) (rt U0 false)))
theorem Qap (call : CallF)  (a0 : Int) : (ZG Tryz.prog call  a0).norm (bodyT Tryz.prog call G 82 [.sc (.int .u8 a0)] []) = ZG Tryz.prog call  a0 := by kernel_rfl
theorem Qaq (P : Program) (call : CallF) (lp : Loops)   (a0 : Int) : (ZG P call  a0).ok lp U0 := ⟨rfl, fun hq0 => yesN_ok 2 (hq0) (rfl), fun hq0 => noN_ok 2 (hq0) (rfl)⟩
def Uc.s : Nat → Int → Option Bool
  | 0, _ => none
  | k + 1, a0 => Qao  a0
theorem Uc.ok : ∀ (k : Nat), ∀ (a0 : Int) (r : Bool), Uc.s k a0 = some r → evalFn Tryz.prog G k 82 [.sc (.int .u8 a0)] [] = some (U0 r)
  | 0, _, _, h => (nomatch h)
  | k + 1, a0, r, h => fn_ok rfl (ZG Tryz.prog (evalFn Tryz.prog G k)  a0) (Qap _  a0) (Qaq _ _ _    a0) h
theorem Uc.mono : ∀ (k : Nat) (a0 : Int), Le (Uc.s k a0) (Uc.s (k + 1) a0)
  | 0, _ => fun r h => (nomatch h)
  | k + 1, a0 => .refl _
def Vx (r : Bool) : AV × Heap := (.sc (.bool r), [])
def ZH (C0 : Int → Option Bool) (a0 : Int) : Option Bool := (bif (decide (a0 ≥ (97 : Int))) then (bif (decide (a0 ≤ (122 : Int))) then (some true) else (bif (a0 == (95 : Int)) then (some true) else ((C0 a0).bind fun (r1 : Bool) => (some r1)))) else (bif (a0 == (95 : Int)) then (some true) else ((C0 a0).bind fun (r2 : Bool) => (some r2))))
def ZI (P : Program) (call : CallF) (C0 : Int → Option Bool) (a0 : Int) : Tr Bool (AV × Heap) := (.as (decide (a0 ≥ (97 : Int))) (yesN 2 (decide (a0 ≥ (97 : Int))) (.as (decide (a0 ≤ (122 : Int))) (yesN 2 (decide (a0 ≤ (122 : Int))) (yesN 3 true (rt Vx true))) (noN 2 (decide (a0 ≤ (122 : Int))) (.as (a0 == (95 : Int)) (yesN 2 (a0 == (95 : Int)) (rt Vx true)) (.no (a0 == (95 : Int)) (.call (call 82 [.sc (.int .u8 a0)] []) (C0 a0) U0 fun (r1 : Bool) => (.no (a0 == (95 : Int)) (rt Vx r1)))))))) (noN 2 (decide (a0 ≥ (97 : Int))) (noN 3 false (.as (a0 == (95 : Int)) (yesN 2 (a0 == (95 : Int)) (rt Vx true)) (.no (a0 == (95 : Int)) (.call (call 82 [.sc (.int .u8 a0)] []) (C0 a0) U0 fun (r2 : Bool) => (.no (a0 == (95 : Int)) (rt Vx r2))))))))
theorem Qar (call : CallF) (C0 : Int → Option Bool) (a0 : Int) : (ZI Tryz.prog call C0 a0).norm (bodyT Tryz.prog call G 73 [.sc (.int .u8 a0)] []) = ZI Tryz.prog call C0 a0 := by kernel_rfl
theorem Qas (P : Program) (call : CallF) (lp : Loops) (C0 : Int → Option Bool) (K0 : ∀ (a0 : Int) (r : Bool), C0 a0 = some r → (call 82 [.sc (.int .u8 a0)] []) = some (U0 r)) (a0 : Int) : (ZI P call C0 a0).ok lp Vx := ⟨rfl, fun hq0 => yesN_ok 2 (hq0) (⟨rfl, fun hq1 => yesN_ok 2 (hq1) (yesN_ok 3 (rfl) (rfl)), fun hq1 => noN_ok 2 (hq1) (⟨rfl, fun hq2 => yesN_ok 2 (hq2) (rfl), fun hq2 => ⟨hq2, fun r1 hr1 => ⟨K0 _ _ hr1, ⟨hq2, rfl⟩⟩⟩⟩)⟩), fun hq0 => noN_ok 2 (hq0) (noN_ok 3 (rfl) (⟨rfl, fun hq1 => yesN_ok 2 (hq1) (rfl), fun hq1 => ⟨hq1, fun r2 hr2 => ⟨K0 _ _ hr2, ⟨hq1, rfl⟩⟩⟩⟩))⟩
theorem Qat {C0 : Nat → Int → Option Bool} {D0 : Int → Option Bool} (H0 : ∀ (a0 : Int), Cv (fun k => C0 k a0) (D0 a0)) (a0 : Int) : Cv (fun k => ZH (C0 k) a0) (ZH D0 a0) := by
  unfold ZH
  exact .cond (.cond (by exact .const _) (.cond (by exact .const _) (.bind (H0 _) fun r1 => by exact .const _))) (.cond (by exact .const _) (.bind (H0 _) fun r2 => by exact .const _))
def VT.s : Nat → Int → Option Bool
  | 0, _ => none
  | k + 1, a0 => ZH (fun a0 => Uc.s k a0) a0
theorem VT.ok : ∀ (k : Nat), ∀ (a0 : Int) (r : Bool), VT.s k a0 = some r → evalFn Tryz.prog G k 73 [.sc (.int .u8 a0)] [] = some (Vx r)
  | 0, _, _, h => (nomatch h)
  | k + 1, a0, r, h => fn_ok rfl (ZI Tryz.prog (evalFn Tryz.prog G k) (fun a0 => Uc.s k a0) a0) (Qar _ _ a0) (Qas _ _ _ _ (Uc.ok k)  a0) h
theorem VT.mono : ∀ (k : Nat) (a0 : Int), Le (VT.s k a0) (VT.s (k + 1) a0)
  | 0, _ => fun r h => (nomatch h)
  | k + 1, a0 => (Qat (fun a0 => .two ((Uc.mono k) a0)) a0).1 0
def Xh (r : Int) : AV × Heap := (.sc (.int .i64 r), [])
structure Q8 where
  x0 : ByteArray
  x5 : Int
def WF (a : Q8) : St := { n := 20, nx := 0, env := [(0, .sc (.string a.x0)), (1, .fn (.func 73) [] []), (5, .sc (.int .i64 a.x5))], heap := [] }
def WG (a : Int) : Ex × St := (.exit 0, { n := 20, nx := 0, env := [(5, .sc (.int .i64 a))], heap := [] })
def YA (C0 : Int → Option Bool) (a : Q8) : Option (Q8 ⊕ Int) := (bif (decide (a.x5 < ((a.x0.size : Nat) : Int))) then (bif (decide (0 ≤ a.x5 ∧ a.x5 < ((a.x0.size : Nat) : Int))) then ((C0 ((a.x0.data.getD (Int.toNat a.x5) 0).toNat : Int)).bind fun (r1 : Bool) => (bif r1 then (some (.inl (Q8.mk a.x0 (w64 (a.x5 + (1 : Int)))))) else (some (.inr a.x5)))) else none) else (some (.inr a.x5)))
def YB (P : Program) (call : CallF) (C0 : Int → Option Bool) (a : Q8) : Tr (Q8 ⊕ Int) (Ex × St) := (.as (decide (a.x5 < ((a.x0.size : Nat) : Int))) (yesN 3 (decide (a.x5 < ((a.x0.size : Nat) : Int))) (.as (decide (0 ≤ a.x5 ∧ a.x5 < ((a.x0.size : Nat) : Int))) (.yes (decide (a.x5 < ((a.x0.size : Nat) : Int))) (.call (call 73 [.sc (.int .u8 ((a.x0.data.getD (Int.toNat a.x5) 0).toNat : Int))] []) (C0 ((a.x0.data.getD (Int.toNat a.x5) 0).toNat : Int)) Vx fun (r1 : Bool) => (.yes (decide (a.x5 < ((a.x0.size : Nat) : Int))) (.as r1 (lf WF (Q8.mk a.x0 (w64 (a.x5 + (1 : Int))))) (rx WG a.x5))))) .fail)) (noN 5 (decide (a.x5 < ((a.x0.size : Nat) : Int))) (.no false (rx WG a.x5))))
theorem Si (call : CallF) (C0 : Int → Option Bool) (a : Q8) : (YB Tryz.prog call C0 a).norm (roundT Tryz.prog G.kd call 0 (G.an 72) (loopAt Tryz.prog 72 2) (WF a)) = YB Tryz.prog call C0 a := by kernel_rfl
theorem Sj (P : Program) (call : CallF) (lp : Loops) (C0 : Int → Option Bool) (K0 : ∀ (a0 : Int) (r : Bool), C0 a0 = some r → (call 73 [.sc (.int .u8 a0)] []) = some (Vx r)) (a : Q8) : (YB P call C0 a).ok lp (Sum.elim (fun a => (.norm, WF a)) WG) := ⟨rfl, fun hq0 => yesN_ok 3 (hq0) (⟨rfl, fun hq1 => ⟨hq0, fun r1 hr1 => ⟨K0 _ _ hr1, ⟨hq0, ⟨rfl, fun hq2 => rfl, fun hq2 => rfl⟩⟩⟩⟩, fun hq1 => trivial⟩), fun hq0 => noN_ok 5 (hq0) (⟨rfl, rfl⟩)⟩
theorem Sk {C0 : Nat → Int → Option Bool} {D0 : Int → Option Bool} (H0 : ∀ (a0 : Int), Cv (fun k => C0 k a0) (D0 a0)) (a : Q8) : Cv (fun k => YA (C0 k) a) (YA D0 a) := by
  unfold YA
  exact .cond (.cond (.bind (H0 _) fun r1 => by exact .const _) (by exact .const _)) (by exact .const _)
def WP.s (k : Nat) (C0 : Int → Option Bool) : Q8 → Option Int := iter (YA C0) k
theorem P6 (call : CallF) (k : Nat) (C0 : Int → Option Bool) (K0 : ∀ (a0 : Int) (r : Bool), C0 a0 = some r → (call 73 [.sc (.int .u8 a0)] []) = some (Vx r)) (a : Q8) (r : Int) (h : WP.s k C0 a = some r) : loopsF Tryz.prog G.kd call 0 (G.an 72) k (loopAt Tryz.prog 72 2) (WF a) = some (WG r) :=
  loop_ok (fun a => YB Tryz.prog call C0 a) (fun _ => rfl) (fun a => Si call _ a) (fun a => Sj _ call _ _ K0 a) (fun r => nofun) h
theorem WP.m {j k : Nat} (hj : j ≤ k) (C0 : Int → Option Bool) (D0 : Int → Option Bool) (H0 : ∀ (a0 : Int), Le (C0 a0) (D0 a0)) (a : Q8) : Le (WP.s j C0 a) (WP.s k D0 a) := Le.iter (fun a => (Sk (fun a0 => .two (H0 a0)) a).1 0) hj a
def ZJ (L0 : Q8 → Option Int) (a0 : ByteArray) : Option Int := ((L0 (Q8.mk a0 (0 : Int))).bind (fun (o1 : Int) => (some o1)))
def ZK (P : Program) (call : CallF) (L0 : Q8 → Option Int) (a0 : ByteArray) : Tr Int (AV × Heap) := (.loop (loopAt P 72 2) (WF (Q8.mk a0 (0 : Int))) (L0 (Q8.mk a0 (0 : Int))) WG (fun (o1 : Int) => (rt Xh o1)))
theorem Qau (call : CallF) (L0 : Q8 → Option Int) (a0 : ByteArray) : (ZK Tryz.prog call L0 a0).norm (bodyT Tryz.prog call G 72 [.sc (.string a0), .fn (.func 73) [] []] []) = ZK Tryz.prog call L0 a0 := by kernel_rfl
theorem Qav (P : Program) (call : CallF) (lp : Loops) (L0 : Q8 → Option Int) (N0 : ∀ (a : Q8) (r : Int), L0 a = some r → lp (loopAt P 72 2) (WF a) = some (WG r)) (a0 : ByteArray) : (ZK P call L0 a0).ok lp Xh := fun o1 ho1 => ⟨N0 _ _ ho1, rfl⟩
theorem Qaw {L0 : Nat → Q8 → Option Int} {M0 : Q8 → Option Int} (N0 : ∀ a, Cv (fun k => L0 k a) (M0 a)) (a0 : ByteArray) : Cv (fun k => ZJ (L0 k) a0) (ZJ M0 a0) := by
  unfold ZJ
  exact .bind (N0 _) (fun o1 => by exact .const _)
def Vg.s : Nat → ByteArray → Option Int
  | 0, _ => none
  | k + 1, a0 => ZJ (WP.s k (fun a0 => VT.s k a0)) a0
theorem Vg.ok : ∀ (k : Nat), ∀ (a0 : ByteArray) (r : Int), Vg.s k a0 = some r → evalFn Tryz.prog G k 72 [.sc (.string a0), .fn (.func 73) [] []] [] = some (Xh r)
  | 0, _, _, h => (nomatch h)
  | k + 1, a0, r, h => fn_ok rfl (ZK Tryz.prog (evalFn Tryz.prog G k) (WP.s k (fun a0 => VT.s k a0)) a0) (Qau _ _ a0) (Qav _ _ _ _  (P6 _ k _ (VT.ok k)) a0) h
theorem Vg.mono : ∀ (k : Nat) (a0 : ByteArray), Le (Vg.s k a0) (Vg.s (k + 1) a0)
  | 0, _ => fun r h => (nomatch h)
  | k + 1, a0 => (Qaw (fun a => .two ((WP.m (Nat.le_succ k) (fun a0 => VT.s k a0) (fun a0 => VT.s (k + 1) a0) (VT.mono k)) a)) a0).1 0
def Wp (r : Int) : AV × Heap := (.sc (.int .i64 r), [])
structure QV where
  x0 : ByteArray
  x5 : Int
def V8 (a : QV) : St := { n := 20, nx := 0, env := [(0, .sc (.string a.x0)), (1, .fn (.func 82) [] []), (5, .sc (.int .i64 a.x5))], heap := [] }
def V9 (a : Int) : Ex × St := (.exit 0, { n := 20, nx := 0, env := [(5, .sc (.int .i64 a))], heap := [] })
def X8 (C0 : Int → Option Bool) (a : QV) : Option (QV ⊕ Int) := (bif (decide (a.x5 < ((a.x0.size : Nat) : Int))) then (bif (decide (0 ≤ a.x5 ∧ a.x5 < ((a.x0.size : Nat) : Int))) then ((C0 ((a.x0.data.getD (Int.toNat a.x5) 0).toNat : Int)).bind fun (r1 : Bool) => (bif r1 then (some (.inl (QV.mk a.x0 (w64 (a.x5 + (1 : Int)))))) else (some (.inr a.x5)))) else none) else (some (.inr a.x5)))
def X9 (P : Program) (call : CallF) (C0 : Int → Option Bool) (a : QV) : Tr (QV ⊕ Int) (Ex × St) := (.as (decide (a.x5 < ((a.x0.size : Nat) : Int))) (yesN 3 (decide (a.x5 < ((a.x0.size : Nat) : Int))) (.as (decide (0 ≤ a.x5 ∧ a.x5 < ((a.x0.size : Nat) : Int))) (.yes (decide (a.x5 < ((a.x0.size : Nat) : Int))) (.call (call 82 [.sc (.int .u8 ((a.x0.data.getD (Int.toNat a.x5) 0).toNat : Int))] []) (C0 ((a.x0.data.getD (Int.toNat a.x5) 0).toNat : Int)) U0 fun (r1 : Bool) => (.yes (decide (a.x5 < ((a.x0.size : Nat) : Int))) (.as r1 (lf V8 (QV.mk a.x0 (w64 (a.x5 + (1 : Int))))) (rx V9 a.x5))))) .fail)) (noN 5 (decide (a.x5 < ((a.x0.size : Nat) : Int))) (.no false (rx V9 a.x5))))
theorem PN (call : CallF) (C0 : Int → Option Bool) (a : QV) : (X9 Tryz.prog call C0 a).norm (roundT Tryz.prog G.kd call 0 (G.an 72) (loopAt Tryz.prog 72 2) (V8 a)) = X9 Tryz.prog call C0 a := by kernel_rfl
theorem PO (P : Program) (call : CallF) (lp : Loops) (C0 : Int → Option Bool) (K0 : ∀ (a0 : Int) (r : Bool), C0 a0 = some r → (call 82 [.sc (.int .u8 a0)] []) = some (U0 r)) (a : QV) : (X9 P call C0 a).ok lp (Sum.elim (fun a => (.norm, V8 a)) V9) := ⟨rfl, fun hq0 => yesN_ok 3 (hq0) (⟨rfl, fun hq1 => ⟨hq0, fun r1 hr1 => ⟨K0 _ _ hr1, ⟨hq0, ⟨rfl, fun hq2 => rfl, fun hq2 => rfl⟩⟩⟩⟩, fun hq1 => trivial⟩), fun hq0 => noN_ok 5 (hq0) (⟨rfl, rfl⟩)⟩
theorem PP {C0 : Nat → Int → Option Bool} {D0 : Int → Option Bool} (H0 : ∀ (a0 : Int), Cv (fun k => C0 k a0) (D0 a0)) (a : QV) : Cv (fun k => X8 (C0 k) a) (X8 D0 a) := by
  unfold X8
  exact .cond (.cond (.bind (H0 _) fun r1 => by exact .const _) (by exact .const _)) (by exact .const _)
def VU.s (k : Nat) (C0 : Int → Option Bool) : QV → Option Int := iter (X8 C0) k
theorem Pk (call : CallF) (k : Nat) (C0 : Int → Option Bool) (K0 : ∀ (a0 : Int) (r : Bool), C0 a0 = some r → (call 82 [.sc (.int .u8 a0)] []) = some (U0 r)) (a : QV) (r : Int) (h : VU.s k C0 a = some r) : loopsF Tryz.prog G.kd call 0 (G.an 72) k (loopAt Tryz.prog 72 2) (V8 a) = some (V9 r) :=
  loop_ok (fun a => X9 Tryz.prog call C0 a) (fun _ => rfl) (fun a => PN call _ a) (fun a => PO _ call _ _ K0 a) (fun r => nofun) h
theorem VU.m {j k : Nat} (hj : j ≤ k) (C0 : Int → Option Bool) (D0 : Int → Option Bool) (H0 : ∀ (a0 : Int), Le (C0 a0) (D0 a0)) (a : QV) : Le (VU.s j C0 a) (VU.s k D0 a) := Le.iter (fun a => (PP (fun a0 => .two (H0 a0)) a).1 0) hj a
def YU (L0 : QV → Option Int) (a0 : ByteArray) : Option Int := ((L0 (QV.mk a0 (0 : Int))).bind (fun (o1 : Int) => (some o1)))
def YV (P : Program) (call : CallF) (L0 : QV → Option Int) (a0 : ByteArray) : Tr Int (AV × Heap) := (.loop (loopAt P 72 2) (V8 (QV.mk a0 (0 : Int))) (L0 (QV.mk a0 (0 : Int))) V9 (fun (o1 : Int) => (rt Wp o1)))
theorem SG (call : CallF) (L0 : QV → Option Int) (a0 : ByteArray) : (YV Tryz.prog call L0 a0).norm (bodyT Tryz.prog call G 72 [.sc (.string a0), .fn (.func 82) [] []] []) = YV Tryz.prog call L0 a0 := by kernel_rfl
theorem SH (P : Program) (call : CallF) (lp : Loops) (L0 : QV → Option Int) (N0 : ∀ (a : QV) (r : Int), L0 a = some r → lp (loopAt P 72 2) (V8 a) = some (V9 r)) (a0 : ByteArray) : (YV P call L0 a0).ok lp Wp := fun o1 ho1 => ⟨N0 _ _ ho1, rfl⟩
theorem SI {L0 : Nat → QV → Option Int} {M0 : QV → Option Int} (N0 : ∀ a, Cv (fun k => L0 k a) (M0 a)) (a0 : ByteArray) : Cv (fun k => YU (L0 k) a0) (YU M0 a0) := by
  unfold YU
  exact .bind (N0 _) (fun o1 => by exact .const _)
def UI.s : Nat → ByteArray → Option Int
  | 0, _ => none
  | k + 1, a0 => YU (VU.s k (fun a0 => Uc.s k a0)) a0
theorem UI.ok : ∀ (k : Nat), ∀ (a0 : ByteArray) (r : Int), UI.s k a0 = some r → evalFn Tryz.prog G k 72 [.sc (.string a0), .fn (.func 82) [] []] [] = some (Wp r)
  | 0, _, _, h => (nomatch h)
  | k + 1, a0, r, h => fn_ok rfl (YV Tryz.prog (evalFn Tryz.prog G k) (VU.s k (fun a0 => Uc.s k a0)) a0) (SG _ _ a0) (SH _ _ _ _  (Pk _ k _ (Uc.ok k)) a0) h
theorem UI.mono : ∀ (k : Nat) (a0 : ByteArray), Le (UI.s k a0) (UI.s (k + 1) a0)
  | 0, _ => fun r h => (nomatch h)
  | k + 1, a0 => (SI (fun a => .two ((VU.m (Nat.le_succ k) (fun a0 => Uc.s k a0) (fun a0 => Uc.s (k + 1) a0) (Uc.mono k)) a)) a0).1 0
def Uq (r : Bool) : AV × Heap := (.sc (.bool r), [])
def Gb (C0 : Int → Option Bool) (C1 : ByteArray → Option Int) (C2 : ByteArray → Option Int) (a0 : ByteArray) : Option Bool := (bif (eqS a0 s_) then (some false) else (bif (decide (((a0.size : Nat) : Int) > (12 : Int))) then (some false) else (bif (decide (0 ≤ (0 : Int) ∧ (0 : Int) < ((a0.size : Nat) : Int))) then ((C0 ((a0.data.getD (Int.toNat (0 : Int)) 0).toNat : Int)).bind fun (r1 : Bool) => (bif r1 then (some false) else ((C1 a0).bind fun (r2 : Int) => (bif (r2 != ((a0.size : Nat) : Int)) then (some false) else (bif (((a0.data.getD (Int.toNat (0 : Int)) 0).toNat : Int) != (114 : Int)) then (some true) else (bif (((a0.size : Nat) : Int) == (1 : Int)) then (some true) else (bif (decide (0 ≤ (1 : Int) ∧ (1 : Int) ≤ ((a0.size : Nat) : Int) ∧ ((a0.size : Nat) : Int) ≤ ((a0.size : Nat) : Int))) then ((C2 (a0.extract (Int.toNat (1 : Int)) (Int.toNat ((a0.size : Nat) : Int)))).bind fun (r3 : Int) => (some (r3 != (w64 (((a0.size : Nat) : Int) - (1 : Int)))))) else none))))))) else none)))
def Gc (P : Program) (call : CallF) (C0 : Int → Option Bool) (C1 : ByteArray → Option Int) (C2 : ByteArray → Option Int) (a0 : ByteArray) : Tr Bool (AV × Heap) := (.as (eqS a0 s_) (yesN 3 (eqS a0 s_) (yesN 11 true (rt Uq false))) (noN 3 (eqS a0 s_) (.as (decide (((a0.size : Nat) : Int) > (12 : Int))) (yesN 3 (decide (((a0.size : Nat) : Int) > (12 : Int))) (yesN 7 true (rt Uq false))) (.no (decide (((a0.size : Nat) : Int) > (12 : Int))) (.as (decide (0 ≤ (0 : Int) ∧ (0 : Int) < ((a0.size : Nat) : Int))) (.no (decide (((a0.size : Nat) : Int) > (12 : Int))) (.call (call 82 [.sc (.int .u8 ((a0.data.getD (Int.toNat (0 : Int)) 0).toNat : Int))] []) (C0 ((a0.data.getD (Int.toNat (0 : Int)) 0).toNat : Int)) U0 fun (r1 : Bool) => (.no (decide (((a0.size : Nat) : Int) > (12 : Int))) (.as r1 (yesN 5 r1 (.yes true (rt Uq false))) (.no r1 (.call (call 72 [.sc (.string a0), .fn (.func 73) [] []] []) (C1 a0) Xh fun (r2 : Int) => (noN 4 r1 (.as (r2 != ((a0.size : Nat) : Int)) (rt Uq false) (.yes (decide (0 ≤ (0 : Int) ∧ (0 : Int) < ((a0.size : Nat) : Int))) (.as (((a0.data.getD (Int.toNat (0 : Int)) 0).toNat : Int) != (114 : Int)) (yesN 3 (((a0.data.getD (Int.toNat (0 : Int)) 0).toNat : Int) != (114 : Int)) (yesN 8 true (rt Uq true))) (noN 3 (((a0.data.getD (Int.toNat (0 : Int)) 0).toNat : Int) != (114 : Int)) (.as (((a0.size : Nat) : Int) == (1 : Int)) (yesN 7 (((a0.size : Nat) : Int) == (1 : Int)) (rt Uq true)) (.no (((a0.size : Nat) : Int) == (1 : Int)) (.as (decide (0 ≤ (1 : Int) ∧ (1 : Int) ≤ ((a0.size : Nat) : Int) ∧ ((a0.size : Nat) : Int) ≤ ((a0.size : Nat) : Int))) (.no (((a0.size : Nat) : Int) == (1 : Int)) (.call (call 72 [.sc (.string (a0.extract (Int.toNat (1 : Int)) (Int.toNat ((a0.size : Nat) : Int)))), .fn (.func 82) [] []] []) (C2 (a0.extract (Int.toNat (1 : Int)) (Int.toNat ((a0.size : Nat) : Int)))) Wp fun (r3 : Int) => (noN 5 (((a0.size : Nat) : Int) == (1 : Int)) (rt Uq (r3 != (w64 (((a0.size : Nat) : Int) - (1 : Int)))))))) .fail)))))))))))))) .fail)))))
theorem Qa4 (call : CallF) (C0 : Int → Option Bool) (C1 : ByteArray → Option Int) (C2 : ByteArray → Option Int) (a0 : ByteArray) : (Gc Tryz.prog call C0 C1 C2 a0).norm (bodyT Tryz.prog call G 33 [.sc (.string a0)] []) = Gc Tryz.prog call C0 C1 C2 a0 := by kernel_rfl
theorem Qa5 (P : Program) (call : CallF) (lp : Loops) (C0 : Int → Option Bool) (C1 : ByteArray → Option Int) (C2 : ByteArray → Option Int) (K0 : ∀ (a0 : Int) (r : Bool), C0 a0 = some r → (call 82 [.sc (.int .u8 a0)] []) = some (U0 r)) (K1 : ∀ (a0 : ByteArray) (r : Int), C1 a0 = some r → (call 72 [.sc (.string a0), .fn (.func 73) [] []] []) = some (Xh r)) (K2 : ∀ (a0 : ByteArray) (r : Int), C2 a0 = some r → (call 72 [.sc (.string a0), .fn (.func 82) [] []] []) = some (Wp r)) (a0 : ByteArray) : (Gc P call C0 C1 C2 a0).ok lp Uq := ⟨rfl, fun hq0 => yesN_ok 3 (hq0) (yesN_ok 11 (rfl) (rfl)), fun hq0 => noN_ok 3 (hq0) (⟨rfl, fun hq1 => yesN_ok 3 (hq1) (yesN_ok 7 (rfl) (rfl)), fun hq1 => ⟨hq1, ⟨rfl, fun hq2 => ⟨hq1, fun r1 hr1 => ⟨K0 _ _ hr1, ⟨hq1, ⟨rfl, fun hq3 => yesN_ok 5 (hq3) (⟨rfl, rfl⟩), fun hq3 => ⟨hq3, fun r2 hr2 => ⟨K1 _ _ hr2, noN_ok 4 (hq3) (⟨rfl, fun hq4 => rfl, fun hq4 => ⟨hq2, ⟨rfl, fun hq5 => yesN_ok 3 (hq5) (yesN_ok 8 (rfl) (rfl)), fun hq5 => noN_ok 3 (hq5) (⟨rfl, fun hq6 => yesN_ok 7 (hq6) (rfl), fun hq6 => ⟨hq6, ⟨rfl, fun hq7 => ⟨hq6, fun r3 hr3 => ⟨K2 _ _ hr3, noN_ok 5 (hq6) (rfl)⟩⟩, fun hq7 => trivial⟩⟩⟩)⟩⟩⟩)⟩⟩⟩⟩⟩⟩, fun hq2 => trivial⟩⟩⟩)⟩
theorem Qa6 {C0 : Nat → Int → Option Bool} {D0 : Int → Option Bool} (H0 : ∀ (a0 : Int), Cv (fun k => C0 k a0) (D0 a0)) {C1 : Nat → ByteArray → Option Int} {D1 : ByteArray → Option Int} (H1 : ∀ (a0 : ByteArray), Cv (fun k => C1 k a0) (D1 a0)) {C2 : Nat → ByteArray → Option Int} {D2 : ByteArray → Option Int} (H2 : ∀ (a0 : ByteArray), Cv (fun k => C2 k a0) (D2 a0)) (a0 : ByteArray) : Cv (fun k => Gb (C0 k) (C1 k) (C2 k) a0) (Gb D0 D1 D2 a0) := by
  unfold Gb
  exact .cond (by exact .const _) (.cond (by exact .const _) (.cond (.bind (H0 _) fun r1 => .cond (by exact .const _) (.bind (H1 _) fun r2 => .cond (by exact .const _) (.cond (by exact .const _) (.cond (by exact .const _) (.cond (.bind (H2 _) fun r3 => by exact .const _) (by exact .const _)))))) (by exact .const _)))
def UO.s : Nat → ByteArray → Option Bool
  | 0, _ => none
  | k + 1, a0 => Gb (fun a0 => Uc.s k a0) (fun a0 => Vg.s k a0) (fun a0 => UI.s k a0) a0
theorem UO.ok : ∀ (k : Nat), ∀ (a0 : ByteArray) (r : Bool), UO.s k a0 = some r → evalFn Tryz.prog G k 33 [.sc (.string a0)] [] = some (Uq r)
  | 0, _, _, h => (nomatch h)
  | k + 1, a0, r, h => fn_ok rfl (Gc Tryz.prog (evalFn Tryz.prog G k) (fun a0 => Uc.s k a0) (fun a0 => Vg.s k a0) (fun a0 => UI.s k a0) a0) (Qa4 _ _ _ _ a0) (Qa5 _ _ _ _ _ _ (Uc.ok k) (Vg.ok k) (UI.ok k)  a0) h
theorem UO.mono : ∀ (k : Nat) (a0 : ByteArray), Le (UO.s k a0) (UO.s (k + 1) a0)
  | 0, _ => fun r h => (nomatch h)
  | k + 1, a0 => (Qa6 (fun a0 => .two ((Uc.mono k) a0)) (fun a0 => .two ((Vg.mono k) a0)) (fun a0 => .two ((UI.mono k) a0)) a0).1 0
def Xi (r : Bool) : AV × Heap := (.sc (.bool r), [])
def Qax  (a0 : Int) : Option Bool := (bif (a0 != (32 : Int)) then (some (a0 != (9 : Int))) else (some false))
def ZL (P : Program) (call : CallF)  (a0 : Int) : Tr Bool (AV × Heap) := (.as (a0 != (32 : Int)) (yesN 2 (a0 != (32 : Int)) (rt Xi (a0 != (9 : Int)))) (noN 2 (a0 != (32 : Int)) (rt Xi false)))
theorem Qay (call : CallF)  (a0 : Int) : (ZL Tryz.prog call  a0).norm (bodyT Tryz.prog call G 75 [.sc (.int .u8 a0)] []) = ZL Tryz.prog call  a0 := by kernel_rfl
theorem Qaz (P : Program) (call : CallF) (lp : Loops)   (a0 : Int) : (ZL P call  a0).ok lp Xi := ⟨rfl, fun hq0 => yesN_ok 2 (hq0) (rfl), fun hq0 => noN_ok 2 (hq0) (rfl)⟩
def VV.s : Nat → Int → Option Bool
  | 0, _ => none
  | k + 1, a0 => Qax  a0
theorem VV.ok : ∀ (k : Nat), ∀ (a0 : Int) (r : Bool), VV.s k a0 = some r → evalFn Tryz.prog G k 75 [.sc (.int .u8 a0)] [] = some (Xi r)
  | 0, _, _, h => (nomatch h)
  | k + 1, a0, r, h => fn_ok rfl (ZL Tryz.prog (evalFn Tryz.prog G k)  a0) (Qay _  a0) (Qaz _ _ _    a0) h
theorem VV.mono : ∀ (k : Nat) (a0 : Int), Le (VV.s k a0) (VV.s (k + 1) a0)
  | 0, _ => fun r h => (nomatch h)
  | k + 1, a0 => .refl _
def Wq (r : Int) : AV × Heap := (.sc (.int .i64 r), [])
structure QW where
  x0 : ByteArray
  x5 : Int
def Wa (a : QW) : St := { n := 20, nx := 0, env := [(0, .sc (.string a.x0)), (1, .fn (.func 75) [] []), (5, .sc (.int .i64 a.x5))], heap := [] }
def Wb (a : Int) : Ex × St := (.exit 0, { n := 20, nx := 0, env := [(5, .sc (.int .i64 a))], heap := [] })
def Ya (C0 : Int → Option Bool) (a : QW) : Option (QW ⊕ Int) := (bif (decide (a.x5 < ((a.x0.size : Nat) : Int))) then (bif (decide (0 ≤ a.x5 ∧ a.x5 < ((a.x0.size : Nat) : Int))) then ((C0 ((a.x0.data.getD (Int.toNat a.x5) 0).toNat : Int)).bind fun (r1 : Bool) => (bif r1 then (some (.inl (QW.mk a.x0 (w64 (a.x5 + (1 : Int)))))) else (some (.inr a.x5)))) else none) else (some (.inr a.x5)))
def Yb (P : Program) (call : CallF) (C0 : Int → Option Bool) (a : QW) : Tr (QW ⊕ Int) (Ex × St) := (.as (decide (a.x5 < ((a.x0.size : Nat) : Int))) (yesN 3 (decide (a.x5 < ((a.x0.size : Nat) : Int))) (.as (decide (0 ≤ a.x5 ∧ a.x5 < ((a.x0.size : Nat) : Int))) (.yes (decide (a.x5 < ((a.x0.size : Nat) : Int))) (.call (call 75 [.sc (.int .u8 ((a.x0.data.getD (Int.toNat a.x5) 0).toNat : Int))] []) (C0 ((a.x0.data.getD (Int.toNat a.x5) 0).toNat : Int)) Xi fun (r1 : Bool) => (.yes (decide (a.x5 < ((a.x0.size : Nat) : Int))) (.as r1 (lf Wa (QW.mk a.x0 (w64 (a.x5 + (1 : Int))))) (rx Wb a.x5))))) .fail)) (noN 5 (decide (a.x5 < ((a.x0.size : Nat) : Int))) (.no false (rx Wb a.x5))))
theorem PQ (call : CallF) (C0 : Int → Option Bool) (a : QW) : (Yb Tryz.prog call C0 a).norm (roundT Tryz.prog G.kd call 0 (G.an 72) (loopAt Tryz.prog 72 2) (Wa a)) = Yb Tryz.prog call C0 a := by kernel_rfl
theorem PR (P : Program) (call : CallF) (lp : Loops) (C0 : Int → Option Bool) (K0 : ∀ (a0 : Int) (r : Bool), C0 a0 = some r → (call 75 [.sc (.int .u8 a0)] []) = some (Xi r)) (a : QW) : (Yb P call C0 a).ok lp (Sum.elim (fun a => (.norm, Wa a)) Wb) := ⟨rfl, fun hq0 => yesN_ok 3 (hq0) (⟨rfl, fun hq1 => ⟨hq0, fun r1 hr1 => ⟨K0 _ _ hr1, ⟨hq0, ⟨rfl, fun hq2 => rfl, fun hq2 => rfl⟩⟩⟩⟩, fun hq1 => trivial⟩), fun hq0 => noN_ok 5 (hq0) (⟨rfl, rfl⟩)⟩
theorem PS {C0 : Nat → Int → Option Bool} {D0 : Int → Option Bool} (H0 : ∀ (a0 : Int), Cv (fun k => C0 k a0) (D0 a0)) (a : QW) : Cv (fun k => Ya (C0 k) a) (Ya D0 a) := by
  unfold Ya
  exact .cond (.cond (.bind (H0 _) fun r1 => by exact .const _) (by exact .const _)) (by exact .const _)
def VW.s (k : Nat) (C0 : Int → Option Bool) : QW → Option Int := iter (Ya C0) k
theorem Pl (call : CallF) (k : Nat) (C0 : Int → Option Bool) (K0 : ∀ (a0 : Int) (r : Bool), C0 a0 = some r → (call 75 [.sc (.int .u8 a0)] []) = some (Xi r)) (a : QW) (r : Int) (h : VW.s k C0 a = some r) : loopsF Tryz.prog G.kd call 0 (G.an 72) k (loopAt Tryz.prog 72 2) (Wa a) = some (Wb r) :=
  loop_ok (fun a => Yb Tryz.prog call C0 a) (fun _ => rfl) (fun a => PQ call _ a) (fun a => PR _ call _ _ K0 a) (fun r => nofun) h
theorem VW.m {j k : Nat} (hj : j ≤ k) (C0 : Int → Option Bool) (D0 : Int → Option Bool) (H0 : ∀ (a0 : Int), Le (C0 a0) (D0 a0)) (a : QW) : Le (VW.s j C0 a) (VW.s k D0 a) := Le.iter (fun a => (PS (fun a0 => .two (H0 a0)) a).1 0) hj a
def YW (L0 : QW → Option Int) (a0 : ByteArray) : Option Int := ((L0 (QW.mk a0 (0 : Int))).bind (fun (o1 : Int) => (some o1)))
def YX (P : Program) (call : CallF) (L0 : QW → Option Int) (a0 : ByteArray) : Tr Int (AV × Heap) := (.loop (loopAt P 72 2) (Wa (QW.mk a0 (0 : Int))) (L0 (QW.mk a0 (0 : Int))) Wb (fun (o1 : Int) => (rt Wq o1)))
theorem SJ (call : CallF) (L0 : QW → Option Int) (a0 : ByteArray) : (YX Tryz.prog call L0 a0).norm (bodyT Tryz.prog call G 72 [.sc (.string a0), .fn (.func 75) [] []] []) = YX Tryz.prog call L0 a0 := by kernel_rfl
theorem SK (P : Program) (call : CallF) (lp : Loops) (L0 : QW → Option Int) (N0 : ∀ (a : QW) (r : Int), L0 a = some r → lp (loopAt P 72 2) (Wa a) = some (Wb r)) (a0 : ByteArray) : (YX P call L0 a0).ok lp Wq := fun o1 ho1 => ⟨N0 _ _ ho1, rfl⟩
theorem SL {L0 : Nat → QW → Option Int} {M0 : QW → Option Int} (N0 : ∀ a, Cv (fun k => L0 k a) (M0 a)) (a0 : ByteArray) : Cv (fun k => YW (L0 k) a0) (YW M0 a0) := by
  unfold YW
  exact .bind (N0 _) (fun o1 => by exact .const _)
def VX.s : Nat → ByteArray → Option Int
  | 0, _ => none
  | k + 1, a0 => YW (VW.s k (fun a0 => VV.s k a0)) a0
theorem VX.ok : ∀ (k : Nat), ∀ (a0 : ByteArray) (r : Int), VX.s k a0 = some r → evalFn Tryz.prog G k 72 [.sc (.string a0), .fn (.func 75) [] []] [] = some (Wq r)
  | 0, _, _, h => (nomatch h)
  | k + 1, a0, r, h => fn_ok rfl (YX Tryz.prog (evalFn Tryz.prog G k) (VW.s k (fun a0 => VV.s k a0)) a0) (SJ _ _ a0) (SK _ _ _ _  (Pl _ k _ (VV.ok k)) a0) h
theorem VX.mono : ∀ (k : Nat) (a0 : ByteArray), Le (VX.s k a0) (VX.s (k + 1) a0)
  | 0, _ => fun r h => (nomatch h)
  | k + 1, a0 => (SL (fun a => .two ((VW.m (Nat.le_succ k) (fun a0 => VV.s k a0) (fun a0 => VV.s (k + 1) a0) (VV.mono k)) a)) a0).1 0
def WH (r : (List ByteArray)) : AV × Heap := (.sl (Qi r), [])
structure QO where
  x10 : Int
  x11 : Int
  r0 : (List ByteArray)
def VH (a : QO) : St := { n := 24, nx := 1, env := [(3, .arr 0), (10, .sc (.int .i64 a.x10)), (11, .sc (.int .i64 a.x11))], heap := [(0, .arr false 1 (Qi a.r0))] }
def WB (a : (List ByteArray)) : Ex × St := (.exit 0, { n := 24, nx := 1, env := [(3, .arr 0)], heap := [(0, .arr false 1 (Qi a))] })
def XI (C0 : ByteArray → ByteArray → Option ByteArray) (a : QO) : Option (QO ⊕ (List ByteArray)) := (bif (decide (a.x11 < a.x10)) then (bif (decide (0 ≤ a.x11 ∧ a.x11 < ((a.r0.length : Nat) : Int))) then ((a.r0[(Int.toNat a.x11)]?).bind fun (e1 : ByteArray) => ((C0 e1 Vw).bind fun (r2 : ByteArray) => ((a.r0[(Int.toNat a.x11)]?).bind fun (e3 : ByteArray) => (some (.inl (QO.mk a.x10 (w64 (a.x11 + (1 : Int))) (a.r0.set (Int.toNat a.x11) r2))))))) else none) else (some (.inr a.r0)))
def XJ (P : Program) (call : CallF) (C0 : ByteArray → ByteArray → Option ByteArray) (a : QO) : Tr (QO ⊕ (List ByteArray)) (Ex × St) := (.as (decide (a.x11 < a.x10)) (.ask (decide (0 ≤ a.x11 ∧ a.x11 < (((Qi a.r0).length : Nat) : Int))) (decide (0 ≤ a.x11 ∧ a.x11 < ((a.r0.length : Nat) : Int))) (.row ((Qi a.r0)[(Int.toNat a.x11)]?) (a.r0[(Int.toNat a.x11)]?) Jp fun (e1 : ByteArray) => (.call (call 74 [.sc (.string e1), .sc (.string Vw)] []) (C0 e1 Vw) Ue fun (r2 : ByteArray) => (.yes (decide (0 ≤ a.x11 ∧ a.x11 < (((Qi a.r0).length : Nat) : Int))) (.row ((Qi a.r0)[(Int.toNat a.x11)]?) (a.r0[(Int.toNat a.x11)]?) Jp fun (e3 : ByteArray) => (.rows ((Qi a.r0).set (Int.toNat a.x11) [.sc (.string r2)]) (Qi (a.r0.set (Int.toNat a.x11) r2)) (lf VH (QO.mk a.x10 (w64 (a.x11 + (1 : Int))) (a.r0.set (Int.toNat a.x11) r2)))))))) .fail) (rx WB a.r0))
theorem Pm (call : CallF) (C0 : ByteArray → ByteArray → Option ByteArray) (a : QO) : (XJ Tryz.prog call C0 a).norm (roundT Tryz.prog G.kd call 0 (G.an 123) (loopAt Tryz.prog 123 5) (VH a)) = XJ Tryz.prog call C0 a := by kernel_rfl
theorem Pn (P : Program) (call : CallF) (lp : Loops) (C0 : ByteArray → ByteArray → Option ByteArray) (K0 : ∀ (a0 : ByteArray) (a1 : ByteArray) (r : ByteArray), C0 a0 a1 = some r → (call 74 [.sc (.string a0), .sc (.string a1)] []) = some (Ue r)) (a : QO) : (XJ P call C0 a).ok lp (Sum.elim (fun a => (.norm, VH a)) WB) := ⟨rfl, fun hq0 => ⟨(by rw [QD]), fun hq1 => fun e1 he1 => ⟨J9 he1, fun r2 hr2 => ⟨K0 _ _ _ hr2, ⟨(show (decide (0 ≤ a.x11 ∧ a.x11 < (((Qi a.r0).length : Nat) : Int))) = (decide (0 ≤ a.x11 ∧ a.x11 < ((a.r0.length : Nat) : Int))) from (by rw [QD])).trans hq1, fun e3 he3 => ⟨J9 he3, ⟨(Qan a.r0 (Int.toNat a.x11) r2), rfl⟩⟩⟩⟩⟩, fun hq1 => trivial⟩, fun hq0 => rfl⟩
theorem Po {C0 : Nat → ByteArray → ByteArray → Option ByteArray} {D0 : ByteArray → ByteArray → Option ByteArray} (H0 : ∀ (a0 : ByteArray) (a1 : ByteArray), Cv (fun k => C0 k a0 a1) (D0 a0 a1)) (a : QO) : Cv (fun k => XI (C0 k) a) (XI D0 a) := by
  unfold XI
  exact .cond (.cond (.bind (.const (a.r0[(Int.toNat a.x11)]?)) fun e1 => .bind (H0 _ _) fun r2 => by exact .const _) (by exact .const _)) (by exact .const _)
def VG.s (k : Nat) (C0 : ByteArray → ByteArray → Option ByteArray) : QO → Option (List ByteArray) := iter (XI C0) k
theorem FS (call : CallF) (k : Nat) (C0 : ByteArray → ByteArray → Option ByteArray) (K0 : ∀ (a0 : ByteArray) (a1 : ByteArray) (r : ByteArray), C0 a0 a1 = some r → (call 74 [.sc (.string a0), .sc (.string a1)] []) = some (Ue r)) (a : QO) (r : (List ByteArray)) (h : VG.s k C0 a = some r) : loopsF Tryz.prog G.kd call 0 (G.an 123) k (loopAt Tryz.prog 123 5) (VH a) = some (WB r) :=
  loop_ok (fun a => XJ Tryz.prog call C0 a) (fun _ => rfl) (fun a => Pm call _ a) (fun a => Pn _ call _ _ K0 a) (fun r => nofun) h
theorem VG.m {j k : Nat} (hj : j ≤ k) (C0 : ByteArray → ByteArray → Option ByteArray) (D0 : ByteArray → ByteArray → Option ByteArray) (H0 : ∀ (a0 : ByteArray) (a1 : ByteArray), Le (C0 a0 a1) (D0 a0 a1)) (a : QO) : Le (VG.s j C0 a) (VG.s k D0 a) := Le.iter (fun a => (Po (fun a0 a1 => .two (H0 a0 a1)) a).1 0) hj a
def YC (C0 : ByteArray → ByteArray → Option (List ByteArray)) (L1 : QO → Option (List ByteArray)) (a0 : ByteArray) : Option (List ByteArray) := (bif (eqS a0 s_) then (some ([] : List ByteArray)) else ((C0 a0 h_2c).bind fun (r1 : (List ByteArray)) => ((L1 (QO.mk (((r1.length) : Nat) : Int) (0 : Int) r1)).bind (fun (o2 : (List ByteArray)) => (some o2)))))
def YD (P : Program) (call : CallF) (C0 : ByteArray → ByteArray → Option (List ByteArray)) (L1 : QO → Option (List ByteArray)) (a0 : ByteArray) : Tr (List ByteArray) (AV × Heap) := (.as (eqS a0 s_) (rt WH ([] : List ByteArray)) (.call (call 79 [.sc (.string a0), .sc (.string h_2c)] []) (C0 a0 h_2c) XG fun (r1 : (List ByteArray)) => (.num ((Qi r1).length) (r1.length) (.loop (loopAt P 123 5) (VH (QO.mk (((r1.length) : Nat) : Int) (0 : Int) r1)) (L1 (QO.mk (((r1.length) : Nat) : Int) (0 : Int) r1)) WB (fun (o2 : (List ByteArray)) => (rt WH o2))))))
theorem Sl (call : CallF) (C0 : ByteArray → ByteArray → Option (List ByteArray)) (L1 : QO → Option (List ByteArray)) (a0 : ByteArray) : (YD Tryz.prog call C0 L1 a0).norm (bodyT Tryz.prog call G 123 [.sc (.string a0)] []) = YD Tryz.prog call C0 L1 a0 := by kernel_rfl
theorem Sm (P : Program) (call : CallF) (lp : Loops) (C0 : ByteArray → ByteArray → Option (List ByteArray)) (L1 : QO → Option (List ByteArray)) (K0 : ∀ (a0 : ByteArray) (a1 : ByteArray) (r : (List ByteArray)), C0 a0 a1 = some r → (call 79 [.sc (.string a0), .sc (.string a1)] []) = some (XG r)) (N1 : ∀ (a : QO) (r : (List ByteArray)), L1 a = some r → lp (loopAt P 123 5) (VH a) = some (WB r)) (a0 : ByteArray) : (YD P call C0 L1 a0).ok lp WH := ⟨rfl, fun hq0 => rfl, fun hq0 => fun r1 hr1 => ⟨K0 _ _ _ hr1, ⟨(QD _), fun o2 ho2 => ⟨N1 _ _ ho2, rfl⟩⟩⟩⟩
theorem Sn {C0 : Nat → ByteArray → ByteArray → Option (List ByteArray)} {D0 : ByteArray → ByteArray → Option (List ByteArray)} (H0 : ∀ (a0 : ByteArray) (a1 : ByteArray), Cv (fun k => C0 k a0 a1) (D0 a0 a1)) {L1 : Nat → QO → Option (List ByteArray)} {M1 : QO → Option (List ByteArray)} (N1 : ∀ a, Cv (fun k => L1 k a) (M1 a)) (a0 : ByteArray) : Cv (fun k => YC (C0 k) (L1 k) a0) (YC D0 M1 a0) := by
  unfold YC
  exact .cond (by exact .const _) (.bind (H0 _ _) fun r1 => .bind (N1 _) (fun o2 => by exact .const _))
def VC.s : Nat → ByteArray → Option (List ByteArray)
  | 0, _ => none
  | k + 1, a0 => YC (fun a0 a1 => Uh.s k a0 a1) (VG.s k (fun a0 a1 => JE.s k a0 a1)) a0
theorem VC.ok : ∀ (k : Nat), ∀ (a0 : ByteArray) (r : (List ByteArray)), VC.s k a0 = some r → evalFn Tryz.prog G k 123 [.sc (.string a0)] [] = some (WH r)
  | 0, _, _, h => (nomatch h)
  | k + 1, a0, r, h => fn_ok rfl (YD Tryz.prog (evalFn Tryz.prog G k) (fun a0 a1 => Uh.s k a0 a1) (VG.s k (fun a0 a1 => JE.s k a0 a1)) a0) (Sl _ _ _ a0) (Sm _ _ _ _ _ (Uh.ok k) (FS _ k _ (JE.ok k)) a0) h
theorem VC.mono : ∀ (k : Nat) (a0 : ByteArray), Le (VC.s k a0) (VC.s (k + 1) a0)
  | 0, _ => fun r h => (nomatch h)
  | k + 1, a0 => (Sn (fun a0 a1 => .two ((Uh.mono k) a0 a1)) (fun a => .two ((VG.m (Nat.le_succ k) (fun a0 a1 => JE.s k a0 a1) (fun a0 a1 => JE.s (k + 1) a0 a1) (JE.mono k)) a)) a0).1 0
def Ws (r : (List Qd)) : AV × Heap := (.sl (U7 r), [])
def Qa7   : Option (List Qd) := (some [(Qd.mk YK (0 : Int) s_), (Qd.mk ZC (1 : Int) s_), (Qd.mk Fg (2 : Int) s_), (Qd.mk QR (4 : Int) s_), (Qd.mk GD (6 : Int) s_), (Qd.mk Es (32 : Int) s_X), (Qd.mk Er (48 : Int) s_X), (Qd.mk GG (128 : Int) s_X), (Qd.mk GH (144 : Int) s_X), (Qd.mk ZD (160 : Int) s_X), (Qd.mk ZE (176 : Int) s_X), (Qd.mk ZA (192 : Int) s_X), (Qd.mk Zy (208 : Int) s_X), (Qd.mk ZB (224 : Int) s_X), (Qd.mk Zz (240 : Int) s_X), (Qd.mk Fe (256 : Int) Q6), (Qd.mk El (1024 : Int) Q6), (Qd.mk ZF (1280 : Int) Q6), (Qd.mk Ew (1536 : Int) Q6), (Qd.mk En (3072 : Int) Q6), (Qd.mk GF (3328 : Int) Q6), (Qd.mk GB (8192 : Int) US), (Qd.mk Zx (8704 : Int) US), (Qd.mk GK (9216 : Int) US), (Qd.mk GE (10752 : Int) Jj), (Qd.mk Ff (17408 : Int) Q6), (Qd.mk GC (17664 : Int) Q6), (Qd.mk Em (17920 : Int) Q6), (Qd.mk Fd (18432 : Int) Zs), (Qd.mk Zu (24576 : Int) Jj), (Qd.mk Zv (25600 : Int) Jj), (Qd.mk Zw (26112 : Int) Jj), (Qd.mk GJ (26624 : Int) Jj), (Qd.mk GI (27648 : Int) Jj), (Qd.mk Eo (32768 : Int) U1), (Qd.mk Et (36864 : Int) U1), (Qd.mk Ep (40960 : Int) U2), (Qd.mk Eu (45056 : Int) U2), (Qd.mk Eq (49152 : Int) U3), (Qd.mk Ev (53248 : Int) U3), (Qd.mk Fb (57344 : Int) WA), (Qd.mk Pi (59392 : Int) s_T8), (Qd.mk Fc (59648 : Int) s_T8), (Qd.mk Zt (469762048 : Int) Xf), (Qd.mk Ei (402685952 : Int) Yj), (Qd.mk Ej (402702336 : Int) JV), (Qd.mk E6 (402706432 : Int) JV), (Qd.mk Ek (402710528 : Int) JV), (Qd.mk Ph (1879048192 : Int) YJ), (Qd.mk E2 (805306368 : Int) Qw), (Qd.mk E7 (872415232 : Int) Qw), (Qd.mk E3 (939524096 : Int) Qw), (Qd.mk E5 (1342177280 : Int) Qw), (Qd.mk E9 (1409286144 : Int) Qw), (Qd.mk E4 (1476395008 : Int) Qw), (Qd.mk E8 (1543503872 : Int) Qw), (Qd.mk Se (2013265920 : Int) Z8), (Qd.mk Pg (2013265921 : Int) Z8), (Qd.mk Pf (2046820352 : Int) J0), (Qd.mk E1 (2046820353 : Int) J0), (Qd.mk Sc (2080375316 : Int) Uj), (Qd.mk Pj (2080374864 : Int) Uj), (Qd.mk Fa (2080375254 : Int) Uj), (Qd.mk Sd (2080374840 : Int) Ui), (Qd.mk s_or (2080375672 : Int) Ui), (Qd.mk Sf (2080375416 : Int) Ui)])
def Gd (P : Program) (call : CallF)   : Tr (List Qd) (AV × Heap) := (.rows [[.sc (.string YK), .sc (.int .u32 (0 : Int)), .sc (.string s_)], [.sc (.string ZC), .sc (.int .u32 (1 : Int)), .sc (.string s_)], [.sc (.string Fg), .sc (.int .u32 (2 : Int)), .sc (.string s_)], [.sc (.string QR), .sc (.int .u32 (4 : Int)), .sc (.string s_)], [.sc (.string GD), .sc (.int .u32 (6 : Int)), .sc (.string s_)], [.sc (.string Es), .sc (.int .u32 (32 : Int)), .sc (.string s_X)], [.sc (.string Er), .sc (.int .u32 (48 : Int)), .sc (.string s_X)], [.sc (.string GG), .sc (.int .u32 (128 : Int)), .sc (.string s_X)], [.sc (.string GH), .sc (.int .u32 (144 : Int)), .sc (.string s_X)], [.sc (.string ZD), .sc (.int .u32 (160 : Int)), .sc (.string s_X)], [.sc (.string ZE), .sc (.int .u32 (176 : Int)), .sc (.string s_X)], [.sc (.string ZA), .sc (.int .u32 (192 : Int)), .sc (.string s_X)], [.sc (.string Zy), .sc (.int .u32 (208 : Int)), .sc (.string s_X)], [.sc (.string ZB), .sc (.int .u32 (224 : Int)), .sc (.string s_X)], [.sc (.string Zz), .sc (.int .u32 (240 : Int)), .sc (.string s_X)], [.sc (.string Fe), .sc (.int .u32 (256 : Int)), .sc (.string Q6)], [.sc (.string El), .sc (.int .u32 (1024 : Int)), .sc (.string Q6)], [.sc (.string ZF), .sc (.int .u32 (1280 : Int)), .sc (.string Q6)], [.sc (.string Ew), .sc (.int .u32 (1536 : Int)), .sc (.string Q6)], [.sc (.string En), .sc (.int .u32 (3072 : Int)), .sc (.string Q6)], [.sc (.string GF), .sc (.int .u32 (3328 : Int)), .sc (.string Q6)], [.sc (.string GB), .sc (.int .u32 (8192 : Int)), .sc (.string US)], [.sc (.string Zx), .sc (.int .u32 (8704 : Int)), .sc (.string US)], [.sc (.string GK), .sc (.int .u32 (9216 : Int)), .sc (.string US)], [.sc (.string GE), .sc (.int .u32 (10752 : Int)), .sc (.string Jj)], [.sc (.string Ff), .sc (.int .u32 (17408 : Int)), .sc (.string Q6)], [.sc (.string GC), .sc (.int .u32 (17664 : Int)), .sc (.string Q6)], [.sc (.string Em), .sc (.int .u32 (17920 : Int)), .sc (.string Q6)], [.sc (.string Fd), .sc (.int .u32 (18432 : Int)), .sc (.string Zs)], [.sc (.string Zu), .sc (.int .u32 (24576 : Int)), .sc (.string Jj)], [.sc (.string Zv), .sc (.int .u32 (25600 : Int)), .sc (.string Jj)], [.sc (.string Zw), .sc (.int .u32 (26112 : Int)), .sc (.string Jj)], [.sc (.string GJ), .sc (.int .u32 (26624 : Int)), .sc (.string Jj)], [.sc (.string GI), .sc (.int .u32 (27648 : Int)), .sc (.string Jj)], [.sc (.string Eo), .sc (.int .u32 (32768 : Int)), .sc (.string U1)], [.sc (.string Et), .sc (.int .u32 (36864 : Int)), .sc (.string U1)], [.sc (.string Ep), .sc (.int .u32 (40960 : Int)), .sc (.string U2)], [.sc (.string Eu), .sc (.int .u32 (45056 : Int)), .sc (.string U2)], [.sc (.string Eq), .sc (.int .u32 (49152 : Int)), .sc (.string U3)], [.sc (.string Ev), .sc (.int .u32 (53248 : Int)), .sc (.string U3)], [.sc (.string Fb), .sc (.int .u32 (57344 : Int)), .sc (.string WA)], [.sc (.string Pi), .sc (.int .u32 (59392 : Int)), .sc (.string s_T8)], [.sc (.string Fc), .sc (.int .u32 (59648 : Int)), .sc (.string s_T8)], [.sc (.string Zt), .sc (.int .u32 (469762048 : Int)), .sc (.string Xf)], [.sc (.string Ei), .sc (.int .u32 (402685952 : Int)), .sc (.string Yj)], [.sc (.string Ej), .sc (.int .u32 (402702336 : Int)), .sc (.string JV)], [.sc (.string E6), .sc (.int .u32 (402706432 : Int)), .sc (.string JV)], [.sc (.string Ek), .sc (.int .u32 (402710528 : Int)), .sc (.string JV)], [.sc (.string Ph), .sc (.int .u32 (1879048192 : Int)), .sc (.string YJ)], [.sc (.string E2), .sc (.int .u32 (805306368 : Int)), .sc (.string Qw)], [.sc (.string E7), .sc (.int .u32 (872415232 : Int)), .sc (.string Qw)], [.sc (.string E3), .sc (.int .u32 (939524096 : Int)), .sc (.string Qw)], [.sc (.string E5), .sc (.int .u32 (1342177280 : Int)), .sc (.string Qw)], [.sc (.string E9), .sc (.int .u32 (1409286144 : Int)), .sc (.string Qw)], [.sc (.string E4), .sc (.int .u32 (1476395008 : Int)), .sc (.string Qw)], [.sc (.string E8), .sc (.int .u32 (1543503872 : Int)), .sc (.string Qw)], [.sc (.string Se), .sc (.int .u32 (2013265920 : Int)), .sc (.string Z8)], [.sc (.string Pg), .sc (.int .u32 (2013265921 : Int)), .sc (.string Z8)], [.sc (.string Pf), .sc (.int .u32 (2046820352 : Int)), .sc (.string J0)], [.sc (.string E1), .sc (.int .u32 (2046820353 : Int)), .sc (.string J0)], [.sc (.string Sc), .sc (.int .u32 (2080375316 : Int)), .sc (.string Uj)], [.sc (.string Pj), .sc (.int .u32 (2080374864 : Int)), .sc (.string Uj)], [.sc (.string Fa), .sc (.int .u32 (2080375254 : Int)), .sc (.string Uj)], [.sc (.string Sd), .sc (.int .u32 (2080374840 : Int)), .sc (.string Ui)], [.sc (.string s_or), .sc (.int .u32 (2080375672 : Int)), .sc (.string Ui)], [.sc (.string Sf), .sc (.int .u32 (2080375416 : Int)), .sc (.string Ui)]] (U7 [(Qd.mk YK (0 : Int) s_), (Qd.mk ZC (1 : Int) s_), (Qd.mk Fg (2 : Int) s_), (Qd.mk QR (4 : Int) s_), (Qd.mk GD (6 : Int) s_), (Qd.mk Es (32 : Int) s_X), (Qd.mk Er (48 : Int) s_X), (Qd.mk GG (128 : Int) s_X), (Qd.mk GH (144 : Int) s_X), (Qd.mk ZD (160 : Int) s_X), (Qd.mk ZE (176 : Int) s_X), (Qd.mk ZA (192 : Int) s_X), (Qd.mk Zy (208 : Int) s_X), (Qd.mk ZB (224 : Int) s_X), (Qd.mk Zz (240 : Int) s_X), (Qd.mk Fe (256 : Int) Q6), (Qd.mk El (1024 : Int) Q6), (Qd.mk ZF (1280 : Int) Q6), (Qd.mk Ew (1536 : Int) Q6), (Qd.mk En (3072 : Int) Q6), (Qd.mk GF (3328 : Int) Q6), (Qd.mk GB (8192 : Int) US), (Qd.mk Zx (8704 : Int) US), (Qd.mk GK (9216 : Int) US), (Qd.mk GE (10752 : Int) Jj), (Qd.mk Ff (17408 : Int) Q6), (Qd.mk GC (17664 : Int) Q6), (Qd.mk Em (17920 : Int) Q6), (Qd.mk Fd (18432 : Int) Zs), (Qd.mk Zu (24576 : Int) Jj), (Qd.mk Zv (25600 : Int) Jj), (Qd.mk Zw (26112 : Int) Jj), (Qd.mk GJ (26624 : Int) Jj), (Qd.mk GI (27648 : Int) Jj), (Qd.mk Eo (32768 : Int) U1), (Qd.mk Et (36864 : Int) U1), (Qd.mk Ep (40960 : Int) U2), (Qd.mk Eu (45056 : Int) U2), (Qd.mk Eq (49152 : Int) U3), (Qd.mk Ev (53248 : Int) U3), (Qd.mk Fb (57344 : Int) WA), (Qd.mk Pi (59392 : Int) s_T8), (Qd.mk Fc (59648 : Int) s_T8), (Qd.mk Zt (469762048 : Int) Xf), (Qd.mk Ei (402685952 : Int) Yj), (Qd.mk Ej (402702336 : Int) JV), (Qd.mk E6 (402706432 : Int) JV), (Qd.mk Ek (402710528 : Int) JV), (Qd.mk Ph (1879048192 : Int) YJ), (Qd.mk E2 (805306368 : Int) Qw), (Qd.mk E7 (872415232 : Int) Qw), (Qd.mk E3 (939524096 : Int) Qw), (Qd.mk E5 (1342177280 : Int) Qw), (Qd.mk E9 (1409286144 : Int) Qw), (Qd.mk E4 (1476395008 : Int) Qw), (Qd.mk E8 (1543503872 : Int) Qw), (Qd.mk Se (2013265920 : Int) Z8), (Qd.mk Pg (2013265921 : Int) Z8), (Qd.mk Pf (2046820352 : Int) J0), (Qd.mk E1 (2046820353 : Int) J0), (Qd.mk Sc (2080375316 : Int) Uj), (Qd.mk Pj (2080374864 : Int) Uj), (Qd.mk Fa (2080375254 : Int) Uj), (Qd.mk Sd (2080374840 : Int) Ui), (Qd.mk s_or (2080375672 : Int) Ui), (Qd.mk Sf (2080375416 : Int) Ui)]) (rt Ws [(Qd.mk YK (0 : Int) s_), (Qd.mk ZC (1 : Int) s_), (Qd.mk Fg (2 : Int) s_), (Qd.mk QR (4 : Int) s_), (Qd.mk GD (6 : Int) s_), (Qd.mk Es (32 : Int) s_X), (Qd.mk Er (48 : Int) s_X), (Qd.mk GG (128 : Int) s_X), (Qd.mk GH (144 : Int) s_X), (Qd.mk ZD (160 : Int) s_X), (Qd.mk ZE (176 : Int) s_X), (Qd.mk ZA (192 : Int) s_X), (Qd.mk Zy (208 : Int) s_X), (Qd.mk ZB (224 : Int) s_X), (Qd.mk Zz (240 : Int) s_X), (Qd.mk Fe (256 : Int) Q6), (Qd.mk El (1024 : Int) Q6), (Qd.mk ZF (1280 : Int) Q6), (Qd.mk Ew (1536 : Int) Q6), (Qd.mk En (3072 : Int) Q6), (Qd.mk GF (3328 : Int) Q6), (Qd.mk GB (8192 : Int) US), (Qd.mk Zx (8704 : Int) US), (Qd.mk GK (9216 : Int) US), (Qd.mk GE (10752 : Int) Jj), (Qd.mk Ff (17408 : Int) Q6), (Qd.mk GC (17664 : Int) Q6), (Qd.mk Em (17920 : Int) Q6), (Qd.mk Fd (18432 : Int) Zs), (Qd.mk Zu (24576 : Int) Jj), (Qd.mk Zv (25600 : Int) Jj), (Qd.mk Zw (26112 : Int) Jj), (Qd.mk GJ (26624 : Int) Jj), (Qd.mk GI (27648 : Int) Jj), (Qd.mk Eo (32768 : Int) U1), (Qd.mk Et (36864 : Int) U1), (Qd.mk Ep (40960 : Int) U2), (Qd.mk Eu (45056 : Int) U2), (Qd.mk Eq (49152 : Int) U3), (Qd.mk Ev (53248 : Int) U3), (Qd.mk Fb (57344 : Int) WA), (Qd.mk Pi (59392 : Int) s_T8), (Qd.mk Fc (59648 : Int) s_T8), (Qd.mk Zt (469762048 : Int) Xf), (Qd.mk Ei (402685952 : Int) Yj), (Qd.mk Ej (402702336 : Int) JV), (Qd.mk E6 (402706432 : Int) JV), (Qd.mk Ek (402710528 : Int) JV), (Qd.mk Ph (1879048192 : Int) YJ), (Qd.mk E2 (805306368 : Int) Qw), (Qd.mk E7 (872415232 : Int) Qw), (Qd.mk E3 (939524096 : Int) Qw), (Qd.mk E5 (1342177280 : Int) Qw), (Qd.mk E9 (1409286144 : Int) Qw), (Qd.mk E4 (1476395008 : Int) Qw), (Qd.mk E8 (1543503872 : Int) Qw), (Qd.mk Se (2013265920 : Int) Z8), (Qd.mk Pg (2013265921 : Int) Z8), (Qd.mk Pf (2046820352 : Int) J0), (Qd.mk E1 (2046820353 : Int) J0), (Qd.mk Sc (2080375316 : Int) Uj), (Qd.mk Pj (2080374864 : Int) Uj), (Qd.mk Fa (2080375254 : Int) Uj), (Qd.mk Sd (2080374840 : Int) Ui), (Qd.mk s_or (2080375672 : Int) Ui), (Qd.mk Sf (2080375416 : Int) Ui)]))
theorem Qa8 (call : CallF)   : (Gd Tryz.prog call  ).norm (bodyT Tryz.prog call G 139 [] []) = Gd Tryz.prog call   := by kernel_rfl
theorem Qa9 (P : Program) (call : CallF) (lp : Loops)    : (Gd P call  ).ok lp Ws := ⟨(GO [(Qd.mk YK (0 : Int) s_), (Qd.mk ZC (1 : Int) s_), (Qd.mk Fg (2 : Int) s_), (Qd.mk QR (4 : Int) s_), (Qd.mk GD (6 : Int) s_), (Qd.mk Es (32 : Int) s_X), (Qd.mk Er (48 : Int) s_X), (Qd.mk GG (128 : Int) s_X), (Qd.mk GH (144 : Int) s_X), (Qd.mk ZD (160 : Int) s_X), (Qd.mk ZE (176 : Int) s_X), (Qd.mk ZA (192 : Int) s_X), (Qd.mk Zy (208 : Int) s_X), (Qd.mk ZB (224 : Int) s_X), (Qd.mk Zz (240 : Int) s_X), (Qd.mk Fe (256 : Int) Q6), (Qd.mk El (1024 : Int) Q6), (Qd.mk ZF (1280 : Int) Q6), (Qd.mk Ew (1536 : Int) Q6), (Qd.mk En (3072 : Int) Q6), (Qd.mk GF (3328 : Int) Q6), (Qd.mk GB (8192 : Int) US), (Qd.mk Zx (8704 : Int) US), (Qd.mk GK (9216 : Int) US), (Qd.mk GE (10752 : Int) Jj), (Qd.mk Ff (17408 : Int) Q6), (Qd.mk GC (17664 : Int) Q6), (Qd.mk Em (17920 : Int) Q6), (Qd.mk Fd (18432 : Int) Zs), (Qd.mk Zu (24576 : Int) Jj), (Qd.mk Zv (25600 : Int) Jj), (Qd.mk Zw (26112 : Int) Jj), (Qd.mk GJ (26624 : Int) Jj), (Qd.mk GI (27648 : Int) Jj), (Qd.mk Eo (32768 : Int) U1), (Qd.mk Et (36864 : Int) U1), (Qd.mk Ep (40960 : Int) U2), (Qd.mk Eu (45056 : Int) U2), (Qd.mk Eq (49152 : Int) U3), (Qd.mk Ev (53248 : Int) U3), (Qd.mk Fb (57344 : Int) WA), (Qd.mk Pi (59392 : Int) s_T8), (Qd.mk Fc (59648 : Int) s_T8), (Qd.mk Zt (469762048 : Int) Xf), (Qd.mk Ei (402685952 : Int) Yj), (Qd.mk Ej (402702336 : Int) JV), (Qd.mk E6 (402706432 : Int) JV), (Qd.mk Ek (402710528 : Int) JV), (Qd.mk Ph (1879048192 : Int) YJ), (Qd.mk E2 (805306368 : Int) Qw), (Qd.mk E7 (872415232 : Int) Qw), (Qd.mk E3 (939524096 : Int) Qw), (Qd.mk E5 (1342177280 : Int) Qw), (Qd.mk E9 (1409286144 : Int) Qw), (Qd.mk E4 (1476395008 : Int) Qw), (Qd.mk E8 (1543503872 : Int) Qw), (Qd.mk Se (2013265920 : Int) Z8), (Qd.mk Pg (2013265921 : Int) Z8), (Qd.mk Pf (2046820352 : Int) J0), (Qd.mk E1 (2046820353 : Int) J0), (Qd.mk Sc (2080375316 : Int) Uj), (Qd.mk Pj (2080374864 : Int) Uj), (Qd.mk Fa (2080375254 : Int) Uj), (Qd.mk Sd (2080374840 : Int) Ui), (Qd.mk s_or (2080375672 : Int) Ui), (Qd.mk Sf (2080375416 : Int) Ui)]), rfl⟩
def UP.s : Nat → Option (List Qd)
  | 0 => none
  | k + 1 => Qa7  
theorem UP.ok : ∀ (k : Nat), ∀  (r : (List Qd)), UP.s k  = some r → evalFn Tryz.prog G k 139 [] [] = some (Ws r)
  | 0, _, h => (nomatch h)
  | k + 1, r, h => fn_ok rfl (Gd Tryz.prog (evalFn Tryz.prog G k)  ) (Qa8 _  ) (Qa9 _ _ _    ) h
theorem UP.mono : ∀ (k : Nat), Le (UP.s k ) (UP.s (k + 1) )
  | 0 => fun r h => (nomatch h)
  | k + 1 => .refl _
def Yk (r : (Bool × ByteArray)) : AV × Heap := (.sc (.bool r.1), [(0, .box [] (Jp r.2))])
def QaA  (a0 : Qd) (h0 : ByteArray) : Option (Bool × ByteArray) := (some ((eqS a0.name h0), h0))
def ZM (P : Program) (call : CallF)  (a0 : Qd) (h0 : ByteArray) : Tr (Bool × ByteArray) (AV × Heap) := (rt Yk ((eqS a0.name h0), h0))
theorem QaB (call : CallF)  (a0 : Qd) (h0 : ByteArray) : (ZM Tryz.prog call  a0 h0).norm (bodyT Tryz.prog call G 176 [.agg (Ut a0), .ptr 0 0] [(0, .box [] (Jp h0))]) = ZM Tryz.prog call  a0 h0 := by kernel_rfl
theorem QaC (P : Program) (call : CallF) (lp : Loops)   (a0 : Qd) (h0 : ByteArray) : (ZM P call  a0 h0).ok lp Yk := rfl
def VY.s : Nat → Qd → ByteArray → Option (Bool × ByteArray)
  | 0, _, _ => none
  | k + 1, a0, h0 => QaA  a0 h0
theorem VY.ok : ∀ (k : Nat), ∀ (a0 : Qd) (h0 : ByteArray) (r : (Bool × ByteArray)), VY.s k a0 h0 = some r → evalFn Tryz.prog G k 176 [.agg (Ut a0), .ptr 0 0] [(0, .box [] (Jp h0))] = some (Yk r)
  | 0, _, _, _, h => (nomatch h)
  | k + 1, a0, h0, r, h => fn_ok rfl (ZM Tryz.prog (evalFn Tryz.prog G k)  a0 h0) (QaB _  a0 h0) (QaC _ _ _    a0 h0) h
theorem VY.mono : ∀ (k : Nat) (a0 : Qd) (h0 : ByteArray), Le (VY.s k a0 h0) (VY.s (k + 1) a0 h0)
  | 0, _, _ => fun r h => (nomatch h)
  | k + 1, a0, h0 => .refl _
def VI (r : (Int × ByteArray)) : AV × Heap := (.sc (.int .i64 r.1), [(0, .box [] (Jp r.2))])
structure QE where
  x0 : (List Qd)
  x7 : Int
  x8 : Int
  h0 : ByteArray
structure QZ where
  x4 : Int
  h0 : ByteArray
def Vb (a : QE) : St := { n := 19, nx := 1, env := [(0, .sl (U7 a.x0)), (1, .fn (.func 176) [] [.ptr 0 0]), (7, .sc (.int .i64 a.x7)), (8, .sc (.int .i64 a.x8))], heap := [(0, .box [] (Jp a.h0))] }
def Zd (a : QZ) : Ex × St := (.ret, { n := 19, nx := 1, env := [(4, .sc (.int .i64 a.x4))], heap := [(0, .box [] (Jp a.h0))] })
def Ze (a : ByteArray) : Ex × St := (.exit 0, { n := 19, nx := 1, env := [], heap := [(0, .box [] (Jp a))] })
def VJ (a : (QZ ⊕ ByteArray)) : Ex × St := Sum.elim Zd Ze a
def WI (C0 : Qd → ByteArray → Option (Bool × ByteArray)) (a : QE) : Option (QE ⊕ (QZ ⊕ ByteArray)) := (bif (decide (a.x8 < a.x7)) then (bif (decide (0 ≤ a.x8)) then ((a.x0[(Int.toNat a.x8)]?).bind fun (e1 : Qd) => ((C0 e1 a.h0).bind fun (r2 : (Bool × ByteArray)) => (bif r2.1 then (some (.inr (.inl (QZ.mk a.x8 r2.2)))) else (some (.inl (QE.mk a.x0 a.x7 (w64 (a.x8 + (1 : Int))) r2.2)))))) else none) else (some (.inr (.inr a.h0))))
def WJ (P : Program) (call : CallF) (C0 : Qd → ByteArray → Option (Bool × ByteArray)) (a : QE) : Tr (QE ⊕ (QZ ⊕ ByteArray)) (Ex × St) := (.as (decide (a.x8 < a.x7)) (.as (decide (0 ≤ a.x8)) (.row ((U7 a.x0)[(Int.toNat a.x8)]?) (a.x0[(Int.toNat a.x8)]?) Ut fun (e1 : Qd) => (.call (call 176 [.agg (Ut e1), .ptr 0 0] [(0, .box [] (Jp a.h0))]) (C0 e1 a.h0) Yk fun (r2 : (Bool × ByteArray)) => (.as r2.1 (rx VJ (.inl (QZ.mk a.x8 r2.2))) (lf Vb (QE.mk a.x0 a.x7 (w64 (a.x8 + (1 : Int))) r2.2))))) .fail) (rx VJ (.inr a.h0)))
theorem Fh (call : CallF) (C0 : Qd → ByteArray → Option (Bool × ByteArray)) (a : QE) : (WJ Tryz.prog call C0 a).norm (roundT Tryz.prog G.kd call 1 (G.an 175) (loopAt Tryz.prog 175 2) (Vb a)) = WJ Tryz.prog call C0 a := by kernel_rfl
theorem Fi (P : Program) (call : CallF) (lp : Loops) (C0 : Qd → ByteArray → Option (Bool × ByteArray)) (K0 : ∀ (a0 : Qd) (h0 : ByteArray) (r : (Bool × ByteArray)), C0 a0 h0 = some r → (call 176 [.agg (Ut a0), .ptr 0 0] [(0, .box [] (Jp h0))]) = some (Yk r)) (a : QE) : (WJ P call C0 a).ok lp (Sum.elim (fun a => (.norm, Vb a)) VJ) := ⟨rfl, fun hq0 => ⟨rfl, fun hq1 => fun e1 he1 => ⟨GP he1, fun r2 hr2 => ⟨K0 _ _ _ hr2, ⟨rfl, fun hq2 => rfl, fun hq2 => rfl⟩⟩⟩, fun hq1 => trivial⟩, fun hq0 => rfl⟩
theorem Fj {C0 : Nat → Qd → ByteArray → Option (Bool × ByteArray)} {D0 : Qd → ByteArray → Option (Bool × ByteArray)} (H0 : ∀ (a0 : Qd) (h0 : ByteArray), Cv (fun k => C0 k a0 h0) (D0 a0 h0)) (a : QE) : Cv (fun k => WI (C0 k) a) (WI D0 a) := by
  unfold WI
  exact .cond (.cond (.bind (.const (a.x0[(Int.toNat a.x8)]?)) fun e1 => .bind (H0 _ _) fun r2 => by exact .const _) (by exact .const _)) (by exact .const _)
def U8.s (k : Nat) (C0 : Qd → ByteArray → Option (Bool × ByteArray)) : QE → Option (QZ ⊕ ByteArray) := iter (WI C0) k
theorem EP (call : CallF) (k : Nat) (C0 : Qd → ByteArray → Option (Bool × ByteArray)) (K0 : ∀ (a0 : Qd) (h0 : ByteArray) (r : (Bool × ByteArray)), C0 a0 h0 = some r → (call 176 [.agg (Ut a0), .ptr 0 0] [(0, .box [] (Jp h0))]) = some (Yk r)) (a : QE) (r : (QZ ⊕ ByteArray)) (h : U8.s k C0 a = some r) : loopsF Tryz.prog G.kd call 1 (G.an 175) k (loopAt Tryz.prog 175 2) (Vb a) = some (VJ r) :=
  loop_ok (fun a => WJ Tryz.prog call C0 a) (fun _ => rfl) (fun a => Fh call _ a) (fun a => Fi _ call _ _ K0 a) (fun r => by cases r <;> nofun) h
theorem U8.m {j k : Nat} (hj : j ≤ k) (C0 : Qd → ByteArray → Option (Bool × ByteArray)) (D0 : Qd → ByteArray → Option (Bool × ByteArray)) (H0 : ∀ (a0 : Qd) (h0 : ByteArray), Le (C0 a0 h0) (D0 a0 h0)) (a : QE) : Le (U8.s j C0 a) (U8.s k D0 a) := Le.iter (fun a => (Fj (fun a0 h0 => .two (H0 a0 h0)) a).1 0) hj a
def XK (L0 : QE → Option (QZ ⊕ ByteArray)) (a0 : (List Qd)) (h0 : ByteArray) : Option (Int × ByteArray) := ((L0 (QE.mk a0 (((a0.length) : Nat) : Int) (0 : Int) h0)).bind fun x => Sum.elim (fun (o1 : QZ) => (some (o1.x4, o1.h0))) (fun (o2 : ByteArray) => (some ((-1 : Int), o2))) x)
def XL (P : Program) (call : CallF) (L0 : QE → Option (QZ ⊕ ByteArray)) (a0 : (List Qd)) (h0 : ByteArray) : Tr (Int × ByteArray) (AV × Heap) := (.num ((U7 a0).length) (a0.length) (.loop2 (loopAt P 175 2) (Vb (QE.mk a0 (((a0.length) : Nat) : Int) (0 : Int) h0)) (L0 (QE.mk a0 (((a0.length) : Nat) : Int) (0 : Int) h0)) Zd Ze (fun (o1 : QZ) => (rt VI (o1.x4, o1.h0))) (fun (o2 : ByteArray) => (rt VI ((-1 : Int), o2)))))
theorem Pp (call : CallF) (L0 : QE → Option (QZ ⊕ ByteArray)) (a0 : (List Qd)) (h0 : ByteArray) : (XL Tryz.prog call L0 a0 h0).norm (bodyT Tryz.prog call G 175 [.sl (U7 a0), .fn (.func 176) [] [.ptr 0 0]] [(0, .box [] (Jp h0))]) = XL Tryz.prog call L0 a0 h0 := by kernel_rfl
theorem Pq (P : Program) (call : CallF) (lp : Loops) (L0 : QE → Option (QZ ⊕ ByteArray)) (N0 : ∀ (a : QE) (r : (QZ ⊕ ByteArray)), L0 a = some r → lp (loopAt P 175 2) (Vb a) = some (VJ r)) (a0 : (List Qd)) (h0 : ByteArray) : (XL P call L0 a0 h0).ok lp VI := ⟨(GQ _), ⟨fun o1 ho1 => ⟨N0 _ (.inl _) ho1, rfl⟩, fun o2 ho2 => ⟨N0 _ (.inr _) ho2, rfl⟩⟩⟩
theorem Pr {L0 : Nat → QE → Option (QZ ⊕ ByteArray)} {M0 : QE → Option (QZ ⊕ ByteArray)} (N0 : ∀ a, Cv (fun k => L0 k a) (M0 a)) (a0 : (List Qd)) (h0 : ByteArray) : Cv (fun k => XK (L0 k) a0 h0) (XK M0 a0 h0) := by
  unfold XK
  exact .bind (N0 _) fun x => .sum (fun o1 => by exact .const _) (fun o2 => by exact .const _) x
def UT.s : Nat → (List Qd) → ByteArray → Option (Int × ByteArray)
  | 0, _, _ => none
  | k + 1, a0, h0 => XK (U8.s k (fun a0 h0 => VY.s k a0 h0)) a0 h0
theorem UT.ok : ∀ (k : Nat), ∀ (a0 : (List Qd)) (h0 : ByteArray) (r : (Int × ByteArray)), UT.s k a0 h0 = some r → evalFn Tryz.prog G k 175 [.sl (U7 a0), .fn (.func 176) [] [.ptr 0 0]] [(0, .box [] (Jp h0))] = some (VI r)
  | 0, _, _, _, h => (nomatch h)
  | k + 1, a0, h0, r, h => fn_ok rfl (XL Tryz.prog (evalFn Tryz.prog G k) (U8.s k (fun a0 h0 => VY.s k a0 h0)) a0 h0) (Pp _ _ a0 h0) (Pq _ _ _ _  (EP _ k _ (VY.ok k)) a0 h0) h
theorem UT.mono : ∀ (k : Nat) (a0 : (List Qd)) (h0 : ByteArray), Le (UT.s k a0 h0) (UT.s (k + 1) a0 h0)
  | 0, _, _ => fun r h => (nomatch h)
  | k + 1, a0, h0 => (Pr (fun a => .two ((U8.m (Nat.le_succ k) (fun a0 h0 => VY.s k a0 h0) (fun a0 h0 => VY.s (k + 1) a0 h0) (VY.mono k)) a)) a0 h0).1 0
def ZN (r : (Int × Bool)) : AV × Heap := (.tup [.sc (.int .i64 r.1), .sc (.bool r.2)], [])
def GU (C0 : Option (List Qd)) (C1 : (List Qd) → ByteArray → Option (Int × ByteArray)) (a0 : ByteArray) : Option (Int × Bool) := ((C0).bind fun (r1 : (List Qd)) => ((C1 r1 a0).bind fun (r2 : (Int × ByteArray)) => (some ((if (0 : Int) > r2.1 then (0 : Int) else r2.1), (decide (r2.1 ≥ (0 : Int)))))))
def GV (P : Program) (call : CallF) (C0 : Option (List Qd)) (C1 : (List Qd) → ByteArray → Option (Int × ByteArray)) (a0 : ByteArray) : Tr (Int × Bool) (AV × Heap) := (.call (call 139 [] []) (C0) Ws fun (r1 : (List Qd)) => (.call (call 175 [.sl (U7 r1), .fn (.func 176) [] [.ptr 0 0]] [(0, .box [] (Jp a0))]) (C1 r1 a0) VI fun (r2 : (Int × ByteArray)) => (rt ZN ((if (0 : Int) > r2.1 then (0 : Int) else r2.1), (decide (r2.1 ≥ (0 : Int)))))))
theorem QbI (call : CallF) (C0 : Option (List Qd)) (C1 : (List Qd) → ByteArray → Option (Int × ByteArray)) (a0 : ByteArray) : (GV Tryz.prog call C0 C1 a0).norm (bodyT Tryz.prog call G 124 [.sc (.string a0)] []) = GV Tryz.prog call C0 C1 a0 := by kernel_rfl
theorem QbJ (P : Program) (call : CallF) (lp : Loops) (C0 : Option (List Qd)) (C1 : (List Qd) → ByteArray → Option (Int × ByteArray)) (K0 : ∀  (r : (List Qd)), C0 = some r → (call 139 [] []) = some (Ws r)) (K1 : ∀ (a0 : (List Qd)) (h0 : ByteArray) (r : (Int × ByteArray)), C1 a0 h0 = some r → (call 175 [.sl (U7 a0), .fn (.func 176) [] [.ptr 0 0]] [(0, .box [] (Jp h0))]) = some (VI r)) (a0 : ByteArray) : (GV P call C0 C1 a0).ok lp ZN := fun r1 hr1 => ⟨K0 _ hr1, fun r2 hr2 => ⟨K1 _ _ _ hr2, rfl⟩⟩
theorem QbK {C0 : Nat → Option (List Qd)} {D0 : Option (List Qd)} (H0 : Cv (fun k => C0 k ) (D0 )) {C1 : Nat → (List Qd) → ByteArray → Option (Int × ByteArray)} {D1 : (List Qd) → ByteArray → Option (Int × ByteArray)} (H1 : ∀ (a0 : (List Qd)) (h0 : ByteArray), Cv (fun k => C1 k a0 h0) (D1 a0 h0)) (a0 : ByteArray) : Cv (fun k => GU (C0 k) (C1 k) a0) (GU D0 D1 a0) := by
  unfold GU
  exact .bind (H0) fun r1 => .bind (H1 _ _) fun r2 => by exact .const _
def Ys.s : Nat → ByteArray → Option (Int × Bool)
  | 0, _ => none
  | k + 1, a0 => GU (UP.s k) (fun a0 h0 => UT.s k a0 h0) a0
theorem Ys.ok : ∀ (k : Nat), ∀ (a0 : ByteArray) (r : (Int × Bool)), Ys.s k a0 = some r → evalFn Tryz.prog G k 124 [.sc (.string a0)] [] = some (ZN r)
  | 0, _, _, h => (nomatch h)
  | k + 1, a0, r, h => fn_ok rfl (GV Tryz.prog (evalFn Tryz.prog G k) (UP.s k) (fun a0 h0 => UT.s k a0 h0) a0) (QbI _ _ _ a0) (QbJ _ _ _ _ _ (UP.ok k) (UT.ok k)  a0) h
theorem Ys.mono : ∀ (k : Nat) (a0 : ByteArray), Le (Ys.s k a0) (Ys.s (k + 1) a0)
  | 0, _ => fun r h => (nomatch h)
  | k + 1, a0 => (QbK (.two (UP.mono k)) (fun a0 h0 => .two ((UT.mono k) a0 h0)) a0).1 0
def WC (r : ByteArray) : AV × Heap := (.sc (.string r), [])
def Ps  (a0 : Qd) : Option ByteArray := (some a0.kinds)
def XM (P : Program) (call : CallF)  (a0 : Qd) : Tr ByteArray (AV × Heap) := (rt WC a0.kinds)
theorem Pt (call : CallF)  (a0 : Qd) : (XM Tryz.prog call  a0).norm (bodyT Tryz.prog call G 200 [.agg (Ut a0)] []) = XM Tryz.prog call  a0 := by kernel_rfl
theorem Pu (P : Program) (call : CallF) (lp : Loops)   (a0 : Qd) : (XM P call  a0).ok lp WC := rfl
def UU.s : Nat → Qd → Option ByteArray
  | 0, _ => none
  | k + 1, a0 => Ps  a0
theorem UU.ok : ∀ (k : Nat), ∀ (a0 : Qd) (r : ByteArray), UU.s k a0 = some r → evalFn Tryz.prog G k 200 [.agg (Ut a0)] [] = some (WC r)
  | 0, _, _, h => (nomatch h)
  | k + 1, a0, r, h => fn_ok rfl (XM Tryz.prog (evalFn Tryz.prog G k)  a0) (Pt _  a0) (Pu _ _ _    a0) h
theorem UU.mono : ∀ (k : Nat) (a0 : Qd), Le (UU.s k a0) (UU.s (k + 1) a0)
  | 0, _ => fun r h => (nomatch h)
  | k + 1, a0 => .refl _
def Zm (r : ByteArray) : AV × Heap := (.sc (.string r), [])
def Fz (C0 : Option (List Qd)) (C1 : Qd → Option ByteArray) (a0 : Int) : Option ByteArray := ((C0).bind fun (r1 : (List Qd)) => (bif (decide (a0 ≥ (0 : Int))) then (bif (decide (a0 < (((r1.length) : Nat) : Int))) then (bif (decide (0 ≤ a0)) then ((r1[(Int.toNat a0)]?).bind fun (e2 : Qd) => ((C1 e2).bind fun (r3 : ByteArray) => (some r3))) else none) else (some s_)) else (some s_)))
def FA (P : Program) (call : CallF) (C0 : Option (List Qd)) (C1 : Qd → Option ByteArray) (a0 : Int) : Tr ByteArray (AV × Heap) := (.call (call 139 [] []) (C0) Ws fun (r1 : (List Qd)) => (.as (decide (a0 ≥ (0 : Int))) (yesN 2 (decide (a0 ≥ (0 : Int))) (.num ((U7 r1).length) (r1.length) (yesN 2 (decide (a0 ≥ (0 : Int))) (.as (decide (a0 < (((r1.length) : Nat) : Int))) (.as (decide (0 ≤ a0)) (.row ((U7 r1)[(Int.toNat a0)]?) (r1[(Int.toNat a0)]?) Ut fun (e2 : Qd) => (.call (call 200 [.agg (Ut e2)] []) (C1 e2) WC fun (r3 : ByteArray) => (rt Zm r3))) .fail) (rt Zm s_))))) (noN 4 (decide (a0 ≥ (0 : Int))) (.no false (rt Zm s_)))))
theorem Qcb (call : CallF) (C0 : Option (List Qd)) (C1 : Qd → Option ByteArray) (a0 : Int) : (FA Tryz.prog call C0 C1 a0).norm (bodyT Tryz.prog call G 166 [.sc (.int .i64 a0), .fn (.func 200) [] []] []) = FA Tryz.prog call C0 C1 a0 := by kernel_rfl
theorem Qcc (P : Program) (call : CallF) (lp : Loops) (C0 : Option (List Qd)) (C1 : Qd → Option ByteArray) (K0 : ∀  (r : (List Qd)), C0 = some r → (call 139 [] []) = some (Ws r)) (K1 : ∀ (a0 : Qd) (r : ByteArray), C1 a0 = some r → (call 200 [.agg (Ut a0)] []) = some (WC r)) (a0 : Int) : (FA P call C0 C1 a0).ok lp Zm := fun r1 hr1 => ⟨K0 _ hr1, ⟨rfl, fun hq0 => yesN_ok 2 (hq0) (⟨(GQ _), yesN_ok 2 (hq0) (⟨rfl, fun hq1 => ⟨rfl, fun hq2 => fun e2 he2 => ⟨GP he2, fun r3 hr3 => ⟨K1 _ _ hr3, rfl⟩⟩, fun hq2 => trivial⟩, fun hq1 => rfl⟩)⟩), fun hq0 => noN_ok 4 (hq0) (⟨rfl, rfl⟩)⟩⟩
theorem Qcd {C0 : Nat → Option (List Qd)} {D0 : Option (List Qd)} (H0 : Cv (fun k => C0 k ) (D0 )) {C1 : Nat → Qd → Option ByteArray} {D1 : Qd → Option ByteArray} (H1 : ∀ (a0 : Qd), Cv (fun k => C1 k a0) (D1 a0)) (a0 : Int) : Cv (fun k => Fz (C0 k) (C1 k) a0) (Fz D0 D1 a0) := by
  unfold Fz
  exact .bind (H0) fun r1 => .cond (.cond (.cond (.bind (.const (r1[(Int.toNat a0)]?)) fun e2 => .bind (H1 _) fun r3 => by exact .const _) (by exact .const _)) (by exact .const _)) (by exact .const _)
def ZO.s : Nat → Int → Option ByteArray
  | 0, _ => none
  | k + 1, a0 => Fz (UP.s k) (fun a0 => UU.s k a0) a0
theorem ZO.ok : ∀ (k : Nat), ∀ (a0 : Int) (r : ByteArray), ZO.s k a0 = some r → evalFn Tryz.prog G k 166 [.sc (.int .i64 a0), .fn (.func 200) [] []] [] = some (Zm r)
  | 0, _, _, h => (nomatch h)
  | k + 1, a0, r, h => fn_ok rfl (FA Tryz.prog (evalFn Tryz.prog G k) (UP.s k) (fun a0 => UU.s k a0) a0) (Qcb _ _ _ a0) (Qcc _ _ _ _ _ (UP.ok k) (UU.ok k)  a0) h
theorem ZO.mono : ∀ (k : Nat) (a0 : Int), Le (ZO.s k a0) (ZO.s (k + 1) a0)
  | 0, _ => fun r h => (nomatch h)
  | k + 1, a0 => (Qcd (.two (UP.mono k)) (fun a0 => .two ((UU.mono k) a0)) a0).1 0
def Zf (r : ByteArray) : AV × Heap := (.sc (.string r), [])
def Ge (C0 : Int → Option ByteArray) (a0 : Int) : Option ByteArray := ((C0 a0).bind fun (r1 : ByteArray) => (some r1))
def Gf (P : Program) (call : CallF) (C0 : Int → Option ByteArray) (a0 : Int) : Tr ByteArray (AV × Heap) := (.call (call 166 [.sc (.int .i64 a0), .fn (.func 200) [] []] []) (C0 a0) Zm fun (r1 : ByteArray) => (rt Zf r1))
theorem Qba (call : CallF) (C0 : Int → Option ByteArray) (a0 : Int) : (Gf Tryz.prog call C0 a0).norm (bodyT Tryz.prog call G 146 [.sc (.int .i64 a0)] []) = Gf Tryz.prog call C0 a0 := by kernel_rfl
theorem Qbb (P : Program) (call : CallF) (lp : Loops) (C0 : Int → Option ByteArray) (K0 : ∀ (a0 : Int) (r : ByteArray), C0 a0 = some r → (call 166 [.sc (.int .i64 a0), .fn (.func 200) [] []] []) = some (Zm r)) (a0 : Int) : (Gf P call C0 a0).ok lp Zf := fun r1 hr1 => ⟨K0 _ _ hr1, rfl⟩
theorem Qbc {C0 : Nat → Int → Option ByteArray} {D0 : Int → Option ByteArray} (H0 : ∀ (a0 : Int), Cv (fun k => C0 k a0) (D0 a0)) (a0 : Int) : Cv (fun k => Ge (C0 k) a0) (Ge D0 a0) := by
  unfold Ge
  exact .bind (H0 _) fun r1 => by exact .const _
def XN.s : Nat → Int → Option ByteArray
  | 0, _ => none
  | k + 1, a0 => Ge (fun a0 => ZO.s k a0) a0
theorem XN.ok : ∀ (k : Nat), ∀ (a0 : Int) (r : ByteArray), XN.s k a0 = some r → evalFn Tryz.prog G k 146 [.sc (.int .i64 a0)] [] = some (Zf r)
  | 0, _, _, h => (nomatch h)
  | k + 1, a0, r, h => fn_ok rfl (Gf Tryz.prog (evalFn Tryz.prog G k) (fun a0 => ZO.s k a0) a0) (Qba _ _ a0) (Qbb _ _ _ _ (ZO.ok k)  a0) h
theorem XN.mono : ∀ (k : Nat) (a0 : Int), Le (XN.s k a0) (XN.s (k + 1) a0)
  | 0, _ => fun r h => (nomatch h)
  | k + 1, a0 => (Qbc (fun a0 => .two ((ZO.mono k) a0)) a0).1 0
def Zo (r : (List ByteArray)) : AV × Heap := (.sl (Qi r), [])
def Vh.s : Nat → ByteArray → Option (List ByteArray)
  | 0, _ => none
  | _ + 1, a0 => fieldsS a0
theorem Vh.ok : ∀ (k : Nat), ∀ (a0 : ByteArray) (r : (List ByteArray)), Vh.s k a0 = some r → evalFn Tryz.prog G k 145 [.sc (.string a0)] [] = some (Zo r)
  | 0, _, _, h => (nomatch h)
  | k + 1, a0, r, h => fields_ok h
theorem Vh.mono (k : Nat) (a0 : ByteArray) : Le (Vh.s k a0) (Vh.s (k + 1) a0) := by
  cases k with
  | zero => exact fun r h => nomatch h
  | succ k => exact Le.refl _
def XO (r : Bool) : AV × Heap := (.sc (.bool r), [])
def J6.s : Nat → ByteArray → ByteArray → Option Bool
  | 0, _, _ => none
  | _ + 1, a0, a1 => containsS a0 a1
theorem J6.ok : ∀ (k : Nat), ∀ (a0 : ByteArray) (a1 : ByteArray) (r : Bool), J6.s k a0 a1 = some r → evalFn Tryz.prog G k 177 [.sc (.string a0), .sc (.string a1)] [] = some (XO r)
  | 0, _, _, _, h => (nomatch h)
  | k + 1, a0, a1, r, h => contains_ok h
noncomputable def J6 (a0 : ByteArray) (a1 : ByteArray) : Option Bool := containsS a0 a1
theorem J6.mono (k : Nat) (a0 : ByteArray) (a1 : ByteArray) : Le (J6.s k a0 a1) (J6.s (k + 1) a0 a1) := by
  cases k with
  | zero => exact fun r h => nomatch h
  | succ k => exact Le.refl _
def VD (r : (List (List Int))) : AV × Heap := (.sl (GA r), [])
def Qaf   : Option (List (List Int)) := (some [[(9 : Int)], [(8 : Int)], [(10 : Int), (11 : Int)], [(5 : Int), (6 : Int)], [(7 : Int)]])
def Zj (P : Program) (call : CallF)   : Tr (List (List Int)) (AV × Heap) := (.rows [[.sc (.int .i64 (9 : Int))]] (JX [(9 : Int)]) (.rows [[.sc (.int .i64 (8 : Int))]] (JX [(8 : Int)]) (.rows [[.sc (.int .i64 (10 : Int))], [.sc (.int .i64 (11 : Int))]] (JX [(10 : Int), (11 : Int)]) (.rows [[.sc (.int .i64 (5 : Int))], [.sc (.int .i64 (6 : Int))]] (JX [(5 : Int), (6 : Int)]) (.rows [[.sc (.int .i64 (7 : Int))]] (JX [(7 : Int)]) (.rows [[.sl (JX [(9 : Int)])], [.sl (JX [(8 : Int)])], [.sl (JX [(10 : Int), (11 : Int)])], [.sl (JX [(5 : Int), (6 : Int)])], [.sl (JX [(7 : Int)])]] (GA [[(9 : Int)], [(8 : Int)], [(10 : Int), (11 : Int)], [(5 : Int), (6 : Int)], [(7 : Int)]]) (rt VD [[(9 : Int)], [(8 : Int)], [(10 : Int), (11 : Int)], [(5 : Int), (6 : Int)], [(7 : Int)]])))))))
theorem Qag (call : CallF)   : (Zj Tryz.prog call  ).norm (bodyT Tryz.prog call G 242 [] []) = Zj Tryz.prog call   := by kernel_rfl
theorem Qah (P : Program) (call : CallF) (lp : Loops)    : (Zj P call  ).ok lp VD := ⟨(W6 [(9 : Int)]), ⟨(W6 [(8 : Int)]), ⟨(W6 [(10 : Int), (11 : Int)]), ⟨(W6 [(5 : Int), (6 : Int)]), ⟨(W6 [(7 : Int)]), ⟨(Fy [[(9 : Int)], [(8 : Int)], [(10 : Int), (11 : Int)], [(5 : Int), (6 : Int)], [(7 : Int)]]), rfl⟩⟩⟩⟩⟩⟩
def UA.s : Nat → Option (List (List Int))
  | 0 => none
  | k + 1 => Qaf  
theorem UA.ok : ∀ (k : Nat), ∀  (r : (List (List Int))), UA.s k  = some r → evalFn Tryz.prog G k 242 [] [] = some (VD r)
  | 0, _, h => (nomatch h)
  | k + 1, r, h => fn_ok rfl (Zj Tryz.prog (evalFn Tryz.prog G k)  ) (Qag _  ) (Qah _ _ _    ) h
theorem UA.mono : ∀ (k : Nat), Le (UA.s k ) (UA.s (k + 1) )
  | 0 => fun r h => (nomatch h)
  | k + 1 => .refl _
def Vy (r : ByteArray) : AV × Heap := (.sc (.string r), [])
structure Qx where
  x0 : ByteArray
  x1 : Int
def UB (a : Qx) : St := { n := 17, nx := 0, env := [(0, .sc (.string a.x0)), (1, .sc (.int .u8 a.x1))], heap := [] }
def UC (a : ByteArray) : Ex × St := (.exit 0, { n := 17, nx := 0, env := [(0, .sc (.string a))], heap := [] })
def GW  (a : Qx) : Option (Qx ⊕ ByteArray) := (bif (decide (((a.x0.size : Nat) : Int) > (0 : Int))) then (bif (decide (0 ≤ (0 : Int) ∧ (0 : Int) < ((a.x0.size : Nat) : Int))) then (bif (((a.x0.data.getD (Int.toNat (0 : Int)) 0).toNat : Int) == a.x1) then (bif (decide (0 ≤ (1 : Int) ∧ (1 : Int) ≤ ((a.x0.size : Nat) : Int) ∧ ((a.x0.size : Nat) : Int) ≤ ((a.x0.size : Nat) : Int))) then (some (.inl (Qx.mk (a.x0.extract (Int.toNat (1 : Int)) (Int.toNat ((a.x0.size : Nat) : Int))) a.x1))) else none) else (some (.inr a.x0))) else none) else (some (.inr a.x0)))
def VP (P : Program) (call : CallF)  (a : Qx) : Tr (Qx ⊕ ByteArray) (Ex × St) := (.as (decide (((a.x0.size : Nat) : Int) > (0 : Int))) (.yes (decide (((a.x0.size : Nat) : Int) > (0 : Int))) (.as (decide (0 ≤ (0 : Int) ∧ (0 : Int) < ((a.x0.size : Nat) : Int))) (yesN 3 (decide (((a.x0.size : Nat) : Int) > (0 : Int))) (.as (((a.x0.data.getD (Int.toNat (0 : Int)) 0).toNat : Int) == a.x1) (.as (decide (0 ≤ (1 : Int) ∧ (1 : Int) ≤ ((a.x0.size : Nat) : Int) ∧ ((a.x0.size : Nat) : Int) ≤ ((a.x0.size : Nat) : Int))) (lf UB (Qx.mk (a.x0.extract (Int.toNat (1 : Int)) (Int.toNat ((a.x0.size : Nat) : Int))) a.x1)) .fail) (rx UC a.x0))) .fail)) (noN 4 (decide (((a.x0.size : Nat) : Int) > (0 : Int))) (.no false (rx UC a.x0))))
theorem GX (call : CallF)  (a : Qx) : (VP Tryz.prog call  a).norm (roundT Tryz.prog G.kd call 0 (G.an 116) (loopAt Tryz.prog 116 1) (UB a)) = VP Tryz.prog call  a := by kernel_rfl
theorem GY (P : Program) (call : CallF) (lp : Loops)   (a : Qx) : (VP P call  a).ok lp (Sum.elim (fun a => (.norm, UB a)) UC) := ⟨rfl, fun hq0 => ⟨hq0, ⟨rfl, fun hq1 => yesN_ok 3 (hq0) (⟨rfl, fun hq2 => ⟨rfl, fun hq3 => rfl, fun hq3 => trivial⟩, fun hq2 => rfl⟩), fun hq1 => trivial⟩⟩, fun hq0 => noN_ok 4 (hq0) (⟨rfl, rfl⟩)⟩
def Ur.s (k : Nat)  : Qx → Option ByteArray := iter (GW ) k
theorem GS (call : CallF) (k : Nat)   (a : Qx) (r : ByteArray) (h : Ur.s k  a = some r) : loopsF Tryz.prog G.kd call 0 (G.an 116) k (loopAt Tryz.prog 116 1) (UB a) = some (UC r) :=
  loop_ok (fun a => VP Tryz.prog call  a) (fun _ => rfl) (fun a => GX call  a) (fun a => GY _ call _   a) (fun r => nofun) h
theorem Ur.m {j k : Nat} (hj : j ≤ k)    (a : Qx) : Le (Ur.s j  a) (Ur.s k  a) := Le.iter (fun a => .refl _) hj a
def Wt (L0 : Qx → Option ByteArray) (a0 : ByteArray) (a1 : Int) : Option ByteArray := ((L0 (Qx.mk a0 a1)).bind (fun (o1 : ByteArray) => (some o1)))
def Wu (P : Program) (call : CallF) (L0 : Qx → Option ByteArray) (a0 : ByteArray) (a1 : Int) : Tr ByteArray (AV × Heap) := (.loop (loopAt P 116 1) (UB (Qx.mk a0 a1)) (L0 (Qx.mk a0 a1)) UC (fun (o1 : ByteArray) => (rt Vy o1)))
theorem EQ (call : CallF) (L0 : Qx → Option ByteArray) (a0 : ByteArray) (a1 : Int) : (Wu Tryz.prog call L0 a0 a1).norm (bodyT Tryz.prog call G 116 [.sc (.string a0), .sc (.int .u8 a1)] []) = Wu Tryz.prog call L0 a0 a1 := by kernel_rfl
theorem ER (P : Program) (call : CallF) (lp : Loops) (L0 : Qx → Option ByteArray) (N0 : ∀ (a : Qx) (r : ByteArray), L0 a = some r → lp (loopAt P 116 1) (UB a) = some (UC r)) (a0 : ByteArray) (a1 : Int) : (Wu P call L0 a0 a1).ok lp Vy := fun o1 ho1 => ⟨N0 _ _ ho1, rfl⟩
theorem ES {L0 : Nat → Qx → Option ByteArray} {M0 : Qx → Option ByteArray} (N0 : ∀ a, Cv (fun k => L0 k a) (M0 a)) (a0 : ByteArray) (a1 : Int) : Cv (fun k => Wt (L0 k) a0 a1) (Wt M0 a0 a1) := by
  unfold Wt
  exact .bind (N0 _) (fun o1 => by exact .const _)
def Ud.s : Nat → ByteArray → Int → Option ByteArray
  | 0, _, _ => none
  | k + 1, a0, a1 => Wt (Ur.s k) a0 a1
theorem Ud.ok : ∀ (k : Nat), ∀ (a0 : ByteArray) (a1 : Int) (r : ByteArray), Ud.s k a0 a1 = some r → evalFn Tryz.prog G k 116 [.sc (.string a0), .sc (.int .u8 a1)] [] = some (Vy r)
  | 0, _, _, _, h => (nomatch h)
  | k + 1, a0, a1, r, h => fn_ok rfl (Wu Tryz.prog (evalFn Tryz.prog G k) (Ur.s k) a0 a1) (EQ _ _ a0 a1) (ER _ _ _ _  (GS _ k) a0 a1) h
theorem Ud.mono : ∀ (k : Nat) (a0 : ByteArray) (a1 : Int), Le (Ud.s k a0 a1) (Ud.s (k + 1) a0 a1)
  | 0, _, _ => fun r h => (nomatch h)
  | k + 1, a0, a1 => (ES (fun a => .two ((Ur.m (Nat.le_succ k)) a)) a0 a1).1 0
def VK (r : ByteArray) : AV × Heap := (.sc (.string r), [])
def XP (C0 : ByteArray → Int → Option ByteArray) (a0 : ByteArray) : Option ByteArray := (bif (eqS a0 s_) then (some a0) else ((C0 a0 (32 : Int)).bind fun (r1 : ByteArray) => (some r1)))
def XQ (P : Program) (call : CallF) (C0 : ByteArray → Int → Option ByteArray) (a0 : ByteArray) : Tr ByteArray (AV × Heap) := (.as (eqS a0 s_) (yesN 2 (eqS a0 s_) (.yes true (rt VK a0))) (noN 2 (eqS a0 s_) (.no false (yesN 2 true (.yes (decide (0 ≤ (0 : Int) ∧ (0 : Int) < ((h_20.size : Nat) : Int))) (yesN 3 true (.yes (decide (0 ≤ (0 : Int) ∧ (0 : Int) < ((h_20.size : Nat) : Int))) (.call (call 116 [.sc (.string a0), .sc (.int .u8 (32 : Int))] []) (C0 a0 (32 : Int)) Vy fun (r1 : ByteArray) => (rt VK r1)))))))))
theorem Pv (call : CallF) (C0 : ByteArray → Int → Option ByteArray) (a0 : ByteArray) : (XQ Tryz.prog call C0 a0).norm (bodyT Tryz.prog call G 245 [.sc (.string a0), .sc (.string h_20)] []) = XQ Tryz.prog call C0 a0 := by kernel_rfl
theorem Pw (P : Program) (call : CallF) (lp : Loops) (C0 : ByteArray → Int → Option ByteArray) (K0 : ∀ (a0 : ByteArray) (a1 : Int) (r : ByteArray), C0 a0 a1 = some r → (call 116 [.sc (.string a0), .sc (.int .u8 a1)] []) = some (Vy r)) (a0 : ByteArray) : (XQ P call C0 a0).ok lp VK := ⟨rfl, fun hq0 => yesN_ok 2 (hq0) (⟨rfl, rfl⟩), fun hq0 => noN_ok 2 (hq0) (⟨rfl, yesN_ok 2 (rfl) (⟨(by decide), yesN_ok 3 (rfl) (⟨(by decide), fun r1 hr1 => ⟨K0 _ _ _ hr1, rfl⟩⟩)⟩)⟩)⟩
theorem Px {C0 : Nat → ByteArray → Int → Option ByteArray} {D0 : ByteArray → Int → Option ByteArray} (H0 : ∀ (a0 : ByteArray) (a1 : Int), Cv (fun k => C0 k a0 a1) (D0 a0 a1)) (a0 : ByteArray) : Cv (fun k => XP (C0 k) a0) (XP D0 a0) := by
  unfold XP
  exact .cond (by exact .const _) (.bind (H0 _ _) fun r1 => by exact .const _)
def UV.s : Nat → ByteArray → Option ByteArray
  | 0, _ => none
  | k + 1, a0 => XP (fun a0 a1 => Ud.s k a0 a1) a0
theorem UV.ok : ∀ (k : Nat), ∀ (a0 : ByteArray) (r : ByteArray), UV.s k a0 = some r → evalFn Tryz.prog G k 245 [.sc (.string a0), .sc (.string h_20)] [] = some (VK r)
  | 0, _, _, h => (nomatch h)
  | k + 1, a0, r, h => fn_ok rfl (XQ Tryz.prog (evalFn Tryz.prog G k) (fun a0 a1 => Ud.s k a0 a1) a0) (Pv _ _ a0) (Pw _ _ _ _ (Ud.ok k)  a0) h
theorem UV.mono : ∀ (k : Nat) (a0 : ByteArray), Le (UV.s k a0) (UV.s (k + 1) a0)
  | 0, _ => fun r h => (nomatch h)
  | k + 1, a0 => (Px (fun a0 a1 => .two ((Ud.mono k) a0 a1)) a0).1 0
def UW (r : Qa) : AV × Heap := (.tup [], [(0, .box [] (Qh r))])
def WV (C0 : ByteArray → Option ByteArray) (h0 : Qa) : Option Qa := ((C0 h0.left).bind fun (r1 : ByteArray) => (some (Qa.mk r1 h0.deep h0.bad)))
def WW (P : Program) (call : CallF) (C0 : ByteArray → Option ByteArray) (h0 : Qa) : Tr Qa (AV × Heap) := (.call (call 245 [.sc (.string h0.left), .sc (.string h_20)] []) (C0 h0.left) VK fun (r1 : ByteArray) => (rt UW (Qa.mk r1 h0.deep h0.bad)))
theorem FB (call : CallF) (C0 : ByteArray → Option ByteArray) (h0 : Qa) : (WW Tryz.prog call C0 h0).norm (bodyT Tryz.prog call G 216 [.ptr 0 0] [(0, .box [] (Qh h0))]) = WW Tryz.prog call C0 h0 := by kernel_rfl
theorem FC (P : Program) (call : CallF) (lp : Loops) (C0 : ByteArray → Option ByteArray) (K0 : ∀ (a0 : ByteArray) (r : ByteArray), C0 a0 = some r → (call 245 [.sc (.string a0), .sc (.string h_20)] []) = some (VK r)) (h0 : Qa) : (WW P call C0 h0).ok lp UW := fun r1 hr1 => ⟨K0 _ _ hr1, rfl⟩
theorem FD {C0 : Nat → ByteArray → Option ByteArray} {D0 : ByteArray → Option ByteArray} (H0 : ∀ (a0 : ByteArray), Cv (fun k => C0 k a0) (D0 a0)) (h0 : Qa) : Cv (fun k => WV (C0 k) h0) (WV D0 h0) := by
  unfold WV
  exact .bind (H0 _) fun r1 => by exact .const _
def JM.s : Nat → Qa → Option Qa
  | 0, _ => none
  | k + 1, h0 => WV (fun a0 => UV.s k a0) h0
theorem JM.ok : ∀ (k : Nat), ∀ (h0 : Qa) (r : Qa), JM.s k h0 = some r → evalFn Tryz.prog G k 216 [.ptr 0 0] [(0, .box [] (Qh h0))] = some (UW r)
  | 0, _, _, h => (nomatch h)
  | k + 1, h0, r, h => fn_ok rfl (WW Tryz.prog (evalFn Tryz.prog G k) (fun a0 => UV.s k a0) h0) (FB _ _ h0) (FC _ _ _ _ (UV.ok k)  h0) h
theorem JM.mono : ∀ (k : Nat) (h0 : Qa), Le (JM.s k h0) (JM.s (k + 1) h0)
  | 0, _ => fun r h => (nomatch h)
  | k + 1, h0 => (FD (fun a0 => .two ((UV.mono k) a0)) h0).1 0
def J8 (r : Bool) : AV × Heap := (.sc (.bool r), [])
def Ez  (a0 : ByteArray) (a1 : ByteArray) : Option Bool := (bif (decide (((a0.size : Nat) : Int) ≥ ((a1.size : Nat) : Int))) then (bif (decide (0 ≤ (0 : Int) ∧ (0 : Int) ≤ ((a1.size : Nat) : Int) ∧ ((a1.size : Nat) : Int) ≤ ((a0.size : Nat) : Int))) then (some (eqS (a0.extract (Int.toNat (0 : Int)) (Int.toNat ((a1.size : Nat) : Int))) a1)) else none) else (some false))
def Wi (P : Program) (call : CallF)  (a0 : ByteArray) (a1 : ByteArray) : Tr Bool (AV × Heap) := (.as (decide (((a0.size : Nat) : Int) ≥ ((a1.size : Nat) : Int))) (yesN 3 (decide (((a0.size : Nat) : Int) ≥ ((a1.size : Nat) : Int))) (.as (decide (0 ≤ (0 : Int) ∧ (0 : Int) ≤ ((a1.size : Nat) : Int) ∧ ((a1.size : Nat) : Int) ≤ ((a0.size : Nat) : Int))) (yesN 3 (decide (((a0.size : Nat) : Int) ≥ ((a1.size : Nat) : Int))) (rt J8 (eqS (a0.extract (Int.toNat (0 : Int)) (Int.toNat ((a1.size : Nat) : Int))) a1))) .fail)) (noN 6 (decide (((a0.size : Nat) : Int) ≥ ((a1.size : Nat) : Int))) (rt J8 false)))
theorem EA (call : CallF)  (a0 : ByteArray) (a1 : ByteArray) : (Wi Tryz.prog call  a0 a1).norm (bodyT Tryz.prog call G 284 [.sc (.string a0), .sc (.string a1)] []) = Wi Tryz.prog call  a0 a1 := by kernel_rfl
theorem EB (P : Program) (call : CallF) (lp : Loops)   (a0 : ByteArray) (a1 : ByteArray) : (Wi P call  a0 a1).ok lp J8 := ⟨rfl, fun hq0 => yesN_ok 3 (hq0) (⟨rfl, fun hq1 => yesN_ok 3 (hq0) (rfl), fun hq1 => trivial⟩), fun hq0 => noN_ok 6 (hq0) (rfl)⟩
def Jo.s : Nat → ByteArray → ByteArray → Option Bool
  | 0, _, _ => none
  | k + 1, a0, a1 => Ez  a0 a1
theorem Jo.ok : ∀ (k : Nat), ∀ (a0 : ByteArray) (a1 : ByteArray) (r : Bool), Jo.s k a0 a1 = some r → evalFn Tryz.prog G k 284 [.sc (.string a0), .sc (.string a1)] [] = some (J8 r)
  | 0, _, _, _, h => (nomatch h)
  | k + 1, a0, a1, r, h => fn_ok rfl (Wi Tryz.prog (evalFn Tryz.prog G k)  a0 a1) (EA _  a0 a1) (EB _ _ _    a0 a1) h
theorem Jo.mono : ∀ (k : Nat) (a0 : ByteArray) (a1 : ByteArray), Le (Jo.s k a0 a1) (Jo.s (k + 1) a0 a1)
  | 0, _, _ => fun r h => (nomatch h)
  | k + 1, a0, a1 => .refl _
def Wn (r : Bool) : AV × Heap := (.sc (.bool r), [])
def Xs (C0 : ByteArray → ByteArray → Option Bool) (a0 : ByteArray) (a1 : ByteArray) : Option Bool := ((C0 a0 a1).bind fun (r1 : Bool) => (some r1))
def Xt (P : Program) (call : CallF) (C0 : ByteArray → ByteArray → Option Bool) (a0 : ByteArray) (a1 : ByteArray) : Tr Bool (AV × Heap) := (.call (call 284 [.sc (.string a0), .sc (.string a1)] []) (C0 a0 a1) J8 fun (r1 : Bool) => (rt Wn r1))
theorem FT (call : CallF) (C0 : ByteArray → ByteArray → Option Bool) (a0 : ByteArray) (a1 : ByteArray) : (Xt Tryz.prog call C0 a0 a1).norm (bodyT Tryz.prog call G 265 [.sc (.string a0), .sc (.string a1)] []) = Xt Tryz.prog call C0 a0 a1 := by kernel_rfl
theorem FU (P : Program) (call : CallF) (lp : Loops) (C0 : ByteArray → ByteArray → Option Bool) (K0 : ∀ (a0 : ByteArray) (a1 : ByteArray) (r : Bool), C0 a0 a1 = some r → (call 284 [.sc (.string a0), .sc (.string a1)] []) = some (J8 r)) (a0 : ByteArray) (a1 : ByteArray) : (Xt P call C0 a0 a1).ok lp Wn := fun r1 hr1 => ⟨K0 _ _ _ hr1, rfl⟩
theorem FV {C0 : Nat → ByteArray → ByteArray → Option Bool} {D0 : ByteArray → ByteArray → Option Bool} (H0 : ∀ (a0 : ByteArray) (a1 : ByteArray), Cv (fun k => C0 k a0 a1) (D0 a0 a1)) (a0 : ByteArray) (a1 : ByteArray) : Cv (fun k => Xs (C0 k) a0 a1) (Xs D0 a0 a1) := by
  unfold Xs
  exact .bind (H0 _ _) fun r1 => by exact .const _
def UE.s : Nat → ByteArray → ByteArray → Option Bool
  | 0, _, _ => none
  | k + 1, a0, a1 => Xs (fun a0 a1 => Jo.s k a0 a1) a0 a1
theorem UE.ok : ∀ (k : Nat), ∀ (a0 : ByteArray) (a1 : ByteArray) (r : Bool), UE.s k a0 a1 = some r → evalFn Tryz.prog G k 265 [.sc (.string a0), .sc (.string a1)] [] = some (Wn r)
  | 0, _, _, _, h => (nomatch h)
  | k + 1, a0, a1, r, h => fn_ok rfl (Xt Tryz.prog (evalFn Tryz.prog G k) (fun a0 a1 => Jo.s k a0 a1) a0 a1) (FT _ _ a0 a1) (FU _ _ _ _ (Jo.ok k)  a0 a1) h
theorem UE.mono : ∀ (k : Nat) (a0 : ByteArray) (a1 : ByteArray), Le (UE.s k a0 a1) (UE.s (k + 1) a0 a1)
  | 0, _, _ => fun r h => (nomatch h)
  | k + 1, a0, a1 => (FV (fun a0 a1 => .two ((Jo.mono k) a0 a1)) a0 a1).1 0
def JB (r : (Bool × Qa)) : AV × Heap := (.sc (.bool r.1), [(0, .box [] (Qh r.2))])
def XR (C0 : Qa → Option Qa) (C1 : ByteArray → ByteArray → Option Bool) (a1 : ByteArray) (h0 : Qa) : Option (Bool × Qa) := ((C0 h0).bind fun (r1 : Qa) => (bif r1.bad then (some (false, r1)) else ((C1 r1.left a1).bind fun (r2 : Bool) => (bif (!r2) then (some (false, r1)) else (bif (decide (0 ≤ ((a1.size : Nat) : Int) ∧ ((a1.size : Nat) : Int) ≤ ((r1.left.size : Nat) : Int) ∧ ((r1.left.size : Nat) : Int) ≤ ((r1.left.size : Nat) : Int))) then (some (true, (Qa.mk (r1.left.extract (Int.toNat ((a1.size : Nat) : Int)) (Int.toNat ((r1.left.size : Nat) : Int))) r1.deep r1.bad))) else none)))))
def XS (P : Program) (call : CallF) (C0 : Qa → Option Qa) (C1 : ByteArray → ByteArray → Option Bool) (a1 : ByteArray) (h0 : Qa) : Tr (Bool × Qa) (AV × Heap) := (.call (call 216 [.ptr 0 0] [(0, .box [] (Qh h0))]) (C0 h0) UW fun (r1 : Qa) => (.as r1.bad (yesN 7 r1.bad (.yes true (rt JB (false, r1)))) (noN 5 r1.bad (.call (call 265 [.sc (.string r1.left), .sc (.string a1)] []) (C1 r1.left a1) Wn fun (r2 : Bool) => (noN 2 r1.bad (.as (!r2) (rt JB (false, r1)) (.as (decide (0 ≤ ((a1.size : Nat) : Int) ∧ ((a1.size : Nat) : Int) ≤ ((r1.left.size : Nat) : Int) ∧ ((r1.left.size : Nat) : Int) ≤ ((r1.left.size : Nat) : Int))) (rt JB (true, (Qa.mk (r1.left.extract (Int.toNat ((a1.size : Nat) : Int)) (Int.toNat ((r1.left.size : Nat) : Int))) r1.deep r1.bad))) .fail)))))))
theorem Py (call : CallF) (C0 : Qa → Option Qa) (C1 : ByteArray → ByteArray → Option Bool) (a1 : ByteArray) (h0 : Qa) : (XS Tryz.prog call C0 C1 a1 h0).norm (bodyT Tryz.prog call G 261 [.ptr 0 0, .sc (.string a1)] [(0, .box [] (Qh h0))]) = XS Tryz.prog call C0 C1 a1 h0 := by kernel_rfl
theorem Pz (P : Program) (call : CallF) (lp : Loops) (C0 : Qa → Option Qa) (C1 : ByteArray → ByteArray → Option Bool) (K0 : ∀ (h0 : Qa) (r : Qa), C0 h0 = some r → (call 216 [.ptr 0 0] [(0, .box [] (Qh h0))]) = some (UW r)) (K1 : ∀ (a0 : ByteArray) (a1 : ByteArray) (r : Bool), C1 a0 a1 = some r → (call 265 [.sc (.string a0), .sc (.string a1)] []) = some (Wn r)) (a1 : ByteArray) (h0 : Qa) : (XS P call C0 C1 a1 h0).ok lp JB := fun r1 hr1 => ⟨K0 _ _ hr1, ⟨rfl, fun hq0 => yesN_ok 7 (hq0) (⟨rfl, rfl⟩), fun hq0 => noN_ok 5 (hq0) (fun r2 hr2 => ⟨K1 _ _ _ hr2, noN_ok 2 (hq0) (⟨rfl, fun hq1 => rfl, fun hq1 => ⟨rfl, fun hq2 => rfl, fun hq2 => trivial⟩⟩)⟩)⟩⟩
theorem PA {C0 : Nat → Qa → Option Qa} {D0 : Qa → Option Qa} (H0 : ∀ (h0 : Qa), Cv (fun k => C0 k h0) (D0 h0)) {C1 : Nat → ByteArray → ByteArray → Option Bool} {D1 : ByteArray → ByteArray → Option Bool} (H1 : ∀ (a0 : ByteArray) (a1 : ByteArray), Cv (fun k => C1 k a0 a1) (D1 a0 a1)) (a1 : ByteArray) (h0 : Qa) : Cv (fun k => XR (C0 k) (C1 k) a1 h0) (XR D0 D1 a1 h0) := by
  unfold XR
  exact .bind (H0 _) fun r1 => .cond (by exact .const _) (.bind (H1 _ _) fun r2 => by exact .const _)
def Jg.s : Nat → ByteArray → Qa → Option (Bool × Qa)
  | 0, _, _ => none
  | k + 1, a1, h0 => XR (fun h0 => JM.s k h0) (fun a0 a1 => UE.s k a0 a1) a1 h0
theorem Jg.ok : ∀ (k : Nat), ∀ (a1 : ByteArray) (h0 : Qa) (r : (Bool × Qa)), Jg.s k a1 h0 = some r → evalFn Tryz.prog G k 261 [.ptr 0 0, .sc (.string a1)] [(0, .box [] (Qh h0))] = some (JB r)
  | 0, _, _, _, h => (nomatch h)
  | k + 1, a1, h0, r, h => fn_ok rfl (XS Tryz.prog (evalFn Tryz.prog G k) (fun h0 => JM.s k h0) (fun a0 a1 => UE.s k a0 a1) a1 h0) (Py _ _ _ a1 h0) (Pz _ _ _ _ _ (JM.ok k) (UE.ok k)  a1 h0) h
theorem Jg.mono : ∀ (k : Nat) (a1 : ByteArray) (h0 : Qa), Le (Jg.s k a1 h0) (Jg.s (k + 1) a1 h0)
  | 0, _, _ => fun r h => (nomatch h)
  | k + 1, a1, h0 => (PA (fun h0 => .two ((JM.mono k) h0)) (fun a0 a1 => .two ((UE.mono k) a0 a1)) a1 h0).1 0
def Q9 (r : (Qc × Qa)) : AV × Heap := (.agg (QQ r.1), [(0, .box [] (Qh r.2))])
def PB  (h0 : Qa) : Option (Qc × Qa) := (some ((Qc.mk (0 : Int) (0 : Int) s_ ([] : List Qc)), (Qa.mk h0.left h0.deep true)))
def XT (P : Program) (call : CallF)  (h0 : Qa) : Tr (Qc × Qa) (AV × Heap) := (rt Q9 ((Qc.mk (0 : Int) (0 : Int) s_ ([] : List Qc)), (Qa.mk h0.left h0.deep true)))
theorem PC (call : CallF)  (h0 : Qa) : (XT Tryz.prog call  h0).norm (bodyT Tryz.prog call G 273 [.ptr 0 0] [(0, .box [] (Qh h0))]) = XT Tryz.prog call  h0 := by kernel_rfl
theorem PD (P : Program) (call : CallF) (lp : Loops)   (h0 : Qa) : (XT P call  h0).ok lp Q9 := rfl
def QA.s : Nat → Qa → Option (Qc × Qa)
  | 0, _ => none
  | k + 1, h0 => PB  h0
theorem QA.ok : ∀ (k : Nat), ∀ (h0 : Qa) (r : (Qc × Qa)), QA.s k h0 = some r → evalFn Tryz.prog G k 273 [.ptr 0 0] [(0, .box [] (Qh h0))] = some (Q9 r)
  | 0, _, _, h => (nomatch h)
  | k + 1, h0, r, h => fn_ok rfl (XT Tryz.prog (evalFn Tryz.prog G k)  h0) (PC _  h0) (PD _ _ _    h0) h
theorem QA.mono : ∀ (k : Nat) (h0 : Qa), Le (QA.s k h0) (QA.s (k + 1) h0)
  | 0, _ => fun r h => (nomatch h)
  | k + 1, h0 => .refl _
def VL (r : Bool) : AV × Heap := (.sc (.bool r), [])
def WK (C0 : ByteArray → ByteArray → Option Bool) (a0 : ByteArray) : Option Bool := ((C0 a0 s_0x).bind fun (r1 : Bool) => (some r1))
def WL (P : Program) (call : CallF) (C0 : ByteArray → ByteArray → Option Bool) (a0 : ByteArray) : Tr Bool (AV × Heap) := (.call (call 284 [.sc (.string a0), .sc (.string s_0x)] []) (C0 a0 s_0x) J8 fun (r1 : Bool) => (rt VL r1))
theorem Fk (call : CallF) (C0 : ByteArray → ByteArray → Option Bool) (a0 : ByteArray) : (WL Tryz.prog call C0 a0).norm (bodyT Tryz.prog call G 265 [.sc (.string a0), .sc (.string s_0x)] []) = WL Tryz.prog call C0 a0 := by kernel_rfl
theorem Fl (P : Program) (call : CallF) (lp : Loops) (C0 : ByteArray → ByteArray → Option Bool) (K0 : ∀ (a0 : ByteArray) (a1 : ByteArray) (r : Bool), C0 a0 a1 = some r → (call 284 [.sc (.string a0), .sc (.string a1)] []) = some (J8 r)) (a0 : ByteArray) : (WL P call C0 a0).ok lp VL := fun r1 hr1 => ⟨K0 _ _ _ hr1, rfl⟩
theorem Fm {C0 : Nat → ByteArray → ByteArray → Option Bool} {D0 : ByteArray → ByteArray → Option Bool} (H0 : ∀ (a0 : ByteArray) (a1 : ByteArray), Cv (fun k => C0 k a0 a1) (D0 a0 a1)) (a0 : ByteArray) : Cv (fun k => WK (C0 k) a0) (WK D0 a0) := by
  unfold WK
  exact .bind (H0 _ _) fun r1 => by exact .const _
def Um.s : Nat → ByteArray → Option Bool
  | 0, _ => none
  | k + 1, a0 => WK (fun a0 a1 => Jo.s k a0 a1) a0
theorem Um.ok : ∀ (k : Nat), ∀ (a0 : ByteArray) (r : Bool), Um.s k a0 = some r → evalFn Tryz.prog G k 265 [.sc (.string a0), .sc (.string s_0x)] [] = some (VL r)
  | 0, _, _, h => (nomatch h)
  | k + 1, a0, r, h => fn_ok rfl (WL Tryz.prog (evalFn Tryz.prog G k) (fun a0 a1 => Jo.s k a0 a1) a0) (Fk _ _ a0) (Fl _ _ _ _ (Jo.ok k)  a0) h
theorem Um.mono : ∀ (k : Nat) (a0 : ByteArray), Le (Um.s k a0) (Um.s (k + 1) a0)
  | 0, _ => fun r h => (nomatch h)
  | k + 1, a0 => (Fm (fun a0 a1 => .two ((Jo.mono k) a0 a1)) a0).1 0
def UJ (r : Bool) : AV × Heap := (.sc (.bool r), [])
def QaD  (a0 : Int) : Option Bool := (bif (decide (a0 ≥ (48 : Int))) then (some (decide (a0 ≤ (57 : Int)))) else (some false))
def ZP (P : Program) (call : CallF)  (a0 : Int) : Tr Bool (AV × Heap) := (.as (decide (a0 ≥ (48 : Int))) (yesN 2 (decide (a0 ≥ (48 : Int))) (rt UJ (decide (a0 ≤ (57 : Int))))) (noN 2 (decide (a0 ≥ (48 : Int))) (rt UJ false)))
theorem QaE (call : CallF)  (a0 : Int) : (ZP Tryz.prog call  a0).norm (bodyT Tryz.prog call G 270 [.sc (.int .i32 a0)] []) = ZP Tryz.prog call  a0 := by kernel_rfl
theorem QaF (P : Program) (call : CallF) (lp : Loops)   (a0 : Int) : (ZP P call  a0).ok lp UJ := ⟨rfl, fun hq0 => yesN_ok 2 (hq0) (rfl), fun hq0 => noN_ok 2 (hq0) (rfl)⟩
def JO.s : Nat → Int → Option Bool
  | 0, _ => none
  | k + 1, a0 => QaD  a0
theorem JO.ok : ∀ (k : Nat), ∀ (a0 : Int) (r : Bool), JO.s k a0 = some r → evalFn Tryz.prog G k 270 [.sc (.int .i32 a0)] [] = some (UJ r)
  | 0, _, _, h => (nomatch h)
  | k + 1, a0, r, h => fn_ok rfl (ZP Tryz.prog (evalFn Tryz.prog G k)  a0) (QaE _  a0) (QaF _ _ _    a0) h
theorem JO.mono : ∀ (k : Nat) (a0 : Int), Le (JO.s k a0) (JO.s (k + 1) a0)
  | 0, _ => fun r h => (nomatch h)
  | k + 1, a0 => .refl _
def XU (r : Bool) : AV × Heap := (.sc (.bool r), [])
def GZ (C0 : Int → Option Bool) (a0 : Int) : Option Bool := ((C0 a0).bind fun (r1 : Bool) => (bif r1 then (some true) else (bif (decide (a0 ≥ (97 : Int))) then (some (decide (a0 ≤ (102 : Int)))) else (some false))))
def G0 (P : Program) (call : CallF) (C0 : Int → Option Bool) (a0 : Int) : Tr Bool (AV × Heap) := (.call (call 270 [.sc (.int .i32 a0)] []) (C0 a0) UJ fun (r1 : Bool) => (.as r1 (yesN 4 r1 (rt XU true)) (noN 2 r1 (.as (decide (a0 ≥ (97 : Int))) (.yes (decide (a0 ≥ (97 : Int))) (.no r1 (.yes (decide (a0 ≥ (97 : Int))) (.no r1 (rt XU (decide (a0 ≤ (102 : Int)))))))) (.no (decide (a0 ≥ (97 : Int))) (.no r1 (.no (decide (a0 ≥ (97 : Int))) (.no r1 (rt XU false)))))))))
theorem QbL (call : CallF) (C0 : Int → Option Bool) (a0 : Int) : (G0 Tryz.prog call C0 a0).norm (bodyT Tryz.prog call G 267 [.sc (.int .i32 a0)] []) = G0 Tryz.prog call C0 a0 := by kernel_rfl
theorem QbM (P : Program) (call : CallF) (lp : Loops) (C0 : Int → Option Bool) (K0 : ∀ (a0 : Int) (r : Bool), C0 a0 = some r → (call 270 [.sc (.int .i32 a0)] []) = some (UJ r)) (a0 : Int) : (G0 P call C0 a0).ok lp XU := fun r1 hr1 => ⟨K0 _ _ hr1, ⟨rfl, fun hq0 => yesN_ok 4 (hq0) (rfl), fun hq0 => noN_ok 2 (hq0) (⟨rfl, fun hq1 => ⟨hq1, ⟨hq0, ⟨hq1, ⟨hq0, rfl⟩⟩⟩⟩, fun hq1 => ⟨hq1, ⟨hq0, ⟨hq1, ⟨hq0, rfl⟩⟩⟩⟩⟩)⟩⟩
theorem QbN {C0 : Nat → Int → Option Bool} {D0 : Int → Option Bool} (H0 : ∀ (a0 : Int), Cv (fun k => C0 k a0) (D0 a0)) (a0 : Int) : Cv (fun k => GZ (C0 k) a0) (GZ D0 a0) := by
  unfold GZ
  exact .bind (H0 _) fun r1 => by exact .const _
def Xj.s : Nat → Int → Option Bool
  | 0, _ => none
  | k + 1, a0 => GZ (fun a0 => JO.s k a0) a0
theorem Xj.ok : ∀ (k : Nat), ∀ (a0 : Int) (r : Bool), Xj.s k a0 = some r → evalFn Tryz.prog G k 267 [.sc (.int .i32 a0)] [] = some (XU r)
  | 0, _, _, h => (nomatch h)
  | k + 1, a0, r, h => fn_ok rfl (G0 Tryz.prog (evalFn Tryz.prog G k) (fun a0 => JO.s k a0) a0) (QbL _ _ a0) (QbM _ _ _ _ (JO.ok k)  a0) h
theorem Xj.mono : ∀ (k : Nat) (a0 : Int), Le (Xj.s k a0) (Xj.s (k + 1) a0)
  | 0, _ => fun r h => (nomatch h)
  | k + 1, a0 => (QbN (fun a0 => .two ((JO.mono k) a0)) a0).1 0
def YL (r : ByteArray) : AV × Heap := (.sc (.string r), [])
structure Js where
  x0 : ByteArray
  i0s : ByteArray
  i0p : Nat
def Yl (a : Js) : St := { n := 21, nx := 1, env := [(0, .sc (.string a.x0)), (1, .fn (.func 267) [] []), (8, .it 0)], heap := [(0, .iter a.i0s a.i0p)] }
def FP (a : ByteArray) : Ex × St := (.ret, { n := 21, nx := 0, env := [(4, .sc (.string a))], heap := [] })
def FQ (a : ByteArray) : Ex × St := (.exit 0, { n := 21, nx := 0, env := [(0, .sc (.string a))], heap := [] })
def YM (a : (ByteArray ⊕ ByteArray)) : Ex × St := Sum.elim FP FQ a
def ZQ (C0 : Int → Option Bool) (a : Js) : Option (Js ⊕ (ByteArray ⊕ ByteArray)) := (bif (decide (a.i0p < a.i0s.size)) then ((C0 (((Utf8.decode a.i0s a.i0p).1 : Nat) : Int)).bind fun (r1 : Bool) => (bif (!r1) then (bif (decide (0 ≤ (0 : Int) ∧ (0 : Int) ≤ ((a.i0p : Nat) : Int) ∧ ((a.i0p : Nat) : Int) ≤ ((a.x0.size : Nat) : Int))) then (some (.inr (.inl (a.x0.extract (Int.toNat (0 : Int)) (Int.toNat ((a.i0p : Nat) : Int)))))) else none) else (some (.inl (Js.mk a.x0 a.i0s (a.i0p + (Utf8.decode a.i0s a.i0p).2)))))) else (some (.inr (.inr a.x0))))
def ZR (P : Program) (call : CallF) (C0 : Int → Option Bool) (a : Js) : Tr (Js ⊕ (ByteArray ⊕ ByteArray)) (Ex × St) := (.as (decide (a.i0p < a.i0s.size)) (.yes true (.call (call 267 [.sc (.int .i32 (((Utf8.decode a.i0s a.i0p).1 : Nat) : Int))] []) (C0 (((Utf8.decode a.i0s a.i0p).1 : Nat) : Int)) XU fun (r1 : Bool) => (.as (!r1) (.as (decide (0 ≤ (0 : Int) ∧ (0 : Int) ≤ ((a.i0p : Nat) : Int) ∧ ((a.i0p : Nat) : Int) ≤ ((a.x0.size : Nat) : Int))) (rx YM (.inl (a.x0.extract (Int.toNat (0 : Int)) (Int.toNat ((a.i0p : Nat) : Int))))) .fail) (lf Yl (Js.mk a.x0 a.i0s (a.i0p + (Utf8.decode a.i0s a.i0p).2)))))) (.no false (rx YM (.inr a.x0))))
theorem QaG (call : CallF) (C0 : Int → Option Bool) (a : Js) : (ZR Tryz.prog call C0 a).norm (roundT Tryz.prog G.kd call 0 (G.an 266) (loopAt Tryz.prog 266 2) (Yl a)) = ZR Tryz.prog call C0 a := by kernel_rfl
theorem QaH (P : Program) (call : CallF) (lp : Loops) (C0 : Int → Option Bool) (K0 : ∀ (a0 : Int) (r : Bool), C0 a0 = some r → (call 267 [.sc (.int .i32 a0)] []) = some (XU r)) (a : Js) : (ZR P call C0 a).ok lp (Sum.elim (fun a => (.norm, Yl a)) YM) := ⟨rfl, fun hq0 => ⟨rfl, fun r1 hr1 => ⟨K0 _ _ hr1, ⟨rfl, fun hq1 => ⟨rfl, fun hq2 => rfl, fun hq2 => trivial⟩, fun hq1 => rfl⟩⟩⟩, fun hq0 => ⟨rfl, rfl⟩⟩
theorem QaI {C0 : Nat → Int → Option Bool} {D0 : Int → Option Bool} (H0 : ∀ (a0 : Int), Cv (fun k => C0 k a0) (D0 a0)) (a : Js) : Cv (fun k => ZQ (C0 k) a) (ZQ D0 a) := by
  unfold ZQ
  exact .cond (.bind (H0 _) fun r1 => by exact .const _) (by exact .const _)
def Yt.s (k : Nat) (C0 : Int → Option Bool) : Js → Option (ByteArray ⊕ ByteArray) := iter (ZQ C0) k
theorem Qai (call : CallF) (k : Nat) (C0 : Int → Option Bool) (K0 : ∀ (a0 : Int) (r : Bool), C0 a0 = some r → (call 267 [.sc (.int .i32 a0)] []) = some (XU r)) (a : Js) (r : (ByteArray ⊕ ByteArray)) (h : Yt.s k C0 a = some r) : loopsF Tryz.prog G.kd call 0 (G.an 266) k (loopAt Tryz.prog 266 2) (Yl a) = some (YM r) :=
  loop_ok (fun a => ZR Tryz.prog call C0 a) (fun _ => rfl) (fun a => QaG call _ a) (fun a => QaH _ call _ _ K0 a) (fun r => by cases r <;> nofun) h
theorem Yt.m {j k : Nat} (hj : j ≤ k) (C0 : Int → Option Bool) (D0 : Int → Option Bool) (H0 : ∀ (a0 : Int), Le (C0 a0) (D0 a0)) (a : Js) : Le (Yt.s j C0 a) (Yt.s k D0 a) := Le.iter (fun a => (QaI (fun a0 => .two (H0 a0)) a).1 0) hj a
def EJ (L0 : Js → Option (ByteArray ⊕ ByteArray)) (a0 : ByteArray) : Option ByteArray := ((L0 (Js.mk a0 a0 0)).bind fun x => Sum.elim (fun (o1 : ByteArray) => (some o1)) (fun (o2 : ByteArray) => (some o2)) x)
def EK (P : Program) (call : CallF) (L0 : Js → Option (ByteArray ⊕ ByteArray)) (a0 : ByteArray) : Tr ByteArray (AV × Heap) := (.loop2 (loopAt P 266 2) (Yl (Js.mk a0 a0 0)) (L0 (Js.mk a0 a0 0)) FP FQ (fun (o1 : ByteArray) => (rt YL o1)) (fun (o2 : ByteArray) => (rt YL o2)))
theorem Qb8 (call : CallF) (L0 : Js → Option (ByteArray ⊕ ByteArray)) (a0 : ByteArray) : (EK Tryz.prog call L0 a0).norm (bodyT Tryz.prog call G 266 [.sc (.string a0), .fn (.func 267) [] []] []) = EK Tryz.prog call L0 a0 := by kernel_rfl
theorem Qb9 (P : Program) (call : CallF) (lp : Loops) (L0 : Js → Option (ByteArray ⊕ ByteArray)) (N0 : ∀ (a : Js) (r : (ByteArray ⊕ ByteArray)), L0 a = some r → lp (loopAt P 266 2) (Yl a) = some (YM r)) (a0 : ByteArray) : (EK P call L0 a0).ok lp YL := ⟨fun o1 ho1 => ⟨N0 _ (.inl _) ho1, rfl⟩, fun o2 ho2 => ⟨N0 _ (.inr _) ho2, rfl⟩⟩
theorem Qca {L0 : Nat → Js → Option (ByteArray ⊕ ByteArray)} {M0 : Js → Option (ByteArray ⊕ ByteArray)} (N0 : ∀ a, Cv (fun k => L0 k a) (M0 a)) (a0 : ByteArray) : Cv (fun k => EJ (L0 k) a0) (EJ M0 a0) := by
  unfold EJ
  exact .bind (N0 _) fun x => .sum (fun o1 => by exact .const _) (fun o2 => by exact .const _) x
def YY.s : Nat → ByteArray → Option ByteArray
  | 0, _ => none
  | k + 1, a0 => EJ (Yt.s k (fun a0 => Xj.s k a0)) a0
theorem YY.ok : ∀ (k : Nat), ∀ (a0 : ByteArray) (r : ByteArray), YY.s k a0 = some r → evalFn Tryz.prog G k 266 [.sc (.string a0), .fn (.func 267) [] []] [] = some (YL r)
  | 0, _, _, h => (nomatch h)
  | k + 1, a0, r, h => fn_ok rfl (EK Tryz.prog (evalFn Tryz.prog G k) (Yt.s k (fun a0 => Xj.s k a0)) a0) (Qb8 _ _ a0) (Qb9 _ _ _ _  (Qai _ k _ (Xj.ok k)) a0) h
theorem YY.mono : ∀ (k : Nat) (a0 : ByteArray), Le (YY.s k a0) (YY.s (k + 1) a0)
  | 0, _ => fun r h => (nomatch h)
  | k + 1, a0 => (Qca (fun a => .two ((Yt.m (Nat.le_succ k) (fun a0 => Xj.s k a0) (fun a0 => Xj.s (k + 1) a0) (Xj.mono k)) a)) a0).1 0
def Uv (r : (Qc × Qa)) : AV × Heap := (.agg (QQ r.1), [(0, .box [] (Qh r.2))])
structure Qv where
  x1 : ByteArray
  x2 : Int
  x7 : Int
  h0 : Qa
  h1 : Qc
  i2s : ByteArray
  i2p : Nat
structure QJ where
  h0 : Qa
  h1 : Qc
structure QP where
  x1 : ByteArray
  x7 : Int
  h0 : Qa
  h1 : Qc
def Us (a : Qv) : St := { n := 46, nx := 3, env := [(0, .ptr 0 0), (1, .sc (.string a.x1)), (2, .sc (.int .i64 a.x2)), (6, .ptr 1 0), (7, .sc (.int .i64 a.x7)), (12, .it 2)], heap := [(0, .box [] (Qh a.h0)), (1, .box [] (QQ a.h1)), (2, .iter a.i2s a.i2p)] }
def YN (a : QJ) : Ex × St := (.ret, { n := 46, nx := 2, env := [(6, .ptr 1 0)], heap := [(0, .box [] (Qh a.h0)), (1, .box [] (QQ a.h1))] })
def YO (a : QP) : Ex × St := (.exit 0, { n := 46, nx := 2, env := [(0, .ptr 0 0), (1, .sc (.string a.x1)), (6, .ptr 1 0), (7, .sc (.int .i64 a.x7))], heap := [(0, .box [] (Qh a.h0)), (1, .box [] (QQ a.h1))] })
def UR (a : (QJ ⊕ QP)) : Ex × St := Sum.elim YN YO a
def Wj (C0 : Qa → Option (Qc × Qa)) (a : Qv) : Option (Qv ⊕ (QJ ⊕ QP)) := (bif (decide (a.i2p < a.i2s.size)) then (bif (decide ((((Utf8.decode a.i2s a.i2p).1 : Nat) : Int) ≥ (97 : Int))) then (bif (decide ((w64 ((w64 (a.x7 * a.x2)) + (w64 ((w64 (IntKind.i32.wrap ((((Utf8.decode a.i2s a.i2p).1 : Nat) : Int) - (97 : Int)))) + (10 : Int))))) ≥ (4294967296 : Int))) then ((C0 a.h0).bind fun (r1 : (Qc × Qa)) => (some (.inr (.inl (QJ.mk r1.2 r1.1))))) else (some (.inl (Qv.mk a.x1 a.x2 (w64 ((w64 (a.x7 * a.x2)) + (w64 ((w64 (IntKind.i32.wrap ((((Utf8.decode a.i2s a.i2p).1 : Nat) : Int) - (97 : Int)))) + (10 : Int))))) a.h0 a.h1 a.i2s (a.i2p + (Utf8.decode a.i2s a.i2p).2))))) else (bif (decide ((w64 ((w64 (a.x7 * a.x2)) + (w64 (IntKind.i32.wrap ((((Utf8.decode a.i2s a.i2p).1 : Nat) : Int) - (48 : Int)))))) ≥ (4294967296 : Int))) then ((C0 a.h0).bind fun (r2 : (Qc × Qa)) => (some (.inr (.inl (QJ.mk r2.2 r2.1))))) else (some (.inl (Qv.mk a.x1 a.x2 (w64 ((w64 (a.x7 * a.x2)) + (w64 (IntKind.i32.wrap ((((Utf8.decode a.i2s a.i2p).1 : Nat) : Int) - (48 : Int)))))) a.h0 a.h1 a.i2s (a.i2p + (Utf8.decode a.i2s a.i2p).2)))))) else (some (.inr (.inr (QP.mk a.x1 a.x7 a.h0 a.h1)))))
def Wk (P : Program) (call : CallF) (C0 : Qa → Option (Qc × Qa)) (a : Qv) : Tr (Qv ⊕ (QJ ⊕ QP)) (Ex × St) := (.as (decide (a.i2p < a.i2s.size)) (.yes true (.as (decide ((((Utf8.decode a.i2s a.i2p).1 : Nat) : Int) ≥ (97 : Int))) (.as (decide ((w64 ((w64 (a.x7 * a.x2)) + (w64 ((w64 (IntKind.i32.wrap ((((Utf8.decode a.i2s a.i2p).1 : Nat) : Int) - (97 : Int)))) + (10 : Int))))) ≥ (4294967296 : Int))) (.call (call 273 [.ptr 0 0] [(0, .box [] (Qh a.h0))]) (C0 a.h0) Q9 fun (r1 : (Qc × Qa)) => (rx UR (.inl (QJ.mk r1.2 r1.1)))) (lf Us (Qv.mk a.x1 a.x2 (w64 ((w64 (a.x7 * a.x2)) + (w64 ((w64 (IntKind.i32.wrap ((((Utf8.decode a.i2s a.i2p).1 : Nat) : Int) - (97 : Int)))) + (10 : Int))))) a.h0 a.h1 a.i2s (a.i2p + (Utf8.decode a.i2s a.i2p).2)))) (.as (decide ((w64 ((w64 (a.x7 * a.x2)) + (w64 (IntKind.i32.wrap ((((Utf8.decode a.i2s a.i2p).1 : Nat) : Int) - (48 : Int)))))) ≥ (4294967296 : Int))) (.call (call 273 [.ptr 0 0] [(0, .box [] (Qh a.h0))]) (C0 a.h0) Q9 fun (r2 : (Qc × Qa)) => (rx UR (.inl (QJ.mk r2.2 r2.1)))) (lf Us (Qv.mk a.x1 a.x2 (w64 ((w64 (a.x7 * a.x2)) + (w64 (IntKind.i32.wrap ((((Utf8.decode a.i2s a.i2p).1 : Nat) : Int) - (48 : Int)))))) a.h0 a.h1 a.i2s (a.i2p + (Utf8.decode a.i2s a.i2p).2)))))) (.no false (rx UR (.inr (QP.mk a.x1 a.x7 a.h0 a.h1)))))
theorem EC (call : CallF) (C0 : Qa → Option (Qc × Qa)) (a : Qv) : (Wk Tryz.prog call C0 a).norm (roundT Tryz.prog G.kd call 1 (G.an 269) (loopAt Tryz.prog 269 3) (Us a)) = Wk Tryz.prog call C0 a := by kernel_rfl
theorem ED (P : Program) (call : CallF) (lp : Loops) (C0 : Qa → Option (Qc × Qa)) (K0 : ∀ (h0 : Qa) (r : (Qc × Qa)), C0 h0 = some r → (call 273 [.ptr 0 0] [(0, .box [] (Qh h0))]) = some (Q9 r)) (a : Qv) : (Wk P call C0 a).ok lp (Sum.elim (fun a => (.norm, Us a)) UR) := ⟨rfl, fun hq0 => ⟨rfl, ⟨rfl, fun hq1 => ⟨rfl, fun hq2 => fun r1 hr1 => ⟨K0 _ _ hr1, rfl⟩, fun hq2 => rfl⟩, fun hq1 => ⟨rfl, fun hq2 => fun r2 hr2 => ⟨K0 _ _ hr2, rfl⟩, fun hq2 => rfl⟩⟩⟩, fun hq0 => ⟨rfl, rfl⟩⟩
theorem EE {C0 : Nat → Qa → Option (Qc × Qa)} {D0 : Qa → Option (Qc × Qa)} (H0 : ∀ (h0 : Qa), Cv (fun k => C0 k h0) (D0 h0)) (a : Qv) : Cv (fun k => Wj (C0 k) a) (Wj D0 a) := by
  unfold Wj
  exact .cond (.cond (.cond (.bind (H0 _) fun r1 => by exact .const _) (by exact .const _)) (.cond (.bind (H0 _) fun r2 => by exact .const _) (by exact .const _))) (by exact .const _)
def UK.s (k : Nat) (C0 : Qa → Option (Qc × Qa)) : Qv → Option (QJ ⊕ QP) := iter (Wj C0) k
theorem Ey (call : CallF) (k : Nat) (C0 : Qa → Option (Qc × Qa)) (K0 : ∀ (h0 : Qa) (r : (Qc × Qa)), C0 h0 = some r → (call 273 [.ptr 0 0] [(0, .box [] (Qh h0))]) = some (Q9 r)) (a : Qv) (r : (QJ ⊕ QP)) (h : UK.s k C0 a = some r) : loopsF Tryz.prog G.kd call 1 (G.an 269) k (loopAt Tryz.prog 269 3) (Us a) = some (UR r) :=
  loop_ok (fun a => Wk Tryz.prog call C0 a) (fun _ => rfl) (fun a => EC call _ a) (fun a => ED _ call _ _ K0 a) (fun r => by cases r <;> nofun) h
theorem UK.m {j k : Nat} (hj : j ≤ k) (C0 : Qa → Option (Qc × Qa)) (D0 : Qa → Option (Qc × Qa)) (H0 : ∀ (h0 : Qa), Le (C0 h0) (D0 h0)) (a : Qv) : Le (UK.s j C0 a) (UK.s k D0 a) := Le.iter (fun a => (EE (fun h0 => .two (H0 h0)) a).1 0) hj a
def WX (L0 : Qv → Option (QJ ⊕ QP)) (a1 : ByteArray) (a2 : Int) (h0 : Qa) : Option (Qc × Qa) := ((L0 (Qv.mk a1 a2 (0 : Int) h0 (Qc.mk (0 : Int) (0 : Int) s_ ([] : List Qc)) a1 0)).bind fun x => Sum.elim (fun (o1 : QJ) => (some (o1.h1, o1.h0))) (fun (o2 : QP) => (bif (decide (0 ≤ ((o2.x1.size : Nat) : Int) ∧ ((o2.x1.size : Nat) : Int) ≤ ((o2.h0.left.size : Nat) : Int) ∧ ((o2.h0.left.size : Nat) : Int) ≤ ((o2.h0.left.size : Nat) : Int))) then (some ((Qc.mk (1 : Int) o2.x7 s_ ([] : List Qc)), (Qa.mk (o2.h0.left.extract (Int.toNat ((o2.x1.size : Nat) : Int)) (Int.toNat ((o2.h0.left.size : Nat) : Int))) o2.h0.deep o2.h0.bad))) else none)) x)
def WY (P : Program) (call : CallF) (L0 : Qv → Option (QJ ⊕ QP)) (a1 : ByteArray) (a2 : Int) (h0 : Qa) : Tr (Qc × Qa) (AV × Heap) := (.loop2 (loopAt P 269 3) (Us (Qv.mk a1 a2 (0 : Int) h0 (Qc.mk (0 : Int) (0 : Int) s_ ([] : List Qc)) a1 0)) (L0 (Qv.mk a1 a2 (0 : Int) h0 (Qc.mk (0 : Int) (0 : Int) s_ ([] : List Qc)) a1 0)) YN YO (fun (o1 : QJ) => (rt Uv (o1.h1, o1.h0))) (fun (o2 : QP) => (.as (decide (0 ≤ ((o2.x1.size : Nat) : Int) ∧ ((o2.x1.size : Nat) : Int) ≤ ((o2.h0.left.size : Nat) : Int) ∧ ((o2.h0.left.size : Nat) : Int) ≤ ((o2.h0.left.size : Nat) : Int))) (rt Uv ((Qc.mk (1 : Int) o2.x7 s_ ([] : List Qc)), (Qa.mk (o2.h0.left.extract (Int.toNat ((o2.x1.size : Nat) : Int)) (Int.toNat ((o2.h0.left.size : Nat) : Int))) o2.h0.deep o2.h0.bad))) .fail)))
theorem FE (call : CallF) (L0 : Qv → Option (QJ ⊕ QP)) (a1 : ByteArray) (a2 : Int) (h0 : Qa) : (WY Tryz.prog call L0 a1 a2 h0).norm (bodyT Tryz.prog call G 269 [.ptr 0 0, .sc (.string a1), .sc (.int .i64 a2)] [(0, .box [] (Qh h0))]) = WY Tryz.prog call L0 a1 a2 h0 := by kernel_rfl
theorem FF (P : Program) (call : CallF) (lp : Loops) (L0 : Qv → Option (QJ ⊕ QP)) (N0 : ∀ (a : Qv) (r : (QJ ⊕ QP)), L0 a = some r → lp (loopAt P 269 3) (Us a) = some (UR r)) (a1 : ByteArray) (a2 : Int) (h0 : Qa) : (WY P call L0 a1 a2 h0).ok lp Uv := ⟨fun o1 ho1 => ⟨N0 _ (.inl _) ho1, rfl⟩, fun o2 ho2 => ⟨N0 _ (.inr _) ho2, ⟨rfl, fun hq0 => rfl, fun hq0 => trivial⟩⟩⟩
theorem FG {L0 : Nat → Qv → Option (QJ ⊕ QP)} {M0 : Qv → Option (QJ ⊕ QP)} (N0 : ∀ a, Cv (fun k => L0 k a) (M0 a)) (a1 : ByteArray) (a2 : Int) (h0 : Qa) : Cv (fun k => WX (L0 k) a1 a2 h0) (WX M0 a1 a2 h0) := by
  unfold WX
  exact .bind (N0 _) fun x => .sum (fun o1 => by exact .const _) (fun o2 => by exact .const _) x
def Uw.s : Nat → ByteArray → Int → Qa → Option (Qc × Qa)
  | 0, _, _, _ => none
  | k + 1, a1, a2, h0 => WX (UK.s k (fun h0 => QA.s k h0)) a1 a2 h0
theorem Uw.ok : ∀ (k : Nat), ∀ (a1 : ByteArray) (a2 : Int) (h0 : Qa) (r : (Qc × Qa)), Uw.s k a1 a2 h0 = some r → evalFn Tryz.prog G k 269 [.ptr 0 0, .sc (.string a1), .sc (.int .i64 a2)] [(0, .box [] (Qh h0))] = some (Uv r)
  | 0, _, _, _, _, h => (nomatch h)
  | k + 1, a1, a2, h0, r, h => fn_ok rfl (WY Tryz.prog (evalFn Tryz.prog G k) (UK.s k (fun h0 => QA.s k h0)) a1 a2 h0) (FE _ _ a1 a2 h0) (FF _ _ _ _  (Ey _ k _ (QA.ok k)) a1 a2 h0) h
theorem Uw.mono : ∀ (k : Nat) (a1 : ByteArray) (a2 : Int) (h0 : Qa), Le (Uw.s k a1 a2 h0) (Uw.s (k + 1) a1 a2 h0)
  | 0, _, _, _ => fun r h => (nomatch h)
  | k + 1, a1, a2, h0 => (FG (fun a => .two ((UK.m (Nat.le_succ k) (fun h0 => QA.s k h0) (fun h0 => QA.s (k + 1) h0) (QA.mono k)) a)) a1 a2 h0).1 0
def Xk (r : Bool) : AV × Heap := (.sc (.bool r), [])
def QaJ  (a0 : Int) : Option Bool := (bif (decide (a0 ≥ (97 : Int))) then (bif (decide (a0 ≤ (122 : Int))) then (some true) else (some (a0 == (95 : Int)))) else (some (a0 == (95 : Int))))
def ZS (P : Program) (call : CallF)  (a0 : Int) : Tr Bool (AV × Heap) := (.as (decide (a0 ≥ (97 : Int))) (yesN 2 (decide (a0 ≥ (97 : Int))) (.as (decide (a0 ≤ (122 : Int))) (yesN 2 (decide (a0 ≤ (122 : Int))) (rt Xk true)) (noN 2 (decide (a0 ≤ (122 : Int))) (rt Xk (a0 == (95 : Int)))))) (noN 2 (decide (a0 ≥ (97 : Int))) (noN 3 false (rt Xk (a0 == (95 : Int))))))
theorem QaK (call : CallF)  (a0 : Int) : (ZS Tryz.prog call  a0).norm (bodyT Tryz.prog call G 285 [.sc (.int .i32 a0)] []) = ZS Tryz.prog call  a0 := by kernel_rfl
theorem QaL (P : Program) (call : CallF) (lp : Loops)   (a0 : Int) : (ZS P call  a0).ok lp Xk := ⟨rfl, fun hq0 => yesN_ok 2 (hq0) (⟨rfl, fun hq1 => yesN_ok 2 (hq1) (rfl), fun hq1 => noN_ok 2 (hq1) (rfl)⟩), fun hq0 => noN_ok 2 (hq0) (noN_ok 3 (rfl) (rfl))⟩
def WZ.s : Nat → Int → Option Bool
  | 0, _ => none
  | k + 1, a0 => QaJ  a0
theorem WZ.ok : ∀ (k : Nat), ∀ (a0 : Int) (r : Bool), WZ.s k a0 = some r → evalFn Tryz.prog G k 285 [.sc (.int .i32 a0)] [] = some (Xk r)
  | 0, _, _, h => (nomatch h)
  | k + 1, a0, r, h => fn_ok rfl (ZS Tryz.prog (evalFn Tryz.prog G k)  a0) (QaK _  a0) (QaL _ _ _    a0) h
theorem WZ.mono : ∀ (k : Nat) (a0 : Int), Le (WZ.s k a0) (WZ.s (k + 1) a0)
  | 0, _ => fun r h => (nomatch h)
  | k + 1, a0 => .refl _
def Xl (r : Bool) : AV × Heap := (.sc (.bool r), [])
def ZT (C0 : Int → Option Bool) (C1 : Int → Option Bool) (a0 : Int) : Option Bool := ((C0 a0).bind fun (r1 : Bool) => (bif r1 then (some true) else ((C1 a0).bind fun (r2 : Bool) => (some r2))))
def ZU (P : Program) (call : CallF) (C0 : Int → Option Bool) (C1 : Int → Option Bool) (a0 : Int) : Tr Bool (AV × Heap) := (.call (call 285 [.sc (.int .i32 a0)] []) (C0 a0) Xk fun (r1 : Bool) => (.as r1 (yesN 2 r1 (rt Xl true)) (.no r1 (.call (call 270 [.sc (.int .i32 a0)] []) (C1 a0) UJ fun (r2 : Bool) => (.no r1 (rt Xl r2))))))
theorem QaM (call : CallF) (C0 : Int → Option Bool) (C1 : Int → Option Bool) (a0 : Int) : (ZU Tryz.prog call C0 C1 a0).norm (bodyT Tryz.prog call G 271 [.sc (.int .i32 a0)] []) = ZU Tryz.prog call C0 C1 a0 := by kernel_rfl
theorem QaN (P : Program) (call : CallF) (lp : Loops) (C0 : Int → Option Bool) (C1 : Int → Option Bool) (K0 : ∀ (a0 : Int) (r : Bool), C0 a0 = some r → (call 285 [.sc (.int .i32 a0)] []) = some (Xk r)) (K1 : ∀ (a0 : Int) (r : Bool), C1 a0 = some r → (call 270 [.sc (.int .i32 a0)] []) = some (UJ r)) (a0 : Int) : (ZU P call C0 C1 a0).ok lp Xl := fun r1 hr1 => ⟨K0 _ _ hr1, ⟨rfl, fun hq0 => yesN_ok 2 (hq0) (rfl), fun hq0 => ⟨hq0, fun r2 hr2 => ⟨K1 _ _ hr2, ⟨hq0, rfl⟩⟩⟩⟩⟩
theorem QaO {C0 : Nat → Int → Option Bool} {D0 : Int → Option Bool} (H0 : ∀ (a0 : Int), Cv (fun k => C0 k a0) (D0 a0)) {C1 : Nat → Int → Option Bool} {D1 : Int → Option Bool} (H1 : ∀ (a0 : Int), Cv (fun k => C1 k a0) (D1 a0)) (a0 : Int) : Cv (fun k => ZT (C0 k) (C1 k) a0) (ZT D0 D1 a0) := by
  unfold ZT
  exact .bind (H0 _) fun r1 => .cond (by exact .const _) (.bind (H1 _) fun r2 => by exact .const _)
def VZ.s : Nat → Int → Option Bool
  | 0, _ => none
  | k + 1, a0 => ZT (fun a0 => WZ.s k a0) (fun a0 => JO.s k a0) a0
theorem VZ.ok : ∀ (k : Nat), ∀ (a0 : Int) (r : Bool), VZ.s k a0 = some r → evalFn Tryz.prog G k 271 [.sc (.int .i32 a0)] [] = some (Xl r)
  | 0, _, _, h => (nomatch h)
  | k + 1, a0, r, h => fn_ok rfl (ZU Tryz.prog (evalFn Tryz.prog G k) (fun a0 => WZ.s k a0) (fun a0 => JO.s k a0) a0) (QaM _ _ _ a0) (QaN _ _ _ _ _ (WZ.ok k) (JO.ok k)  a0) h
theorem VZ.mono : ∀ (k : Nat) (a0 : Int), Le (VZ.s k a0) (VZ.s (k + 1) a0)
  | 0, _ => fun r h => (nomatch h)
  | k + 1, a0 => (QaO (fun a0 => .two ((WZ.mono k) a0)) (fun a0 => .two ((JO.mono k) a0)) a0).1 0
def Vz (r : ByteArray) : AV × Heap := (.sc (.string r), [])
structure Jd where
  x0 : ByteArray
  i0s : ByteArray
  i0p : Nat
def Xa (a : Jd) : St := { n := 21, nx := 1, env := [(0, .sc (.string a.x0)), (1, .fn (.func 271) [] []), (8, .it 0)], heap := [(0, .iter a.i0s a.i0p)] }
def EL (a : ByteArray) : Ex × St := (.ret, { n := 21, nx := 0, env := [(4, .sc (.string a))], heap := [] })
def EM (a : ByteArray) : Ex × St := (.exit 0, { n := 21, nx := 0, env := [(0, .sc (.string a))], heap := [] })
def Ym (a : (ByteArray ⊕ ByteArray)) : Ex × St := Sum.elim EL EM a
def YZ (C0 : Int → Option Bool) (a : Jd) : Option (Jd ⊕ (ByteArray ⊕ ByteArray)) := (bif (decide (a.i0p < a.i0s.size)) then ((C0 (((Utf8.decode a.i0s a.i0p).1 : Nat) : Int)).bind fun (r1 : Bool) => (bif (!r1) then (bif (decide (0 ≤ (0 : Int) ∧ (0 : Int) ≤ ((a.i0p : Nat) : Int) ∧ ((a.i0p : Nat) : Int) ≤ ((a.x0.size : Nat) : Int))) then (some (.inr (.inl (a.x0.extract (Int.toNat (0 : Int)) (Int.toNat ((a.i0p : Nat) : Int)))))) else none) else (some (.inl (Jd.mk a.x0 a.i0s (a.i0p + (Utf8.decode a.i0s a.i0p).2)))))) else (some (.inr (.inr a.x0))))
def Y0 (P : Program) (call : CallF) (C0 : Int → Option Bool) (a : Jd) : Tr (Jd ⊕ (ByteArray ⊕ ByteArray)) (Ex × St) := (.as (decide (a.i0p < a.i0s.size)) (.yes true (.call (call 271 [.sc (.int .i32 (((Utf8.decode a.i0s a.i0p).1 : Nat) : Int))] []) (C0 (((Utf8.decode a.i0s a.i0p).1 : Nat) : Int)) Xl fun (r1 : Bool) => (.as (!r1) (.as (decide (0 ≤ (0 : Int) ∧ (0 : Int) ≤ ((a.i0p : Nat) : Int) ∧ ((a.i0p : Nat) : Int) ≤ ((a.x0.size : Nat) : Int))) (rx Ym (.inl (a.x0.extract (Int.toNat (0 : Int)) (Int.toNat ((a.i0p : Nat) : Int))))) .fail) (lf Xa (Jd.mk a.x0 a.i0s (a.i0p + (Utf8.decode a.i0s a.i0p).2)))))) (.no false (rx Ym (.inr a.x0))))
theorem SM (call : CallF) (C0 : Int → Option Bool) (a : Jd) : (Y0 Tryz.prog call C0 a).norm (roundT Tryz.prog G.kd call 0 (G.an 266) (loopAt Tryz.prog 266 2) (Xa a)) = Y0 Tryz.prog call C0 a := by kernel_rfl
theorem SN (P : Program) (call : CallF) (lp : Loops) (C0 : Int → Option Bool) (K0 : ∀ (a0 : Int) (r : Bool), C0 a0 = some r → (call 271 [.sc (.int .i32 a0)] []) = some (Xl r)) (a : Jd) : (Y0 P call C0 a).ok lp (Sum.elim (fun a => (.norm, Xa a)) Ym) := ⟨rfl, fun hq0 => ⟨rfl, fun r1 hr1 => ⟨K0 _ _ hr1, ⟨rfl, fun hq1 => ⟨rfl, fun hq2 => rfl, fun hq2 => trivial⟩, fun hq1 => rfl⟩⟩⟩, fun hq0 => ⟨rfl, rfl⟩⟩
theorem SO {C0 : Nat → Int → Option Bool} {D0 : Int → Option Bool} (H0 : ∀ (a0 : Int), Cv (fun k => C0 k a0) (D0 a0)) (a : Jd) : Cv (fun k => YZ (C0 k) a) (YZ D0 a) := by
  unfold YZ
  exact .cond (.bind (H0 _) fun r1 => by exact .const _) (by exact .const _)
def Xm.s (k : Nat) (C0 : Int → Option Bool) : Jd → Option (ByteArray ⊕ ByteArray) := iter (YZ C0) k
theorem So (call : CallF) (k : Nat) (C0 : Int → Option Bool) (K0 : ∀ (a0 : Int) (r : Bool), C0 a0 = some r → (call 271 [.sc (.int .i32 a0)] []) = some (Xl r)) (a : Jd) (r : (ByteArray ⊕ ByteArray)) (h : Xm.s k C0 a = some r) : loopsF Tryz.prog G.kd call 0 (G.an 266) k (loopAt Tryz.prog 266 2) (Xa a) = some (Ym r) :=
  loop_ok (fun a => Y0 Tryz.prog call C0 a) (fun _ => rfl) (fun a => SM call _ a) (fun a => SN _ call _ _ K0 a) (fun r => by cases r <;> nofun) h
theorem Xm.m {j k : Nat} (hj : j ≤ k) (C0 : Int → Option Bool) (D0 : Int → Option Bool) (H0 : ∀ (a0 : Int), Le (C0 a0) (D0 a0)) (a : Jd) : Le (Xm.s j C0 a) (Xm.s k D0 a) := Le.iter (fun a => (SO (fun a0 => .two (H0 a0)) a).1 0) hj a
def Gg (L0 : Jd → Option (ByteArray ⊕ ByteArray)) (a0 : ByteArray) : Option ByteArray := ((L0 (Jd.mk a0 a0 0)).bind fun x => Sum.elim (fun (o1 : ByteArray) => (some o1)) (fun (o2 : ByteArray) => (some o2)) x)
def Gh (P : Program) (call : CallF) (L0 : Jd → Option (ByteArray ⊕ ByteArray)) (a0 : ByteArray) : Tr ByteArray (AV × Heap) := (.loop2 (loopAt P 266 2) (Xa (Jd.mk a0 a0 0)) (L0 (Jd.mk a0 a0 0)) EL EM (fun (o1 : ByteArray) => (rt Vz o1)) (fun (o2 : ByteArray) => (rt Vz o2)))
theorem Qbd (call : CallF) (L0 : Jd → Option (ByteArray ⊕ ByteArray)) (a0 : ByteArray) : (Gh Tryz.prog call L0 a0).norm (bodyT Tryz.prog call G 266 [.sc (.string a0), .fn (.func 271) [] []] []) = Gh Tryz.prog call L0 a0 := by kernel_rfl
theorem Qbe (P : Program) (call : CallF) (lp : Loops) (L0 : Jd → Option (ByteArray ⊕ ByteArray)) (N0 : ∀ (a : Jd) (r : (ByteArray ⊕ ByteArray)), L0 a = some r → lp (loopAt P 266 2) (Xa a) = some (Ym r)) (a0 : ByteArray) : (Gh P call L0 a0).ok lp Vz := ⟨fun o1 ho1 => ⟨N0 _ (.inl _) ho1, rfl⟩, fun o2 ho2 => ⟨N0 _ (.inr _) ho2, rfl⟩⟩
theorem Qbf {L0 : Nat → Jd → Option (ByteArray ⊕ ByteArray)} {M0 : Jd → Option (ByteArray ⊕ ByteArray)} (N0 : ∀ a, Cv (fun k => L0 k a) (M0 a)) (a0 : ByteArray) : Cv (fun k => Gg (L0 k) a0) (Gg M0 a0) := by
  unfold Gg
  exact .bind (N0 _) fun x => .sum (fun o1 => by exact .const _) (fun o2 => by exact .const _) x
def UQ.s : Nat → ByteArray → Option ByteArray
  | 0, _ => none
  | k + 1, a0 => Gg (Xm.s k (fun a0 => VZ.s k a0)) a0
theorem UQ.ok : ∀ (k : Nat), ∀ (a0 : ByteArray) (r : ByteArray), UQ.s k a0 = some r → evalFn Tryz.prog G k 266 [.sc (.string a0), .fn (.func 271) [] []] [] = some (Vz r)
  | 0, _, _, h => (nomatch h)
  | k + 1, a0, r, h => fn_ok rfl (Gh Tryz.prog (evalFn Tryz.prog G k) (Xm.s k (fun a0 => VZ.s k a0)) a0) (Qbd _ _ a0) (Qbe _ _ _ _  (So _ k _ (VZ.ok k)) a0) h
theorem UQ.mono : ∀ (k : Nat) (a0 : ByteArray), Le (UQ.s k a0) (UQ.s (k + 1) a0)
  | 0, _ => fun r h => (nomatch h)
  | k + 1, a0 => (Qbf (fun a => .two ((Xm.m (Nat.le_succ k) (fun a0 => VZ.s k a0) (fun a0 => VZ.s (k + 1) a0) (VZ.mono k)) a)) a0).1 0
def UD (r : (Qc × Qa)) : AV × Heap := (.agg (QQ r.1), [(0, .box [] (Qh r.2))])
def Xu (C0 : ByteArray → Option ByteArray) (C1 : Qa → Option (Qc × Qa)) (a1 : Qc) (h0 : Qa) : Option (Qc × Qa) := ((C0 h0.left).bind fun (r1 : ByteArray) => (bif (!(eqS r1 s_)) then ((C1 h0).bind fun (r2 : (Qc × Qa)) => (some (r2.1, r2.2))) else (some (a1, h0))))
def Xv (P : Program) (call : CallF) (C0 : ByteArray → Option ByteArray) (C1 : Qa → Option (Qc × Qa)) (a1 : Qc) (h0 : Qa) : Tr (Qc × Qa) (AV × Heap) := (.call (call 266 [.sc (.string h0.left), .fn (.func 271) [] []] []) (C0 h0.left) Vz fun (r1 : ByteArray) => (.as (!(eqS r1 s_)) (.call (call 273 [.ptr 0 0] [(0, .box [] (Qh h0))]) (C1 h0) Q9 fun (r2 : (Qc × Qa)) => (rt UD (r2.1, r2.2))) (rt UD (a1, h0))))
theorem FW (call : CallF) (C0 : ByteArray → Option ByteArray) (C1 : Qa → Option (Qc × Qa)) (a1 : Qc) (h0 : Qa) : (Xv Tryz.prog call C0 C1 a1 h0).norm (bodyT Tryz.prog call G 268 [.ptr 0 0, .agg (QQ a1)] [(0, .box [] (Qh h0))]) = Xv Tryz.prog call C0 C1 a1 h0 := by kernel_rfl
theorem FX (P : Program) (call : CallF) (lp : Loops) (C0 : ByteArray → Option ByteArray) (C1 : Qa → Option (Qc × Qa)) (K0 : ∀ (a0 : ByteArray) (r : ByteArray), C0 a0 = some r → (call 266 [.sc (.string a0), .fn (.func 271) [] []] []) = some (Vz r)) (K1 : ∀ (h0 : Qa) (r : (Qc × Qa)), C1 h0 = some r → (call 273 [.ptr 0 0] [(0, .box [] (Qh h0))]) = some (Q9 r)) (a1 : Qc) (h0 : Qa) : (Xv P call C0 C1 a1 h0).ok lp UD := fun r1 hr1 => ⟨K0 _ _ hr1, ⟨rfl, fun hq0 => fun r2 hr2 => ⟨K1 _ _ hr2, rfl⟩, fun hq0 => rfl⟩⟩
theorem FY {C0 : Nat → ByteArray → Option ByteArray} {D0 : ByteArray → Option ByteArray} (H0 : ∀ (a0 : ByteArray), Cv (fun k => C0 k a0) (D0 a0)) {C1 : Nat → Qa → Option (Qc × Qa)} {D1 : Qa → Option (Qc × Qa)} (H1 : ∀ (h0 : Qa), Cv (fun k => C1 k h0) (D1 h0)) (a1 : Qc) (h0 : Qa) : Cv (fun k => Xu (C0 k) (C1 k) a1 h0) (Xu D0 D1 a1 h0) := by
  unfold Xu
  exact .bind (H0 _) fun r1 => .cond (.bind (H1 _) fun r2 => by exact .const _) (by exact .const _)
def UF.s : Nat → Qc → Qa → Option (Qc × Qa)
  | 0, _, _ => none
  | k + 1, a1, h0 => Xu (fun a0 => UQ.s k a0) (fun h0 => QA.s k h0) a1 h0
theorem UF.ok : ∀ (k : Nat), ∀ (a1 : Qc) (h0 : Qa) (r : (Qc × Qa)), UF.s k a1 h0 = some r → evalFn Tryz.prog G k 268 [.ptr 0 0, .agg (QQ a1)] [(0, .box [] (Qh h0))] = some (UD r)
  | 0, _, _, _, h => (nomatch h)
  | k + 1, a1, h0, r, h => fn_ok rfl (Xv Tryz.prog (evalFn Tryz.prog G k) (fun a0 => UQ.s k a0) (fun h0 => QA.s k h0) a1 h0) (FW _ _ _ a1 h0) (FX _ _ _ _ _ (UQ.ok k) (QA.ok k)  a1 h0) h
theorem UF.mono : ∀ (k : Nat) (a1 : Qc) (h0 : Qa), Le (UF.s k a1 h0) (UF.s (k + 1) a1 h0)
  | 0, _, _ => fun r h => (nomatch h)
  | k + 1, a1, h0 => (FY (fun a0 => .two ((UQ.mono k) a0)) (fun h0 => .two ((QA.mono k) h0)) a1 h0).1 0
def Wv (r : ByteArray) : AV × Heap := (.sc (.string r), [])
structure Je where
  x0 : ByteArray
  i0s : ByteArray
  i0p : Nat
def Xb (a : Je) : St := { n := 21, nx := 1, env := [(0, .sc (.string a.x0)), (1, .fn (.func 270) [] []), (8, .it 0)], heap := [(0, .iter a.i0s a.i0p)] }
def EN (a : ByteArray) : Ex × St := (.ret, { n := 21, nx := 0, env := [(4, .sc (.string a))], heap := [] })
def EO (a : ByteArray) : Ex × St := (.exit 0, { n := 21, nx := 0, env := [(0, .sc (.string a))], heap := [] })
def Yn (a : (ByteArray ⊕ ByteArray)) : Ex × St := Sum.elim EN EO a
def Y1 (C0 : Int → Option Bool) (a : Je) : Option (Je ⊕ (ByteArray ⊕ ByteArray)) := (bif (decide (a.i0p < a.i0s.size)) then ((C0 (((Utf8.decode a.i0s a.i0p).1 : Nat) : Int)).bind fun (r1 : Bool) => (bif (!r1) then (bif (decide (0 ≤ (0 : Int) ∧ (0 : Int) ≤ ((a.i0p : Nat) : Int) ∧ ((a.i0p : Nat) : Int) ≤ ((a.x0.size : Nat) : Int))) then (some (.inr (.inl (a.x0.extract (Int.toNat (0 : Int)) (Int.toNat ((a.i0p : Nat) : Int)))))) else none) else (some (.inl (Je.mk a.x0 a.i0s (a.i0p + (Utf8.decode a.i0s a.i0p).2)))))) else (some (.inr (.inr a.x0))))
def Y2 (P : Program) (call : CallF) (C0 : Int → Option Bool) (a : Je) : Tr (Je ⊕ (ByteArray ⊕ ByteArray)) (Ex × St) := (.as (decide (a.i0p < a.i0s.size)) (.yes true (.call (call 270 [.sc (.int .i32 (((Utf8.decode a.i0s a.i0p).1 : Nat) : Int))] []) (C0 (((Utf8.decode a.i0s a.i0p).1 : Nat) : Int)) UJ fun (r1 : Bool) => (.as (!r1) (.as (decide (0 ≤ (0 : Int) ∧ (0 : Int) ≤ ((a.i0p : Nat) : Int) ∧ ((a.i0p : Nat) : Int) ≤ ((a.x0.size : Nat) : Int))) (rx Yn (.inl (a.x0.extract (Int.toNat (0 : Int)) (Int.toNat ((a.i0p : Nat) : Int))))) .fail) (lf Xb (Je.mk a.x0 a.i0s (a.i0p + (Utf8.decode a.i0s a.i0p).2)))))) (.no false (rx Yn (.inr a.x0))))
theorem SP (call : CallF) (C0 : Int → Option Bool) (a : Je) : (Y2 Tryz.prog call C0 a).norm (roundT Tryz.prog G.kd call 0 (G.an 266) (loopAt Tryz.prog 266 2) (Xb a)) = Y2 Tryz.prog call C0 a := by kernel_rfl
theorem SQ (P : Program) (call : CallF) (lp : Loops) (C0 : Int → Option Bool) (K0 : ∀ (a0 : Int) (r : Bool), C0 a0 = some r → (call 270 [.sc (.int .i32 a0)] []) = some (UJ r)) (a : Je) : (Y2 P call C0 a).ok lp (Sum.elim (fun a => (.norm, Xb a)) Yn) := ⟨rfl, fun hq0 => ⟨rfl, fun r1 hr1 => ⟨K0 _ _ hr1, ⟨rfl, fun hq1 => ⟨rfl, fun hq2 => rfl, fun hq2 => trivial⟩, fun hq1 => rfl⟩⟩⟩, fun hq0 => ⟨rfl, rfl⟩⟩
theorem SS {C0 : Nat → Int → Option Bool} {D0 : Int → Option Bool} (H0 : ∀ (a0 : Int), Cv (fun k => C0 k a0) (D0 a0)) (a : Je) : Cv (fun k => Y1 (C0 k) a) (Y1 D0 a) := by
  unfold Y1
  exact .cond (.bind (H0 _) fun r1 => by exact .const _) (by exact .const _)
def Xn.s (k : Nat) (C0 : Int → Option Bool) : Je → Option (ByteArray ⊕ ByteArray) := iter (Y1 C0) k
theorem Sp (call : CallF) (k : Nat) (C0 : Int → Option Bool) (K0 : ∀ (a0 : Int) (r : Bool), C0 a0 = some r → (call 270 [.sc (.int .i32 a0)] []) = some (UJ r)) (a : Je) (r : (ByteArray ⊕ ByteArray)) (h : Xn.s k C0 a = some r) : loopsF Tryz.prog G.kd call 0 (G.an 266) k (loopAt Tryz.prog 266 2) (Xb a) = some (Yn r) :=
  loop_ok (fun a => Y2 Tryz.prog call C0 a) (fun _ => rfl) (fun a => SP call _ a) (fun a => SQ _ call _ _ K0 a) (fun r => by cases r <;> nofun) h
theorem Xn.m {j k : Nat} (hj : j ≤ k) (C0 : Int → Option Bool) (D0 : Int → Option Bool) (H0 : ∀ (a0 : Int), Le (C0 a0) (D0 a0)) (a : Je) : Le (Xn.s j C0 a) (Xn.s k D0 a) := Le.iter (fun a => (SS (fun a0 => .two (H0 a0)) a).1 0) hj a
def Gi (L0 : Je → Option (ByteArray ⊕ ByteArray)) (a0 : ByteArray) : Option ByteArray := ((L0 (Je.mk a0 a0 0)).bind fun x => Sum.elim (fun (o1 : ByteArray) => (some o1)) (fun (o2 : ByteArray) => (some o2)) x)
def Gj (P : Program) (call : CallF) (L0 : Je → Option (ByteArray ⊕ ByteArray)) (a0 : ByteArray) : Tr ByteArray (AV × Heap) := (.loop2 (loopAt P 266 2) (Xb (Je.mk a0 a0 0)) (L0 (Je.mk a0 a0 0)) EN EO (fun (o1 : ByteArray) => (rt Wv o1)) (fun (o2 : ByteArray) => (rt Wv o2)))
theorem Qbg (call : CallF) (L0 : Je → Option (ByteArray ⊕ ByteArray)) (a0 : ByteArray) : (Gj Tryz.prog call L0 a0).norm (bodyT Tryz.prog call G 266 [.sc (.string a0), .fn (.func 270) [] []] []) = Gj Tryz.prog call L0 a0 := by kernel_rfl
theorem Qbh (P : Program) (call : CallF) (lp : Loops) (L0 : Je → Option (ByteArray ⊕ ByteArray)) (N0 : ∀ (a : Je) (r : (ByteArray ⊕ ByteArray)), L0 a = some r → lp (loopAt P 266 2) (Xb a) = some (Yn r)) (a0 : ByteArray) : (Gj P call L0 a0).ok lp Wv := ⟨fun o1 ho1 => ⟨N0 _ (.inl _) ho1, rfl⟩, fun o2 ho2 => ⟨N0 _ (.inr _) ho2, rfl⟩⟩
theorem Qbi {L0 : Nat → Je → Option (ByteArray ⊕ ByteArray)} {M0 : Je → Option (ByteArray ⊕ ByteArray)} (N0 : ∀ a, Cv (fun k => L0 k a) (M0 a)) (a0 : ByteArray) : Cv (fun k => Gi (L0 k) a0) (Gi M0 a0) := by
  unfold Gi
  exact .bind (N0 _) fun x => .sum (fun o1 => by exact .const _) (fun o2 => by exact .const _) x
def VM.s : Nat → ByteArray → Option ByteArray
  | 0, _ => none
  | k + 1, a0 => Gi (Xn.s k (fun a0 => JO.s k a0)) a0
theorem VM.ok : ∀ (k : Nat), ∀ (a0 : ByteArray) (r : ByteArray), VM.s k a0 = some r → evalFn Tryz.prog G k 266 [.sc (.string a0), .fn (.func 270) [] []] [] = some (Wv r)
  | 0, _, _, h => (nomatch h)
  | k + 1, a0, r, h => fn_ok rfl (Gj Tryz.prog (evalFn Tryz.prog G k) (Xn.s k (fun a0 => JO.s k a0)) a0) (Qbg _ _ a0) (Qbh _ _ _ _  (Sp _ k _ (JO.ok k)) a0) h
theorem VM.mono : ∀ (k : Nat) (a0 : ByteArray), Le (VM.s k a0) (VM.s (k + 1) a0)
  | 0, _ => fun r h => (nomatch h)
  | k + 1, a0 => (Qbi (fun a => .two ((Xn.m (Nat.le_succ k) (fun a0 => JO.s k a0) (fun a0 => JO.s (k + 1) a0) (JO.mono k)) a)) a0).1 0
def Ve (r : Bool) : AV × Heap := (.sc (.bool r), [])
def Gk (C0 : Int → Option Bool) (C1 : ByteArray → Option ByteArray) (C2 : ByteArray → Option ByteArray) (a0 : ByteArray) : Option Bool := (bif (eqS a0 s_) then (some false) else (bif (decide (((a0.size : Nat) : Int) > (12 : Int))) then (some false) else (bif (decide (0 ≤ (0 : Int) ∧ (0 : Int) < ((a0.size : Nat) : Int))) then ((C0 (IntKind.i32.wrap ((a0.data.getD (Int.toNat (0 : Int)) 0).toNat : Int))).bind fun (r1 : Bool) => (bif r1 then (some false) else ((C1 a0).bind fun (r2 : ByteArray) => (bif (!(eqS r2 a0)) then (some false) else (bif (((a0.data.getD (Int.toNat (0 : Int)) 0).toNat : Int) != (114 : Int)) then (some true) else (bif (((a0.size : Nat) : Int) == (1 : Int)) then (some true) else (bif (decide (0 ≤ (1 : Int) ∧ (1 : Int) ≤ ((a0.size : Nat) : Int) ∧ ((a0.size : Nat) : Int) ≤ ((a0.size : Nat) : Int))) then ((C2 (a0.extract (Int.toNat (1 : Int)) (Int.toNat ((a0.size : Nat) : Int)))).bind fun (r3 : ByteArray) => (some (!(eqS r3 (a0.extract (Int.toNat (1 : Int)) (Int.toNat ((a0.size : Nat) : Int))))))) else none))))))) else none)))
def Gl (P : Program) (call : CallF) (C0 : Int → Option Bool) (C1 : ByteArray → Option ByteArray) (C2 : ByteArray → Option ByteArray) (a0 : ByteArray) : Tr Bool (AV × Heap) := (.as (eqS a0 s_) (yesN 3 (eqS a0 s_) (yesN 11 true (rt Ve false))) (noN 3 (eqS a0 s_) (.as (decide (((a0.size : Nat) : Int) > (12 : Int))) (yesN 4 (decide (((a0.size : Nat) : Int) > (12 : Int))) (yesN 6 true (rt Ve false))) (.no (decide (((a0.size : Nat) : Int) > (12 : Int))) (.as (decide (0 ≤ (0 : Int) ∧ (0 : Int) < ((a0.size : Nat) : Int))) (noN 2 (decide (((a0.size : Nat) : Int) > (12 : Int))) (.call (call 270 [.sc (.int .i32 (IntKind.i32.wrap ((a0.data.getD (Int.toNat (0 : Int)) 0).toNat : Int)))] []) (C0 (IntKind.i32.wrap ((a0.data.getD (Int.toNat (0 : Int)) 0).toNat : Int))) UJ fun (r1 : Bool) => (.no (decide (((a0.size : Nat) : Int) > (12 : Int))) (.as r1 (yesN 4 r1 (.yes true (rt Ve false))) (.no r1 (.call (call 266 [.sc (.string a0), .fn (.func 271) [] []] []) (C1 a0) Vz fun (r2 : ByteArray) => (noN 3 r1 (.as (!(eqS r2 a0)) (rt Ve false) (.yes (decide (0 ≤ (0 : Int) ∧ (0 : Int) < ((a0.size : Nat) : Int))) (.as (((a0.data.getD (Int.toNat (0 : Int)) 0).toNat : Int) != (114 : Int)) (yesN 3 (((a0.data.getD (Int.toNat (0 : Int)) 0).toNat : Int) != (114 : Int)) (yesN 7 true (rt Ve true))) (noN 3 (((a0.data.getD (Int.toNat (0 : Int)) 0).toNat : Int) != (114 : Int)) (.as (((a0.size : Nat) : Int) == (1 : Int)) (yesN 6 (((a0.size : Nat) : Int) == (1 : Int)) (rt Ve true)) (.no (((a0.size : Nat) : Int) == (1 : Int)) (.as (decide (0 ≤ (1 : Int) ∧ (1 : Int) ≤ ((a0.size : Nat) : Int) ∧ ((a0.size : Nat) : Int) ≤ ((a0.size : Nat) : Int))) (.no (((a0.size : Nat) : Int) == (1 : Int)) (.call (call 266 [.sc (.string (a0.extract (Int.toNat (1 : Int)) (Int.toNat ((a0.size : Nat) : Int)))), .fn (.func 270) [] []] []) (C2 (a0.extract (Int.toNat (1 : Int)) (Int.toNat ((a0.size : Nat) : Int)))) Wv fun (r3 : ByteArray) => (noN 2 (((a0.size : Nat) : Int) == (1 : Int)) (.yes (decide (0 ≤ (1 : Int) ∧ (1 : Int) ≤ ((a0.size : Nat) : Int) ∧ ((a0.size : Nat) : Int) ≤ ((a0.size : Nat) : Int))) (noN 2 (((a0.size : Nat) : Int) == (1 : Int)) (rt Ve (!(eqS r3 (a0.extract (Int.toNat (1 : Int)) (Int.toNat ((a0.size : Nat) : Int))))))))))) .fail)))))))))))))) .fail)))))
theorem Qbj (call : CallF) (C0 : Int → Option Bool) (C1 : ByteArray → Option ByteArray) (C2 : ByteArray → Option ByteArray) (a0 : ByteArray) : (Gl Tryz.prog call C0 C1 C2 a0).norm (bodyT Tryz.prog call G 272 [.sc (.string a0)] []) = Gl Tryz.prog call C0 C1 C2 a0 := by kernel_rfl
theorem Qbk (P : Program) (call : CallF) (lp : Loops) (C0 : Int → Option Bool) (C1 : ByteArray → Option ByteArray) (C2 : ByteArray → Option ByteArray) (K0 : ∀ (a0 : Int) (r : Bool), C0 a0 = some r → (call 270 [.sc (.int .i32 a0)] []) = some (UJ r)) (K1 : ∀ (a0 : ByteArray) (r : ByteArray), C1 a0 = some r → (call 266 [.sc (.string a0), .fn (.func 271) [] []] []) = some (Vz r)) (K2 : ∀ (a0 : ByteArray) (r : ByteArray), C2 a0 = some r → (call 266 [.sc (.string a0), .fn (.func 270) [] []] []) = some (Wv r)) (a0 : ByteArray) : (Gl P call C0 C1 C2 a0).ok lp Ve := ⟨rfl, fun hq0 => yesN_ok 3 (hq0) (yesN_ok 11 (rfl) (rfl)), fun hq0 => noN_ok 3 (hq0) (⟨rfl, fun hq1 => yesN_ok 4 (hq1) (yesN_ok 6 (rfl) (rfl)), fun hq1 => ⟨hq1, ⟨rfl, fun hq2 => noN_ok 2 (hq1) (fun r1 hr1 => ⟨K0 _ _ hr1, ⟨hq1, ⟨rfl, fun hq3 => yesN_ok 4 (hq3) (⟨rfl, rfl⟩), fun hq3 => ⟨hq3, fun r2 hr2 => ⟨K1 _ _ hr2, noN_ok 3 (hq3) (⟨rfl, fun hq4 => rfl, fun hq4 => ⟨hq2, ⟨rfl, fun hq5 => yesN_ok 3 (hq5) (yesN_ok 7 (rfl) (rfl)), fun hq5 => noN_ok 3 (hq5) (⟨rfl, fun hq6 => yesN_ok 6 (hq6) (rfl), fun hq6 => ⟨hq6, ⟨rfl, fun hq7 => ⟨hq6, fun r3 hr3 => ⟨K2 _ _ hr3, noN_ok 2 (hq6) (⟨hq7, noN_ok 2 (hq6) (rfl)⟩)⟩⟩, fun hq7 => trivial⟩⟩⟩)⟩⟩⟩)⟩⟩⟩⟩⟩), fun hq2 => trivial⟩⟩⟩)⟩
theorem Qbl {C0 : Nat → Int → Option Bool} {D0 : Int → Option Bool} (H0 : ∀ (a0 : Int), Cv (fun k => C0 k a0) (D0 a0)) {C1 : Nat → ByteArray → Option ByteArray} {D1 : ByteArray → Option ByteArray} (H1 : ∀ (a0 : ByteArray), Cv (fun k => C1 k a0) (D1 a0)) {C2 : Nat → ByteArray → Option ByteArray} {D2 : ByteArray → Option ByteArray} (H2 : ∀ (a0 : ByteArray), Cv (fun k => C2 k a0) (D2 a0)) (a0 : ByteArray) : Cv (fun k => Gk (C0 k) (C1 k) (C2 k) a0) (Gk D0 D1 D2 a0) := by
  unfold Gk
  exact .cond (by exact .const _) (.cond (by exact .const _) (.cond (.bind (H0 _) fun r1 => .cond (by exact .const _) (.bind (H1 _) fun r2 => .cond (by exact .const _) (.cond (by exact .const _) (.cond (by exact .const _) (.cond (.bind (H2 _) fun r3 => by exact .const _) (by exact .const _)))))) (by exact .const _)))
def XV.s : Nat → ByteArray → Option Bool
  | 0, _ => none
  | k + 1, a0 => Gk (fun a0 => JO.s k a0) (fun a0 => UQ.s k a0) (fun a0 => VM.s k a0) a0
theorem XV.ok : ∀ (k : Nat), ∀ (a0 : ByteArray) (r : Bool), XV.s k a0 = some r → evalFn Tryz.prog G k 272 [.sc (.string a0)] [] = some (Ve r)
  | 0, _, _, h => (nomatch h)
  | k + 1, a0, r, h => fn_ok rfl (Gl Tryz.prog (evalFn Tryz.prog G k) (fun a0 => JO.s k a0) (fun a0 => UQ.s k a0) (fun a0 => VM.s k a0) a0) (Qbj _ _ _ _ a0) (Qbk _ _ _ _ _ _ (JO.ok k) (UQ.ok k) (VM.ok k)  a0) h
theorem XV.mono : ∀ (k : Nat) (a0 : ByteArray), Le (XV.s k a0) (XV.s (k + 1) a0)
  | 0, _ => fun r h => (nomatch h)
  | k + 1, a0 => (Qbl (fun a0 => .two ((JO.mono k) a0)) (fun a0 => .two ((UQ.mono k) a0)) (fun a0 => .two ((VM.mono k) a0)) a0).1 0
def V0 (r : (List ByteArray)) : AV × Heap := (.sl (Qi r), [])
def QaP   : Option (List ByteArray) := (some [s_, s_, s_, h_2e, h_2d, h_2b, h_2d, h_2a, h_26, h_7c, Pd, Pe])
def ZV (P : Program) (call : CallF)   : Tr (List ByteArray) (AV × Heap) := (.rows [[.sc (.string s_)], [.sc (.string s_)], [.sc (.string s_)], [.sc (.string h_2e)], [.sc (.string h_2d)], [.sc (.string h_2b)], [.sc (.string h_2d)], [.sc (.string h_2a)], [.sc (.string h_26)], [.sc (.string h_7c)], [.sc (.string Pd)], [.sc (.string Pe)]] (Qi [s_, s_, s_, h_2e, h_2d, h_2b, h_2d, h_2a, h_26, h_7c, Pd, Pe]) (rt V0 [s_, s_, s_, h_2e, h_2d, h_2b, h_2d, h_2a, h_26, h_7c, Pd, Pe]))
theorem QaQ (call : CallF)   : (ZV Tryz.prog call  ).norm (bodyT Tryz.prog call G 208 [] []) = ZV Tryz.prog call   := by kernel_rfl
theorem QaR (P : Program) (call : CallF) (lp : Loops)    : (ZV P call  ).ok lp V0 := ⟨(JD [s_, s_, s_, h_2e, h_2d, h_2b, h_2d, h_2a, h_26, h_7c, Pd, Pe]), rfl⟩
def UX.s : Nat → Option (List ByteArray)
  | 0 => none
  | k + 1 => QaP  
theorem UX.ok : ∀ (k : Nat), ∀  (r : (List ByteArray)), UX.s k  = some r → evalFn Tryz.prog G k 208 [] [] = some (V0 r)
  | 0, _, h => (nomatch h)
  | k + 1, r, h => fn_ok rfl (ZV Tryz.prog (evalFn Tryz.prog G k)  ) (QaQ _  ) (QaR _ _ _    ) h
theorem UX.mono : ∀ (k : Nat), Le (UX.s k ) (UX.s (k + 1) )
  | 0 => fun r h => (nomatch h)
  | k + 1 => .refl _
def Ux (r : (Int × Qa)) : AV × Heap := (.sc (.int .i64 r.1), [(0, .box [] (Qh r.2))])
structure QF where
  x7 : (List Int)
  x8 : Int
  x9 : Int
  h0 : Qa
structure Q0 where
  x4 : Int
  h0 : Qa
def Vc (a : QF) : St := { n := 21, nx := 1, env := [(0, .ptr 0 0), (7, .sl (JX a.x7)), (8, .sc (.int .i64 a.x8)), (9, .sc (.int .i64 a.x9))], heap := [(0, .box [] (Qh a.h0))] }
def Zg (a : Q0) : Ex × St := (.ret, { n := 21, nx := 1, env := [(4, .sc (.int .i64 a.x4))], heap := [(0, .box [] (Qh a.h0))] })
def Zh (a : Qa) : Ex × St := (.exit 0, { n := 21, nx := 1, env := [], heap := [(0, .box [] (Qh a))] })
def VN (a : (Q0 ⊕ Qa)) : Ex × St := Sum.elim Zg Zh a
def WM (C0 : Option (List ByteArray)) (C1 : ByteArray → Qa → Option (Bool × Qa)) (a : QF) : Option (QF ⊕ (Q0 ⊕ Qa)) := (bif (decide (a.x9 < a.x8)) then (bif (decide (0 ≤ a.x9)) then ((a.x7[(Int.toNat a.x9)]?).bind fun (e1 : Int) => ((C0).bind fun (r2 : (List ByteArray)) => (bif (decide (0 ≤ e1)) then ((r2[(Int.toNat e1)]?).bind fun (e3 : ByteArray) => ((C1 e3 a.h0).bind fun (r4 : (Bool × Qa)) => (bif r4.1 then (some (.inr (.inl (Q0.mk e1 r4.2)))) else (some (.inl (QF.mk a.x7 a.x8 (w64 (a.x9 + (1 : Int))) r4.2)))))) else none))) else none) else (some (.inr (.inr a.h0))))
def WN (P : Program) (call : CallF) (C0 : Option (List ByteArray)) (C1 : ByteArray → Qa → Option (Bool × Qa)) (a : QF) : Tr (QF ⊕ (Q0 ⊕ Qa)) (Ex × St) := (.as (decide (a.x9 < a.x8)) (.as (decide (0 ≤ a.x9)) (.row ((JX a.x7)[(Int.toNat a.x9)]?) (a.x7[(Int.toNat a.x9)]?) P8 fun (e1 : Int) => (.call (call 208 [] []) (C0) V0 fun (r2 : (List ByteArray)) => (.as (decide (0 ≤ e1)) (.row ((Qi r2)[(Int.toNat e1)]?) (r2[(Int.toNat e1)]?) Jp fun (e3 : ByteArray) => (.call (call 261 [.ptr 0 0, .sc (.string e3)] [(0, .box [] (Qh a.h0))]) (C1 e3 a.h0) JB fun (r4 : (Bool × Qa)) => (.as r4.1 (rx VN (.inl (Q0.mk e1 r4.2))) (lf Vc (QF.mk a.x7 a.x8 (w64 (a.x9 + (1 : Int))) r4.2))))) .fail))) .fail) (rx VN (.inr a.h0)))
theorem Fo (call : CallF) (C0 : Option (List ByteArray)) (C1 : ByteArray → Qa → Option (Bool × Qa)) (a : QF) : (WN Tryz.prog call C0 C1 a).norm (roundT Tryz.prog G.kd call 1 (G.an 244) (loopAt Tryz.prog 244 2) (Vc a)) = WN Tryz.prog call C0 C1 a := by kernel_rfl
theorem Fp (P : Program) (call : CallF) (lp : Loops) (C0 : Option (List ByteArray)) (C1 : ByteArray → Qa → Option (Bool × Qa)) (K0 : ∀  (r : (List ByteArray)), C0 = some r → (call 208 [] []) = some (V0 r)) (K1 : ∀ (a1 : ByteArray) (h0 : Qa) (r : (Bool × Qa)), C1 a1 h0 = some r → (call 261 [.ptr 0 0, .sc (.string a1)] [(0, .box [] (Qh h0))]) = some (JB r)) (a : QF) : (WN P call C0 C1 a).ok lp (Sum.elim (fun a => (.norm, Vc a)) VN) := ⟨rfl, fun hq0 => ⟨rfl, fun hq1 => fun e1 he1 => ⟨Qb6 he1, fun r2 hr2 => ⟨K0 _ hr2, ⟨rfl, fun hq2 => fun e3 he3 => ⟨J9 he3, fun r4 hr4 => ⟨K1 _ _ _ hr4, ⟨rfl, fun hq3 => rfl, fun hq3 => rfl⟩⟩⟩, fun hq2 => trivial⟩⟩⟩, fun hq1 => trivial⟩, fun hq0 => rfl⟩
theorem Fq {C0 : Nat → Option (List ByteArray)} {D0 : Option (List ByteArray)} (H0 : Cv (fun k => C0 k ) (D0 )) {C1 : Nat → ByteArray → Qa → Option (Bool × Qa)} {D1 : ByteArray → Qa → Option (Bool × Qa)} (H1 : ∀ (a1 : ByteArray) (h0 : Qa), Cv (fun k => C1 k a1 h0) (D1 a1 h0)) (a : QF) : Cv (fun k => WM (C0 k) (C1 k) a) (WM D0 D1 a) := by
  unfold WM
  exact .cond (.cond (.bind (.const (a.x7[(Int.toNat a.x9)]?)) fun e1 => .bind (H0) fun r2 => .cond (.bind (.const (r2[(Int.toNat e1)]?)) fun e3 => .bind (H1 _ _) fun r4 => by exact .const _) (by exact .const _)) (by exact .const _)) (by exact .const _)
def U9.s (k : Nat) (C0 : Option (List ByteArray)) (C1 : ByteArray → Qa → Option (Bool × Qa)) : QF → Option (Q0 ⊕ Qa) := iter (WM C0 C1) k
theorem ET (call : CallF) (k : Nat) (C0 : Option (List ByteArray)) (C1 : ByteArray → Qa → Option (Bool × Qa)) (K0 : ∀  (r : (List ByteArray)), C0 = some r → (call 208 [] []) = some (V0 r)) (K1 : ∀ (a1 : ByteArray) (h0 : Qa) (r : (Bool × Qa)), C1 a1 h0 = some r → (call 261 [.ptr 0 0, .sc (.string a1)] [(0, .box [] (Qh h0))]) = some (JB r)) (a : QF) (r : (Q0 ⊕ Qa)) (h : U9.s k C0 C1 a = some r) : loopsF Tryz.prog G.kd call 1 (G.an 244) k (loopAt Tryz.prog 244 2) (Vc a) = some (VN r) :=
  loop_ok (fun a => WN Tryz.prog call C0 C1 a) (fun _ => rfl) (fun a => Fo call _ _ a) (fun a => Fp _ call _ _ _ K0 K1 a) (fun r => by cases r <;> nofun) h
theorem U9.m {j k : Nat} (hj : j ≤ k) (C0 : Option (List ByteArray)) (C1 : ByteArray → Qa → Option (Bool × Qa)) (D0 : Option (List ByteArray)) (D1 : ByteArray → Qa → Option (Bool × Qa)) (H0 : Le (C0 ) (D0 )) (H1 : ∀ (a1 : ByteArray) (h0 : Qa), Le (C1 a1 h0) (D1 a1 h0)) (a : QF) : Le (U9.s j C0 C1 a) (U9.s k D0 D1 a) := Le.iter (fun a => (Fq (.two H0) (fun a1 h0 => .two (H1 a1 h0)) a).1 0) hj a
def XW (L0 : QF → Option (Q0 ⊕ Qa)) (a1 : (List Int)) (h0 : Qa) : Option (Int × Qa) := ((L0 (QF.mk a1 (((a1.length) : Nat) : Int) (0 : Int) h0)).bind fun x => Sum.elim (fun (o1 : Q0) => (some (o1.x4, o1.h0))) (fun (o2 : Qa) => (some ((0 : Int), o2))) x)
def XX (P : Program) (call : CallF) (L0 : QF → Option (Q0 ⊕ Qa)) (a1 : (List Int)) (h0 : Qa) : Tr (Int × Qa) (AV × Heap) := (.num ((JX a1).length) (a1.length) (.loop2 (loopAt P 244 2) (Vc (QF.mk a1 (((a1.length) : Nat) : Int) (0 : Int) h0)) (L0 (QF.mk a1 (((a1.length) : Nat) : Int) (0 : Int) h0)) Zg Zh (fun (o1 : Q0) => (rt Ux (o1.x4, o1.h0))) (fun (o2 : Qa) => (rt Ux ((0 : Int), o2)))))
theorem PE (call : CallF) (L0 : QF → Option (Q0 ⊕ Qa)) (a1 : (List Int)) (h0 : Qa) : (XX Tryz.prog call L0 a1 h0).norm (bodyT Tryz.prog call G 244 [.ptr 0 0, .sl (JX a1)] [(0, .box [] (Qh h0))]) = XX Tryz.prog call L0 a1 h0 := by kernel_rfl
theorem PF (P : Program) (call : CallF) (lp : Loops) (L0 : QF → Option (Q0 ⊕ Qa)) (N0 : ∀ (a : QF) (r : (Q0 ⊕ Qa)), L0 a = some r → lp (loopAt P 244 2) (Vc a) = some (VN r)) (a1 : (List Int)) (h0 : Qa) : (XX P call L0 a1 h0).ok lp Ux := ⟨(EI _), ⟨fun o1 ho1 => ⟨N0 _ (.inl _) ho1, rfl⟩, fun o2 ho2 => ⟨N0 _ (.inr _) ho2, rfl⟩⟩⟩
theorem PG {L0 : Nat → QF → Option (Q0 ⊕ Qa)} {M0 : QF → Option (Q0 ⊕ Qa)} (N0 : ∀ a, Cv (fun k => L0 k a) (M0 a)) (a1 : (List Int)) (h0 : Qa) : Cv (fun k => XW (L0 k) a1 h0) (XW M0 a1 h0) := by
  unfold XW
  exact .bind (N0 _) fun x => .sum (fun o1 => by exact .const _) (fun o2 => by exact .const _) x
def JH.s : Nat → (List Int) → Qa → Option (Int × Qa)
  | 0, _, _ => none
  | k + 1, a1, h0 => XW (U9.s k (UX.s k) (fun a1 h0 => Jg.s k a1 h0)) a1 h0
theorem JH.ok : ∀ (k : Nat), ∀ (a1 : (List Int)) (h0 : Qa) (r : (Int × Qa)), JH.s k a1 h0 = some r → evalFn Tryz.prog G k 244 [.ptr 0 0, .sl (JX a1)] [(0, .box [] (Qh h0))] = some (Ux r)
  | 0, _, _, _, h => (nomatch h)
  | k + 1, a1, h0, r, h => fn_ok rfl (XX Tryz.prog (evalFn Tryz.prog G k) (U9.s k (UX.s k) (fun a1 h0 => Jg.s k a1 h0)) a1 h0) (PE _ _ a1 h0) (PF _ _ _ _  (ET _ k _ _ (UX.ok k) (Jg.ok k)) a1 h0) h
theorem JH.mono : ∀ (k : Nat) (a1 : (List Int)) (h0 : Qa), Le (JH.s k a1 h0) (JH.s (k + 1) a1 h0)
  | 0, _, _ => fun r h => (nomatch h)
  | k + 1, a1, h0 => (PG (fun a => .two ((U9.m (Nat.le_succ k) (UX.s k) (fun a1 h0 => Jg.s k a1 h0) (UX.s (k + 1)) (fun a1 h0 => Jg.s (k + 1) a1 h0) (UX.mono k) (Jg.mono k)) a)) a1 h0).1 0
def Vu (r : (Qc × Qa)) : AV × Heap := (.agg (QQ r.1), [(0, .box [] (Qh r.2))])
def Vi (r : (Qc × Qa)) : AV × Heap := (.agg (QQ r.1), [(0, .box [] (Qh r.2))])
def Wo (r : (Qc × Qa)) : AV × Heap := (.agg (QQ r.1), [(0, .box [] (Qh r.2))])
def U4 (r : (Qc × Qa)) : AV × Heap := (.agg (QQ r.1), [(0, .box [] (Qh r.2))])
def Jn (r : (Qc × Qa)) : AV × Heap := (.agg (QQ r.1), [(0, .box [] (Qh r.2))])
def JI (r : (Qc × Qa)) : AV × Heap := (.agg (QQ r.1), [(0, .box [] (Qh r.2))])
def Xw (C0 : Int → Qa → Option (Qc × Qa)) (C1 : ByteArray → Qa → Option (Bool × Qa)) (C2 : Qa → Option (Qc × Qa)) (h0 : Qa) : Option (Qc × Qa) := ((C0 (0 : Int) h0).bind fun (r1 : (Qc × Qa)) => ((C1 h_29 r1.2).bind fun (r2 : (Bool × Qa)) => (bif (!r2.1) then ((C2 r2.2).bind fun (r3 : (Qc × Qa)) => (some (r3.1, r3.2))) else (some (r1.1, r2.2)))))
def Xx (P : Program) (call : CallF) (C0 : Int → Qa → Option (Qc × Qa)) (C1 : ByteArray → Qa → Option (Bool × Qa)) (C2 : Qa → Option (Qc × Qa)) (h0 : Qa) : Tr (Qc × Qa) (AV × Heap) := (.call (call 215 [.ptr 0 0, .sc (.int .i64 (0 : Int))] [(0, .box [] (Qh h0))]) (C0 (0 : Int) h0) JI fun (r1 : (Qc × Qa)) => (.call (call 261 [.ptr 0 0, .sc (.string h_29)] [(0, .box [] (Qh r1.2))]) (C1 h_29 r1.2) JB fun (r2 : (Bool × Qa)) => (.as (!r2.1) (.call (call 273 [.ptr 0 0] [(0, .box [] (Qh r2.2))]) (C2 r2.2) Q9 fun (r3 : (Qc × Qa)) => (rt Vu (r3.1, r3.2))) (rt Vu (r1.1, r2.2)))))
theorem FZ (call : CallF) (C0 : Int → Qa → Option (Qc × Qa)) (C1 : ByteArray → Qa → Option (Bool × Qa)) (C2 : Qa → Option (Qc × Qa)) (h0 : Qa) : (Xx Tryz.prog call C0 C1 C2 h0).norm (bodyT Tryz.prog call G 263 [.ptr 0 0] [(0, .box [] (Qh h0))]) = Xx Tryz.prog call C0 C1 C2 h0 := by kernel_rfl
theorem F0 (P : Program) (call : CallF) (lp : Loops) (C0 : Int → Qa → Option (Qc × Qa)) (C1 : ByteArray → Qa → Option (Bool × Qa)) (C2 : Qa → Option (Qc × Qa)) (K0 : ∀ (a1 : Int) (h0 : Qa) (r : (Qc × Qa)), C0 a1 h0 = some r → (call 215 [.ptr 0 0, .sc (.int .i64 a1)] [(0, .box [] (Qh h0))]) = some (JI r)) (K1 : ∀ (a1 : ByteArray) (h0 : Qa) (r : (Bool × Qa)), C1 a1 h0 = some r → (call 261 [.ptr 0 0, .sc (.string a1)] [(0, .box [] (Qh h0))]) = some (JB r)) (K2 : ∀ (h0 : Qa) (r : (Qc × Qa)), C2 h0 = some r → (call 273 [.ptr 0 0] [(0, .box [] (Qh h0))]) = some (Q9 r)) (h0 : Qa) : (Xx P call C0 C1 C2 h0).ok lp Vu := fun r1 hr1 => ⟨K0 _ _ _ hr1, fun r2 hr2 => ⟨K1 _ _ _ hr2, ⟨rfl, fun hq0 => fun r3 hr3 => ⟨K2 _ _ hr3, rfl⟩, fun hq0 => rfl⟩⟩⟩
theorem F1 {C0 : Nat → Int → Qa → Option (Qc × Qa)} {D0 : Int → Qa → Option (Qc × Qa)} (H0 : ∀ (a1 : Int) (h0 : Qa), Cv (fun k => C0 k a1 h0) (D0 a1 h0)) {C1 : Nat → ByteArray → Qa → Option (Bool × Qa)} {D1 : ByteArray → Qa → Option (Bool × Qa)} (H1 : ∀ (a1 : ByteArray) (h0 : Qa), Cv (fun k => C1 k a1 h0) (D1 a1 h0)) {C2 : Nat → Qa → Option (Qc × Qa)} {D2 : Qa → Option (Qc × Qa)} (H2 : ∀ (h0 : Qa), Cv (fun k => C2 k h0) (D2 h0)) (h0 : Qa) : Cv (fun k => Xw (C0 k) (C1 k) (C2 k) h0) (Xw D0 D1 D2 h0) := by
  unfold Xw
  exact .bind (H0 _ _) fun r1 => .bind (H1 _ _) fun r2 => .cond (.bind (H2 _) fun r3 => by exact .const _) (by exact .const _)
def W0 (C0 : Qa → Option (Qc × Qa)) (C1 : Qa → Option (Qc × Qa)) (h0 : Qa) : Option (Qc × Qa) := (bif (decide (h0.deep ≥ (12 : Int))) then ((C0 h0).bind fun (r1 : (Qc × Qa)) => (some (r1.1, r1.2))) else ((C1 (Qa.mk h0.left (w64 (h0.deep + (1 : Int))) h0.bad)).bind fun (r2 : (Qc × Qa)) => (some (r2.1, (Qa.mk r2.2.left (w64 (r2.2.deep - (1 : Int))) r2.2.bad)))))
def W1 (P : Program) (call : CallF) (C0 : Qa → Option (Qc × Qa)) (C1 : Qa → Option (Qc × Qa)) (h0 : Qa) : Tr (Qc × Qa) (AV × Heap) := (.as (decide (h0.deep ≥ (12 : Int))) (.call (call 273 [.ptr 0 0] [(0, .box [] (Qh h0))]) (C0 h0) Q9 fun (r1 : (Qc × Qa)) => (rt Vi (r1.1, r1.2))) (.call (call 263 [.ptr 0 0] [(0, .box [] (Qh (Qa.mk (Qa.mk h0.left (w64 (h0.deep + (1 : Int))) h0.bad).left (Qa.mk h0.left (w64 (h0.deep + (1 : Int))) h0.bad).deep (Qa.mk h0.left (w64 (h0.deep + (1 : Int))) h0.bad).bad)))]) (C1 (Qa.mk h0.left (w64 (h0.deep + (1 : Int))) h0.bad)) Vu fun (r2 : (Qc × Qa)) => (rt Vi (r2.1, (Qa.mk r2.2.left (w64 (r2.2.deep - (1 : Int))) r2.2.bad)))))
theorem FH (call : CallF) (C0 : Qa → Option (Qc × Qa)) (C1 : Qa → Option (Qc × Qa)) (h0 : Qa) : (W1 Tryz.prog call C0 C1 h0).norm (bodyT Tryz.prog call G 262 [.ptr 0 0, .fn (.func 263) [.ptr 0 0] []] [(0, .box [] (Qh h0))]) = W1 Tryz.prog call C0 C1 h0 := by kernel_rfl
theorem FI (P : Program) (call : CallF) (lp : Loops) (C0 : Qa → Option (Qc × Qa)) (C1 : Qa → Option (Qc × Qa)) (K0 : ∀ (h0 : Qa) (r : (Qc × Qa)), C0 h0 = some r → (call 273 [.ptr 0 0] [(0, .box [] (Qh h0))]) = some (Q9 r)) (K1 : ∀ (h0 : Qa) (r : (Qc × Qa)), C1 h0 = some r → (call 263 [.ptr 0 0] [(0, .box [] (Qh h0))]) = some (Vu r)) (h0 : Qa) : (W1 P call C0 C1 h0).ok lp Vi := ⟨rfl, fun hq0 => fun r1 hr1 => ⟨K0 _ _ hr1, rfl⟩, fun hq0 => fun r2 hr2 => ⟨K1 _ _ hr2, rfl⟩⟩
theorem FJ {C0 : Nat → Qa → Option (Qc × Qa)} {D0 : Qa → Option (Qc × Qa)} (H0 : ∀ (h0 : Qa), Cv (fun k => C0 k h0) (D0 h0)) {C1 : Nat → Qa → Option (Qc × Qa)} {D1 : Qa → Option (Qc × Qa)} (H1 : ∀ (h0 : Qa), Cv (fun k => C1 k h0) (D1 h0)) (h0 : Qa) : Cv (fun k => W0 (C0 k) (C1 k) h0) (W0 D0 D1 h0) := by
  unfold W0
  exact .cond (.bind (H0 _) fun r1 => by exact .const _) (.bind (H1 _) fun r2 => by exact .const _)
def Xy (C0 : Qa → Option (Qc × Qa)) (h0 : Qa) : Option (Qc × Qa) := ((C0 h0).bind fun (r1 : (Qc × Qa)) => (some ((Qc.mk (4 : Int) (0 : Int) s_ [r1.1]), r1.2)))
def Xz (P : Program) (call : CallF) (C0 : Qa → Option (Qc × Qa)) (h0 : Qa) : Tr (Qc × Qa) (AV × Heap) := (.call (call 243 [.ptr 0 0] [(0, .box [] (Qh h0))]) (C0 h0) Jn fun (r1 : (Qc × Qa)) => (.rows [[.sc (.int .i64 r1.1.Kind), .sc (.int .i64 r1.1.N), .sc (.string r1.1.Name), .sl (JY r1.1.L)]] (JY [r1.1]) (rt Wo ((Qc.mk (4 : Int) (0 : Int) s_ [r1.1]), r1.2))))
theorem F2 (call : CallF) (C0 : Qa → Option (Qc × Qa)) (h0 : Qa) : (Xz Tryz.prog call C0 h0).norm (bodyT Tryz.prog call G 264 [.ptr 0 0] [(0, .box [] (Qh h0))]) = Xz Tryz.prog call C0 h0 := by kernel_rfl
theorem F3 (P : Program) (call : CallF) (lp : Loops) (C0 : Qa → Option (Qc × Qa)) (K0 : ∀ (h0 : Qa) (r : (Qc × Qa)), C0 h0 = some r → (call 243 [.ptr 0 0] [(0, .box [] (Qh h0))]) = some (Jn r)) (h0 : Qa) : (Xz P call C0 h0).ok lp Wo := fun r1 hr1 => ⟨K0 _ _ hr1, ⟨(YQ [r1.1]), rfl⟩⟩
theorem F4 {C0 : Nat → Qa → Option (Qc × Qa)} {D0 : Qa → Option (Qc × Qa)} (H0 : ∀ (h0 : Qa), Cv (fun k => C0 k h0) (D0 h0)) (h0 : Qa) : Cv (fun k => Xy (C0 k) h0) (Xy D0 h0) := by
  unfold Xy
  exact .bind (H0 _) fun r1 => by exact .const _
def Ww (C0 : Qa → Option (Qc × Qa)) (C1 : Qa → Option (Qc × Qa)) (h0 : Qa) : Option (Qc × Qa) := (bif (decide (h0.deep ≥ (12 : Int))) then ((C0 h0).bind fun (r1 : (Qc × Qa)) => (some (r1.1, r1.2))) else ((C1 (Qa.mk h0.left (w64 (h0.deep + (1 : Int))) h0.bad)).bind fun (r2 : (Qc × Qa)) => (some (r2.1, (Qa.mk r2.2.left (w64 (r2.2.deep - (1 : Int))) r2.2.bad)))))
def Wx (P : Program) (call : CallF) (C0 : Qa → Option (Qc × Qa)) (C1 : Qa → Option (Qc × Qa)) (h0 : Qa) : Tr (Qc × Qa) (AV × Heap) := (.as (decide (h0.deep ≥ (12 : Int))) (.call (call 273 [.ptr 0 0] [(0, .box [] (Qh h0))]) (C0 h0) Q9 fun (r1 : (Qc × Qa)) => (rt U4 (r1.1, r1.2))) (.call (call 264 [.ptr 0 0] [(0, .box [] (Qh (Qa.mk (Qa.mk h0.left (w64 (h0.deep + (1 : Int))) h0.bad).left (Qa.mk h0.left (w64 (h0.deep + (1 : Int))) h0.bad).deep (Qa.mk h0.left (w64 (h0.deep + (1 : Int))) h0.bad).bad)))]) (C1 (Qa.mk h0.left (w64 (h0.deep + (1 : Int))) h0.bad)) Wo fun (r2 : (Qc × Qa)) => (rt U4 (r2.1, (Qa.mk r2.2.left (w64 (r2.2.deep - (1 : Int))) r2.2.bad)))))
theorem EU (call : CallF) (C0 : Qa → Option (Qc × Qa)) (C1 : Qa → Option (Qc × Qa)) (h0 : Qa) : (Wx Tryz.prog call C0 C1 h0).norm (bodyT Tryz.prog call G 262 [.ptr 0 0, .fn (.func 264) [.ptr 0 0] []] [(0, .box [] (Qh h0))]) = Wx Tryz.prog call C0 C1 h0 := by kernel_rfl
theorem EV (P : Program) (call : CallF) (lp : Loops) (C0 : Qa → Option (Qc × Qa)) (C1 : Qa → Option (Qc × Qa)) (K0 : ∀ (h0 : Qa) (r : (Qc × Qa)), C0 h0 = some r → (call 273 [.ptr 0 0] [(0, .box [] (Qh h0))]) = some (Q9 r)) (K1 : ∀ (h0 : Qa) (r : (Qc × Qa)), C1 h0 = some r → (call 264 [.ptr 0 0] [(0, .box [] (Qh h0))]) = some (Wo r)) (h0 : Qa) : (Wx P call C0 C1 h0).ok lp U4 := ⟨rfl, fun hq0 => fun r1 hr1 => ⟨K0 _ _ hr1, rfl⟩, fun hq0 => fun r2 hr2 => ⟨K1 _ _ hr2, rfl⟩⟩
theorem EW {C0 : Nat → Qa → Option (Qc × Qa)} {D0 : Qa → Option (Qc × Qa)} (H0 : ∀ (h0 : Qa), Cv (fun k => C0 k h0) (D0 h0)) {C1 : Nat → Qa → Option (Qc × Qa)} {D1 : Qa → Option (Qc × Qa)} (H1 : ∀ (h0 : Qa), Cv (fun k => C1 k h0) (D1 h0)) (h0 : Qa) : Cv (fun k => Ww (C0 k) (C1 k) h0) (Ww D0 D1 h0) := by
  unfold Ww
  exact .cond (.bind (H0 _) fun r1 => by exact .const _) (.bind (H1 _) fun r2 => by exact .const _)
def Yc (C0 : ByteArray → Qa → Option (Bool × Qa)) (C1 : Qa → Option (Qc × Qa)) (C2 : Qa → Option (Qc × Qa)) (C3 : ByteArray → Option Bool) (C4 : ByteArray → Option ByteArray) (C5 : ByteArray → Int → Qa → Option (Qc × Qa)) (C6 : Qc → Qa → Option (Qc × Qa)) (C7 : ByteArray → Option ByteArray) (C8 : ByteArray → Option ByteArray) (C9 : ByteArray → Option Bool) (C10 : Qa → Option (Qc × Qa)) (h0 : Qa) : Option (Qc × Qa) := ((C0 h_28 h0).bind fun (r1 : (Bool × Qa)) => (bif r1.1 then ((C1 r1.2).bind fun (r2 : (Qc × Qa)) => (some (r2.1, r2.2))) else ((C0 h_2d r1.2).bind fun (r3 : (Bool × Qa)) => (bif r3.1 then ((C2 r3.2).bind fun (r4 : (Qc × Qa)) => (some (r4.1, r4.2))) else ((C0 h_2e r3.2).bind fun (r5 : (Bool × Qa)) => (bif r5.1 then (some ((Qc.mk (3 : Int) (0 : Int) s_ ([] : List Qc)), r5.2)) else (bif r5.2.bad then (some ((Qc.mk (0 : Int) (0 : Int) s_ ([] : List Qc)), r5.2)) else ((C3 r5.2.left).bind fun (r6 : Bool) => (bif r6 then (bif (decide (0 ≤ (2 : Int) ∧ (2 : Int) ≤ ((r5.2.left.size : Nat) : Int) ∧ ((r5.2.left.size : Nat) : Int) ≤ ((r5.2.left.size : Nat) : Int))) then ((C4 (r5.2.left.extract (Int.toNat (2 : Int)) (Int.toNat ((r5.2.left.size : Nat) : Int)))).bind fun (r7 : ByteArray) => (bif (!(eqS r7 s_)) then ((C4 (r5.2.left.extract (Int.toNat (2 : Int)) (Int.toNat ((r5.2.left.size : Nat) : Int)))).bind fun (r8 : ByteArray) => ((C5 r8 (16 : Int) (Qa.mk (r5.2.left.extract (Int.toNat (2 : Int)) (Int.toNat ((r5.2.left.size : Nat) : Int))) r5.2.deep r5.2.bad)).bind fun (r9 : (Qc × Qa)) => ((C6 r9.1 r9.2).bind fun (r10 : (Qc × Qa)) => (some (r10.1, r10.2))))) else ((C7 r5.2.left).bind fun (r11 : ByteArray) => (bif (!(eqS r11 s_)) then ((C5 r11 (10 : Int) r5.2).bind fun (r12 : (Qc × Qa)) => ((C6 r12.1 r12.2).bind fun (r13 : (Qc × Qa)) => (some (r13.1, r13.2)))) else ((C8 r5.2.left).bind fun (r14 : ByteArray) => ((C9 r14).bind fun (r15 : Bool) => (bif r15 then (bif (decide (0 ≤ ((r14.size : Nat) : Int) ∧ ((r14.size : Nat) : Int) ≤ ((r5.2.left.size : Nat) : Int) ∧ ((r5.2.left.size : Nat) : Int) ≤ ((r5.2.left.size : Nat) : Int))) then (some ((Qc.mk (2 : Int) (0 : Int) r14 ([] : List Qc)), (Qa.mk (r5.2.left.extract (Int.toNat ((r14.size : Nat) : Int)) (Int.toNat ((r5.2.left.size : Nat) : Int))) r5.2.deep r5.2.bad))) else none) else ((C10 r5.2).bind fun (r16 : (Qc × Qa)) => (some (r16.1, r16.2)))))))))) else none) else ((C7 r5.2.left).bind fun (r17 : ByteArray) => (bif (!(eqS r17 s_)) then ((C5 r17 (10 : Int) r5.2).bind fun (r18 : (Qc × Qa)) => ((C6 r18.1 r18.2).bind fun (r19 : (Qc × Qa)) => (some (r19.1, r19.2)))) else ((C8 r5.2.left).bind fun (r20 : ByteArray) => ((C9 r20).bind fun (r21 : Bool) => (bif r21 then (bif (decide (0 ≤ ((r20.size : Nat) : Int) ∧ ((r20.size : Nat) : Int) ≤ ((r5.2.left.size : Nat) : Int) ∧ ((r5.2.left.size : Nat) : Int) ≤ ((r5.2.left.size : Nat) : Int))) then (some ((Qc.mk (2 : Int) (0 : Int) r20 ([] : List Qc)), (Qa.mk (r5.2.left.extract (Int.toNat ((r20.size : Nat) : Int)) (Int.toNat ((r5.2.left.size : Nat) : Int))) r5.2.deep r5.2.bad))) else none) else ((C10 r5.2).bind fun (r22 : (Qc × Qa)) => (some (r22.1, r22.2)))))))))))))))))
def Yd (P : Program) (call : CallF) (C0 : ByteArray → Qa → Option (Bool × Qa)) (C1 : Qa → Option (Qc × Qa)) (C2 : Qa → Option (Qc × Qa)) (C3 : ByteArray → Option Bool) (C4 : ByteArray → Option ByteArray) (C5 : ByteArray → Int → Qa → Option (Qc × Qa)) (C6 : Qc → Qa → Option (Qc × Qa)) (C7 : ByteArray → Option ByteArray) (C8 : ByteArray → Option ByteArray) (C9 : ByteArray → Option Bool) (C10 : Qa → Option (Qc × Qa)) (h0 : Qa) : Tr (Qc × Qa) (AV × Heap) := (.call (call 261 [.ptr 0 0, .sc (.string h_28)] [(0, .box [] (Qh h0))]) (C0 h_28 h0) JB fun (r1 : (Bool × Qa)) => (.as r1.1 (.call (call 262 [.ptr 0 0, .fn (.func 263) [.ptr 0 0] []] [(0, .box [] (Qh r1.2))]) (C1 r1.2) Vi fun (r2 : (Qc × Qa)) => (rt Jn (r2.1, r2.2))) (.call (call 261 [.ptr 0 0, .sc (.string h_2d)] [(0, .box [] (Qh r1.2))]) (C0 h_2d r1.2) JB fun (r3 : (Bool × Qa)) => (.as r3.1 (.call (call 262 [.ptr 0 0, .fn (.func 264) [.ptr 0 0] []] [(0, .box [] (Qh r3.2))]) (C2 r3.2) U4 fun (r4 : (Qc × Qa)) => (rt Jn (r4.1, r4.2))) (.call (call 261 [.ptr 0 0, .sc (.string h_2e)] [(0, .box [] (Qh r3.2))]) (C0 h_2e r3.2) JB fun (r5 : (Bool × Qa)) => (.as r5.1 (rt Jn ((Qc.mk (3 : Int) (0 : Int) s_ ([] : List Qc)), r5.2)) (.as r5.2.bad (rt Jn ((Qc.mk (0 : Int) (0 : Int) s_ ([] : List Qc)), r5.2)) (.call (call 265 [.sc (.string r5.2.left), .sc (.string s_0x)] []) (C3 r5.2.left) VL fun (r6 : Bool) => (.as r6 (yesN 4 r6 (.as (decide (0 ≤ (2 : Int) ∧ (2 : Int) ≤ ((r5.2.left.size : Nat) : Int) ∧ ((r5.2.left.size : Nat) : Int) ≤ ((r5.2.left.size : Nat) : Int))) (.yes r6 (.call (call 266 [.sc (.string (r5.2.left.extract (Int.toNat (2 : Int)) (Int.toNat ((r5.2.left.size : Nat) : Int)))), .fn (.func 267) [] []] []) (C4 (r5.2.left.extract (Int.toNat (2 : Int)) (Int.toNat ((r5.2.left.size : Nat) : Int)))) YL fun (r7 : ByteArray) => (yesN 2 r6 (.as (!(eqS r7 s_)) (.yes (decide (0 ≤ (2 : Int) ∧ (2 : Int) ≤ ((r5.2.left.size : Nat) : Int) ∧ ((r5.2.left.size : Nat) : Int) ≤ ((r5.2.left.size : Nat) : Int))) (.call (call 266 [.sc (.string (r5.2.left.extract (Int.toNat (2 : Int)) (Int.toNat ((r5.2.left.size : Nat) : Int)))), .fn (.func 267) [] []] []) (C4 (r5.2.left.extract (Int.toNat (2 : Int)) (Int.toNat ((r5.2.left.size : Nat) : Int)))) YL fun (r8 : ByteArray) => (.call (call 269 [.ptr 0 0, .sc (.string r8), .sc (.int .i64 (16 : Int))] [(0, .box [] (Qh (Qa.mk (Qa.mk (r5.2.left.extract (Int.toNat (2 : Int)) (Int.toNat ((r5.2.left.size : Nat) : Int))) r5.2.deep r5.2.bad).left (Qa.mk (r5.2.left.extract (Int.toNat (2 : Int)) (Int.toNat ((r5.2.left.size : Nat) : Int))) r5.2.deep r5.2.bad).deep (Qa.mk (r5.2.left.extract (Int.toNat (2 : Int)) (Int.toNat ((r5.2.left.size : Nat) : Int))) r5.2.deep r5.2.bad).bad)))]) (C5 r8 (16 : Int) (Qa.mk (r5.2.left.extract (Int.toNat (2 : Int)) (Int.toNat ((r5.2.left.size : Nat) : Int))) r5.2.deep r5.2.bad)) Uv fun (r9 : (Qc × Qa)) => (.call (call 268 [.ptr 0 0, .agg (QQ r9.1)] [(0, .box [] (Qh r9.2))]) (C6 r9.1 r9.2) UD fun (r10 : (Qc × Qa)) => (rt Jn (r10.1, r10.2)))))) (.call (call 266 [.sc (.string r5.2.left), .fn (.func 270) [] []] []) (C7 r5.2.left) Wv fun (r11 : ByteArray) => (.as (!(eqS r11 s_)) (.call (call 269 [.ptr 0 0, .sc (.string r11), .sc (.int .i64 (10 : Int))] [(0, .box [] (Qh r5.2))]) (C5 r11 (10 : Int) r5.2) Uv fun (r12 : (Qc × Qa)) => (.call (call 268 [.ptr 0 0, .agg (QQ r12.1)] [(0, .box [] (Qh r12.2))]) (C6 r12.1 r12.2) UD fun (r13 : (Qc × Qa)) => (rt Jn (r13.1, r13.2)))) (.call (call 266 [.sc (.string r5.2.left), .fn (.func 271) [] []] []) (C8 r5.2.left) Vz fun (r14 : ByteArray) => (.call (call 272 [.sc (.string r14)] []) (C9 r14) Ve fun (r15 : Bool) => (.as r15 (.as (decide (0 ≤ ((r14.size : Nat) : Int) ∧ ((r14.size : Nat) : Int) ≤ ((r5.2.left.size : Nat) : Int) ∧ ((r5.2.left.size : Nat) : Int) ≤ ((r5.2.left.size : Nat) : Int))) (rt Jn ((Qc.mk (2 : Int) (0 : Int) r14 ([] : List Qc)), (Qa.mk (r5.2.left.extract (Int.toNat ((r14.size : Nat) : Int)) (Int.toNat ((r5.2.left.size : Nat) : Int))) r5.2.deep r5.2.bad))) .fail) (.call (call 273 [.ptr 0 0] [(0, .box [] (Qh r5.2))]) (C10 r5.2) Q9 fun (r16 : (Qc × Qa)) => (rt Jn (r16.1, r16.2)))))))))))) .fail)) (noN 7 r6 (.no false (.call (call 266 [.sc (.string r5.2.left), .fn (.func 270) [] []] []) (C7 r5.2.left) Wv fun (r17 : ByteArray) => (.as (!(eqS r17 s_)) (.call (call 269 [.ptr 0 0, .sc (.string r17), .sc (.int .i64 (10 : Int))] [(0, .box [] (Qh r5.2))]) (C5 r17 (10 : Int) r5.2) Uv fun (r18 : (Qc × Qa)) => (.call (call 268 [.ptr 0 0, .agg (QQ r18.1)] [(0, .box [] (Qh r18.2))]) (C6 r18.1 r18.2) UD fun (r19 : (Qc × Qa)) => (rt Jn (r19.1, r19.2)))) (.call (call 266 [.sc (.string r5.2.left), .fn (.func 271) [] []] []) (C8 r5.2.left) Vz fun (r20 : ByteArray) => (.call (call 272 [.sc (.string r20)] []) (C9 r20) Ve fun (r21 : Bool) => (.as r21 (.as (decide (0 ≤ ((r20.size : Nat) : Int) ∧ ((r20.size : Nat) : Int) ≤ ((r5.2.left.size : Nat) : Int) ∧ ((r5.2.left.size : Nat) : Int) ≤ ((r5.2.left.size : Nat) : Int))) (rt Jn ((Qc.mk (2 : Int) (0 : Int) r20 ([] : List Qc)), (Qa.mk (r5.2.left.extract (Int.toNat ((r20.size : Nat) : Int)) (Int.toNat ((r5.2.left.size : Nat) : Int))) r5.2.deep r5.2.bad))) .fail) (.call (call 273 [.ptr 0 0] [(0, .box [] (Qh r5.2))]) (C10 r5.2) Q9 fun (r22 : (Qc × Qa)) => (rt Jn (r22.1, r22.2)))))))))))))))))))
theorem PT (call : CallF) (C0 : ByteArray → Qa → Option (Bool × Qa)) (C1 : Qa → Option (Qc × Qa)) (C2 : Qa → Option (Qc × Qa)) (C3 : ByteArray → Option Bool) (C4 : ByteArray → Option ByteArray) (C5 : ByteArray → Int → Qa → Option (Qc × Qa)) (C6 : Qc → Qa → Option (Qc × Qa)) (C7 : ByteArray → Option ByteArray) (C8 : ByteArray → Option ByteArray) (C9 : ByteArray → Option Bool) (C10 : Qa → Option (Qc × Qa)) (h0 : Qa) : (Yd Tryz.prog call C0 C1 C2 C3 C4 C5 C6 C7 C8 C9 C10 h0).norm (bodyT Tryz.prog call G 243 [.ptr 0 0] [(0, .box [] (Qh h0))]) = Yd Tryz.prog call C0 C1 C2 C3 C4 C5 C6 C7 C8 C9 C10 h0 := by kernel_rfl
theorem PU (P : Program) (call : CallF) (lp : Loops) (C0 : ByteArray → Qa → Option (Bool × Qa)) (C1 : Qa → Option (Qc × Qa)) (C2 : Qa → Option (Qc × Qa)) (C3 : ByteArray → Option Bool) (C4 : ByteArray → Option ByteArray) (C5 : ByteArray → Int → Qa → Option (Qc × Qa)) (C6 : Qc → Qa → Option (Qc × Qa)) (C7 : ByteArray → Option ByteArray) (C8 : ByteArray → Option ByteArray) (C9 : ByteArray → Option Bool) (C10 : Qa → Option (Qc × Qa)) (K0 : ∀ (a1 : ByteArray) (h0 : Qa) (r : (Bool × Qa)), C0 a1 h0 = some r → (call 261 [.ptr 0 0, .sc (.string a1)] [(0, .box [] (Qh h0))]) = some (JB r)) (K1 : ∀ (h0 : Qa) (r : (Qc × Qa)), C1 h0 = some r → (call 262 [.ptr 0 0, .fn (.func 263) [.ptr 0 0] []] [(0, .box [] (Qh h0))]) = some (Vi r)) (K2 : ∀ (h0 : Qa) (r : (Qc × Qa)), C2 h0 = some r → (call 262 [.ptr 0 0, .fn (.func 264) [.ptr 0 0] []] [(0, .box [] (Qh h0))]) = some (U4 r)) (K3 : ∀ (a0 : ByteArray) (r : Bool), C3 a0 = some r → (call 265 [.sc (.string a0), .sc (.string s_0x)] []) = some (VL r)) (K4 : ∀ (a0 : ByteArray) (r : ByteArray), C4 a0 = some r → (call 266 [.sc (.string a0), .fn (.func 267) [] []] []) = some (YL r)) (K5 : ∀ (a1 : ByteArray) (a2 : Int) (h0 : Qa) (r : (Qc × Qa)), C5 a1 a2 h0 = some r → (call 269 [.ptr 0 0, .sc (.string a1), .sc (.int .i64 a2)] [(0, .box [] (Qh h0))]) = some (Uv r)) (K6 : ∀ (a1 : Qc) (h0 : Qa) (r : (Qc × Qa)), C6 a1 h0 = some r → (call 268 [.ptr 0 0, .agg (QQ a1)] [(0, .box [] (Qh h0))]) = some (UD r)) (K7 : ∀ (a0 : ByteArray) (r : ByteArray), C7 a0 = some r → (call 266 [.sc (.string a0), .fn (.func 270) [] []] []) = some (Wv r)) (K8 : ∀ (a0 : ByteArray) (r : ByteArray), C8 a0 = some r → (call 266 [.sc (.string a0), .fn (.func 271) [] []] []) = some (Vz r)) (K9 : ∀ (a0 : ByteArray) (r : Bool), C9 a0 = some r → (call 272 [.sc (.string a0)] []) = some (Ve r)) (K10 : ∀ (h0 : Qa) (r : (Qc × Qa)), C10 h0 = some r → (call 273 [.ptr 0 0] [(0, .box [] (Qh h0))]) = some (Q9 r)) (h0 : Qa) : (Yd P call C0 C1 C2 C3 C4 C5 C6 C7 C8 C9 C10 h0).ok lp Jn := fun r1 hr1 => ⟨K0 _ _ _ hr1, ⟨rfl, fun hq0 => fun r2 hr2 => ⟨K1 _ _ hr2, rfl⟩, fun hq0 => fun r3 hr3 => ⟨K0 _ _ _ hr3, ⟨rfl, fun hq1 => fun r4 hr4 => ⟨K2 _ _ hr4, rfl⟩, fun hq1 => fun r5 hr5 => ⟨K0 _ _ _ hr5, ⟨rfl, fun hq2 => rfl, fun hq2 => ⟨rfl, fun hq3 => rfl, fun hq3 => fun r6 hr6 => ⟨K3 _ _ hr6, ⟨rfl, fun hq4 => yesN_ok 4 (hq4) (⟨rfl, fun hq5 => ⟨hq4, fun r7 hr7 => ⟨K4 _ _ hr7, yesN_ok 2 (hq4) (⟨rfl, fun hq6 => ⟨hq5, fun r8 hr8 => ⟨K4 _ _ hr8, fun r9 hr9 => ⟨K5 _ _ _ _ hr9, fun r10 hr10 => ⟨K6 _ _ _ hr10, rfl⟩⟩⟩⟩, fun hq6 => fun r11 hr11 => ⟨K7 _ _ hr11, ⟨rfl, fun hq7 => fun r12 hr12 => ⟨K5 _ _ _ _ hr12, fun r13 hr13 => ⟨K6 _ _ _ hr13, rfl⟩⟩, fun hq7 => fun r14 hr14 => ⟨K8 _ _ hr14, fun r15 hr15 => ⟨K9 _ _ hr15, ⟨rfl, fun hq8 => ⟨rfl, fun hq9 => rfl, fun hq9 => trivial⟩, fun hq8 => fun r16 hr16 => ⟨K10 _ _ hr16, rfl⟩⟩⟩⟩⟩⟩⟩)⟩⟩, fun hq5 => trivial⟩), fun hq4 => noN_ok 7 (hq4) (⟨rfl, fun r17 hr17 => ⟨K7 _ _ hr17, ⟨rfl, fun hq5 => fun r18 hr18 => ⟨K5 _ _ _ _ hr18, fun r19 hr19 => ⟨K6 _ _ _ hr19, rfl⟩⟩, fun hq5 => fun r20 hr20 => ⟨K8 _ _ hr20, fun r21 hr21 => ⟨K9 _ _ hr21, ⟨rfl, fun hq6 => ⟨rfl, fun hq7 => rfl, fun hq7 => trivial⟩, fun hq6 => fun r22 hr22 => ⟨K10 _ _ hr22, rfl⟩⟩⟩⟩⟩⟩⟩)⟩⟩⟩⟩⟩⟩⟩⟩⟩
theorem PV {C0 : Nat → ByteArray → Qa → Option (Bool × Qa)} {D0 : ByteArray → Qa → Option (Bool × Qa)} (H0 : ∀ (a1 : ByteArray) (h0 : Qa), Cv (fun k => C0 k a1 h0) (D0 a1 h0)) {C1 : Nat → Qa → Option (Qc × Qa)} {D1 : Qa → Option (Qc × Qa)} (H1 : ∀ (h0 : Qa), Cv (fun k => C1 k h0) (D1 h0)) {C2 : Nat → Qa → Option (Qc × Qa)} {D2 : Qa → Option (Qc × Qa)} (H2 : ∀ (h0 : Qa), Cv (fun k => C2 k h0) (D2 h0)) {C3 : Nat → ByteArray → Option Bool} {D3 : ByteArray → Option Bool} (H3 : ∀ (a0 : ByteArray), Cv (fun k => C3 k a0) (D3 a0)) {C4 : Nat → ByteArray → Option ByteArray} {D4 : ByteArray → Option ByteArray} (H4 : ∀ (a0 : ByteArray), Cv (fun k => C4 k a0) (D4 a0)) {C5 : Nat → ByteArray → Int → Qa → Option (Qc × Qa)} {D5 : ByteArray → Int → Qa → Option (Qc × Qa)} (H5 : ∀ (a1 : ByteArray) (a2 : Int) (h0 : Qa), Cv (fun k => C5 k a1 a2 h0) (D5 a1 a2 h0)) {C6 : Nat → Qc → Qa → Option (Qc × Qa)} {D6 : Qc → Qa → Option (Qc × Qa)} (H6 : ∀ (a1 : Qc) (h0 : Qa), Cv (fun k => C6 k a1 h0) (D6 a1 h0)) {C7 : Nat → ByteArray → Option ByteArray} {D7 : ByteArray → Option ByteArray} (H7 : ∀ (a0 : ByteArray), Cv (fun k => C7 k a0) (D7 a0)) {C8 : Nat → ByteArray → Option ByteArray} {D8 : ByteArray → Option ByteArray} (H8 : ∀ (a0 : ByteArray), Cv (fun k => C8 k a0) (D8 a0)) {C9 : Nat → ByteArray → Option Bool} {D9 : ByteArray → Option Bool} (H9 : ∀ (a0 : ByteArray), Cv (fun k => C9 k a0) (D9 a0)) {C10 : Nat → Qa → Option (Qc × Qa)} {D10 : Qa → Option (Qc × Qa)} (H10 : ∀ (h0 : Qa), Cv (fun k => C10 k h0) (D10 h0)) (h0 : Qa) : Cv (fun k => Yc (C0 k) (C1 k) (C2 k) (C3 k) (C4 k) (C5 k) (C6 k) (C7 k) (C8 k) (C9 k) (C10 k) h0) (Yc D0 D1 D2 D3 D4 D5 D6 D7 D8 D9 D10 h0) := by
  unfold Yc
  exact .bind (H0 _ _) fun r1 => .cond (.bind (H1 _) fun r2 => by exact .const _) (.bind (H0 _ _) fun r3 => .cond (.bind (H2 _) fun r4 => by exact .const _) (.bind (H0 _ _) fun r5 => .cond (by exact .const _) (.cond (by exact .const _) (.bind (H3 _) fun r6 => .cond (.cond (.bind (H4 _) fun r7 => .cond (.bind (H4 _) fun r8 => .bind (H5 _ _ _) fun r9 => .bind (H6 _ _) fun r10 => by exact .const _) (.bind (H7 _) fun r11 => .cond (.bind (H5 _ _ _) fun r12 => .bind (H6 _ _) fun r13 => by exact .const _) (.bind (H8 _) fun r14 => .bind (H9 _) fun r15 => .cond (by exact .const _) (.bind (H10 _) fun r16 => by exact .const _)))) (by exact .const _)) (.bind (H7 _) fun r17 => .cond (.bind (H5 _ _ _) fun r18 => .bind (H6 _ _) fun r19 => by exact .const _) (.bind (H8 _) fun r20 => .bind (H9 _) fun r21 => .cond (by exact .const _) (.bind (H10 _) fun r22 => by exact .const _)))))))
structure QK where
  x1 : Int
  x6 : Int
  h0 : Qa
  h1 : Qc
  h2 : Qc
structure QY where
  h0 : Qa
  h1 : Qc
  h2 : Qc
def Vj (a : QK) : St := { n := 47, nx := 3, env := [(0, .ptr 0 0), (1, .sc (.int .i64 a.x1)), (4, .ptr 1 0), (5, .ptr 2 0), (6, .sc (.int .i64 a.x6))], heap := [(0, .box [] (Qh a.h0)), (1, .box [] (QQ a.h1)), (2, .box [] (QQ a.h2))] }
def Vk (a : QY) : Ex × St := (.exit 0, { n := 47, nx := 3, env := [(4, .ptr 1 0), (5, .ptr 2 0)], heap := [(0, .box [] (Qh a.h0)), (1, .box [] (QQ a.h1)), (2, .box [] (QQ a.h2))] })
def W2 (C0 : Int → Qa → Option (Qc × Qa)) (C1 : Option (List (List Int))) (C2 : (List Int) → Qa → Option (Int × Qa)) (a : QK) : Option (QK ⊕ QY) := (bif (a.x6 != (0 : Int)) then (bif (!a.h0.bad) then ((C0 (w64 (a.x1 + (1 : Int))) a.h0).bind fun (r1 : (Qc × Qa)) => ((C1).bind fun (r2 : (List (List Int))) => (bif (decide (0 ≤ a.x1)) then ((r2[(Int.toNat a.x1)]?).bind fun (e3 : (List Int)) => ((C2 e3 r1.2).bind fun (r4 : (Int × Qa)) => (some (.inl (QK.mk a.x1 r4.1 r4.2 a.h1 (Qc.mk a.x6 (0 : Int) s_ [a.h2, r1.1])))))) else none))) else (some (.inr (QY.mk a.h0 a.h1 a.h2)))) else (some (.inr (QY.mk a.h0 a.h1 a.h2))))
def W3 (P : Program) (call : CallF) (C0 : Int → Qa → Option (Qc × Qa)) (C1 : Option (List (List Int))) (C2 : (List Int) → Qa → Option (Int × Qa)) (a : QK) : Tr (QK ⊕ QY) (Ex × St) := (.as (a.x6 != (0 : Int)) (yesN 5 (a.x6 != (0 : Int)) (.as (!a.h0.bad) (.call (call 215 [.ptr 0 0, .sc (.int .i64 (w64 (a.x1 + (1 : Int))))] [(0, .box [] (Qh a.h0))]) (C0 (w64 (a.x1 + (1 : Int))) a.h0) JI fun (r1 : (Qc × Qa)) => (.rows [[.sc (.int .i64 a.h2.Kind), .sc (.int .i64 a.h2.N), .sc (.string a.h2.Name), .sl (JY a.h2.L)], [.sc (.int .i64 r1.1.Kind), .sc (.int .i64 r1.1.N), .sc (.string r1.1.Name), .sl (JY r1.1.L)]] (JY [a.h2, r1.1]) (.call (call 242 [] []) (C1) VD fun (r2 : (List (List Int))) => (.as (decide (0 ≤ a.x1)) (.row ((GA r2)[(Int.toNat a.x1)]?) (r2[(Int.toNat a.x1)]?) Pc fun (e3 : (List Int)) => (.call (call 244 [.ptr 0 0, .sl (JX e3)] [(0, .box [] (Qh r1.2))]) (C2 e3 r1.2) Ux fun (r4 : (Int × Qa)) => (lf Vj (QK.mk a.x1 r4.1 r4.2 a.h1 (Qc.mk a.x6 (0 : Int) s_ [a.h2, r1.1]))))) .fail)))) (rx Vk (QY.mk a.h0 a.h1 a.h2)))) (noN 5 (a.x6 != (0 : Int)) (.no false (rx Vk (QY.mk a.h0 a.h1 a.h2)))))
theorem FK (call : CallF) (C0 : Int → Qa → Option (Qc × Qa)) (C1 : Option (List (List Int))) (C2 : (List Int) → Qa → Option (Int × Qa)) (a : QK) : (W3 Tryz.prog call C0 C1 C2 a).norm (roundT Tryz.prog G.kd call 1 (G.an 215) (loopAt Tryz.prog 215 5) (Vj a)) = W3 Tryz.prog call C0 C1 C2 a := by kernel_rfl
theorem FL (P : Program) (call : CallF) (lp : Loops) (C0 : Int → Qa → Option (Qc × Qa)) (C1 : Option (List (List Int))) (C2 : (List Int) → Qa → Option (Int × Qa)) (K0 : ∀ (a1 : Int) (h0 : Qa) (r : (Qc × Qa)), C0 a1 h0 = some r → (call 215 [.ptr 0 0, .sc (.int .i64 a1)] [(0, .box [] (Qh h0))]) = some (JI r)) (K1 : ∀  (r : (List (List Int))), C1 = some r → (call 242 [] []) = some (VD r)) (K2 : ∀ (a1 : (List Int)) (h0 : Qa) (r : (Int × Qa)), C2 a1 h0 = some r → (call 244 [.ptr 0 0, .sl (JX a1)] [(0, .box [] (Qh h0))]) = some (Ux r)) (a : QK) : (W3 P call C0 C1 C2 a).ok lp (Sum.elim (fun a => (.norm, Vj a)) Vk) := ⟨rfl, fun hq0 => yesN_ok 5 (hq0) (⟨rfl, fun hq1 => fun r1 hr1 => ⟨K0 _ _ _ hr1, ⟨(YQ [a.h2, r1.1]), fun r2 hr2 => ⟨K1 _ hr2, ⟨rfl, fun hq2 => fun e3 he3 => ⟨Sb he3, fun r4 hr4 => ⟨K2 _ _ _ hr4, rfl⟩⟩, fun hq2 => trivial⟩⟩⟩⟩, fun hq1 => rfl⟩), fun hq0 => noN_ok 5 (hq0) (⟨rfl, rfl⟩)⟩
theorem FM {C0 : Nat → Int → Qa → Option (Qc × Qa)} {D0 : Int → Qa → Option (Qc × Qa)} (H0 : ∀ (a1 : Int) (h0 : Qa), Cv (fun k => C0 k a1 h0) (D0 a1 h0)) {C1 : Nat → Option (List (List Int))} {D1 : Option (List (List Int))} (H1 : Cv (fun k => C1 k ) (D1 )) {C2 : Nat → (List Int) → Qa → Option (Int × Qa)} {D2 : (List Int) → Qa → Option (Int × Qa)} (H2 : ∀ (a1 : (List Int)) (h0 : Qa), Cv (fun k => C2 k a1 h0) (D2 a1 h0)) (a : QK) : Cv (fun k => W2 (C0 k) (C1 k) (C2 k) a) (W2 D0 D1 D2 a) := by
  unfold W2
  exact .cond (.cond (.bind (H0 _ _) fun r1 => .bind (H1) fun r2 => .cond (.bind (.const (r2[(Int.toNat a.x1)]?)) fun e3 => .bind (H2 _ _) fun r4 => by exact .const _) (by exact .const _)) (by exact .const _)) (by exact .const _)
def Vd.s (k : Nat) (C0 : Int → Qa → Option (Qc × Qa)) (C1 : Option (List (List Int))) (C2 : (List Int) → Qa → Option (Int × Qa)) : QK → Option QY := iter (W2 C0 C1 C2) k
theorem Fr (call : CallF) (k : Nat) (C0 : Int → Qa → Option (Qc × Qa)) (C1 : Option (List (List Int))) (C2 : (List Int) → Qa → Option (Int × Qa)) (K0 : ∀ (a1 : Int) (h0 : Qa) (r : (Qc × Qa)), C0 a1 h0 = some r → (call 215 [.ptr 0 0, .sc (.int .i64 a1)] [(0, .box [] (Qh h0))]) = some (JI r)) (K1 : ∀  (r : (List (List Int))), C1 = some r → (call 242 [] []) = some (VD r)) (K2 : ∀ (a1 : (List Int)) (h0 : Qa) (r : (Int × Qa)), C2 a1 h0 = some r → (call 244 [.ptr 0 0, .sl (JX a1)] [(0, .box [] (Qh h0))]) = some (Ux r)) (a : QK) (r : QY) (h : Vd.s k C0 C1 C2 a = some r) : loopsF Tryz.prog G.kd call 1 (G.an 215) k (loopAt Tryz.prog 215 5) (Vj a) = some (Vk r) :=
  loop_ok (fun a => W3 Tryz.prog call C0 C1 C2 a) (fun _ => rfl) (fun a => FK call _ _ _ a) (fun a => FL _ call _ _ _ _ K0 K1 K2 a) (fun r => nofun) h
theorem Vd.m {j k : Nat} (hj : j ≤ k) (C0 : Int → Qa → Option (Qc × Qa)) (C1 : Option (List (List Int))) (C2 : (List Int) → Qa → Option (Int × Qa)) (D0 : Int → Qa → Option (Qc × Qa)) (D1 : Option (List (List Int))) (D2 : (List Int) → Qa → Option (Int × Qa)) (H0 : ∀ (a1 : Int) (h0 : Qa), Le (C0 a1 h0) (D0 a1 h0)) (H1 : Le (C1 ) (D1 )) (H2 : ∀ (a1 : (List Int)) (h0 : Qa), Le (C2 a1 h0) (D2 a1 h0)) (a : QK) : Le (Vd.s j C0 C1 C2 a) (Vd.s k D0 D1 D2 a) := Le.iter (fun a => (FM (fun a1 h0 => .two (H0 a1 h0)) (.two H1) (fun a1 h0 => .two (H2 a1 h0)) a).1 0) hj a
def Ye (C0 : Option (List (List Int))) (C1 : Qa → Option (Qc × Qa)) (C2 : Int → Qa → Option (Qc × Qa)) (C3 : (List Int) → Qa → Option (Int × Qa)) (L4 : QK → Option QY) (a1 : Int) (h0 : Qa) : Option (Qc × Qa) := ((C0).bind fun (r1 : (List (List Int))) => (bif (a1 == (((r1.length) : Nat) : Int)) then ((C1 h0).bind fun (r2 : (Qc × Qa)) => (some (r2.1, r2.2))) else ((C2 (w64 (a1 + (1 : Int))) h0).bind fun (r3 : (Qc × Qa)) => ((C0).bind fun (r4 : (List (List Int))) => (bif (decide (0 ≤ a1)) then ((r4[(Int.toNat a1)]?).bind fun (e5 : (List Int)) => ((C3 e5 r3.2).bind fun (r6 : (Int × Qa)) => ((L4 (QK.mk a1 r6.1 r6.2 (Qc.mk (0 : Int) (0 : Int) s_ ([] : List Qc)) r3.1)).bind (fun (o7 : QY) => (some (o7.h2, o7.h0)))))) else none)))))
def Yf (P : Program) (call : CallF) (C0 : Option (List (List Int))) (C1 : Qa → Option (Qc × Qa)) (C2 : Int → Qa → Option (Qc × Qa)) (C3 : (List Int) → Qa → Option (Int × Qa)) (L4 : QK → Option QY) (a1 : Int) (h0 : Qa) : Tr (Qc × Qa) (AV × Heap) := (.call (call 242 [] []) (C0) VD fun (r1 : (List (List Int))) => (.num ((GA r1).length) (r1.length) (.as (a1 == (((r1.length) : Nat) : Int)) (.call (call 243 [.ptr 0 0] [(0, .box [] (Qh h0))]) (C1 h0) Jn fun (r2 : (Qc × Qa)) => (rt JI (r2.1, r2.2))) (.call (call 215 [.ptr 0 0, .sc (.int .i64 (w64 (a1 + (1 : Int))))] [(0, .box [] (Qh h0))]) (C2 (w64 (a1 + (1 : Int))) h0) JI fun (r3 : (Qc × Qa)) => (.call (call 242 [] []) (C0) VD fun (r4 : (List (List Int))) => (.as (decide (0 ≤ a1)) (.row ((GA r4)[(Int.toNat a1)]?) (r4[(Int.toNat a1)]?) Pc fun (e5 : (List Int)) => (.call (call 244 [.ptr 0 0, .sl (JX e5)] [(0, .box [] (Qh r3.2))]) (C3 e5 r3.2) Ux fun (r6 : (Int × Qa)) => (.loop (loopAt P 215 5) (Vj (QK.mk a1 r6.1 r6.2 (Qc.mk (0 : Int) (0 : Int) s_ ([] : List Qc)) r3.1)) (L4 (QK.mk a1 r6.1 r6.2 (Qc.mk (0 : Int) (0 : Int) s_ ([] : List Qc)) r3.1)) Vk (fun (o7 : QY) => (rt JI (o7.h2, o7.h0)))))) .fail))))))
theorem PW (call : CallF) (C0 : Option (List (List Int))) (C1 : Qa → Option (Qc × Qa)) (C2 : Int → Qa → Option (Qc × Qa)) (C3 : (List Int) → Qa → Option (Int × Qa)) (L4 : QK → Option QY) (a1 : Int) (h0 : Qa) : (Yf Tryz.prog call C0 C1 C2 C3 L4 a1 h0).norm (bodyT Tryz.prog call G 215 [.ptr 0 0, .sc (.int .i64 a1)] [(0, .box [] (Qh h0))]) = Yf Tryz.prog call C0 C1 C2 C3 L4 a1 h0 := by kernel_rfl
theorem PX (P : Program) (call : CallF) (lp : Loops) (C0 : Option (List (List Int))) (C1 : Qa → Option (Qc × Qa)) (C2 : Int → Qa → Option (Qc × Qa)) (C3 : (List Int) → Qa → Option (Int × Qa)) (L4 : QK → Option QY) (K0 : ∀  (r : (List (List Int))), C0 = some r → (call 242 [] []) = some (VD r)) (K1 : ∀ (h0 : Qa) (r : (Qc × Qa)), C1 h0 = some r → (call 243 [.ptr 0 0] [(0, .box [] (Qh h0))]) = some (Jn r)) (K2 : ∀ (a1 : Int) (h0 : Qa) (r : (Qc × Qa)), C2 a1 h0 = some r → (call 215 [.ptr 0 0, .sc (.int .i64 a1)] [(0, .box [] (Qh h0))]) = some (JI r)) (K3 : ∀ (a1 : (List Int)) (h0 : Qa) (r : (Int × Qa)), C3 a1 h0 = some r → (call 244 [.ptr 0 0, .sl (JX a1)] [(0, .box [] (Qh h0))]) = some (Ux r)) (N4 : ∀ (a : QK) (r : QY), L4 a = some r → lp (loopAt P 215 5) (Vj a) = some (Vk r)) (a1 : Int) (h0 : Qa) : (Yf P call C0 C1 C2 C3 L4 a1 h0).ok lp JI := fun r1 hr1 => ⟨K0 _ hr1, ⟨(QbH _), ⟨rfl, fun hq0 => fun r2 hr2 => ⟨K1 _ _ hr2, rfl⟩, fun hq0 => fun r3 hr3 => ⟨K2 _ _ _ hr3, fun r4 hr4 => ⟨K0 _ hr4, ⟨rfl, fun hq1 => fun e5 he5 => ⟨Sb he5, fun r6 hr6 => ⟨K3 _ _ _ hr6, fun o7 ho7 => ⟨N4 _ _ ho7, rfl⟩⟩⟩, fun hq1 => trivial⟩⟩⟩⟩⟩⟩
theorem PY {C0 : Nat → Option (List (List Int))} {D0 : Option (List (List Int))} (H0 : Cv (fun k => C0 k ) (D0 )) {C1 : Nat → Qa → Option (Qc × Qa)} {D1 : Qa → Option (Qc × Qa)} (H1 : ∀ (h0 : Qa), Cv (fun k => C1 k h0) (D1 h0)) {C2 : Nat → Int → Qa → Option (Qc × Qa)} {D2 : Int → Qa → Option (Qc × Qa)} (H2 : ∀ (a1 : Int) (h0 : Qa), Cv (fun k => C2 k a1 h0) (D2 a1 h0)) {C3 : Nat → (List Int) → Qa → Option (Int × Qa)} {D3 : (List Int) → Qa → Option (Int × Qa)} (H3 : ∀ (a1 : (List Int)) (h0 : Qa), Cv (fun k => C3 k a1 h0) (D3 a1 h0)) {L4 : Nat → QK → Option QY} {M4 : QK → Option QY} (N4 : ∀ a, Cv (fun k => L4 k a) (M4 a)) (a1 : Int) (h0 : Qa) : Cv (fun k => Ye (C0 k) (C1 k) (C2 k) (C3 k) (L4 k) a1 h0) (Ye D0 D1 D2 D3 M4 a1 h0) := by
  unfold Ye
  exact .bind (H0) fun r1 => .cond (.bind (H1 _) fun r2 => by exact .const _) (.bind (H2 _ _) fun r3 => .bind (H0) fun r4 => .cond (.bind (.const (r4[(Int.toNat a1)]?)) fun e5 => .bind (H3 _ _) fun r6 => .bind (N4 _) (fun o7 => by exact .const _)) (by exact .const _))
mutual
def WR.s : Nat → Qa → Option (Qc × Qa)
  | 0, _ => none
  | k + 1, h0 => Xw (fun a1 h0 => Jh.s k a1 h0) (fun a1 h0 => Jg.s k a1 h0) (fun h0 => QA.s k h0) h0
termination_by structural k => k
def WD.s : Nat → Qa → Option (Qc × Qa)
  | 0, _ => none
  | k + 1, h0 => W0 (fun h0 => QA.s k h0) (fun h0 => WR.s k h0) h0
termination_by structural k => k
def WS.s : Nat → Qa → Option (Qc × Qa)
  | 0, _ => none
  | k + 1, h0 => Xy (fun h0 => V1.s k h0) h0
termination_by structural k => k
def V2.s : Nat → Qa → Option (Qc × Qa)
  | 0, _ => none
  | k + 1, h0 => Ww (fun h0 => QA.s k h0) (fun h0 => WS.s k h0) h0
termination_by structural k => k
def V1.s : Nat → Qa → Option (Qc × Qa)
  | 0, _ => none
  | k + 1, h0 => Yc (fun a1 h0 => Jg.s k a1 h0) (fun h0 => WD.s k h0) (fun h0 => V2.s k h0) (fun a0 => Um.s k a0) (fun a0 => YY.s k a0) (fun a1 a2 h0 => Uw.s k a1 a2 h0) (fun a1 h0 => UF.s k a1 h0) (fun a0 => VM.s k a0) (fun a0 => UQ.s k a0) (fun a0 => XV.s k a0) (fun h0 => QA.s k h0) h0
termination_by structural k => k
def Jh.s : Nat → Int → Qa → Option (Qc × Qa)
  | 0, _, _ => none
  | k + 1, a1, h0 => Ye (UA.s k) (fun h0 => V1.s k h0) (fun a1 h0 => Jh.s k a1 h0) (fun a1 h0 => JH.s k a1 h0) (Vd.s k (fun a1 h0 => Jh.s k a1 h0) (UA.s k) (fun a1 h0 => JH.s k a1 h0)) a1 h0
termination_by structural k => k
end
theorem Zr : ∀ (k : Nat), (∀ (h0 : Qa) (r : (Qc × Qa)), WR.s k h0 = some r → evalFn Tryz.prog G k 263 [.ptr 0 0] [(0, .box [] (Qh h0))] = some (Vu r)) ∧ (∀ (h0 : Qa) (r : (Qc × Qa)), WD.s k h0 = some r → evalFn Tryz.prog G k 262 [.ptr 0 0, .fn (.func 263) [.ptr 0 0] []] [(0, .box [] (Qh h0))] = some (Vi r)) ∧ (∀ (h0 : Qa) (r : (Qc × Qa)), WS.s k h0 = some r → evalFn Tryz.prog G k 264 [.ptr 0 0] [(0, .box [] (Qh h0))] = some (Wo r)) ∧ (∀ (h0 : Qa) (r : (Qc × Qa)), V2.s k h0 = some r → evalFn Tryz.prog G k 262 [.ptr 0 0, .fn (.func 264) [.ptr 0 0] []] [(0, .box [] (Qh h0))] = some (U4 r)) ∧ (∀ (h0 : Qa) (r : (Qc × Qa)), V1.s k h0 = some r → evalFn Tryz.prog G k 243 [.ptr 0 0] [(0, .box [] (Qh h0))] = some (Jn r)) ∧ (∀ (a1 : Int) (h0 : Qa) (r : (Qc × Qa)), Jh.s k a1 h0 = some r → evalFn Tryz.prog G k 215 [.ptr 0 0, .sc (.int .i64 a1)] [(0, .box [] (Qh h0))] = some (JI r))
  | 0 => ⟨fun _ _ h => (nomatch h), fun _ _ h => (nomatch h), fun _ _ h => (nomatch h), fun _ _ h => (nomatch h), fun _ _ h => (nomatch h), fun _ _ _ h => (nomatch h)⟩
  | k + 1 => by
    obtain ⟨i_expr_parser_group, i_expr_parser_within, i_expr_parser_minus, i_expr_parser_within_2, i_expr_parser_one, i_expr_parser_two⟩ := Zr k
    exact ⟨fun h0 r h => fn_ok rfl (Xx Tryz.prog (evalFn Tryz.prog G k) (fun a1 h0 => Jh.s k a1 h0) (fun a1 h0 => Jg.s k a1 h0) (fun h0 => QA.s k h0) h0) (FZ _ _ _ _ h0) (F0 _ _ _ _ _ _ (i_expr_parser_two) (Jg.ok k) (QA.ok k)  h0) h,
      fun h0 r h => fn_ok rfl (W1 Tryz.prog (evalFn Tryz.prog G k) (fun h0 => QA.s k h0) (fun h0 => WR.s k h0) h0) (FH _ _ _ h0) (FI _ _ _ _ _ (QA.ok k) (i_expr_parser_group)  h0) h,
      fun h0 r h => fn_ok rfl (Xz Tryz.prog (evalFn Tryz.prog G k) (fun h0 => V1.s k h0) h0) (F2 _ _ h0) (F3 _ _ _ _ (i_expr_parser_one)  h0) h,
      fun h0 r h => fn_ok rfl (Wx Tryz.prog (evalFn Tryz.prog G k) (fun h0 => QA.s k h0) (fun h0 => WS.s k h0) h0) (EU _ _ _ h0) (EV _ _ _ _ _ (QA.ok k) (i_expr_parser_minus)  h0) h,
      fun h0 r h => fn_ok rfl (Yd Tryz.prog (evalFn Tryz.prog G k) (fun a1 h0 => Jg.s k a1 h0) (fun h0 => WD.s k h0) (fun h0 => V2.s k h0) (fun a0 => Um.s k a0) (fun a0 => YY.s k a0) (fun a1 a2 h0 => Uw.s k a1 a2 h0) (fun a1 h0 => UF.s k a1 h0) (fun a0 => VM.s k a0) (fun a0 => UQ.s k a0) (fun a0 => XV.s k a0) (fun h0 => QA.s k h0) h0) (PT _ _ _ _ _ _ _ _ _ _ _ _ h0) (PU _ _ _ _ _ _ _ _ _ _ _ _ _ _ (Jg.ok k) (i_expr_parser_within) (i_expr_parser_within_2) (Um.ok k) (YY.ok k) (Uw.ok k) (UF.ok k) (VM.ok k) (UQ.ok k) (XV.ok k) (QA.ok k)  h0) h,
      fun a1 h0 r h => fn_ok rfl (Yf Tryz.prog (evalFn Tryz.prog G k) (UA.s k) (fun h0 => V1.s k h0) (fun a1 h0 => Jh.s k a1 h0) (fun a1 h0 => JH.s k a1 h0) (Vd.s k (fun a1 h0 => Jh.s k a1 h0) (UA.s k) (fun a1 h0 => JH.s k a1 h0)) a1 h0) (PW _ _ _ _ _ _ a1 h0) (PX _ _ _ _ _ _ _ _ (UA.ok k) (i_expr_parser_one) (i_expr_parser_two) (JH.ok k) (Fr _ k _ _ _ (i_expr_parser_two) (UA.ok k) (JH.ok k)) a1 h0) h⟩
theorem Jh.ok (k : Nat) : ∀ (a1 : Int) (h0 : Qa) (r : (Qc × Qa)), Jh.s k a1 h0 = some r → evalFn Tryz.prog G k 215 [.ptr 0 0, .sc (.int .i64 a1)] [(0, .box [] (Qh h0))] = some (JI r) := (Zr k).2.2.2.2.2
theorem Zi : ∀ (k : Nat), (∀ (h0 : Qa), Le (WR.s k h0) (WR.s (k + 1) h0)) ∧ (∀ (h0 : Qa), Le (WD.s k h0) (WD.s (k + 1) h0)) ∧ (∀ (h0 : Qa), Le (WS.s k h0) (WS.s (k + 1) h0)) ∧ (∀ (h0 : Qa), Le (V2.s k h0) (V2.s (k + 1) h0)) ∧ (∀ (h0 : Qa), Le (V1.s k h0) (V1.s (k + 1) h0)) ∧ (∀ (a1 : Int) (h0 : Qa), Le (Jh.s k a1 h0) (Jh.s (k + 1) a1 h0))
  | 0 => ⟨fun _ _ h => (nomatch h), fun _ _ h => (nomatch h), fun _ _ h => (nomatch h), fun _ _ h => (nomatch h), fun _ _ h => (nomatch h), fun _ _ _ h => (nomatch h)⟩
  | k + 1 => by
    obtain ⟨i_expr_parser_group, i_expr_parser_within, i_expr_parser_minus, i_expr_parser_within_2, i_expr_parser_one, i_expr_parser_two⟩ := Zi k
    exact ⟨fun h0 => (F1 (fun a1 h0 => .two ((i_expr_parser_two) a1 h0)) (fun a1 h0 => .two ((Jg.mono k) a1 h0)) (fun h0 => .two ((QA.mono k) h0)) h0).1 0,
      fun h0 => (FJ (fun h0 => .two ((QA.mono k) h0)) (fun h0 => .two ((i_expr_parser_group) h0)) h0).1 0,
      fun h0 => (F4 (fun h0 => .two ((i_expr_parser_one) h0)) h0).1 0,
      fun h0 => (EW (fun h0 => .two ((QA.mono k) h0)) (fun h0 => .two ((i_expr_parser_minus) h0)) h0).1 0,
      fun h0 => (PV (fun a1 h0 => .two ((Jg.mono k) a1 h0)) (fun h0 => .two ((i_expr_parser_within) h0)) (fun h0 => .two ((i_expr_parser_within_2) h0)) (fun a0 => .two ((Um.mono k) a0)) (fun a0 => .two ((YY.mono k) a0)) (fun a1 a2 h0 => .two ((Uw.mono k) a1 a2 h0)) (fun a1 h0 => .two ((UF.mono k) a1 h0)) (fun a0 => .two ((VM.mono k) a0)) (fun a0 => .two ((UQ.mono k) a0)) (fun a0 => .two ((XV.mono k) a0)) (fun h0 => .two ((QA.mono k) h0)) h0).1 0,
      fun a1 h0 => (PY (.two (UA.mono k)) (fun h0 => .two ((i_expr_parser_one) h0)) (fun a1 h0 => .two ((i_expr_parser_two) a1 h0)) (fun a1 h0 => .two ((JH.mono k) a1 h0)) (fun a => .two ((Vd.m (Nat.le_succ k) (fun a1 h0 => Jh.s k a1 h0) (UA.s k) (fun a1 h0 => JH.s k a1 h0) (fun a1 h0 => Jh.s (k + 1) a1 h0) (UA.s (k + 1)) (fun a1 h0 => JH.s (k + 1) a1 h0) (i_expr_parser_two) (UA.mono k) (JH.mono k)) a)) a1 h0).1 0⟩
theorem Jh.mono (k : Nat) : ∀ (a1 : Int) (h0 : Qa), Le (Jh.s k a1 h0) (Jh.s (k + 1) a1 h0) := (Zi k).2.2.2.2.2
def Xo (r : (Qc × Bool)) : AV × Heap := (.tup [.agg (QQ r.1), .sc (.bool r.2)], [])
def ZW (C0 : Int → Qa → Option (Qc × Qa)) (C1 : Qa → Option Qa) (a0 : ByteArray) : Option (Qc × Bool) := ((C0 (0 : Int) (Qa.mk a0 (0 : Int) false)).bind fun (r1 : (Qc × Qa)) => ((C1 r1.2).bind fun (r2 : Qa) => (bif r2.bad then (some ((Qc.mk (0 : Int) (0 : Int) s_ ([] : List Qc)), false)) else (bif (!(eqS r2.left s_)) then (some ((Qc.mk (0 : Int) (0 : Int) s_ ([] : List Qc)), false)) else (some (r1.1, true))))))
def ZX (P : Program) (call : CallF) (C0 : Int → Qa → Option (Qc × Qa)) (C1 : Qa → Option Qa) (a0 : ByteArray) : Tr (Qc × Bool) (AV × Heap) := (.call (call 215 [.ptr 0 0, .sc (.int .i64 (0 : Int))] [(0, .box [] (Qh (Qa.mk (Qa.mk a0 (0 : Int) false).left (Qa.mk a0 (0 : Int) false).deep (Qa.mk a0 (0 : Int) false).bad)))]) (C0 (0 : Int) (Qa.mk a0 (0 : Int) false)) JI fun (r1 : (Qc × Qa)) => (.call (call 216 [.ptr 0 0] [(0, .box [] (Qh r1.2))]) (C1 r1.2) UW fun (r2 : Qa) => (.as r2.bad (yesN 5 r2.bad (.yes true (rt Xo ((Qc.mk (0 : Int) (0 : Int) s_ ([] : List Qc)), false)))) (noN 5 r2.bad (.as (!(eqS r2.left s_)) (rt Xo ((Qc.mk (0 : Int) (0 : Int) s_ ([] : List Qc)), false)) (rt Xo (r1.1, true)))))))
theorem QaS (call : CallF) (C0 : Int → Qa → Option (Qc × Qa)) (C1 : Qa → Option Qa) (a0 : ByteArray) : (ZX Tryz.prog call C0 C1 a0).norm (bodyT Tryz.prog call G 179 [.sc (.string a0)] []) = ZX Tryz.prog call C0 C1 a0 := by kernel_rfl
theorem QaT (P : Program) (call : CallF) (lp : Loops) (C0 : Int → Qa → Option (Qc × Qa)) (C1 : Qa → Option Qa) (K0 : ∀ (a1 : Int) (h0 : Qa) (r : (Qc × Qa)), C0 a1 h0 = some r → (call 215 [.ptr 0 0, .sc (.int .i64 a1)] [(0, .box [] (Qh h0))]) = some (JI r)) (K1 : ∀ (h0 : Qa) (r : Qa), C1 h0 = some r → (call 216 [.ptr 0 0] [(0, .box [] (Qh h0))]) = some (UW r)) (a0 : ByteArray) : (ZX P call C0 C1 a0).ok lp Xo := fun r1 hr1 => ⟨K0 _ _ _ hr1, fun r2 hr2 => ⟨K1 _ _ hr2, ⟨rfl, fun hq0 => yesN_ok 5 (hq0) (⟨rfl, rfl⟩), fun hq0 => noN_ok 5 (hq0) (⟨rfl, fun hq1 => rfl, fun hq1 => rfl⟩)⟩⟩⟩
theorem QaU {C0 : Nat → Int → Qa → Option (Qc × Qa)} {D0 : Int → Qa → Option (Qc × Qa)} (H0 : ∀ (a1 : Int) (h0 : Qa), Cv (fun k => C0 k a1 h0) (D0 a1 h0)) {C1 : Nat → Qa → Option Qa} {D1 : Qa → Option Qa} (H1 : ∀ (h0 : Qa), Cv (fun k => C1 k h0) (D1 h0)) (a0 : ByteArray) : Cv (fun k => ZW (C0 k) (C1 k) a0) (ZW D0 D1 a0) := by
  unfold ZW
  exact .bind (H0 _ _) fun r1 => .bind (H1 _) fun r2 => by exact .const _
def W4.s : Nat → ByteArray → Option (Qc × Bool)
  | 0, _ => none
  | k + 1, a0 => ZW (fun a1 h0 => Jh.s k a1 h0) (fun h0 => JM.s k h0) a0
theorem W4.ok : ∀ (k : Nat), ∀ (a0 : ByteArray) (r : (Qc × Bool)), W4.s k a0 = some r → evalFn Tryz.prog G k 179 [.sc (.string a0)] [] = some (Xo r)
  | 0, _, _, h => (nomatch h)
  | k + 1, a0, r, h => fn_ok rfl (ZX Tryz.prog (evalFn Tryz.prog G k) (fun a1 h0 => Jh.s k a1 h0) (fun h0 => JM.s k h0) a0) (QaS _ _ _ a0) (QaT _ _ _ _ _ (Jh.ok k) (JM.ok k)  a0) h
theorem W4.mono : ∀ (k : Nat) (a0 : ByteArray), Le (W4.s k a0) (W4.s (k + 1) a0)
  | 0, _ => fun r h => (nomatch h)
  | k + 1, a0 => (QaU (fun a1 h0 => .two ((Jh.mono k) a1 h0)) (fun h0 => .two ((JM.mono k) h0)) a0).1 0
def Vv (r : (Bool × Qb)) : AV × Heap := (.sc (.bool r.1), [(0, .box [0, 0, 0, 0, 0, 5] [.sc (.int .i64 r.2.x.Line), .sc (.string r.2.x.Label), .sc (.int .i64 r.2.x.Kind), .sc (.int .i64 r.2.x.Op), .sc (.string r.2.x.Text), .arr 2]), (2, .arr true 5 (Qm r.2.x.Args))])
def XA (C0 : ByteArray → Option (Qc × Bool)) (a1 : ByteArray) (h0 : Qb) : Option (Bool × Qb) := ((C0 a1).bind fun (r1 : (Qc × Bool)) => (bif (decide ((h0.x.Args.length + [(Qj.mk (-1 : Int) r1.1)].length) * 64 ≤ most)) then (some (r1.2, (Qb.mk (Qe.mk h0.x.Line h0.x.Label h0.x.Kind h0.x.Op h0.x.Text (h0.x.Args ++ [(Qj.mk (-1 : Int) r1.1)]))))) else none))
def XB (P : Program) (call : CallF) (C0 : ByteArray → Option (Qc × Bool)) (a1 : ByteArray) (h0 : Qb) : Tr (Bool × Qb) (AV × Heap) := (.call (call 179 [.sc (.string a1)] []) (C0 a1) Xo fun (r1 : (Qc × Bool)) => (.rows [[.sc (.int .i64 (-1 : Int)), .sc (.int .i64 r1.1.Kind), .sc (.int .i64 r1.1.N), .sc (.string r1.1.Name), .sl (JY r1.1.L)]] (Qm [(Qj.mk (-1 : Int) r1.1)]) (.yes (decide ((Qm [(Qj.mk (-1 : Int) r1.1)]).all (fun r => r.length == 5) = true)) (.ask (decide (((Qm h0.x.Args).length + (Qm [(Qj.mk (-1 : Int) r1.1)]).length) * 64 ≤ most)) (decide ((h0.x.Args.length + [(Qj.mk (-1 : Int) r1.1)].length) * 64 ≤ most)) (.rows ((Qm h0.x.Args) ++ (Qm [(Qj.mk (-1 : Int) r1.1)])) (Qm (h0.x.Args ++ [(Qj.mk (-1 : Int) r1.1)])) (rt Vv (r1.2, (Qb.mk (Qe.mk h0.x.Line h0.x.Label h0.x.Kind h0.x.Op h0.x.Text (h0.x.Args ++ [(Qj.mk (-1 : Int) r1.1)])))))) .fail))))
theorem F5 (call : CallF) (C0 : ByteArray → Option (Qc × Bool)) (a1 : ByteArray) (h0 : Qb) : (XB Tryz.prog call C0 a1 h0).norm (bodyT Tryz.prog call G 129 [.ptr 0 0, .sc (.string a1)] [(0, .box [0, 0, 0, 0, 0, 5] [.sc (.int .i64 h0.x.Line), .sc (.string h0.x.Label), .sc (.int .i64 h0.x.Kind), .sc (.int .i64 h0.x.Op), .sc (.string h0.x.Text), .arr 1]), (1, .arr true 5 (Qm h0.x.Args))]) = XB Tryz.prog call C0 a1 h0 := by kernel_rfl
theorem F6 (P : Program) (call : CallF) (lp : Loops) (C0 : ByteArray → Option (Qc × Bool)) (K0 : ∀ (a0 : ByteArray) (r : (Qc × Bool)), C0 a0 = some r → (call 179 [.sc (.string a0)] []) = some (Xo r)) (a1 : ByteArray) (h0 : Qb) : (XB P call C0 a1 h0).ok lp Vv := fun r1 hr1 => ⟨K0 _ _ hr1, ⟨(Wg [(Qj.mk (-1 : Int) r1.1)]), ⟨(decide_eq_true (FO _)), ⟨(by rw [J5, J5]), fun hq0 => ⟨(Eh _ _), rfl⟩, fun hq0 => trivial⟩⟩⟩⟩
theorem F7 {C0 : Nat → ByteArray → Option (Qc × Bool)} {D0 : ByteArray → Option (Qc × Bool)} (H0 : ∀ (a0 : ByteArray), Cv (fun k => C0 k a0) (D0 a0)) (a1 : ByteArray) (h0 : Qb) : Cv (fun k => XA (C0 k) a1 h0) (XA D0 a1 h0) := by
  unfold XA
  exact .bind (H0 _) fun r1 => by exact .const _
def Ub.s : Nat → ByteArray → Qb → Option (Bool × Qb)
  | 0, _, _ => none
  | k + 1, a1, h0 => XA (fun a0 => W4.s k a0) a1 h0
theorem Ub.ok : ∀ (k : Nat), ∀ (a1 : ByteArray) (h0 : Qb) (r : (Bool × Qb)), Ub.s k a1 h0 = some r → evalFn Tryz.prog G k 129 [.ptr 0 0, .sc (.string a1)] [(0, .box [0, 0, 0, 0, 0, 5] [.sc (.int .i64 h0.x.Line), .sc (.string h0.x.Label), .sc (.int .i64 h0.x.Kind), .sc (.int .i64 h0.x.Op), .sc (.string h0.x.Text), .arr 1]), (1, .arr true 5 (Qm h0.x.Args))] = some (Vv r)
  | 0, _, _, _, h => (nomatch h)
  | k + 1, a1, h0, r, h => fn_ok rfl (XB Tryz.prog (evalFn Tryz.prog G k) (fun a0 => W4.s k a0) a1 h0) (F5 _ _ a1 h0) (F6 _ _ _ _ (W4.ok k)  a1 h0) h
theorem Ub.mono : ∀ (k : Nat) (a1 : ByteArray) (h0 : Qb), Le (Ub.s k a1 h0) (Ub.s (k + 1) a1 h0)
  | 0, _, _ => fun r h => (nomatch h)
  | k + 1, a1, h0 => (F7 (fun a0 => .two ((W4.mono k) a0)) a1 h0).1 0
def VO (r : (Bool × Qb)) : AV × Heap := (.sc (.bool r.1), [(0, .box [0, 0, 0, 0, 0, 5] [.sc (.int .i64 r.2.x.Line), .sc (.string r.2.x.Label), .sc (.int .i64 r.2.x.Kind), .sc (.int .i64 r.2.x.Op), .sc (.string r.2.x.Text), .arr 2]), (2, .arr true 5 (Qm r.2.x.Args))])
def XY (C0 : ByteArray → Option Bool) (a1 : ByteArray) (h0 : Qb) : Option (Bool × Qb) := ((C0 a1).bind fun (r1 : Bool) => (some (r1, (Qb.mk (Qe.mk h0.x.Line h0.x.Label h0.x.Kind h0.x.Op a1 h0.x.Args)))))
def XZ (P : Program) (call : CallF) (C0 : ByteArray → Option Bool) (a1 : ByteArray) (h0 : Qb) : Tr (Bool × Qb) (AV × Heap) := (.call (call 33 [.sc (.string a1)] []) (C0 a1) Uq fun (r1 : Bool) => (rt VO (r1, (Qb.mk (Qe.mk h0.x.Line h0.x.Label h0.x.Kind h0.x.Op a1 h0.x.Args)))))
theorem PH (call : CallF) (C0 : ByteArray → Option Bool) (a1 : ByteArray) (h0 : Qb) : (XZ Tryz.prog call C0 a1 h0).norm (bodyT Tryz.prog call G 131 [.ptr 0 0, .sc (.string a1)] [(0, .box [0, 0, 0, 0, 0, 5] [.sc (.int .i64 h0.x.Line), .sc (.string h0.x.Label), .sc (.int .i64 h0.x.Kind), .sc (.int .i64 h0.x.Op), .sc (.string h0.x.Text), .arr 1]), (1, .arr true 5 (Qm h0.x.Args))]) = XZ Tryz.prog call C0 a1 h0 := by kernel_rfl
theorem PI (P : Program) (call : CallF) (lp : Loops) (C0 : ByteArray → Option Bool) (K0 : ∀ (a0 : ByteArray) (r : Bool), C0 a0 = some r → (call 33 [.sc (.string a0)] []) = some (Uq r)) (a1 : ByteArray) (h0 : Qb) : (XZ P call C0 a1 h0).ok lp VO := fun r1 hr1 => ⟨K0 _ _ hr1, rfl⟩
theorem PJ {C0 : Nat → ByteArray → Option Bool} {D0 : ByteArray → Option Bool} (H0 : ∀ (a0 : ByteArray), Cv (fun k => C0 k a0) (D0 a0)) (a1 : ByteArray) (h0 : Qb) : Cv (fun k => XY (C0 k) a1 h0) (XY D0 a1 h0) := by
  unfold XY
  exact .bind (H0 _) fun r1 => by exact .const _
def Ul.s : Nat → ByteArray → Qb → Option (Bool × Qb)
  | 0, _, _ => none
  | k + 1, a1, h0 => XY (fun a0 => UO.s k a0) a1 h0
theorem Ul.ok : ∀ (k : Nat), ∀ (a1 : ByteArray) (h0 : Qb) (r : (Bool × Qb)), Ul.s k a1 h0 = some r → evalFn Tryz.prog G k 131 [.ptr 0 0, .sc (.string a1)] [(0, .box [0, 0, 0, 0, 0, 5] [.sc (.int .i64 h0.x.Line), .sc (.string h0.x.Label), .sc (.int .i64 h0.x.Kind), .sc (.int .i64 h0.x.Op), .sc (.string h0.x.Text), .arr 1]), (1, .arr true 5 (Qm h0.x.Args))] = some (VO r)
  | 0, _, _, _, h => (nomatch h)
  | k + 1, a1, h0, r, h => fn_ok rfl (XZ Tryz.prog (evalFn Tryz.prog G k) (fun a0 => UO.s k a0) a1 h0) (PH _ _ a1 h0) (PI _ _ _ _ (UO.ok k)  a1 h0) h
theorem Ul.mono : ∀ (k : Nat) (a1 : ByteArray) (h0 : Qb), Le (Ul.s k a1 h0) (Ul.s (k + 1) a1 h0)
  | 0, _, _ => fun r h => (nomatch h)
  | k + 1, a1, h0 => (PJ (fun a0 => .two ((UO.mono k) a0)) a1 h0).1 0
def Y3 (r : Int) : AV × Heap := (.tup [.sc (.int .i64 r), .sc .nilIface], [])
def VA.s : Nat → ByteArray → Option Int
  | 0, _ => none
  | _ + 1, a0 => atoiS a0
theorem VA.ok : ∀ (k : Nat), ∀ (a0 : ByteArray) (r : Int), VA.s k a0 = some r → evalFn Tryz.prog G k 241 [.sc (.string a0)] [] = some (Y3 r)
  | 0, _, _, h => (nomatch h)
  | k + 1, a0, r, h => atoi_ok h
noncomputable def VA (a0 : ByteArray) : Option Int := atoiS a0
theorem VA.mono (k : Nat) (a0 : ByteArray) : Le (VA.s k a0) (VA.s (k + 1) a0) := by
  cases k with
  | zero => exact fun r h => nomatch h
  | succ k => exact Le.refl _
def Uy (r : (Int × Bool)) : AV × Heap := (.tup [.sc (.int .i64 r.1), .sc (.bool r.2)], [])
def YE (C0 : ByteArray → Option Int) (C1 : ByteArray → Option Int) (a0 : ByteArray) : Option (Int × Bool) := (bif (decide (((a0.size : Nat) : Int) < (2 : Int))) then (some ((0 : Int), false)) else (bif (decide (((a0.size : Nat) : Int) > (3 : Int))) then (some ((0 : Int), false)) else (bif (decide (0 ≤ (0 : Int) ∧ (0 : Int) < ((a0.size : Nat) : Int))) then (bif (((a0.data.getD (Int.toNat (0 : Int)) 0).toNat : Int) != (114 : Int)) then (some ((0 : Int), false)) else (bif (decide (0 ≤ (1 : Int) ∧ (1 : Int) ≤ ((a0.size : Nat) : Int) ∧ ((a0.size : Nat) : Int) ≤ ((a0.size : Nat) : Int))) then ((C0 (a0.extract (Int.toNat (1 : Int)) (Int.toNat ((a0.size : Nat) : Int)))).bind fun (r1 : Int) => (bif (r1 != (w64 (((a0.size : Nat) : Int) - (1 : Int)))) then (some ((0 : Int), false)) else (bif (((a0.size : Nat) : Int) == (3 : Int)) then (bif (decide (0 ≤ (1 : Int) ∧ (1 : Int) < ((a0.size : Nat) : Int))) then (bif (((a0.data.getD (Int.toNat (1 : Int)) 0).toNat : Int) == (48 : Int)) then (some ((0 : Int), false)) else ((C1 (a0.extract (Int.toNat (1 : Int)) (Int.toNat ((a0.size : Nat) : Int)))).bind fun (r2 : Int) => (some (r2, (decide (r2 < (32 : Int))))))) else none) else ((C1 (a0.extract (Int.toNat (1 : Int)) (Int.toNat ((a0.size : Nat) : Int)))).bind fun (r3 : Int) => (some (r3, (decide (r3 < (32 : Int))))))))) else none)) else none)))
def YF (P : Program) (call : CallF) (C0 : ByteArray → Option Int) (C1 : ByteArray → Option Int) (a0 : ByteArray) : Tr (Int × Bool) (AV × Heap) := (.as (decide (((a0.size : Nat) : Int) < (2 : Int))) (yesN 3 (decide (((a0.size : Nat) : Int) < (2 : Int))) (yesN 19 true (rt Uy ((0 : Int), false)))) (noN 3 (decide (((a0.size : Nat) : Int) < (2 : Int))) (.as (decide (((a0.size : Nat) : Int) > (3 : Int))) (yesN 3 (decide (((a0.size : Nat) : Int) > (3 : Int))) (yesN 15 true (rt Uy ((0 : Int), false)))) (.no (decide (((a0.size : Nat) : Int) > (3 : Int))) (.as (decide (0 ≤ (0 : Int) ∧ (0 : Int) < ((a0.size : Nat) : Int))) (noN 2 (decide (((a0.size : Nat) : Int) > (3 : Int))) (.as (((a0.data.getD (Int.toNat (0 : Int)) 0).toNat : Int) != (114 : Int)) (yesN 7 (((a0.data.getD (Int.toNat (0 : Int)) 0).toNat : Int) != (114 : Int)) (yesN 7 true (rt Uy ((0 : Int), false)))) (.no (((a0.data.getD (Int.toNat (0 : Int)) 0).toNat : Int) != (114 : Int)) (.as (decide (0 ≤ (1 : Int) ∧ (1 : Int) ≤ ((a0.size : Nat) : Int) ∧ ((a0.size : Nat) : Int) ≤ ((a0.size : Nat) : Int))) (.no (((a0.data.getD (Int.toNat (0 : Int)) 0).toNat : Int) != (114 : Int)) (.call (call 72 [.sc (.string (a0.extract (Int.toNat (1 : Int)) (Int.toNat ((a0.size : Nat) : Int)))), .fn (.func 82) [] []] []) (C0 (a0.extract (Int.toNat (1 : Int)) (Int.toNat ((a0.size : Nat) : Int)))) Wp fun (r1 : Int) => (noN 5 (((a0.data.getD (Int.toNat (0 : Int)) 0).toNat : Int) != (114 : Int)) (.as (r1 != (w64 (((a0.size : Nat) : Int) - (1 : Int)))) (yesN 5 (r1 != (w64 (((a0.size : Nat) : Int) - (1 : Int)))) (.yes true (rt Uy ((0 : Int), false)))) (noN 3 (r1 != (w64 (((a0.size : Nat) : Int) - (1 : Int)))) (.as (((a0.size : Nat) : Int) == (3 : Int)) (.yes (((a0.size : Nat) : Int) == (3 : Int)) (.as (decide (0 ≤ (1 : Int) ∧ (1 : Int) < ((a0.size : Nat) : Int))) (.yes (((a0.size : Nat) : Int) == (3 : Int)) (.no (r1 != (w64 (((a0.size : Nat) : Int) - (1 : Int)))) (.yes (((a0.size : Nat) : Int) == (3 : Int)) (.no (r1 != (w64 (((a0.size : Nat) : Int) - (1 : Int)))) (.as (((a0.data.getD (Int.toNat (1 : Int)) 0).toNat : Int) == (48 : Int)) (rt Uy ((0 : Int), false)) (.yes (decide (0 ≤ (1 : Int) ∧ (1 : Int) ≤ ((a0.size : Nat) : Int) ∧ ((a0.size : Nat) : Int) ≤ ((a0.size : Nat) : Int))) (.call (call 241 [.sc (.string (a0.extract (Int.toNat (1 : Int)) (Int.toNat ((a0.size : Nat) : Int))))] []) (C1 (a0.extract (Int.toNat (1 : Int)) (Int.toNat ((a0.size : Nat) : Int)))) Y3 fun (r2 : Int) => (rt Uy (r2, (decide (r2 < (32 : Int)))))))))))) .fail)) (noN 2 (((a0.size : Nat) : Int) == (3 : Int)) (.no (r1 != (w64 (((a0.size : Nat) : Int) - (1 : Int)))) (.no (((a0.size : Nat) : Int) == (3 : Int)) (.no (r1 != (w64 (((a0.size : Nat) : Int) - (1 : Int)))) (.no false (.yes (decide (0 ≤ (1 : Int) ∧ (1 : Int) ≤ ((a0.size : Nat) : Int) ∧ ((a0.size : Nat) : Int) ≤ ((a0.size : Nat) : Int))) (.call (call 241 [.sc (.string (a0.extract (Int.toNat (1 : Int)) (Int.toNat ((a0.size : Nat) : Int))))] []) (C1 (a0.extract (Int.toNat (1 : Int)) (Int.toNat ((a0.size : Nat) : Int)))) Y3 fun (r3 : Int) => (rt Uy (r3, (decide (r3 < (32 : Int)))))))))))))))))) .fail)))) .fail)))))
theorem Sq (call : CallF) (C0 : ByteArray → Option Int) (C1 : ByteArray → Option Int) (a0 : ByteArray) : (YF Tryz.prog call C0 C1 a0).norm (bodyT Tryz.prog call G 214 [.sc (.string a0)] []) = YF Tryz.prog call C0 C1 a0 := by kernel_rfl
theorem Sr (P : Program) (call : CallF) (lp : Loops) (C0 : ByteArray → Option Int) (C1 : ByteArray → Option Int) (K0 : ∀ (a0 : ByteArray) (r : Int), C0 a0 = some r → (call 72 [.sc (.string a0), .fn (.func 82) [] []] []) = some (Wp r)) (K1 : ∀ (a0 : ByteArray) (r : Int), C1 a0 = some r → (call 241 [.sc (.string a0)] []) = some (Y3 r)) (a0 : ByteArray) : (YF P call C0 C1 a0).ok lp Uy := ⟨rfl, fun hq0 => yesN_ok 3 (hq0) (yesN_ok 19 (rfl) (rfl)), fun hq0 => noN_ok 3 (hq0) (⟨rfl, fun hq1 => yesN_ok 3 (hq1) (yesN_ok 15 (rfl) (rfl)), fun hq1 => ⟨hq1, ⟨rfl, fun hq2 => noN_ok 2 (hq1) (⟨rfl, fun hq3 => yesN_ok 7 (hq3) (yesN_ok 7 (rfl) (rfl)), fun hq3 => ⟨hq3, ⟨rfl, fun hq4 => ⟨hq3, fun r1 hr1 => ⟨K0 _ _ hr1, noN_ok 5 (hq3) (⟨rfl, fun hq5 => yesN_ok 5 (hq5) (⟨rfl, rfl⟩), fun hq5 => noN_ok 3 (hq5) (⟨rfl, fun hq6 => ⟨hq6, ⟨rfl, fun hq7 => ⟨hq6, ⟨hq5, ⟨hq6, ⟨hq5, ⟨rfl, fun hq8 => rfl, fun hq8 => ⟨hq4, fun r2 hr2 => ⟨K1 _ _ hr2, rfl⟩⟩⟩⟩⟩⟩⟩, fun hq7 => trivial⟩⟩, fun hq6 => noN_ok 2 (hq6) (⟨hq5, ⟨hq6, ⟨hq5, ⟨rfl, ⟨hq4, fun r3 hr3 => ⟨K1 _ _ hr3, rfl⟩⟩⟩⟩⟩⟩)⟩)⟩)⟩⟩, fun hq4 => trivial⟩⟩⟩), fun hq2 => trivial⟩⟩⟩)⟩
theorem Ss {C0 : Nat → ByteArray → Option Int} {D0 : ByteArray → Option Int} (H0 : ∀ (a0 : ByteArray), Cv (fun k => C0 k a0) (D0 a0)) {C1 : Nat → ByteArray → Option Int} {D1 : ByteArray → Option Int} (H1 : ∀ (a0 : ByteArray), Cv (fun k => C1 k a0) (D1 a0)) (a0 : ByteArray) : Cv (fun k => YE (C0 k) (C1 k) a0) (YE D0 D1 a0) := by
  unfold YE
  exact .cond (by exact .const _) (.cond (by exact .const _) (.cond (.cond (by exact .const _) (.cond (.bind (H0 _) fun r1 => .cond (by exact .const _) (.cond (.cond (.cond (by exact .const _) (.bind (H1 _) fun r2 => by exact .const _)) (by exact .const _)) (.bind (H1 _) fun r3 => by exact .const _))) (by exact .const _))) (by exact .const _)))
def VE.s : Nat → ByteArray → Option (Int × Bool)
  | 0, _ => none
  | k + 1, a0 => YE (fun a0 => UI.s k a0) (fun a0 => VA.s k a0) a0
theorem VE.ok : ∀ (k : Nat), ∀ (a0 : ByteArray) (r : (Int × Bool)), VE.s k a0 = some r → evalFn Tryz.prog G k 214 [.sc (.string a0)] [] = some (Uy r)
  | 0, _, _, h => (nomatch h)
  | k + 1, a0, r, h => fn_ok rfl (YF Tryz.prog (evalFn Tryz.prog G k) (fun a0 => UI.s k a0) (fun a0 => VA.s k a0) a0) (Sq _ _ _ a0) (Sr _ _ _ _ _ (UI.ok k) (VA.ok k)  a0) h
theorem VE.mono : ∀ (k : Nat) (a0 : ByteArray), Le (VE.s k a0) (VE.s (k + 1) a0)
  | 0, _ => fun r h => (nomatch h)
  | k + 1, a0 => (Ss (fun a0 => .two ((UI.mono k) a0)) (fun a0 => .two ((VA.mono k) a0)) a0).1 0
def U5 (r : (Bool × Qb)) : AV × Heap := (.sc (.bool r.1), [(0, .box [0, 0, 0, 0, 0, 5] [.sc (.int .i64 r.2.x.Line), .sc (.string r.2.x.Label), .sc (.int .i64 r.2.x.Kind), .sc (.int .i64 r.2.x.Op), .sc (.string r.2.x.Text), .arr 2]), (2, .arr true 5 (Qm r.2.x.Args))])
def Wy (C0 : ByteArray → Option (Int × Bool)) (a1 : ByteArray) (h0 : Qb) : Option (Bool × Qb) := ((C0 a1).bind fun (r1 : (Int × Bool)) => (bif (decide ((h0.x.Args.length + [(Qj.mk r1.1 (Qc.mk (0 : Int) (0 : Int) s_ ([] : List Qc)))].length) * 64 ≤ most)) then (some (r1.2, (Qb.mk (Qe.mk h0.x.Line h0.x.Label h0.x.Kind h0.x.Op h0.x.Text (h0.x.Args ++ [(Qj.mk r1.1 (Qc.mk (0 : Int) (0 : Int) s_ ([] : List Qc)))]))))) else none))
def Wz (P : Program) (call : CallF) (C0 : ByteArray → Option (Int × Bool)) (a1 : ByteArray) (h0 : Qb) : Tr (Bool × Qb) (AV × Heap) := (.call (call 214 [.sc (.string a1)] []) (C0 a1) Uy fun (r1 : (Int × Bool)) => (.rows [[.sc (.int .i64 r1.1), .sc (.int .i64 (0 : Int)), .sc (.int .i64 (0 : Int)), .sc (.string s_), .sl (JY ([] : List Qc))]] (Qm [(Qj.mk r1.1 (Qc.mk (0 : Int) (0 : Int) s_ ([] : List Qc)))]) (.yes (decide ((Qm [(Qj.mk r1.1 (Qc.mk (0 : Int) (0 : Int) s_ ([] : List Qc)))]).all (fun r => r.length == 5) = true)) (.ask (decide (((Qm h0.x.Args).length + (Qm [(Qj.mk r1.1 (Qc.mk (0 : Int) (0 : Int) s_ ([] : List Qc)))]).length) * 64 ≤ most)) (decide ((h0.x.Args.length + [(Qj.mk r1.1 (Qc.mk (0 : Int) (0 : Int) s_ ([] : List Qc)))].length) * 64 ≤ most)) (.rows ((Qm h0.x.Args) ++ (Qm [(Qj.mk r1.1 (Qc.mk (0 : Int) (0 : Int) s_ ([] : List Qc)))])) (Qm (h0.x.Args ++ [(Qj.mk r1.1 (Qc.mk (0 : Int) (0 : Int) s_ ([] : List Qc)))])) (rt U5 (r1.2, (Qb.mk (Qe.mk h0.x.Line h0.x.Label h0.x.Kind h0.x.Op h0.x.Text (h0.x.Args ++ [(Qj.mk r1.1 (Qc.mk (0 : Int) (0 : Int) s_ ([] : List Qc)))])))))) .fail))))
theorem EX (call : CallF) (C0 : ByteArray → Option (Int × Bool)) (a1 : ByteArray) (h0 : Qb) : (Wz Tryz.prog call C0 a1 h0).norm (bodyT Tryz.prog call G 178 [.ptr 0 0, .sc (.string a1)] [(0, .box [0, 0, 0, 0, 0, 5] [.sc (.int .i64 h0.x.Line), .sc (.string h0.x.Label), .sc (.int .i64 h0.x.Kind), .sc (.int .i64 h0.x.Op), .sc (.string h0.x.Text), .arr 1]), (1, .arr true 5 (Qm h0.x.Args))]) = Wz Tryz.prog call C0 a1 h0 := by kernel_rfl
theorem EY (P : Program) (call : CallF) (lp : Loops) (C0 : ByteArray → Option (Int × Bool)) (K0 : ∀ (a0 : ByteArray) (r : (Int × Bool)), C0 a0 = some r → (call 214 [.sc (.string a0)] []) = some (Uy r)) (a1 : ByteArray) (h0 : Qb) : (Wz P call C0 a1 h0).ok lp U5 := fun r1 hr1 => ⟨K0 _ _ hr1, ⟨(Wg [(Qj.mk r1.1 (Qc.mk (0 : Int) (0 : Int) s_ ([] : List Qc)))]), ⟨(decide_eq_true (FO _)), ⟨(by rw [J5, J5]), fun hq0 => ⟨(Eh _ _), rfl⟩, fun hq0 => trivial⟩⟩⟩⟩
theorem EZ {C0 : Nat → ByteArray → Option (Int × Bool)} {D0 : ByteArray → Option (Int × Bool)} (H0 : ∀ (a0 : ByteArray), Cv (fun k => C0 k a0) (D0 a0)) (a1 : ByteArray) (h0 : Qb) : Cv (fun k => Wy (C0 k) a1 h0) (Wy D0 a1 h0) := by
  unfold Wy
  exact .bind (H0 _) fun r1 => by exact .const _
def JP.s : Nat → ByteArray → Qb → Option (Bool × Qb)
  | 0, _, _ => none
  | k + 1, a1, h0 => Wy (fun a0 => VE.s k a0) a1 h0
theorem JP.ok : ∀ (k : Nat), ∀ (a1 : ByteArray) (h0 : Qb) (r : (Bool × Qb)), JP.s k a1 h0 = some r → evalFn Tryz.prog G k 178 [.ptr 0 0, .sc (.string a1)] [(0, .box [0, 0, 0, 0, 0, 5] [.sc (.int .i64 h0.x.Line), .sc (.string h0.x.Label), .sc (.int .i64 h0.x.Kind), .sc (.int .i64 h0.x.Op), .sc (.string h0.x.Text), .arr 1]), (1, .arr true 5 (Qm h0.x.Args))] = some (U5 r)
  | 0, _, _, _, h => (nomatch h)
  | k + 1, a1, h0, r, h => fn_ok rfl (Wz Tryz.prog (evalFn Tryz.prog G k) (fun a0 => VE.s k a0) a1 h0) (EX _ _ a1 h0) (EY _ _ _ _ (VE.ok k)  a1 h0) h
theorem JP.mono : ∀ (k : Nat) (a1 : ByteArray) (h0 : Qb), Le (JP.s k a1 h0) (JP.s (k + 1) a1 h0)
  | 0, _, _ => fun r h => (nomatch h)
  | k + 1, a1, h0 => (EZ (fun a0 => .two ((VE.mono k) a0)) a1 h0).1 0
def Vl (r : (Bool × Qb)) : AV × Heap := (.sc (.bool r.1), [(1, .box [0, 0, 0, 0, 0, 5] [.sc (.int .i64 r.2.x.Line), .sc (.string r.2.x.Label), .sc (.int .i64 r.2.x.Kind), .sc (.int .i64 r.2.x.Op), .sc (.string r.2.x.Text), .arr 3]), (3, .arr true 5 (Qm r.2.x.Args))])
structure Q7 where
  x0 : (List ByteArray)
  x5 : Bool
  x6 : Int
  h1 : Qb
  r4 : (List Nat)
structure JC where
  x5 : Bool
  h1 : Qb
def Wh (a : Q7) : St := { n := 31, nx := 5, env := [(0, .sl (Qi a.x0)), (1, .arr 4), (5, .sc (.bool a.x5)), (6, .sc (.int .i64 a.x6))], heap := [(1, .box [0, 0, 0, 0, 0, 5] [.sc (.int .i64 a.h1.x.Line), .sc (.string a.h1.x.Label), .sc (.int .i64 a.h1.x.Kind), .sc (.int .i64 a.h1.x.Op), .sc (.string a.h1.x.Text), .arr 3]), (3, .arr true 5 (Qm a.h1.x.Args)), (4, .fs (some 1) (Ji a.r4))] }
def XE (a : JC) : Ex × St := (.exit 0, { n := 31, nx := 4, env := [(5, .sc (.bool a.x5))], heap := [(1, .box [0, 0, 0, 0, 0, 5] [.sc (.int .i64 a.h1.x.Line), .sc (.string a.h1.x.Label), .sc (.int .i64 a.h1.x.Kind), .sc (.int .i64 a.h1.x.Op), .sc (.string a.h1.x.Text), .arr 3]), (3, .arr true 5 (Qm a.h1.x.Args))] })
def Zk (C0 : ByteArray → Qb → Option (Bool × Qb)) (C1 : ByteArray → Qb → Option (Bool × Qb)) (C2 : ByteArray → Qb → Option (Bool × Qb)) (a : Q7) : Option (Q7 ⊕ JC) := (bif (decide (a.x6 < (((a.r4.length) : Nat) : Int))) then (bif a.x5 then (bif (decide (0 ≤ a.x6 ∧ a.x6 < ((a.r4.length : Nat) : Int))) then ((a.r4[(Int.toNat a.x6)]?).bind fun (e1 : Nat) => (bif (decide (e1 = 129)) then (bif (decide (0 ≤ a.x6)) then ((a.x0[(Int.toNat a.x6)]?).bind fun (e2 : ByteArray) => ((C0 e2 a.h1).bind fun (r3 : (Bool × Qb)) => (some (.inl (Q7.mk a.x0 r3.1 (w64 (a.x6 + (1 : Int))) r3.2 a.r4))))) else none) else (bif (decide (e1 = 131)) then (bif (decide (0 ≤ a.x6)) then ((a.x0[(Int.toNat a.x6)]?).bind fun (e4 : ByteArray) => ((C1 e4 a.h1).bind fun (r5 : (Bool × Qb)) => (some (.inl (Q7.mk a.x0 r5.1 (w64 (a.x6 + (1 : Int))) r5.2 a.r4))))) else none) else (bif (decide (e1 = 178)) then (bif (decide (0 ≤ a.x6)) then ((a.x0[(Int.toNat a.x6)]?).bind fun (e6 : ByteArray) => ((C2 e6 a.h1).bind fun (r7 : (Bool × Qb)) => (some (.inl (Q7.mk a.x0 r7.1 (w64 (a.x6 + (1 : Int))) r7.2 a.r4))))) else none) else none)))) else none) else (some (.inr (JC.mk a.x5 a.h1)))) else (some (.inr (JC.mk a.x5 a.h1))))
def Zl (P : Program) (call : CallF) (C0 : ByteArray → Qb → Option (Bool × Qb)) (C1 : ByteArray → Qb → Option (Bool × Qb)) (C2 : ByteArray → Qb → Option (Bool × Qb)) (a : Q7) : Tr (Q7 ⊕ JC) (Ex × St) := (.num ((Ji a.r4).length) (a.r4.length) (.as (decide (a.x6 < (((a.r4.length) : Nat) : Int))) (.yes (decide (a.x6 < (((a.r4.length) : Nat) : Int))) (.as a.x5 (.ask (decide (0 ≤ a.x6 ∧ a.x6 < (((Ji a.r4).length : Nat) : Int))) (decide (0 ≤ a.x6 ∧ a.x6 < ((a.r4.length : Nat) : Int))) (.row ((Ji a.r4)[(Int.toNat a.x6)]?) (a.r4[(Int.toNat a.x6)]?) Pb fun (e1 : Nat) => (.as (decide (e1 = 129)) (.as (decide (0 ≤ a.x6)) (.row ((Qi a.x0)[(Int.toNat a.x6)]?) (a.x0[(Int.toNat a.x6)]?) Jp fun (e2 : ByteArray) => (.call (call 129 [.ptr 0 0, .sc (.string e2)] [(0, .box [0, 0, 0, 0, 0, 5] [.sc (.int .i64 a.h1.x.Line), .sc (.string a.h1.x.Label), .sc (.int .i64 a.h1.x.Kind), .sc (.int .i64 a.h1.x.Op), .sc (.string a.h1.x.Text), .arr 1]), (1, .arr true 5 (Qm a.h1.x.Args))]) (C0 e2 a.h1) Vv fun (r3 : (Bool × Qb)) => (lf Wh (Q7.mk a.x0 r3.1 (w64 (a.x6 + (1 : Int))) r3.2 a.r4)))) .fail) (.as (decide (e1 = 131)) (.as (decide (0 ≤ a.x6)) (.row ((Qi a.x0)[(Int.toNat a.x6)]?) (a.x0[(Int.toNat a.x6)]?) Jp fun (e4 : ByteArray) => (.call (call 131 [.ptr 0 0, .sc (.string e4)] [(0, .box [0, 0, 0, 0, 0, 5] [.sc (.int .i64 a.h1.x.Line), .sc (.string a.h1.x.Label), .sc (.int .i64 a.h1.x.Kind), .sc (.int .i64 a.h1.x.Op), .sc (.string a.h1.x.Text), .arr 1]), (1, .arr true 5 (Qm a.h1.x.Args))]) (C1 e4 a.h1) VO fun (r5 : (Bool × Qb)) => (lf Wh (Q7.mk a.x0 r5.1 (w64 (a.x6 + (1 : Int))) r5.2 a.r4)))) .fail) (.as (decide (e1 = 178)) (.as (decide (0 ≤ a.x6)) (.row ((Qi a.x0)[(Int.toNat a.x6)]?) (a.x0[(Int.toNat a.x6)]?) Jp fun (e6 : ByteArray) => (.call (call 178 [.ptr 0 0, .sc (.string e6)] [(0, .box [0, 0, 0, 0, 0, 5] [.sc (.int .i64 a.h1.x.Line), .sc (.string a.h1.x.Label), .sc (.int .i64 a.h1.x.Kind), .sc (.int .i64 a.h1.x.Op), .sc (.string a.h1.x.Text), .arr 1]), (1, .arr true 5 (Qm a.h1.x.Args))]) (C2 e6 a.h1) U5 fun (r7 : (Bool × Qb)) => (lf Wh (Q7.mk a.x0 r7.1 (w64 (a.x6 + (1 : Int))) r7.2 a.r4)))) .fail) .fail)))) .fail) (rx XE (JC.mk a.x5 a.h1)))) (.no (decide (a.x6 < (((a.r4.length) : Nat) : Int))) (.no false (rx XE (JC.mk a.x5 a.h1))))))
theorem Qaj (call : CallF) (C0 : ByteArray → Qb → Option (Bool × Qb)) (C1 : ByteArray → Qb → Option (Bool × Qb)) (C2 : ByteArray → Qb → Option (Bool × Qb)) (a : Q7) : (Zl Tryz.prog call C0 C1 C2 a).norm (roundT Tryz.prog G.kd call 3 (G.an 127) (loopAt Tryz.prog 127 3) (Wh a)) = Zl Tryz.prog call C0 C1 C2 a := by kernel_rfl
theorem Qak (P : Program) (call : CallF) (lp : Loops) (C0 : ByteArray → Qb → Option (Bool × Qb)) (C1 : ByteArray → Qb → Option (Bool × Qb)) (C2 : ByteArray → Qb → Option (Bool × Qb)) (K0 : ∀ (a1 : ByteArray) (h0 : Qb) (r : (Bool × Qb)), C0 a1 h0 = some r → (call 129 [.ptr 0 0, .sc (.string a1)] [(0, .box [0, 0, 0, 0, 0, 5] [.sc (.int .i64 h0.x.Line), .sc (.string h0.x.Label), .sc (.int .i64 h0.x.Kind), .sc (.int .i64 h0.x.Op), .sc (.string h0.x.Text), .arr 1]), (1, .arr true 5 (Qm h0.x.Args))]) = some (Vv r)) (K1 : ∀ (a1 : ByteArray) (h0 : Qb) (r : (Bool × Qb)), C1 a1 h0 = some r → (call 131 [.ptr 0 0, .sc (.string a1)] [(0, .box [0, 0, 0, 0, 0, 5] [.sc (.int .i64 h0.x.Line), .sc (.string h0.x.Label), .sc (.int .i64 h0.x.Kind), .sc (.int .i64 h0.x.Op), .sc (.string h0.x.Text), .arr 1]), (1, .arr true 5 (Qm h0.x.Args))]) = some (VO r)) (K2 : ∀ (a1 : ByteArray) (h0 : Qb) (r : (Bool × Qb)), C2 a1 h0 = some r → (call 178 [.ptr 0 0, .sc (.string a1)] [(0, .box [0, 0, 0, 0, 0, 5] [.sc (.int .i64 h0.x.Line), .sc (.string h0.x.Label), .sc (.int .i64 h0.x.Kind), .sc (.int .i64 h0.x.Op), .sc (.string h0.x.Text), .arr 1]), (1, .arr true 5 (Qm h0.x.Args))]) = some (U5 r)) (a : Q7) : (Zl P call C0 C1 C2 a).ok lp (Sum.elim (fun a => (.norm, Wh a)) XE) := ⟨(WU _), ⟨rfl, fun hq0 => ⟨hq0, ⟨rfl, fun hq1 => ⟨(by rw [WU]), fun hq2 => fun e1 he1 => ⟨QbG he1, ⟨rfl, fun hq3 => ⟨rfl, fun hq4 => fun e2 he2 => ⟨J9 he2, fun r3 hr3 => ⟨K0 _ _ _ hr3, rfl⟩⟩, fun hq4 => trivial⟩, fun hq3 => ⟨rfl, fun hq4 => ⟨rfl, fun hq5 => fun e4 he4 => ⟨J9 he4, fun r5 hr5 => ⟨K1 _ _ _ hr5, rfl⟩⟩, fun hq5 => trivial⟩, fun hq4 => ⟨rfl, fun hq5 => ⟨rfl, fun hq6 => fun e6 he6 => ⟨J9 he6, fun r7 hr7 => ⟨K2 _ _ _ hr7, rfl⟩⟩, fun hq6 => trivial⟩, fun hq5 => trivial⟩⟩⟩⟩, fun hq2 => trivial⟩, fun hq1 => rfl⟩⟩, fun hq0 => ⟨hq0, ⟨rfl, rfl⟩⟩⟩⟩
theorem Qal {C0 : Nat → ByteArray → Qb → Option (Bool × Qb)} {D0 : ByteArray → Qb → Option (Bool × Qb)} (H0 : ∀ (a1 : ByteArray) (h0 : Qb), Cv (fun k => C0 k a1 h0) (D0 a1 h0)) {C1 : Nat → ByteArray → Qb → Option (Bool × Qb)} {D1 : ByteArray → Qb → Option (Bool × Qb)} (H1 : ∀ (a1 : ByteArray) (h0 : Qb), Cv (fun k => C1 k a1 h0) (D1 a1 h0)) {C2 : Nat → ByteArray → Qb → Option (Bool × Qb)} {D2 : ByteArray → Qb → Option (Bool × Qb)} (H2 : ∀ (a1 : ByteArray) (h0 : Qb), Cv (fun k => C2 k a1 h0) (D2 a1 h0)) (a : Q7) : Cv (fun k => Zk (C0 k) (C1 k) (C2 k) a) (Zk D0 D1 D2 a) := by
  unfold Zk
  exact .cond (.cond (.cond (.bind (.const (a.r4[(Int.toNat a.x6)]?)) fun e1 => .cond (.cond (.bind (.const (a.x0[(Int.toNat a.x6)]?)) fun e2 => .bind (H0 _ _) fun r3 => by exact .const _) (by exact .const _)) (.cond (.cond (.bind (.const (a.x0[(Int.toNat a.x6)]?)) fun e4 => .bind (H1 _ _) fun r5 => by exact .const _) (by exact .const _)) (.cond (.cond (.bind (.const (a.x0[(Int.toNat a.x6)]?)) fun e6 => .bind (H2 _ _) fun r7 => by exact .const _) (by exact .const _)) (by exact .const _)))) (by exact .const _)) (by exact .const _)) (by exact .const _)
def X5.s (k : Nat) (C0 : ByteArray → Qb → Option (Bool × Qb)) (C1 : ByteArray → Qb → Option (Bool × Qb)) (C2 : ByteArray → Qb → Option (Bool × Qb)) : Q7 → Option JC := iter (Zk C0 C1 C2) k
theorem ST (call : CallF) (k : Nat) (C0 : ByteArray → Qb → Option (Bool × Qb)) (C1 : ByteArray → Qb → Option (Bool × Qb)) (C2 : ByteArray → Qb → Option (Bool × Qb)) (K0 : ∀ (a1 : ByteArray) (h0 : Qb) (r : (Bool × Qb)), C0 a1 h0 = some r → (call 129 [.ptr 0 0, .sc (.string a1)] [(0, .box [0, 0, 0, 0, 0, 5] [.sc (.int .i64 h0.x.Line), .sc (.string h0.x.Label), .sc (.int .i64 h0.x.Kind), .sc (.int .i64 h0.x.Op), .sc (.string h0.x.Text), .arr 1]), (1, .arr true 5 (Qm h0.x.Args))]) = some (Vv r)) (K1 : ∀ (a1 : ByteArray) (h0 : Qb) (r : (Bool × Qb)), C1 a1 h0 = some r → (call 131 [.ptr 0 0, .sc (.string a1)] [(0, .box [0, 0, 0, 0, 0, 5] [.sc (.int .i64 h0.x.Line), .sc (.string h0.x.Label), .sc (.int .i64 h0.x.Kind), .sc (.int .i64 h0.x.Op), .sc (.string h0.x.Text), .arr 1]), (1, .arr true 5 (Qm h0.x.Args))]) = some (VO r)) (K2 : ∀ (a1 : ByteArray) (h0 : Qb) (r : (Bool × Qb)), C2 a1 h0 = some r → (call 178 [.ptr 0 0, .sc (.string a1)] [(0, .box [0, 0, 0, 0, 0, 5] [.sc (.int .i64 h0.x.Line), .sc (.string h0.x.Label), .sc (.int .i64 h0.x.Kind), .sc (.int .i64 h0.x.Op), .sc (.string h0.x.Text), .arr 1]), (1, .arr true 5 (Qm h0.x.Args))]) = some (U5 r)) (a : Q7) (r : JC) (h : X5.s k C0 C1 C2 a = some r) : loopsF Tryz.prog G.kd call 3 (G.an 127) k (loopAt Tryz.prog 127 3) (Wh a) = some (XE r) :=
  loop_ok (fun a => Zl Tryz.prog call C0 C1 C2 a) (fun _ => rfl) (fun a => Qaj call _ _ _ a) (fun a => Qak _ call _ _ _ _ K0 K1 K2 a) (fun r => nofun) h
theorem X5.m {j k : Nat} (hj : j ≤ k) (C0 : ByteArray → Qb → Option (Bool × Qb)) (C1 : ByteArray → Qb → Option (Bool × Qb)) (C2 : ByteArray → Qb → Option (Bool × Qb)) (D0 : ByteArray → Qb → Option (Bool × Qb)) (D1 : ByteArray → Qb → Option (Bool × Qb)) (D2 : ByteArray → Qb → Option (Bool × Qb)) (H0 : ∀ (a1 : ByteArray) (h0 : Qb), Le (C0 a1 h0) (D0 a1 h0)) (H1 : ∀ (a1 : ByteArray) (h0 : Qb), Le (C1 a1 h0) (D1 a1 h0)) (H2 : ∀ (a1 : ByteArray) (h0 : Qb), Le (C2 a1 h0) (D2 a1 h0)) (a : Q7) : Le (X5.s j C0 C1 C2 a) (X5.s k D0 D1 D2 a) := Le.iter (fun a => (Qal (fun a1 h0 => .two (H0 a1 h0)) (fun a1 h0 => .two (H1 a1 h0)) (fun a1 h0 => .two (H2 a1 h0)) a).1 0) hj a
def G2 (L0 : Q7 → Option JC) (a0 : (List ByteArray)) (h1 : Qb) (r0 : (List Nat)) : Option (Bool × Qb) := ((L0 (Q7.mk a0 ((((a0.length) : Nat) : Int) == (((r0.length) : Nat) : Int)) (0 : Int) h1 r0)).bind (fun (o1 : JC) => (some (o1.x5, o1.h1))))
def G3 (P : Program) (call : CallF) (L0 : Q7 → Option JC) (a0 : (List ByteArray)) (h1 : Qb) (r0 : (List Nat)) : Tr (Bool × Qb) (AV × Heap) := (.num ((Qi a0).length) (a0.length) (.num ((Ji r0).length) (r0.length) (.loop (loopAt P 127 3) (Wh (Q7.mk a0 ((((a0.length) : Nat) : Int) == (((r0.length) : Nat) : Int)) (0 : Int) h1 r0)) (L0 (Q7.mk a0 ((((a0.length) : Nat) : Int) == (((r0.length) : Nat) : Int)) (0 : Int) h1 r0)) XE (fun (o1 : JC) => (rt Vl (o1.x5, o1.h1))))))
theorem QbO (call : CallF) (L0 : Q7 → Option JC) (a0 : (List ByteArray)) (h1 : Qb) (r0 : (List Nat)) : (G3 Tryz.prog call L0 a0 h1 r0).norm (bodyT Tryz.prog call G 127 [.sl (Qi a0), .arr 0] [(0, .fs (some 1) (Ji r0)), (1, .box [0, 0, 0, 0, 0, 5] [.sc (.int .i64 h1.x.Line), .sc (.string h1.x.Label), .sc (.int .i64 h1.x.Kind), .sc (.int .i64 h1.x.Op), .sc (.string h1.x.Text), .arr 2]), (2, .arr true 5 (Qm h1.x.Args))]) = G3 Tryz.prog call L0 a0 h1 r0 := by kernel_rfl
theorem QbP (P : Program) (call : CallF) (lp : Loops) (L0 : Q7 → Option JC) (N0 : ∀ (a : Q7) (r : JC), L0 a = some r → lp (loopAt P 127 3) (Wh a) = some (XE r)) (a0 : (List ByteArray)) (h1 : Qb) (r0 : (List Nat)) : (G3 P call L0 a0 h1 r0).ok lp Vl := ⟨(QD _), ⟨(WU _), fun o1 ho1 => ⟨N0 _ _ ho1, rfl⟩⟩⟩
theorem QbQ {L0 : Nat → Q7 → Option JC} {M0 : Q7 → Option JC} (N0 : ∀ a, Cv (fun k => L0 k a) (M0 a)) (a0 : (List ByteArray)) (h1 : Qb) (r0 : (List Nat)) : Cv (fun k => G2 (L0 k) a0 h1 r0) (G2 M0 a0 h1 r0) := by
  unfold G2
  exact .bind (N0 _) (fun o1 => by exact .const _)
def Wr.s : Nat → (List ByteArray) → Qb → (List Nat) → Option (Bool × Qb)
  | 0, _, _, _ => none
  | k + 1, a0, h1, r0 => G2 (X5.s k (fun a1 h0 => Ub.s k a1 h0) (fun a1 h0 => Ul.s k a1 h0) (fun a1 h0 => JP.s k a1 h0)) a0 h1 r0
theorem Wr.ok : ∀ (k : Nat), ∀ (a0 : (List ByteArray)) (h1 : Qb) (r0 : (List Nat)) (r : (Bool × Qb)), Wr.s k a0 h1 r0 = some r → evalFn Tryz.prog G k 127 [.sl (Qi a0), .arr 0] [(0, .fs (some 1) (Ji r0)), (1, .box [0, 0, 0, 0, 0, 5] [.sc (.int .i64 h1.x.Line), .sc (.string h1.x.Label), .sc (.int .i64 h1.x.Kind), .sc (.int .i64 h1.x.Op), .sc (.string h1.x.Text), .arr 2]), (2, .arr true 5 (Qm h1.x.Args))] = some (Vl r)
  | 0, _, _, _, _, h => (nomatch h)
  | k + 1, a0, h1, r0, r, h => fn_ok rfl (G3 Tryz.prog (evalFn Tryz.prog G k) (X5.s k (fun a1 h0 => Ub.s k a1 h0) (fun a1 h0 => Ul.s k a1 h0) (fun a1 h0 => JP.s k a1 h0)) a0 h1 r0) (QbO _ _ a0 h1 r0) (QbP _ _ _ _  (ST _ k _ _ _ (Ub.ok k) (Ul.ok k) (JP.ok k)) a0 h1 r0) h
theorem Wr.mono : ∀ (k : Nat) (a0 : (List ByteArray)) (h1 : Qb) (r0 : (List Nat)), Le (Wr.s k a0 h1 r0) (Wr.s (k + 1) a0 h1 r0)
  | 0, _, _, _ => fun r h => (nomatch h)
  | k + 1, a0, h1, r0 => (QbQ (fun a => .two ((X5.m (Nat.le_succ k) (fun a1 h0 => Ub.s k a1 h0) (fun a1 h0 => Ul.s k a1 h0) (fun a1 h0 => JP.s k a1 h0) (fun a1 h0 => Ub.s (k + 1) a1 h0) (fun a1 h0 => Ul.s (k + 1) a1 h0) (fun a1 h0 => JP.s (k + 1) a1 h0) (Ub.mono k) (Ul.mono k) (JP.mono k)) a)) a0 h1 r0).1 0
def Va (r : (Bool × Qb)) : AV × Heap := (.sc (.bool r.1), [(0, .box [0, 0, 0, 0, 0, 5] [.sc (.int .i64 r.2.x.Line), .sc (.string r.2.x.Label), .sc (.int .i64 r.2.x.Kind), .sc (.int .i64 r.2.x.Op), .sc (.string r.2.x.Text), .arr 2]), (2, .arr true 5 (Qm r.2.x.Args))])
structure Qr where
  x1 : (List ByteArray)
  x14 : (List ByteArray)
  x15 : Int
  x16 : Int
  h0 : Qb
  r3 : (List Nat)
structure QH where
  x1 : (List ByteArray)
  h0 : Qb
  r3 : (List Nat)
def JW (a : Qr) : St := { n := 38, nx := 4, env := [(0, .ptr 0 0), (1, .sl (Qi a.x1)), (5, .arr 3), (14, .sl (Qi a.x14)), (15, .sc (.int .i64 a.x15)), (16, .sc (.int .i64 a.x16))], heap := [(0, .box [0, 0, 0, 0, 0, 5] [.sc (.int .i64 a.h0.x.Line), .sc (.string a.h0.x.Label), .sc (.int .i64 a.h0.x.Kind), .sc (.int .i64 a.h0.x.Op), .sc (.string a.h0.x.Text), .arr 2]), (2, .arr true 5 (Qm a.h0.x.Args)), (3, .fs (some 0) (Ji a.r3))] }
def UL (a : QH) : Ex × St := (.exit 0, { n := 38, nx := 4, env := [(1, .sl (Qi a.x1)), (5, .arr 3)], heap := [(0, .box [0, 0, 0, 0, 0, 5] [.sc (.int .i64 a.h0.x.Line), .sc (.string a.h0.x.Label), .sc (.int .i64 a.h0.x.Kind), .sc (.int .i64 a.h0.x.Op), .sc (.string a.h0.x.Text), .arr 2]), (2, .arr true 5 (Qm a.h0.x.Args)), (3, .fs (some 0) (Ji a.r3))] })
def Vm (C0 : ByteArray → ByteArray → Option Bool) (a : Qr) : Option (Qr ⊕ QH) := (bif (decide (a.x16 < a.x15)) then (bif (decide (0 ≤ a.x16)) then ((a.x14[(Int.toNat a.x16)]?).bind fun (e1 : ByteArray) => (bif (decide (((h_20.size + e1.size : Nat) : Int) ≤ IntKind.i64.max)) then (bif (decide ((((h_20 ++ e1).size + h_20.size : Nat) : Int) ≤ IntKind.i64.max)) then ((C0 Xe ((h_20 ++ e1) ++ h_20)).bind fun (r2 : Bool) => (bif r2 then (bif (decide ((a.r3.length + [178].length) * 8 ≤ most)) then (some (.inl (Qr.mk a.x1 a.x14 a.x15 (w64 (a.x16 + (1 : Int))) a.h0 (a.r3 ++ [178])))) else none) else (bif (decide ((a.r3.length + [129].length) * 8 ≤ most)) then (some (.inl (Qr.mk a.x1 a.x14 a.x15 (w64 (a.x16 + (1 : Int))) a.h0 (a.r3 ++ [129])))) else none))) else none) else none)) else none) else (some (.inr (QH.mk a.x1 a.h0 a.r3))))
def Vn (P : Program) (call : CallF) (C0 : ByteArray → ByteArray → Option Bool) (a : Qr) : Tr (Qr ⊕ QH) (Ex × St) := (.as (decide (a.x16 < a.x15)) (.as (decide (0 ≤ a.x16)) (.row ((Qi a.x14)[(Int.toNat a.x16)]?) (a.x14[(Int.toNat a.x16)]?) Jp fun (e1 : ByteArray) => (.as (decide (((h_20.size + e1.size : Nat) : Int) ≤ IntKind.i64.max)) (.as (decide ((((h_20 ++ e1).size + h_20.size : Nat) : Int) ≤ IntKind.i64.max)) (.call (call 177 [.sc (.string Xe), .sc (.string ((h_20 ++ e1) ++ h_20))] []) (C0 Xe ((h_20 ++ e1) ++ h_20)) XO fun (r2 : Bool) => (.as r2 (.rows [[.fn (.func 178) [] []]] (Ji [178]) (.yes (decide ((Ji [178]).all (fun r => r.length == 1) = true)) (.ask (decide (((Ji a.r3).length + (Ji [178]).length) * 8 ≤ most)) (decide ((a.r3.length + [178].length) * 8 ≤ most)) (.rows ((Ji a.r3) ++ (Ji [178])) (Ji (a.r3 ++ [178])) (lf JW (Qr.mk a.x1 a.x14 a.x15 (w64 (a.x16 + (1 : Int))) a.h0 (a.r3 ++ [178])))) .fail))) (.rows [[.fn (.func 129) [] []]] (Ji [129]) (.yes (decide ((Ji [129]).all (fun r => r.length == 1) = true)) (.ask (decide (((Ji a.r3).length + (Ji [129]).length) * 8 ≤ most)) (decide ((a.r3.length + [129].length) * 8 ≤ most)) (.rows ((Ji a.r3) ++ (Ji [129])) (Ji (a.r3 ++ [129])) (lf JW (Qr.mk a.x1 a.x14 a.x15 (w64 (a.x16 + (1 : Int))) a.h0 (a.r3 ++ [129])))) .fail))))) .fail) .fail)) .fail) (rx UL (QH.mk a.x1 a.h0 a.r3)))
theorem Z5 (call : CallF) (C0 : ByteArray → ByteArray → Option Bool) (a : Qr) : (Vn Tryz.prog call C0 a).norm (roundT Tryz.prog G.kd call 2 (G.an 125) (loopAt Tryz.prog 125 3) (JW a)) = Vn Tryz.prog call C0 a := by kernel_rfl
theorem Z6 (P : Program) (call : CallF) (lp : Loops) (C0 : ByteArray → ByteArray → Option Bool) (K0 : ∀ (a0 : ByteArray) (a1 : ByteArray) (r : Bool), C0 a0 a1 = some r → (call 177 [.sc (.string a0), .sc (.string a1)] []) = some (XO r)) (a : Qr) : (Vn P call C0 a).ok lp (Sum.elim (fun a => (.norm, JW a)) UL) := ⟨rfl, fun hq0 => ⟨rfl, fun hq1 => fun e1 he1 => ⟨J9 he1, ⟨rfl, fun hq2 => ⟨rfl, fun hq3 => fun r2 hr2 => ⟨K0 _ _ _ hr2, ⟨rfl, fun hq4 => ⟨(XF [178]), ⟨(decide_eq_true (Fx _)), ⟨(by rw [WU, WU]), fun hq5 => ⟨(GR _ _), rfl⟩, fun hq5 => trivial⟩⟩⟩, fun hq4 => ⟨(XF [129]), ⟨(decide_eq_true (Fx _)), ⟨(by rw [WU, WU]), fun hq5 => ⟨(GR _ _), rfl⟩, fun hq5 => trivial⟩⟩⟩⟩⟩, fun hq3 => trivial⟩, fun hq2 => trivial⟩⟩, fun hq1 => trivial⟩, fun hq0 => rfl⟩
theorem Z7 {C0 : Nat → ByteArray → ByteArray → Option Bool} {D0 : ByteArray → ByteArray → Option Bool} (H0 : ∀ (a0 : ByteArray) (a1 : ByteArray), Cv (fun k => C0 k a0 a1) (D0 a0 a1)) (a : Qr) : Cv (fun k => Vm (C0 k) a) (Vm D0 a) := by
  unfold Vm
  exact .cond (.cond (.bind (.const (a.x14[(Int.toNat a.x16)]?)) fun e1 => .cond (.cond (.bind (H0 _ _) fun r2 => by exact .const _) (by exact .const _)) (by exact .const _)) (by exact .const _)) (by exact .const _)
def J7.s (k : Nat) (C0 : ByteArray → ByteArray → Option Bool) : Qr → Option QH := iter (Vm C0) k
theorem Z2 (call : CallF) (k : Nat) (C0 : ByteArray → ByteArray → Option Bool) (K0 : ∀ (a0 : ByteArray) (a1 : ByteArray) (r : Bool), C0 a0 a1 = some r → (call 177 [.sc (.string a0), .sc (.string a1)] []) = some (XO r)) (a : Qr) (r : QH) (h : J7.s k C0 a = some r) : loopsF Tryz.prog G.kd call 2 (G.an 125) k (loopAt Tryz.prog 125 3) (JW a) = some (UL r) :=
  loop_ok (fun a => Vn Tryz.prog call C0 a) (fun _ => rfl) (fun a => Z5 call _ a) (fun a => Z6 _ call _ _ K0 a) (fun r => nofun) h
theorem J7.m {j k : Nat} (hj : j ≤ k) (C0 : ByteArray → ByteArray → Option Bool) (D0 : ByteArray → ByteArray → Option Bool) (H0 : ∀ (a0 : ByteArray) (a1 : ByteArray), Le (C0 a0 a1) (D0 a0 a1)) (a : Qr) : Le (J7.s j C0 a) (J7.s k D0 a) := Le.iter (fun a => (Z7 (fun a0 a1 => .two (H0 a0 a1)) a).1 0) hj a
def VQ (C0 : Int → Option ByteArray) (C1 : ByteArray → Option (List ByteArray)) (C2 : (List ByteArray) → Qb → (List Nat) → Option (Bool × Qb)) (L3 : Qr → Option QH) (a1 : (List ByteArray)) (h0 : Qb) : Option (Bool × Qb) := ((C0 h0.x.Op).bind fun (r1 : ByteArray) => ((C1 r1).bind fun (r2 : (List ByteArray)) => ((L3 (Qr.mk a1 r2 (((r2.length) : Nat) : Int) (0 : Int) h0 ([] : List Nat))).bind (fun (o3 : QH) => ((C2 o3.x1 o3.h0 o3.r3).bind fun (r4 : (Bool × Qb)) => (some (r4.1, r4.2)))))))
def VR (P : Program) (call : CallF) (C0 : Int → Option ByteArray) (C1 : ByteArray → Option (List ByteArray)) (C2 : (List ByteArray) → Qb → (List Nat) → Option (Bool × Qb)) (L3 : Qr → Option QH) (a1 : (List ByteArray)) (h0 : Qb) : Tr (Bool × Qb) (AV × Heap) := (.call (call 146 [.sc (.int .i64 h0.x.Op)] []) (C0 h0.x.Op) Zf fun (r1 : ByteArray) => (.call (call 145 [.sc (.string r1)] []) (C1 r1) Zo fun (r2 : (List ByteArray)) => (.num ((Qi r2).length) (r2.length) (.loop (loopAt P 125 3) (JW (Qr.mk a1 r2 (((r2.length) : Nat) : Int) (0 : Int) h0 ([] : List Nat))) (L3 (Qr.mk a1 r2 (((r2.length) : Nat) : Int) (0 : Int) h0 ([] : List Nat))) UL (fun (o3 : QH) => (.call (call 127 [.sl (Qi o3.x1), .arr 0] [(0, .fs (some 1) (Ji o3.r3)), (1, .box [0, 0, 0, 0, 0, 5] [.sc (.int .i64 o3.h0.x.Line), .sc (.string o3.h0.x.Label), .sc (.int .i64 o3.h0.x.Kind), .sc (.int .i64 o3.h0.x.Op), .sc (.string o3.h0.x.Text), .arr 2]), (2, .arr true 5 (Qm o3.h0.x.Args))]) (C2 o3.x1 o3.h0 o3.r3) Vl fun (r4 : (Bool × Qb)) => (rt Va (r4.1, r4.2))))))))
theorem G4 (call : CallF) (C0 : Int → Option ByteArray) (C1 : ByteArray → Option (List ByteArray)) (C2 : (List ByteArray) → Qb → (List Nat) → Option (Bool × Qb)) (L3 : Qr → Option QH) (a1 : (List ByteArray)) (h0 : Qb) : (VR Tryz.prog call C0 C1 C2 L3 a1 h0).norm (bodyT Tryz.prog call G 125 [.ptr 0 0, .sl (Qi a1)] [(0, .box [0, 0, 0, 0, 0, 5] [.sc (.int .i64 h0.x.Line), .sc (.string h0.x.Label), .sc (.int .i64 h0.x.Kind), .sc (.int .i64 h0.x.Op), .sc (.string h0.x.Text), .arr 1]), (1, .arr true 5 (Qm h0.x.Args))]) = VR Tryz.prog call C0 C1 C2 L3 a1 h0 := by kernel_rfl
theorem G5 (P : Program) (call : CallF) (lp : Loops) (C0 : Int → Option ByteArray) (C1 : ByteArray → Option (List ByteArray)) (C2 : (List ByteArray) → Qb → (List Nat) → Option (Bool × Qb)) (L3 : Qr → Option QH) (K0 : ∀ (a0 : Int) (r : ByteArray), C0 a0 = some r → (call 146 [.sc (.int .i64 a0)] []) = some (Zf r)) (K1 : ∀ (a0 : ByteArray) (r : (List ByteArray)), C1 a0 = some r → (call 145 [.sc (.string a0)] []) = some (Zo r)) (K2 : ∀ (a0 : (List ByteArray)) (h1 : Qb) (r0 : (List Nat)) (r : (Bool × Qb)), C2 a0 h1 r0 = some r → (call 127 [.sl (Qi a0), .arr 0] [(0, .fs (some 1) (Ji r0)), (1, .box [0, 0, 0, 0, 0, 5] [.sc (.int .i64 h1.x.Line), .sc (.string h1.x.Label), .sc (.int .i64 h1.x.Kind), .sc (.int .i64 h1.x.Op), .sc (.string h1.x.Text), .arr 2]), (2, .arr true 5 (Qm h1.x.Args))]) = some (Vl r)) (N3 : ∀ (a : Qr) (r : QH), L3 a = some r → lp (loopAt P 125 3) (JW a) = some (UL r)) (a1 : (List ByteArray)) (h0 : Qb) : (VR P call C0 C1 C2 L3 a1 h0).ok lp Va := fun r1 hr1 => ⟨K0 _ _ hr1, fun r2 hr2 => ⟨K1 _ _ hr2, ⟨(QD _), fun o3 ho3 => ⟨N3 _ _ ho3, fun r4 hr4 => ⟨K2 _ _ _ _ hr4, rfl⟩⟩⟩⟩⟩
theorem G6 {C0 : Nat → Int → Option ByteArray} {D0 : Int → Option ByteArray} (H0 : ∀ (a0 : Int), Cv (fun k => C0 k a0) (D0 a0)) {C1 : Nat → ByteArray → Option (List ByteArray)} {D1 : ByteArray → Option (List ByteArray)} (H1 : ∀ (a0 : ByteArray), Cv (fun k => C1 k a0) (D1 a0)) {C2 : Nat → (List ByteArray) → Qb → (List Nat) → Option (Bool × Qb)} {D2 : (List ByteArray) → Qb → (List Nat) → Option (Bool × Qb)} (H2 : ∀ (a0 : (List ByteArray)) (h1 : Qb) (r0 : (List Nat)), Cv (fun k => C2 k a0 h1 r0) (D2 a0 h1 r0)) {L3 : Nat → Qr → Option QH} {M3 : Qr → Option QH} (N3 : ∀ a, Cv (fun k => L3 k a) (M3 a)) (a1 : (List ByteArray)) (h0 : Qb) : Cv (fun k => VQ (C0 k) (C1 k) (C2 k) (L3 k) a1 h0) (VQ D0 D1 D2 M3 a1 h0) := by
  unfold VQ
  exact .bind (H0 _) fun r1 => .bind (H1 _) fun r2 => .bind (N3 _) (fun o3 => .bind (H2 _ _ _) fun r4 => by exact .const _)
def JS.s : Nat → (List ByteArray) → Qb → Option (Bool × Qb)
  | 0, _, _ => none
  | k + 1, a1, h0 => VQ (fun a0 => XN.s k a0) (fun a0 => Vh.s k a0) (fun a0 h1 r0 => Wr.s k a0 h1 r0) (J7.s k (fun a0 a1 => J6.s k a0 a1)) a1 h0
theorem JS.ok : ∀ (k : Nat), ∀ (a1 : (List ByteArray)) (h0 : Qb) (r : (Bool × Qb)), JS.s k a1 h0 = some r → evalFn Tryz.prog G k 125 [.ptr 0 0, .sl (Qi a1)] [(0, .box [0, 0, 0, 0, 0, 5] [.sc (.int .i64 h0.x.Line), .sc (.string h0.x.Label), .sc (.int .i64 h0.x.Kind), .sc (.int .i64 h0.x.Op), .sc (.string h0.x.Text), .arr 1]), (1, .arr true 5 (Qm h0.x.Args))] = some (Va r)
  | 0, _, _, _, h => (nomatch h)
  | k + 1, a1, h0, r, h => fn_ok rfl (VR Tryz.prog (evalFn Tryz.prog G k) (fun a0 => XN.s k a0) (fun a0 => Vh.s k a0) (fun a0 h1 r0 => Wr.s k a0 h1 r0) (J7.s k (fun a0 a1 => J6.s k a0 a1)) a1 h0) (G4 _ _ _ _ _ a1 h0) (G5 _ _ _ _ _ _ _ (XN.ok k) (Vh.ok k) (Wr.ok k) (Z2 _ k _ (J6.ok k)) a1 h0) h
theorem JS.mono : ∀ (k : Nat) (a1 : (List ByteArray)) (h0 : Qb), Le (JS.s k a1 h0) (JS.s (k + 1) a1 h0)
  | 0, _, _ => fun r h => (nomatch h)
  | k + 1, a1, h0 => (G6 (fun a0 => .two ((XN.mono k) a0)) (fun a0 => .two ((Vh.mono k) a0)) (fun a0 h1 r0 => .two ((Wr.mono k) a0 h1 r0)) (fun a => .two ((J7.m (Nat.le_succ k) (fun a0 a1 => J6.s k a0 a1) (fun a0 a1 => J6.s (k + 1) a0 a1) (J6.mono k)) a)) a1 h0).1 0
def WE (r : (List ByteArray)) : AV × Heap := (.sl (Qi r), [])
def QaV   : Option (List ByteArray) := (some [s_b, s_bl, s_bc])
def ZY (P : Program) (call : CallF)   : Tr (List ByteArray) (AV × Heap) := (.rows [[.sc (.string s_b)], [.sc (.string s_bl)], [.sc (.string s_bc)]] (Qi [s_b, s_bl, s_bc]) (rt WE [s_b, s_bl, s_bc]))
theorem QaW (call : CallF)   : (ZY Tryz.prog call  ).norm (bodyT Tryz.prog call G 111 [] []) = ZY Tryz.prog call   := by kernel_rfl
theorem QaX (P : Program) (call : CallF) (lp : Loops)    : (ZY P call  ).ok lp WE := ⟨(JD [s_b, s_bl, s_bc]), rfl⟩
def Vo.s : Nat → Option (List ByteArray)
  | 0 => none
  | k + 1 => QaV  
theorem Vo.ok : ∀ (k : Nat), ∀  (r : (List ByteArray)), Vo.s k  = some r → evalFn Tryz.prog G k 111 [] [] = some (WE r)
  | 0, _, h => (nomatch h)
  | k + 1, r, h => fn_ok rfl (ZY Tryz.prog (evalFn Tryz.prog G k)  ) (QaW _  ) (QaX _ _ _    ) h
theorem Vo.mono : ∀ (k : Nat), Le (Vo.s k ) (Vo.s (k + 1) )
  | 0 => fun r h => (nomatch h)
  | k + 1 => .refl _
def UM (r : Int) : AV × Heap := (.sc (.int .i64 r), [])
structure Q1 where
  x0 : (List ByteArray)
  x1 : ByteArray
  x7 : Int
  x8 : Int
def Wc (a : Q1) : St := { n := 19, nx := 0, env := [(0, .sl (Qi a.x0)), (1, .sc (.string a.x1)), (7, .sc (.int .i64 a.x7)), (8, .sc (.int .i64 a.x8))], heap := [] }
def GL (a : Int) : Ex × St := (.ret, { n := 19, nx := 0, env := [(4, .sc (.int .i64 a))], heap := [] })
def GM (a : Unit) : Ex × St := (.exit 0, { n := 19, nx := 0, env := [], heap := [] })
def WT (a : (Int ⊕ Unit)) : Ex × St := Sum.elim GL GM a
def PZ  (a : Q1) : Option (Q1 ⊕ (Int ⊕ Unit)) := (bif (decide (a.x8 < a.x7)) then (bif (decide (0 ≤ a.x8)) then ((a.x0[(Int.toNat a.x8)]?).bind fun (e1 : ByteArray) => (bif (eqS a.x1 e1) then (some (.inr (.inl a.x8))) else (some (.inl (Q1.mk a.x0 a.x1 a.x7 (w64 (a.x8 + (1 : Int)))))))) else none) else (some (.inr (.inr ()))))
def Yg (P : Program) (call : CallF)  (a : Q1) : Tr (Q1 ⊕ (Int ⊕ Unit)) (Ex × St) := (.as (decide (a.x8 < a.x7)) (.as (decide (0 ≤ a.x8)) (.row ((Qi a.x0)[(Int.toNat a.x8)]?) (a.x0[(Int.toNat a.x8)]?) Jp fun (e1 : ByteArray) => (.as (eqS a.x1 e1) (rx WT (.inl a.x8)) (lf Wc (Q1.mk a.x0 a.x1 a.x7 (w64 (a.x8 + (1 : Int))))))) .fail) (rx WT (.inr ())))
theorem P0 (call : CallF)  (a : Q1) : (Yg Tryz.prog call  a).norm (roundT Tryz.prog G.kd call 0 (G.an 126) (loopAt Tryz.prog 126 2) (Wc a)) = Yg Tryz.prog call  a := by kernel_rfl
theorem P1 (P : Program) (call : CallF) (lp : Loops)   (a : Q1) : (Yg P call  a).ok lp (Sum.elim (fun a => (.norm, Wc a)) WT) := ⟨rfl, fun hq0 => ⟨rfl, fun hq1 => fun e1 he1 => ⟨J9 he1, ⟨rfl, fun hq2 => rfl, fun hq2 => rfl⟩⟩, fun hq1 => trivial⟩, fun hq0 => rfl⟩
def V3.s (k : Nat)  : Q1 → Option (Int ⊕ Unit) := iter (PZ ) k
theorem PK (call : CallF) (k : Nat)   (a : Q1) (r : (Int ⊕ Unit)) (h : V3.s k  a = some r) : loopsF Tryz.prog G.kd call 0 (G.an 126) k (loopAt Tryz.prog 126 2) (Wc a) = some (WT r) :=
  loop_ok (fun a => Yg Tryz.prog call  a) (fun _ => rfl) (fun a => P0 call  a) (fun a => P1 _ call _   a) (fun r => by cases r <;> nofun) h
theorem V3.m {j k : Nat} (hj : j ≤ k)    (a : Q1) : Le (V3.s j  a) (V3.s k  a) := Le.iter (fun a => .refl _) hj a
def Y4 (L0 : Q1 → Option (Int ⊕ Unit)) (a0 : (List ByteArray)) (a1 : ByteArray) : Option Int := ((L0 (Q1.mk a0 a1 (((a0.length) : Nat) : Int) (0 : Int))).bind fun x => Sum.elim (fun (o1 : Int) => (some o1)) (fun (o2 : Unit) => (some (-1 : Int))) x)
def Y5 (P : Program) (call : CallF) (L0 : Q1 → Option (Int ⊕ Unit)) (a0 : (List ByteArray)) (a1 : ByteArray) : Tr Int (AV × Heap) := (.num ((Qi a0).length) (a0.length) (.loop2 (loopAt P 126 2) (Wc (Q1.mk a0 a1 (((a0.length) : Nat) : Int) (0 : Int))) (L0 (Q1.mk a0 a1 (((a0.length) : Nat) : Int) (0 : Int))) GL GM (fun (o1 : Int) => (rt UM o1)) (fun (o2 : Unit) => (rt UM (-1 : Int)))))
theorem SU (call : CallF) (L0 : Q1 → Option (Int ⊕ Unit)) (a0 : (List ByteArray)) (a1 : ByteArray) : (Y5 Tryz.prog call L0 a0 a1).norm (bodyT Tryz.prog call G 126 [.sl (Qi a0), .sc (.string a1)] []) = Y5 Tryz.prog call L0 a0 a1 := by kernel_rfl
theorem SV (P : Program) (call : CallF) (lp : Loops) (L0 : Q1 → Option (Int ⊕ Unit)) (N0 : ∀ (a : Q1) (r : (Int ⊕ Unit)), L0 a = some r → lp (loopAt P 126 2) (Wc a) = some (WT r)) (a0 : (List ByteArray)) (a1 : ByteArray) : (Y5 P call L0 a0 a1).ok lp UM := ⟨(QD _), ⟨fun o1 ho1 => ⟨N0 _ (.inl _) ho1, rfl⟩, fun o2 ho2 => ⟨N0 _ (.inr _) ho2, rfl⟩⟩⟩
theorem SW {L0 : Nat → Q1 → Option (Int ⊕ Unit)} {M0 : Q1 → Option (Int ⊕ Unit)} (N0 : ∀ a, Cv (fun k => L0 k a) (M0 a)) (a0 : (List ByteArray)) (a1 : ByteArray) : Cv (fun k => Y4 (L0 k) a0 a1) (Y4 M0 a0 a1) := by
  unfold Y4
  exact .bind (N0 _) fun x => .sum (fun o1 => by exact .const _) (fun o2 => by exact .const _) x
def V4.s : Nat → (List ByteArray) → ByteArray → Option Int
  | 0, _, _ => none
  | k + 1, a0, a1 => Y4 (V3.s k) a0 a1
theorem V4.ok : ∀ (k : Nat), ∀ (a0 : (List ByteArray)) (a1 : ByteArray) (r : Int), V4.s k a0 a1 = some r → evalFn Tryz.prog G k 126 [.sl (Qi a0), .sc (.string a1)] [] = some (UM r)
  | 0, _, _, _, h => (nomatch h)
  | k + 1, a0, a1, r, h => fn_ok rfl (Y5 Tryz.prog (evalFn Tryz.prog G k) (V3.s k) a0 a1) (SU _ _ a0 a1) (SV _ _ _ _  (PK _ k) a0 a1) h
theorem V4.mono : ∀ (k : Nat) (a0 : (List ByteArray)) (a1 : ByteArray), Le (V4.s k a0 a1) (V4.s (k + 1) a0 a1)
  | 0, _, _ => fun r h => (nomatch h)
  | k + 1, a0, a1 => (SW (fun a => .two ((V3.m (Nat.le_succ k)) a)) a0 a1).1 0
def VS (r : (Qb × (List Nat))) : AV × Heap := (.arr 3, [(0, .box [0, 0, 0, 0, 0, 5] [.sc (.int .i64 r.1.x.Line), .sc (.string r.1.x.Label), .sc (.int .i64 r.1.x.Kind), .sc (.int .i64 r.1.x.Op), .sc (.string r.1.x.Text), .arr 2]), (2, .arr true 5 (Qm r.1.x.Args)), (3, .fs (some 0) (Ji r.2))])
structure Jf where
  x6 : Int
  x7 : Int
  h0 : Qb
  r3 : (List Nat)
structure JK where
  h0 : Qb
  r3 : (List Nat)
def Xc (a : Jf) : St := { n := 15, nx := 4, env := [(0, .fn (.func 129) [.ptr 0 0] []), (5, .arr 3), (6, .sc (.int .i64 a.x6)), (7, .sc (.int .i64 a.x7))], heap := [(0, .box [0, 0, 0, 0, 0, 5] [.sc (.int .i64 a.h0.x.Line), .sc (.string a.h0.x.Label), .sc (.int .i64 a.h0.x.Kind), .sc (.int .i64 a.h0.x.Op), .sc (.string a.h0.x.Text), .arr 2]), (2, .arr true 5 (Qm a.h0.x.Args)), (3, .fs (some 0) (Ji a.r3))] }
def Yo (a : JK) : Ex × St := (.exit 0, { n := 15, nx := 4, env := [(5, .arr 3)], heap := [(0, .box [0, 0, 0, 0, 0, 5] [.sc (.int .i64 a.h0.x.Line), .sc (.string a.h0.x.Label), .sc (.int .i64 a.h0.x.Kind), .sc (.int .i64 a.h0.x.Op), .sc (.string a.h0.x.Text), .arr 2]), (2, .arr true 5 (Qm a.h0.x.Args)), (3, .fs (some 0) (Ji a.r3))] })
def SX  (a : Jf) : Option (Jf ⊕ JK) := (bif (decide (a.x7 < a.x6)) then (bif (decide ((a.r3.length + [129].length) * 8 ≤ most)) then (some (.inl (Jf.mk a.x6 (w64 (a.x7 + (1 : Int))) a.h0 (a.r3 ++ [129])))) else none) else (some (.inr (JK.mk a.h0 a.r3))))
def Y6 (P : Program) (call : CallF)  (a : Jf) : Tr (Jf ⊕ JK) (Ex × St) := (.as (decide (a.x7 < a.x6)) (.rows [[.fn (.func 129) [] []]] (Ji [129]) (.yes (decide ((Ji [129]).all (fun r => r.length == 1) = true)) (.ask (decide (((Ji a.r3).length + (Ji [129]).length) * 8 ≤ most)) (decide ((a.r3.length + [129].length) * 8 ≤ most)) (.rows ((Ji a.r3) ++ (Ji [129])) (Ji (a.r3 ++ [129])) (lf Xc (Jf.mk a.x6 (w64 (a.x7 + (1 : Int))) a.h0 (a.r3 ++ [129])))) .fail))) (rx Yo (JK.mk a.h0 a.r3)))
theorem SY (call : CallF)  (a : Jf) : (Y6 Tryz.prog call  a).norm (roundT Tryz.prog G.kd call 2 (G.an 128) (loopAt Tryz.prog 128 3) (Xc a)) = Y6 Tryz.prog call  a := by kernel_rfl
theorem SZ (P : Program) (call : CallF) (lp : Loops)   (a : Jf) : (Y6 P call  a).ok lp (Sum.elim (fun a => (.norm, Xc a)) Yo) := ⟨rfl, fun hq0 => ⟨(XF [129]), ⟨(decide_eq_true (Fx _)), ⟨(by rw [WU, WU]), fun hq1 => ⟨(GR _ _), rfl⟩, fun hq1 => trivial⟩⟩⟩, fun hq0 => rfl⟩
def Xp.s (k : Nat)  : Jf → Option JK := iter (SX ) k
theorem Su (call : CallF) (k : Nat)   (a : Jf) (r : JK) (h : Xp.s k  a = some r) : loopsF Tryz.prog G.kd call 2 (G.an 128) k (loopAt Tryz.prog 128 3) (Xc a) = some (Yo r) :=
  loop_ok (fun a => Y6 Tryz.prog call  a) (fun _ => rfl) (fun a => SY call  a) (fun a => SZ _ call _   a) (fun r => nofun) h
theorem Xp.m {j k : Nat} (hj : j ≤ k)    (a : Jf) : Le (Xp.s j  a) (Xp.s k  a) := Le.iter (fun a => .refl _) hj a
def Gm (L0 : Jf → Option JK) (a1 : Int) (h0 : Qb) : Option (Qb × (List Nat)) := ((L0 (Jf.mk a1 (0 : Int) h0 ([] : List Nat))).bind (fun (o1 : JK) => (some (o1.h0, o1.r3))))
def Gn (P : Program) (call : CallF) (L0 : Jf → Option JK) (a1 : Int) (h0 : Qb) : Tr (Qb × (List Nat)) (AV × Heap) := (.loop (loopAt P 128 3) (Xc (Jf.mk a1 (0 : Int) h0 ([] : List Nat))) (L0 (Jf.mk a1 (0 : Int) h0 ([] : List Nat))) Yo (fun (o1 : JK) => (rt VS (o1.h0, o1.r3))))
theorem Qbm (call : CallF) (L0 : Jf → Option JK) (a1 : Int) (h0 : Qb) : (Gn Tryz.prog call L0 a1 h0).norm (bodyT Tryz.prog call G 128 [.fn (.func 129) [.ptr 0 0] [], .sc (.int .i64 a1)] [(0, .box [0, 0, 0, 0, 0, 5] [.sc (.int .i64 h0.x.Line), .sc (.string h0.x.Label), .sc (.int .i64 h0.x.Kind), .sc (.int .i64 h0.x.Op), .sc (.string h0.x.Text), .arr 1]), (1, .arr true 5 (Qm h0.x.Args))]) = Gn Tryz.prog call L0 a1 h0 := by kernel_rfl
theorem Qbn (P : Program) (call : CallF) (lp : Loops) (L0 : Jf → Option JK) (N0 : ∀ (a : Jf) (r : JK), L0 a = some r → lp (loopAt P 128 3) (Xc a) = some (Yo r)) (a1 : Int) (h0 : Qb) : (Gn P call L0 a1 h0).ok lp VS := fun o1 ho1 => ⟨N0 _ _ ho1, rfl⟩
theorem Qbo {L0 : Nat → Jf → Option JK} {M0 : Jf → Option JK} (N0 : ∀ a, Cv (fun k => L0 k a) (M0 a)) (a1 : Int) (h0 : Qb) : Cv (fun k => Gm (L0 k) a1 h0) (Gm M0 a1 h0) := by
  unfold Gm
  exact .bind (N0 _) (fun o1 => by exact .const _)
def X0.s : Nat → Int → Qb → Option (Qb × (List Nat))
  | 0, _, _ => none
  | k + 1, a1, h0 => Gm (Xp.s k) a1 h0
theorem X0.ok : ∀ (k : Nat), ∀ (a1 : Int) (h0 : Qb) (r : (Qb × (List Nat))), X0.s k a1 h0 = some r → evalFn Tryz.prog G k 128 [.fn (.func 129) [.ptr 0 0] [], .sc (.int .i64 a1)] [(0, .box [0, 0, 0, 0, 0, 5] [.sc (.int .i64 h0.x.Line), .sc (.string h0.x.Label), .sc (.int .i64 h0.x.Kind), .sc (.int .i64 h0.x.Op), .sc (.string h0.x.Text), .arr 1]), (1, .arr true 5 (Qm h0.x.Args))] = some (VS r)
  | 0, _, _, _, h => (nomatch h)
  | k + 1, a1, h0, r, h => fn_ok rfl (Gn Tryz.prog (evalFn Tryz.prog G k) (Xp.s k) a1 h0) (Qbm _ _ a1 h0) (Qbn _ _ _ _  (Su _ k) a1 h0) h
theorem X0.mono : ∀ (k : Nat) (a1 : Int) (h0 : Qb), Le (X0.s k a1 h0) (X0.s (k + 1) a1 h0)
  | 0, _, _ => fun r h => (nomatch h)
  | k + 1, a1, h0 => (Qbo (fun a => .two ((Xp.m (Nat.le_succ k)) a)) a1 h0).1 0
def Uo (r : Bool) : AV × Heap := (.sc (.bool r), [])
def Fs  (a0 : Int) : Option Bool := (bif (decide (a0 ≥ (32 : Int))) then (bif (decide (a0 ≤ (126 : Int))) then (some (a0 != (34 : Int))) else (some false)) else (some false))
def WO (P : Program) (call : CallF)  (a0 : Int) : Tr Bool (AV × Heap) := (.as (decide (a0 ≥ (32 : Int))) (yesN 2 (decide (a0 ≥ (32 : Int))) (.as (decide (a0 ≤ (126 : Int))) (yesN 2 (decide (a0 ≤ (126 : Int))) (rt Uo (a0 != (34 : Int)))) (noN 2 (decide (a0 ≤ (126 : Int))) (rt Uo false)))) (noN 2 (decide (a0 ≥ (32 : Int))) (noN 3 false (rt Uo false))))
theorem Ft (call : CallF)  (a0 : Int) : (WO Tryz.prog call  a0).norm (bodyT Tryz.prog call G 180 [.sc (.int .u8 a0)] []) = WO Tryz.prog call  a0 := by kernel_rfl
theorem Fu (P : Program) (call : CallF) (lp : Loops)   (a0 : Int) : (WO P call  a0).ok lp Uo := ⟨rfl, fun hq0 => yesN_ok 2 (hq0) (⟨rfl, fun hq1 => yesN_ok 2 (hq1) (rfl), fun hq1 => noN_ok 2 (hq1) (rfl)⟩), fun hq0 => noN_ok 2 (hq0) (noN_ok 3 (rfl) (rfl))⟩
def JT.s : Nat → Int → Option Bool
  | 0, _ => none
  | k + 1, a0 => Fs  a0
theorem JT.ok : ∀ (k : Nat), ∀ (a0 : Int) (r : Bool), JT.s k a0 = some r → evalFn Tryz.prog G k 180 [.sc (.int .u8 a0)] [] = some (Uo r)
  | 0, _, _, h => (nomatch h)
  | k + 1, a0, r, h => fn_ok rfl (WO Tryz.prog (evalFn Tryz.prog G k)  a0) (Ft _  a0) (Fu _ _ _    a0) h
theorem JT.mono : ∀ (k : Nat) (a0 : Int), Le (JT.s k a0) (JT.s (k + 1) a0)
  | 0, _ => fun r h => (nomatch h)
  | k + 1, a0 => .refl _
def Yp (r : Int) : AV × Heap := (.sc (.int .i64 r), [])
structure QX where
  x0 : ByteArray
  x5 : Int
def Wd (a : QX) : St := { n := 20, nx := 0, env := [(0, .sc (.string a.x0)), (1, .fn (.func 180) [] []), (5, .sc (.int .i64 a.x5))], heap := [] }
def We (a : Int) : Ex × St := (.exit 0, { n := 20, nx := 0, env := [(5, .sc (.int .i64 a))], heap := [] })
def Yh (C0 : Int → Option Bool) (a : QX) : Option (QX ⊕ Int) := (bif (decide (a.x5 < ((a.x0.size : Nat) : Int))) then (bif (decide (0 ≤ a.x5 ∧ a.x5 < ((a.x0.size : Nat) : Int))) then ((C0 ((a.x0.data.getD (Int.toNat a.x5) 0).toNat : Int)).bind fun (r1 : Bool) => (bif r1 then (some (.inl (QX.mk a.x0 (w64 (a.x5 + (1 : Int)))))) else (some (.inr a.x5)))) else none) else (some (.inr a.x5)))
def Yi (P : Program) (call : CallF) (C0 : Int → Option Bool) (a : QX) : Tr (QX ⊕ Int) (Ex × St) := (.as (decide (a.x5 < ((a.x0.size : Nat) : Int))) (yesN 3 (decide (a.x5 < ((a.x0.size : Nat) : Int))) (.as (decide (0 ≤ a.x5 ∧ a.x5 < ((a.x0.size : Nat) : Int))) (.yes (decide (a.x5 < ((a.x0.size : Nat) : Int))) (.call (call 180 [.sc (.int .u8 ((a.x0.data.getD (Int.toNat a.x5) 0).toNat : Int))] []) (C0 ((a.x0.data.getD (Int.toNat a.x5) 0).toNat : Int)) Uo fun (r1 : Bool) => (.yes (decide (a.x5 < ((a.x0.size : Nat) : Int))) (.as r1 (lf Wd (QX.mk a.x0 (w64 (a.x5 + (1 : Int))))) (rx We a.x5))))) .fail)) (noN 5 (decide (a.x5 < ((a.x0.size : Nat) : Int))) (.no false (rx We a.x5))))
theorem P2 (call : CallF) (C0 : Int → Option Bool) (a : QX) : (Yi Tryz.prog call C0 a).norm (roundT Tryz.prog G.kd call 0 (G.an 72) (loopAt Tryz.prog 72 2) (Wd a)) = Yi Tryz.prog call C0 a := by kernel_rfl
theorem P3 (P : Program) (call : CallF) (lp : Loops) (C0 : Int → Option Bool) (K0 : ∀ (a0 : Int) (r : Bool), C0 a0 = some r → (call 180 [.sc (.int .u8 a0)] []) = some (Uo r)) (a : QX) : (Yi P call C0 a).ok lp (Sum.elim (fun a => (.norm, Wd a)) We) := ⟨rfl, fun hq0 => yesN_ok 3 (hq0) (⟨rfl, fun hq1 => ⟨hq0, fun r1 hr1 => ⟨K0 _ _ hr1, ⟨hq0, ⟨rfl, fun hq2 => rfl, fun hq2 => rfl⟩⟩⟩⟩, fun hq1 => trivial⟩), fun hq0 => noN_ok 5 (hq0) (⟨rfl, rfl⟩)⟩
theorem P4 {C0 : Nat → Int → Option Bool} {D0 : Int → Option Bool} (H0 : ∀ (a0 : Int), Cv (fun k => C0 k a0) (D0 a0)) (a : QX) : Cv (fun k => Yh (C0 k) a) (Yh D0 a) := by
  unfold Yh
  exact .cond (.cond (.bind (H0 _) fun r1 => by exact .const _) (by exact .const _)) (by exact .const _)
def V5.s (k : Nat) (C0 : Int → Option Bool) : QX → Option Int := iter (Yh C0) k
theorem PL (call : CallF) (k : Nat) (C0 : Int → Option Bool) (K0 : ∀ (a0 : Int) (r : Bool), C0 a0 = some r → (call 180 [.sc (.int .u8 a0)] []) = some (Uo r)) (a : QX) (r : Int) (h : V5.s k C0 a = some r) : loopsF Tryz.prog G.kd call 0 (G.an 72) k (loopAt Tryz.prog 72 2) (Wd a) = some (We r) :=
  loop_ok (fun a => Yi Tryz.prog call C0 a) (fun _ => rfl) (fun a => P2 call _ a) (fun a => P3 _ call _ _ K0 a) (fun r => nofun) h
theorem V5.m {j k : Nat} (hj : j ≤ k) (C0 : Int → Option Bool) (D0 : Int → Option Bool) (H0 : ∀ (a0 : Int), Le (C0 a0) (D0 a0)) (a : QX) : Le (V5.s j C0 a) (V5.s k D0 a) := Le.iter (fun a => (P4 (fun a0 => .two (H0 a0)) a).1 0) hj a
def Y7 (L0 : QX → Option Int) (a0 : ByteArray) : Option Int := ((L0 (QX.mk a0 (0 : Int))).bind (fun (o1 : Int) => (some o1)))
def Y8 (P : Program) (call : CallF) (L0 : QX → Option Int) (a0 : ByteArray) : Tr Int (AV × Heap) := (.loop (loopAt P 72 2) (Wd (QX.mk a0 (0 : Int))) (L0 (QX.mk a0 (0 : Int))) We (fun (o1 : Int) => (rt Yp o1)))
theorem S6 (call : CallF) (L0 : QX → Option Int) (a0 : ByteArray) : (Y8 Tryz.prog call L0 a0).norm (bodyT Tryz.prog call G 72 [.sc (.string a0), .fn (.func 180) [] []] []) = Y8 Tryz.prog call L0 a0 := by kernel_rfl
theorem S7 (P : Program) (call : CallF) (lp : Loops) (L0 : QX → Option Int) (N0 : ∀ (a : QX) (r : Int), L0 a = some r → lp (loopAt P 72 2) (Wd a) = some (We r)) (a0 : ByteArray) : (Y8 P call L0 a0).ok lp Yp := fun o1 ho1 => ⟨N0 _ _ ho1, rfl⟩
theorem S8 {L0 : Nat → QX → Option Int} {M0 : QX → Option Int} (N0 : ∀ a, Cv (fun k => L0 k a) (M0 a)) (a0 : ByteArray) : Cv (fun k => Y7 (L0 k) a0) (Y7 M0 a0) := by
  unfold Y7
  exact .bind (N0 _) (fun o1 => by exact .const _)
def V6.s : Nat → ByteArray → Option Int
  | 0, _ => none
  | k + 1, a0 => Y7 (V5.s k (fun a0 => JT.s k a0)) a0
theorem V6.ok : ∀ (k : Nat), ∀ (a0 : ByteArray) (r : Int), V6.s k a0 = some r → evalFn Tryz.prog G k 72 [.sc (.string a0), .fn (.func 180) [] []] [] = some (Yp r)
  | 0, _, _, h => (nomatch h)
  | k + 1, a0, r, h => fn_ok rfl (Y8 Tryz.prog (evalFn Tryz.prog G k) (V5.s k (fun a0 => JT.s k a0)) a0) (S6 _ _ a0) (S7 _ _ _ _  (PL _ k _ (JT.ok k)) a0) h
theorem V6.mono : ∀ (k : Nat) (a0 : ByteArray), Le (V6.s k a0) (V6.s (k + 1) a0)
  | 0, _ => fun r h => (nomatch h)
  | k + 1, a0 => (S8 (fun a => .two ((V5.m (Nat.le_succ k) (fun a0 => JT.s k a0) (fun a0 => JT.s (k + 1) a0) (JT.mono k)) a)) a0).1 0
def Un (r : (Bool × Qb)) : AV × Heap := (.sc (.bool r.1), [(0, .box [0, 0, 0, 0, 0, 5] [.sc (.int .i64 r.2.x.Line), .sc (.string r.2.x.Label), .sc (.int .i64 r.2.x.Kind), .sc (.int .i64 r.2.x.Op), .sc (.string r.2.x.Text), .arr 2]), (2, .arr true 5 (Qm r.2.x.Args))])
def XC (C0 : ByteArray → Option Int) (a1 : ByteArray) (h0 : Qb) : Option (Bool × Qb) := (bif (decide (((a1.size : Nat) : Int) < (2 : Int))) then (some (false, h0)) else (bif (decide (((a1.size : Nat) : Int) > (62 : Int))) then (some (false, h0)) else (bif (decide (0 ≤ (0 : Int) ∧ (0 : Int) < ((a1.size : Nat) : Int))) then (bif (((a1.data.getD (Int.toNat (0 : Int)) 0).toNat : Int) != (34 : Int)) then (some (false, h0)) else (bif (decide (0 ≤ (w64 (((a1.size : Nat) : Int) - (1 : Int))) ∧ (w64 (((a1.size : Nat) : Int) - (1 : Int))) < ((a1.size : Nat) : Int))) then (bif (((a1.data.getD (Int.toNat (w64 (((a1.size : Nat) : Int) - (1 : Int)))) 0).toNat : Int) != (34 : Int)) then (some (false, h0)) else (bif (decide (0 ≤ (1 : Int) ∧ (1 : Int) ≤ (w64 (((a1.size : Nat) : Int) - (1 : Int))) ∧ (w64 (((a1.size : Nat) : Int) - (1 : Int))) ≤ ((a1.size : Nat) : Int))) then ((C0 (a1.extract (Int.toNat (1 : Int)) (Int.toNat (w64 (((a1.size : Nat) : Int) - (1 : Int)))))).bind fun (r1 : Int) => (some ((r1 == (((a1.extract (Int.toNat (1 : Int)) (Int.toNat (w64 (((a1.size : Nat) : Int) - (1 : Int))))).size : Nat) : Int)), (Qb.mk (Qe.mk h0.x.Line h0.x.Label h0.x.Kind h0.x.Op (a1.extract (Int.toNat (1 : Int)) (Int.toNat (w64 (((a1.size : Nat) : Int) - (1 : Int))))) h0.x.Args))))) else none)) else none)) else none)))
def XD (P : Program) (call : CallF) (C0 : ByteArray → Option Int) (a1 : ByteArray) (h0 : Qb) : Tr (Bool × Qb) (AV × Heap) := (.as (decide (((a1.size : Nat) : Int) < (2 : Int))) (yesN 3 (decide (((a1.size : Nat) : Int) < (2 : Int))) (yesN 12 true (rt Un (false, h0)))) (noN 3 (decide (((a1.size : Nat) : Int) < (2 : Int))) (.as (decide (((a1.size : Nat) : Int) > (62 : Int))) (yesN 3 (decide (((a1.size : Nat) : Int) > (62 : Int))) (yesN 8 true (rt Un (false, h0)))) (.no (decide (((a1.size : Nat) : Int) > (62 : Int))) (.as (decide (0 ≤ (0 : Int) ∧ (0 : Int) < ((a1.size : Nat) : Int))) (noN 2 (decide (((a1.size : Nat) : Int) > (62 : Int))) (.as (((a1.data.getD (Int.toNat (0 : Int)) 0).toNat : Int) != (34 : Int)) (yesN 6 (((a1.data.getD (Int.toNat (0 : Int)) 0).toNat : Int) != (34 : Int)) (.yes true (rt Un (false, h0)))) (noN 4 (((a1.data.getD (Int.toNat (0 : Int)) 0).toNat : Int) != (34 : Int)) (.as (decide (0 ≤ (w64 (((a1.size : Nat) : Int) - (1 : Int))) ∧ (w64 (((a1.size : Nat) : Int) - (1 : Int))) < ((a1.size : Nat) : Int))) (noN 2 (((a1.data.getD (Int.toNat (0 : Int)) 0).toNat : Int) != (34 : Int)) (.as (((a1.data.getD (Int.toNat (w64 (((a1.size : Nat) : Int) - (1 : Int)))) 0).toNat : Int) != (34 : Int)) (rt Un (false, h0)) (.as (decide (0 ≤ (1 : Int) ∧ (1 : Int) ≤ (w64 (((a1.size : Nat) : Int) - (1 : Int))) ∧ (w64 (((a1.size : Nat) : Int) - (1 : Int))) ≤ ((a1.size : Nat) : Int))) (.call (call 72 [.sc (.string (a1.extract (Int.toNat (1 : Int)) (Int.toNat (w64 (((a1.size : Nat) : Int) - (1 : Int)))))), .fn (.func 180) [] []] []) (C0 (a1.extract (Int.toNat (1 : Int)) (Int.toNat (w64 (((a1.size : Nat) : Int) - (1 : Int)))))) Yp fun (r1 : Int) => (rt Un ((r1 == (((a1.extract (Int.toNat (1 : Int)) (Int.toNat (w64 (((a1.size : Nat) : Int) - (1 : Int))))).size : Nat) : Int)), (Qb.mk (Qe.mk h0.x.Line h0.x.Label h0.x.Kind h0.x.Op (a1.extract (Int.toNat (1 : Int)) (Int.toNat (w64 (((a1.size : Nat) : Int) - (1 : Int))))) h0.x.Args))))) .fail))) .fail)))) .fail)))))
theorem F8 (call : CallF) (C0 : ByteArray → Option Int) (a1 : ByteArray) (h0 : Qb) : (XD Tryz.prog call C0 a1 h0).norm (bodyT Tryz.prog call G 130 [.ptr 0 0, .sc (.string a1)] [(0, .box [0, 0, 0, 0, 0, 5] [.sc (.int .i64 h0.x.Line), .sc (.string h0.x.Label), .sc (.int .i64 h0.x.Kind), .sc (.int .i64 h0.x.Op), .sc (.string h0.x.Text), .arr 1]), (1, .arr true 5 (Qm h0.x.Args))]) = XD Tryz.prog call C0 a1 h0 := by kernel_rfl
theorem F9 (P : Program) (call : CallF) (lp : Loops) (C0 : ByteArray → Option Int) (K0 : ∀ (a0 : ByteArray) (r : Int), C0 a0 = some r → (call 72 [.sc (.string a0), .fn (.func 180) [] []] []) = some (Yp r)) (a1 : ByteArray) (h0 : Qb) : (XD P call C0 a1 h0).ok lp Un := ⟨rfl, fun hq0 => yesN_ok 3 (hq0) (yesN_ok 12 (rfl) (rfl)), fun hq0 => noN_ok 3 (hq0) (⟨rfl, fun hq1 => yesN_ok 3 (hq1) (yesN_ok 8 (rfl) (rfl)), fun hq1 => ⟨hq1, ⟨rfl, fun hq2 => noN_ok 2 (hq1) (⟨rfl, fun hq3 => yesN_ok 6 (hq3) (⟨rfl, rfl⟩), fun hq3 => noN_ok 4 (hq3) (⟨rfl, fun hq4 => noN_ok 2 (hq3) (⟨rfl, fun hq5 => rfl, fun hq5 => ⟨rfl, fun hq6 => fun r1 hr1 => ⟨K0 _ _ hr1, rfl⟩, fun hq6 => trivial⟩⟩), fun hq4 => trivial⟩)⟩), fun hq2 => trivial⟩⟩⟩)⟩
theorem Pa {C0 : Nat → ByteArray → Option Int} {D0 : ByteArray → Option Int} (H0 : ∀ (a0 : ByteArray), Cv (fun k => C0 k a0) (D0 a0)) (a1 : ByteArray) (h0 : Qb) : Cv (fun k => XC (C0 k) a1 h0) (XC D0 a1 h0) := by
  unfold XC
  exact .cond (by exact .const _) (.cond (by exact .const _) (.cond (.cond (by exact .const _) (.cond (.cond (by exact .const _) (.cond (.bind (H0 _) fun r1 => by exact .const _) (by exact .const _))) (by exact .const _))) (by exact .const _)))
def UG.s : Nat → ByteArray → Qb → Option (Bool × Qb)
  | 0, _, _ => none
  | k + 1, a1, h0 => XC (fun a0 => V6.s k a0) a1 h0
theorem UG.ok : ∀ (k : Nat), ∀ (a1 : ByteArray) (h0 : Qb) (r : (Bool × Qb)), UG.s k a1 h0 = some r → evalFn Tryz.prog G k 130 [.ptr 0 0, .sc (.string a1)] [(0, .box [0, 0, 0, 0, 0, 5] [.sc (.int .i64 h0.x.Line), .sc (.string h0.x.Label), .sc (.int .i64 h0.x.Kind), .sc (.int .i64 h0.x.Op), .sc (.string h0.x.Text), .arr 1]), (1, .arr true 5 (Qm h0.x.Args))] = some (Un r)
  | 0, _, _, _, h => (nomatch h)
  | k + 1, a1, h0, r, h => fn_ok rfl (XD Tryz.prog (evalFn Tryz.prog G k) (fun a0 => V6.s k a0) a1 h0) (F8 _ _ a1 h0) (F9 _ _ _ _ (V6.ok k)  a1 h0) h
theorem UG.mono : ∀ (k : Nat) (a1 : ByteArray) (h0 : Qb), Le (UG.s k a1 h0) (UG.s (k + 1) a1 h0)
  | 0, _, _ => fun r h => (nomatch h)
  | k + 1, a1, h0 => (Pa (fun a0 => .two ((V6.mono k) a0)) a1 h0).1 0
def Qz (r : (Bool × Qb)) : AV × Heap := (.sc (.bool r.1), [(0, .box [0, 0, 0, 0, 0, 5] [.sc (.int .i64 r.2.x.Line), .sc (.string r.2.x.Label), .sc (.int .i64 r.2.x.Kind), .sc (.int .i64 r.2.x.Op), .sc (.string r.2.x.Text), .arr 2]), (2, .arr true 5 (Qm r.2.x.Args))])
def Wl (C0 : ByteArray → Option (List ByteArray)) (C1 : ByteArray → Option (Int × Bool)) (C2 : (List ByteArray) → Qb → Option (Bool × Qb)) (C3 : Option (List ByteArray)) (C4 : (List ByteArray) → ByteArray → Option Int) (C5 : Int → Qb → Option (Qb × (List Nat))) (C6 : (List ByteArray) → Qb → (List Nat) → Option (Bool × Qb)) (C7 : ByteArray → Qb → Option (Bool × Qb)) (a1 : ByteArray) (a2 : ByteArray) (h0 : Qb) : Option (Bool × Qb) := ((C0 a2).bind fun (r1 : (List ByteArray)) => ((C1 a1).bind fun (r2 : (Int × Bool)) => (bif r2.2 then ((C2 r1 (Qb.mk (Qe.mk h0.x.Line h0.x.Label (1 : Int) r2.1 h0.x.Text h0.x.Args))).bind fun (r3 : (Bool × Qb)) => (some (r3.1, r3.2))) else ((C3).bind fun (r4 : (List ByteArray)) => ((C4 r4 a1).bind fun (r5 : Int) => (bif (decide (r5 ≥ (0 : Int))) then ((C5 (w64 ((1 : Int) + (w64 ((w64 (Int.tdiv r5 (2 : Int))) * (2 : Int))))) (Qb.mk (Qe.mk h0.x.Line h0.x.Label (2 : Int) r5 h0.x.Text h0.x.Args))).bind fun (r6 : (Qb × (List Nat))) => ((C6 r1 r6.1 r6.2).bind fun (r7 : (Bool × Qb)) => (some (r7.1, r7.2)))) else (bif (eqS a1 QI) then ((C4 [QI, Jq, Jt] a1).bind fun (r8 : Int) => (bif (decide ((((r1.length) : Nat) : Int) ≥ (1 : Int))) then (bif (decide ((((r1.length) : Nat) : Int) ≤ (16 : Int))) then ((C5 (((r1.length) : Nat) : Int) (Qb.mk (Qe.mk h0.x.Line h0.x.Label (w64 ((3 : Int) + r8)) h0.x.Op h0.x.Text h0.x.Args))).bind fun (r9 : (Qb × (List Nat))) => ((C6 r1 r9.1 r9.2).bind fun (r10 : (Bool × Qb)) => (some (r10.1, r10.2)))) else (some (false, (Qb.mk (Qe.mk h0.x.Line h0.x.Label (w64 ((3 : Int) + r8)) h0.x.Op h0.x.Text h0.x.Args))))) else (some (false, (Qb.mk (Qe.mk h0.x.Line h0.x.Label (w64 ((3 : Int) + r8)) h0.x.Op h0.x.Text h0.x.Args)))))) else (bif (eqS a1 Jq) then ((C4 [QI, Jq, Jt] a1).bind fun (r11 : Int) => (bif (decide ((((r1.length) : Nat) : Int) ≥ (1 : Int))) then (bif (decide ((((r1.length) : Nat) : Int) ≤ (16 : Int))) then ((C5 (((r1.length) : Nat) : Int) (Qb.mk (Qe.mk h0.x.Line h0.x.Label (w64 ((3 : Int) + r11)) h0.x.Op h0.x.Text h0.x.Args))).bind fun (r12 : (Qb × (List Nat))) => ((C6 r1 r12.1 r12.2).bind fun (r13 : (Bool × Qb)) => (some (r13.1, r13.2)))) else (some (false, (Qb.mk (Qe.mk h0.x.Line h0.x.Label (w64 ((3 : Int) + r11)) h0.x.Op h0.x.Text h0.x.Args))))) else (some (false, (Qb.mk (Qe.mk h0.x.Line h0.x.Label (w64 ((3 : Int) + r11)) h0.x.Op h0.x.Text h0.x.Args)))))) else (bif (eqS a1 Jt) then ((C4 [QI, Jq, Jt] a1).bind fun (r14 : Int) => (bif (decide ((((r1.length) : Nat) : Int) ≥ (1 : Int))) then (bif (decide ((((r1.length) : Nat) : Int) ≤ (16 : Int))) then ((C5 (((r1.length) : Nat) : Int) (Qb.mk (Qe.mk h0.x.Line h0.x.Label (w64 ((3 : Int) + r14)) h0.x.Op h0.x.Text h0.x.Args))).bind fun (r15 : (Qb × (List Nat))) => ((C6 r1 r15.1 r15.2).bind fun (r16 : (Bool × Qb)) => (some (r16.1, r16.2)))) else (some (false, (Qb.mk (Qe.mk h0.x.Line h0.x.Label (w64 ((3 : Int) + r14)) h0.x.Op h0.x.Text h0.x.Args))))) else (some (false, (Qb.mk (Qe.mk h0.x.Line h0.x.Label (w64 ((3 : Int) + r14)) h0.x.Op h0.x.Text h0.x.Args)))))) else (bif (eqS a1 YR) then ((C7 a2 (Qb.mk (Qe.mk h0.x.Line h0.x.Label (6 : Int) h0.x.Op h0.x.Text h0.x.Args))).bind fun (r17 : (Bool × Qb)) => (some (r17.1, r17.2))) else (bif (eqS a1 JL) then ((C4 [JL, JR] a1).bind fun (r18 : Int) => ((C5 (1 : Int) (Qb.mk (Qe.mk h0.x.Line h0.x.Label (w64 ((7 : Int) + r18)) h0.x.Op h0.x.Text h0.x.Args))).bind fun (r19 : (Qb × (List Nat))) => ((C6 r1 r19.1 r19.2).bind fun (r20 : (Bool × Qb)) => (some (r20.1, r20.2))))) else (bif (eqS a1 JR) then ((C4 [JL, JR] a1).bind fun (r21 : Int) => ((C5 (1 : Int) (Qb.mk (Qe.mk h0.x.Line h0.x.Label (w64 ((7 : Int) + r21)) h0.x.Op h0.x.Text h0.x.Args))).bind fun (r22 : (Qb × (List Nat))) => ((C6 r1 r22.1 r22.2).bind fun (r23 : (Bool × Qb)) => (some (r23.1, r23.2))))) else (bif (eqS a1 GT) then ((C6 r1 (Qb.mk (Qe.mk h0.x.Line h0.x.Label (9 : Int) h0.x.Op h0.x.Text h0.x.Args)) [131, 129]).bind fun (r24 : (Bool × Qb)) => (some (r24.1, r24.2))) else (some (false, h0)))))))))))))))
end Go.Ab
