/- DisOne: part 2 of the proof that, whatever the input, the law returns true and the input reads as it did; its conditions are those of the given row. -/
import Derived.Test.YtpebnjoklniikaaGreatDoorZDisOne1
import Derived.Test.YtpebnjoklniikaaGreatDoorProg
set_option linter.unusedVariables false
set_option linter.unusedSimpArgs false
namespace Go.Ab
open Go.Proofs
def C_i64 (x : Int) : List AV := [.sc (.int .i64 x)]
def R_i64 (l : List Int) : List (List AV) := l.map C_i64
theorem R_i64_map (l : List Int) : l.map C_i64 = R_i64 l := rfl
theorem R_i64_append (l m : List Int) : R_i64 l ++ R_i64 m = R_i64 (l ++ m) := by simp only [← R_i64_map, List.map_append]
theorem R_i64_set (l : List Int) (i : Nat) (a : Int) : (R_i64 l).set i (C_i64 a) = R_i64 (l.set i a) := by simp only [← R_i64_map, List.map_set]
theorem R_i64_slice (l : List Int) (i n : Nat) : ((R_i64 l).drop i).take n = R_i64 ((l.drop i).take n) := by simp only [← R_i64_map, List.map_take, List.map_drop]
theorem R_i64_rep (n : Nat) (a : Int) : List.replicate n (C_i64 a) = R_i64 (List.replicate n a) := by simp only [← R_i64_map, List.map_replicate]
theorem R_i64_get {l : List Int} {n : Nat} {a : Int} (h : l[n]? = some a) : (R_i64 l)[n]? = some (C_i64 a) := by rw [← R_i64_map]; exact rows_get h
theorem R_i64_all (l : List Int) : (R_i64 l).all (fun r => r.length == 1) = true := by rw [← R_i64_map]; exact rows_all (C := C_i64) (fun _ => rfl) l
theorem R_i64_len (l : List Int) : (R_i64 l).length = l.length := by rw [← R_i64_map, List.length_map]
def C_u8 (x : Int) : List AV := [.sc (.int .u8 x)]
def R_u8 (l : List Int) : List (List AV) := l.map C_u8
theorem R_u8_map (l : List Int) : l.map C_u8 = R_u8 l := rfl
theorem R_u8_append (l m : List Int) : R_u8 l ++ R_u8 m = R_u8 (l ++ m) := by simp only [← R_u8_map, List.map_append]
theorem R_u8_set (l : List Int) (i : Nat) (a : Int) : (R_u8 l).set i (C_u8 a) = R_u8 (l.set i a) := by simp only [← R_u8_map, List.map_set]
theorem R_u8_slice (l : List Int) (i n : Nat) : ((R_u8 l).drop i).take n = R_u8 ((l.drop i).take n) := by simp only [← R_u8_map, List.map_take, List.map_drop]
theorem R_u8_rep (n : Nat) (a : Int) : List.replicate n (C_u8 a) = R_u8 (List.replicate n a) := by simp only [← R_u8_map, List.map_replicate]
theorem R_u8_get {l : List Int} {n : Nat} {a : Int} (h : l[n]? = some a) : (R_u8 l)[n]? = some (C_u8 a) := by rw [← R_u8_map]; exact rows_get h
theorem R_u8_all (l : List Int) : (R_u8 l).all (fun r => r.length == 1) = true := by rw [← R_u8_map]; exact rows_all (C := C_u8) (fun _ => rfl) l
theorem R_u8_len (l : List Int) : (R_u8 l).length = l.length := by rw [← R_u8_map, List.length_map]
def C_string (x : ByteArray) : List AV := [.sc (.string x)]
def R_string (l : List ByteArray) : List (List AV) := l.map C_string
theorem R_string_map (l : List ByteArray) : l.map C_string = R_string l := rfl
theorem R_string_append (l m : List ByteArray) : R_string l ++ R_string m = R_string (l ++ m) := by simp only [← R_string_map, List.map_append]
theorem R_string_set (l : List ByteArray) (i : Nat) (a : ByteArray) : (R_string l).set i (C_string a) = R_string (l.set i a) := by simp only [← R_string_map, List.map_set]
theorem R_string_slice (l : List ByteArray) (i n : Nat) : ((R_string l).drop i).take n = R_string ((l.drop i).take n) := by simp only [← R_string_map, List.map_take, List.map_drop]
theorem R_string_rep (n : Nat) (a : ByteArray) : List.replicate n (C_string a) = R_string (List.replicate n a) := by simp only [← R_string_map, List.map_replicate]
theorem R_string_get {l : List ByteArray} {n : Nat} {a : ByteArray} (h : l[n]? = some a) : (R_string l)[n]? = some (C_string a) := by rw [← R_string_map]; exact rows_get h
theorem R_string_all (l : List ByteArray) : (R_string l).all (fun r => r.length == 1) = true := by rw [← R_string_map]; exact rows_all (C := C_string) (fun _ => rfl) l
theorem R_string_len (l : List ByteArray) : (R_string l).length = l.length := by rw [← R_string_map, List.length_map]
def C_Lu8 (x : (List Int)) : List AV := [.sl (R_u8 x)]
def R_Lu8 (l : List (List Int)) : List (List AV) := l.map C_Lu8
theorem R_Lu8_map (l : List (List Int)) : l.map C_Lu8 = R_Lu8 l := rfl
theorem R_Lu8_append (l m : List (List Int)) : R_Lu8 l ++ R_Lu8 m = R_Lu8 (l ++ m) := by simp only [← R_Lu8_map, List.map_append]
theorem R_Lu8_set (l : List (List Int)) (i : Nat) (a : (List Int)) : (R_Lu8 l).set i (C_Lu8 a) = R_Lu8 (l.set i a) := by simp only [← R_Lu8_map, List.map_set]
theorem R_Lu8_slice (l : List (List Int)) (i n : Nat) : ((R_Lu8 l).drop i).take n = R_Lu8 ((l.drop i).take n) := by simp only [← R_Lu8_map, List.map_take, List.map_drop]
theorem R_Lu8_rep (n : Nat) (a : (List Int)) : List.replicate n (C_Lu8 a) = R_Lu8 (List.replicate n a) := by simp only [← R_Lu8_map, List.map_replicate]
theorem R_Lu8_get {l : List (List Int)} {n : Nat} {a : (List Int)} (h : l[n]? = some a) : (R_Lu8 l)[n]? = some (C_Lu8 a) := by rw [← R_Lu8_map]; exact rows_get h
theorem R_Lu8_all (l : List (List Int)) : (R_Lu8 l).all (fun r => r.length == 1) = true := by rw [← R_Lu8_map]; exact rows_all (C := C_Lu8) (fun _ => rfl) l
theorem R_Lu8_len (l : List (List Int)) : (R_Lu8 l).length = l.length := by rw [← R_Lu8_map, List.length_map]
structure T_dis_reader where
  b : (List Int)
deriving Inhabited
def C_dis_reader (x : T_dis_reader) : List AV := [.sl (R_u8 x.b)]
def R_dis_reader (l : List T_dis_reader) : List (List AV) := l.map C_dis_reader
theorem R_dis_reader_map (l : List T_dis_reader) : l.map C_dis_reader = R_dis_reader l := rfl
theorem R_dis_reader_append (l m : List T_dis_reader) : R_dis_reader l ++ R_dis_reader m = R_dis_reader (l ++ m) := by simp only [← R_dis_reader_map, List.map_append]
theorem R_dis_reader_set (l : List T_dis_reader) (i : Nat) (a : T_dis_reader) : (R_dis_reader l).set i (C_dis_reader a) = R_dis_reader (l.set i a) := by simp only [← R_dis_reader_map, List.map_set]
theorem R_dis_reader_slice (l : List T_dis_reader) (i n : Nat) : ((R_dis_reader l).drop i).take n = R_dis_reader ((l.drop i).take n) := by simp only [← R_dis_reader_map, List.map_take, List.map_drop]
theorem R_dis_reader_rep (n : Nat) (a : T_dis_reader) : List.replicate n (C_dis_reader a) = R_dis_reader (List.replicate n a) := by simp only [← R_dis_reader_map, List.map_replicate]
theorem R_dis_reader_get {l : List T_dis_reader} {n : Nat} {a : T_dis_reader} (h : l[n]? = some a) : (R_dis_reader l)[n]? = some (C_dis_reader a) := by rw [← R_dis_reader_map]; exact rows_get h
theorem R_dis_reader_all (l : List T_dis_reader) : (R_dis_reader l).all (fun r => r.length == 1) = true := by rw [← R_dis_reader_map]; exact rows_all (C := C_dis_reader) (fun _ => rfl) l
theorem R_dis_reader_len (l : List T_dis_reader) : (R_dis_reader l).length = l.length := by rw [← R_dis_reader_map, List.length_map]
def C_Li64 (x : (List Int)) : List AV := [.sl (R_i64 x)]
def R_Li64 (l : List (List Int)) : List (List AV) := l.map C_Li64
theorem R_Li64_map (l : List (List Int)) : l.map C_Li64 = R_Li64 l := rfl
theorem R_Li64_append (l m : List (List Int)) : R_Li64 l ++ R_Li64 m = R_Li64 (l ++ m) := by simp only [← R_Li64_map, List.map_append]
theorem R_Li64_set (l : List (List Int)) (i : Nat) (a : (List Int)) : (R_Li64 l).set i (C_Li64 a) = R_Li64 (l.set i a) := by simp only [← R_Li64_map, List.map_set]
theorem R_Li64_slice (l : List (List Int)) (i n : Nat) : ((R_Li64 l).drop i).take n = R_Li64 ((l.drop i).take n) := by simp only [← R_Li64_map, List.map_take, List.map_drop]
theorem R_Li64_rep (n : Nat) (a : (List Int)) : List.replicate n (C_Li64 a) = R_Li64 (List.replicate n a) := by simp only [← R_Li64_map, List.map_replicate]
theorem R_Li64_get {l : List (List Int)} {n : Nat} {a : (List Int)} (h : l[n]? = some a) : (R_Li64 l)[n]? = some (C_Li64 a) := by rw [← R_Li64_map]; exact rows_get h
theorem R_Li64_all (l : List (List Int)) : (R_Li64 l).all (fun r => r.length == 1) = true := by rw [← R_Li64_map]; exact rows_all (C := C_Li64) (fun _ => rfl) l
theorem R_Li64_len (l : List (List Int)) : (R_Li64 l).length = l.length := by rw [← R_Li64_map, List.length_map]
structure T_api_Inst where
  Op : Int
  F : (List Int)
deriving Inhabited
def C_api_Inst (x : T_api_Inst) : List AV := [.sc (.int .i64 x.Op), .sl (R_i64 x.F)]
def R_api_Inst (l : List T_api_Inst) : List (List AV) := l.map C_api_Inst
theorem R_api_Inst_map (l : List T_api_Inst) : l.map C_api_Inst = R_api_Inst l := rfl
theorem R_api_Inst_append (l m : List T_api_Inst) : R_api_Inst l ++ R_api_Inst m = R_api_Inst (l ++ m) := by simp only [← R_api_Inst_map, List.map_append]
theorem R_api_Inst_set (l : List T_api_Inst) (i : Nat) (a : T_api_Inst) : (R_api_Inst l).set i (C_api_Inst a) = R_api_Inst (l.set i a) := by simp only [← R_api_Inst_map, List.map_set]
theorem R_api_Inst_slice (l : List T_api_Inst) (i n : Nat) : ((R_api_Inst l).drop i).take n = R_api_Inst ((l.drop i).take n) := by simp only [← R_api_Inst_map, List.map_take, List.map_drop]
theorem R_api_Inst_rep (n : Nat) (a : T_api_Inst) : List.replicate n (C_api_Inst a) = R_api_Inst (List.replicate n a) := by simp only [← R_api_Inst_map, List.map_replicate]
theorem R_api_Inst_get {l : List T_api_Inst} {n : Nat} {a : T_api_Inst} (h : l[n]? = some a) : (R_api_Inst l)[n]? = some (C_api_Inst a) := by rw [← R_api_Inst_map]; exact rows_get h
theorem R_api_Inst_all (l : List T_api_Inst) : (R_api_Inst l).all (fun r => r.length == 2) = true := by rw [← R_api_Inst_map]; exact rows_all (C := C_api_Inst) (fun _ => rfl) l
theorem R_api_Inst_len (l : List T_api_Inst) : (R_api_Inst l).length = l.length := by rw [← R_api_Inst_map, List.length_map]
def C_u32 (x : Int) : List AV := [.sc (.int .u32 x)]
def R_u32 (l : List Int) : List (List AV) := l.map C_u32
theorem R_u32_map (l : List Int) : l.map C_u32 = R_u32 l := rfl
theorem R_u32_append (l m : List Int) : R_u32 l ++ R_u32 m = R_u32 (l ++ m) := by simp only [← R_u32_map, List.map_append]
theorem R_u32_set (l : List Int) (i : Nat) (a : Int) : (R_u32 l).set i (C_u32 a) = R_u32 (l.set i a) := by simp only [← R_u32_map, List.map_set]
theorem R_u32_slice (l : List Int) (i n : Nat) : ((R_u32 l).drop i).take n = R_u32 ((l.drop i).take n) := by simp only [← R_u32_map, List.map_take, List.map_drop]
theorem R_u32_rep (n : Nat) (a : Int) : List.replicate n (C_u32 a) = R_u32 (List.replicate n a) := by simp only [← R_u32_map, List.map_replicate]
theorem R_u32_get {l : List Int} {n : Nat} {a : Int} (h : l[n]? = some a) : (R_u32 l)[n]? = some (C_u32 a) := by rw [← R_u32_map]; exact rows_get h
theorem R_u32_all (l : List Int) : (R_u32 l).all (fun r => r.length == 1) = true := by rw [← R_u32_map]; exact rows_all (C := C_u32) (fun _ => rfl) l
theorem R_u32_len (l : List Int) : (R_u32 l).length = l.length := by rw [← R_u32_map, List.length_map]
structure T_isa_row where
  name : ByteArray
  bits : Int
  kinds : ByteArray
deriving Inhabited
def C_isa_row (x : T_isa_row) : List AV := [.sc (.string x.name), .sc (.int .u32 x.bits), .sc (.string x.kinds)]
def R_isa_row (l : List T_isa_row) : List (List AV) := l.map C_isa_row
theorem R_isa_row_map (l : List T_isa_row) : l.map C_isa_row = R_isa_row l := rfl
theorem R_isa_row_append (l m : List T_isa_row) : R_isa_row l ++ R_isa_row m = R_isa_row (l ++ m) := by simp only [← R_isa_row_map, List.map_append]
theorem R_isa_row_set (l : List T_isa_row) (i : Nat) (a : T_isa_row) : (R_isa_row l).set i (C_isa_row a) = R_isa_row (l.set i a) := by simp only [← R_isa_row_map, List.map_set]
theorem R_isa_row_slice (l : List T_isa_row) (i n : Nat) : ((R_isa_row l).drop i).take n = R_isa_row ((l.drop i).take n) := by simp only [← R_isa_row_map, List.map_take, List.map_drop]
theorem R_isa_row_rep (n : Nat) (a : T_isa_row) : List.replicate n (C_isa_row a) = R_isa_row (List.replicate n a) := by simp only [← R_isa_row_map, List.map_replicate]
theorem R_isa_row_get {l : List T_isa_row} {n : Nat} {a : T_isa_row} (h : l[n]? = some a) : (R_isa_row l)[n]? = some (C_isa_row a) := by rw [← R_isa_row_map]; exact rows_get h
theorem R_isa_row_all (l : List T_isa_row) : (R_isa_row l).all (fun r => r.length == 3) = true := by rw [← R_isa_row_map]; exact rows_all (C := C_isa_row) (fun _ => rfl) l
theorem R_isa_row_len (l : List T_isa_row) : (R_isa_row l).length = l.length := by rw [← R_isa_row_map, List.length_map]
def C_u64 (x : Int) : List AV := [.sc (.int .u64 x)]
def R_u64 (l : List Int) : List (List AV) := l.map C_u64
theorem R_u64_map (l : List Int) : l.map C_u64 = R_u64 l := rfl
theorem R_u64_append (l m : List Int) : R_u64 l ++ R_u64 m = R_u64 (l ++ m) := by simp only [← R_u64_map, List.map_append]
theorem R_u64_set (l : List Int) (i : Nat) (a : Int) : (R_u64 l).set i (C_u64 a) = R_u64 (l.set i a) := by simp only [← R_u64_map, List.map_set]
theorem R_u64_slice (l : List Int) (i n : Nat) : ((R_u64 l).drop i).take n = R_u64 ((l.drop i).take n) := by simp only [← R_u64_map, List.map_take, List.map_drop]
theorem R_u64_rep (n : Nat) (a : Int) : List.replicate n (C_u64 a) = R_u64 (List.replicate n a) := by simp only [← R_u64_map, List.map_replicate]
theorem R_u64_get {l : List Int} {n : Nat} {a : Int} (h : l[n]? = some a) : (R_u64 l)[n]? = some (C_u64 a) := by rw [← R_u64_map]; exact rows_get h
theorem R_u64_all (l : List Int) : (R_u64 l).all (fun r => r.length == 1) = true := by rw [← R_u64_map]; exact rows_all (C := C_u64) (fun _ => rfl) l
theorem R_u64_len (l : List Int) : (R_u64 l).length = l.length := by rw [← R_u64_map, List.length_map]
structure T_isa_plain where
  at_ : Int
  bits : Int
  step : Int
  less : Int
deriving Inhabited
def C_isa_plain (x : T_isa_plain) : List AV := [.sc (.int .u64 x.at_), .sc (.int .u64 x.bits), .sc (.int .i64 x.step), .sc (.int .i64 x.less)]
def R_isa_plain (l : List T_isa_plain) : List (List AV) := l.map C_isa_plain
theorem R_isa_plain_map (l : List T_isa_plain) : l.map C_isa_plain = R_isa_plain l := rfl
theorem R_isa_plain_append (l m : List T_isa_plain) : R_isa_plain l ++ R_isa_plain m = R_isa_plain (l ++ m) := by simp only [← R_isa_plain_map, List.map_append]
theorem R_isa_plain_set (l : List T_isa_plain) (i : Nat) (a : T_isa_plain) : (R_isa_plain l).set i (C_isa_plain a) = R_isa_plain (l.set i a) := by simp only [← R_isa_plain_map, List.map_set]
theorem R_isa_plain_slice (l : List T_isa_plain) (i n : Nat) : ((R_isa_plain l).drop i).take n = R_isa_plain ((l.drop i).take n) := by simp only [← R_isa_plain_map, List.map_take, List.map_drop]
theorem R_isa_plain_rep (n : Nat) (a : T_isa_plain) : List.replicate n (C_isa_plain a) = R_isa_plain (List.replicate n a) := by simp only [← R_isa_plain_map, List.map_replicate]
theorem R_isa_plain_get {l : List T_isa_plain} {n : Nat} {a : T_isa_plain} (h : l[n]? = some a) : (R_isa_plain l)[n]? = some (C_isa_plain a) := by rw [← R_isa_plain_map]; exact rows_get h
theorem R_isa_plain_all (l : List T_isa_plain) : (R_isa_plain l).all (fun r => r.length == 4) = true := by rw [← R_isa_plain_map]; exact rows_all (C := C_isa_plain) (fun _ => rfl) l
theorem R_isa_plain_len (l : List T_isa_plain) : (R_isa_plain l).length = l.length := by rw [← R_isa_plain_map, List.length_map]
structure T_imm_form where
  f : Int
  scale : Int
deriving Inhabited
def C_imm_form (x : T_imm_form) : List AV := [.sc (.int .i64 x.f), .sc (.int .i64 x.scale)]
def R_imm_form (l : List T_imm_form) : List (List AV) := l.map C_imm_form
theorem R_imm_form_map (l : List T_imm_form) : l.map C_imm_form = R_imm_form l := rfl
theorem R_imm_form_append (l m : List T_imm_form) : R_imm_form l ++ R_imm_form m = R_imm_form (l ++ m) := by simp only [← R_imm_form_map, List.map_append]
theorem R_imm_form_set (l : List T_imm_form) (i : Nat) (a : T_imm_form) : (R_imm_form l).set i (C_imm_form a) = R_imm_form (l.set i a) := by simp only [← R_imm_form_map, List.map_set]
theorem R_imm_form_slice (l : List T_imm_form) (i n : Nat) : ((R_imm_form l).drop i).take n = R_imm_form ((l.drop i).take n) := by simp only [← R_imm_form_map, List.map_take, List.map_drop]
theorem R_imm_form_rep (n : Nat) (a : T_imm_form) : List.replicate n (C_imm_form a) = R_imm_form (List.replicate n a) := by simp only [← R_imm_form_map, List.map_replicate]
theorem R_imm_form_get {l : List T_imm_form} {n : Nat} {a : T_imm_form} (h : l[n]? = some a) : (R_imm_form l)[n]? = some (C_imm_form a) := by rw [← R_imm_form_map]; exact rows_get h
theorem R_imm_form_all (l : List T_imm_form) : (R_imm_form l).all (fun r => r.length == 2) = true := by rw [← R_imm_form_map]; exact rows_all (C := C_imm_form) (fun _ => rfl) l
theorem R_imm_form_len (l : List T_imm_form) : (R_imm_form l).length = l.length := by rw [← R_imm_form_map, List.length_map]
structure T_api_Frag where
  Name : ByteArray
  Text : ByteArray
deriving Inhabited
def C_api_Frag (x : T_api_Frag) : List AV := [.sc (.string x.Name), .sc (.string x.Text)]
def R_api_Frag (l : List T_api_Frag) : List (List AV) := l.map C_api_Frag
theorem R_api_Frag_map (l : List T_api_Frag) : l.map C_api_Frag = R_api_Frag l := rfl
theorem R_api_Frag_append (l m : List T_api_Frag) : R_api_Frag l ++ R_api_Frag m = R_api_Frag (l ++ m) := by simp only [← R_api_Frag_map, List.map_append]
theorem R_api_Frag_set (l : List T_api_Frag) (i : Nat) (a : T_api_Frag) : (R_api_Frag l).set i (C_api_Frag a) = R_api_Frag (l.set i a) := by simp only [← R_api_Frag_map, List.map_set]
theorem R_api_Frag_slice (l : List T_api_Frag) (i n : Nat) : ((R_api_Frag l).drop i).take n = R_api_Frag ((l.drop i).take n) := by simp only [← R_api_Frag_map, List.map_take, List.map_drop]
theorem R_api_Frag_rep (n : Nat) (a : T_api_Frag) : List.replicate n (C_api_Frag a) = R_api_Frag (List.replicate n a) := by simp only [← R_api_Frag_map, List.map_replicate]
theorem R_api_Frag_get {l : List T_api_Frag} {n : Nat} {a : T_api_Frag} (h : l[n]? = some a) : (R_api_Frag l)[n]? = some (C_api_Frag a) := by rw [← R_api_Frag_map]; exact rows_get h
theorem R_api_Frag_all (l : List T_api_Frag) : (R_api_Frag l).all (fun r => r.length == 2) = true := by rw [← R_api_Frag_map]; exact rows_all (C := C_api_Frag) (fun _ => rfl) l
theorem R_api_Frag_len (l : List T_api_Frag) : (R_api_Frag l).length = l.length := by rw [← R_api_Frag_map, List.length_map]
structure T_r2_row where
  Name : ByteArray
  Bits : ByteArray
  Kinds : ByteArray
deriving Inhabited
def C_r2_row (x : T_r2_row) : List AV := [.sc (.string x.Name), .sc (.string x.Bits), .sc (.string x.Kinds)]
def R_r2_row (l : List T_r2_row) : List (List AV) := l.map C_r2_row
theorem R_r2_row_map (l : List T_r2_row) : l.map C_r2_row = R_r2_row l := rfl
theorem R_r2_row_append (l m : List T_r2_row) : R_r2_row l ++ R_r2_row m = R_r2_row (l ++ m) := by simp only [← R_r2_row_map, List.map_append]
theorem R_r2_row_set (l : List T_r2_row) (i : Nat) (a : T_r2_row) : (R_r2_row l).set i (C_r2_row a) = R_r2_row (l.set i a) := by simp only [← R_r2_row_map, List.map_set]
theorem R_r2_row_slice (l : List T_r2_row) (i n : Nat) : ((R_r2_row l).drop i).take n = R_r2_row ((l.drop i).take n) := by simp only [← R_r2_row_map, List.map_take, List.map_drop]
theorem R_r2_row_rep (n : Nat) (a : T_r2_row) : List.replicate n (C_r2_row a) = R_r2_row (List.replicate n a) := by simp only [← R_r2_row_map, List.map_replicate]
theorem R_r2_row_get {l : List T_r2_row} {n : Nat} {a : T_r2_row} (h : l[n]? = some a) : (R_r2_row l)[n]? = some (C_r2_row a) := by rw [← R_r2_row_map]; exact rows_get h
theorem R_r2_row_all (l : List T_r2_row) : (R_r2_row l).all (fun r => r.length == 3) = true := by rw [← R_r2_row_map]; exact rows_all (C := C_r2_row) (fun _ => rfl) l
theorem R_r2_row_len (l : List T_r2_row) : (R_r2_row l).length = l.length := by rw [← R_r2_row_map, List.length_map]
def bytesL (s : ByteArray) : List Int := s.data.toList.map fun b => (b.toNat : Int)
def listB (l : List Int) : List UInt8 := l.map fun n => UInt8.ofNat n.toNat
theorem R_u8_bytes (s : ByteArray) : byteRows s.data.toList = R_u8 (bytesL s) := by simp only [byteRows, R_u8, bytesL, List.map_map]; rfl
theorem R_u8_list (l : List Int) : bytesOfRows (R_u8 l) = some (listB l) := by
  induction l with
  | nil => rfl
  | cons x l ih => simp only [R_u8, listB, List.map_cons] at ih ⊢; simp only [bytesOfRows, C_u8, rowByte, ih, Option.bind_some, Option.map_some]
def h_0a : ByteArray := ⟨#[10]⟩
def h_20 : ByteArray := ⟨#[32]⟩
def h_2058205920442041204220 : ByteArray := ⟨#[32, 88, 32, 89, 32, 68, 32, 65, 32, 66, 32]⟩
def h_2c : ByteArray := ⟨#[44]⟩
def h_2c20 : ByteArray := ⟨#[44, 32]⟩
def h_2d : ByteArray := ⟨#[45]⟩
def h_2e202b20 : ByteArray := ⟨#[46, 32, 43, 32]⟩
def h_2e202d20 : ByteArray := ⟨#[46, 32, 45, 32]⟩
def h_2e6279746520 : ByteArray := ⟨#[46, 98, 121, 116, 101, 32]⟩
def h_2e627974652037 : ByteArray := ⟨#[46, 98, 121, 116, 101, 32, 55]⟩
def h_2e68616c6620 : ByteArray := ⟨#[46, 104, 97, 108, 102, 32]⟩
def h_4120442042 : ByteArray := ⟨#[65, 32, 68, 32, 66]⟩
def h_412044204338 : ByteArray := ⟨#[65, 32, 68, 32, 67, 56]⟩
def h_4420412042 : ByteArray := ⟨#[68, 32, 65, 32, 66]⟩
def h_442041204338 : ByteArray := ⟨#[68, 32, 65, 32, 67, 56]⟩
def h_44204120533136 : ByteArray := ⟨#[68, 32, 65, 32, 83, 49, 54]⟩
def h_44204c3230 : ByteArray := ⟨#[68, 32, 76, 50, 48]⟩
def h_44205331362041 : ByteArray := ⟨#[68, 32, 83, 49, 54, 32, 65]⟩
def h_4f31204932205438 : ByteArray := ⟨#[79, 49, 32, 73, 50, 32, 84, 56]⟩
def h_4f3220493420543135 : ByteArray := ⟨#[79, 50, 32, 73, 52, 32, 84, 49, 53]⟩
def h_58204f35 : ByteArray := ⟨#[88, 32, 79, 53]⟩
def h_58205535 : ByteArray := ⟨#[88, 32, 85, 53]⟩
def h_58205537 : ByteArray := ⟨#[88, 32, 85, 55]⟩
def h_582059 : ByteArray := ⟨#[88, 32, 89]⟩
def h_59204d312058 : ByteArray := ⟨#[89, 32, 77, 49, 32, 88]⟩
def h_59204d322058 : ByteArray := ⟨#[89, 32, 77, 50, 32, 88]⟩
def h_59204d342058 : ByteArray := ⟨#[89, 32, 77, 52, 32, 88]⟩
def h_73655f626c720a : ByteArray := ⟨#[115, 101, 95, 98, 108, 114, 10]⟩
def h_x37c0a411 : ByteArray := ⟨#[115, 101, 95, 105, 108, 108, 101, 103, 97, 108, 58, 48, 48, 48, 48, 58, 124, 115, 101, 95, 105, 115, 121, 110, 99, 58, 48, 48, 48, 49, 58, 124, 115, 101, 95, 115, 99, 58, 48, 48, 48, 50, 58, 124, 115, 101, 95, 98, 108, 114, 58, 48, 48, 48, 52, 58, 124, 115, 101, 95, 98, 99, 116, 114, 58, 48, 48, 48, 54, 58, 124, 115, 101, 95, 110, 111, 116, 58, 48, 48, 50, 48, 58, 88, 124, 115, 101, 95, 110, 101, 103, 58, 48, 48, 51, 48, 58, 88, 124, 115, 101, 95, 109, 102, 108, 114, 58, 48, 48, 56, 48, 58, 88, 124, 115, 101, 95, 109, 116, 108, 114, 58, 48, 48, 57, 48, 58, 88, 124, 115, 101, 95, 109, 102, 99, 116, 114, 58, 48, 48, 97, 48, 58, 88, 124, 115, 101, 95, 109, 116, 99, 116, 114, 58, 48, 48, 98, 48, 58, 88, 124, 115, 101, 95, 101, 120, 116, 122, 98, 58, 48, 48, 99, 48, 58, 88, 124, 115, 101, 95, 101, 120, 116, 115, 98, 58, 48, 48, 100, 48, 58, 88, 124, 115, 101, 95, 101, 120, 116, 122, 104, 58, 48, 48, 101, 48, 58, 88, 124, 115, 101, 95, 101, 120, 116, 115, 104, 58, 48, 48, 102, 48, 58, 88, 124, 115, 101, 95, 109, 114, 58, 48, 49, 48, 48, 58, 88, 32, 89, 124, 115, 101, 95, 97, 100, 100, 58, 48, 52, 48, 48, 58, 88, 32, 89, 124, 115, 101, 95, 109, 117, 108, 108, 119, 58, 48, 53, 48, 48, 58, 88, 32, 89, 124, 115, 101, 95, 115, 117, 98, 58, 48, 54, 48, 48, 58, 88, 32, 89, 124, 115, 101, 95, 99, 109, 112, 58, 48, 99, 48, 48, 58, 88, 32, 89, 124, 115, 101, 95, 99, 109, 112, 108, 58, 48, 100, 48, 48, 58, 88, 32, 89, 124, 115, 101, 95, 97, 100, 100, 105, 58, 50, 48, 48, 48, 58, 88, 32, 79, 53, 124, 115, 101, 95, 99, 109, 112, 108, 105, 58, 50, 50, 48, 48, 58, 88, 32, 79, 53, 124, 115, 101, 95, 115, 117, 98, 105, 58, 50, 52, 48, 48, 58, 88, 32, 79, 53, 124, 115, 101, 95, 99, 109, 112, 105, 58, 50, 97, 48, 48, 58, 88, 32, 85, 53, 124, 115, 101, 95, 111, 114, 58, 52, 52, 48, 48, 58, 88, 32, 89, 124, 115, 101, 95, 97, 110, 100, 99, 58, 52, 53, 48, 48, 58, 88, 32, 89, 124, 115, 101, 95, 97, 110, 100, 58, 52, 54, 48, 48, 58, 88, 32, 89, 124, 115, 101, 95, 108, 105, 58, 52, 56, 48, 48, 58, 88, 32, 85, 55, 124, 115, 101, 95, 98, 99, 108, 114, 105, 58, 54, 48, 48, 48, 58, 88, 32, 85, 53, 124, 115, 101, 95, 98, 115, 101, 116, 105, 58, 54, 52, 48, 48, 58, 88, 32, 85, 53, 124, 115, 101, 95, 98, 116, 115, 116, 105, 58, 54, 54, 48, 48, 58, 88, 32, 85, 53, 124, 115, 101, 95, 115, 114, 119, 105, 58, 54, 56, 48, 48, 58, 88, 32, 85, 53, 124, 115, 101, 95, 115, 108, 119, 105, 58, 54, 99, 48, 48, 58, 88, 32, 85, 53, 124, 115, 101, 95, 108, 98, 122, 58, 56, 48, 48, 48, 58, 89, 32, 77, 49, 32, 88, 124, 115, 101, 95, 115, 116, 98, 58, 57, 48, 48, 48, 58, 89, 32, 77, 49, 32, 88, 124, 115, 101, 95, 108, 104, 122, 58, 97, 48, 48, 48, 58, 89, 32, 77, 50, 32, 88, 124, 115, 101, 95, 115, 116, 104, 58, 98, 48, 48, 48, 58, 89, 32, 77, 50, 32, 88, 124, 115, 101, 95, 108, 119, 122, 58, 99, 48, 48, 48, 58, 89, 32, 77, 52, 32, 88, 124, 115, 101, 95, 115, 116, 119, 58, 100, 48, 48, 48, 58, 89, 32, 77, 52, 32, 88, 124, 115, 101, 95, 98, 99, 58, 101, 48, 48, 48, 58, 79, 49, 32, 73, 50, 32, 84, 56, 124, 115, 101, 95, 98, 58, 101, 56, 48, 48, 58, 84, 56, 124, 115, 101, 95, 98, 108, 58, 101, 57, 48, 48, 58, 84, 56, 124, 101, 95, 97, 100, 100, 49, 54, 105, 58, 49, 99, 48, 48, 48, 48, 48, 48, 58, 68, 32, 65, 32, 83, 49, 54, 124, 101, 95, 97, 100, 100, 105, 58, 49, 56, 48, 48, 56, 48, 48, 48, 58, 68, 32, 65, 32, 67, 56, 124, 101, 95, 97, 110, 100, 105, 58, 49, 56, 48, 48, 99, 48, 48, 48, 58, 65, 32, 68, 32, 67, 56, 124, 101, 95, 111, 114, 105, 58, 49, 56, 48, 48, 100, 48, 48, 48, 58, 65, 32, 68, 32, 67, 56, 124, 101, 95, 120, 111, 114, 105, 58, 49, 56, 48, 48, 101, 48, 48, 48, 58, 65, 32, 68, 32, 67, 56, 124, 101, 95, 108, 105, 58, 55, 48, 48, 48, 48, 48, 48, 48, 58, 68, 32, 76, 50, 48, 124, 101, 95, 108, 98, 122, 58, 51, 48, 48, 48, 48, 48, 48, 48, 58, 68, 32, 83, 49, 54, 32, 65, 124, 101, 95, 115, 116, 98, 58, 51, 52, 48, 48, 48, 48, 48, 48, 58, 68, 32, 83, 49, 54, 32, 65, 124, 101, 95, 108, 104, 97, 58, 51, 56, 48, 48, 48, 48, 48, 48, 58, 68, 32, 83, 49, 54, 32, 65, 124, 101, 95, 108, 119, 122, 58, 53, 48, 48, 48, 48, 48, 48, 48, 58, 68, 32, 83, 49, 54, 32, 65, 124, 101, 95, 115, 116, 119, 58, 53, 52, 48, 48, 48, 48, 48, 48, 58, 68, 32, 83, 49, 54, 32, 65, 124, 101, 95, 108, 104, 122, 58, 53, 56, 48, 48, 48, 48, 48, 48, 58, 68, 32, 83, 49, 54, 32, 65, 124, 101, 95, 115, 116, 104, 58, 53, 99, 48, 48, 48, 48, 48, 48, 58, 68, 32, 83, 49, 54, 32, 65, 124, 101, 95, 98, 58, 55, 56, 48, 48, 48, 48, 48, 48, 58, 84, 50, 52, 124, 101, 95, 98, 108, 58, 55, 56, 48, 48, 48, 48, 48, 49, 58, 84, 50, 52, 124, 101, 95, 98, 99, 58, 55, 97, 48, 48, 48, 48, 48, 48, 58, 79, 50, 32, 73, 52, 32, 84, 49, 53, 124, 101, 95, 98, 99, 108, 58, 55, 97, 48, 48, 48, 48, 48, 49, 58, 79, 50, 32, 73, 52, 32, 84, 49, 53, 124, 97, 100, 100, 58, 55, 99, 48, 48, 48, 50, 49, 52, 58, 68, 32, 65, 32, 66, 124, 115, 117, 98, 102, 58, 55, 99, 48, 48, 48, 48, 53, 48, 58, 68, 32, 65, 32, 66, 124, 109, 117, 108, 108, 119, 58, 55, 99, 48, 48, 48, 49, 100, 54, 58, 68, 32, 65, 32, 66, 124, 97, 110, 100, 58, 55, 99, 48, 48, 48, 48, 51, 56, 58, 65, 32, 68, 32, 66, 124, 111, 114, 58, 55, 99, 48, 48, 48, 51, 55, 56, 58, 65, 32, 68, 32, 66, 124, 120, 111, 114, 58, 55, 99, 48, 48, 48, 50, 55, 56, 58, 65, 32, 68, 32, 66, 124]⟩
def s_ : ByteArray := ⟨#[]⟩
def s_A : ByteArray := ⟨#[65]⟩
def s_B : ByteArray := ⟨#[66]⟩
def s_C8 : ByteArray := ⟨#[67, 56]⟩
def s_D : ByteArray := ⟨#[68]⟩
def s_I2 : ByteArray := ⟨#[73, 50]⟩
def s_I4 : ByteArray := ⟨#[73, 52]⟩
def s_L20 : ByteArray := ⟨#[76, 50, 48]⟩
def s_M1 : ByteArray := ⟨#[77, 49]⟩
def s_M2 : ByteArray := ⟨#[77, 50]⟩
def s_M4 : ByteArray := ⟨#[77, 52]⟩
def s_O1 : ByteArray := ⟨#[79, 49]⟩
def s_O2 : ByteArray := ⟨#[79, 50]⟩
def s_O5 : ByteArray := ⟨#[79, 53]⟩
def s_S16 : ByteArray := ⟨#[83, 49, 54]⟩
def s_T15 : ByteArray := ⟨#[84, 49, 53]⟩
def s_T24 : ByteArray := ⟨#[84, 50, 52]⟩
def s_T8 : ByteArray := ⟨#[84, 56]⟩
def s_U5 : ByteArray := ⟨#[85, 53]⟩
def s_U7 : ByteArray := ⟨#[85, 55]⟩
def s_X : ByteArray := ⟨#[88]⟩
def s_Y : ByteArray := ⟨#[89]⟩
def s_add : ByteArray := ⟨#[97, 100, 100]⟩
def s_and : ByteArray := ⟨#[97, 110, 100]⟩
def s_e_add16i : ByteArray := ⟨#[101, 95, 97, 100, 100, 49, 54, 105]⟩
def s_e_addi : ByteArray := ⟨#[101, 95, 97, 100, 100, 105]⟩
def s_e_andi : ByteArray := ⟨#[101, 95, 97, 110, 100, 105]⟩
def s_e_b : ByteArray := ⟨#[101, 95, 98]⟩
def s_e_bc : ByteArray := ⟨#[101, 95, 98, 99]⟩
def s_e_bcl : ByteArray := ⟨#[101, 95, 98, 99, 108]⟩
def s_e_bl : ByteArray := ⟨#[101, 95, 98, 108]⟩
def s_e_lbz : ByteArray := ⟨#[101, 95, 108, 98, 122]⟩
def s_e_lha : ByteArray := ⟨#[101, 95, 108, 104, 97]⟩
def s_e_lhz : ByteArray := ⟨#[101, 95, 108, 104, 122]⟩
def s_e_li : ByteArray := ⟨#[101, 95, 108, 105]⟩
def s_e_lwz : ByteArray := ⟨#[101, 95, 108, 119, 122]⟩
def s_e_ori : ByteArray := ⟨#[101, 95, 111, 114, 105]⟩
def s_e_stb : ByteArray := ⟨#[101, 95, 115, 116, 98]⟩
def s_e_sth : ByteArray := ⟨#[101, 95, 115, 116, 104]⟩
def s_e_stw : ByteArray := ⟨#[101, 95, 115, 116, 119]⟩
def s_e_xori : ByteArray := ⟨#[101, 95, 120, 111, 114, 105]⟩
def s_mullw : ByteArray := ⟨#[109, 117, 108, 108, 119]⟩
def s_or : ByteArray := ⟨#[111, 114]⟩
def s_p00 : ByteArray := ⟨#[112, 48, 48]⟩
def s_pqs : ByteArray := ⟨#[112, 113, 115]⟩
def s_pqstuvwxyz : ByteArray := ⟨#[112, 113, 115, 116, 117, 118, 119, 120, 121, 122]⟩
def s_r : ByteArray := ⟨#[114]⟩
def s_se_add : ByteArray := ⟨#[115, 101, 95, 97, 100, 100]⟩
def s_se_addi : ByteArray := ⟨#[115, 101, 95, 97, 100, 100, 105]⟩
def s_se_and : ByteArray := ⟨#[115, 101, 95, 97, 110, 100]⟩
def s_se_andc : ByteArray := ⟨#[115, 101, 95, 97, 110, 100, 99]⟩
def s_se_b : ByteArray := ⟨#[115, 101, 95, 98]⟩
def s_se_bc : ByteArray := ⟨#[115, 101, 95, 98, 99]⟩
def s_se_bclri : ByteArray := ⟨#[115, 101, 95, 98, 99, 108, 114, 105]⟩
def s_se_bctr : ByteArray := ⟨#[115, 101, 95, 98, 99, 116, 114]⟩
def s_se_bl : ByteArray := ⟨#[115, 101, 95, 98, 108]⟩
def s_se_blr : ByteArray := ⟨#[115, 101, 95, 98, 108, 114]⟩
def s_se_bseti : ByteArray := ⟨#[115, 101, 95, 98, 115, 101, 116, 105]⟩
def s_se_btsti : ByteArray := ⟨#[115, 101, 95, 98, 116, 115, 116, 105]⟩
def s_se_cmp : ByteArray := ⟨#[115, 101, 95, 99, 109, 112]⟩
def s_se_cmpi : ByteArray := ⟨#[115, 101, 95, 99, 109, 112, 105]⟩
def s_se_cmpl : ByteArray := ⟨#[115, 101, 95, 99, 109, 112, 108]⟩
def s_se_cmpli : ByteArray := ⟨#[115, 101, 95, 99, 109, 112, 108, 105]⟩
def s_se_extsb : ByteArray := ⟨#[115, 101, 95, 101, 120, 116, 115, 98]⟩
def s_se_extsh : ByteArray := ⟨#[115, 101, 95, 101, 120, 116, 115, 104]⟩
def s_se_extzb : ByteArray := ⟨#[115, 101, 95, 101, 120, 116, 122, 98]⟩
def s_se_extzh : ByteArray := ⟨#[115, 101, 95, 101, 120, 116, 122, 104]⟩
def s_se_illegal : ByteArray := ⟨#[115, 101, 95, 105, 108, 108, 101, 103, 97, 108]⟩
def s_se_isync : ByteArray := ⟨#[115, 101, 95, 105, 115, 121, 110, 99]⟩
def s_se_lbz : ByteArray := ⟨#[115, 101, 95, 108, 98, 122]⟩
def s_se_lhz : ByteArray := ⟨#[115, 101, 95, 108, 104, 122]⟩
def s_se_li : ByteArray := ⟨#[115, 101, 95, 108, 105]⟩
def s_se_lwz : ByteArray := ⟨#[115, 101, 95, 108, 119, 122]⟩
def s_se_mfctr : ByteArray := ⟨#[115, 101, 95, 109, 102, 99, 116, 114]⟩
def s_se_mflr : ByteArray := ⟨#[115, 101, 95, 109, 102, 108, 114]⟩
def s_se_mr : ByteArray := ⟨#[115, 101, 95, 109, 114]⟩
def s_se_mtctr : ByteArray := ⟨#[115, 101, 95, 109, 116, 99, 116, 114]⟩
def s_se_mtlr : ByteArray := ⟨#[115, 101, 95, 109, 116, 108, 114]⟩
def s_se_mullw : ByteArray := ⟨#[115, 101, 95, 109, 117, 108, 108, 119]⟩
def s_se_neg : ByteArray := ⟨#[115, 101, 95, 110, 101, 103]⟩
def s_se_not : ByteArray := ⟨#[115, 101, 95, 110, 111, 116]⟩
def s_se_or : ByteArray := ⟨#[115, 101, 95, 111, 114]⟩
def s_se_sc : ByteArray := ⟨#[115, 101, 95, 115, 99]⟩
def s_se_slwi : ByteArray := ⟨#[115, 101, 95, 115, 108, 119, 105]⟩
def s_se_srwi : ByteArray := ⟨#[115, 101, 95, 115, 114, 119, 105]⟩
def s_se_stb : ByteArray := ⟨#[115, 101, 95, 115, 116, 98]⟩
def s_se_sth : ByteArray := ⟨#[115, 101, 95, 115, 116, 104]⟩
def s_se_stw : ByteArray := ⟨#[115, 101, 95, 115, 116, 119]⟩
def s_se_sub : ByteArray := ⟨#[115, 101, 95, 115, 117, 98]⟩
def s_se_subi : ByteArray := ⟨#[115, 101, 95, 115, 117, 98, 105]⟩
def s_subf : ByteArray := ⟨#[115, 117, 98, 102]⟩
def s_xor : ByteArray := ⟨#[120, 111, 114]⟩
def anT : List (Nat × List (Nat × Ann)) := [
  (3, [(7, { keep := [7, 8], out := [], res := [6], own := [], full := false })]),
  (5, [(11, { keep := [5, 8, 9, 10, 11], out := [5, 8, 9, 10], res := [4], own := [], full := false })]),
  (9, [(3, { keep := [0, 1, 2, 7, 8], out := [7], res := [6], own := [(7, 1), (9, 1)], full := false }), (7, { keep := [0, 1, 2, 7, 8, 9, 10], out := [0, 1, 2, 7, 8, 9], res := [6], own := [(7, 1), (9, 1)], full := false })]),
  (10, [(4, { keep := [0, 1, 5], out := [], res := [4], own := [], full := false })]),
  (12, [(2, { keep := [0, 3], out := [3], res := [2], own := [(3, 1)], full := false }), (10, { keep := [0, 3, 4, 5, 7, 8, 9], out := [0, 3, 5, 7], res := [2], own := [(3, 1)], full := false })]),
  (13, [(4, { keep := [0, 1, 5], out := [], res := [4], own := [], full := false })]),
  (15, [(5, { keep := [3, 4, 5, 6], out := [4, 5], res := [2], own := [(4, 2)], full := false })]),
  (17, [(4, { keep := [1, 4, 5, 6, 7], out := [4, 5], res := [4], own := [], full := true })]),
  (18, [(7, { keep := [1, 4, 7, 8, 9], out := [4, 8], res := [2, 3], own := [], full := false })]),
  (21, [(1, { keep := [0, 1, 4, 5], out := [], res := [], own := [], full := true })]),
  (25, [(8, { keep := [0, 2, 5, 6, 7], out := [0, 2, 5, 6], res := [2, 3, 4], own := [], full := false }), (12, { keep := [0, 2, 5, 6, 8], out := [2], res := [2, 3, 4], own := [], full := false }), (18, { keep := [0, 2, 5, 6, 8, 9, 10, 11], out := [0, 2, 5, 6, 8, 9], res := [2, 3, 4], own := [], full := false })]),
  (26, [(4, { keep := [0, 3, 4, 5], out := [3], res := [2], own := [(3, 1)], full := false })]),
  (37, [(6, { keep := [1, 6, 7], out := [], res := [2], own := [], full := false })]),
  (38, [(5, { keep := [0, 1, 4, 7, 8, 9, 10, 11], out := [4], res := [4, 5, 6], own := [], full := false })]),
  (39, [(3, { keep := [0, 3, 4], out := [3], res := [2], own := [], full := false })]),
  (42, [(6, { keep := [2, 3, 5, 33, 34, 35], out := [2, 3, 5], res := [2, 3, 4], own := [], full := false }), (11, { keep := [2, 3, 5, 46, 47], out := [2], res := [2, 3, 4], own := [], full := false }), (16, { keep := [2, 3, 5, 9, 46, 47, 57, 58, 59], out := [2, 3, 5, 9, 46, 47], res := [2, 3, 4], own := [], full := false })]),
  (43, [(3, { keep := [1, 3, 9, 10, 11], out := [1, 3], res := [2], own := [(3, 1)], full := false })]),
  (47, [(2, { keep := [0, 3], out := [], res := [2], own := [], full := false })]),
  (57, [(7, { keep := [1, 4, 26, 27, 28], out := [4], res := [2, 3], own := [], full := false })]),
  (71, [(4, { keep := [0, 6], out := [], res := [2, 3, 4, 5], own := [], full := false }), (7, { keep := [0, 6, 7], out := [0, 6], res := [2, 3, 4, 5], own := [], full := false })]),
  (76, [(3, { keep := [0, 1, 2, 7, 8], out := [7], res := [6], own := [], full := false })]),
  (93, [(3, { keep := [0, 1, 2, 7, 8], out := [7], res := [6], own := [], full := false })]),
  (99, [(2, { keep := [0, 8, 9, 10], out := [], res := [2, 3, 4, 5], own := [], full := false })]),
  (110, [(2, { keep := [0, 1, 6], out := [], res := [4], own := [], full := false })])]
def kdT : List (Nat × List Nat) := [(28, [1]), (31, [102]), (38, [0, 101])]
def extT : List (Nat × (List AV → Heap → Option (AV × Heap))) := [(24, (cloneO 1 16)), (32, (cloneO 2 32)), (44, itoaX), (58, (cloneV 8)), (59, fieldsX), (63, joinX), (86, containsX), (98, fitsX)]
def G : Cfg := { ext := fun f => get f extT, an := fun f r => ((get f anT).bind (get r)).getD {}, kd := fun t => (get t kdT).getD [], own := fun f => [11, 14, 17, 21, 30].contains f }
def isa_size_e (r : Int) : AV × Heap := (.sc (.int .i64 r), [])
def isa_size_b  (a0 : Int) : Option Int := (bif (decide ((shrI .u8 a0 (4 : Int)) < (8 : Int))) then (bif ((andI .u8 (shrI .u8 a0 (4 : Int)) (1 : Int)) == (1 : Int)) then (some (4 : Int)) else (some (2 : Int))) else (some (2 : Int)))
def isa_size_t (P : Program) (call : CallF)  (a0 : Int) : Tr Int (AV × Heap) := (.yes (decide (0 ≤ (4 : Int))) (.as (decide ((shrI .u8 a0 (4 : Int)) < (8 : Int))) (.yes (decide ((shrI .u8 a0 (4 : Int)) < (8 : Int))) (.yes (decide (0 ≤ (4 : Int))) (yesN 3 (decide ((shrI .u8 a0 (4 : Int)) < (8 : Int))) (.as ((andI .u8 (shrI .u8 a0 (4 : Int)) (1 : Int)) == (1 : Int)) (rt isa_size_e (4 : Int)) (rt isa_size_e (2 : Int)))))) (noN 4 (decide ((shrI .u8 a0 (4 : Int)) < (8 : Int))) (.no false (rt isa_size_e (2 : Int))))))
theorem isa_size_n (call : CallF)  (a0 : Int) : (isa_size_t Tryz.prog call  a0).norm (bodyT Tryz.prog call G 51 [.sc (.int .u8 a0)] []) = isa_size_t Tryz.prog call  a0 := by kernel_rfl
theorem isa_size_k (P : Program) (call : CallF) (lp : Loops)   (a0 : Int) : (isa_size_t P call  a0).ok lp isa_size_e := ⟨rfl, ⟨rfl, fun hq0 => ⟨hq0, ⟨rfl, yesN_ok 3 (hq0) (⟨rfl, fun hq1 => rfl, fun hq1 => rfl⟩)⟩⟩, fun hq0 => noN_ok 4 (hq0) (⟨rfl, rfl⟩)⟩⟩
def isa_size.s : Nat → Int → Option Int
  | 0, _ => none
  | k + 1, a0 => isa_size_b  a0
theorem isa_size.ok : ∀ (k : Nat), ∀ (a0 : Int) (r : Int), isa_size.s k a0 = some r → evalFn Tryz.prog G k 51 [.sc (.int .u8 a0)] [] = some (isa_size_e r)
  | 0, _, _, h => (nomatch h)
  | k + 1, a0, r, h => fn_ok rfl (isa_size_t Tryz.prog (evalFn Tryz.prog G k)  a0) (isa_size_n _  a0) (isa_size_k _ _ _    a0) h
theorem isa_size.mono : ∀ (k : Nat) (a0 : Int), Le (isa_size.s k a0) (isa_size.s (k + 1) a0)
  | 0, _ => fun r h => (nomatch h)
  | k + 1, a0 => .refl _
noncomputable def isa_size (a0 : Int) : Option Int := lim fun k => isa_size.s k a0
theorem isa_size.cv (a0 : Int) : Cv (fun k => isa_size.s k a0) (isa_size a0) := .lim fun k => isa_size.mono k a0
theorem isa_size.eq (a0 : Int) : isa_size a0 = isa_size_b  a0 := Cv.uniq (isa_size.cv a0).shift (by exact .const _)
def isa_table_e (r : (List T_isa_row)) : AV × Heap := (.sl (R_isa_row r), [])
def isa_table_b   : Option (List T_isa_row) := (some [(T_isa_row.mk s_se_illegal (0 : Int) s_), (T_isa_row.mk s_se_isync (1 : Int) s_), (T_isa_row.mk s_se_sc (2 : Int) s_), (T_isa_row.mk s_se_blr (4 : Int) s_), (T_isa_row.mk s_se_bctr (6 : Int) s_), (T_isa_row.mk s_se_not (32 : Int) s_X), (T_isa_row.mk s_se_neg (48 : Int) s_X), (T_isa_row.mk s_se_mflr (128 : Int) s_X), (T_isa_row.mk s_se_mtlr (144 : Int) s_X), (T_isa_row.mk s_se_mfctr (160 : Int) s_X), (T_isa_row.mk s_se_mtctr (176 : Int) s_X), (T_isa_row.mk s_se_extzb (192 : Int) s_X), (T_isa_row.mk s_se_extsb (208 : Int) s_X), (T_isa_row.mk s_se_extzh (224 : Int) s_X), (T_isa_row.mk s_se_extsh (240 : Int) s_X), (T_isa_row.mk s_se_mr (256 : Int) h_582059), (T_isa_row.mk s_se_add (1024 : Int) h_582059), (T_isa_row.mk s_se_mullw (1280 : Int) h_582059), (T_isa_row.mk s_se_sub (1536 : Int) h_582059), (T_isa_row.mk s_se_cmp (3072 : Int) h_582059), (T_isa_row.mk s_se_cmpl (3328 : Int) h_582059), (T_isa_row.mk s_se_addi (8192 : Int) h_58204f35), (T_isa_row.mk s_se_cmpli (8704 : Int) h_58204f35), (T_isa_row.mk s_se_subi (9216 : Int) h_58204f35), (T_isa_row.mk s_se_cmpi (10752 : Int) h_58205535), (T_isa_row.mk s_se_or (17408 : Int) h_582059), (T_isa_row.mk s_se_andc (17664 : Int) h_582059), (T_isa_row.mk s_se_and (17920 : Int) h_582059), (T_isa_row.mk s_se_li (18432 : Int) h_58205537), (T_isa_row.mk s_se_bclri (24576 : Int) h_58205535), (T_isa_row.mk s_se_bseti (25600 : Int) h_58205535), (T_isa_row.mk s_se_btsti (26112 : Int) h_58205535), (T_isa_row.mk s_se_srwi (26624 : Int) h_58205535), (T_isa_row.mk s_se_slwi (27648 : Int) h_58205535), (T_isa_row.mk s_se_lbz (32768 : Int) h_59204d312058), (T_isa_row.mk s_se_stb (36864 : Int) h_59204d312058), (T_isa_row.mk s_se_lhz (40960 : Int) h_59204d322058), (T_isa_row.mk s_se_sth (45056 : Int) h_59204d322058), (T_isa_row.mk s_se_lwz (49152 : Int) h_59204d342058), (T_isa_row.mk s_se_stw (53248 : Int) h_59204d342058), (T_isa_row.mk s_se_bc (57344 : Int) h_4f31204932205438), (T_isa_row.mk s_se_b (59392 : Int) s_T8), (T_isa_row.mk s_se_bl (59648 : Int) s_T8), (T_isa_row.mk s_e_add16i (469762048 : Int) h_44204120533136), (T_isa_row.mk s_e_addi (402685952 : Int) h_442041204338), (T_isa_row.mk s_e_andi (402702336 : Int) h_412044204338), (T_isa_row.mk s_e_ori (402706432 : Int) h_412044204338), (T_isa_row.mk s_e_xori (402710528 : Int) h_412044204338), (T_isa_row.mk s_e_li (1879048192 : Int) h_44204c3230), (T_isa_row.mk s_e_lbz (805306368 : Int) h_44205331362041), (T_isa_row.mk s_e_stb (872415232 : Int) h_44205331362041), (T_isa_row.mk s_e_lha (939524096 : Int) h_44205331362041), (T_isa_row.mk s_e_lwz (1342177280 : Int) h_44205331362041), (T_isa_row.mk s_e_stw (1409286144 : Int) h_44205331362041), (T_isa_row.mk s_e_lhz (1476395008 : Int) h_44205331362041), (T_isa_row.mk s_e_sth (1543503872 : Int) h_44205331362041), (T_isa_row.mk s_e_b (2013265920 : Int) s_T24), (T_isa_row.mk s_e_bl (2013265921 : Int) s_T24), (T_isa_row.mk s_e_bc (2046820352 : Int) h_4f3220493420543135), (T_isa_row.mk s_e_bcl (2046820353 : Int) h_4f3220493420543135), (T_isa_row.mk s_add (2080375316 : Int) h_4420412042), (T_isa_row.mk s_subf (2080374864 : Int) h_4420412042), (T_isa_row.mk s_mullw (2080375254 : Int) h_4420412042), (T_isa_row.mk s_and (2080374840 : Int) h_4120442042), (T_isa_row.mk s_or (2080375672 : Int) h_4120442042), (T_isa_row.mk s_xor (2080375416 : Int) h_4120442042)])
def isa_table_t (P : Program) (call : CallF)   : Tr (List T_isa_row) (AV × Heap) := (.rows [[.sc (.string s_se_illegal), .sc (.int .u32 (0 : Int)), .sc (.string s_)], [.sc (.string s_se_isync), .sc (.int .u32 (1 : Int)), .sc (.string s_)], [.sc (.string s_se_sc), .sc (.int .u32 (2 : Int)), .sc (.string s_)], [.sc (.string s_se_blr), .sc (.int .u32 (4 : Int)), .sc (.string s_)], [.sc (.string s_se_bctr), .sc (.int .u32 (6 : Int)), .sc (.string s_)], [.sc (.string s_se_not), .sc (.int .u32 (32 : Int)), .sc (.string s_X)], [.sc (.string s_se_neg), .sc (.int .u32 (48 : Int)), .sc (.string s_X)], [.sc (.string s_se_mflr), .sc (.int .u32 (128 : Int)), .sc (.string s_X)], [.sc (.string s_se_mtlr), .sc (.int .u32 (144 : Int)), .sc (.string s_X)], [.sc (.string s_se_mfctr), .sc (.int .u32 (160 : Int)), .sc (.string s_X)], [.sc (.string s_se_mtctr), .sc (.int .u32 (176 : Int)), .sc (.string s_X)], [.sc (.string s_se_extzb), .sc (.int .u32 (192 : Int)), .sc (.string s_X)], [.sc (.string s_se_extsb), .sc (.int .u32 (208 : Int)), .sc (.string s_X)], [.sc (.string s_se_extzh), .sc (.int .u32 (224 : Int)), .sc (.string s_X)], [.sc (.string s_se_extsh), .sc (.int .u32 (240 : Int)), .sc (.string s_X)], [.sc (.string s_se_mr), .sc (.int .u32 (256 : Int)), .sc (.string h_582059)], [.sc (.string s_se_add), .sc (.int .u32 (1024 : Int)), .sc (.string h_582059)], [.sc (.string s_se_mullw), .sc (.int .u32 (1280 : Int)), .sc (.string h_582059)], [.sc (.string s_se_sub), .sc (.int .u32 (1536 : Int)), .sc (.string h_582059)], [.sc (.string s_se_cmp), .sc (.int .u32 (3072 : Int)), .sc (.string h_582059)], [.sc (.string s_se_cmpl), .sc (.int .u32 (3328 : Int)), .sc (.string h_582059)], [.sc (.string s_se_addi), .sc (.int .u32 (8192 : Int)), .sc (.string h_58204f35)], [.sc (.string s_se_cmpli), .sc (.int .u32 (8704 : Int)), .sc (.string h_58204f35)], [.sc (.string s_se_subi), .sc (.int .u32 (9216 : Int)), .sc (.string h_58204f35)], [.sc (.string s_se_cmpi), .sc (.int .u32 (10752 : Int)), .sc (.string h_58205535)], [.sc (.string s_se_or), .sc (.int .u32 (17408 : Int)), .sc (.string h_582059)], [.sc (.string s_se_andc), .sc (.int .u32 (17664 : Int)), .sc (.string h_582059)], [.sc (.string s_se_and), .sc (.int .u32 (17920 : Int)), .sc (.string h_582059)], [.sc (.string s_se_li), .sc (.int .u32 (18432 : Int)), .sc (.string h_58205537)], [.sc (.string s_se_bclri), .sc (.int .u32 (24576 : Int)), .sc (.string h_58205535)], [.sc (.string s_se_bseti), .sc (.int .u32 (25600 : Int)), .sc (.string h_58205535)], [.sc (.string s_se_btsti), .sc (.int .u32 (26112 : Int)), .sc (.string h_58205535)], [.sc (.string s_se_srwi), .sc (.int .u32 (26624 : Int)), .sc (.string h_58205535)], [.sc (.string s_se_slwi), .sc (.int .u32 (27648 : Int)), .sc (.string h_58205535)], [.sc (.string s_se_lbz), .sc (.int .u32 (32768 : Int)), .sc (.string h_59204d312058)], [.sc (.string s_se_stb), .sc (.int .u32 (36864 : Int)), .sc (.string h_59204d312058)], [.sc (.string s_se_lhz), .sc (.int .u32 (40960 : Int)), .sc (.string h_59204d322058)], [.sc (.string s_se_sth), .sc (.int .u32 (45056 : Int)), .sc (.string h_59204d322058)], [.sc (.string s_se_lwz), .sc (.int .u32 (49152 : Int)), .sc (.string h_59204d342058)], [.sc (.string s_se_stw), .sc (.int .u32 (53248 : Int)), .sc (.string h_59204d342058)], [.sc (.string s_se_bc), .sc (.int .u32 (57344 : Int)), .sc (.string h_4f31204932205438)], [.sc (.string s_se_b), .sc (.int .u32 (59392 : Int)), .sc (.string s_T8)], [.sc (.string s_se_bl), .sc (.int .u32 (59648 : Int)), .sc (.string s_T8)], [.sc (.string s_e_add16i), .sc (.int .u32 (469762048 : Int)), .sc (.string h_44204120533136)], [.sc (.string s_e_addi), .sc (.int .u32 (402685952 : Int)), .sc (.string h_442041204338)], [.sc (.string s_e_andi), .sc (.int .u32 (402702336 : Int)), .sc (.string h_412044204338)], [.sc (.string s_e_ori), .sc (.int .u32 (402706432 : Int)), .sc (.string h_412044204338)], [.sc (.string s_e_xori), .sc (.int .u32 (402710528 : Int)), .sc (.string h_412044204338)], [.sc (.string s_e_li), .sc (.int .u32 (1879048192 : Int)), .sc (.string h_44204c3230)], [.sc (.string s_e_lbz), .sc (.int .u32 (805306368 : Int)), .sc (.string h_44205331362041)], [.sc (.string s_e_stb), .sc (.int .u32 (872415232 : Int)), .sc (.string h_44205331362041)], [.sc (.string s_e_lha), .sc (.int .u32 (939524096 : Int)), .sc (.string h_44205331362041)], [.sc (.string s_e_lwz), .sc (.int .u32 (1342177280 : Int)), .sc (.string h_44205331362041)], [.sc (.string s_e_stw), .sc (.int .u32 (1409286144 : Int)), .sc (.string h_44205331362041)], [.sc (.string s_e_lhz), .sc (.int .u32 (1476395008 : Int)), .sc (.string h_44205331362041)], [.sc (.string s_e_sth), .sc (.int .u32 (1543503872 : Int)), .sc (.string h_44205331362041)], [.sc (.string s_e_b), .sc (.int .u32 (2013265920 : Int)), .sc (.string s_T24)], [.sc (.string s_e_bl), .sc (.int .u32 (2013265921 : Int)), .sc (.string s_T24)], [.sc (.string s_e_bc), .sc (.int .u32 (2046820352 : Int)), .sc (.string h_4f3220493420543135)], [.sc (.string s_e_bcl), .sc (.int .u32 (2046820353 : Int)), .sc (.string h_4f3220493420543135)], [.sc (.string s_add), .sc (.int .u32 (2080375316 : Int)), .sc (.string h_4420412042)], [.sc (.string s_subf), .sc (.int .u32 (2080374864 : Int)), .sc (.string h_4420412042)], [.sc (.string s_mullw), .sc (.int .u32 (2080375254 : Int)), .sc (.string h_4420412042)], [.sc (.string s_and), .sc (.int .u32 (2080374840 : Int)), .sc (.string h_4120442042)], [.sc (.string s_or), .sc (.int .u32 (2080375672 : Int)), .sc (.string h_4120442042)], [.sc (.string s_xor), .sc (.int .u32 (2080375416 : Int)), .sc (.string h_4120442042)]] (R_isa_row [(T_isa_row.mk s_se_illegal (0 : Int) s_), (T_isa_row.mk s_se_isync (1 : Int) s_), (T_isa_row.mk s_se_sc (2 : Int) s_), (T_isa_row.mk s_se_blr (4 : Int) s_), (T_isa_row.mk s_se_bctr (6 : Int) s_), (T_isa_row.mk s_se_not (32 : Int) s_X), (T_isa_row.mk s_se_neg (48 : Int) s_X), (T_isa_row.mk s_se_mflr (128 : Int) s_X), (T_isa_row.mk s_se_mtlr (144 : Int) s_X), (T_isa_row.mk s_se_mfctr (160 : Int) s_X), (T_isa_row.mk s_se_mtctr (176 : Int) s_X), (T_isa_row.mk s_se_extzb (192 : Int) s_X), (T_isa_row.mk s_se_extsb (208 : Int) s_X), (T_isa_row.mk s_se_extzh (224 : Int) s_X), (T_isa_row.mk s_se_extsh (240 : Int) s_X), (T_isa_row.mk s_se_mr (256 : Int) h_582059), (T_isa_row.mk s_se_add (1024 : Int) h_582059), (T_isa_row.mk s_se_mullw (1280 : Int) h_582059), (T_isa_row.mk s_se_sub (1536 : Int) h_582059), (T_isa_row.mk s_se_cmp (3072 : Int) h_582059), (T_isa_row.mk s_se_cmpl (3328 : Int) h_582059), (T_isa_row.mk s_se_addi (8192 : Int) h_58204f35), (T_isa_row.mk s_se_cmpli (8704 : Int) h_58204f35), (T_isa_row.mk s_se_subi (9216 : Int) h_58204f35), (T_isa_row.mk s_se_cmpi (10752 : Int) h_58205535), (T_isa_row.mk s_se_or (17408 : Int) h_582059), (T_isa_row.mk s_se_andc (17664 : Int) h_582059), (T_isa_row.mk s_se_and (17920 : Int) h_582059), (T_isa_row.mk s_se_li (18432 : Int) h_58205537), (T_isa_row.mk s_se_bclri (24576 : Int) h_58205535), (T_isa_row.mk s_se_bseti (25600 : Int) h_58205535), (T_isa_row.mk s_se_btsti (26112 : Int) h_58205535), (T_isa_row.mk s_se_srwi (26624 : Int) h_58205535), (T_isa_row.mk s_se_slwi (27648 : Int) h_58205535), (T_isa_row.mk s_se_lbz (32768 : Int) h_59204d312058), (T_isa_row.mk s_se_stb (36864 : Int) h_59204d312058), (T_isa_row.mk s_se_lhz (40960 : Int) h_59204d322058), (T_isa_row.mk s_se_sth (45056 : Int) h_59204d322058), (T_isa_row.mk s_se_lwz (49152 : Int) h_59204d342058), (T_isa_row.mk s_se_stw (53248 : Int) h_59204d342058), (T_isa_row.mk s_se_bc (57344 : Int) h_4f31204932205438), (T_isa_row.mk s_se_b (59392 : Int) s_T8), (T_isa_row.mk s_se_bl (59648 : Int) s_T8), (T_isa_row.mk s_e_add16i (469762048 : Int) h_44204120533136), (T_isa_row.mk s_e_addi (402685952 : Int) h_442041204338), (T_isa_row.mk s_e_andi (402702336 : Int) h_412044204338), (T_isa_row.mk s_e_ori (402706432 : Int) h_412044204338), (T_isa_row.mk s_e_xori (402710528 : Int) h_412044204338), (T_isa_row.mk s_e_li (1879048192 : Int) h_44204c3230), (T_isa_row.mk s_e_lbz (805306368 : Int) h_44205331362041), (T_isa_row.mk s_e_stb (872415232 : Int) h_44205331362041), (T_isa_row.mk s_e_lha (939524096 : Int) h_44205331362041), (T_isa_row.mk s_e_lwz (1342177280 : Int) h_44205331362041), (T_isa_row.mk s_e_stw (1409286144 : Int) h_44205331362041), (T_isa_row.mk s_e_lhz (1476395008 : Int) h_44205331362041), (T_isa_row.mk s_e_sth (1543503872 : Int) h_44205331362041), (T_isa_row.mk s_e_b (2013265920 : Int) s_T24), (T_isa_row.mk s_e_bl (2013265921 : Int) s_T24), (T_isa_row.mk s_e_bc (2046820352 : Int) h_4f3220493420543135), (T_isa_row.mk s_e_bcl (2046820353 : Int) h_4f3220493420543135), (T_isa_row.mk s_add (2080375316 : Int) h_4420412042), (T_isa_row.mk s_subf (2080374864 : Int) h_4420412042), (T_isa_row.mk s_mullw (2080375254 : Int) h_4420412042), (T_isa_row.mk s_and (2080374840 : Int) h_4120442042), (T_isa_row.mk s_or (2080375672 : Int) h_4120442042), (T_isa_row.mk s_xor (2080375416 : Int) h_4120442042)]) (rt isa_table_e [(T_isa_row.mk s_se_illegal (0 : Int) s_), (T_isa_row.mk s_se_isync (1 : Int) s_), (T_isa_row.mk s_se_sc (2 : Int) s_), (T_isa_row.mk s_se_blr (4 : Int) s_), (T_isa_row.mk s_se_bctr (6 : Int) s_), (T_isa_row.mk s_se_not (32 : Int) s_X), (T_isa_row.mk s_se_neg (48 : Int) s_X), (T_isa_row.mk s_se_mflr (128 : Int) s_X), (T_isa_row.mk s_se_mtlr (144 : Int) s_X), (T_isa_row.mk s_se_mfctr (160 : Int) s_X), (T_isa_row.mk s_se_mtctr (176 : Int) s_X), (T_isa_row.mk s_se_extzb (192 : Int) s_X), (T_isa_row.mk s_se_extsb (208 : Int) s_X), (T_isa_row.mk s_se_extzh (224 : Int) s_X), (T_isa_row.mk s_se_extsh (240 : Int) s_X), (T_isa_row.mk s_se_mr (256 : Int) h_582059), (T_isa_row.mk s_se_add (1024 : Int) h_582059), (T_isa_row.mk s_se_mullw (1280 : Int) h_582059), (T_isa_row.mk s_se_sub (1536 : Int) h_582059), (T_isa_row.mk s_se_cmp (3072 : Int) h_582059), (T_isa_row.mk s_se_cmpl (3328 : Int) h_582059), (T_isa_row.mk s_se_addi (8192 : Int) h_58204f35), (T_isa_row.mk s_se_cmpli (8704 : Int) h_58204f35), (T_isa_row.mk s_se_subi (9216 : Int) h_58204f35), (T_isa_row.mk s_se_cmpi (10752 : Int) h_58205535), (T_isa_row.mk s_se_or (17408 : Int) h_582059), (T_isa_row.mk s_se_andc (17664 : Int) h_582059), (T_isa_row.mk s_se_and (17920 : Int) h_582059), (T_isa_row.mk s_se_li (18432 : Int) h_58205537), (T_isa_row.mk s_se_bclri (24576 : Int) h_58205535), (T_isa_row.mk s_se_bseti (25600 : Int) h_58205535), (T_isa_row.mk s_se_btsti (26112 : Int) h_58205535), (T_isa_row.mk s_se_srwi (26624 : Int) h_58205535), (T_isa_row.mk s_se_slwi (27648 : Int) h_58205535), (T_isa_row.mk s_se_lbz (32768 : Int) h_59204d312058), (T_isa_row.mk s_se_stb (36864 : Int) h_59204d312058), (T_isa_row.mk s_se_lhz (40960 : Int) h_59204d322058), (T_isa_row.mk s_se_sth (45056 : Int) h_59204d322058), (T_isa_row.mk s_se_lwz (49152 : Int) h_59204d342058), (T_isa_row.mk s_se_stw (53248 : Int) h_59204d342058), (T_isa_row.mk s_se_bc (57344 : Int) h_4f31204932205438), (T_isa_row.mk s_se_b (59392 : Int) s_T8), (T_isa_row.mk s_se_bl (59648 : Int) s_T8), (T_isa_row.mk s_e_add16i (469762048 : Int) h_44204120533136), (T_isa_row.mk s_e_addi (402685952 : Int) h_442041204338), (T_isa_row.mk s_e_andi (402702336 : Int) h_412044204338), (T_isa_row.mk s_e_ori (402706432 : Int) h_412044204338), (T_isa_row.mk s_e_xori (402710528 : Int) h_412044204338), (T_isa_row.mk s_e_li (1879048192 : Int) h_44204c3230), (T_isa_row.mk s_e_lbz (805306368 : Int) h_44205331362041), (T_isa_row.mk s_e_stb (872415232 : Int) h_44205331362041), (T_isa_row.mk s_e_lha (939524096 : Int) h_44205331362041), (T_isa_row.mk s_e_lwz (1342177280 : Int) h_44205331362041), (T_isa_row.mk s_e_stw (1409286144 : Int) h_44205331362041), (T_isa_row.mk s_e_lhz (1476395008 : Int) h_44205331362041), (T_isa_row.mk s_e_sth (1543503872 : Int) h_44205331362041), (T_isa_row.mk s_e_b (2013265920 : Int) s_T24), (T_isa_row.mk s_e_bl (2013265921 : Int) s_T24), (T_isa_row.mk s_e_bc (2046820352 : Int) h_4f3220493420543135), (T_isa_row.mk s_e_bcl (2046820353 : Int) h_4f3220493420543135), (T_isa_row.mk s_add (2080375316 : Int) h_4420412042), (T_isa_row.mk s_subf (2080374864 : Int) h_4420412042), (T_isa_row.mk s_mullw (2080375254 : Int) h_4420412042), (T_isa_row.mk s_and (2080374840 : Int) h_4120442042), (T_isa_row.mk s_or (2080375672 : Int) h_4120442042), (T_isa_row.mk s_xor (2080375416 : Int) h_4120442042)]))
theorem isa_table_n (call : CallF)   : (isa_table_t Tryz.prog call  ).norm (bodyT Tryz.prog call G 52 [] []) = isa_table_t Tryz.prog call   := by kernel_rfl
theorem isa_table_k (P : Program) (call : CallF) (lp : Loops)    : (isa_table_t P call  ).ok lp isa_table_e := ⟨(R_isa_row_map [(T_isa_row.mk s_se_illegal (0 : Int) s_), (T_isa_row.mk s_se_isync (1 : Int) s_), (T_isa_row.mk s_se_sc (2 : Int) s_), (T_isa_row.mk s_se_blr (4 : Int) s_), (T_isa_row.mk s_se_bctr (6 : Int) s_), (T_isa_row.mk s_se_not (32 : Int) s_X), (T_isa_row.mk s_se_neg (48 : Int) s_X), (T_isa_row.mk s_se_mflr (128 : Int) s_X), (T_isa_row.mk s_se_mtlr (144 : Int) s_X), (T_isa_row.mk s_se_mfctr (160 : Int) s_X), (T_isa_row.mk s_se_mtctr (176 : Int) s_X), (T_isa_row.mk s_se_extzb (192 : Int) s_X), (T_isa_row.mk s_se_extsb (208 : Int) s_X), (T_isa_row.mk s_se_extzh (224 : Int) s_X), (T_isa_row.mk s_se_extsh (240 : Int) s_X), (T_isa_row.mk s_se_mr (256 : Int) h_582059), (T_isa_row.mk s_se_add (1024 : Int) h_582059), (T_isa_row.mk s_se_mullw (1280 : Int) h_582059), (T_isa_row.mk s_se_sub (1536 : Int) h_582059), (T_isa_row.mk s_se_cmp (3072 : Int) h_582059), (T_isa_row.mk s_se_cmpl (3328 : Int) h_582059), (T_isa_row.mk s_se_addi (8192 : Int) h_58204f35), (T_isa_row.mk s_se_cmpli (8704 : Int) h_58204f35), (T_isa_row.mk s_se_subi (9216 : Int) h_58204f35), (T_isa_row.mk s_se_cmpi (10752 : Int) h_58205535), (T_isa_row.mk s_se_or (17408 : Int) h_582059), (T_isa_row.mk s_se_andc (17664 : Int) h_582059), (T_isa_row.mk s_se_and (17920 : Int) h_582059), (T_isa_row.mk s_se_li (18432 : Int) h_58205537), (T_isa_row.mk s_se_bclri (24576 : Int) h_58205535), (T_isa_row.mk s_se_bseti (25600 : Int) h_58205535), (T_isa_row.mk s_se_btsti (26112 : Int) h_58205535), (T_isa_row.mk s_se_srwi (26624 : Int) h_58205535), (T_isa_row.mk s_se_slwi (27648 : Int) h_58205535), (T_isa_row.mk s_se_lbz (32768 : Int) h_59204d312058), (T_isa_row.mk s_se_stb (36864 : Int) h_59204d312058), (T_isa_row.mk s_se_lhz (40960 : Int) h_59204d322058), (T_isa_row.mk s_se_sth (45056 : Int) h_59204d322058), (T_isa_row.mk s_se_lwz (49152 : Int) h_59204d342058), (T_isa_row.mk s_se_stw (53248 : Int) h_59204d342058), (T_isa_row.mk s_se_bc (57344 : Int) h_4f31204932205438), (T_isa_row.mk s_se_b (59392 : Int) s_T8), (T_isa_row.mk s_se_bl (59648 : Int) s_T8), (T_isa_row.mk s_e_add16i (469762048 : Int) h_44204120533136), (T_isa_row.mk s_e_addi (402685952 : Int) h_442041204338), (T_isa_row.mk s_e_andi (402702336 : Int) h_412044204338), (T_isa_row.mk s_e_ori (402706432 : Int) h_412044204338), (T_isa_row.mk s_e_xori (402710528 : Int) h_412044204338), (T_isa_row.mk s_e_li (1879048192 : Int) h_44204c3230), (T_isa_row.mk s_e_lbz (805306368 : Int) h_44205331362041), (T_isa_row.mk s_e_stb (872415232 : Int) h_44205331362041), (T_isa_row.mk s_e_lha (939524096 : Int) h_44205331362041), (T_isa_row.mk s_e_lwz (1342177280 : Int) h_44205331362041), (T_isa_row.mk s_e_stw (1409286144 : Int) h_44205331362041), (T_isa_row.mk s_e_lhz (1476395008 : Int) h_44205331362041), (T_isa_row.mk s_e_sth (1543503872 : Int) h_44205331362041), (T_isa_row.mk s_e_b (2013265920 : Int) s_T24), (T_isa_row.mk s_e_bl (2013265921 : Int) s_T24), (T_isa_row.mk s_e_bc (2046820352 : Int) h_4f3220493420543135), (T_isa_row.mk s_e_bcl (2046820353 : Int) h_4f3220493420543135), (T_isa_row.mk s_add (2080375316 : Int) h_4420412042), (T_isa_row.mk s_subf (2080374864 : Int) h_4420412042), (T_isa_row.mk s_mullw (2080375254 : Int) h_4420412042), (T_isa_row.mk s_and (2080374840 : Int) h_4120442042), (T_isa_row.mk s_or (2080375672 : Int) h_4120442042), (T_isa_row.mk s_xor (2080375416 : Int) h_4120442042)]), rfl⟩
def isa_table.s : Nat → Option (List T_isa_row)
  | 0 => none
  | k + 1 => isa_table_b  
theorem isa_table.ok : ∀ (k : Nat), ∀  (r : (List T_isa_row)), isa_table.s k  = some r → evalFn Tryz.prog G k 52 [] [] = some (isa_table_e r)
  | 0, _, h => (nomatch h)
  | k + 1, r, h => fn_ok rfl (isa_table_t Tryz.prog (evalFn Tryz.prog G k)  ) (isa_table_n _  ) (isa_table_k _ _ _    ) h
theorem isa_table.mono : ∀ (k : Nat), Le (isa_table.s k ) (isa_table.s (k + 1) )
  | 0 => fun r h => (nomatch h)
  | k + 1 => .refl _
noncomputable def isa_table  : Option (List T_isa_row) := lim fun k => isa_table.s k 
theorem isa_table.cv  : Cv (fun k => isa_table.s k ) (isa_table ) := .lim fun k => isa_table.mono k 
theorem isa_table.eq  : isa_table  = isa_table_b   := Cv.uniq (isa_table.cv ).shift (by exact .const _)
def isa_row_title_e (r : ByteArray) : AV × Heap := (.sc (.string r), [])
def isa_row_title_b  (a0 : T_isa_row) : Option ByteArray := (some a0.name)
def isa_row_title_t (P : Program) (call : CallF)  (a0 : T_isa_row) : Tr ByteArray (AV × Heap) := (rt isa_row_title_e a0.name)
theorem isa_row_title_n (call : CallF)  (a0 : T_isa_row) : (isa_row_title_t Tryz.prog call  a0).norm (bodyT Tryz.prog call G 87 [.agg (C_isa_row a0)] []) = isa_row_title_t Tryz.prog call  a0 := by kernel_rfl
theorem isa_row_title_k (P : Program) (call : CallF) (lp : Loops)   (a0 : T_isa_row) : (isa_row_title_t P call  a0).ok lp isa_row_title_e := rfl
def isa_row_title.s : Nat → T_isa_row → Option ByteArray
  | 0, _ => none
  | k + 1, a0 => isa_row_title_b  a0
theorem isa_row_title.ok : ∀ (k : Nat), ∀ (a0 : T_isa_row) (r : ByteArray), isa_row_title.s k a0 = some r → evalFn Tryz.prog G k 87 [.agg (C_isa_row a0)] [] = some (isa_row_title_e r)
  | 0, _, _, h => (nomatch h)
  | k + 1, a0, r, h => fn_ok rfl (isa_row_title_t Tryz.prog (evalFn Tryz.prog G k)  a0) (isa_row_title_n _  a0) (isa_row_title_k _ _ _    a0) h
theorem isa_row_title.mono : ∀ (k : Nat) (a0 : T_isa_row), Le (isa_row_title.s k a0) (isa_row_title.s (k + 1) a0)
  | 0, _ => fun r h => (nomatch h)
  | k + 1, a0 => .refl _
noncomputable def isa_row_title (a0 : T_isa_row) : Option ByteArray := lim fun k => isa_row_title.s k a0
theorem isa_row_title.cv (a0 : T_isa_row) : Cv (fun k => isa_row_title.s k a0) (isa_row_title a0) := .lim fun k => isa_row_title.mono k a0
theorem isa_row_title.eq (a0 : T_isa_row) : isa_row_title a0 = isa_row_title_b  a0 := Cv.uniq (isa_row_title.cv a0).shift (by exact .const _)
def isa_of_e (r : ByteArray) : AV × Heap := (.sc (.string r), [])
def isa_of_b (C0 : Option (List T_isa_row)) (C1 : T_isa_row → Option ByteArray) (a0 : Int) : Option ByteArray := ((C0).bind fun (r1 : (List T_isa_row)) => (bif (decide (a0 ≥ (0 : Int))) then (bif (decide (a0 < (((r1.length) : Nat) : Int))) then (bif (decide (0 ≤ a0)) then ((r1[(Int.toNat a0)]?).bind fun (e2 : T_isa_row) => ((C1 e2).bind fun (r3 : ByteArray) => (some r3))) else none) else (some s_)) else (some s_)))
def isa_of_t (P : Program) (call : CallF) (C0 : Option (List T_isa_row)) (C1 : T_isa_row → Option ByteArray) (a0 : Int) : Tr ByteArray (AV × Heap) := (.call (call 52 [] []) (C0) isa_table_e fun (r1 : (List T_isa_row)) => (.as (decide (a0 ≥ (0 : Int))) (yesN 2 (decide (a0 ≥ (0 : Int))) (.num ((R_isa_row r1).length) (r1.length) (yesN 2 (decide (a0 ≥ (0 : Int))) (.as (decide (a0 < (((r1.length) : Nat) : Int))) (.as (decide (0 ≤ a0)) (.row ((R_isa_row r1)[(Int.toNat a0)]?) (r1[(Int.toNat a0)]?) C_isa_row fun (e2 : T_isa_row) => (.call (call 87 [.agg (C_isa_row e2)] []) (C1 e2) isa_row_title_e fun (r3 : ByteArray) => (rt isa_of_e r3))) .fail) (rt isa_of_e s_))))) (noN 4 (decide (a0 ≥ (0 : Int))) (.no false (rt isa_of_e s_)))))
theorem isa_of_n (call : CallF) (C0 : Option (List T_isa_row)) (C1 : T_isa_row → Option ByteArray) (a0 : Int) : (isa_of_t Tryz.prog call C0 C1 a0).norm (bodyT Tryz.prog call G 84 [.sc (.int .i64 a0), .fn (.func 87) [] []] []) = isa_of_t Tryz.prog call C0 C1 a0 := by kernel_rfl
theorem isa_of_k (P : Program) (call : CallF) (lp : Loops) (C0 : Option (List T_isa_row)) (C1 : T_isa_row → Option ByteArray) (K0 : ∀  (r : (List T_isa_row)), C0 = some r → (call 52 [] []) = some (isa_table_e r)) (K1 : ∀ (a0 : T_isa_row) (r : ByteArray), C1 a0 = some r → (call 87 [.agg (C_isa_row a0)] []) = some (isa_row_title_e r)) (a0 : Int) : (isa_of_t P call C0 C1 a0).ok lp isa_of_e := fun r1 hr1 => ⟨K0 _ hr1, ⟨rfl, fun hq0 => yesN_ok 2 (hq0) (⟨(R_isa_row_len _), yesN_ok 2 (hq0) (⟨rfl, fun hq1 => ⟨rfl, fun hq2 => fun e2 he2 => ⟨R_isa_row_get he2, fun r3 hr3 => ⟨K1 _ _ hr3, rfl⟩⟩, fun hq2 => trivial⟩, fun hq1 => rfl⟩)⟩), fun hq0 => noN_ok 4 (hq0) (⟨rfl, rfl⟩)⟩⟩
theorem isa_of_c {C0 : Nat → Option (List T_isa_row)} {D0 : Option (List T_isa_row)} (H0 : Cv (fun k => C0 k ) (D0 )) {C1 : Nat → T_isa_row → Option ByteArray} {D1 : T_isa_row → Option ByteArray} (H1 : ∀ (a0 : T_isa_row), Cv (fun k => C1 k a0) (D1 a0)) (a0 : Int) : Cv (fun k => isa_of_b (C0 k) (C1 k) a0) (isa_of_b D0 D1 a0) := by
  unfold isa_of_b
  exact .bind (H0) fun r1 => .cond (.cond (.cond (.bind (.const (r1[(Int.toNat a0)]?)) fun e2 => .bind (H1 _) fun r3 => by exact .const _) (by exact .const _)) (by exact .const _)) (by exact .const _)
def isa_of.s : Nat → Int → Option ByteArray
  | 0, _ => none
  | k + 1, a0 => isa_of_b (isa_table.s k) (fun a0 => isa_row_title.s k a0) a0
theorem isa_of.ok : ∀ (k : Nat), ∀ (a0 : Int) (r : ByteArray), isa_of.s k a0 = some r → evalFn Tryz.prog G k 84 [.sc (.int .i64 a0), .fn (.func 87) [] []] [] = some (isa_of_e r)
  | 0, _, _, h => (nomatch h)
  | k + 1, a0, r, h => fn_ok rfl (isa_of_t Tryz.prog (evalFn Tryz.prog G k) (isa_table.s k) (fun a0 => isa_row_title.s k a0) a0) (isa_of_n _ _ _ a0) (isa_of_k _ _ _ _ _ (isa_table.ok k) (isa_row_title.ok k)  a0) h
theorem isa_of.mono : ∀ (k : Nat) (a0 : Int), Le (isa_of.s k a0) (isa_of.s (k + 1) a0)
  | 0, _ => fun r h => (nomatch h)
  | k + 1, a0 => (isa_of_c (.two (isa_table.mono k)) (fun a0 => .two ((isa_row_title.mono k) a0)) a0).1 0
noncomputable def isa_of (a0 : Int) : Option ByteArray := lim fun k => isa_of.s k a0
theorem isa_of.cv (a0 : Int) : Cv (fun k => isa_of.s k a0) (isa_of a0) := .lim fun k => isa_of.mono k a0
theorem isa_of.eq (a0 : Int) : isa_of a0 = isa_of_b isa_table isa_row_title a0 := Cv.uniq (isa_of.cv a0).shift (isa_of_c isa_table.cv isa_row_title.cv a0)
def isa_Name_e (r : ByteArray) : AV × Heap := (.sc (.string r), [])
def isa_Name_b (C0 : Int → Option ByteArray) (a0 : Int) : Option ByteArray := ((C0 a0).bind fun (r1 : ByteArray) => (some r1))
def isa_Name_t (P : Program) (call : CallF) (C0 : Int → Option ByteArray) (a0 : Int) : Tr ByteArray (AV × Heap) := (.call (call 84 [.sc (.int .i64 a0), .fn (.func 87) [] []] []) (C0 a0) isa_of_e fun (r1 : ByteArray) => (rt isa_Name_e r1))
theorem isa_Name_n (call : CallF) (C0 : Int → Option ByteArray) (a0 : Int) : (isa_Name_t Tryz.prog call C0 a0).norm (bodyT Tryz.prog call G 62 [.sc (.int .i64 a0)] []) = isa_Name_t Tryz.prog call C0 a0 := by kernel_rfl
theorem isa_Name_k (P : Program) (call : CallF) (lp : Loops) (C0 : Int → Option ByteArray) (K0 : ∀ (a0 : Int) (r : ByteArray), C0 a0 = some r → (call 84 [.sc (.int .i64 a0), .fn (.func 87) [] []] []) = some (isa_of_e r)) (a0 : Int) : (isa_Name_t P call C0 a0).ok lp isa_Name_e := fun r1 hr1 => ⟨K0 _ _ hr1, rfl⟩
theorem isa_Name_c {C0 : Nat → Int → Option ByteArray} {D0 : Int → Option ByteArray} (H0 : ∀ (a0 : Int), Cv (fun k => C0 k a0) (D0 a0)) (a0 : Int) : Cv (fun k => isa_Name_b (C0 k) a0) (isa_Name_b D0 a0) := by
  unfold isa_Name_b
  exact .bind (H0 _) fun r1 => by exact .const _
def isa_Name.s : Nat → Int → Option ByteArray
  | 0, _ => none
  | k + 1, a0 => isa_Name_b (fun a0 => isa_of.s k a0) a0
theorem isa_Name.ok : ∀ (k : Nat), ∀ (a0 : Int) (r : ByteArray), isa_Name.s k a0 = some r → evalFn Tryz.prog G k 62 [.sc (.int .i64 a0)] [] = some (isa_Name_e r)
  | 0, _, _, h => (nomatch h)
  | k + 1, a0, r, h => fn_ok rfl (isa_Name_t Tryz.prog (evalFn Tryz.prog G k) (fun a0 => isa_of.s k a0) a0) (isa_Name_n _ _ a0) (isa_Name_k _ _ _ _ (isa_of.ok k)  a0) h
theorem isa_Name.mono : ∀ (k : Nat) (a0 : Int), Le (isa_Name.s k a0) (isa_Name.s (k + 1) a0)
  | 0, _ => fun r h => (nomatch h)
  | k + 1, a0 => (isa_Name_c (fun a0 => .two ((isa_of.mono k) a0)) a0).1 0
noncomputable def isa_Name (a0 : Int) : Option ByteArray := lim fun k => isa_Name.s k a0
theorem isa_Name.cv (a0 : Int) : Cv (fun k => isa_Name.s k a0) (isa_Name a0) := .lim fun k => isa_Name.mono k a0
theorem isa_Name.eq (a0 : Int) : isa_Name a0 = isa_Name_b isa_of a0 := Cv.uniq (isa_Name.cv a0).shift (isa_Name_c isa_of.cv a0)
def isa_Size_e (r : Int) : AV × Heap := (.sc (.int .i64 r), [])
def isa_Size_b (C0 : Int → Option ByteArray) (a0 : Int) : Option Int := ((C0 a0).bind fun (r1 : ByteArray) => (bif (eqS r1 s_) then (some (0 : Int)) else (bif (decide (a0 < (43 : Int))) then (some (2 : Int)) else (some (4 : Int)))))
def isa_Size_t (P : Program) (call : CallF) (C0 : Int → Option ByteArray) (a0 : Int) : Tr Int (AV × Heap) := (.call (call 62 [.sc (.int .i64 a0)] []) (C0 a0) isa_Name_e fun (r1 : ByteArray) => (.as (eqS r1 s_) (rt isa_Size_e (0 : Int)) (.as (decide (a0 < (43 : Int))) (rt isa_Size_e (2 : Int)) (rt isa_Size_e (4 : Int)))))
theorem isa_Size_n (call : CallF) (C0 : Int → Option ByteArray) (a0 : Int) : (isa_Size_t Tryz.prog call C0 a0).norm (bodyT Tryz.prog call G 53 [.sc (.int .i64 a0)] []) = isa_Size_t Tryz.prog call C0 a0 := by kernel_rfl
theorem isa_Size_k (P : Program) (call : CallF) (lp : Loops) (C0 : Int → Option ByteArray) (K0 : ∀ (a0 : Int) (r : ByteArray), C0 a0 = some r → (call 62 [.sc (.int .i64 a0)] []) = some (isa_Name_e r)) (a0 : Int) : (isa_Size_t P call C0 a0).ok lp isa_Size_e := fun r1 hr1 => ⟨K0 _ _ hr1, ⟨rfl, fun hq0 => rfl, fun hq0 => ⟨rfl, fun hq1 => rfl, fun hq1 => rfl⟩⟩⟩
theorem isa_Size_c {C0 : Nat → Int → Option ByteArray} {D0 : Int → Option ByteArray} (H0 : ∀ (a0 : Int), Cv (fun k => C0 k a0) (D0 a0)) (a0 : Int) : Cv (fun k => isa_Size_b (C0 k) a0) (isa_Size_b D0 a0) := by
  unfold isa_Size_b
  exact .bind (H0 _) fun r1 => by exact .const _
def isa_Size.s : Nat → Int → Option Int
  | 0, _ => none
  | k + 1, a0 => isa_Size_b (fun a0 => isa_Name.s k a0) a0
theorem isa_Size.ok : ∀ (k : Nat), ∀ (a0 : Int) (r : Int), isa_Size.s k a0 = some r → evalFn Tryz.prog G k 53 [.sc (.int .i64 a0)] [] = some (isa_Size_e r)
  | 0, _, _, h => (nomatch h)
  | k + 1, a0, r, h => fn_ok rfl (isa_Size_t Tryz.prog (evalFn Tryz.prog G k) (fun a0 => isa_Name.s k a0) a0) (isa_Size_n _ _ a0) (isa_Size_k _ _ _ _ (isa_Name.ok k)  a0) h
theorem isa_Size.mono : ∀ (k : Nat) (a0 : Int), Le (isa_Size.s k a0) (isa_Size.s (k + 1) a0)
  | 0, _ => fun r h => (nomatch h)
  | k + 1, a0 => (isa_Size_c (fun a0 => .two ((isa_Name.mono k) a0)) a0).1 0
noncomputable def isa_Size (a0 : Int) : Option Int := lim fun k => isa_Size.s k a0
theorem isa_Size.cv (a0 : Int) : Cv (fun k => isa_Size.s k a0) (isa_Size a0) := .lim fun k => isa_Size.mono k a0
theorem isa_Size.eq (a0 : Int) : isa_Size a0 = isa_Size_b isa_Name a0 := Cv.uniq (isa_Size.cv a0).shift (isa_Size_c isa_Name.cv a0)
def strings_Fields_e (r : (List ByteArray)) : AV × Heap := (.sl (R_string r), [])
def strings_Fields.s : Nat → ByteArray → Option (List ByteArray)
  | 0, _ => none
  | _ + 1, a0 => fieldsS a0
theorem strings_Fields.ok : ∀ (k : Nat), ∀ (a0 : ByteArray) (r : (List ByteArray)), strings_Fields.s k a0 = some r → evalFn Tryz.prog G k 59 [.sc (.string a0)] [] = some (strings_Fields_e r)
  | 0, _, _, h => (nomatch h)
  | k + 1, a0, r, h => fields_ok h
noncomputable def strings_Fields (a0 : ByteArray) : Option (List ByteArray) := fieldsS a0
theorem strings_Fields.mono (k : Nat) (a0 : ByteArray) : Le (strings_Fields.s k a0) (strings_Fields.s (k + 1) a0) := by
  cases k with
  | zero => exact fun r h => nomatch h
  | succ k => exact Le.refl _
theorem strings_Fields.cv (a0 : ByteArray) : Cv (fun k => strings_Fields.s k a0) (strings_Fields a0) := ⟨fun k => strings_Fields.mono k a0, fun r => ⟨fun h => ⟨1, h⟩, fun ⟨k, h⟩ => by
  cases k with
  | zero => cases h
  | succ k => exact h⟩⟩
def isa_row_list_e (r : (List ByteArray)) : AV × Heap := (.sl (R_string r), [])
def isa_row_list_b (C0 : ByteArray → Option (List ByteArray)) (a0 : T_isa_row) : Option (List ByteArray) := ((C0 a0.kinds).bind fun (r1 : (List ByteArray)) => (some r1))
def isa_row_list_t (P : Program) (call : CallF) (C0 : ByteArray → Option (List ByteArray)) (a0 : T_isa_row) : Tr (List ByteArray) (AV × Heap) := (.call (call 59 [.sc (.string a0.kinds)] []) (C0 a0.kinds) strings_Fields_e fun (r1 : (List ByteArray)) => (rt isa_row_list_e r1))
theorem isa_row_list_n (call : CallF) (C0 : ByteArray → Option (List ByteArray)) (a0 : T_isa_row) : (isa_row_list_t Tryz.prog call C0 a0).norm (bodyT Tryz.prog call G 55 [.agg (C_isa_row a0)] []) = isa_row_list_t Tryz.prog call C0 a0 := by kernel_rfl
theorem isa_row_list_k (P : Program) (call : CallF) (lp : Loops) (C0 : ByteArray → Option (List ByteArray)) (K0 : ∀ (a0 : ByteArray) (r : (List ByteArray)), C0 a0 = some r → (call 59 [.sc (.string a0)] []) = some (strings_Fields_e r)) (a0 : T_isa_row) : (isa_row_list_t P call C0 a0).ok lp isa_row_list_e := fun r1 hr1 => ⟨K0 _ _ hr1, rfl⟩
theorem isa_row_list_c {C0 : Nat → ByteArray → Option (List ByteArray)} {D0 : ByteArray → Option (List ByteArray)} (H0 : ∀ (a0 : ByteArray), Cv (fun k => C0 k a0) (D0 a0)) (a0 : T_isa_row) : Cv (fun k => isa_row_list_b (C0 k) a0) (isa_row_list_b D0 a0) := by
  unfold isa_row_list_b
  exact .bind (H0 _) fun r1 => by exact .const _
def isa_row_list.s : Nat → T_isa_row → Option (List ByteArray)
  | 0, _ => none
  | k + 1, a0 => isa_row_list_b (fun a0 => strings_Fields.s k a0) a0
theorem isa_row_list.ok : ∀ (k : Nat), ∀ (a0 : T_isa_row) (r : (List ByteArray)), isa_row_list.s k a0 = some r → evalFn Tryz.prog G k 55 [.agg (C_isa_row a0)] [] = some (isa_row_list_e r)
  | 0, _, _, h => (nomatch h)
  | k + 1, a0, r, h => fn_ok rfl (isa_row_list_t Tryz.prog (evalFn Tryz.prog G k) (fun a0 => strings_Fields.s k a0) a0) (isa_row_list_n _ _ a0) (isa_row_list_k _ _ _ _ (strings_Fields.ok k)  a0) h
theorem isa_row_list.mono : ∀ (k : Nat) (a0 : T_isa_row), Le (isa_row_list.s k a0) (isa_row_list.s (k + 1) a0)
  | 0, _ => fun r h => (nomatch h)
  | k + 1, a0 => (isa_row_list_c (fun a0 => .two ((strings_Fields.mono k) a0)) a0).1 0
noncomputable def isa_row_list (a0 : T_isa_row) : Option (List ByteArray) := lim fun k => isa_row_list.s k a0
theorem isa_row_list.cv (a0 : T_isa_row) : Cv (fun k => isa_row_list.s k a0) (isa_row_list a0) := .lim fun k => isa_row_list.mono k a0
theorem isa_row_list.eq (a0 : T_isa_row) : isa_row_list a0 = isa_row_list_b strings_Fields a0 := Cv.uniq (isa_row_list.cv a0).shift (isa_row_list_c strings_Fields.cv a0)
def isa_of_2_e (r : (List ByteArray)) : AV × Heap := (.sl (R_string r), [])
def isa_of_2_b (C0 : Option (List T_isa_row)) (C1 : T_isa_row → Option (List ByteArray)) (a0 : Int) : Option (List ByteArray) := ((C0).bind fun (r1 : (List T_isa_row)) => (bif (decide (a0 ≥ (0 : Int))) then (bif (decide (a0 < (((r1.length) : Nat) : Int))) then (bif (decide (0 ≤ a0)) then ((r1[(Int.toNat a0)]?).bind fun (e2 : T_isa_row) => ((C1 e2).bind fun (r3 : (List ByteArray)) => (some r3))) else none) else (some ([] : List ByteArray))) else (some ([] : List ByteArray))))
def isa_of_2_t (P : Program) (call : CallF) (C0 : Option (List T_isa_row)) (C1 : T_isa_row → Option (List ByteArray)) (a0 : Int) : Tr (List ByteArray) (AV × Heap) := (.call (call 52 [] []) (C0) isa_table_e fun (r1 : (List T_isa_row)) => (.as (decide (a0 ≥ (0 : Int))) (yesN 2 (decide (a0 ≥ (0 : Int))) (.num ((R_isa_row r1).length) (r1.length) (yesN 2 (decide (a0 ≥ (0 : Int))) (.as (decide (a0 < (((r1.length) : Nat) : Int))) (.as (decide (0 ≤ a0)) (.row ((R_isa_row r1)[(Int.toNat a0)]?) (r1[(Int.toNat a0)]?) C_isa_row fun (e2 : T_isa_row) => (.call (call 55 [.agg (C_isa_row e2)] []) (C1 e2) isa_row_list_e fun (r3 : (List ByteArray)) => (rt isa_of_2_e r3))) .fail) (rt isa_of_2_e ([] : List ByteArray)))))) (noN 4 (decide (a0 ≥ (0 : Int))) (.no false (rt isa_of_2_e ([] : List ByteArray))))))
theorem isa_of_2_n (call : CallF) (C0 : Option (List T_isa_row)) (C1 : T_isa_row → Option (List ByteArray)) (a0 : Int) : (isa_of_2_t Tryz.prog call C0 C1 a0).norm (bodyT Tryz.prog call G 54 [.sc (.int .i64 a0), .fn (.func 55) [] []] []) = isa_of_2_t Tryz.prog call C0 C1 a0 := by kernel_rfl
theorem isa_of_2_k (P : Program) (call : CallF) (lp : Loops) (C0 : Option (List T_isa_row)) (C1 : T_isa_row → Option (List ByteArray)) (K0 : ∀  (r : (List T_isa_row)), C0 = some r → (call 52 [] []) = some (isa_table_e r)) (K1 : ∀ (a0 : T_isa_row) (r : (List ByteArray)), C1 a0 = some r → (call 55 [.agg (C_isa_row a0)] []) = some (isa_row_list_e r)) (a0 : Int) : (isa_of_2_t P call C0 C1 a0).ok lp isa_of_2_e := fun r1 hr1 => ⟨K0 _ hr1, ⟨rfl, fun hq0 => yesN_ok 2 (hq0) (⟨(R_isa_row_len _), yesN_ok 2 (hq0) (⟨rfl, fun hq1 => ⟨rfl, fun hq2 => fun e2 he2 => ⟨R_isa_row_get he2, fun r3 hr3 => ⟨K1 _ _ hr3, rfl⟩⟩, fun hq2 => trivial⟩, fun hq1 => rfl⟩)⟩), fun hq0 => noN_ok 4 (hq0) (⟨rfl, rfl⟩)⟩⟩
theorem isa_of_2_c {C0 : Nat → Option (List T_isa_row)} {D0 : Option (List T_isa_row)} (H0 : Cv (fun k => C0 k ) (D0 )) {C1 : Nat → T_isa_row → Option (List ByteArray)} {D1 : T_isa_row → Option (List ByteArray)} (H1 : ∀ (a0 : T_isa_row), Cv (fun k => C1 k a0) (D1 a0)) (a0 : Int) : Cv (fun k => isa_of_2_b (C0 k) (C1 k) a0) (isa_of_2_b D0 D1 a0) := by
  unfold isa_of_2_b
  exact .bind (H0) fun r1 => .cond (.cond (.cond (.bind (.const (r1[(Int.toNat a0)]?)) fun e2 => .bind (H1 _) fun r3 => by exact .const _) (by exact .const _)) (by exact .const _)) (by exact .const _)
def isa_of_2.s : Nat → Int → Option (List ByteArray)
  | 0, _ => none
  | k + 1, a0 => isa_of_2_b (isa_table.s k) (fun a0 => isa_row_list.s k a0) a0
theorem isa_of_2.ok : ∀ (k : Nat), ∀ (a0 : Int) (r : (List ByteArray)), isa_of_2.s k a0 = some r → evalFn Tryz.prog G k 54 [.sc (.int .i64 a0), .fn (.func 55) [] []] [] = some (isa_of_2_e r)
  | 0, _, _, h => (nomatch h)
  | k + 1, a0, r, h => fn_ok rfl (isa_of_2_t Tryz.prog (evalFn Tryz.prog G k) (isa_table.s k) (fun a0 => isa_row_list.s k a0) a0) (isa_of_2_n _ _ _ a0) (isa_of_2_k _ _ _ _ _ (isa_table.ok k) (isa_row_list.ok k)  a0) h
theorem isa_of_2.mono : ∀ (k : Nat) (a0 : Int), Le (isa_of_2.s k a0) (isa_of_2.s (k + 1) a0)
  | 0, _ => fun r h => (nomatch h)
  | k + 1, a0 => (isa_of_2_c (.two (isa_table.mono k)) (fun a0 => .two ((isa_row_list.mono k) a0)) a0).1 0
noncomputable def isa_of_2 (a0 : Int) : Option (List ByteArray) := lim fun k => isa_of_2.s k a0
theorem isa_of_2.cv (a0 : Int) : Cv (fun k => isa_of_2.s k a0) (isa_of_2 a0) := .lim fun k => isa_of_2.mono k a0
theorem isa_of_2.eq (a0 : Int) : isa_of_2 a0 = isa_of_2_b isa_table isa_row_list a0 := Cv.uniq (isa_of_2.cv a0).shift (isa_of_2_c isa_table.cv isa_row_list.cv a0)
def isa_plains_e (r : (T_isa_plain × Bool)) : AV × Heap := (.tup [.agg (C_isa_plain r.1), .sc (.bool r.2)], [])
def isa_plains_b  (a0 : ByteArray) : Option (T_isa_plain × Bool) := (bif (eqS a0 s_U5) then (some ((T_isa_plain.mk (4 : Int) (5 : Int) (1 : Int) (0 : Int)), true)) else (bif (eqS a0 s_U7) then (some ((T_isa_plain.mk (4 : Int) (7 : Int) (1 : Int) (0 : Int)), true)) else (bif (eqS a0 s_O5) then (some ((T_isa_plain.mk (4 : Int) (5 : Int) (1 : Int) (1 : Int)), true)) else (bif (eqS a0 s_M1) then (some ((T_isa_plain.mk (8 : Int) (4 : Int) (1 : Int) (0 : Int)), true)) else (bif (eqS a0 s_M2) then (some ((T_isa_plain.mk (8 : Int) (4 : Int) (2 : Int) (0 : Int)), true)) else (bif (eqS a0 s_M4) then (some ((T_isa_plain.mk (8 : Int) (4 : Int) (4 : Int) (0 : Int)), true)) else (bif (eqS a0 s_O1) then (some ((T_isa_plain.mk (10 : Int) (1 : Int) (1 : Int) (0 : Int)), true)) else (bif (eqS a0 s_I2) then (some ((T_isa_plain.mk (8 : Int) (2 : Int) (1 : Int) (0 : Int)), true)) else (bif (eqS a0 s_D) then (some ((T_isa_plain.mk (21 : Int) (5 : Int) (1 : Int) (0 : Int)), true)) else (bif (eqS a0 s_A) then (some ((T_isa_plain.mk (16 : Int) (5 : Int) (1 : Int) (0 : Int)), true)) else (bif (eqS a0 s_B) then (some ((T_isa_plain.mk (11 : Int) (5 : Int) (1 : Int) (0 : Int)), true)) else (bif (eqS a0 s_O2) then (some ((T_isa_plain.mk (20 : Int) (2 : Int) (1 : Int) (0 : Int)), true)) else (bif (eqS a0 s_I4) then (some ((T_isa_plain.mk (16 : Int) (4 : Int) (1 : Int) (0 : Int)), true)) else (some ((T_isa_plain.mk (0 : Int) (0 : Int) (0 : Int) (0 : Int)), false)))))))))))))))
def isa_plains_t (P : Program) (call : CallF)  (a0 : ByteArray) : Tr (T_isa_plain × Bool) (AV × Heap) := (.as (eqS a0 s_U5) (rt isa_plains_e ((T_isa_plain.mk (4 : Int) (5 : Int) (1 : Int) (0 : Int)), true)) (.as (eqS a0 s_U7) (rt isa_plains_e ((T_isa_plain.mk (4 : Int) (7 : Int) (1 : Int) (0 : Int)), true)) (.as (eqS a0 s_O5) (rt isa_plains_e ((T_isa_plain.mk (4 : Int) (5 : Int) (1 : Int) (1 : Int)), true)) (.as (eqS a0 s_M1) (rt isa_plains_e ((T_isa_plain.mk (8 : Int) (4 : Int) (1 : Int) (0 : Int)), true)) (.as (eqS a0 s_M2) (rt isa_plains_e ((T_isa_plain.mk (8 : Int) (4 : Int) (2 : Int) (0 : Int)), true)) (.as (eqS a0 s_M4) (rt isa_plains_e ((T_isa_plain.mk (8 : Int) (4 : Int) (4 : Int) (0 : Int)), true)) (.as (eqS a0 s_O1) (rt isa_plains_e ((T_isa_plain.mk (10 : Int) (1 : Int) (1 : Int) (0 : Int)), true)) (.as (eqS a0 s_I2) (rt isa_plains_e ((T_isa_plain.mk (8 : Int) (2 : Int) (1 : Int) (0 : Int)), true)) (.as (eqS a0 s_D) (rt isa_plains_e ((T_isa_plain.mk (21 : Int) (5 : Int) (1 : Int) (0 : Int)), true)) (.as (eqS a0 s_A) (rt isa_plains_e ((T_isa_plain.mk (16 : Int) (5 : Int) (1 : Int) (0 : Int)), true)) (.as (eqS a0 s_B) (rt isa_plains_e ((T_isa_plain.mk (11 : Int) (5 : Int) (1 : Int) (0 : Int)), true)) (.as (eqS a0 s_O2) (rt isa_plains_e ((T_isa_plain.mk (20 : Int) (2 : Int) (1 : Int) (0 : Int)), true)) (.as (eqS a0 s_I4) (rt isa_plains_e ((T_isa_plain.mk (16 : Int) (4 : Int) (1 : Int) (0 : Int)), true)) (rt isa_plains_e ((T_isa_plain.mk (0 : Int) (0 : Int) (0 : Int) (0 : Int)), false)))))))))))))))
theorem isa_plains_n (call : CallF)  (a0 : ByteArray) : (isa_plains_t Tryz.prog call  a0).norm (bodyT Tryz.prog call G 72 [.sc (.string a0)] []) = isa_plains_t Tryz.prog call  a0 := by kernel_rfl
theorem isa_plains_k (P : Program) (call : CallF) (lp : Loops)   (a0 : ByteArray) : (isa_plains_t P call  a0).ok lp isa_plains_e := ⟨rfl, fun hq0 => rfl, fun hq0 => ⟨rfl, fun hq1 => rfl, fun hq1 => ⟨rfl, fun hq2 => rfl, fun hq2 => ⟨rfl, fun hq3 => rfl, fun hq3 => ⟨rfl, fun hq4 => rfl, fun hq4 => ⟨rfl, fun hq5 => rfl, fun hq5 => ⟨rfl, fun hq6 => rfl, fun hq6 => ⟨rfl, fun hq7 => rfl, fun hq7 => ⟨rfl, fun hq8 => rfl, fun hq8 => ⟨rfl, fun hq9 => rfl, fun hq9 => ⟨rfl, fun hq10 => rfl, fun hq10 => ⟨rfl, fun hq11 => rfl, fun hq11 => ⟨rfl, fun hq12 => rfl, fun hq12 => rfl⟩⟩⟩⟩⟩⟩⟩⟩⟩⟩⟩⟩⟩
def isa_plains.s : Nat → ByteArray → Option (T_isa_plain × Bool)
  | 0, _ => none
  | k + 1, a0 => isa_plains_b  a0
theorem isa_plains.ok : ∀ (k : Nat), ∀ (a0 : ByteArray) (r : (T_isa_plain × Bool)), isa_plains.s k a0 = some r → evalFn Tryz.prog G k 72 [.sc (.string a0)] [] = some (isa_plains_e r)
  | 0, _, _, h => (nomatch h)
  | k + 1, a0, r, h => fn_ok rfl (isa_plains_t Tryz.prog (evalFn Tryz.prog G k)  a0) (isa_plains_n _  a0) (isa_plains_k _ _ _    a0) h
theorem isa_plains.mono : ∀ (k : Nat) (a0 : ByteArray), Le (isa_plains.s k a0) (isa_plains.s (k + 1) a0)
  | 0, _ => fun r h => (nomatch h)
  | k + 1, a0 => .refl _
noncomputable def isa_plains (a0 : ByteArray) : Option (T_isa_plain × Bool) := lim fun k => isa_plains.s k a0
theorem isa_plains.cv (a0 : ByteArray) : Cv (fun k => isa_plains.s k a0) (isa_plains a0) := .lim fun k => isa_plains.mono k a0
theorem isa_plains.eq (a0 : ByteArray) : isa_plains a0 = isa_plains_b  a0 := Cv.uniq (isa_plains.cv a0).shift (by exact .const _)
def isa_plain_get_e (r : Int) : AV × Heap := (.sc (.int .i64 r), [])
def isa_plain_get_b  (a0 : T_isa_plain) (a1 : Int) : Option Int := (bif (decide (0 ≤ a0.at_)) then (bif (decide (0 ≤ a0.bits)) then (some (w64 ((w64 ((w64 (andI .u32 (shrI .u32 a1 a0.at_) (IntKind.u32.wrap ((shlI .u32 (1 : Int) a0.bits) - (1 : Int))))) * a0.step)) + a0.less))) else none) else none)
def isa_plain_get_t (P : Program) (call : CallF)  (a0 : T_isa_plain) (a1 : Int) : Tr Int (AV × Heap) := (.as (decide (0 ≤ a0.at_)) (.as (decide (0 ≤ a0.bits)) (rt isa_plain_get_e (w64 ((w64 ((w64 (andI .u32 (shrI .u32 a1 a0.at_) (IntKind.u32.wrap ((shlI .u32 (1 : Int) a0.bits) - (1 : Int))))) * a0.step)) + a0.less))) .fail) .fail)
theorem isa_plain_get_n (call : CallF)  (a0 : T_isa_plain) (a1 : Int) : (isa_plain_get_t Tryz.prog call  a0 a1).norm (bodyT Tryz.prog call G 73 [.agg (C_isa_plain a0), .sc (.int .u32 a1)] []) = isa_plain_get_t Tryz.prog call  a0 a1 := by kernel_rfl
theorem isa_plain_get_k (P : Program) (call : CallF) (lp : Loops)   (a0 : T_isa_plain) (a1 : Int) : (isa_plain_get_t P call  a0 a1).ok lp isa_plain_get_e := ⟨rfl, fun hq0 => ⟨rfl, fun hq1 => rfl, fun hq1 => trivial⟩, fun hq0 => trivial⟩
def isa_plain_get.s : Nat → T_isa_plain → Int → Option Int
  | 0, _, _ => none
  | k + 1, a0, a1 => isa_plain_get_b  a0 a1
theorem isa_plain_get.ok : ∀ (k : Nat), ∀ (a0 : T_isa_plain) (a1 : Int) (r : Int), isa_plain_get.s k a0 a1 = some r → evalFn Tryz.prog G k 73 [.agg (C_isa_plain a0), .sc (.int .u32 a1)] [] = some (isa_plain_get_e r)
  | 0, _, _, _, h => (nomatch h)
  | k + 1, a0, a1, r, h => fn_ok rfl (isa_plain_get_t Tryz.prog (evalFn Tryz.prog G k)  a0 a1) (isa_plain_get_n _  a0 a1) (isa_plain_get_k _ _ _    a0 a1) h
theorem isa_plain_get.mono : ∀ (k : Nat) (a0 : T_isa_plain) (a1 : Int), Le (isa_plain_get.s k a0 a1) (isa_plain_get.s (k + 1) a0 a1)
  | 0, _, _ => fun r h => (nomatch h)
  | k + 1, a0, a1 => .refl _
noncomputable def isa_plain_get (a0 : T_isa_plain) (a1 : Int) : Option Int := lim fun k => isa_plain_get.s k a0 a1
theorem isa_plain_get.cv (a0 : T_isa_plain) (a1 : Int) : Cv (fun k => isa_plain_get.s k a0 a1) (isa_plain_get a0 a1) := .lim fun k => isa_plain_get.mono k a0 a1
theorem isa_plain_get.eq (a0 : T_isa_plain) (a1 : Int) : isa_plain_get a0 a1 = isa_plain_get_b  a0 a1 := Cv.uniq (isa_plain_get.cv a0 a1).shift (by exact .const _)
def isa_place_e (r : Int) : AV × Heap := (.sc (.int .u64 r), [])
def isa_place_b  (a0 : ByteArray) : Option Int := (bif (eqS a0 s_Y) then (some (4 : Int)) else (some (0 : Int)))
def isa_place_t (P : Program) (call : CallF)  (a0 : ByteArray) : Tr Int (AV × Heap) := (.as (eqS a0 s_Y) (rt isa_place_e (4 : Int)) (rt isa_place_e (0 : Int)))
theorem isa_place_n (call : CallF)  (a0 : ByteArray) : (isa_place_t Tryz.prog call  a0).norm (bodyT Tryz.prog call G 74 [.sc (.string a0)] []) = isa_place_t Tryz.prog call  a0 := by kernel_rfl
theorem isa_place_k (P : Program) (call : CallF) (lp : Loops)   (a0 : ByteArray) : (isa_place_t P call  a0).ok lp isa_place_e := ⟨rfl, fun hq0 => rfl, fun hq0 => rfl⟩
def isa_place.s : Nat → ByteArray → Option Int
  | 0, _ => none
  | k + 1, a0 => isa_place_b  a0
theorem isa_place.ok : ∀ (k : Nat), ∀ (a0 : ByteArray) (r : Int), isa_place.s k a0 = some r → evalFn Tryz.prog G k 74 [.sc (.string a0)] [] = some (isa_place_e r)
  | 0, _, _, h => (nomatch h)
  | k + 1, a0, r, h => fn_ok rfl (isa_place_t Tryz.prog (evalFn Tryz.prog G k)  a0) (isa_place_n _  a0) (isa_place_k _ _ _    a0) h
theorem isa_place.mono : ∀ (k : Nat) (a0 : ByteArray), Le (isa_place.s k a0) (isa_place.s (k + 1) a0)
  | 0, _ => fun r h => (nomatch h)
  | k + 1, a0 => .refl _
noncomputable def isa_place (a0 : ByteArray) : Option Int := lim fun k => isa_place.s k a0
theorem isa_place.cv (a0 : ByteArray) : Cv (fun k => isa_place.s k a0) (isa_place a0) := .lim fun k => isa_place.mono k a0
theorem isa_place.eq (a0 : ByteArray) : isa_place a0 = isa_place_b  a0 := Cv.uniq (isa_place.cv a0).shift (by exact .const _)
def imm_Sign_e (r : Int) : AV × Heap := (.sc (.int .i64 r), [])
def imm_Sign_b  (a0 : Int) (a1 : Int) : Option Int := (bif (decide (0 ≤ (w64 ((64 : Int) - (if (64 : Int) < (if (1 : Int) > a1 then (1 : Int) else a1) then (64 : Int) else (if (1 : Int) > a1 then (1 : Int) else a1)))))) then (some (shrI .i64 (shlI .i64 a0 (w64 ((64 : Int) - (if (64 : Int) < (if (1 : Int) > a1 then (1 : Int) else a1) then (64 : Int) else (if (1 : Int) > a1 then (1 : Int) else a1))))) (w64 ((64 : Int) - (if (64 : Int) < (if (1 : Int) > a1 then (1 : Int) else a1) then (64 : Int) else (if (1 : Int) > a1 then (1 : Int) else a1)))))) else none)
def imm_Sign_t (P : Program) (call : CallF)  (a0 : Int) (a1 : Int) : Tr Int (AV × Heap) := (.as (decide (0 ≤ (w64 ((64 : Int) - (if (64 : Int) < (if (1 : Int) > a1 then (1 : Int) else a1) then (64 : Int) else (if (1 : Int) > a1 then (1 : Int) else a1)))))) (.yes (decide (0 ≤ (w64 ((64 : Int) - (if (64 : Int) < (if (1 : Int) > a1 then (1 : Int) else a1) then (64 : Int) else (if (1 : Int) > a1 then (1 : Int) else a1)))))) (rt imm_Sign_e (shrI .i64 (shlI .i64 a0 (w64 ((64 : Int) - (if (64 : Int) < (if (1 : Int) > a1 then (1 : Int) else a1) then (64 : Int) else (if (1 : Int) > a1 then (1 : Int) else a1))))) (w64 ((64 : Int) - (if (64 : Int) < (if (1 : Int) > a1 then (1 : Int) else a1) then (64 : Int) else (if (1 : Int) > a1 then (1 : Int) else a1))))))) .fail)
theorem imm_Sign_n (call : CallF)  (a0 : Int) (a1 : Int) : (imm_Sign_t Tryz.prog call  a0 a1).norm (bodyT Tryz.prog call G 77 [.sc (.int .i64 a0), .sc (.int .i64 a1)] []) = imm_Sign_t Tryz.prog call  a0 a1 := by kernel_rfl
theorem imm_Sign_k (P : Program) (call : CallF) (lp : Loops)   (a0 : Int) (a1 : Int) : (imm_Sign_t P call  a0 a1).ok lp imm_Sign_e := ⟨rfl, fun hq0 => ⟨hq0, rfl⟩, fun hq0 => trivial⟩
def imm_Sign.s : Nat → Int → Int → Option Int
  | 0, _, _ => none
  | k + 1, a0, a1 => imm_Sign_b  a0 a1
theorem imm_Sign.ok : ∀ (k : Nat), ∀ (a0 : Int) (a1 : Int) (r : Int), imm_Sign.s k a0 a1 = some r → evalFn Tryz.prog G k 77 [.sc (.int .i64 a0), .sc (.int .i64 a1)] [] = some (imm_Sign_e r)
  | 0, _, _, _, h => (nomatch h)
  | k + 1, a0, a1, r, h => fn_ok rfl (imm_Sign_t Tryz.prog (evalFn Tryz.prog G k)  a0 a1) (imm_Sign_n _  a0 a1) (imm_Sign_k _ _ _    a0 a1) h
theorem imm_Sign.mono : ∀ (k : Nat) (a0 : Int) (a1 : Int), Le (imm_Sign.s k a0 a1) (imm_Sign.s (k + 1) a0 a1)
  | 0, _, _ => fun r h => (nomatch h)
  | k + 1, a0, a1 => .refl _
noncomputable def imm_Sign (a0 : Int) (a1 : Int) : Option Int := lim fun k => imm_Sign.s k a0 a1
theorem imm_Sign.cv (a0 : Int) (a1 : Int) : Cv (fun k => imm_Sign.s k a0 a1) (imm_Sign a0 a1) := .lim fun k => imm_Sign.mono k a0 a1
theorem imm_Sign.eq (a0 : Int) (a1 : Int) : imm_Sign a0 a1 = imm_Sign_b  a0 a1 := Cv.uniq (imm_Sign.cv a0 a1).shift (by exact .const _)
def imm_Joined_e (r : Int) : AV × Heap := (.sc (.int .i64 r), [])
def imm_Joined_b (C0 : Int → Int → Option Int) (a0 : Int) (a1 : Int) (a2 : Int) : Option Int := ((C0 (orI .i64 (orI .i64 (shlI .i64 a0 (16 : Int)) (shlI .i64 a1 (11 : Int))) a2) (20 : Int)).bind fun (r1 : Int) => (some r1))
def imm_Joined_t (P : Program) (call : CallF) (C0 : Int → Int → Option Int) (a0 : Int) (a1 : Int) (a2 : Int) : Tr Int (AV × Heap) := (.yes (decide (0 ≤ (16 : Int))) (.yes (decide (0 ≤ (11 : Int))) (.call (call 77 [.sc (.int .i64 (orI .i64 (orI .i64 (shlI .i64 a0 (16 : Int)) (shlI .i64 a1 (11 : Int))) a2)), .sc (.int .i64 (20 : Int))] []) (C0 (orI .i64 (orI .i64 (shlI .i64 a0 (16 : Int)) (shlI .i64 a1 (11 : Int))) a2) (20 : Int)) imm_Sign_e fun (r1 : Int) => (rt imm_Joined_e r1))))
theorem imm_Joined_n (call : CallF) (C0 : Int → Int → Option Int) (a0 : Int) (a1 : Int) (a2 : Int) : (imm_Joined_t Tryz.prog call C0 a0 a1 a2).norm (bodyT Tryz.prog call G 75 [.sc (.int .i64 a0), .sc (.int .i64 a1), .sc (.int .i64 a2)] []) = imm_Joined_t Tryz.prog call C0 a0 a1 a2 := by kernel_rfl
theorem imm_Joined_k (P : Program) (call : CallF) (lp : Loops) (C0 : Int → Int → Option Int) (K0 : ∀ (a0 : Int) (a1 : Int) (r : Int), C0 a0 a1 = some r → (call 77 [.sc (.int .i64 a0), .sc (.int .i64 a1)] []) = some (imm_Sign_e r)) (a0 : Int) (a1 : Int) (a2 : Int) : (imm_Joined_t P call C0 a0 a1 a2).ok lp imm_Joined_e := ⟨rfl, ⟨rfl, fun r1 hr1 => ⟨K0 _ _ _ hr1, rfl⟩⟩⟩
theorem imm_Joined_c {C0 : Nat → Int → Int → Option Int} {D0 : Int → Int → Option Int} (H0 : ∀ (a0 : Int) (a1 : Int), Cv (fun k => C0 k a0 a1) (D0 a0 a1)) (a0 : Int) (a1 : Int) (a2 : Int) : Cv (fun k => imm_Joined_b (C0 k) a0 a1 a2) (imm_Joined_b D0 a0 a1 a2) := by
  unfold imm_Joined_b
  exact .bind (H0 _ _) fun r1 => by exact .const _
def imm_Joined.s : Nat → Int → Int → Int → Option Int
  | 0, _, _, _ => none
  | k + 1, a0, a1, a2 => imm_Joined_b (fun a0 a1 => imm_Sign.s k a0 a1) a0 a1 a2
theorem imm_Joined.ok : ∀ (k : Nat), ∀ (a0 : Int) (a1 : Int) (a2 : Int) (r : Int), imm_Joined.s k a0 a1 a2 = some r → evalFn Tryz.prog G k 75 [.sc (.int .i64 a0), .sc (.int .i64 a1), .sc (.int .i64 a2)] [] = some (imm_Joined_e r)
  | 0, _, _, _, _, h => (nomatch h)
  | k + 1, a0, a1, a2, r, h => fn_ok rfl (imm_Joined_t Tryz.prog (evalFn Tryz.prog G k) (fun a0 a1 => imm_Sign.s k a0 a1) a0 a1 a2) (imm_Joined_n _ _ a0 a1 a2) (imm_Joined_k _ _ _ _ (imm_Sign.ok k)  a0 a1 a2) h
theorem imm_Joined.mono : ∀ (k : Nat) (a0 : Int) (a1 : Int) (a2 : Int), Le (imm_Joined.s k a0 a1 a2) (imm_Joined.s (k + 1) a0 a1 a2)
  | 0, _, _, _ => fun r h => (nomatch h)
  | k + 1, a0, a1, a2 => (imm_Joined_c (fun a0 a1 => .two ((imm_Sign.mono k) a0 a1)) a0 a1 a2).1 0
noncomputable def imm_Joined (a0 : Int) (a1 : Int) (a2 : Int) : Option Int := lim fun k => imm_Joined.s k a0 a1 a2
theorem imm_Joined.cv (a0 : Int) (a1 : Int) (a2 : Int) : Cv (fun k => imm_Joined.s k a0 a1 a2) (imm_Joined a0 a1 a2) := .lim fun k => imm_Joined.mono k a0 a1 a2
theorem imm_Joined.eq (a0 : Int) (a1 : Int) (a2 : Int) : imm_Joined a0 a1 a2 = imm_Joined_b imm_Sign a0 a1 a2 := Cv.uniq (imm_Joined.cv a0 a1 a2).shift (imm_Joined_c imm_Sign.cv a0 a1 a2)
def imm_Back_e (r : Int) : AV × Heap := (.sc (.int .i64 r), [])
structure imm_Back_L1_A where
  x0 : Int
  x1 : Int
  x2 : Int
  x7 : Int
  x8 : Int
def imm_Back_L1_s (a : imm_Back_L1_A) : St := { n := 27, nx := 0, env := [(0, .sc (.int .i64 a.x0)), (1, .sc (.int .i64 a.x1)), (2, .sc (.int .i64 a.x2)), (7, .sc (.int .i64 a.x7)), (8, .sc (.int .i64 a.x8))], heap := [] }
def imm_Back_L1_e (a : Int) : Ex × St := (.exit 0, { n := 27, nx := 0, env := [(7, .sc (.int .i64 a))], heap := [] })
def imm_Back_L1_b  (a : imm_Back_L1_A) : Option (imm_Back_L1_A ⊕ Int) := (bif (decide (a.x8 ≥ (0 : Int))) then (bif (a.x0 == (1 : Int)) then (bif (a.x8 == a.x1) then (some (.inl (imm_Back_L1_A.mk a.x0 a.x1 a.x2 (orI .i64 (shlI .i64 a.x7 (8 : Int)) (andI .i64 a.x2 (255 : Int))) (w64 (a.x8 - (1 : Int)))))) else (some (.inl (imm_Back_L1_A.mk a.x0 a.x1 a.x2 (orI .i64 (shlI .i64 a.x7 (8 : Int)) (255 : Int)) (w64 (a.x8 - (1 : Int))))))) else (bif (a.x8 == a.x1) then (some (.inl (imm_Back_L1_A.mk a.x0 a.x1 a.x2 (orI .i64 (shlI .i64 a.x7 (8 : Int)) (andI .i64 a.x2 (255 : Int))) (w64 (a.x8 - (1 : Int)))))) else (some (.inl (imm_Back_L1_A.mk a.x0 a.x1 a.x2 (orI .i64 (shlI .i64 a.x7 (8 : Int)) (0 : Int)) (w64 (a.x8 - (1 : Int)))))))) else (some (.inr a.x7)))
def imm_Back_L1_t (P : Program) (call : CallF)  (a : imm_Back_L1_A) : Tr (imm_Back_L1_A ⊕ Int) (Ex × St) := (.as (decide (a.x8 ≥ (0 : Int))) (.as (a.x0 == (1 : Int)) (.as (a.x8 == a.x1) (.yes (decide (0 ≤ (8 : Int))) (lf imm_Back_L1_s (imm_Back_L1_A.mk a.x0 a.x1 a.x2 (orI .i64 (shlI .i64 a.x7 (8 : Int)) (andI .i64 a.x2 (255 : Int))) (w64 (a.x8 - (1 : Int)))))) (.yes (decide (0 ≤ (8 : Int))) (lf imm_Back_L1_s (imm_Back_L1_A.mk a.x0 a.x1 a.x2 (orI .i64 (shlI .i64 a.x7 (8 : Int)) (255 : Int)) (w64 (a.x8 - (1 : Int))))))) (.as (a.x8 == a.x1) (.yes (decide (0 ≤ (8 : Int))) (lf imm_Back_L1_s (imm_Back_L1_A.mk a.x0 a.x1 a.x2 (orI .i64 (shlI .i64 a.x7 (8 : Int)) (andI .i64 a.x2 (255 : Int))) (w64 (a.x8 - (1 : Int)))))) (.yes (decide (0 ≤ (8 : Int))) (lf imm_Back_L1_s (imm_Back_L1_A.mk a.x0 a.x1 a.x2 (orI .i64 (shlI .i64 a.x7 (8 : Int)) (0 : Int)) (w64 (a.x8 - (1 : Int)))))))) (rx imm_Back_L1_e a.x7))
theorem imm_Back_L1_n (call : CallF)  (a : imm_Back_L1_A) : (imm_Back_L1_t Tryz.prog call  a).norm (roundT Tryz.prog G.kd call 0 (G.an 76) (loopAt Tryz.prog 76 3) (imm_Back_L1_s a)) = imm_Back_L1_t Tryz.prog call  a := by kernel_rfl
theorem imm_Back_L1_k (P : Program) (call : CallF) (lp : Loops)   (a : imm_Back_L1_A) : (imm_Back_L1_t P call  a).ok lp (Sum.elim (fun a => (.norm, imm_Back_L1_s a)) imm_Back_L1_e) := ⟨rfl, fun hq0 => ⟨rfl, fun hq1 => ⟨rfl, fun hq2 => ⟨rfl, rfl⟩, fun hq2 => ⟨rfl, rfl⟩⟩, fun hq1 => ⟨rfl, fun hq2 => ⟨rfl, rfl⟩, fun hq2 => ⟨rfl, rfl⟩⟩⟩, fun hq0 => rfl⟩
def imm_Back_L1.s (k : Nat)  : imm_Back_L1_A → Option Int := iter (imm_Back_L1_b ) k
theorem imm_Back_L1_ok (call : CallF) (k : Nat)   (a : imm_Back_L1_A) (r : Int) (h : imm_Back_L1.s k  a = some r) : loopsF Tryz.prog G.kd call 0 (G.an 76) k (loopAt Tryz.prog 76 3) (imm_Back_L1_s a) = some (imm_Back_L1_e r) :=
  loop_ok (fun a => imm_Back_L1_t Tryz.prog call  a) (fun _ => rfl) (fun a => imm_Back_L1_n call  a) (fun a => imm_Back_L1_k _ call _   a) (fun r => nofun) h
theorem imm_Back_L1.m {j k : Nat} (hj : j ≤ k)    (a : imm_Back_L1_A) : Le (imm_Back_L1.s j  a) (imm_Back_L1.s k  a) := Le.iter (fun a => .refl _) hj a
noncomputable def imm_Back_L1.w  : imm_Back_L1_A → Option Int := loopW (imm_Back_L1_b )
theorem imm_Back_L1.cv    (a : imm_Back_L1_A) : Cv (fun k => imm_Back_L1.s k  a) (imm_Back_L1.w  a) := Cv.iter (fun a => by exact .const _) a
def imm_Back_b (C0 : Int → Int → Option Int) (L1 : imm_Back_L1_A → Option Int) (a0 : Int) (a1 : Int) (a2 : Int) : Option Int := ((L1 (imm_Back_L1_A.mk a0 a1 a2 (0 : Int) (3 : Int))).bind (fun (o1 : Int) => ((C0 o1 (32 : Int)).bind fun (r2 : Int) => (some r2))))
def imm_Back_t (P : Program) (call : CallF) (C0 : Int → Int → Option Int) (L1 : imm_Back_L1_A → Option Int) (a0 : Int) (a1 : Int) (a2 : Int) : Tr Int (AV × Heap) := (.loop (loopAt P 76 3) (imm_Back_L1_s (imm_Back_L1_A.mk a0 a1 a2 (0 : Int) (3 : Int))) (L1 (imm_Back_L1_A.mk a0 a1 a2 (0 : Int) (3 : Int))) imm_Back_L1_e (fun (o1 : Int) => (.call (call 77 [.sc (.int .i64 o1), .sc (.int .i64 (32 : Int))] []) (C0 o1 (32 : Int)) imm_Sign_e fun (r2 : Int) => (rt imm_Back_e r2))))
theorem imm_Back_n (call : CallF) (C0 : Int → Int → Option Int) (L1 : imm_Back_L1_A → Option Int) (a0 : Int) (a1 : Int) (a2 : Int) : (imm_Back_t Tryz.prog call C0 L1 a0 a1 a2).norm (bodyT Tryz.prog call G 76 [.sc (.int .i64 a0), .sc (.int .i64 a1), .sc (.int .i64 a2)] []) = imm_Back_t Tryz.prog call C0 L1 a0 a1 a2 := by kernel_rfl
theorem imm_Back_k (P : Program) (call : CallF) (lp : Loops) (C0 : Int → Int → Option Int) (L1 : imm_Back_L1_A → Option Int) (K0 : ∀ (a0 : Int) (a1 : Int) (r : Int), C0 a0 a1 = some r → (call 77 [.sc (.int .i64 a0), .sc (.int .i64 a1)] []) = some (imm_Sign_e r)) (N1 : ∀ (a : imm_Back_L1_A) (r : Int), L1 a = some r → lp (loopAt P 76 3) (imm_Back_L1_s a) = some (imm_Back_L1_e r)) (a0 : Int) (a1 : Int) (a2 : Int) : (imm_Back_t P call C0 L1 a0 a1 a2).ok lp imm_Back_e := fun o1 ho1 => ⟨N1 _ _ ho1, fun r2 hr2 => ⟨K0 _ _ _ hr2, rfl⟩⟩
theorem imm_Back_c {C0 : Nat → Int → Int → Option Int} {D0 : Int → Int → Option Int} (H0 : ∀ (a0 : Int) (a1 : Int), Cv (fun k => C0 k a0 a1) (D0 a0 a1)) {L1 : Nat → imm_Back_L1_A → Option Int} {M1 : imm_Back_L1_A → Option Int} (N1 : ∀ a, Cv (fun k => L1 k a) (M1 a)) (a0 : Int) (a1 : Int) (a2 : Int) : Cv (fun k => imm_Back_b (C0 k) (L1 k) a0 a1 a2) (imm_Back_b D0 M1 a0 a1 a2) := by
  unfold imm_Back_b
  exact .bind (N1 _) (fun o1 => .bind (H0 _ _) fun r2 => by exact .const _)
def imm_Back.s : Nat → Int → Int → Int → Option Int
  | 0, _, _, _ => none
  | k + 1, a0, a1, a2 => imm_Back_b (fun a0 a1 => imm_Sign.s k a0 a1) (imm_Back_L1.s k) a0 a1 a2
theorem imm_Back.ok : ∀ (k : Nat), ∀ (a0 : Int) (a1 : Int) (a2 : Int) (r : Int), imm_Back.s k a0 a1 a2 = some r → evalFn Tryz.prog G k 76 [.sc (.int .i64 a0), .sc (.int .i64 a1), .sc (.int .i64 a2)] [] = some (imm_Back_e r)
  | 0, _, _, _, _, h => (nomatch h)
  | k + 1, a0, a1, a2, r, h => fn_ok rfl (imm_Back_t Tryz.prog (evalFn Tryz.prog G k) (fun a0 a1 => imm_Sign.s k a0 a1) (imm_Back_L1.s k) a0 a1 a2) (imm_Back_n _ _ _ a0 a1 a2) (imm_Back_k _ _ _ _ _ (imm_Sign.ok k) (imm_Back_L1_ok _ k) a0 a1 a2) h
theorem imm_Back.mono : ∀ (k : Nat) (a0 : Int) (a1 : Int) (a2 : Int), Le (imm_Back.s k a0 a1 a2) (imm_Back.s (k + 1) a0 a1 a2)
  | 0, _, _, _ => fun r h => (nomatch h)
  | k + 1, a0, a1, a2 => (imm_Back_c (fun a0 a1 => .two ((imm_Sign.mono k) a0 a1)) (fun a => .two ((imm_Back_L1.m (Nat.le_succ k)) a)) a0 a1 a2).1 0
noncomputable def imm_Back (a0 : Int) (a1 : Int) (a2 : Int) : Option Int := lim fun k => imm_Back.s k a0 a1 a2
theorem imm_Back.cv (a0 : Int) (a1 : Int) (a2 : Int) : Cv (fun k => imm_Back.s k a0 a1 a2) (imm_Back a0 a1 a2) := .lim fun k => imm_Back.mono k a0 a1 a2
noncomputable def imm_Back_L1 : imm_Back_L1_A → Option Int := imm_Back_L1.w 
theorem imm_Back_L1.eq (a : imm_Back_L1_A) : imm_Back_L1 a = (imm_Back_L1_b  a).bind (Sum.elim imm_Back_L1 some) := loopW_eq _ _
theorem imm_Back.eq (a0 : Int) (a1 : Int) (a2 : Int) : imm_Back a0 a1 a2 = imm_Back_b imm_Sign imm_Back_L1 a0 a1 a2 := Cv.uniq (imm_Back.cv a0 a1 a2).shift (imm_Back_c imm_Sign.cv (imm_Back_L1.cv) a0 a1 a2)
def isa_wide_e (r : Int) : AV × Heap := (.sc (.int .i64 r), [])
def isa_wide_b  (a0 : ByteArray) : Option Int := (bif (eqS a0 s_T8) then (some (9 : Int)) else (bif (eqS a0 s_T24) then (some (25 : Int)) else (some (16 : Int))))
def isa_wide_t (P : Program) (call : CallF)  (a0 : ByteArray) : Tr Int (AV × Heap) := (.as (eqS a0 s_T8) (rt isa_wide_e (9 : Int)) (.as (eqS a0 s_T24) (rt isa_wide_e (25 : Int)) (rt isa_wide_e (16 : Int))))
theorem isa_wide_n (call : CallF)  (a0 : ByteArray) : (isa_wide_t Tryz.prog call  a0).norm (bodyT Tryz.prog call G 78 [.sc (.string a0)] []) = isa_wide_t Tryz.prog call  a0 := by kernel_rfl
theorem isa_wide_k (P : Program) (call : CallF) (lp : Loops)   (a0 : ByteArray) : (isa_wide_t P call  a0).ok lp isa_wide_e := ⟨rfl, fun hq0 => rfl, fun hq0 => ⟨rfl, fun hq1 => rfl, fun hq1 => rfl⟩⟩
def isa_wide.s : Nat → ByteArray → Option Int
  | 0, _ => none
  | k + 1, a0 => isa_wide_b  a0
theorem isa_wide.ok : ∀ (k : Nat), ∀ (a0 : ByteArray) (r : Int), isa_wide.s k a0 = some r → evalFn Tryz.prog G k 78 [.sc (.string a0)] [] = some (isa_wide_e r)
  | 0, _, _, h => (nomatch h)
  | k + 1, a0, r, h => fn_ok rfl (isa_wide_t Tryz.prog (evalFn Tryz.prog G k)  a0) (isa_wide_n _  a0) (isa_wide_k _ _ _    a0) h
theorem isa_wide.mono : ∀ (k : Nat) (a0 : ByteArray), Le (isa_wide.s k a0) (isa_wide.s (k + 1) a0)
  | 0, _ => fun r h => (nomatch h)
  | k + 1, a0 => .refl _
noncomputable def isa_wide (a0 : ByteArray) : Option Int := lim fun k => isa_wide.s k a0
theorem isa_wide.cv (a0 : ByteArray) : Cv (fun k => isa_wide.s k a0) (isa_wide a0) := .lim fun k => isa_wide.mono k a0
theorem isa_wide.eq (a0 : ByteArray) : isa_wide a0 = isa_wide_b  a0 := Cv.uniq (isa_wide.cv a0).shift (by exact .const _)
def isa_get_e (r : Int) : AV × Heap := (.sc (.int .i64 r), [])
def isa_get_b (C0 : ByteArray → Option (T_isa_plain × Bool)) (C1 : T_isa_plain → Int → Option Int) (C2 : ByteArray → Option Int) (C3 : Int → Int → Int → Option Int) (C4 : Int → Int → Int → Option Int) (C5 : Int → Int → Option Int) (C6 : ByteArray → Option Int) (a0 : ByteArray) (a1 : Int) : Option Int := ((C0 a0).bind fun (r1 : (T_isa_plain × Bool)) => (bif r1.2 then ((C1 r1.1 a1).bind fun (r2 : Int) => (some r2)) else (bif (eqS a0 s_X) then ((C2 a0).bind fun (r3 : Int) => (bif (decide (0 ≤ r3)) then (some (w64 ((andI .i64 (shrI .i64 (w64 a1) r3) (15 : Int)) + (w64 ((w64 (Int.tdiv (andI .i64 (shrI .i64 (w64 a1) r3) (15 : Int)) (8 : Int))) * (16 : Int)))))) else none)) else (bif (eqS a0 s_Y) then ((C2 a0).bind fun (r4 : Int) => (bif (decide (0 ≤ r4)) then (some (w64 ((andI .i64 (shrI .i64 (w64 a1) r4) (15 : Int)) + (w64 ((w64 (Int.tdiv (andI .i64 (shrI .i64 (w64 a1) r4) (15 : Int)) (8 : Int))) * (16 : Int)))))) else none)) else (bif (eqS a0 s_L20) then ((C3 (andI .i64 (shrI .i64 (w64 a1) (11 : Int)) (15 : Int)) (andI .i64 (shrI .i64 (w64 a1) (16 : Int)) (31 : Int)) (andI .i64 (w64 a1) (2047 : Int))).bind fun (r5 : Int) => (some r5)) else (bif (eqS a0 s_C8) then ((C4 (andI .i64 (shrI .i64 (w64 a1) (10 : Int)) (1 : Int)) (andI .i64 (shrI .i64 (w64 a1) (8 : Int)) (3 : Int)) (andI .i64 (w64 a1) (255 : Int))).bind fun (r6 : Int) => (some r6)) else (bif (eqS a0 s_S16) then ((C5 (w64 a1) (16 : Int)).bind fun (r7 : Int) => (some r7)) else (bif (eqS a0 s_T8) then ((C5 (w64 a1) (8 : Int)).bind fun (r8 : Int) => (some (w64 ((2 : Int) * r8)))) else ((C6 a0).bind fun (r9 : Int) => ((C5 (andNotI .i64 (w64 a1) (1 : Int)) r9).bind fun (r10 : Int) => (some r10)))))))))))
def isa_get_t (P : Program) (call : CallF) (C0 : ByteArray → Option (T_isa_plain × Bool)) (C1 : T_isa_plain → Int → Option Int) (C2 : ByteArray → Option Int) (C3 : Int → Int → Int → Option Int) (C4 : Int → Int → Int → Option Int) (C5 : Int → Int → Option Int) (C6 : ByteArray → Option Int) (a0 : ByteArray) (a1 : Int) : Tr Int (AV × Heap) := (.call (call 72 [.sc (.string a0)] []) (C0 a0) isa_plains_e fun (r1 : (T_isa_plain × Bool)) => (.as r1.2 (.call (call 73 [.agg (C_isa_plain r1.1), .sc (.int .u32 a1)] []) (C1 r1.1 a1) isa_plain_get_e fun (r2 : Int) => (rt isa_get_e r2)) (.as (eqS a0 s_X) (.yes (eqS a0 s_X) (.call (call 74 [.sc (.string a0)] []) (C2 a0) isa_place_e fun (r3 : Int) => (.as (decide (0 ≤ r3)) (.yes (decide ((8 : Int) ≠ 0)) (rt isa_get_e (w64 ((andI .i64 (shrI .i64 (w64 a1) r3) (15 : Int)) + (w64 ((w64 (Int.tdiv (andI .i64 (shrI .i64 (w64 a1) r3) (15 : Int)) (8 : Int))) * (16 : Int))))))) .fail))) (.as (eqS a0 s_Y) (.call (call 74 [.sc (.string a0)] []) (C2 a0) isa_place_e fun (r4 : Int) => (.as (decide (0 ≤ r4)) (.yes (decide ((8 : Int) ≠ 0)) (rt isa_get_e (w64 ((andI .i64 (shrI .i64 (w64 a1) r4) (15 : Int)) + (w64 ((w64 (Int.tdiv (andI .i64 (shrI .i64 (w64 a1) r4) (15 : Int)) (8 : Int))) * (16 : Int))))))) .fail)) (.as (eqS a0 s_L20) (.yes (decide (0 ≤ (11 : Int))) (.yes (decide (0 ≤ (16 : Int))) (.call (call 75 [.sc (.int .i64 (andI .i64 (shrI .i64 (w64 a1) (11 : Int)) (15 : Int))), .sc (.int .i64 (andI .i64 (shrI .i64 (w64 a1) (16 : Int)) (31 : Int))), .sc (.int .i64 (andI .i64 (w64 a1) (2047 : Int)))] []) (C3 (andI .i64 (shrI .i64 (w64 a1) (11 : Int)) (15 : Int)) (andI .i64 (shrI .i64 (w64 a1) (16 : Int)) (31 : Int)) (andI .i64 (w64 a1) (2047 : Int))) imm_Joined_e fun (r5 : Int) => (rt isa_get_e r5)))) (.as (eqS a0 s_C8) (.yes (decide (0 ≤ (10 : Int))) (.yes (decide (0 ≤ (8 : Int))) (.call (call 76 [.sc (.int .i64 (andI .i64 (shrI .i64 (w64 a1) (10 : Int)) (1 : Int))), .sc (.int .i64 (andI .i64 (shrI .i64 (w64 a1) (8 : Int)) (3 : Int))), .sc (.int .i64 (andI .i64 (w64 a1) (255 : Int)))] []) (C4 (andI .i64 (shrI .i64 (w64 a1) (10 : Int)) (1 : Int)) (andI .i64 (shrI .i64 (w64 a1) (8 : Int)) (3 : Int)) (andI .i64 (w64 a1) (255 : Int))) imm_Back_e fun (r6 : Int) => (rt isa_get_e r6)))) (.as (eqS a0 s_S16) (.call (call 77 [.sc (.int .i64 (w64 a1)), .sc (.int .i64 (16 : Int))] []) (C5 (w64 a1) (16 : Int)) imm_Sign_e fun (r7 : Int) => (rt isa_get_e r7)) (.as (eqS a0 s_T8) (.call (call 77 [.sc (.int .i64 (w64 a1)), .sc (.int .i64 (8 : Int))] []) (C5 (w64 a1) (8 : Int)) imm_Sign_e fun (r8 : Int) => (rt isa_get_e (w64 ((2 : Int) * r8)))) (.call (call 78 [.sc (.string a0)] []) (C6 a0) isa_wide_e fun (r9 : Int) => (.call (call 77 [.sc (.int .i64 (andNotI .i64 (w64 a1) (1 : Int))), .sc (.int .i64 r9)] []) (C5 (andNotI .i64 (w64 a1) (1 : Int)) r9) imm_Sign_e fun (r10 : Int) => (rt isa_get_e r10)))))))))))
theorem isa_get_n (call : CallF) (C0 : ByteArray → Option (T_isa_plain × Bool)) (C1 : T_isa_plain → Int → Option Int) (C2 : ByteArray → Option Int) (C3 : Int → Int → Int → Option Int) (C4 : Int → Int → Int → Option Int) (C5 : Int → Int → Option Int) (C6 : ByteArray → Option Int) (a0 : ByteArray) (a1 : Int) : (isa_get_t Tryz.prog call C0 C1 C2 C3 C4 C5 C6 a0 a1).norm (bodyT Tryz.prog call G 56 [.sc (.string a0), .sc (.int .u32 a1)] []) = isa_get_t Tryz.prog call C0 C1 C2 C3 C4 C5 C6 a0 a1 := by kernel_rfl
theorem isa_get_k (P : Program) (call : CallF) (lp : Loops) (C0 : ByteArray → Option (T_isa_plain × Bool)) (C1 : T_isa_plain → Int → Option Int) (C2 : ByteArray → Option Int) (C3 : Int → Int → Int → Option Int) (C4 : Int → Int → Int → Option Int) (C5 : Int → Int → Option Int) (C6 : ByteArray → Option Int) (K0 : ∀ (a0 : ByteArray) (r : (T_isa_plain × Bool)), C0 a0 = some r → (call 72 [.sc (.string a0)] []) = some (isa_plains_e r)) (K1 : ∀ (a0 : T_isa_plain) (a1 : Int) (r : Int), C1 a0 a1 = some r → (call 73 [.agg (C_isa_plain a0), .sc (.int .u32 a1)] []) = some (isa_plain_get_e r)) (K2 : ∀ (a0 : ByteArray) (r : Int), C2 a0 = some r → (call 74 [.sc (.string a0)] []) = some (isa_place_e r)) (K3 : ∀ (a0 : Int) (a1 : Int) (a2 : Int) (r : Int), C3 a0 a1 a2 = some r → (call 75 [.sc (.int .i64 a0), .sc (.int .i64 a1), .sc (.int .i64 a2)] []) = some (imm_Joined_e r)) (K4 : ∀ (a0 : Int) (a1 : Int) (a2 : Int) (r : Int), C4 a0 a1 a2 = some r → (call 76 [.sc (.int .i64 a0), .sc (.int .i64 a1), .sc (.int .i64 a2)] []) = some (imm_Back_e r)) (K5 : ∀ (a0 : Int) (a1 : Int) (r : Int), C5 a0 a1 = some r → (call 77 [.sc (.int .i64 a0), .sc (.int .i64 a1)] []) = some (imm_Sign_e r)) (K6 : ∀ (a0 : ByteArray) (r : Int), C6 a0 = some r → (call 78 [.sc (.string a0)] []) = some (isa_wide_e r)) (a0 : ByteArray) (a1 : Int) : (isa_get_t P call C0 C1 C2 C3 C4 C5 C6 a0 a1).ok lp isa_get_e := fun r1 hr1 => ⟨K0 _ _ hr1, ⟨rfl, fun hq0 => fun r2 hr2 => ⟨K1 _ _ _ hr2, rfl⟩, fun hq0 => ⟨rfl, fun hq1 => ⟨hq1, fun r3 hr3 => ⟨K2 _ _ hr3, ⟨rfl, fun hq2 => ⟨rfl, rfl⟩, fun hq2 => trivial⟩⟩⟩, fun hq1 => ⟨rfl, fun hq2 => fun r4 hr4 => ⟨K2 _ _ hr4, ⟨rfl, fun hq3 => ⟨rfl, rfl⟩, fun hq3 => trivial⟩⟩, fun hq2 => ⟨rfl, fun hq3 => ⟨rfl, ⟨rfl, fun r5 hr5 => ⟨K3 _ _ _ _ hr5, rfl⟩⟩⟩, fun hq3 => ⟨rfl, fun hq4 => ⟨rfl, ⟨rfl, fun r6 hr6 => ⟨K4 _ _ _ _ hr6, rfl⟩⟩⟩, fun hq4 => ⟨rfl, fun hq5 => fun r7 hr7 => ⟨K5 _ _ _ hr7, rfl⟩, fun hq5 => ⟨rfl, fun hq6 => fun r8 hr8 => ⟨K5 _ _ _ hr8, rfl⟩, fun hq6 => fun r9 hr9 => ⟨K6 _ _ hr9, fun r10 hr10 => ⟨K5 _ _ _ hr10, rfl⟩⟩⟩⟩⟩⟩⟩⟩⟩⟩
theorem isa_get_c {C0 : Nat → ByteArray → Option (T_isa_plain × Bool)} {D0 : ByteArray → Option (T_isa_plain × Bool)} (H0 : ∀ (a0 : ByteArray), Cv (fun k => C0 k a0) (D0 a0)) {C1 : Nat → T_isa_plain → Int → Option Int} {D1 : T_isa_plain → Int → Option Int} (H1 : ∀ (a0 : T_isa_plain) (a1 : Int), Cv (fun k => C1 k a0 a1) (D1 a0 a1)) {C2 : Nat → ByteArray → Option Int} {D2 : ByteArray → Option Int} (H2 : ∀ (a0 : ByteArray), Cv (fun k => C2 k a0) (D2 a0)) {C3 : Nat → Int → Int → Int → Option Int} {D3 : Int → Int → Int → Option Int} (H3 : ∀ (a0 : Int) (a1 : Int) (a2 : Int), Cv (fun k => C3 k a0 a1 a2) (D3 a0 a1 a2)) {C4 : Nat → Int → Int → Int → Option Int} {D4 : Int → Int → Int → Option Int} (H4 : ∀ (a0 : Int) (a1 : Int) (a2 : Int), Cv (fun k => C4 k a0 a1 a2) (D4 a0 a1 a2)) {C5 : Nat → Int → Int → Option Int} {D5 : Int → Int → Option Int} (H5 : ∀ (a0 : Int) (a1 : Int), Cv (fun k => C5 k a0 a1) (D5 a0 a1)) {C6 : Nat → ByteArray → Option Int} {D6 : ByteArray → Option Int} (H6 : ∀ (a0 : ByteArray), Cv (fun k => C6 k a0) (D6 a0)) (a0 : ByteArray) (a1 : Int) : Cv (fun k => isa_get_b (C0 k) (C1 k) (C2 k) (C3 k) (C4 k) (C5 k) (C6 k) a0 a1) (isa_get_b D0 D1 D2 D3 D4 D5 D6 a0 a1) := by
  unfold isa_get_b
  exact .bind (H0 _) fun r1 => .cond (.bind (H1 _ _) fun r2 => by exact .const _) (.cond (.bind (H2 _) fun r3 => by exact .const _) (.cond (.bind (H2 _) fun r4 => by exact .const _) (.cond (.bind (H3 _ _ _) fun r5 => by exact .const _) (.cond (.bind (H4 _ _ _) fun r6 => by exact .const _) (.cond (.bind (H5 _ _) fun r7 => by exact .const _) (.cond (.bind (H5 _ _) fun r8 => by exact .const _) (.bind (H6 _) fun r9 => .bind (H5 _ _) fun r10 => by exact .const _)))))))
def isa_get.s : Nat → ByteArray → Int → Option Int
  | 0, _, _ => none
  | k + 1, a0, a1 => isa_get_b (fun a0 => isa_plains.s k a0) (fun a0 a1 => isa_plain_get.s k a0 a1) (fun a0 => isa_place.s k a0) (fun a0 a1 a2 => imm_Joined.s k a0 a1 a2) (fun a0 a1 a2 => imm_Back.s k a0 a1 a2) (fun a0 a1 => imm_Sign.s k a0 a1) (fun a0 => isa_wide.s k a0) a0 a1
theorem isa_get.ok : ∀ (k : Nat), ∀ (a0 : ByteArray) (a1 : Int) (r : Int), isa_get.s k a0 a1 = some r → evalFn Tryz.prog G k 56 [.sc (.string a0), .sc (.int .u32 a1)] [] = some (isa_get_e r)
  | 0, _, _, _, h => (nomatch h)
  | k + 1, a0, a1, r, h => fn_ok rfl (isa_get_t Tryz.prog (evalFn Tryz.prog G k) (fun a0 => isa_plains.s k a0) (fun a0 a1 => isa_plain_get.s k a0 a1) (fun a0 => isa_place.s k a0) (fun a0 a1 a2 => imm_Joined.s k a0 a1 a2) (fun a0 a1 a2 => imm_Back.s k a0 a1 a2) (fun a0 a1 => imm_Sign.s k a0 a1) (fun a0 => isa_wide.s k a0) a0 a1) (isa_get_n _ _ _ _ _ _ _ _ a0 a1) (isa_get_k _ _ _ _ _ _ _ _ _ _ (isa_plains.ok k) (isa_plain_get.ok k) (isa_place.ok k) (imm_Joined.ok k) (imm_Back.ok k) (imm_Sign.ok k) (isa_wide.ok k)  a0 a1) h
theorem isa_get.mono : ∀ (k : Nat) (a0 : ByteArray) (a1 : Int), Le (isa_get.s k a0 a1) (isa_get.s (k + 1) a0 a1)
  | 0, _, _ => fun r h => (nomatch h)
  | k + 1, a0, a1 => (isa_get_c (fun a0 => .two ((isa_plains.mono k) a0)) (fun a0 a1 => .two ((isa_plain_get.mono k) a0 a1)) (fun a0 => .two ((isa_place.mono k) a0)) (fun a0 a1 a2 => .two ((imm_Joined.mono k) a0 a1 a2)) (fun a0 a1 a2 => .two ((imm_Back.mono k) a0 a1 a2)) (fun a0 a1 => .two ((imm_Sign.mono k) a0 a1)) (fun a0 => .two ((isa_wide.mono k) a0)) a0 a1).1 0
noncomputable def isa_get (a0 : ByteArray) (a1 : Int) : Option Int := lim fun k => isa_get.s k a0 a1
theorem isa_get.cv (a0 : ByteArray) (a1 : Int) : Cv (fun k => isa_get.s k a0 a1) (isa_get a0 a1) := .lim fun k => isa_get.mono k a0 a1
theorem isa_get.eq (a0 : ByteArray) (a1 : Int) : isa_get a0 a1 = isa_get_b isa_plains isa_plain_get isa_place imm_Joined imm_Back imm_Sign isa_wide a0 a1 := Cv.uniq (isa_get.cv a0 a1).shift (isa_get_c isa_plains.cv isa_plain_get.cv isa_place.cv imm_Joined.cv imm_Back.cv imm_Sign.cv isa_wide.cv a0 a1)
def isa_code_1_e (r : Int) : AV × Heap := (.sc (.int .u32 r), [])
def isa_code_1_b  (a0 : T_isa_row) : Option Int := (some a0.bits)
def isa_code_1_t (P : Program) (call : CallF)  (a0 : T_isa_row) : Tr Int (AV × Heap) := (rt isa_code_1_e a0.bits)
theorem isa_code_1_n (call : CallF)  (a0 : T_isa_row) : (isa_code_1_t Tryz.prog call  a0).norm (bodyT Tryz.prog call G 80 [.agg (C_isa_row a0)] []) = isa_code_1_t Tryz.prog call  a0 := by kernel_rfl
theorem isa_code_1_k (P : Program) (call : CallF) (lp : Loops)   (a0 : T_isa_row) : (isa_code_1_t P call  a0).ok lp isa_code_1_e := rfl
def isa_code_1.s : Nat → T_isa_row → Option Int
  | 0, _ => none
  | k + 1, a0 => isa_code_1_b  a0
theorem isa_code_1.ok : ∀ (k : Nat), ∀ (a0 : T_isa_row) (r : Int), isa_code_1.s k a0 = some r → evalFn Tryz.prog G k 80 [.agg (C_isa_row a0)] [] = some (isa_code_1_e r)
  | 0, _, _, h => (nomatch h)
  | k + 1, a0, r, h => fn_ok rfl (isa_code_1_t Tryz.prog (evalFn Tryz.prog G k)  a0) (isa_code_1_n _  a0) (isa_code_1_k _ _ _    a0) h
theorem isa_code_1.mono : ∀ (k : Nat) (a0 : T_isa_row), Le (isa_code_1.s k a0) (isa_code_1.s (k + 1) a0)
  | 0, _ => fun r h => (nomatch h)
  | k + 1, a0 => .refl _
noncomputable def isa_code_1 (a0 : T_isa_row) : Option Int := lim fun k => isa_code_1.s k a0
theorem isa_code_1.cv (a0 : T_isa_row) : Cv (fun k => isa_code_1.s k a0) (isa_code_1 a0) := .lim fun k => isa_code_1.mono k a0
theorem isa_code_1.eq (a0 : T_isa_row) : isa_code_1 a0 = isa_code_1_b  a0 := Cv.uniq (isa_code_1.cv a0).shift (by exact .const _)
def isa_of_3_e (r : Int) : AV × Heap := (.sc (.int .u32 r), [])
def isa_of_3_b (C0 : Option (List T_isa_row)) (C1 : T_isa_row → Option Int) (a0 : Int) : Option Int := ((C0).bind fun (r1 : (List T_isa_row)) => (bif (decide (a0 ≥ (0 : Int))) then (bif (decide (a0 < (((r1.length) : Nat) : Int))) then (bif (decide (0 ≤ a0)) then ((r1[(Int.toNat a0)]?).bind fun (e2 : T_isa_row) => ((C1 e2).bind fun (r3 : Int) => (some r3))) else none) else (some (0 : Int))) else (some (0 : Int))))
def isa_of_3_t (P : Program) (call : CallF) (C0 : Option (List T_isa_row)) (C1 : T_isa_row → Option Int) (a0 : Int) : Tr Int (AV × Heap) := (.call (call 52 [] []) (C0) isa_table_e fun (r1 : (List T_isa_row)) => (.as (decide (a0 ≥ (0 : Int))) (yesN 2 (decide (a0 ≥ (0 : Int))) (.num ((R_isa_row r1).length) (r1.length) (yesN 2 (decide (a0 ≥ (0 : Int))) (.as (decide (a0 < (((r1.length) : Nat) : Int))) (.as (decide (0 ≤ a0)) (.row ((R_isa_row r1)[(Int.toNat a0)]?) (r1[(Int.toNat a0)]?) C_isa_row fun (e2 : T_isa_row) => (.call (call 80 [.agg (C_isa_row e2)] []) (C1 e2) isa_code_1_e fun (r3 : Int) => (rt isa_of_3_e r3))) .fail) (rt isa_of_3_e (0 : Int)))))) (noN 4 (decide (a0 ≥ (0 : Int))) (.no false (rt isa_of_3_e (0 : Int))))))
theorem isa_of_3_n (call : CallF) (C0 : Option (List T_isa_row)) (C1 : T_isa_row → Option Int) (a0 : Int) : (isa_of_3_t Tryz.prog call C0 C1 a0).norm (bodyT Tryz.prog call G 79 [.sc (.int .i64 a0), .fn (.func 80) [] []] []) = isa_of_3_t Tryz.prog call C0 C1 a0 := by kernel_rfl
theorem isa_of_3_k (P : Program) (call : CallF) (lp : Loops) (C0 : Option (List T_isa_row)) (C1 : T_isa_row → Option Int) (K0 : ∀  (r : (List T_isa_row)), C0 = some r → (call 52 [] []) = some (isa_table_e r)) (K1 : ∀ (a0 : T_isa_row) (r : Int), C1 a0 = some r → (call 80 [.agg (C_isa_row a0)] []) = some (isa_code_1_e r)) (a0 : Int) : (isa_of_3_t P call C0 C1 a0).ok lp isa_of_3_e := fun r1 hr1 => ⟨K0 _ hr1, ⟨rfl, fun hq0 => yesN_ok 2 (hq0) (⟨(R_isa_row_len _), yesN_ok 2 (hq0) (⟨rfl, fun hq1 => ⟨rfl, fun hq2 => fun e2 he2 => ⟨R_isa_row_get he2, fun r3 hr3 => ⟨K1 _ _ hr3, rfl⟩⟩, fun hq2 => trivial⟩, fun hq1 => rfl⟩)⟩), fun hq0 => noN_ok 4 (hq0) (⟨rfl, rfl⟩)⟩⟩
theorem isa_of_3_c {C0 : Nat → Option (List T_isa_row)} {D0 : Option (List T_isa_row)} (H0 : Cv (fun k => C0 k ) (D0 )) {C1 : Nat → T_isa_row → Option Int} {D1 : T_isa_row → Option Int} (H1 : ∀ (a0 : T_isa_row), Cv (fun k => C1 k a0) (D1 a0)) (a0 : Int) : Cv (fun k => isa_of_3_b (C0 k) (C1 k) a0) (isa_of_3_b D0 D1 a0) := by
  unfold isa_of_3_b
  exact .bind (H0) fun r1 => .cond (.cond (.cond (.bind (.const (r1[(Int.toNat a0)]?)) fun e2 => .bind (H1 _) fun r3 => by exact .const _) (by exact .const _)) (by exact .const _)) (by exact .const _)
def isa_of_3.s : Nat → Int → Option Int
  | 0, _ => none
  | k + 1, a0 => isa_of_3_b (isa_table.s k) (fun a0 => isa_code_1.s k a0) a0
theorem isa_of_3.ok : ∀ (k : Nat), ∀ (a0 : Int) (r : Int), isa_of_3.s k a0 = some r → evalFn Tryz.prog G k 79 [.sc (.int .i64 a0), .fn (.func 80) [] []] [] = some (isa_of_3_e r)
  | 0, _, _, h => (nomatch h)
  | k + 1, a0, r, h => fn_ok rfl (isa_of_3_t Tryz.prog (evalFn Tryz.prog G k) (isa_table.s k) (fun a0 => isa_code_1.s k a0) a0) (isa_of_3_n _ _ _ a0) (isa_of_3_k _ _ _ _ _ (isa_table.ok k) (isa_code_1.ok k)  a0) h
theorem isa_of_3.mono : ∀ (k : Nat) (a0 : Int), Le (isa_of_3.s k a0) (isa_of_3.s (k + 1) a0)
  | 0, _ => fun r h => (nomatch h)
  | k + 1, a0 => (isa_of_3_c (.two (isa_table.mono k)) (fun a0 => .two ((isa_code_1.mono k) a0)) a0).1 0
noncomputable def isa_of_3 (a0 : Int) : Option Int := lim fun k => isa_of_3.s k a0
theorem isa_of_3.cv (a0 : Int) : Cv (fun k => isa_of_3.s k a0) (isa_of_3 a0) := .lim fun k => isa_of_3.mono k a0
theorem isa_of_3.eq (a0 : Int) : isa_of_3 a0 = isa_of_3_b isa_table isa_code_1 a0 := Cv.uniq (isa_of_3.cv a0).shift (isa_of_3_c isa_table.cv isa_code_1.cv a0)
def isa_plain_put_e (r : (Int × Bool)) : AV × Heap := (.tup [.sc (.int .u32 r.1), .sc (.bool r.2)], [])
def isa_plain_put_b  (a0 : T_isa_plain) (a1 : Int) : Option (Int × Bool) := (bif (decide (a1 < a0.less)) then (some ((0 : Int), false)) else (bif (decide (0 ≤ a0.bits)) then (bif (decide ((w64 (a1 - a0.less)) ≥ (shlI .i64 a0.step a0.bits))) then (some ((0 : Int), false)) else (bif (decide (a0.step ≠ 0)) then (bif ((Int.tmod (w64 (a1 - a0.less)) a0.step) != (0 : Int)) then (some ((0 : Int), false)) else (bif (decide (0 ≤ a0.at_)) then (some ((shlI .u32 (IntKind.u32.wrap (w64 (Int.tdiv (w64 (a1 - a0.less)) a0.step))) a0.at_), true)) else none)) else none)) else none))
def isa_plain_put_t (P : Program) (call : CallF)  (a0 : T_isa_plain) (a1 : Int) : Tr (Int × Bool) (AV × Heap) := (.as (decide (a1 < a0.less)) (yesN 10 (decide (a1 < a0.less)) (yesN 10 true (rt isa_plain_put_e ((0 : Int), false)))) (noN 8 (decide (a1 < a0.less)) (.as (decide (0 ≤ a0.bits)) (noN 2 (decide (a1 < a0.less)) (.as (decide ((w64 (a1 - a0.less)) ≥ (shlI .i64 a0.step a0.bits))) (yesN 8 (decide ((w64 (a1 - a0.less)) ≥ (shlI .i64 a0.step a0.bits))) (.yes true (rt isa_plain_put_e ((0 : Int), false)))) (noN 6 (decide ((w64 (a1 - a0.less)) ≥ (shlI .i64 a0.step a0.bits))) (.as (decide (a0.step ≠ 0)) (noN 2 (decide ((w64 (a1 - a0.less)) ≥ (shlI .i64 a0.step a0.bits))) (.as ((Int.tmod (w64 (a1 - a0.less)) a0.step) != (0 : Int)) (rt isa_plain_put_e ((0 : Int), false)) (.yes (decide (a0.step ≠ 0)) (.as (decide (0 ≤ a0.at_)) (rt isa_plain_put_e ((shlI .u32 (IntKind.u32.wrap (w64 (Int.tdiv (w64 (a1 - a0.less)) a0.step))) a0.at_), true)) .fail)))) .fail)))) .fail)))
theorem isa_plain_put_n (call : CallF)  (a0 : T_isa_plain) (a1 : Int) : (isa_plain_put_t Tryz.prog call  a0 a1).norm (bodyT Tryz.prog call G 96 [.agg (C_isa_plain a0), .sc (.int .i64 a1)] []) = isa_plain_put_t Tryz.prog call  a0 a1 := by kernel_rfl
theorem isa_plain_put_k (P : Program) (call : CallF) (lp : Loops)   (a0 : T_isa_plain) (a1 : Int) : (isa_plain_put_t P call  a0 a1).ok lp isa_plain_put_e := ⟨rfl, fun hq0 => yesN_ok 10 (hq0) (yesN_ok 10 (rfl) (rfl)), fun hq0 => noN_ok 8 (hq0) (⟨rfl, fun hq1 => noN_ok 2 (hq0) (⟨rfl, fun hq2 => yesN_ok 8 (hq2) (⟨rfl, rfl⟩), fun hq2 => noN_ok 6 (hq2) (⟨rfl, fun hq3 => noN_ok 2 (hq2) (⟨rfl, fun hq4 => rfl, fun hq4 => ⟨hq3, ⟨rfl, fun hq5 => rfl, fun hq5 => trivial⟩⟩⟩), fun hq3 => trivial⟩)⟩), fun hq1 => trivial⟩)⟩
def isa_plain_put.s : Nat → T_isa_plain → Int → Option (Int × Bool)
  | 0, _, _ => none
  | k + 1, a0, a1 => isa_plain_put_b  a0 a1
theorem isa_plain_put.ok : ∀ (k : Nat), ∀ (a0 : T_isa_plain) (a1 : Int) (r : (Int × Bool)), isa_plain_put.s k a0 a1 = some r → evalFn Tryz.prog G k 96 [.agg (C_isa_plain a0), .sc (.int .i64 a1)] [] = some (isa_plain_put_e r)
  | 0, _, _, _, h => (nomatch h)
  | k + 1, a0, a1, r, h => fn_ok rfl (isa_plain_put_t Tryz.prog (evalFn Tryz.prog G k)  a0 a1) (isa_plain_put_n _  a0 a1) (isa_plain_put_k _ _ _    a0 a1) h
theorem isa_plain_put.mono : ∀ (k : Nat) (a0 : T_isa_plain) (a1 : Int), Le (isa_plain_put.s k a0 a1) (isa_plain_put.s (k + 1) a0 a1)
  | 0, _, _ => fun r h => (nomatch h)
  | k + 1, a0, a1 => .refl _
noncomputable def isa_plain_put (a0 : T_isa_plain) (a1 : Int) : Option (Int × Bool) := lim fun k => isa_plain_put.s k a0 a1
theorem isa_plain_put.cv (a0 : T_isa_plain) (a1 : Int) : Cv (fun k => isa_plain_put.s k a0 a1) (isa_plain_put a0 a1) := .lim fun k => isa_plain_put.mono k a0 a1
theorem isa_plain_put.eq (a0 : T_isa_plain) (a1 : Int) : isa_plain_put a0 a1 = isa_plain_put_b  a0 a1 := Cv.uniq (isa_plain_put.cv a0 a1).shift (by exact .const _)
def imm_Split_e (r : (Int × Int × Int)) : AV × Heap := (.tup [.sc (.int .i64 r.1), .sc (.int .i64 r.2.1), .sc (.int .i64 r.2.2)], [])
def imm_Split_b  (a0 : Int) : Option (Int × Int × Int) := (some ((andI .i64 (shrI .i64 a0 (16 : Int)) (15 : Int)), (andI .i64 (shrI .i64 a0 (11 : Int)) (31 : Int)), (andI .i64 a0 (2047 : Int))))
def imm_Split_t (P : Program) (call : CallF)  (a0 : Int) : Tr (Int × Int × Int) (AV × Heap) := (.yes (decide (0 ≤ (16 : Int))) (.yes (decide (0 ≤ (11 : Int))) (rt imm_Split_e ((andI .i64 (shrI .i64 a0 (16 : Int)) (15 : Int)), (andI .i64 (shrI .i64 a0 (11 : Int)) (31 : Int)), (andI .i64 a0 (2047 : Int))))))
theorem imm_Split_n (call : CallF)  (a0 : Int) : (imm_Split_t Tryz.prog call  a0).norm (bodyT Tryz.prog call G 97 [.sc (.int .i64 a0)] []) = imm_Split_t Tryz.prog call  a0 := by kernel_rfl
theorem imm_Split_k (P : Program) (call : CallF) (lp : Loops)   (a0 : Int) : (imm_Split_t P call  a0).ok lp imm_Split_e := ⟨rfl, ⟨rfl, rfl⟩⟩
def imm_Split.s : Nat → Int → Option (Int × Int × Int)
  | 0, _ => none
  | k + 1, a0 => imm_Split_b  a0
theorem imm_Split.ok : ∀ (k : Nat), ∀ (a0 : Int) (r : (Int × Int × Int)), imm_Split.s k a0 = some r → evalFn Tryz.prog G k 97 [.sc (.int .i64 a0)] [] = some (imm_Split_e r)
  | 0, _, _, h => (nomatch h)
  | k + 1, a0, r, h => fn_ok rfl (imm_Split_t Tryz.prog (evalFn Tryz.prog G k)  a0) (imm_Split_n _  a0) (imm_Split_k _ _ _    a0) h
theorem imm_Split.mono : ∀ (k : Nat) (a0 : Int), Le (imm_Split.s k a0) (imm_Split.s (k + 1) a0)
  | 0, _ => fun r h => (nomatch h)
  | k + 1, a0 => .refl _
noncomputable def imm_Split (a0 : Int) : Option (Int × Int × Int) := lim fun k => imm_Split.s k a0
theorem imm_Split.cv (a0 : Int) : Cv (fun k => imm_Split.s k a0) (imm_Split a0) := .lim fun k => imm_Split.mono k a0
theorem imm_Split.eq (a0 : Int) : imm_Split a0 = imm_Split_b  a0 := Cv.uniq (imm_Split.cv a0).shift (by exact .const _)
def imm_Fits_e (r : Bool) : AV × Heap := (.sc (.bool r), [])
def imm_Fits.s : Nat → Int → Int → Option Bool
  | 0, _, _ => none
  | _ + 1, a0, a1 => fitsS a0 a1
theorem imm_Fits.ok : ∀ (k : Nat), ∀ (a0 : Int) (a1 : Int) (r : Bool), imm_Fits.s k a0 a1 = some r → evalFn Tryz.prog G k 98 [.sc (.int .i64 a0), .sc (.int .i64 a1)] [] = some (imm_Fits_e r)
  | 0, _, _, _, h => (nomatch h)
  | k + 1, a0, a1, r, h => fits_ok h
noncomputable def imm_Fits (a0 : Int) (a1 : Int) : Option Bool := fitsS a0 a1
theorem imm_Fits.mono (k : Nat) (a0 : Int) (a1 : Int) : Le (imm_Fits.s k a0 a1) (imm_Fits.s (k + 1) a0 a1) := by
  cases k with
  | zero => exact fun r h => nomatch h
  | succ k => exact Le.refl _
theorem imm_Fits.cv (a0 : Int) (a1 : Int) : Cv (fun k => imm_Fits.s k a0 a1) (imm_Fits a0 a1) := ⟨fun k => imm_Fits.mono k a0 a1, fun r => ⟨fun h => ⟨1, h⟩, fun ⟨k, h⟩ => by
  cases k with
  | zero => cases h
  | succ k => exact h⟩⟩
def imm_forms_e (r : (List T_imm_form)) : AV × Heap := (.sl (R_imm_form r), [])
def imm_forms_b   : Option (List T_imm_form) := (some [(T_imm_form.mk (0 : Int) (0 : Int)), (T_imm_form.mk (0 : Int) (1 : Int)), (T_imm_form.mk (0 : Int) (2 : Int)), (T_imm_form.mk (0 : Int) (3 : Int)), (T_imm_form.mk (1 : Int) (0 : Int)), (T_imm_form.mk (1 : Int) (1 : Int)), (T_imm_form.mk (1 : Int) (2 : Int)), (T_imm_form.mk (1 : Int) (3 : Int))])
def imm_forms_t (P : Program) (call : CallF)   : Tr (List T_imm_form) (AV × Heap) := (.rows [[.sc (.int .i64 (0 : Int)), .sc (.int .i64 (0 : Int))], [.sc (.int .i64 (0 : Int)), .sc (.int .i64 (1 : Int))], [.sc (.int .i64 (0 : Int)), .sc (.int .i64 (2 : Int))], [.sc (.int .i64 (0 : Int)), .sc (.int .i64 (3 : Int))], [.sc (.int .i64 (1 : Int)), .sc (.int .i64 (0 : Int))], [.sc (.int .i64 (1 : Int)), .sc (.int .i64 (1 : Int))], [.sc (.int .i64 (1 : Int)), .sc (.int .i64 (2 : Int))], [.sc (.int .i64 (1 : Int)), .sc (.int .i64 (3 : Int))]] (R_imm_form [(T_imm_form.mk (0 : Int) (0 : Int)), (T_imm_form.mk (0 : Int) (1 : Int)), (T_imm_form.mk (0 : Int) (2 : Int)), (T_imm_form.mk (0 : Int) (3 : Int)), (T_imm_form.mk (1 : Int) (0 : Int)), (T_imm_form.mk (1 : Int) (1 : Int)), (T_imm_form.mk (1 : Int) (2 : Int)), (T_imm_form.mk (1 : Int) (3 : Int))]) (rt imm_forms_e [(T_imm_form.mk (0 : Int) (0 : Int)), (T_imm_form.mk (0 : Int) (1 : Int)), (T_imm_form.mk (0 : Int) (2 : Int)), (T_imm_form.mk (0 : Int) (3 : Int)), (T_imm_form.mk (1 : Int) (0 : Int)), (T_imm_form.mk (1 : Int) (1 : Int)), (T_imm_form.mk (1 : Int) (2 : Int)), (T_imm_form.mk (1 : Int) (3 : Int))]))
theorem imm_forms_n (call : CallF)   : (imm_forms_t Tryz.prog call  ).norm (bodyT Tryz.prog call G 109 [] []) = imm_forms_t Tryz.prog call   := by kernel_rfl
theorem imm_forms_k (P : Program) (call : CallF) (lp : Loops)    : (imm_forms_t P call  ).ok lp imm_forms_e := ⟨(R_imm_form_map [(T_imm_form.mk (0 : Int) (0 : Int)), (T_imm_form.mk (0 : Int) (1 : Int)), (T_imm_form.mk (0 : Int) (2 : Int)), (T_imm_form.mk (0 : Int) (3 : Int)), (T_imm_form.mk (1 : Int) (0 : Int)), (T_imm_form.mk (1 : Int) (1 : Int)), (T_imm_form.mk (1 : Int) (2 : Int)), (T_imm_form.mk (1 : Int) (3 : Int))]), rfl⟩
def imm_forms.s : Nat → Option (List T_imm_form)
  | 0 => none
  | k + 1 => imm_forms_b  
theorem imm_forms.ok : ∀ (k : Nat), ∀  (r : (List T_imm_form)), imm_forms.s k  = some r → evalFn Tryz.prog G k 109 [] [] = some (imm_forms_e r)
  | 0, _, h => (nomatch h)
  | k + 1, r, h => fn_ok rfl (imm_forms_t Tryz.prog (evalFn Tryz.prog G k)  ) (imm_forms_n _  ) (imm_forms_k _ _ _    ) h
theorem imm_forms.mono : ∀ (k : Nat), Le (imm_forms.s k ) (imm_forms.s (k + 1) )
  | 0 => fun r h => (nomatch h)
  | k + 1 => .refl _
noncomputable def imm_forms  : Option (List T_imm_form) := lim fun k => imm_forms.s k 
theorem imm_forms.cv  : Cv (fun k => imm_forms.s k ) (imm_forms ) := .lim fun k => imm_forms.mono k 
theorem imm_forms.eq  : imm_forms  = imm_forms_b   := Cv.uniq (imm_forms.cv ).shift (by exact .const _)
def imm_form_of_e (r : Int) : AV × Heap := (.sc (.int .i64 r), [])
def imm_form_of_b (C0 : Int → Int → Int → Option Int) (a0 : T_imm_form) (a1 : Int) : Option Int := ((C0 a0.f a0.scale a1).bind fun (r1 : Int) => (some r1))
def imm_form_of_t (P : Program) (call : CallF) (C0 : Int → Int → Int → Option Int) (a0 : T_imm_form) (a1 : Int) : Tr Int (AV × Heap) := (.call (call 76 [.sc (.int .i64 a0.f), .sc (.int .i64 a0.scale), .sc (.int .i64 a1)] []) (C0 a0.f a0.scale a1) imm_Back_e fun (r1 : Int) => (rt imm_form_of_e r1))
theorem imm_form_of_n (call : CallF) (C0 : Int → Int → Int → Option Int) (a0 : T_imm_form) (a1 : Int) : (imm_form_of_t Tryz.prog call C0 a0 a1).norm (bodyT Tryz.prog call G 111 [.agg (C_imm_form a0), .sc (.int .i64 a1)] []) = imm_form_of_t Tryz.prog call C0 a0 a1 := by kernel_rfl
theorem imm_form_of_k (P : Program) (call : CallF) (lp : Loops) (C0 : Int → Int → Int → Option Int) (K0 : ∀ (a0 : Int) (a1 : Int) (a2 : Int) (r : Int), C0 a0 a1 a2 = some r → (call 76 [.sc (.int .i64 a0), .sc (.int .i64 a1), .sc (.int .i64 a2)] []) = some (imm_Back_e r)) (a0 : T_imm_form) (a1 : Int) : (imm_form_of_t P call C0 a0 a1).ok lp imm_form_of_e := fun r1 hr1 => ⟨K0 _ _ _ _ hr1, rfl⟩
theorem imm_form_of_c {C0 : Nat → Int → Int → Int → Option Int} {D0 : Int → Int → Int → Option Int} (H0 : ∀ (a0 : Int) (a1 : Int) (a2 : Int), Cv (fun k => C0 k a0 a1 a2) (D0 a0 a1 a2)) (a0 : T_imm_form) (a1 : Int) : Cv (fun k => imm_form_of_b (C0 k) a0 a1) (imm_form_of_b D0 a0 a1) := by
  unfold imm_form_of_b
  exact .bind (H0 _ _ _) fun r1 => by exact .const _
def imm_form_of.s : Nat → T_imm_form → Int → Option Int
  | 0, _, _ => none
  | k + 1, a0, a1 => imm_form_of_b (fun a0 a1 a2 => imm_Back.s k a0 a1 a2) a0 a1
theorem imm_form_of.ok : ∀ (k : Nat), ∀ (a0 : T_imm_form) (a1 : Int) (r : Int), imm_form_of.s k a0 a1 = some r → evalFn Tryz.prog G k 111 [.agg (C_imm_form a0), .sc (.int .i64 a1)] [] = some (imm_form_of_e r)
  | 0, _, _, _, h => (nomatch h)
  | k + 1, a0, a1, r, h => fn_ok rfl (imm_form_of_t Tryz.prog (evalFn Tryz.prog G k) (fun a0 a1 a2 => imm_Back.s k a0 a1 a2) a0 a1) (imm_form_of_n _ _ a0 a1) (imm_form_of_k _ _ _ _ (imm_Back.ok k)  a0 a1) h
theorem imm_form_of.mono : ∀ (k : Nat) (a0 : T_imm_form) (a1 : Int), Le (imm_form_of.s k a0 a1) (imm_form_of.s (k + 1) a0 a1)
  | 0, _, _ => fun r h => (nomatch h)
  | k + 1, a0, a1 => (imm_form_of_c (fun a0 a1 a2 => .two ((imm_Back.mono k) a0 a1 a2)) a0 a1).1 0
noncomputable def imm_form_of (a0 : T_imm_form) (a1 : Int) : Option Int := lim fun k => imm_form_of.s k a0 a1
theorem imm_form_of.cv (a0 : T_imm_form) (a1 : Int) : Cv (fun k => imm_form_of.s k a0 a1) (imm_form_of a0 a1) := .lim fun k => imm_form_of.mono k a0 a1
theorem imm_form_of.eq (a0 : T_imm_form) (a1 : Int) : imm_form_of a0 a1 = imm_form_of_b imm_Back a0 a1 := Cv.uniq (imm_form_of.cv a0 a1).shift (imm_form_of_c imm_Back.cv a0 a1)
def imm_found_e (r : Int) : AV × Heap := (.sc (.int .i64 r), [])
structure imm_found_L1_A where
  x0 : Int
  x1_f0 : T_imm_form
  x6 : Int
def imm_found_L1_s (a : imm_found_L1_A) : St := { n := 16, nx := 0, env := [(0, .sc (.int .i64 a.x0)), (1, .fn (.func 111) [.agg (C_imm_form a.x1_f0)] []), (6, .sc (.int .i64 a.x6))], heap := [] }
def imm_found_L1_e0 (a : Int) : Ex × St := (.ret, { n := 16, nx := 0, env := [(4, .sc (.int .i64 a))], heap := [] })
def imm_found_L1_e1 (a : Unit) : Ex × St := (.exit 0, { n := 16, nx := 0, env := [], heap := [] })
def imm_found_L1_e (a : (Int ⊕ Unit)) : Ex × St := Sum.elim imm_found_L1_e0 imm_found_L1_e1 a
def imm_found_L1_b (C0 : T_imm_form → Int → Option Int) (a : imm_found_L1_A) : Option (imm_found_L1_A ⊕ (Int ⊕ Unit)) := (bif (decide (a.x6 < (256 : Int))) then ((C0 a.x1_f0 a.x6).bind fun (r1 : Int) => (bif (r1 == a.x0) then (some (.inr (.inl a.x6))) else (some (.inl (imm_found_L1_A.mk a.x0 a.x1_f0 (w64 (a.x6 + (1 : Int)))))))) else (some (.inr (.inr ()))))
def imm_found_L1_t (P : Program) (call : CallF) (C0 : T_imm_form → Int → Option Int) (a : imm_found_L1_A) : Tr (imm_found_L1_A ⊕ (Int ⊕ Unit)) (Ex × St) := (.as (decide (a.x6 < (256 : Int))) (.call (call 111 [.agg (C_imm_form a.x1_f0), .sc (.int .i64 a.x6)] []) (C0 a.x1_f0 a.x6) imm_form_of_e fun (r1 : Int) => (.as (r1 == a.x0) (rx imm_found_L1_e (.inl a.x6)) (lf imm_found_L1_s (imm_found_L1_A.mk a.x0 a.x1_f0 (w64 (a.x6 + (1 : Int))))))) (rx imm_found_L1_e (.inr ())))
theorem imm_found_L1_n (call : CallF) (C0 : T_imm_form → Int → Option Int) (a : imm_found_L1_A) : (imm_found_L1_t Tryz.prog call C0 a).norm (roundT Tryz.prog G.kd call 0 (G.an 110) (loopAt Tryz.prog 110 2) (imm_found_L1_s a)) = imm_found_L1_t Tryz.prog call C0 a := by kernel_rfl
theorem imm_found_L1_k (P : Program) (call : CallF) (lp : Loops) (C0 : T_imm_form → Int → Option Int) (K0 : ∀ (a0 : T_imm_form) (a1 : Int) (r : Int), C0 a0 a1 = some r → (call 111 [.agg (C_imm_form a0), .sc (.int .i64 a1)] []) = some (imm_form_of_e r)) (a : imm_found_L1_A) : (imm_found_L1_t P call C0 a).ok lp (Sum.elim (fun a => (.norm, imm_found_L1_s a)) imm_found_L1_e) := ⟨rfl, fun hq0 => fun r1 hr1 => ⟨K0 _ _ _ hr1, ⟨rfl, fun hq1 => rfl, fun hq1 => rfl⟩⟩, fun hq0 => rfl⟩
theorem imm_found_L1_c {C0 : Nat → T_imm_form → Int → Option Int} {D0 : T_imm_form → Int → Option Int} (H0 : ∀ (a0 : T_imm_form) (a1 : Int), Cv (fun k => C0 k a0 a1) (D0 a0 a1)) (a : imm_found_L1_A) : Cv (fun k => imm_found_L1_b (C0 k) a) (imm_found_L1_b D0 a) := by
  unfold imm_found_L1_b
  exact .cond (.bind (H0 _ _) fun r1 => by exact .const _) (by exact .const _)
def imm_found_L1.s (k : Nat) (C0 : T_imm_form → Int → Option Int) : imm_found_L1_A → Option (Int ⊕ Unit) := iter (imm_found_L1_b C0) k
theorem imm_found_L1_ok (call : CallF) (k : Nat) (C0 : T_imm_form → Int → Option Int) (K0 : ∀ (a0 : T_imm_form) (a1 : Int) (r : Int), C0 a0 a1 = some r → (call 111 [.agg (C_imm_form a0), .sc (.int .i64 a1)] []) = some (imm_form_of_e r)) (a : imm_found_L1_A) (r : (Int ⊕ Unit)) (h : imm_found_L1.s k C0 a = some r) : loopsF Tryz.prog G.kd call 0 (G.an 110) k (loopAt Tryz.prog 110 2) (imm_found_L1_s a) = some (imm_found_L1_e r) :=
  loop_ok (fun a => imm_found_L1_t Tryz.prog call C0 a) (fun _ => rfl) (fun a => imm_found_L1_n call _ a) (fun a => imm_found_L1_k _ call _ _ K0 a) (fun r => by cases r <;> nofun) h
theorem imm_found_L1.m {j k : Nat} (hj : j ≤ k) (C0 : T_imm_form → Int → Option Int) (D0 : T_imm_form → Int → Option Int) (H0 : ∀ (a0 : T_imm_form) (a1 : Int), Le (C0 a0 a1) (D0 a0 a1)) (a : imm_found_L1_A) : Le (imm_found_L1.s j C0 a) (imm_found_L1.s k D0 a) := Le.iter (fun a => (imm_found_L1_c (fun a0 a1 => .two (H0 a0 a1)) a).1 0) hj a
noncomputable def imm_found_L1.w (C0 : T_imm_form → Int → Option Int) : imm_found_L1_A → Option (Int ⊕ Unit) := loopW (imm_found_L1_b C0)
theorem imm_found_L1.cv (C0 : Nat → T_imm_form → Int → Option Int) (D0 : T_imm_form → Int → Option Int) (H0 : ∀ (a0 : T_imm_form) (a1 : Int), Cv (fun k => C0 k a0 a1) (D0 a0 a1)) (a : imm_found_L1_A) : Cv (fun k => imm_found_L1.s k (C0 k) a) (imm_found_L1.w D0 a) := Cv.iter (fun a => imm_found_L1_c H0 a) a
def imm_found_b (L0 : imm_found_L1_A → Option (Int ⊕ Unit)) (a0 : Int) (a1_f0 : T_imm_form) : Option Int := ((L0 (imm_found_L1_A.mk a0 a1_f0 (0 : Int))).bind fun x => Sum.elim (fun (o1 : Int) => (some o1)) (fun (o2 : Unit) => (some (-1 : Int))) x)
def imm_found_t (P : Program) (call : CallF) (L0 : imm_found_L1_A → Option (Int ⊕ Unit)) (a0 : Int) (a1_f0 : T_imm_form) : Tr Int (AV × Heap) := (.loop2 (loopAt P 110 2) (imm_found_L1_s (imm_found_L1_A.mk a0 a1_f0 (0 : Int))) (L0 (imm_found_L1_A.mk a0 a1_f0 (0 : Int))) imm_found_L1_e0 imm_found_L1_e1 (fun (o1 : Int) => (rt imm_found_e o1)) (fun (o2 : Unit) => (rt imm_found_e (-1 : Int))))
theorem imm_found_n (call : CallF) (L0 : imm_found_L1_A → Option (Int ⊕ Unit)) (a0 : Int) (a1_f0 : T_imm_form) : (imm_found_t Tryz.prog call L0 a0 a1_f0).norm (bodyT Tryz.prog call G 110 [.sc (.int .i64 a0), .fn (.func 111) [.agg (C_imm_form a1_f0)] []] []) = imm_found_t Tryz.prog call L0 a0 a1_f0 := by kernel_rfl
theorem imm_found_k (P : Program) (call : CallF) (lp : Loops) (L0 : imm_found_L1_A → Option (Int ⊕ Unit)) (N0 : ∀ (a : imm_found_L1_A) (r : (Int ⊕ Unit)), L0 a = some r → lp (loopAt P 110 2) (imm_found_L1_s a) = some (imm_found_L1_e r)) (a0 : Int) (a1_f0 : T_imm_form) : (imm_found_t P call L0 a0 a1_f0).ok lp imm_found_e := ⟨fun o1 ho1 => ⟨N0 _ (.inl _) ho1, rfl⟩, fun o2 ho2 => ⟨N0 _ (.inr _) ho2, rfl⟩⟩
theorem imm_found_c {L0 : Nat → imm_found_L1_A → Option (Int ⊕ Unit)} {M0 : imm_found_L1_A → Option (Int ⊕ Unit)} (N0 : ∀ a, Cv (fun k => L0 k a) (M0 a)) (a0 : Int) (a1_f0 : T_imm_form) : Cv (fun k => imm_found_b (L0 k) a0 a1_f0) (imm_found_b M0 a0 a1_f0) := by
  unfold imm_found_b
  exact .bind (N0 _) fun x => .sum (fun o1 => by exact .const _) (fun o2 => by exact .const _) x
def imm_found.s : Nat → Int → T_imm_form → Option Int
  | 0, _, _ => none
  | k + 1, a0, a1_f0 => imm_found_b (imm_found_L1.s k (fun a0 a1 => imm_form_of.s k a0 a1)) a0 a1_f0
theorem imm_found.ok : ∀ (k : Nat), ∀ (a0 : Int) (a1_f0 : T_imm_form) (r : Int), imm_found.s k a0 a1_f0 = some r → evalFn Tryz.prog G k 110 [.sc (.int .i64 a0), .fn (.func 111) [.agg (C_imm_form a1_f0)] []] [] = some (imm_found_e r)
  | 0, _, _, _, h => (nomatch h)
  | k + 1, a0, a1_f0, r, h => fn_ok rfl (imm_found_t Tryz.prog (evalFn Tryz.prog G k) (imm_found_L1.s k (fun a0 a1 => imm_form_of.s k a0 a1)) a0 a1_f0) (imm_found_n _ _ a0 a1_f0) (imm_found_k _ _ _ _  (imm_found_L1_ok _ k _ (imm_form_of.ok k)) a0 a1_f0) h
theorem imm_found.mono : ∀ (k : Nat) (a0 : Int) (a1_f0 : T_imm_form), Le (imm_found.s k a0 a1_f0) (imm_found.s (k + 1) a0 a1_f0)
  | 0, _, _ => fun r h => (nomatch h)
  | k + 1, a0, a1_f0 => (imm_found_c (fun a => .two ((imm_found_L1.m (Nat.le_succ k) (fun a0 a1 => imm_form_of.s k a0 a1) (fun a0 a1 => imm_form_of.s (k + 1) a0 a1) (imm_form_of.mono k)) a)) a0 a1_f0).1 0
noncomputable def imm_found (a0 : Int) (a1_f0 : T_imm_form) : Option Int := lim fun k => imm_found.s k a0 a1_f0
theorem imm_found.cv (a0 : Int) (a1_f0 : T_imm_form) : Cv (fun k => imm_found.s k a0 a1_f0) (imm_found a0 a1_f0) := .lim fun k => imm_found.mono k a0 a1_f0
noncomputable def imm_found_L1 : imm_found_L1_A → Option (Int ⊕ Unit) := imm_found_L1.w imm_form_of
theorem imm_found_L1.eq (a : imm_found_L1_A) : imm_found_L1 a = (imm_found_L1_b imm_form_of a).bind (Sum.elim imm_found_L1 some) := loopW_eq _ _
theorem imm_found.eq (a0 : Int) (a1_f0 : T_imm_form) : imm_found a0 a1_f0 = imm_found_b imm_found_L1 a0 a1_f0 := Cv.uniq (imm_found.cv a0 a1_f0).shift (imm_found_c (imm_found_L1.cv (fun k => fun a0 a1 => imm_form_of.s k a0 a1) imm_form_of imm_form_of.cv) a0 a1_f0)
def imm_Sci8_e (r : (Int × Int × Int × Bool)) : AV × Heap := (.tup [.sc (.int .i64 r.1), .sc (.int .i64 r.2.1), .sc (.int .i64 r.2.2.1), .sc (.bool r.2.2.2)], [])
structure imm_Sci8_L1_A where
  x0 : Int
  x8 : (List T_imm_form)
  x9 : Int
  x10 : Int
structure imm_Sci8_L1_O0 where
  x2 : Int
  x3 : Int
  x4 : Int
  x5 : Bool
def imm_Sci8_L1_s (a : imm_Sci8_L1_A) : St := { n := 26, nx := 0, env := [(0, .sc (.int .i64 a.x0)), (8, .sl (R_imm_form a.x8)), (9, .sc (.int .i64 a.x9)), (10, .sc (.int .i64 a.x10))], heap := [] }
def imm_Sci8_L1_e0 (a : imm_Sci8_L1_O0) : Ex × St := (.ret, { n := 26, nx := 0, env := [(2, .sc (.int .i64 a.x2)), (3, .sc (.int .i64 a.x3)), (4, .sc (.int .i64 a.x4)), (5, .sc (.bool a.x5))], heap := [] })
def imm_Sci8_L1_e1 (a : Unit) : Ex × St := (.exit 0, { n := 26, nx := 0, env := [], heap := [] })
def imm_Sci8_L1_e (a : (imm_Sci8_L1_O0 ⊕ Unit)) : Ex × St := Sum.elim imm_Sci8_L1_e0 imm_Sci8_L1_e1 a
def imm_Sci8_L1_b (C0 : Int → T_imm_form → Option Int) (a : imm_Sci8_L1_A) : Option (imm_Sci8_L1_A ⊕ (imm_Sci8_L1_O0 ⊕ Unit)) := (bif (decide (a.x10 < a.x9)) then (bif (decide (0 ≤ a.x10)) then ((a.x8[(Int.toNat a.x10)]?).bind fun (e1 : T_imm_form) => ((C0 a.x0 e1).bind fun (r2 : Int) => (bif (decide (r2 ≥ (0 : Int))) then (some (.inr (.inl (imm_Sci8_L1_O0.mk e1.f e1.scale r2 true)))) else (some (.inl (imm_Sci8_L1_A.mk a.x0 a.x8 a.x9 (w64 (a.x10 + (1 : Int))))))))) else none) else (some (.inr (.inr ()))))
def imm_Sci8_L1_t (P : Program) (call : CallF) (C0 : Int → T_imm_form → Option Int) (a : imm_Sci8_L1_A) : Tr (imm_Sci8_L1_A ⊕ (imm_Sci8_L1_O0 ⊕ Unit)) (Ex × St) := (.as (decide (a.x10 < a.x9)) (.as (decide (0 ≤ a.x10)) (.row ((R_imm_form a.x8)[(Int.toNat a.x10)]?) (a.x8[(Int.toNat a.x10)]?) C_imm_form fun (e1 : T_imm_form) => (.call (call 110 [.sc (.int .i64 a.x0), .fn (.func 111) [.agg (C_imm_form e1)] []] []) (C0 a.x0 e1) imm_found_e fun (r2 : Int) => (.as (decide (r2 ≥ (0 : Int))) (rx imm_Sci8_L1_e (.inl (imm_Sci8_L1_O0.mk e1.f e1.scale r2 true))) (lf imm_Sci8_L1_s (imm_Sci8_L1_A.mk a.x0 a.x8 a.x9 (w64 (a.x10 + (1 : Int)))))))) .fail) (rx imm_Sci8_L1_e (.inr ())))
theorem imm_Sci8_L1_n (call : CallF) (C0 : Int → T_imm_form → Option Int) (a : imm_Sci8_L1_A) : (imm_Sci8_L1_t Tryz.prog call C0 a).norm (roundT Tryz.prog G.kd call 0 (G.an 99) (loopAt Tryz.prog 99 2) (imm_Sci8_L1_s a)) = imm_Sci8_L1_t Tryz.prog call C0 a := by kernel_rfl
theorem imm_Sci8_L1_k (P : Program) (call : CallF) (lp : Loops) (C0 : Int → T_imm_form → Option Int) (K0 : ∀ (a0 : Int) (a1_f0 : T_imm_form) (r : Int), C0 a0 a1_f0 = some r → (call 110 [.sc (.int .i64 a0), .fn (.func 111) [.agg (C_imm_form a1_f0)] []] []) = some (imm_found_e r)) (a : imm_Sci8_L1_A) : (imm_Sci8_L1_t P call C0 a).ok lp (Sum.elim (fun a => (.norm, imm_Sci8_L1_s a)) imm_Sci8_L1_e) := ⟨rfl, fun hq0 => ⟨rfl, fun hq1 => fun e1 he1 => ⟨R_imm_form_get he1, fun r2 hr2 => ⟨K0 _ _ _ hr2, ⟨rfl, fun hq2 => rfl, fun hq2 => rfl⟩⟩⟩, fun hq1 => trivial⟩, fun hq0 => rfl⟩
theorem imm_Sci8_L1_c {C0 : Nat → Int → T_imm_form → Option Int} {D0 : Int → T_imm_form → Option Int} (H0 : ∀ (a0 : Int) (a1_f0 : T_imm_form), Cv (fun k => C0 k a0 a1_f0) (D0 a0 a1_f0)) (a : imm_Sci8_L1_A) : Cv (fun k => imm_Sci8_L1_b (C0 k) a) (imm_Sci8_L1_b D0 a) := by
  unfold imm_Sci8_L1_b
  exact .cond (.cond (.bind (.const (a.x8[(Int.toNat a.x10)]?)) fun e1 => .bind (H0 _ _) fun r2 => by exact .const _) (by exact .const _)) (by exact .const _)
def imm_Sci8_L1.s (k : Nat) (C0 : Int → T_imm_form → Option Int) : imm_Sci8_L1_A → Option (imm_Sci8_L1_O0 ⊕ Unit) := iter (imm_Sci8_L1_b C0) k
theorem imm_Sci8_L1_ok (call : CallF) (k : Nat) (C0 : Int → T_imm_form → Option Int) (K0 : ∀ (a0 : Int) (a1_f0 : T_imm_form) (r : Int), C0 a0 a1_f0 = some r → (call 110 [.sc (.int .i64 a0), .fn (.func 111) [.agg (C_imm_form a1_f0)] []] []) = some (imm_found_e r)) (a : imm_Sci8_L1_A) (r : (imm_Sci8_L1_O0 ⊕ Unit)) (h : imm_Sci8_L1.s k C0 a = some r) : loopsF Tryz.prog G.kd call 0 (G.an 99) k (loopAt Tryz.prog 99 2) (imm_Sci8_L1_s a) = some (imm_Sci8_L1_e r) :=
  loop_ok (fun a => imm_Sci8_L1_t Tryz.prog call C0 a) (fun _ => rfl) (fun a => imm_Sci8_L1_n call _ a) (fun a => imm_Sci8_L1_k _ call _ _ K0 a) (fun r => by cases r <;> nofun) h
theorem imm_Sci8_L1.m {j k : Nat} (hj : j ≤ k) (C0 : Int → T_imm_form → Option Int) (D0 : Int → T_imm_form → Option Int) (H0 : ∀ (a0 : Int) (a1_f0 : T_imm_form), Le (C0 a0 a1_f0) (D0 a0 a1_f0)) (a : imm_Sci8_L1_A) : Le (imm_Sci8_L1.s j C0 a) (imm_Sci8_L1.s k D0 a) := Le.iter (fun a => (imm_Sci8_L1_c (fun a0 a1_f0 => .two (H0 a0 a1_f0)) a).1 0) hj a
noncomputable def imm_Sci8_L1.w (C0 : Int → T_imm_form → Option Int) : imm_Sci8_L1_A → Option (imm_Sci8_L1_O0 ⊕ Unit) := loopW (imm_Sci8_L1_b C0)
theorem imm_Sci8_L1.cv (C0 : Nat → Int → T_imm_form → Option Int) (D0 : Int → T_imm_form → Option Int) (H0 : ∀ (a0 : Int) (a1_f0 : T_imm_form), Cv (fun k => C0 k a0 a1_f0) (D0 a0 a1_f0)) (a : imm_Sci8_L1_A) : Cv (fun k => imm_Sci8_L1.s k (C0 k) a) (imm_Sci8_L1.w D0 a) := Cv.iter (fun a => imm_Sci8_L1_c H0 a) a
def imm_Sci8_b (C0 : Option (List T_imm_form)) (L1 : imm_Sci8_L1_A → Option (imm_Sci8_L1_O0 ⊕ Unit)) (a0 : Int) : Option (Int × Int × Int × Bool) := ((C0).bind fun (r1 : (List T_imm_form)) => ((L1 (imm_Sci8_L1_A.mk a0 r1 (((r1.length) : Nat) : Int) (0 : Int))).bind fun x => Sum.elim (fun (o2 : imm_Sci8_L1_O0) => (some (o2.x2, o2.x3, o2.x4, o2.x5))) (fun (o3 : Unit) => (some ((0 : Int), (0 : Int), (0 : Int), false))) x))
def imm_Sci8_t (P : Program) (call : CallF) (C0 : Option (List T_imm_form)) (L1 : imm_Sci8_L1_A → Option (imm_Sci8_L1_O0 ⊕ Unit)) (a0 : Int) : Tr (Int × Int × Int × Bool) (AV × Heap) := (.call (call 109 [] []) (C0) imm_forms_e fun (r1 : (List T_imm_form)) => (.num ((R_imm_form r1).length) (r1.length) (.loop2 (loopAt P 99 2) (imm_Sci8_L1_s (imm_Sci8_L1_A.mk a0 r1 (((r1.length) : Nat) : Int) (0 : Int))) (L1 (imm_Sci8_L1_A.mk a0 r1 (((r1.length) : Nat) : Int) (0 : Int))) imm_Sci8_L1_e0 imm_Sci8_L1_e1 (fun (o2 : imm_Sci8_L1_O0) => (rt imm_Sci8_e (o2.x2, o2.x3, o2.x4, o2.x5))) (fun (o3 : Unit) => (rt imm_Sci8_e ((0 : Int), (0 : Int), (0 : Int), false))))))
theorem imm_Sci8_n (call : CallF) (C0 : Option (List T_imm_form)) (L1 : imm_Sci8_L1_A → Option (imm_Sci8_L1_O0 ⊕ Unit)) (a0 : Int) : (imm_Sci8_t Tryz.prog call C0 L1 a0).norm (bodyT Tryz.prog call G 99 [.sc (.int .i64 a0)] []) = imm_Sci8_t Tryz.prog call C0 L1 a0 := by kernel_rfl
theorem imm_Sci8_k (P : Program) (call : CallF) (lp : Loops) (C0 : Option (List T_imm_form)) (L1 : imm_Sci8_L1_A → Option (imm_Sci8_L1_O0 ⊕ Unit)) (K0 : ∀  (r : (List T_imm_form)), C0 = some r → (call 109 [] []) = some (imm_forms_e r)) (N1 : ∀ (a : imm_Sci8_L1_A) (r : (imm_Sci8_L1_O0 ⊕ Unit)), L1 a = some r → lp (loopAt P 99 2) (imm_Sci8_L1_s a) = some (imm_Sci8_L1_e r)) (a0 : Int) : (imm_Sci8_t P call C0 L1 a0).ok lp imm_Sci8_e := fun r1 hr1 => ⟨K0 _ hr1, ⟨(R_imm_form_len _), ⟨fun o2 ho2 => ⟨N1 _ (.inl _) ho2, rfl⟩, fun o3 ho3 => ⟨N1 _ (.inr _) ho3, rfl⟩⟩⟩⟩
theorem imm_Sci8_c {C0 : Nat → Option (List T_imm_form)} {D0 : Option (List T_imm_form)} (H0 : Cv (fun k => C0 k ) (D0 )) {L1 : Nat → imm_Sci8_L1_A → Option (imm_Sci8_L1_O0 ⊕ Unit)} {M1 : imm_Sci8_L1_A → Option (imm_Sci8_L1_O0 ⊕ Unit)} (N1 : ∀ a, Cv (fun k => L1 k a) (M1 a)) (a0 : Int) : Cv (fun k => imm_Sci8_b (C0 k) (L1 k) a0) (imm_Sci8_b D0 M1 a0) := by
  unfold imm_Sci8_b
  exact .bind (H0) fun r1 => .bind (N1 _) fun x => .sum (fun o2 => by exact .const _) (fun o3 => by exact .const _) x
def imm_Sci8.s : Nat → Int → Option (Int × Int × Int × Bool)
  | 0, _ => none
  | k + 1, a0 => imm_Sci8_b (imm_forms.s k) (imm_Sci8_L1.s k (fun a0 a1_f0 => imm_found.s k a0 a1_f0)) a0
theorem imm_Sci8.ok : ∀ (k : Nat), ∀ (a0 : Int) (r : (Int × Int × Int × Bool)), imm_Sci8.s k a0 = some r → evalFn Tryz.prog G k 99 [.sc (.int .i64 a0)] [] = some (imm_Sci8_e r)
  | 0, _, _, h => (nomatch h)
  | k + 1, a0, r, h => fn_ok rfl (imm_Sci8_t Tryz.prog (evalFn Tryz.prog G k) (imm_forms.s k) (imm_Sci8_L1.s k (fun a0 a1_f0 => imm_found.s k a0 a1_f0)) a0) (imm_Sci8_n _ _ _ a0) (imm_Sci8_k _ _ _ _ _ (imm_forms.ok k) (imm_Sci8_L1_ok _ k _ (imm_found.ok k)) a0) h
theorem imm_Sci8.mono : ∀ (k : Nat) (a0 : Int), Le (imm_Sci8.s k a0) (imm_Sci8.s (k + 1) a0)
  | 0, _ => fun r h => (nomatch h)
  | k + 1, a0 => (imm_Sci8_c (.two (imm_forms.mono k)) (fun a => .two ((imm_Sci8_L1.m (Nat.le_succ k) (fun a0 a1_f0 => imm_found.s k a0 a1_f0) (fun a0 a1_f0 => imm_found.s (k + 1) a0 a1_f0) (imm_found.mono k)) a)) a0).1 0
noncomputable def imm_Sci8 (a0 : Int) : Option (Int × Int × Int × Bool) := lim fun k => imm_Sci8.s k a0
theorem imm_Sci8.cv (a0 : Int) : Cv (fun k => imm_Sci8.s k a0) (imm_Sci8 a0) := .lim fun k => imm_Sci8.mono k a0
noncomputable def imm_Sci8_L1 : imm_Sci8_L1_A → Option (imm_Sci8_L1_O0 ⊕ Unit) := imm_Sci8_L1.w imm_found
theorem imm_Sci8_L1.eq (a : imm_Sci8_L1_A) : imm_Sci8_L1 a = (imm_Sci8_L1_b imm_found a).bind (Sum.elim imm_Sci8_L1 some) := loopW_eq _ _
theorem imm_Sci8.eq (a0 : Int) : imm_Sci8 a0 = imm_Sci8_b imm_forms imm_Sci8_L1 a0 := Cv.uniq (imm_Sci8.cv a0).shift (imm_Sci8_c imm_forms.cv (imm_Sci8_L1.cv (fun k => fun a0 a1_f0 => imm_found.s k a0 a1_f0) imm_found imm_found.cv) a0)
def isa_put_e (r : (Int × Bool)) : AV × Heap := (.tup [.sc (.int .u32 r.1), .sc (.bool r.2)], [])
def isa_put_b (C0 : ByteArray → Option (T_isa_plain × Bool)) (C1 : T_isa_plain → Int → Option (Int × Bool)) (C2 : ByteArray → Option Int) (C3 : Int → Option (Int × Int × Int)) (C4 : Int → Int → Option Bool) (C5 : Int → Option (Int × Int × Int × Bool)) (C6 : ByteArray → Option Int) (a0 : ByteArray) (a1 : Int) : Option (Int × Bool) := ((C0 a0).bind fun (r1 : (T_isa_plain × Bool)) => (bif r1.2 then ((C1 r1.1 a1).bind fun (r2 : (Int × Bool)) => (some (r2.1, r2.2))) else (bif (eqS a0 s_X) then (bif (decide (a1 < (0 : Int))) then (some ((0 : Int), false)) else (bif (decide (a1 > (7 : Int))) then (bif (decide (a1 < (24 : Int))) then (some ((0 : Int), false)) else (bif (decide (a1 > (31 : Int))) then (some ((0 : Int), false)) else ((C2 a0).bind fun (r3 : Int) => (bif (decide (0 ≤ r3)) then (some ((shlI .u32 (IntKind.u32.wrap (w64 (a1 - (w64 ((w64 (Int.tdiv a1 (24 : Int))) * (16 : Int)))))) r3), true)) else none)))) else (bif (decide (a1 > (31 : Int))) then (some ((0 : Int), false)) else ((C2 a0).bind fun (r4 : Int) => (bif (decide (0 ≤ r4)) then (some ((shlI .u32 (IntKind.u32.wrap (w64 (a1 - (w64 ((w64 (Int.tdiv a1 (24 : Int))) * (16 : Int)))))) r4), true)) else none))))) else (bif (eqS a0 s_Y) then (bif (decide (a1 < (0 : Int))) then (some ((0 : Int), false)) else (bif (decide (a1 > (7 : Int))) then (bif (decide (a1 < (24 : Int))) then (some ((0 : Int), false)) else (bif (decide (a1 > (31 : Int))) then (some ((0 : Int), false)) else ((C2 a0).bind fun (r5 : Int) => (bif (decide (0 ≤ r5)) then (some ((shlI .u32 (IntKind.u32.wrap (w64 (a1 - (w64 ((w64 (Int.tdiv a1 (24 : Int))) * (16 : Int)))))) r5), true)) else none)))) else (bif (decide (a1 > (31 : Int))) then (some ((0 : Int), false)) else ((C2 a0).bind fun (r6 : Int) => (bif (decide (0 ≤ r6)) then (some ((shlI .u32 (IntKind.u32.wrap (w64 (a1 - (w64 ((w64 (Int.tdiv a1 (24 : Int))) * (16 : Int)))))) r6), true)) else none))))) else (bif (eqS a0 s_L20) then ((C3 a1).bind fun (r7 : (Int × Int × Int)) => ((C4 a1 (20 : Int)).bind fun (r8 : Bool) => (some ((IntKind.u32.wrap (orI .i64 (orI .i64 (shlI .i64 r7.1 (11 : Int)) (shlI .i64 r7.2.1 (16 : Int))) r7.2.2)), r8)))) else (bif (eqS a0 s_C8) then ((C5 a1).bind fun (r9 : (Int × Int × Int × Bool)) => (some ((IntKind.u32.wrap (orI .i64 (orI .i64 (shlI .i64 r9.1 (10 : Int)) (shlI .i64 r9.2.1 (8 : Int))) r9.2.2.1)), r9.2.2.2))) else (bif (eqS a0 s_S16) then ((C4 a1 (16 : Int)).bind fun (r10 : Bool) => (some ((IntKind.u32.wrap (andI .i64 a1 (65535 : Int))), r10))) else (bif ((Int.tmod a1 (2 : Int)) != (0 : Int)) then (some ((0 : Int), false)) else ((C6 a0).bind fun (r11 : Int) => ((C4 a1 r11).bind fun (r12 : Bool) => (bif (!r12) then (some ((0 : Int), false)) else (bif (eqS a0 s_T8) then (some ((IntKind.u32.wrap (andI .i64 (w64 (Int.tdiv a1 (2 : Int))) (255 : Int))), true)) else ((C6 a0).bind fun (r13 : Int) => (bif (decide (0 ≤ r13)) then (some ((IntKind.u32.wrap (andI .i64 a1 (w64 ((shlI .i64 (1 : Int) r13) - (1 : Int))))), true)) else none))))))))))))))
def isa_put_t (P : Program) (call : CallF) (C0 : ByteArray → Option (T_isa_plain × Bool)) (C1 : T_isa_plain → Int → Option (Int × Bool)) (C2 : ByteArray → Option Int) (C3 : Int → Option (Int × Int × Int)) (C4 : Int → Int → Option Bool) (C5 : Int → Option (Int × Int × Int × Bool)) (C6 : ByteArray → Option Int) (a0 : ByteArray) (a1 : Int) : Tr (Int × Bool) (AV × Heap) := (.call (call 72 [.sc (.string a0)] []) (C0 a0) isa_plains_e fun (r1 : (T_isa_plain × Bool)) => (.as r1.2 (.call (call 96 [.agg (C_isa_plain r1.1), .sc (.int .i64 a1)] []) (C1 r1.1 a1) isa_plain_put_e fun (r2 : (Int × Bool)) => (rt isa_put_e (r2.1, r2.2))) (.as (eqS a0 s_X) (.yes (eqS a0 s_X) (.as (decide (a1 < (0 : Int))) (yesN 4 (decide (a1 < (0 : Int))) (yesN 4 true (rt isa_put_e ((0 : Int), false)))) (noN 2 (decide (a1 < (0 : Int))) (.as (decide (a1 > (7 : Int))) (.yes (decide (a1 > (7 : Int))) (.no (decide (a1 < (0 : Int))) (.yes (decide (a1 > (7 : Int))) (.no (decide (a1 < (0 : Int))) (.as (decide (a1 < (24 : Int))) (yesN 2 (decide (a1 < (24 : Int))) (.yes true (rt isa_put_e ((0 : Int), false)))) (noN 2 (decide (a1 < (24 : Int))) (.as (decide (a1 > (31 : Int))) (rt isa_put_e ((0 : Int), false)) (.yes (decide ((24 : Int) ≠ 0)) (.call (call 74 [.sc (.string a0)] []) (C2 a0) isa_place_e fun (r3 : Int) => (.as (decide (0 ≤ r3)) (rt isa_put_e ((shlI .u32 (IntKind.u32.wrap (w64 (a1 - (w64 ((w64 (Int.tdiv a1 (24 : Int))) * (16 : Int)))))) r3), true)) .fail)))))))))) (.no (decide (a1 > (7 : Int))) (.no (decide (a1 < (0 : Int))) (.no (decide (a1 > (7 : Int))) (.no (decide (a1 < (0 : Int))) (noN 3 false (.as (decide (a1 > (31 : Int))) (rt isa_put_e ((0 : Int), false)) (.yes (decide ((24 : Int) ≠ 0)) (.call (call 74 [.sc (.string a0)] []) (C2 a0) isa_place_e fun (r4 : Int) => (.as (decide (0 ≤ r4)) (rt isa_put_e ((shlI .u32 (IntKind.u32.wrap (w64 (a1 - (w64 ((w64 (Int.tdiv a1 (24 : Int))) * (16 : Int)))))) r4), true)) .fail))))))))))))) (.as (eqS a0 s_Y) (.as (decide (a1 < (0 : Int))) (yesN 4 (decide (a1 < (0 : Int))) (yesN 4 true (rt isa_put_e ((0 : Int), false)))) (noN 2 (decide (a1 < (0 : Int))) (.as (decide (a1 > (7 : Int))) (.yes (decide (a1 > (7 : Int))) (.no (decide (a1 < (0 : Int))) (.yes (decide (a1 > (7 : Int))) (.no (decide (a1 < (0 : Int))) (.as (decide (a1 < (24 : Int))) (yesN 2 (decide (a1 < (24 : Int))) (.yes true (rt isa_put_e ((0 : Int), false)))) (noN 2 (decide (a1 < (24 : Int))) (.as (decide (a1 > (31 : Int))) (rt isa_put_e ((0 : Int), false)) (.yes (decide ((24 : Int) ≠ 0)) (.call (call 74 [.sc (.string a0)] []) (C2 a0) isa_place_e fun (r5 : Int) => (.as (decide (0 ≤ r5)) (rt isa_put_e ((shlI .u32 (IntKind.u32.wrap (w64 (a1 - (w64 ((w64 (Int.tdiv a1 (24 : Int))) * (16 : Int)))))) r5), true)) .fail)))))))))) (.no (decide (a1 > (7 : Int))) (.no (decide (a1 < (0 : Int))) (.no (decide (a1 > (7 : Int))) (.no (decide (a1 < (0 : Int))) (noN 3 false (.as (decide (a1 > (31 : Int))) (rt isa_put_e ((0 : Int), false)) (.yes (decide ((24 : Int) ≠ 0)) (.call (call 74 [.sc (.string a0)] []) (C2 a0) isa_place_e fun (r6 : Int) => (.as (decide (0 ≤ r6)) (rt isa_put_e ((shlI .u32 (IntKind.u32.wrap (w64 (a1 - (w64 ((w64 (Int.tdiv a1 (24 : Int))) * (16 : Int)))))) r6), true)) .fail)))))))))))) (.as (eqS a0 s_L20) (.call (call 97 [.sc (.int .i64 a1)] []) (C3 a1) imm_Split_e fun (r7 : (Int × Int × Int)) => (.yes (decide (0 ≤ (11 : Int))) (.yes (decide (0 ≤ (16 : Int))) (.call (call 98 [.sc (.int .i64 a1), .sc (.int .i64 (20 : Int))] []) (C4 a1 (20 : Int)) imm_Fits_e fun (r8 : Bool) => (rt isa_put_e ((IntKind.u32.wrap (orI .i64 (orI .i64 (shlI .i64 r7.1 (11 : Int)) (shlI .i64 r7.2.1 (16 : Int))) r7.2.2)), r8)))))) (.as (eqS a0 s_C8) (.call (call 99 [.sc (.int .i64 a1)] []) (C5 a1) imm_Sci8_e fun (r9 : (Int × Int × Int × Bool)) => (.yes (decide (0 ≤ (10 : Int))) (.yes (decide (0 ≤ (8 : Int))) (rt isa_put_e ((IntKind.u32.wrap (orI .i64 (orI .i64 (shlI .i64 r9.1 (10 : Int)) (shlI .i64 r9.2.1 (8 : Int))) r9.2.2.1)), r9.2.2.2))))) (.as (eqS a0 s_S16) (.call (call 98 [.sc (.int .i64 a1), .sc (.int .i64 (16 : Int))] []) (C4 a1 (16 : Int)) imm_Fits_e fun (r10 : Bool) => (rt isa_put_e ((IntKind.u32.wrap (andI .i64 a1 (65535 : Int))), r10))) (.yes (decide ((2 : Int) ≠ 0)) (.as ((Int.tmod a1 (2 : Int)) != (0 : Int)) (yesN 5 ((Int.tmod a1 (2 : Int)) != (0 : Int)) (.yes true (rt isa_put_e ((0 : Int), false)))) (noN 2 ((Int.tmod a1 (2 : Int)) != (0 : Int)) (.call (call 78 [.sc (.string a0)] []) (C6 a0) isa_wide_e fun (r11 : Int) => (.no ((Int.tmod a1 (2 : Int)) != (0 : Int)) (.call (call 98 [.sc (.int .i64 a1), .sc (.int .i64 r11)] []) (C4 a1 r11) imm_Fits_e fun (r12 : Bool) => (noN 2 ((Int.tmod a1 (2 : Int)) != (0 : Int)) (.as (!r12) (rt isa_put_e ((0 : Int), false)) (.as (eqS a0 s_T8) (.yes (decide ((2 : Int) ≠ 0)) (rt isa_put_e ((IntKind.u32.wrap (andI .i64 (w64 (Int.tdiv a1 (2 : Int))) (255 : Int))), true))) (.call (call 78 [.sc (.string a0)] []) (C6 a0) isa_wide_e fun (r13 : Int) => (.as (decide (0 ≤ r13)) (rt isa_put_e ((IntKind.u32.wrap (andI .i64 a1 (w64 ((shlI .i64 (1 : Int) r13) - (1 : Int))))), true)) .fail))))))))))))))))))
theorem isa_put_n (call : CallF) (C0 : ByteArray → Option (T_isa_plain × Bool)) (C1 : T_isa_plain → Int → Option (Int × Bool)) (C2 : ByteArray → Option Int) (C3 : Int → Option (Int × Int × Int)) (C4 : Int → Int → Option Bool) (C5 : Int → Option (Int × Int × Int × Bool)) (C6 : ByteArray → Option Int) (a0 : ByteArray) (a1 : Int) : (isa_put_t Tryz.prog call C0 C1 C2 C3 C4 C5 C6 a0 a1).norm (bodyT Tryz.prog call G 81 [.sc (.string a0), .sc (.int .i64 a1)] []) = isa_put_t Tryz.prog call C0 C1 C2 C3 C4 C5 C6 a0 a1 := by kernel_rfl
theorem isa_put_k (P : Program) (call : CallF) (lp : Loops) (C0 : ByteArray → Option (T_isa_plain × Bool)) (C1 : T_isa_plain → Int → Option (Int × Bool)) (C2 : ByteArray → Option Int) (C3 : Int → Option (Int × Int × Int)) (C4 : Int → Int → Option Bool) (C5 : Int → Option (Int × Int × Int × Bool)) (C6 : ByteArray → Option Int) (K0 : ∀ (a0 : ByteArray) (r : (T_isa_plain × Bool)), C0 a0 = some r → (call 72 [.sc (.string a0)] []) = some (isa_plains_e r)) (K1 : ∀ (a0 : T_isa_plain) (a1 : Int) (r : (Int × Bool)), C1 a0 a1 = some r → (call 96 [.agg (C_isa_plain a0), .sc (.int .i64 a1)] []) = some (isa_plain_put_e r)) (K2 : ∀ (a0 : ByteArray) (r : Int), C2 a0 = some r → (call 74 [.sc (.string a0)] []) = some (isa_place_e r)) (K3 : ∀ (a0 : Int) (r : (Int × Int × Int)), C3 a0 = some r → (call 97 [.sc (.int .i64 a0)] []) = some (imm_Split_e r)) (K4 : ∀ (a0 : Int) (a1 : Int) (r : Bool), C4 a0 a1 = some r → (call 98 [.sc (.int .i64 a0), .sc (.int .i64 a1)] []) = some (imm_Fits_e r)) (K5 : ∀ (a0 : Int) (r : (Int × Int × Int × Bool)), C5 a0 = some r → (call 99 [.sc (.int .i64 a0)] []) = some (imm_Sci8_e r)) (K6 : ∀ (a0 : ByteArray) (r : Int), C6 a0 = some r → (call 78 [.sc (.string a0)] []) = some (isa_wide_e r)) (a0 : ByteArray) (a1 : Int) : (isa_put_t P call C0 C1 C2 C3 C4 C5 C6 a0 a1).ok lp isa_put_e := fun r1 hr1 => ⟨K0 _ _ hr1, ⟨rfl, fun hq0 => fun r2 hr2 => ⟨K1 _ _ _ hr2, rfl⟩, fun hq0 => ⟨rfl, fun hq1 => ⟨hq1, ⟨rfl, fun hq2 => yesN_ok 4 (hq2) (yesN_ok 4 (rfl) (rfl)), fun hq2 => noN_ok 2 (hq2) (⟨rfl, fun hq3 => ⟨hq3, ⟨hq2, ⟨hq3, ⟨hq2, ⟨rfl, fun hq4 => yesN_ok 2 (hq4) (⟨rfl, rfl⟩), fun hq4 => noN_ok 2 (hq4) (⟨rfl, fun hq5 => rfl, fun hq5 => ⟨rfl, fun r3 hr3 => ⟨K2 _ _ hr3, ⟨rfl, fun hq6 => rfl, fun hq6 => trivial⟩⟩⟩⟩)⟩⟩⟩⟩⟩, fun hq3 => ⟨hq3, ⟨hq2, ⟨hq3, ⟨hq2, noN_ok 3 (rfl) (⟨rfl, fun hq4 => rfl, fun hq4 => ⟨rfl, fun r4 hr4 => ⟨K2 _ _ hr4, ⟨rfl, fun hq5 => rfl, fun hq5 => trivial⟩⟩⟩⟩)⟩⟩⟩⟩⟩)⟩⟩, fun hq1 => ⟨rfl, fun hq2 => ⟨rfl, fun hq3 => yesN_ok 4 (hq3) (yesN_ok 4 (rfl) (rfl)), fun hq3 => noN_ok 2 (hq3) (⟨rfl, fun hq4 => ⟨hq4, ⟨hq3, ⟨hq4, ⟨hq3, ⟨rfl, fun hq5 => yesN_ok 2 (hq5) (⟨rfl, rfl⟩), fun hq5 => noN_ok 2 (hq5) (⟨rfl, fun hq6 => rfl, fun hq6 => ⟨rfl, fun r5 hr5 => ⟨K2 _ _ hr5, ⟨rfl, fun hq7 => rfl, fun hq7 => trivial⟩⟩⟩⟩)⟩⟩⟩⟩⟩, fun hq4 => ⟨hq4, ⟨hq3, ⟨hq4, ⟨hq3, noN_ok 3 (rfl) (⟨rfl, fun hq5 => rfl, fun hq5 => ⟨rfl, fun r6 hr6 => ⟨K2 _ _ hr6, ⟨rfl, fun hq6 => rfl, fun hq6 => trivial⟩⟩⟩⟩)⟩⟩⟩⟩⟩)⟩, fun hq2 => ⟨rfl, fun hq3 => fun r7 hr7 => ⟨K3 _ _ hr7, ⟨rfl, ⟨rfl, fun r8 hr8 => ⟨K4 _ _ _ hr8, rfl⟩⟩⟩⟩, fun hq3 => ⟨rfl, fun hq4 => fun r9 hr9 => ⟨K5 _ _ hr9, ⟨rfl, ⟨rfl, rfl⟩⟩⟩, fun hq4 => ⟨rfl, fun hq5 => fun r10 hr10 => ⟨K4 _ _ _ hr10, rfl⟩, fun hq5 => ⟨rfl, ⟨rfl, fun hq6 => yesN_ok 5 (hq6) (⟨rfl, rfl⟩), fun hq6 => noN_ok 2 (hq6) (fun r11 hr11 => ⟨K6 _ _ hr11, ⟨hq6, fun r12 hr12 => ⟨K4 _ _ _ hr12, noN_ok 2 (hq6) (⟨rfl, fun hq7 => rfl, fun hq7 => ⟨rfl, fun hq8 => ⟨rfl, rfl⟩, fun hq8 => fun r13 hr13 => ⟨K6 _ _ hr13, ⟨rfl, fun hq9 => rfl, fun hq9 => trivial⟩⟩⟩⟩)⟩⟩⟩)⟩⟩⟩⟩⟩⟩⟩⟩⟩
theorem isa_put_c {C0 : Nat → ByteArray → Option (T_isa_plain × Bool)} {D0 : ByteArray → Option (T_isa_plain × Bool)} (H0 : ∀ (a0 : ByteArray), Cv (fun k => C0 k a0) (D0 a0)) {C1 : Nat → T_isa_plain → Int → Option (Int × Bool)} {D1 : T_isa_plain → Int → Option (Int × Bool)} (H1 : ∀ (a0 : T_isa_plain) (a1 : Int), Cv (fun k => C1 k a0 a1) (D1 a0 a1)) {C2 : Nat → ByteArray → Option Int} {D2 : ByteArray → Option Int} (H2 : ∀ (a0 : ByteArray), Cv (fun k => C2 k a0) (D2 a0)) {C3 : Nat → Int → Option (Int × Int × Int)} {D3 : Int → Option (Int × Int × Int)} (H3 : ∀ (a0 : Int), Cv (fun k => C3 k a0) (D3 a0)) {C4 : Nat → Int → Int → Option Bool} {D4 : Int → Int → Option Bool} (H4 : ∀ (a0 : Int) (a1 : Int), Cv (fun k => C4 k a0 a1) (D4 a0 a1)) {C5 : Nat → Int → Option (Int × Int × Int × Bool)} {D5 : Int → Option (Int × Int × Int × Bool)} (H5 : ∀ (a0 : Int), Cv (fun k => C5 k a0) (D5 a0)) {C6 : Nat → ByteArray → Option Int} {D6 : ByteArray → Option Int} (H6 : ∀ (a0 : ByteArray), Cv (fun k => C6 k a0) (D6 a0)) (a0 : ByteArray) (a1 : Int) : Cv (fun k => isa_put_b (C0 k) (C1 k) (C2 k) (C3 k) (C4 k) (C5 k) (C6 k) a0 a1) (isa_put_b D0 D1 D2 D3 D4 D5 D6 a0 a1) := by
  unfold isa_put_b
  exact .bind (H0 _) fun r1 => .cond (.bind (H1 _ _) fun r2 => by exact .const _) (.cond (.cond (by exact .const _) (.cond (.cond (by exact .const _) (.cond (by exact .const _) (.bind (H2 _) fun r3 => by exact .const _))) (.cond (by exact .const _) (.bind (H2 _) fun r4 => by exact .const _)))) (.cond (.cond (by exact .const _) (.cond (.cond (by exact .const _) (.cond (by exact .const _) (.bind (H2 _) fun r5 => by exact .const _))) (.cond (by exact .const _) (.bind (H2 _) fun r6 => by exact .const _)))) (.cond (.bind (H3 _) fun r7 => .bind (H4 _ _) fun r8 => by exact .const _) (.cond (.bind (H5 _) fun r9 => by exact .const _) (.cond (.bind (H4 _ _) fun r10 => by exact .const _) (.cond (by exact .const _) (.bind (H6 _) fun r11 => .bind (H4 _ _) fun r12 => .cond (by exact .const _) (.cond (by exact .const _) (.bind (H6 _) fun r13 => by exact .const _)))))))))
def isa_put.s : Nat → ByteArray → Int → Option (Int × Bool)
  | 0, _, _ => none
  | k + 1, a0, a1 => isa_put_b (fun a0 => isa_plains.s k a0) (fun a0 a1 => isa_plain_put.s k a0 a1) (fun a0 => isa_place.s k a0) (fun a0 => imm_Split.s k a0) (fun a0 a1 => imm_Fits.s k a0 a1) (fun a0 => imm_Sci8.s k a0) (fun a0 => isa_wide.s k a0) a0 a1
theorem isa_put.ok : ∀ (k : Nat), ∀ (a0 : ByteArray) (a1 : Int) (r : (Int × Bool)), isa_put.s k a0 a1 = some r → evalFn Tryz.prog G k 81 [.sc (.string a0), .sc (.int .i64 a1)] [] = some (isa_put_e r)
  | 0, _, _, _, h => (nomatch h)
  | k + 1, a0, a1, r, h => fn_ok rfl (isa_put_t Tryz.prog (evalFn Tryz.prog G k) (fun a0 => isa_plains.s k a0) (fun a0 a1 => isa_plain_put.s k a0 a1) (fun a0 => isa_place.s k a0) (fun a0 => imm_Split.s k a0) (fun a0 a1 => imm_Fits.s k a0 a1) (fun a0 => imm_Sci8.s k a0) (fun a0 => isa_wide.s k a0) a0 a1) (isa_put_n _ _ _ _ _ _ _ _ a0 a1) (isa_put_k _ _ _ _ _ _ _ _ _ _ (isa_plains.ok k) (isa_plain_put.ok k) (isa_place.ok k) (imm_Split.ok k) (imm_Fits.ok k) (imm_Sci8.ok k) (isa_wide.ok k)  a0 a1) h
theorem isa_put.mono : ∀ (k : Nat) (a0 : ByteArray) (a1 : Int), Le (isa_put.s k a0 a1) (isa_put.s (k + 1) a0 a1)
  | 0, _, _ => fun r h => (nomatch h)
  | k + 1, a0, a1 => (isa_put_c (fun a0 => .two ((isa_plains.mono k) a0)) (fun a0 a1 => .two ((isa_plain_put.mono k) a0 a1)) (fun a0 => .two ((isa_place.mono k) a0)) (fun a0 => .two ((imm_Split.mono k) a0)) (fun a0 a1 => .two ((imm_Fits.mono k) a0 a1)) (fun a0 => .two ((imm_Sci8.mono k) a0)) (fun a0 => .two ((isa_wide.mono k) a0)) a0 a1).1 0
noncomputable def isa_put (a0 : ByteArray) (a1 : Int) : Option (Int × Bool) := lim fun k => isa_put.s k a0 a1
theorem isa_put.cv (a0 : ByteArray) (a1 : Int) : Cv (fun k => isa_put.s k a0 a1) (isa_put a0 a1) := .lim fun k => isa_put.mono k a0 a1
theorem isa_put.eq (a0 : ByteArray) (a1 : Int) : isa_put a0 a1 = isa_put_b isa_plains isa_plain_put isa_place imm_Split imm_Fits imm_Sci8 isa_wide a0 a1 := Cv.uniq (isa_put.cv a0 a1).shift (isa_put_c isa_plains.cv isa_plain_put.cv isa_place.cv imm_Split.cv imm_Fits.cv imm_Sci8.cv isa_wide.cv a0 a1)
def isa_code_e (r : (Int × Bool)) : AV × Heap := (.tup [.sc (.int .u32 r.1), .sc (.bool r.2)], [])
structure isa_code_L1_A where
  x4 : Int
  x26 : (List ByteArray)
  x27 : Int
  x28 : Int
  h0 : T_api_Inst
structure isa_code_L1_O0 where
  x2 : Int
  x3 : Bool
def isa_code_L1_s (a : isa_code_L1_A) : St := { n := 50, nx := 1, env := [(1, .ptr 0 0), (4, .sc (.int .u32 a.x4)), (26, .sl (R_string a.x26)), (27, .sc (.int .i64 a.x27)), (28, .sc (.int .i64 a.x28))], heap := [(0, .box [0, 101] (C_api_Inst a.h0))] }
def isa_code_L1_e0 (a : isa_code_L1_O0) : Ex × St := (.ret, { n := 50, nx := 0, env := [(2, .sc (.int .u32 a.x2)), (3, .sc (.bool a.x3))], heap := [] })
def isa_code_L1_e1 (a : Int) : Ex × St := (.exit 0, { n := 50, nx := 0, env := [(4, .sc (.int .u32 a))], heap := [] })
def isa_code_L1_e (a : (isa_code_L1_O0 ⊕ Int)) : Ex × St := Sum.elim isa_code_L1_e0 isa_code_L1_e1 a
def isa_code_L1_b (C0 : ByteArray → Int → Option (Int × Bool)) (a : isa_code_L1_A) : Option (isa_code_L1_A ⊕ (isa_code_L1_O0 ⊕ Int)) := (bif (decide (a.x28 < a.x27)) then (bif (decide (0 ≤ a.x28)) then ((a.x26[(Int.toNat a.x28)]?).bind fun (e1 : ByteArray) => ((a.h0.F[(Int.toNat a.x28)]?).bind fun (e2 : Int) => ((C0 e1 e2).bind fun (r3 : (Int × Bool)) => (bif (!r3.2) then (some (.inr (.inl (isa_code_L1_O0.mk (0 : Int) false)))) else (some (.inl (isa_code_L1_A.mk (orI .u32 a.x4 r3.1) a.x26 a.x27 (w64 (a.x28 + (1 : Int))) a.h0))))))) else none) else (some (.inr (.inr a.x4))))
def isa_code_L1_t (P : Program) (call : CallF) (C0 : ByteArray → Int → Option (Int × Bool)) (a : isa_code_L1_A) : Tr (isa_code_L1_A ⊕ (isa_code_L1_O0 ⊕ Int)) (Ex × St) := (.as (decide (a.x28 < a.x27)) (.as (decide (0 ≤ a.x28)) (.row ((R_string a.x26)[(Int.toNat a.x28)]?) (a.x26[(Int.toNat a.x28)]?) C_string fun (e1 : ByteArray) => (.yes (decide (0 ≤ a.x28)) (.row ((R_i64 a.h0.F)[(Int.toNat a.x28)]?) (a.h0.F[(Int.toNat a.x28)]?) C_i64 fun (e2 : Int) => (.call (call 81 [.sc (.string e1), .sc (.int .i64 e2)] []) (C0 e1 e2) isa_put_e fun (r3 : (Int × Bool)) => (.as (!r3.2) (rx isa_code_L1_e (.inl (isa_code_L1_O0.mk (0 : Int) false))) (lf isa_code_L1_s (isa_code_L1_A.mk (orI .u32 a.x4 r3.1) a.x26 a.x27 (w64 (a.x28 + (1 : Int))) a.h0))))))) .fail) (rx isa_code_L1_e (.inr a.x4)))
theorem isa_code_L1_n (call : CallF) (C0 : ByteArray → Int → Option (Int × Bool)) (a : isa_code_L1_A) : (isa_code_L1_t Tryz.prog call C0 a).norm (roundT Tryz.prog G.kd call 0 (G.an 57) (loopAt Tryz.prog 57 7) (isa_code_L1_s a)) = isa_code_L1_t Tryz.prog call C0 a := by kernel_rfl
theorem isa_code_L1_k (P : Program) (call : CallF) (lp : Loops) (C0 : ByteArray → Int → Option (Int × Bool)) (K0 : ∀ (a0 : ByteArray) (a1 : Int) (r : (Int × Bool)), C0 a0 a1 = some r → (call 81 [.sc (.string a0), .sc (.int .i64 a1)] []) = some (isa_put_e r)) (a : isa_code_L1_A) : (isa_code_L1_t P call C0 a).ok lp (Sum.elim (fun a => (.norm, isa_code_L1_s a)) isa_code_L1_e) := ⟨rfl, fun hq0 => ⟨rfl, fun hq1 => fun e1 he1 => ⟨R_string_get he1, ⟨hq1, fun e2 he2 => ⟨R_i64_get he2, fun r3 hr3 => ⟨K0 _ _ _ hr3, ⟨rfl, fun hq2 => rfl, fun hq2 => rfl⟩⟩⟩⟩⟩, fun hq1 => trivial⟩, fun hq0 => rfl⟩
theorem isa_code_L1_c {C0 : Nat → ByteArray → Int → Option (Int × Bool)} {D0 : ByteArray → Int → Option (Int × Bool)} (H0 : ∀ (a0 : ByteArray) (a1 : Int), Cv (fun k => C0 k a0 a1) (D0 a0 a1)) (a : isa_code_L1_A) : Cv (fun k => isa_code_L1_b (C0 k) a) (isa_code_L1_b D0 a) := by
  unfold isa_code_L1_b
  exact .cond (.cond (.bind (.const (a.x26[(Int.toNat a.x28)]?)) fun e1 => .bind (.const (a.h0.F[(Int.toNat a.x28)]?)) fun e2 => .bind (H0 _ _) fun r3 => by exact .const _) (by exact .const _)) (by exact .const _)
def isa_code_L1.s (k : Nat) (C0 : ByteArray → Int → Option (Int × Bool)) : isa_code_L1_A → Option (isa_code_L1_O0 ⊕ Int) := iter (isa_code_L1_b C0) k
theorem isa_code_L1_ok (call : CallF) (k : Nat) (C0 : ByteArray → Int → Option (Int × Bool)) (K0 : ∀ (a0 : ByteArray) (a1 : Int) (r : (Int × Bool)), C0 a0 a1 = some r → (call 81 [.sc (.string a0), .sc (.int .i64 a1)] []) = some (isa_put_e r)) (a : isa_code_L1_A) (r : (isa_code_L1_O0 ⊕ Int)) (h : isa_code_L1.s k C0 a = some r) : loopsF Tryz.prog G.kd call 0 (G.an 57) k (loopAt Tryz.prog 57 7) (isa_code_L1_s a) = some (isa_code_L1_e r) :=
  loop_ok (fun a => isa_code_L1_t Tryz.prog call C0 a) (fun _ => rfl) (fun a => isa_code_L1_n call _ a) (fun a => isa_code_L1_k _ call _ _ K0 a) (fun r => by cases r <;> nofun) h
theorem isa_code_L1.m {j k : Nat} (hj : j ≤ k) (C0 : ByteArray → Int → Option (Int × Bool)) (D0 : ByteArray → Int → Option (Int × Bool)) (H0 : ∀ (a0 : ByteArray) (a1 : Int), Le (C0 a0 a1) (D0 a0 a1)) (a : isa_code_L1_A) : Le (isa_code_L1.s j C0 a) (isa_code_L1.s k D0 a) := Le.iter (fun a => (isa_code_L1_c (fun a0 a1 => .two (H0 a0 a1)) a).1 0) hj a
noncomputable def isa_code_L1.w (C0 : ByteArray → Int → Option (Int × Bool)) : isa_code_L1_A → Option (isa_code_L1_O0 ⊕ Int) := loopW (isa_code_L1_b C0)
theorem isa_code_L1.cv (C0 : Nat → ByteArray → Int → Option (Int × Bool)) (D0 : ByteArray → Int → Option (Int × Bool)) (H0 : ∀ (a0 : ByteArray) (a1 : Int), Cv (fun k => C0 k a0 a1) (D0 a0 a1)) (a : isa_code_L1_A) : Cv (fun k => isa_code_L1.s k (C0 k) a) (isa_code_L1.w D0 a) := Cv.iter (fun a => isa_code_L1_c H0 a) a
def isa_code_b (C0 : Int → Option ByteArray) (C1 : Int → Option Int) (C2 : Int → Option (List ByteArray)) (L3 : isa_code_L1_A → Option (isa_code_L1_O0 ⊕ Int)) (a0 : T_api_Inst) : Option (Int × Bool) := ((C0 a0.Op).bind fun (r1 : ByteArray) => (bif (eqS r1 s_) then (some ((0 : Int), false)) else ((C1 a0.Op).bind fun (r2 : Int) => ((C2 a0.Op).bind fun (r3 : (List ByteArray)) => (bif ((((r3.length) : Nat) : Int) != (((a0.F.length) : Nat) : Int)) then (some ((0 : Int), false)) else ((L3 (isa_code_L1_A.mk r2 r3 (((r3.length) : Nat) : Int) (0 : Int) a0)).bind fun x => Sum.elim (fun (o4 : isa_code_L1_O0) => (some (o4.x2, o4.x3))) (fun (o5 : Int) => (some (o5, true))) x))))))
def isa_code_t (P : Program) (call : CallF) (C0 : Int → Option ByteArray) (C1 : Int → Option Int) (C2 : Int → Option (List ByteArray)) (L3 : isa_code_L1_A → Option (isa_code_L1_O0 ⊕ Int)) (a0 : T_api_Inst) : Tr (Int × Bool) (AV × Heap) := (.call (call 62 [.sc (.int .i64 a0.Op)] []) (C0 a0.Op) isa_Name_e fun (r1 : ByteArray) => (.as (eqS r1 s_) (rt isa_code_e ((0 : Int), false)) (.call (call 79 [.sc (.int .i64 a0.Op), .fn (.func 80) [] []] []) (C1 a0.Op) isa_of_3_e fun (r2 : Int) => (.call (call 54 [.sc (.int .i64 a0.Op), .fn (.func 55) [] []] []) (C2 a0.Op) isa_of_2_e fun (r3 : (List ByteArray)) => (.num ((R_string r3).length) (r3.length) (.num ((R_i64 a0.F).length) (a0.F.length) (.as ((((r3.length) : Nat) : Int) != (((a0.F.length) : Nat) : Int)) (rt isa_code_e ((0 : Int), false)) (.num ((R_string r3).length) (r3.length) (.loop2 (loopAt P 57 7) (isa_code_L1_s (isa_code_L1_A.mk r2 r3 (((r3.length) : Nat) : Int) (0 : Int) a0)) (L3 (isa_code_L1_A.mk r2 r3 (((r3.length) : Nat) : Int) (0 : Int) a0)) isa_code_L1_e0 isa_code_L1_e1 (fun (o4 : isa_code_L1_O0) => (rt isa_code_e (o4.x2, o4.x3))) (fun (o5 : Int) => (rt isa_code_e (o5, true))))))))))))
theorem isa_code_n (call : CallF) (C0 : Int → Option ByteArray) (C1 : Int → Option Int) (C2 : Int → Option (List ByteArray)) (L3 : isa_code_L1_A → Option (isa_code_L1_O0 ⊕ Int)) (a0 : T_api_Inst) : (isa_code_t Tryz.prog call C0 C1 C2 L3 a0).norm (bodyT Tryz.prog call G 57 [.agg (C_api_Inst a0)] []) = isa_code_t Tryz.prog call C0 C1 C2 L3 a0 := by kernel_rfl
theorem isa_code_k (P : Program) (call : CallF) (lp : Loops) (C0 : Int → Option ByteArray) (C1 : Int → Option Int) (C2 : Int → Option (List ByteArray)) (L3 : isa_code_L1_A → Option (isa_code_L1_O0 ⊕ Int)) (K0 : ∀ (a0 : Int) (r : ByteArray), C0 a0 = some r → (call 62 [.sc (.int .i64 a0)] []) = some (isa_Name_e r)) (K1 : ∀ (a0 : Int) (r : Int), C1 a0 = some r → (call 79 [.sc (.int .i64 a0), .fn (.func 80) [] []] []) = some (isa_of_3_e r)) (K2 : ∀ (a0 : Int) (r : (List ByteArray)), C2 a0 = some r → (call 54 [.sc (.int .i64 a0), .fn (.func 55) [] []] []) = some (isa_of_2_e r)) (N3 : ∀ (a : isa_code_L1_A) (r : (isa_code_L1_O0 ⊕ Int)), L3 a = some r → lp (loopAt P 57 7) (isa_code_L1_s a) = some (isa_code_L1_e r)) (a0 : T_api_Inst) : (isa_code_t P call C0 C1 C2 L3 a0).ok lp isa_code_e := fun r1 hr1 => ⟨K0 _ _ hr1, ⟨rfl, fun hq0 => rfl, fun hq0 => fun r2 hr2 => ⟨K1 _ _ hr2, fun r3 hr3 => ⟨K2 _ _ hr3, ⟨(R_string_len _), ⟨(R_i64_len _), ⟨rfl, fun hq1 => rfl, fun hq1 => ⟨(R_string_len _), ⟨fun o4 ho4 => ⟨N3 _ (.inl _) ho4, rfl⟩, fun o5 ho5 => ⟨N3 _ (.inr _) ho5, rfl⟩⟩⟩⟩⟩⟩⟩⟩⟩⟩
theorem isa_code_c {C0 : Nat → Int → Option ByteArray} {D0 : Int → Option ByteArray} (H0 : ∀ (a0 : Int), Cv (fun k => C0 k a0) (D0 a0)) {C1 : Nat → Int → Option Int} {D1 : Int → Option Int} (H1 : ∀ (a0 : Int), Cv (fun k => C1 k a0) (D1 a0)) {C2 : Nat → Int → Option (List ByteArray)} {D2 : Int → Option (List ByteArray)} (H2 : ∀ (a0 : Int), Cv (fun k => C2 k a0) (D2 a0)) {L3 : Nat → isa_code_L1_A → Option (isa_code_L1_O0 ⊕ Int)} {M3 : isa_code_L1_A → Option (isa_code_L1_O0 ⊕ Int)} (N3 : ∀ a, Cv (fun k => L3 k a) (M3 a)) (a0 : T_api_Inst) : Cv (fun k => isa_code_b (C0 k) (C1 k) (C2 k) (L3 k) a0) (isa_code_b D0 D1 D2 M3 a0) := by
  unfold isa_code_b
  exact .bind (H0 _) fun r1 => .cond (by exact .const _) (.bind (H1 _) fun r2 => .bind (H2 _) fun r3 => .cond (by exact .const _) (.bind (N3 _) fun x => .sum (fun o4 => by exact .const _) (fun o5 => by exact .const _) x))
def isa_code.s : Nat → T_api_Inst → Option (Int × Bool)
  | 0, _ => none
  | k + 1, a0 => isa_code_b (fun a0 => isa_Name.s k a0) (fun a0 => isa_of_3.s k a0) (fun a0 => isa_of_2.s k a0) (isa_code_L1.s k (fun a0 a1 => isa_put.s k a0 a1)) a0
theorem isa_code.ok : ∀ (k : Nat), ∀ (a0 : T_api_Inst) (r : (Int × Bool)), isa_code.s k a0 = some r → evalFn Tryz.prog G k 57 [.agg (C_api_Inst a0)] [] = some (isa_code_e r)
  | 0, _, _, h => (nomatch h)
  | k + 1, a0, r, h => fn_ok rfl (isa_code_t Tryz.prog (evalFn Tryz.prog G k) (fun a0 => isa_Name.s k a0) (fun a0 => isa_of_3.s k a0) (fun a0 => isa_of_2.s k a0) (isa_code_L1.s k (fun a0 a1 => isa_put.s k a0 a1)) a0) (isa_code_n _ _ _ _ _ a0) (isa_code_k _ _ _ _ _ _ _ (isa_Name.ok k) (isa_of_3.ok k) (isa_of_2.ok k) (isa_code_L1_ok _ k _ (isa_put.ok k)) a0) h
theorem isa_code.mono : ∀ (k : Nat) (a0 : T_api_Inst), Le (isa_code.s k a0) (isa_code.s (k + 1) a0)
  | 0, _ => fun r h => (nomatch h)
  | k + 1, a0 => (isa_code_c (fun a0 => .two ((isa_Name.mono k) a0)) (fun a0 => .two ((isa_of_3.mono k) a0)) (fun a0 => .two ((isa_of_2.mono k) a0)) (fun a => .two ((isa_code_L1.m (Nat.le_succ k) (fun a0 a1 => isa_put.s k a0 a1) (fun a0 a1 => isa_put.s (k + 1) a0 a1) (isa_put.mono k)) a)) a0).1 0
noncomputable def isa_code (a0 : T_api_Inst) : Option (Int × Bool) := lim fun k => isa_code.s k a0
theorem isa_code.cv (a0 : T_api_Inst) : Cv (fun k => isa_code.s k a0) (isa_code a0) := .lim fun k => isa_code.mono k a0
noncomputable def isa_code_L1 : isa_code_L1_A → Option (isa_code_L1_O0 ⊕ Int) := isa_code_L1.w isa_put
theorem isa_code_L1.eq (a : isa_code_L1_A) : isa_code_L1 a = (isa_code_L1_b isa_put a).bind (Sum.elim isa_code_L1 some) := loopW_eq _ _
theorem isa_code.eq (a0 : T_api_Inst) : isa_code a0 = isa_code_b isa_Name isa_of_3 isa_of_2 isa_code_L1 a0 := Cv.uniq (isa_code.cv a0).shift (isa_code_c isa_Name.cv isa_of_3.cv isa_of_2.cv (isa_code_L1.cv (fun k => fun a0 a1 => isa_put.s k a0 a1) isa_put isa_put.cv) a0)
def slices_Clone_e (r : (List Int)) : AV × Heap := (.sl (R_i64 r), [])
def slices_Clone.s : Nat → (List Int) → Option (List Int)
  | 0, _ => none
  | _ + 1, a0 => cloneB 8 a0
theorem slices_Clone.ok : ∀ (k : Nat), ∀ (a0 : (List Int)) (r : (List Int)), slices_Clone.s k a0 = some r → evalFn Tryz.prog G k 58 [.sl (R_i64 a0)] [] = some (slices_Clone_e r)
  | 0, _, _, h => (nomatch h)
  | k + 1, a0, r, h => cloneV_ok (.int .i64) (fun _ => rfl) h
noncomputable def slices_Clone (a0 : (List Int)) : Option (List Int) := cloneB 8 a0
theorem slices_Clone.mono (k : Nat) (a0 : (List Int)) : Le (slices_Clone.s k a0) (slices_Clone.s (k + 1) a0) := by
  cases k with
  | zero => exact fun r h => nomatch h
  | succ k => exact Le.refl _
theorem slices_Clone.cv (a0 : (List Int)) : Cv (fun k => slices_Clone.s k a0) (slices_Clone a0) := ⟨fun k => slices_Clone.mono k a0, fun r => ⟨fun h => ⟨1, h⟩, fun ⟨k, h⟩ => by
  cases k with
  | zero => cases h
  | succ k => exact h⟩⟩
def isa_Decode_e (r : (T_api_Inst × Int × Bool)) : AV × Heap := (.tup [.agg (C_api_Inst r.1), .sc (.int .i64 r.2.1), .sc (.bool r.2.2)], [])
structure isa_Decode_L1_A where
  x3 : Int
  x5 : Int
  x33 : (List Int)
  x34 : Int
  x35 : Int
  h0 : T_api_Inst
structure isa_Decode_L1_O0 where
  x3 : Int
  x5 : Int
  h0 : T_api_Inst
def isa_Decode_L1_s (a : isa_Decode_L1_A) : St := { n := 91, nx := 2, env := [(2, .ptr 0 0), (3, .sc (.int .i64 a.x3)), (5, .sc (.int .u32 a.x5)), (33, .sl (R_u8 a.x33)), (34, .sc (.int .i64 a.x34)), (35, .sc (.int .i64 a.x35))], heap := [(0, .box [0, 101] [.sc (.int .i64 a.h0.Op), .arr 1]), (1, .arr true 1 (R_i64 a.h0.F))] }
def isa_Decode_L1_e (a : isa_Decode_L1_O0) : Ex × St := (.exit 0, { n := 91, nx := 2, env := [(2, .ptr 0 0), (3, .sc (.int .i64 a.x3)), (5, .sc (.int .u32 a.x5))], heap := [(0, .box [0, 101] [.sc (.int .i64 a.h0.Op), .arr 1]), (1, .arr true 1 (R_i64 a.h0.F))] })
def isa_Decode_L1_b  (a : isa_Decode_L1_A) : Option (isa_Decode_L1_A ⊕ isa_Decode_L1_O0) := (bif (decide (a.x35 < a.x34)) then (bif (decide (0 ≤ a.x35)) then ((a.x33[(Int.toNat a.x35)]?).bind fun (e1 : Int) => (some (.inl (isa_Decode_L1_A.mk a.x3 (orI .u32 (shlI .u32 a.x5 (8 : Int)) (IntKind.u32.wrap e1)) a.x33 a.x34 (w64 (a.x35 + (1 : Int))) a.h0)))) else none) else (some (.inr (isa_Decode_L1_O0.mk a.x3 a.x5 a.h0))))
def isa_Decode_L1_t (P : Program) (call : CallF)  (a : isa_Decode_L1_A) : Tr (isa_Decode_L1_A ⊕ isa_Decode_L1_O0) (Ex × St) := (.as (decide (a.x35 < a.x34)) (.as (decide (0 ≤ a.x35)) (.row ((R_u8 a.x33)[(Int.toNat a.x35)]?) (a.x33[(Int.toNat a.x35)]?) C_u8 fun (e1 : Int) => (.yes (decide (0 ≤ (8 : Int))) (lf isa_Decode_L1_s (isa_Decode_L1_A.mk a.x3 (orI .u32 (shlI .u32 a.x5 (8 : Int)) (IntKind.u32.wrap e1)) a.x33 a.x34 (w64 (a.x35 + (1 : Int))) a.h0)))) .fail) (rx isa_Decode_L1_e (isa_Decode_L1_O0.mk a.x3 a.x5 a.h0)))
theorem isa_Decode_L1_n (call : CallF)  (a : isa_Decode_L1_A) : (isa_Decode_L1_t Tryz.prog call  a).norm (roundT Tryz.prog G.kd call 0 (G.an 42) (loopAt Tryz.prog 42 6) (isa_Decode_L1_s a)) = isa_Decode_L1_t Tryz.prog call  a := by kernel_rfl
theorem isa_Decode_L1_k (P : Program) (call : CallF) (lp : Loops)   (a : isa_Decode_L1_A) : (isa_Decode_L1_t P call  a).ok lp (Sum.elim (fun a => (.norm, isa_Decode_L1_s a)) isa_Decode_L1_e) := ⟨rfl, fun hq0 => ⟨rfl, fun hq1 => fun e1 he1 => ⟨R_u8_get he1, ⟨rfl, rfl⟩⟩, fun hq1 => trivial⟩, fun hq0 => rfl⟩
def isa_Decode_L1.s (k : Nat)  : isa_Decode_L1_A → Option isa_Decode_L1_O0 := iter (isa_Decode_L1_b ) k
theorem isa_Decode_L1_ok (call : CallF) (k : Nat)   (a : isa_Decode_L1_A) (r : isa_Decode_L1_O0) (h : isa_Decode_L1.s k  a = some r) : loopsF Tryz.prog G.kd call 0 (G.an 42) k (loopAt Tryz.prog 42 6) (isa_Decode_L1_s a) = some (isa_Decode_L1_e r) :=
  loop_ok (fun a => isa_Decode_L1_t Tryz.prog call  a) (fun _ => rfl) (fun a => isa_Decode_L1_n call  a) (fun a => isa_Decode_L1_k _ call _   a) (fun r => nofun) h
theorem isa_Decode_L1.m {j k : Nat} (hj : j ≤ k)    (a : isa_Decode_L1_A) : Le (isa_Decode_L1.s j  a) (isa_Decode_L1.s k  a) := Le.iter (fun a => .refl _) hj a
noncomputable def isa_Decode_L1.w  : isa_Decode_L1_A → Option isa_Decode_L1_O0 := loopW (isa_Decode_L1_b )
theorem isa_Decode_L1.cv    (a : isa_Decode_L1_A) : Cv (fun k => isa_Decode_L1.s k  a) (isa_Decode_L1.w  a) := Cv.iter (fun a => by exact .const _) a
structure isa_Decode_L3_A where
  x3 : Int
  x5 : Int
  x46 : Int
  x47 : Int
  x57 : (List ByteArray)
  x58 : Int
  x59 : Int
  h0 : T_api_Inst
  h1 : T_api_Inst
structure isa_Decode_L3_O0 where
  x3 : Int
  x5 : Int
  x46 : Int
  x47 : Int
  h0 : T_api_Inst
  h1 : T_api_Inst
def isa_Decode_L3_s (a : isa_Decode_L3_A) : St := { n := 91, nx := 4, env := [(2, .ptr 0 0), (3, .sc (.int .i64 a.x3)), (5, .sc (.int .u32 a.x5)), (9, .ptr 1 0), (46, .sc (.int .i64 a.x46)), (47, .sc (.int .i64 a.x47)), (57, .sl (R_string a.x57)), (58, .sc (.int .i64 a.x58)), (59, .sc (.int .i64 a.x59))], heap := [(0, .box [0, 101] [.sc (.int .i64 a.h0.Op), .arr 2]), (1, .box [0, 101] [.sc (.int .i64 a.h1.Op), .arr 3]), (2, .arr true 1 (R_i64 a.h0.F)), (3, .arr true 1 (R_i64 a.h1.F))] }
def isa_Decode_L3_e (a : isa_Decode_L3_O0) : Ex × St := (.exit 4, { n := 91, nx := 4, env := [(2, .ptr 0 0), (3, .sc (.int .i64 a.x3)), (5, .sc (.int .u32 a.x5)), (9, .ptr 1 0), (46, .sc (.int .i64 a.x46)), (47, .sc (.int .i64 a.x47))], heap := [(0, .box [0, 101] [.sc (.int .i64 a.h0.Op), .arr 2]), (1, .box [0, 101] [.sc (.int .i64 a.h1.Op), .arr 3]), (2, .arr true 1 (R_i64 a.h0.F)), (3, .arr true 1 (R_i64 a.h1.F))] })
def isa_Decode_L3_b (C0 : ByteArray → Int → Option Int) (a : isa_Decode_L3_A) : Option (isa_Decode_L3_A ⊕ isa_Decode_L3_O0) := (bif (decide (a.x59 < a.x58)) then (bif (decide (0 ≤ a.x59)) then ((a.x57[(Int.toNat a.x59)]?).bind fun (e1 : ByteArray) => ((C0 e1 a.x5).bind fun (r2 : Int) => (bif (decide ((a.h1.F.length + [r2].length) * 8 ≤ most)) then (some (.inl (isa_Decode_L3_A.mk a.x3 a.x5 a.x46 a.x47 a.x57 a.x58 (w64 (a.x59 + (1 : Int))) a.h0 (T_api_Inst.mk a.h1.Op (a.h1.F ++ [r2]))))) else none))) else none) else (some (.inr (isa_Decode_L3_O0.mk a.x3 a.x5 a.x46 a.x47 a.h0 a.h1))))
def isa_Decode_L3_t (P : Program) (call : CallF) (C0 : ByteArray → Int → Option Int) (a : isa_Decode_L3_A) : Tr (isa_Decode_L3_A ⊕ isa_Decode_L3_O0) (Ex × St) := (.as (decide (a.x59 < a.x58)) (.as (decide (0 ≤ a.x59)) (.row ((R_string a.x57)[(Int.toNat a.x59)]?) (a.x57[(Int.toNat a.x59)]?) C_string fun (e1 : ByteArray) => (.call (call 56 [.sc (.string e1), .sc (.int .u32 a.x5)] []) (C0 e1 a.x5) isa_get_e fun (r2 : Int) => (.rows [[.sc (.int .i64 r2)]] (R_i64 [r2]) (.yes (decide ((R_i64 [r2]).all (fun r => r.length == 1) = true)) (.ask (decide (((R_i64 a.h1.F).length + (R_i64 [r2]).length) * 8 ≤ most)) (decide ((a.h1.F.length + [r2].length) * 8 ≤ most)) (.rows ((R_i64 a.h1.F) ++ (R_i64 [r2])) (R_i64 (a.h1.F ++ [r2])) (lf isa_Decode_L3_s (isa_Decode_L3_A.mk a.x3 a.x5 a.x46 a.x47 a.x57 a.x58 (w64 (a.x59 + (1 : Int))) a.h0 (T_api_Inst.mk a.h1.Op (a.h1.F ++ [r2]))))) .fail))))) .fail) (rx isa_Decode_L3_e (isa_Decode_L3_O0.mk a.x3 a.x5 a.x46 a.x47 a.h0 a.h1)))
theorem isa_Decode_L3_n (call : CallF) (C0 : ByteArray → Int → Option Int) (a : isa_Decode_L3_A) : (isa_Decode_L3_t Tryz.prog call C0 a).norm (roundT Tryz.prog G.kd call 0 (G.an 42) (loopAt Tryz.prog 42 16) (isa_Decode_L3_s a)) = isa_Decode_L3_t Tryz.prog call C0 a := by kernel_rfl
theorem isa_Decode_L3_k (P : Program) (call : CallF) (lp : Loops) (C0 : ByteArray → Int → Option Int) (K0 : ∀ (a0 : ByteArray) (a1 : Int) (r : Int), C0 a0 a1 = some r → (call 56 [.sc (.string a0), .sc (.int .u32 a1)] []) = some (isa_get_e r)) (a : isa_Decode_L3_A) : (isa_Decode_L3_t P call C0 a).ok lp (Sum.elim (fun a => (.norm, isa_Decode_L3_s a)) isa_Decode_L3_e) := ⟨rfl, fun hq0 => ⟨rfl, fun hq1 => fun e1 he1 => ⟨R_string_get he1, fun r2 hr2 => ⟨K0 _ _ _ hr2, ⟨(R_i64_map [r2]), ⟨(decide_eq_true (R_i64_all _)), ⟨(by rw [R_i64_len, R_i64_len]), fun hq2 => ⟨(R_i64_append _ _), rfl⟩, fun hq2 => trivial⟩⟩⟩⟩⟩, fun hq1 => trivial⟩, fun hq0 => rfl⟩
theorem isa_Decode_L3_c {C0 : Nat → ByteArray → Int → Option Int} {D0 : ByteArray → Int → Option Int} (H0 : ∀ (a0 : ByteArray) (a1 : Int), Cv (fun k => C0 k a0 a1) (D0 a0 a1)) (a : isa_Decode_L3_A) : Cv (fun k => isa_Decode_L3_b (C0 k) a) (isa_Decode_L3_b D0 a) := by
  unfold isa_Decode_L3_b
  exact .cond (.cond (.bind (.const (a.x57[(Int.toNat a.x59)]?)) fun e1 => .bind (H0 _ _) fun r2 => by exact .const _) (by exact .const _)) (by exact .const _)
def isa_Decode_L3.s (k : Nat) (C0 : ByteArray → Int → Option Int) : isa_Decode_L3_A → Option isa_Decode_L3_O0 := iter (isa_Decode_L3_b C0) k
theorem isa_Decode_L3_ok (call : CallF) (k : Nat) (C0 : ByteArray → Int → Option Int) (K0 : ∀ (a0 : ByteArray) (a1 : Int) (r : Int), C0 a0 a1 = some r → (call 56 [.sc (.string a0), .sc (.int .u32 a1)] []) = some (isa_get_e r)) (a : isa_Decode_L3_A) (r : isa_Decode_L3_O0) (h : isa_Decode_L3.s k C0 a = some r) : loopsF Tryz.prog G.kd call 0 (G.an 42) k (loopAt Tryz.prog 42 16) (isa_Decode_L3_s a) = some (isa_Decode_L3_e r) :=
  loop_ok (fun a => isa_Decode_L3_t Tryz.prog call C0 a) (fun _ => rfl) (fun a => isa_Decode_L3_n call _ a) (fun a => isa_Decode_L3_k _ call _ _ K0 a) (fun r => nofun) h
theorem isa_Decode_L3.m {j k : Nat} (hj : j ≤ k) (C0 : ByteArray → Int → Option Int) (D0 : ByteArray → Int → Option Int) (H0 : ∀ (a0 : ByteArray) (a1 : Int), Le (C0 a0 a1) (D0 a0 a1)) (a : isa_Decode_L3_A) : Le (isa_Decode_L3.s j C0 a) (isa_Decode_L3.s k D0 a) := Le.iter (fun a => (isa_Decode_L3_c (fun a0 a1 => .two (H0 a0 a1)) a).1 0) hj a
noncomputable def isa_Decode_L3.w (C0 : ByteArray → Int → Option Int) : isa_Decode_L3_A → Option isa_Decode_L3_O0 := loopW (isa_Decode_L3_b C0)
theorem isa_Decode_L3.cv (C0 : Nat → ByteArray → Int → Option Int) (D0 : ByteArray → Int → Option Int) (H0 : ∀ (a0 : ByteArray) (a1 : Int), Cv (fun k => C0 k a0 a1) (D0 a0 a1)) (a : isa_Decode_L3_A) : Cv (fun k => isa_Decode_L3.s k (C0 k) a) (isa_Decode_L3.w D0 a) := Cv.iter (fun a => isa_Decode_L3_c H0 a) a
structure isa_Decode_L2_A where
  x3 : Int
  x5 : Int
  x46 : Int
  x47 : Int
  h0 : T_api_Inst
structure isa_Decode_L2_O0 where
  x3 : Int
  x4 : Bool
  h0 : T_api_Inst
def isa_Decode_L2_s (a : isa_Decode_L2_A) : St := { n := 91, nx := 2, env := [(2, .ptr 0 0), (3, .sc (.int .i64 a.x3)), (5, .sc (.int .u32 a.x5)), (46, .sc (.int .i64 a.x46)), (47, .sc (.int .i64 a.x47))], heap := [(0, .box [0, 101] [.sc (.int .i64 a.h0.Op), .arr 1]), (1, .arr true 1 (R_i64 a.h0.F))] }
def isa_Decode_L2_e0 (a : isa_Decode_L2_O0) : Ex × St := (.ret, { n := 91, nx := 1, env := [(2, .ptr 0 0), (3, .sc (.int .i64 a.x3)), (4, .sc (.bool a.x4))], heap := [(0, .box [0, 101] (C_api_Inst a.h0))] })
def isa_Decode_L2_e1 (a : T_api_Inst) : Ex × St := (.exit 2, { n := 91, nx := 2, env := [(2, .ptr 0 0)], heap := [(0, .box [0, 101] [.sc (.int .i64 a.Op), .arr 1]), (1, .arr true 1 (R_i64 a.F))] })
def isa_Decode_L2_e (a : (isa_Decode_L2_O0 ⊕ T_api_Inst)) : Ex × St := Sum.elim isa_Decode_L2_e0 isa_Decode_L2_e1 a
def isa_Decode_L2_b (C0 : Int → Option Int) (C1 : Int → Option (List ByteArray)) (C2 : T_api_Inst → Option (Int × Bool)) (C3 : (List Int) → Option (List Int)) (L4 : isa_Decode_L3_A → Option isa_Decode_L3_O0) (a : isa_Decode_L2_A) : Option (isa_Decode_L2_A ⊕ (isa_Decode_L2_O0 ⊕ T_api_Inst)) := (bif (decide (a.x47 < a.x46)) then ((C0 a.x47).bind fun (r1 : Int) => (bif (r1 != a.x3) then (some (.inl (isa_Decode_L2_A.mk a.x3 a.x5 a.x46 (w64 (a.x47 + (1 : Int))) a.h0))) else ((C1 a.x47).bind fun (r2 : (List ByteArray)) => ((L4 (isa_Decode_L3_A.mk a.x3 a.x5 a.x46 a.x47 r2 (((r2.length) : Nat) : Int) (0 : Int) a.h0 (T_api_Inst.mk a.x47 ([] : List Int)))).bind (fun (o3 : isa_Decode_L3_O0) => ((C2 o3.h1).bind fun (r4 : (Int × Bool)) => (bif r4.2 then (bif (r4.1 == o3.x5) then ((C3 o3.h1.F).bind fun (r5 : (List Int)) => (some (.inr (.inl (isa_Decode_L2_O0.mk o3.x3 true (T_api_Inst.mk o3.h1.Op r5)))))) else (some (.inl (isa_Decode_L2_A.mk o3.x3 o3.x5 o3.x46 (w64 (o3.x47 + (1 : Int))) o3.h0)))) else (some (.inl (isa_Decode_L2_A.mk o3.x3 o3.x5 o3.x46 (w64 (o3.x47 + (1 : Int))) o3.h0)))))))))) else (some (.inr (.inr a.h0))))
def isa_Decode_L2_t (P : Program) (call : CallF) (C0 : Int → Option Int) (C1 : Int → Option (List ByteArray)) (C2 : T_api_Inst → Option (Int × Bool)) (C3 : (List Int) → Option (List Int)) (L4 : isa_Decode_L3_A → Option isa_Decode_L3_O0) (a : isa_Decode_L2_A) : Tr (isa_Decode_L2_A ⊕ (isa_Decode_L2_O0 ⊕ T_api_Inst)) (Ex × St) := (.as (decide (a.x47 < a.x46)) (.call (call 53 [.sc (.int .i64 a.x47)] []) (C0 a.x47) isa_Size_e fun (r1 : Int) => (.as (r1 != a.x3) (lf isa_Decode_L2_s (isa_Decode_L2_A.mk a.x3 a.x5 a.x46 (w64 (a.x47 + (1 : Int))) a.h0)) (.call (call 54 [.sc (.int .i64 a.x47), .fn (.func 55) [] []] []) (C1 a.x47) isa_of_2_e fun (r2 : (List ByteArray)) => (.num ((R_string r2).length) (r2.length) (.loop (loopAt P 42 16) (isa_Decode_L3_s (isa_Decode_L3_A.mk a.x3 a.x5 a.x46 a.x47 r2 (((r2.length) : Nat) : Int) (0 : Int) a.h0 (T_api_Inst.mk a.x47 ([] : List Int)))) (L4 (isa_Decode_L3_A.mk a.x3 a.x5 a.x46 a.x47 r2 (((r2.length) : Nat) : Int) (0 : Int) a.h0 (T_api_Inst.mk a.x47 ([] : List Int)))) isa_Decode_L3_e (fun (o3 : isa_Decode_L3_O0) => (.call (call 57 [.agg (C_api_Inst o3.h1)] []) (C2 o3.h1) isa_code_e fun (r4 : (Int × Bool)) => (.as r4.2 (yesN 3 r4.2 (.as (r4.1 == o3.x5) (.call (call 58 [.sl (R_i64 o3.h1.F)] []) (C3 o3.h1.F) slices_Clone_e fun (r5 : (List Int)) => (rx isa_Decode_L2_e (.inl (isa_Decode_L2_O0.mk o3.x3 true (T_api_Inst.mk o3.h1.Op r5))))) (lf isa_Decode_L2_s (isa_Decode_L2_A.mk o3.x3 o3.x5 o3.x46 (w64 (o3.x47 + (1 : Int))) o3.h0)))) (noN 3 r4.2 (.no false (lf isa_Decode_L2_s (isa_Decode_L2_A.mk o3.x3 o3.x5 o3.x46 (w64 (o3.x47 + (1 : Int))) o3.h0)))))))))))) (rx isa_Decode_L2_e (.inr a.h0)))
theorem isa_Decode_L2_n (call : CallF) (C0 : Int → Option Int) (C1 : Int → Option (List ByteArray)) (C2 : T_api_Inst → Option (Int × Bool)) (C3 : (List Int) → Option (List Int)) (L4 : isa_Decode_L3_A → Option isa_Decode_L3_O0) (a : isa_Decode_L2_A) : (isa_Decode_L2_t Tryz.prog call C0 C1 C2 C3 L4 a).norm (roundT Tryz.prog G.kd call 0 (G.an 42) (loopAt Tryz.prog 42 11) (isa_Decode_L2_s a)) = isa_Decode_L2_t Tryz.prog call C0 C1 C2 C3 L4 a := by kernel_rfl
theorem isa_Decode_L2_k (P : Program) (call : CallF) (lp : Loops) (C0 : Int → Option Int) (C1 : Int → Option (List ByteArray)) (C2 : T_api_Inst → Option (Int × Bool)) (C3 : (List Int) → Option (List Int)) (L4 : isa_Decode_L3_A → Option isa_Decode_L3_O0) (K0 : ∀ (a0 : Int) (r : Int), C0 a0 = some r → (call 53 [.sc (.int .i64 a0)] []) = some (isa_Size_e r)) (K1 : ∀ (a0 : Int) (r : (List ByteArray)), C1 a0 = some r → (call 54 [.sc (.int .i64 a0), .fn (.func 55) [] []] []) = some (isa_of_2_e r)) (K2 : ∀ (a0 : T_api_Inst) (r : (Int × Bool)), C2 a0 = some r → (call 57 [.agg (C_api_Inst a0)] []) = some (isa_code_e r)) (K3 : ∀ (a0 : (List Int)) (r : (List Int)), C3 a0 = some r → (call 58 [.sl (R_i64 a0)] []) = some (slices_Clone_e r)) (N4 : ∀ (a : isa_Decode_L3_A) (r : isa_Decode_L3_O0), L4 a = some r → lp (loopAt P 42 16) (isa_Decode_L3_s a) = some (isa_Decode_L3_e r)) (a : isa_Decode_L2_A) : (isa_Decode_L2_t P call C0 C1 C2 C3 L4 a).ok lp (Sum.elim (fun a => (.norm, isa_Decode_L2_s a)) isa_Decode_L2_e) := ⟨rfl, fun hq0 => fun r1 hr1 => ⟨K0 _ _ hr1, ⟨rfl, fun hq1 => rfl, fun hq1 => fun r2 hr2 => ⟨K1 _ _ hr2, ⟨(R_string_len _), fun o3 ho3 => ⟨N4 _ _ ho3, fun r4 hr4 => ⟨K2 _ _ hr4, ⟨rfl, fun hq2 => yesN_ok 3 (hq2) (⟨rfl, fun hq3 => fun r5 hr5 => ⟨K3 _ _ hr5, rfl⟩, fun hq3 => rfl⟩), fun hq2 => noN_ok 3 (hq2) (⟨rfl, rfl⟩)⟩⟩⟩⟩⟩⟩⟩, fun hq0 => rfl⟩
theorem isa_Decode_L2_c {C0 : Nat → Int → Option Int} {D0 : Int → Option Int} (H0 : ∀ (a0 : Int), Cv (fun k => C0 k a0) (D0 a0)) {C1 : Nat → Int → Option (List ByteArray)} {D1 : Int → Option (List ByteArray)} (H1 : ∀ (a0 : Int), Cv (fun k => C1 k a0) (D1 a0)) {C2 : Nat → T_api_Inst → Option (Int × Bool)} {D2 : T_api_Inst → Option (Int × Bool)} (H2 : ∀ (a0 : T_api_Inst), Cv (fun k => C2 k a0) (D2 a0)) {C3 : Nat → (List Int) → Option (List Int)} {D3 : (List Int) → Option (List Int)} (H3 : ∀ (a0 : (List Int)), Cv (fun k => C3 k a0) (D3 a0)) {L4 : Nat → isa_Decode_L3_A → Option isa_Decode_L3_O0} {M4 : isa_Decode_L3_A → Option isa_Decode_L3_O0} (N4 : ∀ a, Cv (fun k => L4 k a) (M4 a)) (a : isa_Decode_L2_A) : Cv (fun k => isa_Decode_L2_b (C0 k) (C1 k) (C2 k) (C3 k) (L4 k) a) (isa_Decode_L2_b D0 D1 D2 D3 M4 a) := by
  unfold isa_Decode_L2_b
  exact .cond (.bind (H0 _) fun r1 => .cond (by exact .const _) (.bind (H1 _) fun r2 => .bind (N4 _) (fun o3 => .bind (H2 _) fun r4 => .cond (.cond (.bind (H3 _) fun r5 => by exact .const _) (by exact .const _)) (by exact .const _)))) (by exact .const _)
def isa_Decode_L2.s (k : Nat) (C0 : Int → Option Int) (C1 : Int → Option (List ByteArray)) (C2 : ByteArray → Int → Option Int) (C3 : T_api_Inst → Option (Int × Bool)) (C4 : (List Int) → Option (List Int)) : isa_Decode_L2_A → Option (isa_Decode_L2_O0 ⊕ T_api_Inst) := iter (isa_Decode_L2_b C0 C1 C3 C4 (isa_Decode_L3.s k C2)) k
theorem isa_Decode_L2_ok (call : CallF) (k : Nat) (C0 : Int → Option Int) (C1 : Int → Option (List ByteArray)) (C2 : ByteArray → Int → Option Int) (C3 : T_api_Inst → Option (Int × Bool)) (C4 : (List Int) → Option (List Int)) (K0 : ∀ (a0 : Int) (r : Int), C0 a0 = some r → (call 53 [.sc (.int .i64 a0)] []) = some (isa_Size_e r)) (K1 : ∀ (a0 : Int) (r : (List ByteArray)), C1 a0 = some r → (call 54 [.sc (.int .i64 a0), .fn (.func 55) [] []] []) = some (isa_of_2_e r)) (K2 : ∀ (a0 : ByteArray) (a1 : Int) (r : Int), C2 a0 a1 = some r → (call 56 [.sc (.string a0), .sc (.int .u32 a1)] []) = some (isa_get_e r)) (K3 : ∀ (a0 : T_api_Inst) (r : (Int × Bool)), C3 a0 = some r → (call 57 [.agg (C_api_Inst a0)] []) = some (isa_code_e r)) (K4 : ∀ (a0 : (List Int)) (r : (List Int)), C4 a0 = some r → (call 58 [.sl (R_i64 a0)] []) = some (slices_Clone_e r)) (a : isa_Decode_L2_A) (r : (isa_Decode_L2_O0 ⊕ T_api_Inst)) (h : isa_Decode_L2.s k C0 C1 C2 C3 C4 a = some r) : loopsF Tryz.prog G.kd call 0 (G.an 42) k (loopAt Tryz.prog 42 11) (isa_Decode_L2_s a) = some (isa_Decode_L2_e r) :=
  loop_ok (fun a => isa_Decode_L2_t Tryz.prog call C0 C1 C3 C4 (isa_Decode_L3.s k C2) a) (fun _ => rfl) (fun a => isa_Decode_L2_n call _ _ _ _ _ a) (fun a => isa_Decode_L2_k _ call _ _ _ _ _ _ K0 K1 K3 K4 (isa_Decode_L3_ok call k C2 K2) a) (fun r => by cases r <;> nofun) h
theorem isa_Decode_L2.m {j k : Nat} (hj : j ≤ k) (C0 : Int → Option Int) (C1 : Int → Option (List ByteArray)) (C2 : ByteArray → Int → Option Int) (C3 : T_api_Inst → Option (Int × Bool)) (C4 : (List Int) → Option (List Int)) (D0 : Int → Option Int) (D1 : Int → Option (List ByteArray)) (D2 : ByteArray → Int → Option Int) (D3 : T_api_Inst → Option (Int × Bool)) (D4 : (List Int) → Option (List Int)) (H0 : ∀ (a0 : Int), Le (C0 a0) (D0 a0)) (H1 : ∀ (a0 : Int), Le (C1 a0) (D1 a0)) (H2 : ∀ (a0 : ByteArray) (a1 : Int), Le (C2 a0 a1) (D2 a0 a1)) (H3 : ∀ (a0 : T_api_Inst), Le (C3 a0) (D3 a0)) (H4 : ∀ (a0 : (List Int)), Le (C4 a0) (D4 a0)) (a : isa_Decode_L2_A) : Le (isa_Decode_L2.s j C0 C1 C2 C3 C4 a) (isa_Decode_L2.s k D0 D1 D2 D3 D4 a) := Le.iter (fun a => (isa_Decode_L2_c (fun a0 => .two (H0 a0)) (fun a0 => .two (H1 a0)) (fun a0 => .two (H3 a0)) (fun a0 => .two (H4 a0)) (fun a => .two ((isa_Decode_L3.m hj C2 D2 H2) a)) a).1 0) hj a
noncomputable def isa_Decode_L2.w (C0 : Int → Option Int) (C1 : Int → Option (List ByteArray)) (C2 : ByteArray → Int → Option Int) (C3 : T_api_Inst → Option (Int × Bool)) (C4 : (List Int) → Option (List Int)) : isa_Decode_L2_A → Option (isa_Decode_L2_O0 ⊕ T_api_Inst) := loopW (isa_Decode_L2_b C0 C1 C3 C4 (isa_Decode_L3.w C2))
theorem isa_Decode_L2.cv (C0 : Nat → Int → Option Int) (C1 : Nat → Int → Option (List ByteArray)) (C2 : Nat → ByteArray → Int → Option Int) (C3 : Nat → T_api_Inst → Option (Int × Bool)) (C4 : Nat → (List Int) → Option (List Int)) (D0 : Int → Option Int) (D1 : Int → Option (List ByteArray)) (D2 : ByteArray → Int → Option Int) (D3 : T_api_Inst → Option (Int × Bool)) (D4 : (List Int) → Option (List Int)) (H0 : ∀ (a0 : Int), Cv (fun k => C0 k a0) (D0 a0)) (H1 : ∀ (a0 : Int), Cv (fun k => C1 k a0) (D1 a0)) (H2 : ∀ (a0 : ByteArray) (a1 : Int), Cv (fun k => C2 k a0 a1) (D2 a0 a1)) (H3 : ∀ (a0 : T_api_Inst), Cv (fun k => C3 k a0) (D3 a0)) (H4 : ∀ (a0 : (List Int)), Cv (fun k => C4 k a0) (D4 a0)) (a : isa_Decode_L2_A) : Cv (fun k => isa_Decode_L2.s k (C0 k) (C1 k) (C2 k) (C3 k) (C4 k) a) (isa_Decode_L2.w D0 D1 D2 D3 D4 a) := Cv.iter (fun a => isa_Decode_L2_c H0 H1 H3 H4 (isa_Decode_L3.cv C2 D2 H2) a) a
def isa_Decode_b (C0 : Int → Option Int) (C1 : Option (List T_isa_row)) (L2 : isa_Decode_L1_A → Option isa_Decode_L1_O0) (L3 : isa_Decode_L2_A → Option (isa_Decode_L2_O0 ⊕ T_api_Inst)) (a0 : (List Int)) : Option (T_api_Inst × Int × Bool) := (bif (decide ((((a0.length) : Nat) : Int) < (2 : Int))) then (some ((T_api_Inst.mk (0 : Int) ([] : List Int)), (0 : Int), false)) else ((a0[(Int.toNat (0 : Int))]?).bind fun (e1 : Int) => ((C0 e1).bind fun (r2 : Int) => (bif (decide ((((a0.length) : Nat) : Int) < r2)) then (some ((T_api_Inst.mk (0 : Int) ([] : List Int)), (0 : Int), false)) else ((a0[(Int.toNat (0 : Int))]?).bind fun (e3 : Int) => ((C0 e3).bind fun (r4 : Int) => (bif (decide (0 ≤ (0 : Int) ∧ (0 : Int) ≤ r4 ∧ r4 ≤ ((a0.length : Nat) : Int))) then ((L2 (isa_Decode_L1_A.mk r4 (0 : Int) ((a0.drop (Int.toNat (0 : Int))).take (Int.toNat (r4 - (0 : Int)))) (((((a0.drop (Int.toNat (0 : Int))).take (Int.toNat (r4 - (0 : Int)))).length) : Nat) : Int) (0 : Int) (T_api_Inst.mk (0 : Int) ([] : List Int)))).bind (fun (o5 : isa_Decode_L1_O0) => ((C1).bind fun (r6 : (List T_isa_row)) => ((L3 (isa_Decode_L2_A.mk o5.x3 o5.x5 (((r6.length) : Nat) : Int) (0 : Int) o5.h0)).bind fun x => Sum.elim (fun (o7 : isa_Decode_L2_O0) => (some (o7.h0, o7.x3, o7.x4))) (fun (o8 : T_api_Inst) => (some ((T_api_Inst.mk (0 : Int) ([] : List Int)), (0 : Int), false))) x)))) else none)))))))
def isa_Decode_t (P : Program) (call : CallF) (C0 : Int → Option Int) (C1 : Option (List T_isa_row)) (L2 : isa_Decode_L1_A → Option isa_Decode_L1_O0) (L3 : isa_Decode_L2_A → Option (isa_Decode_L2_O0 ⊕ T_api_Inst)) (a0 : (List Int)) : Tr (T_api_Inst × Int × Bool) (AV × Heap) := (.num ((R_u8 a0).length) (a0.length) (.as (decide ((((a0.length) : Nat) : Int) < (2 : Int))) (yesN 7 (decide ((((a0.length) : Nat) : Int) < (2 : Int))) (.yes true (rt isa_Decode_e ((T_api_Inst.mk (0 : Int) ([] : List Int)), (0 : Int), false)))) (.no (decide ((((a0.length) : Nat) : Int) < (2 : Int))) (.num ((R_u8 a0).length) (a0.length) (noN 2 (decide ((((a0.length) : Nat) : Int) < (2 : Int))) (.yes (decide (0 ≤ (0 : Int))) (.row ((R_u8 a0)[(Int.toNat (0 : Int))]?) (a0[(Int.toNat (0 : Int))]?) C_u8 fun (e1 : Int) => (noN 2 (decide ((((a0.length) : Nat) : Int) < (2 : Int))) (.call (call 51 [.sc (.int .u8 e1)] []) (C0 e1) isa_size_e fun (r2 : Int) => (noN 2 (decide ((((a0.length) : Nat) : Int) < (2 : Int))) (.as (decide ((((a0.length) : Nat) : Int) < r2)) (rt isa_Decode_e ((T_api_Inst.mk (0 : Int) ([] : List Int)), (0 : Int), false)) (.yes (decide (0 ≤ (0 : Int))) (.row ((R_u8 a0)[(Int.toNat (0 : Int))]?) (a0[(Int.toNat (0 : Int))]?) C_u8 fun (e3 : Int) => (.call (call 51 [.sc (.int .u8 e3)] []) (C0 e3) isa_size_e fun (r4 : Int) => (.yes (decide ((R_u8 a0).all (fun r => r.length == 1) = true)) (.ask (decide (0 ≤ (0 : Int) ∧ (0 : Int) ≤ r4 ∧ r4 ≤ (((R_u8 a0).length : Nat) : Int))) (decide (0 ≤ (0 : Int) ∧ (0 : Int) ≤ r4 ∧ r4 ≤ ((a0.length : Nat) : Int))) (.rows (((R_u8 a0).drop (Int.toNat (0 : Int))).take (Int.toNat (r4 - (0 : Int)))) (R_u8 ((a0.drop (Int.toNat (0 : Int))).take (Int.toNat (r4 - (0 : Int))))) (.num ((R_u8 ((a0.drop (Int.toNat (0 : Int))).take (Int.toNat (r4 - (0 : Int))))).length) (((a0.drop (Int.toNat (0 : Int))).take (Int.toNat (r4 - (0 : Int)))).length) (.loop (loopAt P 42 6) (isa_Decode_L1_s (isa_Decode_L1_A.mk r4 (0 : Int) ((a0.drop (Int.toNat (0 : Int))).take (Int.toNat (r4 - (0 : Int)))) (((((a0.drop (Int.toNat (0 : Int))).take (Int.toNat (r4 - (0 : Int)))).length) : Nat) : Int) (0 : Int) (T_api_Inst.mk (0 : Int) ([] : List Int)))) (L2 (isa_Decode_L1_A.mk r4 (0 : Int) ((a0.drop (Int.toNat (0 : Int))).take (Int.toNat (r4 - (0 : Int)))) (((((a0.drop (Int.toNat (0 : Int))).take (Int.toNat (r4 - (0 : Int)))).length) : Nat) : Int) (0 : Int) (T_api_Inst.mk (0 : Int) ([] : List Int)))) isa_Decode_L1_e (fun (o5 : isa_Decode_L1_O0) => (.call (call 52 [] []) (C1) isa_table_e fun (r6 : (List T_isa_row)) => (.num ((R_isa_row r6).length) (r6.length) (.loop2 (loopAt P 42 11) (isa_Decode_L2_s (isa_Decode_L2_A.mk o5.x3 o5.x5 (((r6.length) : Nat) : Int) (0 : Int) o5.h0)) (L3 (isa_Decode_L2_A.mk o5.x3 o5.x5 (((r6.length) : Nat) : Int) (0 : Int) o5.h0)) isa_Decode_L2_e0 isa_Decode_L2_e1 (fun (o7 : isa_Decode_L2_O0) => (rt isa_Decode_e (o7.h0, o7.x3, o7.x4))) (fun (o8 : T_api_Inst) => (rt isa_Decode_e ((T_api_Inst.mk (0 : Int) ([] : List Int)), (0 : Int), false)))))))))) .fail))))))))))))))))
theorem isa_Decode_n (call : CallF) (C0 : Int → Option Int) (C1 : Option (List T_isa_row)) (L2 : isa_Decode_L1_A → Option isa_Decode_L1_O0) (L3 : isa_Decode_L2_A → Option (isa_Decode_L2_O0 ⊕ T_api_Inst)) (a0 : (List Int)) : (isa_Decode_t Tryz.prog call C0 C1 L2 L3 a0).norm (bodyT Tryz.prog call G 42 [.sl (R_u8 a0)] []) = isa_Decode_t Tryz.prog call C0 C1 L2 L3 a0 := by kernel_rfl
theorem isa_Decode_k (P : Program) (call : CallF) (lp : Loops) (C0 : Int → Option Int) (C1 : Option (List T_isa_row)) (L2 : isa_Decode_L1_A → Option isa_Decode_L1_O0) (L3 : isa_Decode_L2_A → Option (isa_Decode_L2_O0 ⊕ T_api_Inst)) (K0 : ∀ (a0 : Int) (r : Int), C0 a0 = some r → (call 51 [.sc (.int .u8 a0)] []) = some (isa_size_e r)) (K1 : ∀  (r : (List T_isa_row)), C1 = some r → (call 52 [] []) = some (isa_table_e r)) (N2 : ∀ (a : isa_Decode_L1_A) (r : isa_Decode_L1_O0), L2 a = some r → lp (loopAt P 42 6) (isa_Decode_L1_s a) = some (isa_Decode_L1_e r)) (N3 : ∀ (a : isa_Decode_L2_A) (r : (isa_Decode_L2_O0 ⊕ T_api_Inst)), L3 a = some r → lp (loopAt P 42 11) (isa_Decode_L2_s a) = some (isa_Decode_L2_e r)) (a0 : (List Int)) : (isa_Decode_t P call C0 C1 L2 L3 a0).ok lp isa_Decode_e := ⟨(R_u8_len _), ⟨rfl, fun hq0 => yesN_ok 7 (hq0) (⟨rfl, rfl⟩), fun hq0 => ⟨hq0, ⟨(R_u8_len _), noN_ok 2 (hq0) (⟨rfl, fun e1 he1 => ⟨R_u8_get he1, noN_ok 2 (hq0) (fun r2 hr2 => ⟨K0 _ _ hr2, noN_ok 2 (hq0) (⟨rfl, fun hq1 => rfl, fun hq1 => ⟨rfl, fun e3 he3 => ⟨R_u8_get he3, fun r4 hr4 => ⟨K0 _ _ hr4, ⟨(decide_eq_true (R_u8_all _)), ⟨(by rw [R_u8_len]), fun hq2 => ⟨(by rw [R_u8_slice]), ⟨(R_u8_len _), fun o5 ho5 => ⟨N2 _ _ ho5, fun r6 hr6 => ⟨K1 _ hr6, ⟨(R_isa_row_len _), ⟨fun o7 ho7 => ⟨N3 _ (.inl _) ho7, rfl⟩, fun o8 ho8 => ⟨N3 _ (.inr _) ho8, rfl⟩⟩⟩⟩⟩⟩⟩, fun hq2 => trivial⟩⟩⟩⟩⟩⟩)⟩)⟩⟩)⟩⟩⟩⟩
theorem isa_Decode_c {C0 : Nat → Int → Option Int} {D0 : Int → Option Int} (H0 : ∀ (a0 : Int), Cv (fun k => C0 k a0) (D0 a0)) {C1 : Nat → Option (List T_isa_row)} {D1 : Option (List T_isa_row)} (H1 : Cv (fun k => C1 k ) (D1 )) {L2 : Nat → isa_Decode_L1_A → Option isa_Decode_L1_O0} {M2 : isa_Decode_L1_A → Option isa_Decode_L1_O0} (N2 : ∀ a, Cv (fun k => L2 k a) (M2 a)) {L3 : Nat → isa_Decode_L2_A → Option (isa_Decode_L2_O0 ⊕ T_api_Inst)} {M3 : isa_Decode_L2_A → Option (isa_Decode_L2_O0 ⊕ T_api_Inst)} (N3 : ∀ a, Cv (fun k => L3 k a) (M3 a)) (a0 : (List Int)) : Cv (fun k => isa_Decode_b (C0 k) (C1 k) (L2 k) (L3 k) a0) (isa_Decode_b D0 D1 M2 M3 a0) := by
  unfold isa_Decode_b
  exact .cond (by exact .const _) (.bind (.const (a0[(Int.toNat (0 : Int))]?)) fun e1 => .bind (H0 _) fun r2 => .cond (by exact .const _) (.bind (.const (a0[(Int.toNat (0 : Int))]?)) fun e3 => .bind (H0 _) fun r4 => .cond (.bind (N2 _) (fun o5 => .bind (H1) fun r6 => .bind (N3 _) fun x => .sum (fun o7 => by exact .const _) (fun o8 => by exact .const _) x)) (by exact .const _)))
def isa_Decode.s : Nat → (List Int) → Option (T_api_Inst × Int × Bool)
  | 0, _ => none
  | k + 1, a0 => isa_Decode_b (fun a0 => isa_size.s k a0) (isa_table.s k) (isa_Decode_L1.s k) (isa_Decode_L2.s k (fun a0 => isa_Size.s k a0) (fun a0 => isa_of_2.s k a0) (fun a0 a1 => isa_get.s k a0 a1) (fun a0 => isa_code.s k a0) (fun a0 => slices_Clone.s k a0)) a0
theorem isa_Decode.ok : ∀ (k : Nat), ∀ (a0 : (List Int)) (r : (T_api_Inst × Int × Bool)), isa_Decode.s k a0 = some r → evalFn Tryz.prog G k 42 [.sl (R_u8 a0)] [] = some (isa_Decode_e r)
  | 0, _, _, h => (nomatch h)
  | k + 1, a0, r, h => fn_ok rfl (isa_Decode_t Tryz.prog (evalFn Tryz.prog G k) (fun a0 => isa_size.s k a0) (isa_table.s k) (isa_Decode_L1.s k) (isa_Decode_L2.s k (fun a0 => isa_Size.s k a0) (fun a0 => isa_of_2.s k a0) (fun a0 a1 => isa_get.s k a0 a1) (fun a0 => isa_code.s k a0) (fun a0 => slices_Clone.s k a0)) a0) (isa_Decode_n _ _ _ _ _ a0) (isa_Decode_k _ _ _ _ _ _ _ (isa_size.ok k) (isa_table.ok k) (isa_Decode_L1_ok _ k) (isa_Decode_L2_ok _ k _ _ _ _ _ (isa_Size.ok k) (isa_of_2.ok k) (isa_get.ok k) (isa_code.ok k) (slices_Clone.ok k)) a0) h
theorem isa_Decode.mono : ∀ (k : Nat) (a0 : (List Int)), Le (isa_Decode.s k a0) (isa_Decode.s (k + 1) a0)
  | 0, _ => fun r h => (nomatch h)
  | k + 1, a0 => (isa_Decode_c (fun a0 => .two ((isa_size.mono k) a0)) (.two (isa_table.mono k)) (fun a => .two ((isa_Decode_L1.m (Nat.le_succ k)) a)) (fun a => .two ((isa_Decode_L2.m (Nat.le_succ k) (fun a0 => isa_Size.s k a0) (fun a0 => isa_of_2.s k a0) (fun a0 a1 => isa_get.s k a0 a1) (fun a0 => isa_code.s k a0) (fun a0 => slices_Clone.s k a0) (fun a0 => isa_Size.s (k + 1) a0) (fun a0 => isa_of_2.s (k + 1) a0) (fun a0 a1 => isa_get.s (k + 1) a0 a1) (fun a0 => isa_code.s (k + 1) a0) (fun a0 => slices_Clone.s (k + 1) a0) (isa_Size.mono k) (isa_of_2.mono k) (isa_get.mono k) (isa_code.mono k) (slices_Clone.mono k)) a)) a0).1 0
noncomputable def isa_Decode (a0 : (List Int)) : Option (T_api_Inst × Int × Bool) := lim fun k => isa_Decode.s k a0
theorem isa_Decode.cv (a0 : (List Int)) : Cv (fun k => isa_Decode.s k a0) (isa_Decode a0) := .lim fun k => isa_Decode.mono k a0
noncomputable def isa_Decode_L1 : isa_Decode_L1_A → Option isa_Decode_L1_O0 := isa_Decode_L1.w 
theorem isa_Decode_L1.eq (a : isa_Decode_L1_A) : isa_Decode_L1 a = (isa_Decode_L1_b  a).bind (Sum.elim isa_Decode_L1 some) := loopW_eq _ _
noncomputable def isa_Decode_L3 : isa_Decode_L3_A → Option isa_Decode_L3_O0 := isa_Decode_L3.w isa_get
theorem isa_Decode_L3.eq (a : isa_Decode_L3_A) : isa_Decode_L3 a = (isa_Decode_L3_b isa_get a).bind (Sum.elim isa_Decode_L3 some) := loopW_eq _ _
noncomputable def isa_Decode_L2 : isa_Decode_L2_A → Option (isa_Decode_L2_O0 ⊕ T_api_Inst) := isa_Decode_L2.w isa_Size isa_of_2 isa_get isa_code slices_Clone
theorem isa_Decode_L2.eq (a : isa_Decode_L2_A) : isa_Decode_L2 a = (isa_Decode_L2_b isa_Size isa_of_2 isa_code slices_Clone isa_Decode_L3 a).bind (Sum.elim isa_Decode_L2 some) := loopW_eq _ _
theorem isa_Decode.eq (a0 : (List Int)) : isa_Decode a0 = isa_Decode_b isa_size isa_table isa_Decode_L1 isa_Decode_L2 a0 := Cv.uniq (isa_Decode.cv a0).shift (isa_Decode_c isa_size.cv isa_table.cv (isa_Decode_L1.cv) (isa_Decode_L2.cv (fun k => fun a0 => isa_Size.s k a0) (fun k => fun a0 => isa_of_2.s k a0) (fun k => fun a0 a1 => isa_get.s k a0 a1) (fun k => fun a0 => isa_code.s k a0) (fun k => fun a0 => slices_Clone.s k a0) isa_Size isa_of_2 isa_get isa_code slices_Clone isa_Size.cv isa_of_2.cv isa_get.cv isa_code.cv slices_Clone.cv) a0)
def isa_row_operands_e (r : ByteArray) : AV × Heap := (.sc (.string r), [])
def isa_row_operands_b  (a0 : T_isa_row) : Option ByteArray := (some a0.kinds)
def isa_row_operands_t (P : Program) (call : CallF)  (a0 : T_isa_row) : Tr ByteArray (AV × Heap) := (rt isa_row_operands_e a0.kinds)
theorem isa_row_operands_n (call : CallF)  (a0 : T_isa_row) : (isa_row_operands_t Tryz.prog call  a0).norm (bodyT Tryz.prog call G 85 [.agg (C_isa_row a0)] []) = isa_row_operands_t Tryz.prog call  a0 := by kernel_rfl
theorem isa_row_operands_k (P : Program) (call : CallF) (lp : Loops)   (a0 : T_isa_row) : (isa_row_operands_t P call  a0).ok lp isa_row_operands_e := rfl
def isa_row_operands.s : Nat → T_isa_row → Option ByteArray
  | 0, _ => none
  | k + 1, a0 => isa_row_operands_b  a0
theorem isa_row_operands.ok : ∀ (k : Nat), ∀ (a0 : T_isa_row) (r : ByteArray), isa_row_operands.s k a0 = some r → evalFn Tryz.prog G k 85 [.agg (C_isa_row a0)] [] = some (isa_row_operands_e r)
  | 0, _, _, h => (nomatch h)
  | k + 1, a0, r, h => fn_ok rfl (isa_row_operands_t Tryz.prog (evalFn Tryz.prog G k)  a0) (isa_row_operands_n _  a0) (isa_row_operands_k _ _ _    a0) h
theorem isa_row_operands.mono : ∀ (k : Nat) (a0 : T_isa_row), Le (isa_row_operands.s k a0) (isa_row_operands.s (k + 1) a0)
  | 0, _ => fun r h => (nomatch h)
  | k + 1, a0 => .refl _
noncomputable def isa_row_operands (a0 : T_isa_row) : Option ByteArray := lim fun k => isa_row_operands.s k a0
theorem isa_row_operands.cv (a0 : T_isa_row) : Cv (fun k => isa_row_operands.s k a0) (isa_row_operands a0) := .lim fun k => isa_row_operands.mono k a0
theorem isa_row_operands.eq (a0 : T_isa_row) : isa_row_operands a0 = isa_row_operands_b  a0 := Cv.uniq (isa_row_operands.cv a0).shift (by exact .const _)
def isa_of_4_e (r : ByteArray) : AV × Heap := (.sc (.string r), [])
def isa_of_4_b (C0 : Option (List T_isa_row)) (C1 : T_isa_row → Option ByteArray) (a0 : Int) : Option ByteArray := ((C0).bind fun (r1 : (List T_isa_row)) => (bif (decide (a0 ≥ (0 : Int))) then (bif (decide (a0 < (((r1.length) : Nat) : Int))) then (bif (decide (0 ≤ a0)) then ((r1[(Int.toNat a0)]?).bind fun (e2 : T_isa_row) => ((C1 e2).bind fun (r3 : ByteArray) => (some r3))) else none) else (some s_)) else (some s_)))
def isa_of_4_t (P : Program) (call : CallF) (C0 : Option (List T_isa_row)) (C1 : T_isa_row → Option ByteArray) (a0 : Int) : Tr ByteArray (AV × Heap) := (.call (call 52 [] []) (C0) isa_table_e fun (r1 : (List T_isa_row)) => (.as (decide (a0 ≥ (0 : Int))) (yesN 2 (decide (a0 ≥ (0 : Int))) (.num ((R_isa_row r1).length) (r1.length) (yesN 2 (decide (a0 ≥ (0 : Int))) (.as (decide (a0 < (((r1.length) : Nat) : Int))) (.as (decide (0 ≤ a0)) (.row ((R_isa_row r1)[(Int.toNat a0)]?) (r1[(Int.toNat a0)]?) C_isa_row fun (e2 : T_isa_row) => (.call (call 85 [.agg (C_isa_row e2)] []) (C1 e2) isa_row_operands_e fun (r3 : ByteArray) => (rt isa_of_4_e r3))) .fail) (rt isa_of_4_e s_))))) (noN 4 (decide (a0 ≥ (0 : Int))) (.no false (rt isa_of_4_e s_)))))
theorem isa_of_4_n (call : CallF) (C0 : Option (List T_isa_row)) (C1 : T_isa_row → Option ByteArray) (a0 : Int) : (isa_of_4_t Tryz.prog call C0 C1 a0).norm (bodyT Tryz.prog call G 84 [.sc (.int .i64 a0), .fn (.func 85) [] []] []) = isa_of_4_t Tryz.prog call C0 C1 a0 := by kernel_rfl
theorem isa_of_4_k (P : Program) (call : CallF) (lp : Loops) (C0 : Option (List T_isa_row)) (C1 : T_isa_row → Option ByteArray) (K0 : ∀  (r : (List T_isa_row)), C0 = some r → (call 52 [] []) = some (isa_table_e r)) (K1 : ∀ (a0 : T_isa_row) (r : ByteArray), C1 a0 = some r → (call 85 [.agg (C_isa_row a0)] []) = some (isa_row_operands_e r)) (a0 : Int) : (isa_of_4_t P call C0 C1 a0).ok lp isa_of_4_e := fun r1 hr1 => ⟨K0 _ hr1, ⟨rfl, fun hq0 => yesN_ok 2 (hq0) (⟨(R_isa_row_len _), yesN_ok 2 (hq0) (⟨rfl, fun hq1 => ⟨rfl, fun hq2 => fun e2 he2 => ⟨R_isa_row_get he2, fun r3 hr3 => ⟨K1 _ _ hr3, rfl⟩⟩, fun hq2 => trivial⟩, fun hq1 => rfl⟩)⟩), fun hq0 => noN_ok 4 (hq0) (⟨rfl, rfl⟩)⟩⟩
theorem isa_of_4_c {C0 : Nat → Option (List T_isa_row)} {D0 : Option (List T_isa_row)} (H0 : Cv (fun k => C0 k ) (D0 )) {C1 : Nat → T_isa_row → Option ByteArray} {D1 : T_isa_row → Option ByteArray} (H1 : ∀ (a0 : T_isa_row), Cv (fun k => C1 k a0) (D1 a0)) (a0 : Int) : Cv (fun k => isa_of_4_b (C0 k) (C1 k) a0) (isa_of_4_b D0 D1 a0) := by
  unfold isa_of_4_b
  exact .bind (H0) fun r1 => .cond (.cond (.cond (.bind (.const (r1[(Int.toNat a0)]?)) fun e2 => .bind (H1 _) fun r3 => by exact .const _) (by exact .const _)) (by exact .const _)) (by exact .const _)
def isa_of_4.s : Nat → Int → Option ByteArray
  | 0, _ => none
  | k + 1, a0 => isa_of_4_b (isa_table.s k) (fun a0 => isa_row_operands.s k a0) a0
theorem isa_of_4.ok : ∀ (k : Nat), ∀ (a0 : Int) (r : ByteArray), isa_of_4.s k a0 = some r → evalFn Tryz.prog G k 84 [.sc (.int .i64 a0), .fn (.func 85) [] []] [] = some (isa_of_4_e r)
  | 0, _, _, h => (nomatch h)
  | k + 1, a0, r, h => fn_ok rfl (isa_of_4_t Tryz.prog (evalFn Tryz.prog G k) (isa_table.s k) (fun a0 => isa_row_operands.s k a0) a0) (isa_of_4_n _ _ _ a0) (isa_of_4_k _ _ _ _ _ (isa_table.ok k) (isa_row_operands.ok k)  a0) h
theorem isa_of_4.mono : ∀ (k : Nat) (a0 : Int), Le (isa_of_4.s k a0) (isa_of_4.s (k + 1) a0)
  | 0, _ => fun r h => (nomatch h)
  | k + 1, a0 => (isa_of_4_c (.two (isa_table.mono k)) (fun a0 => .two ((isa_row_operands.mono k) a0)) a0).1 0
noncomputable def isa_of_4 (a0 : Int) : Option ByteArray := lim fun k => isa_of_4.s k a0
theorem isa_of_4.cv (a0 : Int) : Cv (fun k => isa_of_4.s k a0) (isa_of_4 a0) := .lim fun k => isa_of_4.mono k a0
theorem isa_of_4.eq (a0 : Int) : isa_of_4 a0 = isa_of_4_b isa_table isa_row_operands a0 := Cv.uniq (isa_of_4.cv a0).shift (isa_of_4_c isa_table.cv isa_row_operands.cv a0)
def isa_Kinds_e (r : ByteArray) : AV × Heap := (.sc (.string r), [])
def isa_Kinds_b (C0 : Int → Option ByteArray) (a0 : Int) : Option ByteArray := ((C0 a0).bind fun (r1 : ByteArray) => (some r1))
def isa_Kinds_t (P : Program) (call : CallF) (C0 : Int → Option ByteArray) (a0 : Int) : Tr ByteArray (AV × Heap) := (.call (call 84 [.sc (.int .i64 a0), .fn (.func 85) [] []] []) (C0 a0) isa_of_4_e fun (r1 : ByteArray) => (rt isa_Kinds_e r1))
theorem isa_Kinds_n (call : CallF) (C0 : Int → Option ByteArray) (a0 : Int) : (isa_Kinds_t Tryz.prog call C0 a0).norm (bodyT Tryz.prog call G 60 [.sc (.int .i64 a0)] []) = isa_Kinds_t Tryz.prog call C0 a0 := by kernel_rfl
theorem isa_Kinds_k (P : Program) (call : CallF) (lp : Loops) (C0 : Int → Option ByteArray) (K0 : ∀ (a0 : Int) (r : ByteArray), C0 a0 = some r → (call 84 [.sc (.int .i64 a0), .fn (.func 85) [] []] []) = some (isa_of_4_e r)) (a0 : Int) : (isa_Kinds_t P call C0 a0).ok lp isa_Kinds_e := fun r1 hr1 => ⟨K0 _ _ hr1, rfl⟩
theorem isa_Kinds_c {C0 : Nat → Int → Option ByteArray} {D0 : Int → Option ByteArray} (H0 : ∀ (a0 : Int), Cv (fun k => C0 k a0) (D0 a0)) (a0 : Int) : Cv (fun k => isa_Kinds_b (C0 k) a0) (isa_Kinds_b D0 a0) := by
  unfold isa_Kinds_b
  exact .bind (H0 _) fun r1 => by exact .const _
def isa_Kinds.s : Nat → Int → Option ByteArray
  | 0, _ => none
  | k + 1, a0 => isa_Kinds_b (fun a0 => isa_of_4.s k a0) a0
theorem isa_Kinds.ok : ∀ (k : Nat), ∀ (a0 : Int) (r : ByteArray), isa_Kinds.s k a0 = some r → evalFn Tryz.prog G k 60 [.sc (.int .i64 a0)] [] = some (isa_Kinds_e r)
  | 0, _, _, h => (nomatch h)
  | k + 1, a0, r, h => fn_ok rfl (isa_Kinds_t Tryz.prog (evalFn Tryz.prog G k) (fun a0 => isa_of_4.s k a0) a0) (isa_Kinds_n _ _ a0) (isa_Kinds_k _ _ _ _ (isa_of_4.ok k)  a0) h
theorem isa_Kinds.mono : ∀ (k : Nat) (a0 : Int), Le (isa_Kinds.s k a0) (isa_Kinds.s (k + 1) a0)
  | 0, _ => fun r h => (nomatch h)
  | k + 1, a0 => (isa_Kinds_c (fun a0 => .two ((isa_of_4.mono k) a0)) a0).1 0
noncomputable def isa_Kinds (a0 : Int) : Option ByteArray := lim fun k => isa_Kinds.s k a0
theorem isa_Kinds.cv (a0 : Int) : Cv (fun k => isa_Kinds.s k a0) (isa_Kinds a0) := .lim fun k => isa_Kinds.mono k a0
theorem isa_Kinds.eq (a0 : Int) : isa_Kinds a0 = isa_Kinds_b isa_of_4 a0 := Cv.uniq (isa_Kinds.cv a0).shift (isa_Kinds_c isa_of_4.cv a0)
def strings_Contains_e (r : Bool) : AV × Heap := (.sc (.bool r), [])
def strings_Contains.s : Nat → ByteArray → ByteArray → Option Bool
  | 0, _, _ => none
  | _ + 1, a0, a1 => containsS a0 a1
theorem strings_Contains.ok : ∀ (k : Nat), ∀ (a0 : ByteArray) (a1 : ByteArray) (r : Bool), strings_Contains.s k a0 a1 = some r → evalFn Tryz.prog G k 86 [.sc (.string a0), .sc (.string a1)] [] = some (strings_Contains_e r)
  | 0, _, _, _, h => (nomatch h)
  | k + 1, a0, a1, r, h => contains_ok h
noncomputable def strings_Contains (a0 : ByteArray) (a1 : ByteArray) : Option Bool := containsS a0 a1
theorem strings_Contains.mono (k : Nat) (a0 : ByteArray) (a1 : ByteArray) : Le (strings_Contains.s k a0 a1) (strings_Contains.s (k + 1) a0 a1) := by
  cases k with
  | zero => exact fun r h => nomatch h
  | succ k => exact Le.refl _
theorem strings_Contains.cv (a0 : ByteArray) (a1 : ByteArray) : Cv (fun k => strings_Contains.s k a0 a1) (strings_Contains a0 a1) := ⟨fun k => strings_Contains.mono k a0 a1, fun r => ⟨fun h => ⟨1, h⟩, fun ⟨k, h⟩ => by
  cases k with
  | zero => cases h
  | succ k => exact h⟩⟩
def strconv_Itoa_e (r : ByteArray) : AV × Heap := (.sc (.string r), [])
def strconv_Itoa.s : Nat → Int → Option ByteArray
  | 0, _ => none
  | _ + 1, a0 => itoaQ a0
theorem strconv_Itoa.ok : ∀ (k : Nat), ∀ (a0 : Int) (r : ByteArray), strconv_Itoa.s k a0 = some r → evalFn Tryz.prog G k 44 [.sc (.int .i64 a0)] [] = some (strconv_Itoa_e r)
  | 0, _, _, h => (nomatch h)
  | k + 1, a0, r, h => itoa_ok ((itoaQ_eq _).symm.trans h)
noncomputable def strconv_Itoa (a0 : Int) : Option ByteArray := itoaQ a0
theorem strconv_Itoa.mono (k : Nat) (a0 : Int) : Le (strconv_Itoa.s k a0) (strconv_Itoa.s (k + 1) a0) := by
  cases k with
  | zero => exact fun r h => nomatch h
  | succ k => exact Le.refl _
theorem strconv_Itoa.cv (a0 : Int) : Cv (fun k => strconv_Itoa.s k a0) (strconv_Itoa a0) := ⟨fun k => strconv_Itoa.mono k a0, fun r => ⟨fun h => ⟨1, h⟩, fun ⟨k, h⟩ => by
  cases k with
  | zero => cases h
  | succ k => exact h⟩⟩
def dis_operand_e (r : ByteArray) : AV × Heap := (.sc (.string r), [])
def dis_operand_b (C0 : ByteArray → ByteArray → Option Bool) (C1 : Int → Option ByteArray) (a0 : ByteArray) (a1 : Int) : Option ByteArray := (bif (decide (((h_20.size + a0.size : Nat) : Int) ≤ IntKind.i64.max)) then (bif (decide ((((h_20 ++ a0).size + h_20.size : Nat) : Int) ≤ IntKind.i64.max)) then ((C0 h_2058205920442041204220 ((h_20 ++ a0) ++ h_20)).bind fun (r1 : Bool) => (bif r1 then ((C1 a1).bind fun (r2 : ByteArray) => (bif (decide (((s_r.size + r2.size : Nat) : Int) ≤ IntKind.i64.max)) then (some (s_r ++ r2)) else none)) else (bif (decide (0 ≤ (0 : Int) ∧ (0 : Int) < ((a0.size : Nat) : Int))) then (bif (((a0.data.getD (Int.toNat (0 : Int)) 0).toNat : Int) == (84 : Int)) then (bif (decide (a1 < (0 : Int))) then ((C1 (w64 (0 - a1))).bind fun (r3 : ByteArray) => (bif (decide (((h_2e202d20.size + r3.size : Nat) : Int) ≤ IntKind.i64.max)) then (some (h_2e202d20 ++ r3)) else none)) else ((C1 a1).bind fun (r4 : ByteArray) => (bif (decide (((h_2e202b20.size + r4.size : Nat) : Int) ≤ IntKind.i64.max)) then (some (h_2e202b20 ++ r4)) else none))) else ((C1 a1).bind fun (r5 : ByteArray) => (some r5))) else none))) else none) else none)
def dis_operand_t (P : Program) (call : CallF) (C0 : ByteArray → ByteArray → Option Bool) (C1 : Int → Option ByteArray) (a0 : ByteArray) (a1 : Int) : Tr ByteArray (AV × Heap) := (.as (decide (((h_20.size + a0.size : Nat) : Int) ≤ IntKind.i64.max)) (.as (decide ((((h_20 ++ a0).size + h_20.size : Nat) : Int) ≤ IntKind.i64.max)) (.call (call 86 [.sc (.string h_2058205920442041204220), .sc (.string ((h_20 ++ a0) ++ h_20))] []) (C0 h_2058205920442041204220 ((h_20 ++ a0) ++ h_20)) strings_Contains_e fun (r1 : Bool) => (.as r1 (.call (call 44 [.sc (.int .i64 a1)] []) (C1 a1) strconv_Itoa_e fun (r2 : ByteArray) => (.as (decide (((s_r.size + r2.size : Nat) : Int) ≤ IntKind.i64.max)) (rt dis_operand_e (s_r ++ r2)) .fail)) (.as (decide (0 ≤ (0 : Int) ∧ (0 : Int) < ((a0.size : Nat) : Int))) (.as (((a0.data.getD (Int.toNat (0 : Int)) 0).toNat : Int) == (84 : Int)) (yesN 2 (((a0.data.getD (Int.toNat (0 : Int)) 0).toNat : Int) == (84 : Int)) (.as (decide (a1 < (0 : Int))) (.call (call 44 [.sc (.int .i64 (w64 (0 - a1)))] []) (C1 (w64 (0 - a1))) strconv_Itoa_e fun (r3 : ByteArray) => (.as (decide (((h_2e202d20.size + r3.size : Nat) : Int) ≤ IntKind.i64.max)) (rt dis_operand_e (h_2e202d20 ++ r3)) .fail)) (.yes (decide (0 ≤ (0 : Int) ∧ (0 : Int) < ((a0.size : Nat) : Int))) (.yes (((a0.data.getD (Int.toNat (0 : Int)) 0).toNat : Int) == (84 : Int)) (.call (call 44 [.sc (.int .i64 a1)] []) (C1 a1) strconv_Itoa_e fun (r4 : ByteArray) => (.as (decide (((h_2e202b20.size + r4.size : Nat) : Int) ≤ IntKind.i64.max)) (rt dis_operand_e (h_2e202b20 ++ r4)) .fail)))))) (noN 2 (((a0.data.getD (Int.toNat (0 : Int)) 0).toNat : Int) == (84 : Int)) (.no false (.yes (decide (0 ≤ (0 : Int) ∧ (0 : Int) < ((a0.size : Nat) : Int))) (.no (((a0.data.getD (Int.toNat (0 : Int)) 0).toNat : Int) == (84 : Int)) (.call (call 44 [.sc (.int .i64 a1)] []) (C1 a1) strconv_Itoa_e fun (r5 : ByteArray) => (rt dis_operand_e r5))))))) .fail))) .fail) .fail)
theorem dis_operand_n (call : CallF) (C0 : ByteArray → ByteArray → Option Bool) (C1 : Int → Option ByteArray) (a0 : ByteArray) (a1 : Int) : (dis_operand_t Tryz.prog call C0 C1 a0 a1).norm (bodyT Tryz.prog call G 61 [.sc (.string a0), .sc (.int .i64 a1)] []) = dis_operand_t Tryz.prog call C0 C1 a0 a1 := by kernel_rfl
theorem dis_operand_k (P : Program) (call : CallF) (lp : Loops) (C0 : ByteArray → ByteArray → Option Bool) (C1 : Int → Option ByteArray) (K0 : ∀ (a0 : ByteArray) (a1 : ByteArray) (r : Bool), C0 a0 a1 = some r → (call 86 [.sc (.string a0), .sc (.string a1)] []) = some (strings_Contains_e r)) (K1 : ∀ (a0 : Int) (r : ByteArray), C1 a0 = some r → (call 44 [.sc (.int .i64 a0)] []) = some (strconv_Itoa_e r)) (a0 : ByteArray) (a1 : Int) : (dis_operand_t P call C0 C1 a0 a1).ok lp dis_operand_e := ⟨rfl, fun hq0 => ⟨rfl, fun hq1 => fun r1 hr1 => ⟨K0 _ _ _ hr1, ⟨rfl, fun hq2 => fun r2 hr2 => ⟨K1 _ _ hr2, ⟨rfl, fun hq3 => rfl, fun hq3 => trivial⟩⟩, fun hq2 => ⟨rfl, fun hq3 => ⟨rfl, fun hq4 => yesN_ok 2 (hq4) (⟨rfl, fun hq5 => fun r3 hr3 => ⟨K1 _ _ hr3, ⟨rfl, fun hq6 => rfl, fun hq6 => trivial⟩⟩, fun hq5 => ⟨hq3, ⟨hq4, fun r4 hr4 => ⟨K1 _ _ hr4, ⟨rfl, fun hq6 => rfl, fun hq6 => trivial⟩⟩⟩⟩⟩), fun hq4 => noN_ok 2 (hq4) (⟨rfl, ⟨hq3, ⟨hq4, fun r5 hr5 => ⟨K1 _ _ hr5, rfl⟩⟩⟩⟩)⟩, fun hq3 => trivial⟩⟩⟩, fun hq1 => trivial⟩, fun hq0 => trivial⟩
theorem dis_operand_c {C0 : Nat → ByteArray → ByteArray → Option Bool} {D0 : ByteArray → ByteArray → Option Bool} (H0 : ∀ (a0 : ByteArray) (a1 : ByteArray), Cv (fun k => C0 k a0 a1) (D0 a0 a1)) {C1 : Nat → Int → Option ByteArray} {D1 : Int → Option ByteArray} (H1 : ∀ (a0 : Int), Cv (fun k => C1 k a0) (D1 a0)) (a0 : ByteArray) (a1 : Int) : Cv (fun k => dis_operand_b (C0 k) (C1 k) a0 a1) (dis_operand_b D0 D1 a0 a1) := by
  unfold dis_operand_b
  exact .cond (.cond (.bind (H0 _ _) fun r1 => .cond (.bind (H1 _) fun r2 => by exact .const _) (.cond (.cond (.cond (.bind (H1 _) fun r3 => by exact .const _) (.bind (H1 _) fun r4 => by exact .const _)) (.bind (H1 _) fun r5 => by exact .const _)) (by exact .const _))) (by exact .const _)) (by exact .const _)
def dis_operand.s : Nat → ByteArray → Int → Option ByteArray
  | 0, _, _ => none
  | k + 1, a0, a1 => dis_operand_b (fun a0 a1 => strings_Contains.s k a0 a1) (fun a0 => strconv_Itoa.s k a0) a0 a1
theorem dis_operand.ok : ∀ (k : Nat), ∀ (a0 : ByteArray) (a1 : Int) (r : ByteArray), dis_operand.s k a0 a1 = some r → evalFn Tryz.prog G k 61 [.sc (.string a0), .sc (.int .i64 a1)] [] = some (dis_operand_e r)
  | 0, _, _, _, h => (nomatch h)
  | k + 1, a0, a1, r, h => fn_ok rfl (dis_operand_t Tryz.prog (evalFn Tryz.prog G k) (fun a0 a1 => strings_Contains.s k a0 a1) (fun a0 => strconv_Itoa.s k a0) a0 a1) (dis_operand_n _ _ _ a0 a1) (dis_operand_k _ _ _ _ _ (strings_Contains.ok k) (strconv_Itoa.ok k)  a0 a1) h
theorem dis_operand.mono : ∀ (k : Nat) (a0 : ByteArray) (a1 : Int), Le (dis_operand.s k a0 a1) (dis_operand.s (k + 1) a0 a1)
  | 0, _, _ => fun r h => (nomatch h)
  | k + 1, a0, a1 => (dis_operand_c (fun a0 a1 => .two ((strings_Contains.mono k) a0 a1)) (fun a0 => .two ((strconv_Itoa.mono k) a0)) a0 a1).1 0
noncomputable def dis_operand (a0 : ByteArray) (a1 : Int) : Option ByteArray := lim fun k => dis_operand.s k a0 a1
theorem dis_operand.cv (a0 : ByteArray) (a1 : Int) : Cv (fun k => dis_operand.s k a0 a1) (dis_operand a0 a1) := .lim fun k => dis_operand.mono k a0 a1
theorem dis_operand.eq (a0 : ByteArray) (a1 : Int) : dis_operand a0 a1 = dis_operand_b strings_Contains strconv_Itoa a0 a1 := Cv.uniq (dis_operand.cv a0 a1).shift (dis_operand_c strings_Contains.cv strconv_Itoa.cv a0 a1)
def strings_Join_e (r : ByteArray) : AV × Heap := (.sc (.string r), [])
def strings_Join.s : Nat → (List ByteArray) → ByteArray → Option ByteArray
  | 0, _, _ => none
  | _ + 1, a0, a1 => joinS a0 a1
theorem strings_Join.ok : ∀ (k : Nat), ∀ (a0 : (List ByteArray)) (a1 : ByteArray) (r : ByteArray), strings_Join.s k a0 a1 = some r → evalFn Tryz.prog G k 63 [.sl (R_string a0), .sc (.string a1)] [] = some (strings_Join_e r)
  | 0, _, _, _, h => (nomatch h)
  | k + 1, a0, a1, r, h => join_ok h
noncomputable def strings_Join (a0 : (List ByteArray)) (a1 : ByteArray) : Option ByteArray := joinS a0 a1
theorem strings_Join.mono (k : Nat) (a0 : (List ByteArray)) (a1 : ByteArray) : Le (strings_Join.s k a0 a1) (strings_Join.s (k + 1) a0 a1) := by
  cases k with
  | zero => exact fun r h => nomatch h
  | succ k => exact Le.refl _
theorem strings_Join.cv (a0 : (List ByteArray)) (a1 : ByteArray) : Cv (fun k => strings_Join.s k a0 a1) (strings_Join a0 a1) := ⟨fun k => strings_Join.mono k a0 a1, fun r => ⟨fun h => ⟨1, h⟩, fun ⟨k, h⟩ => by
  cases k with
  | zero => cases h
  | succ k => exact h⟩⟩
def dis_instruction_e (r : ByteArray) : AV × Heap := (.sc (.string r), [])
structure dis_instruction_L1_A where
  x9 : (List ByteArray)
  x10 : Int
  x11 : Int
  h0 : T_api_Inst
  r1 : (List ByteArray)
structure dis_instruction_L1_O0 where
  h0 : T_api_Inst
  r1 : (List ByteArray)
def dis_instruction_L1_s (a : dis_instruction_L1_A) : St := { n := 40, nx := 2, env := [(1, .ptr 0 0), (3, .arr 1), (9, .sl (R_string a.x9)), (10, .sc (.int .i64 a.x10)), (11, .sc (.int .i64 a.x11))], heap := [(0, .box [0, 101] (C_api_Inst a.h0)), (1, .arr true 1 (R_string a.r1))] }
def dis_instruction_L1_e (a : dis_instruction_L1_O0) : Ex × St := (.exit 0, { n := 40, nx := 2, env := [(1, .ptr 0 0), (3, .arr 1)], heap := [(0, .box [0, 101] (C_api_Inst a.h0)), (1, .arr true 1 (R_string a.r1))] })
def dis_instruction_L1_b (C0 : ByteArray → Int → Option ByteArray) (a : dis_instruction_L1_A) : Option (dis_instruction_L1_A ⊕ dis_instruction_L1_O0) := (bif (decide (a.x11 < a.x10)) then (bif (decide (0 ≤ a.x11)) then ((a.x9[(Int.toNat a.x11)]?).bind fun (e1 : ByteArray) => ((a.h0.F[(Int.toNat a.x11)]?).bind fun (e2 : Int) => ((C0 e1 e2).bind fun (r3 : ByteArray) => (bif (decide ((a.r1.length + [r3].length) * 16 ≤ most)) then (some (.inl (dis_instruction_L1_A.mk a.x9 a.x10 (w64 (a.x11 + (1 : Int))) a.h0 (a.r1 ++ [r3])))) else none)))) else none) else (some (.inr (dis_instruction_L1_O0.mk a.h0 a.r1))))
def dis_instruction_L1_t (P : Program) (call : CallF) (C0 : ByteArray → Int → Option ByteArray) (a : dis_instruction_L1_A) : Tr (dis_instruction_L1_A ⊕ dis_instruction_L1_O0) (Ex × St) := (.as (decide (a.x11 < a.x10)) (.as (decide (0 ≤ a.x11)) (.row ((R_string a.x9)[(Int.toNat a.x11)]?) (a.x9[(Int.toNat a.x11)]?) C_string fun (e1 : ByteArray) => (.yes (decide (0 ≤ a.x11)) (.row ((R_i64 a.h0.F)[(Int.toNat a.x11)]?) (a.h0.F[(Int.toNat a.x11)]?) C_i64 fun (e2 : Int) => (.call (call 61 [.sc (.string e1), .sc (.int .i64 e2)] []) (C0 e1 e2) dis_operand_e fun (r3 : ByteArray) => (.rows [[.sc (.string r3)]] (R_string [r3]) (.yes (decide ((R_string [r3]).all (fun r => r.length == 1) = true)) (.ask (decide (((R_string a.r1).length + (R_string [r3]).length) * 16 ≤ most)) (decide ((a.r1.length + [r3].length) * 16 ≤ most)) (.rows ((R_string a.r1) ++ (R_string [r3])) (R_string (a.r1 ++ [r3])) (lf dis_instruction_L1_s (dis_instruction_L1_A.mk a.x9 a.x10 (w64 (a.x11 + (1 : Int))) a.h0 (a.r1 ++ [r3])))) .fail))))))) .fail) (rx dis_instruction_L1_e (dis_instruction_L1_O0.mk a.h0 a.r1)))
theorem dis_instruction_L1_n (call : CallF) (C0 : ByteArray → Int → Option ByteArray) (a : dis_instruction_L1_A) : (dis_instruction_L1_t Tryz.prog call C0 a).norm (roundT Tryz.prog G.kd call 0 (G.an 43) (loopAt Tryz.prog 43 3) (dis_instruction_L1_s a)) = dis_instruction_L1_t Tryz.prog call C0 a := by kernel_rfl
theorem dis_instruction_L1_k (P : Program) (call : CallF) (lp : Loops) (C0 : ByteArray → Int → Option ByteArray) (K0 : ∀ (a0 : ByteArray) (a1 : Int) (r : ByteArray), C0 a0 a1 = some r → (call 61 [.sc (.string a0), .sc (.int .i64 a1)] []) = some (dis_operand_e r)) (a : dis_instruction_L1_A) : (dis_instruction_L1_t P call C0 a).ok lp (Sum.elim (fun a => (.norm, dis_instruction_L1_s a)) dis_instruction_L1_e) := ⟨rfl, fun hq0 => ⟨rfl, fun hq1 => fun e1 he1 => ⟨R_string_get he1, ⟨hq1, fun e2 he2 => ⟨R_i64_get he2, fun r3 hr3 => ⟨K0 _ _ _ hr3, ⟨(R_string_map [r3]), ⟨(decide_eq_true (R_string_all _)), ⟨(by rw [R_string_len, R_string_len]), fun hq2 => ⟨(R_string_append _ _), rfl⟩, fun hq2 => trivial⟩⟩⟩⟩⟩⟩⟩, fun hq1 => trivial⟩, fun hq0 => rfl⟩
theorem dis_instruction_L1_c {C0 : Nat → ByteArray → Int → Option ByteArray} {D0 : ByteArray → Int → Option ByteArray} (H0 : ∀ (a0 : ByteArray) (a1 : Int), Cv (fun k => C0 k a0 a1) (D0 a0 a1)) (a : dis_instruction_L1_A) : Cv (fun k => dis_instruction_L1_b (C0 k) a) (dis_instruction_L1_b D0 a) := by
  unfold dis_instruction_L1_b
  exact .cond (.cond (.bind (.const (a.x9[(Int.toNat a.x11)]?)) fun e1 => .bind (.const (a.h0.F[(Int.toNat a.x11)]?)) fun e2 => .bind (H0 _ _) fun r3 => by exact .const _) (by exact .const _)) (by exact .const _)
def dis_instruction_L1.s (k : Nat) (C0 : ByteArray → Int → Option ByteArray) : dis_instruction_L1_A → Option dis_instruction_L1_O0 := iter (dis_instruction_L1_b C0) k
theorem dis_instruction_L1_ok (call : CallF) (k : Nat) (C0 : ByteArray → Int → Option ByteArray) (K0 : ∀ (a0 : ByteArray) (a1 : Int) (r : ByteArray), C0 a0 a1 = some r → (call 61 [.sc (.string a0), .sc (.int .i64 a1)] []) = some (dis_operand_e r)) (a : dis_instruction_L1_A) (r : dis_instruction_L1_O0) (h : dis_instruction_L1.s k C0 a = some r) : loopsF Tryz.prog G.kd call 0 (G.an 43) k (loopAt Tryz.prog 43 3) (dis_instruction_L1_s a) = some (dis_instruction_L1_e r) :=
  loop_ok (fun a => dis_instruction_L1_t Tryz.prog call C0 a) (fun _ => rfl) (fun a => dis_instruction_L1_n call _ a) (fun a => dis_instruction_L1_k _ call _ _ K0 a) (fun r => nofun) h
theorem dis_instruction_L1.m {j k : Nat} (hj : j ≤ k) (C0 : ByteArray → Int → Option ByteArray) (D0 : ByteArray → Int → Option ByteArray) (H0 : ∀ (a0 : ByteArray) (a1 : Int), Le (C0 a0 a1) (D0 a0 a1)) (a : dis_instruction_L1_A) : Le (dis_instruction_L1.s j C0 a) (dis_instruction_L1.s k D0 a) := Le.iter (fun a => (dis_instruction_L1_c (fun a0 a1 => .two (H0 a0 a1)) a).1 0) hj a
noncomputable def dis_instruction_L1.w (C0 : ByteArray → Int → Option ByteArray) : dis_instruction_L1_A → Option dis_instruction_L1_O0 := loopW (dis_instruction_L1_b C0)
theorem dis_instruction_L1.cv (C0 : Nat → ByteArray → Int → Option ByteArray) (D0 : ByteArray → Int → Option ByteArray) (H0 : ∀ (a0 : ByteArray) (a1 : Int), Cv (fun k => C0 k a0 a1) (D0 a0 a1)) (a : dis_instruction_L1_A) : Cv (fun k => dis_instruction_L1.s k (C0 k) a) (dis_instruction_L1.w D0 a) := Cv.iter (fun a => dis_instruction_L1_c H0 a) a
def dis_instruction_b (C0 : Int → Option ByteArray) (C1 : ByteArray → Option (List ByteArray)) (C2 : Int → Option ByteArray) (C3 : (List ByteArray) → ByteArray → Option ByteArray) (L4 : dis_instruction_L1_A → Option dis_instruction_L1_O0) (a0 : T_api_Inst) : Option ByteArray := ((C0 a0.Op).bind fun (r1 : ByteArray) => ((C1 r1).bind fun (r2 : (List ByteArray)) => ((L4 (dis_instruction_L1_A.mk r2 (((r2.length) : Nat) : Int) (0 : Int) a0 ([] : List ByteArray))).bind (fun (o3 : dis_instruction_L1_O0) => (bif ((((o3.r1.length) : Nat) : Int) == (0 : Int)) then ((C2 o3.h0.Op).bind fun (r4 : ByteArray) => (some r4)) else ((C2 o3.h0.Op).bind fun (r5 : ByteArray) => (bif (decide (((r5.size + h_20.size : Nat) : Int) ≤ IntKind.i64.max)) then ((C3 o3.r1 h_2c20).bind fun (r6 : ByteArray) => (bif (decide ((((r5 ++ h_20).size + r6.size : Nat) : Int) ≤ IntKind.i64.max)) then (some ((r5 ++ h_20) ++ r6)) else none)) else none)))))))
def dis_instruction_t (P : Program) (call : CallF) (C0 : Int → Option ByteArray) (C1 : ByteArray → Option (List ByteArray)) (C2 : Int → Option ByteArray) (C3 : (List ByteArray) → ByteArray → Option ByteArray) (L4 : dis_instruction_L1_A → Option dis_instruction_L1_O0) (a0 : T_api_Inst) : Tr ByteArray (AV × Heap) := (.call (call 60 [.sc (.int .i64 a0.Op)] []) (C0 a0.Op) isa_Kinds_e fun (r1 : ByteArray) => (.call (call 59 [.sc (.string r1)] []) (C1 r1) strings_Fields_e fun (r2 : (List ByteArray)) => (.num ((R_string r2).length) (r2.length) (.loop (loopAt P 43 3) (dis_instruction_L1_s (dis_instruction_L1_A.mk r2 (((r2.length) : Nat) : Int) (0 : Int) a0 ([] : List ByteArray))) (L4 (dis_instruction_L1_A.mk r2 (((r2.length) : Nat) : Int) (0 : Int) a0 ([] : List ByteArray))) dis_instruction_L1_e (fun (o3 : dis_instruction_L1_O0) => (.num ((R_string o3.r1).length) (o3.r1.length) (.as ((((o3.r1.length) : Nat) : Int) == (0 : Int)) (.call (call 62 [.sc (.int .i64 o3.h0.Op)] []) (C2 o3.h0.Op) isa_Name_e fun (r4 : ByteArray) => (rt dis_instruction_e r4)) (.call (call 62 [.sc (.int .i64 o3.h0.Op)] []) (C2 o3.h0.Op) isa_Name_e fun (r5 : ByteArray) => (.as (decide (((r5.size + h_20.size : Nat) : Int) ≤ IntKind.i64.max)) (.call (call 63 [.sl (R_string o3.r1), .sc (.string h_2c20)] []) (C3 o3.r1 h_2c20) strings_Join_e fun (r6 : ByteArray) => (.as (decide ((((r5 ++ h_20).size + r6.size : Nat) : Int) ≤ IntKind.i64.max)) (rt dis_instruction_e ((r5 ++ h_20) ++ r6)) .fail)) .fail)))))))))
theorem dis_instruction_n (call : CallF) (C0 : Int → Option ByteArray) (C1 : ByteArray → Option (List ByteArray)) (C2 : Int → Option ByteArray) (C3 : (List ByteArray) → ByteArray → Option ByteArray) (L4 : dis_instruction_L1_A → Option dis_instruction_L1_O0) (a0 : T_api_Inst) : (dis_instruction_t Tryz.prog call C0 C1 C2 C3 L4 a0).norm (bodyT Tryz.prog call G 43 [.agg (C_api_Inst a0)] []) = dis_instruction_t Tryz.prog call C0 C1 C2 C3 L4 a0 := by kernel_rfl
theorem dis_instruction_k (P : Program) (call : CallF) (lp : Loops) (C0 : Int → Option ByteArray) (C1 : ByteArray → Option (List ByteArray)) (C2 : Int → Option ByteArray) (C3 : (List ByteArray) → ByteArray → Option ByteArray) (L4 : dis_instruction_L1_A → Option dis_instruction_L1_O0) (K0 : ∀ (a0 : Int) (r : ByteArray), C0 a0 = some r → (call 60 [.sc (.int .i64 a0)] []) = some (isa_Kinds_e r)) (K1 : ∀ (a0 : ByteArray) (r : (List ByteArray)), C1 a0 = some r → (call 59 [.sc (.string a0)] []) = some (strings_Fields_e r)) (K2 : ∀ (a0 : Int) (r : ByteArray), C2 a0 = some r → (call 62 [.sc (.int .i64 a0)] []) = some (isa_Name_e r)) (K3 : ∀ (a0 : (List ByteArray)) (a1 : ByteArray) (r : ByteArray), C3 a0 a1 = some r → (call 63 [.sl (R_string a0), .sc (.string a1)] []) = some (strings_Join_e r)) (N4 : ∀ (a : dis_instruction_L1_A) (r : dis_instruction_L1_O0), L4 a = some r → lp (loopAt P 43 3) (dis_instruction_L1_s a) = some (dis_instruction_L1_e r)) (a0 : T_api_Inst) : (dis_instruction_t P call C0 C1 C2 C3 L4 a0).ok lp dis_instruction_e := fun r1 hr1 => ⟨K0 _ _ hr1, fun r2 hr2 => ⟨K1 _ _ hr2, ⟨(R_string_len _), fun o3 ho3 => ⟨N4 _ _ ho3, ⟨(R_string_len _), ⟨rfl, fun hq0 => fun r4 hr4 => ⟨K2 _ _ hr4, rfl⟩, fun hq0 => fun r5 hr5 => ⟨K2 _ _ hr5, ⟨rfl, fun hq1 => fun r6 hr6 => ⟨K3 _ _ _ hr6, ⟨rfl, fun hq2 => rfl, fun hq2 => trivial⟩⟩, fun hq1 => trivial⟩⟩⟩⟩⟩⟩⟩⟩
theorem dis_instruction_c {C0 : Nat → Int → Option ByteArray} {D0 : Int → Option ByteArray} (H0 : ∀ (a0 : Int), Cv (fun k => C0 k a0) (D0 a0)) {C1 : Nat → ByteArray → Option (List ByteArray)} {D1 : ByteArray → Option (List ByteArray)} (H1 : ∀ (a0 : ByteArray), Cv (fun k => C1 k a0) (D1 a0)) {C2 : Nat → Int → Option ByteArray} {D2 : Int → Option ByteArray} (H2 : ∀ (a0 : Int), Cv (fun k => C2 k a0) (D2 a0)) {C3 : Nat → (List ByteArray) → ByteArray → Option ByteArray} {D3 : (List ByteArray) → ByteArray → Option ByteArray} (H3 : ∀ (a0 : (List ByteArray)) (a1 : ByteArray), Cv (fun k => C3 k a0 a1) (D3 a0 a1)) {L4 : Nat → dis_instruction_L1_A → Option dis_instruction_L1_O0} {M4 : dis_instruction_L1_A → Option dis_instruction_L1_O0} (N4 : ∀ a, Cv (fun k => L4 k a) (M4 a)) (a0 : T_api_Inst) : Cv (fun k => dis_instruction_b (C0 k) (C1 k) (C2 k) (C3 k) (L4 k) a0) (dis_instruction_b D0 D1 D2 D3 M4 a0) := by
  unfold dis_instruction_b
  exact .bind (H0 _) fun r1 => .bind (H1 _) fun r2 => .bind (N4 _) (fun o3 => .cond (.bind (H2 _) fun r4 => by exact .const _) (.bind (H2 _) fun r5 => .cond (.bind (H3 _ _) fun r6 => by exact .const _) (by exact .const _)))
def dis_instruction.s : Nat → T_api_Inst → Option ByteArray
  | 0, _ => none
  | k + 1, a0 => dis_instruction_b (fun a0 => isa_Kinds.s k a0) (fun a0 => strings_Fields.s k a0) (fun a0 => isa_Name.s k a0) (fun a0 a1 => strings_Join.s k a0 a1) (dis_instruction_L1.s k (fun a0 a1 => dis_operand.s k a0 a1)) a0
theorem dis_instruction.ok : ∀ (k : Nat), ∀ (a0 : T_api_Inst) (r : ByteArray), dis_instruction.s k a0 = some r → evalFn Tryz.prog G k 43 [.agg (C_api_Inst a0)] [] = some (dis_instruction_e r)
  | 0, _, _, h => (nomatch h)
  | k + 1, a0, r, h => fn_ok rfl (dis_instruction_t Tryz.prog (evalFn Tryz.prog G k) (fun a0 => isa_Kinds.s k a0) (fun a0 => strings_Fields.s k a0) (fun a0 => isa_Name.s k a0) (fun a0 a1 => strings_Join.s k a0 a1) (dis_instruction_L1.s k (fun a0 a1 => dis_operand.s k a0 a1)) a0) (dis_instruction_n _ _ _ _ _ _ a0) (dis_instruction_k _ _ _ _ _ _ _ _ (isa_Kinds.ok k) (strings_Fields.ok k) (isa_Name.ok k) (strings_Join.ok k) (dis_instruction_L1_ok _ k _ (dis_operand.ok k)) a0) h
theorem dis_instruction.mono : ∀ (k : Nat) (a0 : T_api_Inst), Le (dis_instruction.s k a0) (dis_instruction.s (k + 1) a0)
  | 0, _ => fun r h => (nomatch h)
  | k + 1, a0 => (dis_instruction_c (fun a0 => .two ((isa_Kinds.mono k) a0)) (fun a0 => .two ((strings_Fields.mono k) a0)) (fun a0 => .two ((isa_Name.mono k) a0)) (fun a0 a1 => .two ((strings_Join.mono k) a0 a1)) (fun a => .two ((dis_instruction_L1.m (Nat.le_succ k) (fun a0 a1 => dis_operand.s k a0 a1) (fun a0 a1 => dis_operand.s (k + 1) a0 a1) (dis_operand.mono k)) a)) a0).1 0
noncomputable def dis_instruction (a0 : T_api_Inst) : Option ByteArray := lim fun k => dis_instruction.s k a0
theorem dis_instruction.cv (a0 : T_api_Inst) : Cv (fun k => dis_instruction.s k a0) (dis_instruction a0) := .lim fun k => dis_instruction.mono k a0
noncomputable def dis_instruction_L1 : dis_instruction_L1_A → Option dis_instruction_L1_O0 := dis_instruction_L1.w dis_operand
theorem dis_instruction_L1.eq (a : dis_instruction_L1_A) : dis_instruction_L1 a = (dis_instruction_L1_b dis_operand a).bind (Sum.elim dis_instruction_L1 some) := loopW_eq _ _
theorem dis_instruction.eq (a0 : T_api_Inst) : dis_instruction a0 = dis_instruction_b isa_Kinds strings_Fields isa_Name strings_Join dis_instruction_L1 a0 := Cv.uniq (dis_instruction.cv a0).shift (dis_instruction_c isa_Kinds.cv strings_Fields.cv isa_Name.cv strings_Join.cv (dis_instruction_L1.cv (fun k => fun a0 a1 => dis_operand.s k a0 a1) dis_operand dis_operand.cv) a0)
def dis_reader_next_1_e (r : (ByteArray × Bool × T_dis_reader)) : AV × Heap := (.tup [.sc (.string r.1), .sc (.bool r.2.1)], [(0, .box [] [.ptr 1 0]), (1, .box [] (C_dis_reader r.2.2))])
def dis_reader_next_1_b  (a0 : Int) (a1 : ByteArray) (h1 : T_dis_reader) : Option (ByteArray × Bool × T_dis_reader) := (bif (decide (0 ≤ a0 ∧ a0 ≤ ((h1.b.length : Nat) : Int) ∧ ((h1.b.length : Nat) : Int) ≤ ((h1.b.length : Nat) : Int))) then (some (a1, true, (T_dis_reader.mk ((h1.b.drop (Int.toNat a0)).take (Int.toNat (((h1.b.length : Nat) : Int) - a0)))))) else none)
def dis_reader_next_1_t (P : Program) (call : CallF)  (a0 : Int) (a1 : ByteArray) (h1 : T_dis_reader) : Tr (ByteArray × Bool × T_dis_reader) (AV × Heap) := (.yes (decide ((R_u8 h1.b).all (fun r => r.length == 1) = true)) (.ask (decide (0 ≤ a0 ∧ a0 ≤ (((R_u8 h1.b).length : Nat) : Int) ∧ (((R_u8 h1.b).length : Nat) : Int) ≤ (((R_u8 h1.b).length : Nat) : Int))) (decide (0 ≤ a0 ∧ a0 ≤ ((h1.b.length : Nat) : Int) ∧ ((h1.b.length : Nat) : Int) ≤ ((h1.b.length : Nat) : Int))) (.rows (((R_u8 h1.b).drop (Int.toNat a0)).take (Int.toNat ((((R_u8 h1.b).length : Nat) : Int) - a0))) (R_u8 ((h1.b.drop (Int.toNat a0)).take (Int.toNat (((h1.b.length : Nat) : Int) - a0)))) (rt dis_reader_next_1_e (a1, true, (T_dis_reader.mk ((h1.b.drop (Int.toNat a0)).take (Int.toNat (((h1.b.length : Nat) : Int) - a0))))))) .fail))
theorem dis_reader_next_1_n (call : CallF)  (a0 : Int) (a1 : ByteArray) (h1 : T_dis_reader) : (dis_reader_next_1_t Tryz.prog call  a0 a1 h1).norm (bodyT Tryz.prog call G 41 [.sc (.int .i64 a0), .sc (.string a1), .ptr 0 0] [(0, .box [] [.ptr 1 0]), (1, .box [] (C_dis_reader h1))]) = dis_reader_next_1_t Tryz.prog call  a0 a1 h1 := by kernel_rfl
theorem dis_reader_next_1_k (P : Program) (call : CallF) (lp : Loops)   (a0 : Int) (a1 : ByteArray) (h1 : T_dis_reader) : (dis_reader_next_1_t P call  a0 a1 h1).ok lp dis_reader_next_1_e := ⟨(decide_eq_true (R_u8_all _)), ⟨(by rw [R_u8_len]), fun hq0 => ⟨(by rw [R_u8_slice, R_u8_len]), rfl⟩, fun hq0 => trivial⟩⟩
def dis_reader_next_1.s : Nat → Int → ByteArray → T_dis_reader → Option (ByteArray × Bool × T_dis_reader)
  | 0, _, _, _ => none
  | k + 1, a0, a1, h1 => dis_reader_next_1_b  a0 a1 h1
theorem dis_reader_next_1.ok : ∀ (k : Nat), ∀ (a0 : Int) (a1 : ByteArray) (h1 : T_dis_reader) (r : (ByteArray × Bool × T_dis_reader)), dis_reader_next_1.s k a0 a1 h1 = some r → evalFn Tryz.prog G k 41 [.sc (.int .i64 a0), .sc (.string a1), .ptr 0 0] [(0, .box [] [.ptr 1 0]), (1, .box [] (C_dis_reader h1))] = some (dis_reader_next_1_e r)
  | 0, _, _, _, _, h => (nomatch h)
  | k + 1, a0, a1, h1, r, h => fn_ok rfl (dis_reader_next_1_t Tryz.prog (evalFn Tryz.prog G k)  a0 a1 h1) (dis_reader_next_1_n _  a0 a1 h1) (dis_reader_next_1_k _ _ _    a0 a1 h1) h
theorem dis_reader_next_1.mono : ∀ (k : Nat) (a0 : Int) (a1 : ByteArray) (h1 : T_dis_reader), Le (dis_reader_next_1.s k a0 a1 h1) (dis_reader_next_1.s (k + 1) a0 a1 h1)
  | 0, _, _, _ => fun r h => (nomatch h)
  | k + 1, a0, a1, h1 => .refl _
noncomputable def dis_reader_next_1 (a0 : Int) (a1 : ByteArray) (h1 : T_dis_reader) : Option (ByteArray × Bool × T_dis_reader) := lim fun k => dis_reader_next_1.s k a0 a1 h1
theorem dis_reader_next_1.cv (a0 : Int) (a1 : ByteArray) (h1 : T_dis_reader) : Cv (fun k => dis_reader_next_1.s k a0 a1 h1) (dis_reader_next_1 a0 a1 h1) := .lim fun k => dis_reader_next_1.mono k a0 a1 h1
theorem dis_reader_next_1.eq (a0 : Int) (a1 : ByteArray) (h1 : T_dis_reader) : dis_reader_next_1 a0 a1 h1 = dis_reader_next_1_b  a0 a1 h1 := Cv.uniq (dis_reader_next_1.cv a0 a1 h1).shift (by exact .const _)
def dis_reader_next_e (r : (ByteArray × Bool × T_dis_reader)) : AV × Heap := (.tup [.sc (.string r.1), .sc (.bool r.2.1)], [(0, .box [] (C_dis_reader r.2.2))])
def dis_reader_next_b (C0 : (List Int) → Option (T_api_Inst × Int × Bool)) (C1 : T_api_Inst → Option ByteArray) (C2 : Int → ByteArray → T_dis_reader → Option (ByteArray × Bool × T_dis_reader)) (C3 : Int → Option ByteArray) (h0 : T_dis_reader) : Option (ByteArray × Bool × T_dis_reader) := (bif ((((h0.b.length) : Nat) : Int) == (0 : Int)) then (some (s_, false, h0)) else ((C0 h0.b).bind fun (r1 : (T_api_Inst × Int × Bool)) => (bif r1.2.2 then ((C1 r1.1).bind fun (r2 : ByteArray) => ((C2 r1.2.1 r2 h0).bind fun (r3 : (ByteArray × Bool × T_dis_reader)) => (some (r3.1, r3.2.1, r3.2.2)))) else (bif ((((h0.b.length) : Nat) : Int) == (1 : Int)) then ((h0.b[(Int.toNat (0 : Int))]?).bind fun (e4 : Int) => ((C3 (w64 e4)).bind fun (r5 : ByteArray) => (bif (decide (((h_2e6279746520.size + r5.size : Nat) : Int) ≤ IntKind.i64.max)) then ((C2 (1 : Int) (h_2e6279746520 ++ r5) h0).bind fun (r6 : (ByteArray × Bool × T_dis_reader)) => (some (r6.1, r6.2.1, r6.2.2))) else none))) else ((h0.b[(Int.toNat (0 : Int))]?).bind fun (e7 : Int) => ((h0.b[(Int.toNat (1 : Int))]?).bind fun (e8 : Int) => ((C3 (orI .i64 (shlI .i64 (w64 e7) (8 : Int)) (w64 e8))).bind fun (r9 : ByteArray) => (bif (decide (((h_2e68616c6620.size + r9.size : Nat) : Int) ≤ IntKind.i64.max)) then ((C2 (2 : Int) (h_2e68616c6620 ++ r9) h0).bind fun (r10 : (ByteArray × Bool × T_dis_reader)) => (some (r10.1, r10.2.1, r10.2.2))) else none))))))))
def dis_reader_next_t (P : Program) (call : CallF) (C0 : (List Int) → Option (T_api_Inst × Int × Bool)) (C1 : T_api_Inst → Option ByteArray) (C2 : Int → ByteArray → T_dis_reader → Option (ByteArray × Bool × T_dis_reader)) (C3 : Int → Option ByteArray) (h0 : T_dis_reader) : Tr (ByteArray × Bool × T_dis_reader) (AV × Heap) := (.num ((R_u8 h0.b).length) (h0.b.length) (.as ((((h0.b.length) : Nat) : Int) == (0 : Int)) (rt dis_reader_next_e (s_, false, h0)) (.call (call 42 [.sl (R_u8 h0.b)] []) (C0 h0.b) isa_Decode_e fun (r1 : (T_api_Inst × Int × Bool)) => (.as r1.2.2 (.call (call 43 [.agg (C_api_Inst r1.1)] []) (C1 r1.1) dis_instruction_e fun (r2 : ByteArray) => (.call (call 41 [.sc (.int .i64 r1.2.1), .sc (.string r2), .ptr 0 0] [(0, .box [] [.ptr 1 0]), (1, .box [] (C_dis_reader h0))]) (C2 r1.2.1 r2 h0) dis_reader_next_1_e fun (r3 : (ByteArray × Bool × T_dis_reader)) => (rt dis_reader_next_e (r3.1, r3.2.1, r3.2.2)))) (.num ((R_u8 h0.b).length) (h0.b.length) (.as ((((h0.b.length) : Nat) : Int) == (1 : Int)) (.yes (decide (0 ≤ (0 : Int))) (.row ((R_u8 h0.b)[(Int.toNat (0 : Int))]?) (h0.b[(Int.toNat (0 : Int))]?) C_u8 fun (e4 : Int) => (.call (call 44 [.sc (.int .i64 (w64 e4))] []) (C3 (w64 e4)) strconv_Itoa_e fun (r5 : ByteArray) => (.as (decide (((h_2e6279746520.size + r5.size : Nat) : Int) ≤ IntKind.i64.max)) (.call (call 41 [.sc (.int .i64 (1 : Int)), .sc (.string (h_2e6279746520 ++ r5)), .ptr 0 0] [(0, .box [] [.ptr 1 0]), (1, .box [] (C_dis_reader h0))]) (C2 (1 : Int) (h_2e6279746520 ++ r5) h0) dis_reader_next_1_e fun (r6 : (ByteArray × Bool × T_dis_reader)) => (rt dis_reader_next_e (r6.1, r6.2.1, r6.2.2))) .fail)))) (.yes (decide (0 ≤ (0 : Int))) (.row ((R_u8 h0.b)[(Int.toNat (0 : Int))]?) (h0.b[(Int.toNat (0 : Int))]?) C_u8 fun (e7 : Int) => (.yes (decide (0 ≤ (8 : Int))) (.yes (decide (0 ≤ (1 : Int))) (.row ((R_u8 h0.b)[(Int.toNat (1 : Int))]?) (h0.b[(Int.toNat (1 : Int))]?) C_u8 fun (e8 : Int) => (.call (call 44 [.sc (.int .i64 (orI .i64 (shlI .i64 (w64 e7) (8 : Int)) (w64 e8)))] []) (C3 (orI .i64 (shlI .i64 (w64 e7) (8 : Int)) (w64 e8))) strconv_Itoa_e fun (r9 : ByteArray) => (.as (decide (((h_2e68616c6620.size + r9.size : Nat) : Int) ≤ IntKind.i64.max)) (.call (call 41 [.sc (.int .i64 (2 : Int)), .sc (.string (h_2e68616c6620 ++ r9)), .ptr 0 0] [(0, .box [] [.ptr 1 0]), (1, .box [] (C_dis_reader h0))]) (C2 (2 : Int) (h_2e68616c6620 ++ r9) h0) dis_reader_next_1_e fun (r10 : (ByteArray × Bool × T_dis_reader)) => (rt dis_reader_next_e (r10.1, r10.2.1, r10.2.2))) .fail)))))))))))))
theorem dis_reader_next_n (call : CallF) (C0 : (List Int) → Option (T_api_Inst × Int × Bool)) (C1 : T_api_Inst → Option ByteArray) (C2 : Int → ByteArray → T_dis_reader → Option (ByteArray × Bool × T_dis_reader)) (C3 : Int → Option ByteArray) (h0 : T_dis_reader) : (dis_reader_next_t Tryz.prog call C0 C1 C2 C3 h0).norm (bodyT Tryz.prog call G 22 [.ptr 0 0] [(0, .box [] (C_dis_reader h0))]) = dis_reader_next_t Tryz.prog call C0 C1 C2 C3 h0 := by kernel_rfl
theorem dis_reader_next_k (P : Program) (call : CallF) (lp : Loops) (C0 : (List Int) → Option (T_api_Inst × Int × Bool)) (C1 : T_api_Inst → Option ByteArray) (C2 : Int → ByteArray → T_dis_reader → Option (ByteArray × Bool × T_dis_reader)) (C3 : Int → Option ByteArray) (K0 : ∀ (a0 : (List Int)) (r : (T_api_Inst × Int × Bool)), C0 a0 = some r → (call 42 [.sl (R_u8 a0)] []) = some (isa_Decode_e r)) (K1 : ∀ (a0 : T_api_Inst) (r : ByteArray), C1 a0 = some r → (call 43 [.agg (C_api_Inst a0)] []) = some (dis_instruction_e r)) (K2 : ∀ (a0 : Int) (a1 : ByteArray) (h1 : T_dis_reader) (r : (ByteArray × Bool × T_dis_reader)), C2 a0 a1 h1 = some r → (call 41 [.sc (.int .i64 a0), .sc (.string a1), .ptr 0 0] [(0, .box [] [.ptr 1 0]), (1, .box [] (C_dis_reader h1))]) = some (dis_reader_next_1_e r)) (K3 : ∀ (a0 : Int) (r : ByteArray), C3 a0 = some r → (call 44 [.sc (.int .i64 a0)] []) = some (strconv_Itoa_e r)) (h0 : T_dis_reader) : (dis_reader_next_t P call C0 C1 C2 C3 h0).ok lp dis_reader_next_e := ⟨(R_u8_len _), ⟨rfl, fun hq0 => rfl, fun hq0 => fun r1 hr1 => ⟨K0 _ _ hr1, ⟨rfl, fun hq1 => fun r2 hr2 => ⟨K1 _ _ hr2, fun r3 hr3 => ⟨K2 _ _ _ _ hr3, rfl⟩⟩, fun hq1 => ⟨(R_u8_len _), ⟨rfl, fun hq2 => ⟨rfl, fun e4 he4 => ⟨R_u8_get he4, fun r5 hr5 => ⟨K3 _ _ hr5, ⟨rfl, fun hq3 => fun r6 hr6 => ⟨K2 _ _ _ _ hr6, rfl⟩, fun hq3 => trivial⟩⟩⟩⟩, fun hq2 => ⟨rfl, fun e7 he7 => ⟨R_u8_get he7, ⟨rfl, ⟨rfl, fun e8 he8 => ⟨R_u8_get he8, fun r9 hr9 => ⟨K3 _ _ hr9, ⟨rfl, fun hq3 => fun r10 hr10 => ⟨K2 _ _ _ _ hr10, rfl⟩, fun hq3 => trivial⟩⟩⟩⟩⟩⟩⟩⟩⟩⟩⟩⟩⟩
theorem dis_reader_next_c {C0 : Nat → (List Int) → Option (T_api_Inst × Int × Bool)} {D0 : (List Int) → Option (T_api_Inst × Int × Bool)} (H0 : ∀ (a0 : (List Int)), Cv (fun k => C0 k a0) (D0 a0)) {C1 : Nat → T_api_Inst → Option ByteArray} {D1 : T_api_Inst → Option ByteArray} (H1 : ∀ (a0 : T_api_Inst), Cv (fun k => C1 k a0) (D1 a0)) {C2 : Nat → Int → ByteArray → T_dis_reader → Option (ByteArray × Bool × T_dis_reader)} {D2 : Int → ByteArray → T_dis_reader → Option (ByteArray × Bool × T_dis_reader)} (H2 : ∀ (a0 : Int) (a1 : ByteArray) (h1 : T_dis_reader), Cv (fun k => C2 k a0 a1 h1) (D2 a0 a1 h1)) {C3 : Nat → Int → Option ByteArray} {D3 : Int → Option ByteArray} (H3 : ∀ (a0 : Int), Cv (fun k => C3 k a0) (D3 a0)) (h0 : T_dis_reader) : Cv (fun k => dis_reader_next_b (C0 k) (C1 k) (C2 k) (C3 k) h0) (dis_reader_next_b D0 D1 D2 D3 h0) := by
  unfold dis_reader_next_b
  exact .cond (by exact .const _) (.bind (H0 _) fun r1 => .cond (.bind (H1 _) fun r2 => .bind (H2 _ _ _) fun r3 => by exact .const _) (.cond (.bind (.const (h0.b[(Int.toNat (0 : Int))]?)) fun e4 => .bind (H3 _) fun r5 => .cond (.bind (H2 _ _ _) fun r6 => by exact .const _) (by exact .const _)) (.bind (.const (h0.b[(Int.toNat (0 : Int))]?)) fun e7 => .bind (.const (h0.b[(Int.toNat (1 : Int))]?)) fun e8 => .bind (H3 _) fun r9 => .cond (.bind (H2 _ _ _) fun r10 => by exact .const _) (by exact .const _))))
def dis_reader_next.s : Nat → T_dis_reader → Option (ByteArray × Bool × T_dis_reader)
  | 0, _ => none
  | k + 1, h0 => dis_reader_next_b (fun a0 => isa_Decode.s k a0) (fun a0 => dis_instruction.s k a0) (fun a0 a1 h1 => dis_reader_next_1.s k a0 a1 h1) (fun a0 => strconv_Itoa.s k a0) h0
theorem dis_reader_next.ok : ∀ (k : Nat), ∀ (h0 : T_dis_reader) (r : (ByteArray × Bool × T_dis_reader)), dis_reader_next.s k h0 = some r → evalFn Tryz.prog G k 22 [.ptr 0 0] [(0, .box [] (C_dis_reader h0))] = some (dis_reader_next_e r)
  | 0, _, _, h => (nomatch h)
  | k + 1, h0, r, h => fn_ok rfl (dis_reader_next_t Tryz.prog (evalFn Tryz.prog G k) (fun a0 => isa_Decode.s k a0) (fun a0 => dis_instruction.s k a0) (fun a0 a1 h1 => dis_reader_next_1.s k a0 a1 h1) (fun a0 => strconv_Itoa.s k a0) h0) (dis_reader_next_n _ _ _ _ _ h0) (dis_reader_next_k _ _ _ _ _ _ _ (isa_Decode.ok k) (dis_instruction.ok k) (dis_reader_next_1.ok k) (strconv_Itoa.ok k)  h0) h
theorem dis_reader_next.mono : ∀ (k : Nat) (h0 : T_dis_reader), Le (dis_reader_next.s k h0) (dis_reader_next.s (k + 1) h0)
  | 0, _ => fun r h => (nomatch h)
  | k + 1, h0 => (dis_reader_next_c (fun a0 => .two ((isa_Decode.mono k) a0)) (fun a0 => .two ((dis_instruction.mono k) a0)) (fun a0 a1 h1 => .two ((dis_reader_next_1.mono k) a0 a1 h1)) (fun a0 => .two ((strconv_Itoa.mono k) a0)) h0).1 0
noncomputable def dis_reader_next (h0 : T_dis_reader) : Option (ByteArray × Bool × T_dis_reader) := lim fun k => dis_reader_next.s k h0
theorem dis_reader_next.cv (h0 : T_dis_reader) : Cv (fun k => dis_reader_next.s k h0) (dis_reader_next h0) := .lim fun k => dis_reader_next.mono k h0
theorem dis_reader_next.eq (h0 : T_dis_reader) : dis_reader_next h0 = dis_reader_next_b isa_Decode dis_instruction dis_reader_next_1 strconv_Itoa h0 := Cv.uniq (dis_reader_next.cv h0).shift (dis_reader_next_c isa_Decode.cv dis_instruction.cv dis_reader_next_1.cv strconv_Itoa.cv h0)
def dis_List_1_e (r : (List ByteArray)) : AV × Heap := (.tup [], [(0, .box [1] [.arr 2]), (2, .arr true 1 (R_string r))])
def dis_List_1_b  (a0 : ByteArray) (h0 : (List ByteArray)) : Option (List ByteArray) := (bif (decide ((h0.length + [a0].length) * 16 ≤ most)) then (some (h0 ++ [a0])) else none)
def dis_List_1_t (P : Program) (call : CallF)  (a0 : ByteArray) (h0 : (List ByteArray)) : Tr (List ByteArray) (AV × Heap) := (.rows [[.sc (.string a0)]] (R_string [a0]) (.yes (decide ((R_string [a0]).all (fun r => r.length == 1) = true)) (.ask (decide (((R_string h0).length + (R_string [a0]).length) * 16 ≤ most)) (decide ((h0.length + [a0].length) * 16 ≤ most)) (.rows ((R_string h0) ++ (R_string [a0])) (R_string (h0 ++ [a0])) (rt dis_List_1_e (h0 ++ [a0]))) .fail)))
theorem dis_List_1_n (call : CallF)  (a0 : ByteArray) (h0 : (List ByteArray)) : (dis_List_1_t Tryz.prog call  a0 h0).norm (bodyT Tryz.prog call G 23 [.sc (.string a0), .ptr 0 0] [(0, .box [1] [.arr 1]), (1, .arr true 1 (R_string h0))]) = dis_List_1_t Tryz.prog call  a0 h0 := by kernel_rfl
theorem dis_List_1_k (P : Program) (call : CallF) (lp : Loops)   (a0 : ByteArray) (h0 : (List ByteArray)) : (dis_List_1_t P call  a0 h0).ok lp dis_List_1_e := ⟨(R_string_map [a0]), ⟨(decide_eq_true (R_string_all _)), ⟨(by rw [R_string_len, R_string_len]), fun hq0 => ⟨(R_string_append _ _), rfl⟩, fun hq0 => trivial⟩⟩⟩
def dis_List_1.s : Nat → ByteArray → (List ByteArray) → Option (List ByteArray)
  | 0, _, _ => none
  | k + 1, a0, h0 => dis_List_1_b  a0 h0
theorem dis_List_1.ok : ∀ (k : Nat), ∀ (a0 : ByteArray) (h0 : (List ByteArray)) (r : (List ByteArray)), dis_List_1.s k a0 h0 = some r → evalFn Tryz.prog G k 23 [.sc (.string a0), .ptr 0 0] [(0, .box [1] [.arr 1]), (1, .arr true 1 (R_string h0))] = some (dis_List_1_e r)
  | 0, _, _, _, h => (nomatch h)
  | k + 1, a0, h0, r, h => fn_ok rfl (dis_List_1_t Tryz.prog (evalFn Tryz.prog G k)  a0 h0) (dis_List_1_n _  a0 h0) (dis_List_1_k _ _ _    a0 h0) h
theorem dis_List_1.mono : ∀ (k : Nat) (a0 : ByteArray) (h0 : (List ByteArray)), Le (dis_List_1.s k a0 h0) (dis_List_1.s (k + 1) a0 h0)
  | 0, _, _ => fun r h => (nomatch h)
  | k + 1, a0, h0 => .refl _
noncomputable def dis_List_1 (a0 : ByteArray) (h0 : (List ByteArray)) : Option (List ByteArray) := lim fun k => dis_List_1.s k a0 h0
theorem dis_List_1.cv (a0 : ByteArray) (h0 : (List ByteArray)) : Cv (fun k => dis_List_1.s k a0 h0) (dis_List_1 a0 h0) := .lim fun k => dis_List_1.mono k a0 h0
theorem dis_List_1.eq (a0 : ByteArray) (h0 : (List ByteArray)) : dis_List_1 a0 h0 = dis_List_1_b  a0 h0 := Cv.uniq (dis_List_1.cv a0 h0).shift (by exact .const _)
def dis_each_e (r : (T_dis_reader × (List ByteArray))) : AV × Heap := (.tup [], [(0, .box [] (C_dis_reader r.1)), (1, .box [1] [.arr 3]), (3, .arr true 1 (R_string r.2))])
structure dis_each_L1_A where
  x4 : ByteArray
  x5 : Bool
  h0 : T_dis_reader
  h1 : (List ByteArray)
structure dis_each_L1_O0 where
  h0 : T_dis_reader
  h1 : (List ByteArray)
def dis_each_L1_s (a : dis_each_L1_A) : St := { n := 20, nx := 4, env := [(0, .fn (.func 22) [.ptr 0 0] []), (1, .fn (.func 23) [] [.ptr 1 0]), (4, .sc (.string a.x4)), (5, .sc (.bool a.x5))], heap := [(0, .box [] (C_dis_reader a.h0)), (1, .box [1] [.arr 3]), (3, .arr true 1 (R_string a.h1))] }
def dis_each_L1_e (a : dis_each_L1_O0) : Ex × St := (.exit 0, { n := 20, nx := 4, env := [], heap := [(0, .box [] (C_dis_reader a.h0)), (1, .box [1] [.arr 3]), (3, .arr true 1 (R_string a.h1))] })
def dis_each_L1_b (C0 : ByteArray → (List ByteArray) → Option (List ByteArray)) (C1 : T_dis_reader → Option (ByteArray × Bool × T_dis_reader)) (a : dis_each_L1_A) : Option (dis_each_L1_A ⊕ dis_each_L1_O0) := (bif a.x5 then ((C0 a.x4 a.h1).bind fun (r1 : (List ByteArray)) => ((C1 a.h0).bind fun (r2 : (ByteArray × Bool × T_dis_reader)) => (some (.inl (dis_each_L1_A.mk r2.1 r2.2.1 r2.2.2 r1))))) else (some (.inr (dis_each_L1_O0.mk a.h0 a.h1))))
def dis_each_L1_t (P : Program) (call : CallF) (C0 : ByteArray → (List ByteArray) → Option (List ByteArray)) (C1 : T_dis_reader → Option (ByteArray × Bool × T_dis_reader)) (a : dis_each_L1_A) : Tr (dis_each_L1_A ⊕ dis_each_L1_O0) (Ex × St) := (.as a.x5 (.call (call 23 [.sc (.string a.x4), .ptr 0 0] [(0, .box [1] [.arr 1]), (1, .arr true 1 (R_string a.h1))]) (C0 a.x4 a.h1) dis_List_1_e fun (r1 : (List ByteArray)) => (.call (call 22 [.ptr 0 0] [(0, .box [] (C_dis_reader a.h0))]) (C1 a.h0) dis_reader_next_e fun (r2 : (ByteArray × Bool × T_dis_reader)) => (lf dis_each_L1_s (dis_each_L1_A.mk r2.1 r2.2.1 r2.2.2 r1)))) (rx dis_each_L1_e (dis_each_L1_O0.mk a.h0 a.h1)))
theorem dis_each_L1_n (call : CallF) (C0 : ByteArray → (List ByteArray) → Option (List ByteArray)) (C1 : T_dis_reader → Option (ByteArray × Bool × T_dis_reader)) (a : dis_each_L1_A) : (dis_each_L1_t Tryz.prog call C0 C1 a).norm (roundT Tryz.prog G.kd call 3 (G.an 21) (loopAt Tryz.prog 21 1) (dis_each_L1_s a)) = dis_each_L1_t Tryz.prog call C0 C1 a := by kernel_rfl
theorem dis_each_L1_k (P : Program) (call : CallF) (lp : Loops) (C0 : ByteArray → (List ByteArray) → Option (List ByteArray)) (C1 : T_dis_reader → Option (ByteArray × Bool × T_dis_reader)) (K0 : ∀ (a0 : ByteArray) (h0 : (List ByteArray)) (r : (List ByteArray)), C0 a0 h0 = some r → (call 23 [.sc (.string a0), .ptr 0 0] [(0, .box [1] [.arr 1]), (1, .arr true 1 (R_string h0))]) = some (dis_List_1_e r)) (K1 : ∀ (h0 : T_dis_reader) (r : (ByteArray × Bool × T_dis_reader)), C1 h0 = some r → (call 22 [.ptr 0 0] [(0, .box [] (C_dis_reader h0))]) = some (dis_reader_next_e r)) (a : dis_each_L1_A) : (dis_each_L1_t P call C0 C1 a).ok lp (Sum.elim (fun a => (.norm, dis_each_L1_s a)) dis_each_L1_e) := ⟨rfl, fun hq0 => fun r1 hr1 => ⟨K0 _ _ _ hr1, fun r2 hr2 => ⟨K1 _ _ hr2, rfl⟩⟩, fun hq0 => rfl⟩
theorem dis_each_L1_c {C0 : Nat → ByteArray → (List ByteArray) → Option (List ByteArray)} {D0 : ByteArray → (List ByteArray) → Option (List ByteArray)} (H0 : ∀ (a0 : ByteArray) (h0 : (List ByteArray)), Cv (fun k => C0 k a0 h0) (D0 a0 h0)) {C1 : Nat → T_dis_reader → Option (ByteArray × Bool × T_dis_reader)} {D1 : T_dis_reader → Option (ByteArray × Bool × T_dis_reader)} (H1 : ∀ (h0 : T_dis_reader), Cv (fun k => C1 k h0) (D1 h0)) (a : dis_each_L1_A) : Cv (fun k => dis_each_L1_b (C0 k) (C1 k) a) (dis_each_L1_b D0 D1 a) := by
  unfold dis_each_L1_b
  exact .cond (.bind (H0 _ _) fun r1 => .bind (H1 _) fun r2 => by exact .const _) (by exact .const _)
def dis_each_L1.s (k : Nat) (C0 : ByteArray → (List ByteArray) → Option (List ByteArray)) (C1 : T_dis_reader → Option (ByteArray × Bool × T_dis_reader)) : dis_each_L1_A → Option dis_each_L1_O0 := iter (dis_each_L1_b C0 C1) k
theorem dis_each_L1_ok (call : CallF) (k : Nat) (C0 : ByteArray → (List ByteArray) → Option (List ByteArray)) (C1 : T_dis_reader → Option (ByteArray × Bool × T_dis_reader)) (K0 : ∀ (a0 : ByteArray) (h0 : (List ByteArray)) (r : (List ByteArray)), C0 a0 h0 = some r → (call 23 [.sc (.string a0), .ptr 0 0] [(0, .box [1] [.arr 1]), (1, .arr true 1 (R_string h0))]) = some (dis_List_1_e r)) (K1 : ∀ (h0 : T_dis_reader) (r : (ByteArray × Bool × T_dis_reader)), C1 h0 = some r → (call 22 [.ptr 0 0] [(0, .box [] (C_dis_reader h0))]) = some (dis_reader_next_e r)) (a : dis_each_L1_A) (r : dis_each_L1_O0) (h : dis_each_L1.s k C0 C1 a = some r) : loopsF Tryz.prog G.kd call 3 (G.an 21) k (loopAt Tryz.prog 21 1) (dis_each_L1_s a) = some (dis_each_L1_e r) :=
  loop_ok (fun a => dis_each_L1_t Tryz.prog call C0 C1 a) (fun _ => rfl) (fun a => dis_each_L1_n call _ _ a) (fun a => dis_each_L1_k _ call _ _ _ K0 K1 a) (fun r => nofun) h
theorem dis_each_L1.m {j k : Nat} (hj : j ≤ k) (C0 : ByteArray → (List ByteArray) → Option (List ByteArray)) (C1 : T_dis_reader → Option (ByteArray × Bool × T_dis_reader)) (D0 : ByteArray → (List ByteArray) → Option (List ByteArray)) (D1 : T_dis_reader → Option (ByteArray × Bool × T_dis_reader)) (H0 : ∀ (a0 : ByteArray) (h0 : (List ByteArray)), Le (C0 a0 h0) (D0 a0 h0)) (H1 : ∀ (h0 : T_dis_reader), Le (C1 h0) (D1 h0)) (a : dis_each_L1_A) : Le (dis_each_L1.s j C0 C1 a) (dis_each_L1.s k D0 D1 a) := Le.iter (fun a => (dis_each_L1_c (fun a0 h0 => .two (H0 a0 h0)) (fun h0 => .two (H1 h0)) a).1 0) hj a
noncomputable def dis_each_L1.w (C0 : ByteArray → (List ByteArray) → Option (List ByteArray)) (C1 : T_dis_reader → Option (ByteArray × Bool × T_dis_reader)) : dis_each_L1_A → Option dis_each_L1_O0 := loopW (dis_each_L1_b C0 C1)
theorem dis_each_L1.cv (C0 : Nat → ByteArray → (List ByteArray) → Option (List ByteArray)) (C1 : Nat → T_dis_reader → Option (ByteArray × Bool × T_dis_reader)) (D0 : ByteArray → (List ByteArray) → Option (List ByteArray)) (D1 : T_dis_reader → Option (ByteArray × Bool × T_dis_reader)) (H0 : ∀ (a0 : ByteArray) (h0 : (List ByteArray)), Cv (fun k => C0 k a0 h0) (D0 a0 h0)) (H1 : ∀ (h0 : T_dis_reader), Cv (fun k => C1 k h0) (D1 h0)) (a : dis_each_L1_A) : Cv (fun k => dis_each_L1.s k (C0 k) (C1 k) a) (dis_each_L1.w D0 D1 a) := Cv.iter (fun a => dis_each_L1_c H0 H1 a) a
def dis_each_b (C0 : T_dis_reader → Option (ByteArray × Bool × T_dis_reader)) (L1 : dis_each_L1_A → Option dis_each_L1_O0) (h0 : T_dis_reader) (h1 : (List ByteArray)) : Option (T_dis_reader × (List ByteArray)) := ((C0 h0).bind fun (r1 : (ByteArray × Bool × T_dis_reader)) => ((L1 (dis_each_L1_A.mk r1.1 r1.2.1 r1.2.2 h1)).bind (fun (o2 : dis_each_L1_O0) => (some (o2.h0, o2.h1)))))
def dis_each_t (P : Program) (call : CallF) (C0 : T_dis_reader → Option (ByteArray × Bool × T_dis_reader)) (L1 : dis_each_L1_A → Option dis_each_L1_O0) (h0 : T_dis_reader) (h1 : (List ByteArray)) : Tr (T_dis_reader × (List ByteArray)) (AV × Heap) := (.call (call 22 [.ptr 0 0] [(0, .box [] (C_dis_reader h0))]) (C0 h0) dis_reader_next_e fun (r1 : (ByteArray × Bool × T_dis_reader)) => (.loop (loopAt P 21 1) (dis_each_L1_s (dis_each_L1_A.mk r1.1 r1.2.1 r1.2.2 h1)) (L1 (dis_each_L1_A.mk r1.1 r1.2.1 r1.2.2 h1)) dis_each_L1_e (fun (o2 : dis_each_L1_O0) => (rt dis_each_e (o2.h0, o2.h1)))))
theorem dis_each_n (call : CallF) (C0 : T_dis_reader → Option (ByteArray × Bool × T_dis_reader)) (L1 : dis_each_L1_A → Option dis_each_L1_O0) (h0 : T_dis_reader) (h1 : (List ByteArray)) : (dis_each_t Tryz.prog call C0 L1 h0 h1).norm (bodyT Tryz.prog call G 21 [.fn (.func 22) [.ptr 0 0] [], .fn (.func 23) [] [.ptr 1 0]] [(0, .box [] (C_dis_reader h0)), (1, .box [1] [.arr 2]), (2, .arr true 1 (R_string h1))]) = dis_each_t Tryz.prog call C0 L1 h0 h1 := by kernel_rfl
theorem dis_each_k (P : Program) (call : CallF) (lp : Loops) (C0 : T_dis_reader → Option (ByteArray × Bool × T_dis_reader)) (L1 : dis_each_L1_A → Option dis_each_L1_O0) (K0 : ∀ (h0 : T_dis_reader) (r : (ByteArray × Bool × T_dis_reader)), C0 h0 = some r → (call 22 [.ptr 0 0] [(0, .box [] (C_dis_reader h0))]) = some (dis_reader_next_e r)) (N1 : ∀ (a : dis_each_L1_A) (r : dis_each_L1_O0), L1 a = some r → lp (loopAt P 21 1) (dis_each_L1_s a) = some (dis_each_L1_e r)) (h0 : T_dis_reader) (h1 : (List ByteArray)) : (dis_each_t P call C0 L1 h0 h1).ok lp dis_each_e := fun r1 hr1 => ⟨K0 _ _ hr1, fun o2 ho2 => ⟨N1 _ _ ho2, rfl⟩⟩
theorem dis_each_c {C0 : Nat → T_dis_reader → Option (ByteArray × Bool × T_dis_reader)} {D0 : T_dis_reader → Option (ByteArray × Bool × T_dis_reader)} (H0 : ∀ (h0 : T_dis_reader), Cv (fun k => C0 k h0) (D0 h0)) {L1 : Nat → dis_each_L1_A → Option dis_each_L1_O0} {M1 : dis_each_L1_A → Option dis_each_L1_O0} (N1 : ∀ a, Cv (fun k => L1 k a) (M1 a)) (h0 : T_dis_reader) (h1 : (List ByteArray)) : Cv (fun k => dis_each_b (C0 k) (L1 k) h0 h1) (dis_each_b D0 M1 h0 h1) := by
  unfold dis_each_b
  exact .bind (H0 _) fun r1 => .bind (N1 _) (fun o2 => by exact .const _)
def dis_each.s : Nat → T_dis_reader → (List ByteArray) → Option (T_dis_reader × (List ByteArray))
  | 0, _, _ => none
  | k + 1, h0, h1 => dis_each_b (fun h0 => dis_reader_next.s k h0) (dis_each_L1.s k (fun a0 h0 => dis_List_1.s k a0 h0) (fun h0 => dis_reader_next.s k h0)) h0 h1
theorem dis_each.ok : ∀ (k : Nat), ∀ (h0 : T_dis_reader) (h1 : (List ByteArray)) (r : (T_dis_reader × (List ByteArray))), dis_each.s k h0 h1 = some r → evalFn Tryz.prog G k 21 [.fn (.func 22) [.ptr 0 0] [], .fn (.func 23) [] [.ptr 1 0]] [(0, .box [] (C_dis_reader h0)), (1, .box [1] [.arr 2]), (2, .arr true 1 (R_string h1))] = some (dis_each_e r)
  | 0, _, _, _, h => (nomatch h)
  | k + 1, h0, h1, r, h => fn_ok rfl (dis_each_t Tryz.prog (evalFn Tryz.prog G k) (fun h0 => dis_reader_next.s k h0) (dis_each_L1.s k (fun a0 h0 => dis_List_1.s k a0 h0) (fun h0 => dis_reader_next.s k h0)) h0 h1) (dis_each_n _ _ _ h0 h1) (dis_each_k _ _ _ _ _ (dis_reader_next.ok k) (dis_each_L1_ok _ k _ _ (dis_List_1.ok k) (dis_reader_next.ok k)) h0 h1) h
theorem dis_each.mono : ∀ (k : Nat) (h0 : T_dis_reader) (h1 : (List ByteArray)), Le (dis_each.s k h0 h1) (dis_each.s (k + 1) h0 h1)
  | 0, _, _ => fun r h => (nomatch h)
  | k + 1, h0, h1 => (dis_each_c (fun h0 => .two ((dis_reader_next.mono k) h0)) (fun a => .two ((dis_each_L1.m (Nat.le_succ k) (fun a0 h0 => dis_List_1.s k a0 h0) (fun h0 => dis_reader_next.s k h0) (fun a0 h0 => dis_List_1.s (k + 1) a0 h0) (fun h0 => dis_reader_next.s (k + 1) h0) (dis_List_1.mono k) (dis_reader_next.mono k)) a)) h0 h1).1 0
noncomputable def dis_each (h0 : T_dis_reader) (h1 : (List ByteArray)) : Option (T_dis_reader × (List ByteArray)) := lim fun k => dis_each.s k h0 h1
theorem dis_each.cv (h0 : T_dis_reader) (h1 : (List ByteArray)) : Cv (fun k => dis_each.s k h0 h1) (dis_each h0 h1) := .lim fun k => dis_each.mono k h0 h1
noncomputable def dis_each_L1 : dis_each_L1_A → Option dis_each_L1_O0 := dis_each_L1.w dis_List_1 dis_reader_next
theorem dis_each_L1.eq (a : dis_each_L1_A) : dis_each_L1 a = (dis_each_L1_b dis_List_1 dis_reader_next a).bind (Sum.elim dis_each_L1 some) := loopW_eq _ _
theorem dis_each.eq (h0 : T_dis_reader) (h1 : (List ByteArray)) : dis_each h0 h1 = dis_each_b dis_reader_next dis_each_L1 h0 h1 := Cv.uniq (dis_each.cv h0 h1).shift (dis_each_c dis_reader_next.cv (dis_each_L1.cv (fun k => fun a0 h0 => dis_List_1.s k a0 h0) (fun k => fun h0 => dis_reader_next.s k h0) dis_List_1 dis_reader_next dis_List_1.cv dis_reader_next.cv) h0 h1)
def slices_Clone_2_e (r : (List ByteArray)) : AV × Heap := (.arr 0, [(0, .arr false 1 (R_string r))])
def slices_Clone_2.s : Nat → (List ByteArray) → Option (List ByteArray)
  | 0, _ => none
  | _ + 1, a0 => cloneT 16 a0
theorem slices_Clone_2.ok : ∀ (k : Nat), ∀ (a0 : (List ByteArray)) (r : (List ByteArray)), slices_Clone_2.s k a0 = some r → evalFn Tryz.prog G k 24 [.sl (R_string a0)] [] = some (slices_Clone_2_e r)
  | 0, _, _, h => (nomatch h)
  | k + 1, a0, r, h => cloneO_ok C_string (fun _ => rfl) h
noncomputable def slices_Clone_2 (a0 : (List ByteArray)) : Option (List ByteArray) := cloneT 16 a0
theorem slices_Clone_2.mono (k : Nat) (a0 : (List ByteArray)) : Le (slices_Clone_2.s k a0) (slices_Clone_2.s (k + 1) a0) := by
  cases k with
  | zero => exact fun r h => nomatch h
  | succ k => exact Le.refl _
theorem slices_Clone_2.cv (a0 : (List ByteArray)) : Cv (fun k => slices_Clone_2.s k a0) (slices_Clone_2 a0) := ⟨fun k => slices_Clone_2.mono k a0, fun r => ⟨fun h => ⟨1, h⟩, fun ⟨k, h⟩ => by
  cases k with
  | zero => cases h
  | succ k => exact h⟩⟩
def dis_List_e (r : (List ByteArray)) : AV × Heap := (.arr 0, [(0, .arr false 1 (R_string r))])
def dis_List_b (C0 : T_dis_reader → (List ByteArray) → Option (T_dis_reader × (List ByteArray))) (C1 : (List ByteArray) → Option (List ByteArray)) (a0 : (List Int)) : Option (List ByteArray) := ((C0 (T_dis_reader.mk a0) ([] : List ByteArray)).bind fun (r1 : (T_dis_reader × (List ByteArray))) => ((C1 r1.2).bind fun (r2 : (List ByteArray)) => (some r2)))
def dis_List_t (P : Program) (call : CallF) (C0 : T_dis_reader → (List ByteArray) → Option (T_dis_reader × (List ByteArray))) (C1 : (List ByteArray) → Option (List ByteArray)) (a0 : (List Int)) : Tr (List ByteArray) (AV × Heap) := (.call (call 21 [.fn (.func 22) [.ptr 0 0] [], .fn (.func 23) [] [.ptr 1 0]] [(0, .box [] (C_dis_reader (T_dis_reader.mk (T_dis_reader.mk a0).b))), (1, .box [1] [.arr 2]), (2, .arr true 1 (R_string ([] : List ByteArray)))]) (C0 (T_dis_reader.mk a0) ([] : List ByteArray)) dis_each_e fun (r1 : (T_dis_reader × (List ByteArray))) => (.call (call 24 [.sl (R_string r1.2)] []) (C1 r1.2) slices_Clone_2_e fun (r2 : (List ByteArray)) => (rt dis_List_e r2)))
theorem dis_List_n (call : CallF) (C0 : T_dis_reader → (List ByteArray) → Option (T_dis_reader × (List ByteArray))) (C1 : (List ByteArray) → Option (List ByteArray)) (a0 : (List Int)) : (dis_List_t Tryz.prog call C0 C1 a0).norm (bodyT Tryz.prog call G 11 [.sl (R_u8 a0)] []) = dis_List_t Tryz.prog call C0 C1 a0 := by kernel_rfl
theorem dis_List_k (P : Program) (call : CallF) (lp : Loops) (C0 : T_dis_reader → (List ByteArray) → Option (T_dis_reader × (List ByteArray))) (C1 : (List ByteArray) → Option (List ByteArray)) (K0 : ∀ (h0 : T_dis_reader) (h1 : (List ByteArray)) (r : (T_dis_reader × (List ByteArray))), C0 h0 h1 = some r → (call 21 [.fn (.func 22) [.ptr 0 0] [], .fn (.func 23) [] [.ptr 1 0]] [(0, .box [] (C_dis_reader h0)), (1, .box [1] [.arr 2]), (2, .arr true 1 (R_string h1))]) = some (dis_each_e r)) (K1 : ∀ (a0 : (List ByteArray)) (r : (List ByteArray)), C1 a0 = some r → (call 24 [.sl (R_string a0)] []) = some (slices_Clone_2_e r)) (a0 : (List Int)) : (dis_List_t P call C0 C1 a0).ok lp dis_List_e := fun r1 hr1 => ⟨K0 _ _ _ hr1, fun r2 hr2 => ⟨K1 _ _ hr2, rfl⟩⟩
theorem dis_List_c {C0 : Nat → T_dis_reader → (List ByteArray) → Option (T_dis_reader × (List ByteArray))} {D0 : T_dis_reader → (List ByteArray) → Option (T_dis_reader × (List ByteArray))} (H0 : ∀ (h0 : T_dis_reader) (h1 : (List ByteArray)), Cv (fun k => C0 k h0 h1) (D0 h0 h1)) {C1 : Nat → (List ByteArray) → Option (List ByteArray)} {D1 : (List ByteArray) → Option (List ByteArray)} (H1 : ∀ (a0 : (List ByteArray)), Cv (fun k => C1 k a0) (D1 a0)) (a0 : (List Int)) : Cv (fun k => dis_List_b (C0 k) (C1 k) a0) (dis_List_b D0 D1 a0) := by
  unfold dis_List_b
  exact .bind (H0 _ _) fun r1 => .bind (H1 _) fun r2 => by exact .const _
def dis_List.s : Nat → (List Int) → Option (List ByteArray)
  | 0, _ => none
  | k + 1, a0 => dis_List_b (fun h0 h1 => dis_each.s k h0 h1) (fun a0 => slices_Clone_2.s k a0) a0
theorem dis_List.ok : ∀ (k : Nat), ∀ (a0 : (List Int)) (r : (List ByteArray)), dis_List.s k a0 = some r → evalFn Tryz.prog G k 11 [.sl (R_u8 a0)] [] = some (dis_List_e r)
  | 0, _, _, h => (nomatch h)
  | k + 1, a0, r, h => fn_ok rfl (dis_List_t Tryz.prog (evalFn Tryz.prog G k) (fun h0 h1 => dis_each.s k h0 h1) (fun a0 => slices_Clone_2.s k a0) a0) (dis_List_n _ _ _ a0) (dis_List_k _ _ _ _ _ (dis_each.ok k) (slices_Clone_2.ok k)  a0) h
theorem dis_List.mono : ∀ (k : Nat) (a0 : (List Int)), Le (dis_List.s k a0) (dis_List.s (k + 1) a0)
  | 0, _ => fun r h => (nomatch h)
  | k + 1, a0 => (dis_List_c (fun h0 h1 => .two ((dis_each.mono k) h0 h1)) (fun a0 => .two ((slices_Clone_2.mono k) a0)) a0).1 0
noncomputable def dis_List (a0 : (List Int)) : Option (List ByteArray) := lim fun k => dis_List.s k a0
theorem dis_List.cv (a0 : (List Int)) : Cv (fun k => dis_List.s k a0) (dis_List a0) := .lim fun k => dis_List.mono k a0
theorem dis_List.eq (a0 : (List Int)) : dis_List a0 = dis_List_b dis_each slices_Clone_2 a0 := Cv.uniq (dis_List.cv a0).shift (dis_List_c dis_each.cv slices_Clone_2.cv a0)
def dis_name_e (r : ByteArray) : AV × Heap := (.sc (.string r), [])
def dis_name_b (C0 : Int → Option ByteArray) (a0 : Int) : Option ByteArray := (bif (decide (0 ≤ (Int.tmod (w64 (Int.tdiv a0 (100 : Int))) (10 : Int)) ∧ (Int.tmod (w64 (Int.tdiv a0 (100 : Int))) (10 : Int)) ≤ (w64 ((Int.tmod (w64 (Int.tdiv a0 (100 : Int))) (10 : Int)) + (1 : Int))) ∧ (w64 ((Int.tmod (w64 (Int.tdiv a0 (100 : Int))) (10 : Int)) + (1 : Int))) ≤ ((s_pqstuvwxyz.size : Nat) : Int))) then ((C0 (Int.tmod (w64 (Int.tdiv a0 (10 : Int))) (10 : Int))).bind fun (r1 : ByteArray) => (bif (decide ((((s_pqstuvwxyz.extract (Int.toNat (Int.tmod (w64 (Int.tdiv a0 (100 : Int))) (10 : Int))) (Int.toNat (w64 ((Int.tmod (w64 (Int.tdiv a0 (100 : Int))) (10 : Int)) + (1 : Int))))).size + r1.size : Nat) : Int) ≤ IntKind.i64.max)) then ((C0 (Int.tmod a0 (10 : Int))).bind fun (r2 : ByteArray) => (bif (decide (((((s_pqstuvwxyz.extract (Int.toNat (Int.tmod (w64 (Int.tdiv a0 (100 : Int))) (10 : Int))) (Int.toNat (w64 ((Int.tmod (w64 (Int.tdiv a0 (100 : Int))) (10 : Int)) + (1 : Int))))) ++ r1).size + r2.size : Nat) : Int) ≤ IntKind.i64.max)) then (some (((s_pqstuvwxyz.extract (Int.toNat (Int.tmod (w64 (Int.tdiv a0 (100 : Int))) (10 : Int))) (Int.toNat (w64 ((Int.tmod (w64 (Int.tdiv a0 (100 : Int))) (10 : Int)) + (1 : Int))))) ++ r1) ++ r2)) else none)) else none)) else none)
def dis_name_t (P : Program) (call : CallF) (C0 : Int → Option ByteArray) (a0 : Int) : Tr ByteArray (AV × Heap) := (.yes (decide ((100 : Int) ≠ 0)) (.yes (decide ((10 : Int) ≠ 0)) (.as (decide (0 ≤ (Int.tmod (w64 (Int.tdiv a0 (100 : Int))) (10 : Int)) ∧ (Int.tmod (w64 (Int.tdiv a0 (100 : Int))) (10 : Int)) ≤ (w64 ((Int.tmod (w64 (Int.tdiv a0 (100 : Int))) (10 : Int)) + (1 : Int))) ∧ (w64 ((Int.tmod (w64 (Int.tdiv a0 (100 : Int))) (10 : Int)) + (1 : Int))) ≤ ((s_pqstuvwxyz.size : Nat) : Int))) (yesN 2 (decide ((10 : Int) ≠ 0)) (.call (call 44 [.sc (.int .i64 (Int.tmod (w64 (Int.tdiv a0 (10 : Int))) (10 : Int)))] []) (C0 (Int.tmod (w64 (Int.tdiv a0 (10 : Int))) (10 : Int))) strconv_Itoa_e fun (r1 : ByteArray) => (.as (decide ((((s_pqstuvwxyz.extract (Int.toNat (Int.tmod (w64 (Int.tdiv a0 (100 : Int))) (10 : Int))) (Int.toNat (w64 ((Int.tmod (w64 (Int.tdiv a0 (100 : Int))) (10 : Int)) + (1 : Int))))).size + r1.size : Nat) : Int) ≤ IntKind.i64.max)) (.yes (decide ((10 : Int) ≠ 0)) (.call (call 44 [.sc (.int .i64 (Int.tmod a0 (10 : Int)))] []) (C0 (Int.tmod a0 (10 : Int))) strconv_Itoa_e fun (r2 : ByteArray) => (.as (decide (((((s_pqstuvwxyz.extract (Int.toNat (Int.tmod (w64 (Int.tdiv a0 (100 : Int))) (10 : Int))) (Int.toNat (w64 ((Int.tmod (w64 (Int.tdiv a0 (100 : Int))) (10 : Int)) + (1 : Int))))) ++ r1).size + r2.size : Nat) : Int) ≤ IntKind.i64.max)) (rt dis_name_e (((s_pqstuvwxyz.extract (Int.toNat (Int.tmod (w64 (Int.tdiv a0 (100 : Int))) (10 : Int))) (Int.toNat (w64 ((Int.tmod (w64 (Int.tdiv a0 (100 : Int))) (10 : Int)) + (1 : Int))))) ++ r1) ++ r2)) .fail))) .fail))) .fail)))
theorem dis_name_n (call : CallF) (C0 : Int → Option ByteArray) (a0 : Int) : (dis_name_t Tryz.prog call C0 a0).norm (bodyT Tryz.prog call G 31 [.sc (.int .i64 a0)] []) = dis_name_t Tryz.prog call C0 a0 := by kernel_rfl
theorem dis_name_k (P : Program) (call : CallF) (lp : Loops) (C0 : Int → Option ByteArray) (K0 : ∀ (a0 : Int) (r : ByteArray), C0 a0 = some r → (call 44 [.sc (.int .i64 a0)] []) = some (strconv_Itoa_e r)) (a0 : Int) : (dis_name_t P call C0 a0).ok lp dis_name_e := ⟨rfl, ⟨rfl, ⟨rfl, fun hq0 => yesN_ok 2 (rfl) (fun r1 hr1 => ⟨K0 _ _ hr1, ⟨rfl, fun hq1 => ⟨rfl, fun r2 hr2 => ⟨K0 _ _ hr2, ⟨rfl, fun hq2 => rfl, fun hq2 => trivial⟩⟩⟩, fun hq1 => trivial⟩⟩), fun hq0 => trivial⟩⟩⟩
theorem dis_name_c {C0 : Nat → Int → Option ByteArray} {D0 : Int → Option ByteArray} (H0 : ∀ (a0 : Int), Cv (fun k => C0 k a0) (D0 a0)) (a0 : Int) : Cv (fun k => dis_name_b (C0 k) a0) (dis_name_b D0 a0) := by
  unfold dis_name_b
  exact .cond (.bind (H0 _) fun r1 => .cond (.bind (H0 _) fun r2 => by exact .const _) (by exact .const _)) (by exact .const _)
def dis_name.s : Nat → Int → Option ByteArray
  | 0, _ => none
  | k + 1, a0 => dis_name_b (fun a0 => strconv_Itoa.s k a0) a0
theorem dis_name.ok : ∀ (k : Nat), ∀ (a0 : Int) (r : ByteArray), dis_name.s k a0 = some r → evalFn Tryz.prog G k 31 [.sc (.int .i64 a0)] [] = some (dis_name_e r)
  | 0, _, _, h => (nomatch h)
  | k + 1, a0, r, h => fn_ok rfl (dis_name_t Tryz.prog (evalFn Tryz.prog G k) (fun a0 => strconv_Itoa.s k a0) a0) (dis_name_n _ _ a0) (dis_name_k _ _ _ _ (strconv_Itoa.ok k)  a0) h
theorem dis_name.mono : ∀ (k : Nat) (a0 : Int), Le (dis_name.s k a0) (dis_name.s (k + 1) a0)
  | 0, _ => fun r h => (nomatch h)
  | k + 1, a0 => (dis_name_c (fun a0 => .two ((strconv_Itoa.mono k) a0)) a0).1 0
noncomputable def dis_name (a0 : Int) : Option ByteArray := lim fun k => dis_name.s k a0
theorem dis_name.cv (a0 : Int) : Cv (fun k => dis_name.s k a0) (dis_name a0) := .lim fun k => dis_name.mono k a0
theorem dis_name.eq (a0 : Int) : dis_name a0 = dis_name_b strconv_Itoa a0 := Cv.uniq (dis_name.cv a0).shift (dis_name_c strconv_Itoa.cv a0)
def dis_Frags_1_e (r : (List T_api_Frag)) : AV × Heap := (.tup [], [(0, .box [102] [.arr 2]), (2, .arr false 2 (R_api_Frag r))])
def dis_Frags_1_b (C0 : Int → Option ByteArray) (a0 : ByteArray) (h0 : (List T_api_Frag)) : Option (List T_api_Frag) := (bif ((((h0.length) : Nat) : Int) == (0 : Int)) then ((C0 (((h0.length) : Nat) : Int)).bind fun (r1 : ByteArray) => (bif (decide ((h0.length + [(T_api_Frag.mk r1 s_)].length) * 32 ≤ most)) then (bif (decide (0 ≤ (w64 ((w64 ((((h0.length) : Nat) : Int) + (1 : Int))) - (1 : Int))) ∧ (w64 ((w64 ((((h0.length) : Nat) : Int) + (1 : Int))) - (1 : Int))) < (((h0 ++ [(T_api_Frag.mk r1 s_)]).length : Nat) : Int))) then (((h0 ++ [(T_api_Frag.mk r1 s_)])[(Int.toNat (w64 ((w64 ((((h0.length) : Nat) : Int) + (1 : Int))) - (1 : Int))))]?).bind fun (e2 : T_api_Frag) => (bif (decide (((a0.size + h_0a.size : Nat) : Int) ≤ IntKind.i64.max)) then (bif (decide (((e2.Text.size + (a0 ++ h_0a).size : Nat) : Int) ≤ IntKind.i64.max)) then (((h0 ++ [(T_api_Frag.mk r1 s_)])[(Int.toNat (w64 ((w64 ((((h0.length) : Nat) : Int) + (1 : Int))) - (1 : Int))))]?).bind fun (e3 : T_api_Frag) => (some ((h0 ++ [(T_api_Frag.mk r1 s_)]).set (Int.toNat (w64 ((w64 ((((h0.length) : Nat) : Int) + (1 : Int))) - (1 : Int)))) (T_api_Frag.mk e3.Name (e2.Text ++ (a0 ++ h_0a)))))) else none) else none)) else none) else none)) else (bif (decide (0 ≤ (w64 ((((h0.length) : Nat) : Int) - (1 : Int))) ∧ (w64 ((((h0.length) : Nat) : Int) - (1 : Int))) < ((h0.length : Nat) : Int))) then ((h0[(Int.toNat (w64 ((((h0.length) : Nat) : Int) - (1 : Int))))]?).bind fun (e4 : T_api_Frag) => (bif (decide ((w64 ((w64 (((e4.Text.size : Nat) : Int) + ((a0.size : Nat) : Int))) + (1 : Int))) > (600 : Int))) then ((C0 (((h0.length) : Nat) : Int)).bind fun (r5 : ByteArray) => (bif (decide ((h0.length + [(T_api_Frag.mk r5 s_)].length) * 32 ≤ most)) then (bif (decide (0 ≤ (w64 ((w64 ((((h0.length) : Nat) : Int) + (1 : Int))) - (1 : Int))) ∧ (w64 ((w64 ((((h0.length) : Nat) : Int) + (1 : Int))) - (1 : Int))) < (((h0 ++ [(T_api_Frag.mk r5 s_)]).length : Nat) : Int))) then (((h0 ++ [(T_api_Frag.mk r5 s_)])[(Int.toNat (w64 ((w64 ((((h0.length) : Nat) : Int) + (1 : Int))) - (1 : Int))))]?).bind fun (e6 : T_api_Frag) => (bif (decide (((a0.size + h_0a.size : Nat) : Int) ≤ IntKind.i64.max)) then (bif (decide (((e6.Text.size + (a0 ++ h_0a).size : Nat) : Int) ≤ IntKind.i64.max)) then (((h0 ++ [(T_api_Frag.mk r5 s_)])[(Int.toNat (w64 ((w64 ((((h0.length) : Nat) : Int) + (1 : Int))) - (1 : Int))))]?).bind fun (e7 : T_api_Frag) => (some ((h0 ++ [(T_api_Frag.mk r5 s_)]).set (Int.toNat (w64 ((w64 ((((h0.length) : Nat) : Int) + (1 : Int))) - (1 : Int)))) (T_api_Frag.mk e7.Name (e6.Text ++ (a0 ++ h_0a)))))) else none) else none)) else none) else none)) else ((h0[(Int.toNat (w64 ((((h0.length) : Nat) : Int) - (1 : Int))))]?).bind fun (e8 : T_api_Frag) => (bif (decide (((a0.size + h_0a.size : Nat) : Int) ≤ IntKind.i64.max)) then (bif (decide (((e8.Text.size + (a0 ++ h_0a).size : Nat) : Int) ≤ IntKind.i64.max)) then ((h0[(Int.toNat (w64 ((((h0.length) : Nat) : Int) - (1 : Int))))]?).bind fun (e9 : T_api_Frag) => (some (h0.set (Int.toNat (w64 ((((h0.length) : Nat) : Int) - (1 : Int)))) (T_api_Frag.mk e9.Name (e8.Text ++ (a0 ++ h_0a)))))) else none) else none)))) else none))
end Go.Ab
