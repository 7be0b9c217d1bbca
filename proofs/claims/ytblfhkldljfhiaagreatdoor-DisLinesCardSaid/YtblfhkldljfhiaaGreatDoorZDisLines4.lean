/- DisLines: part 4 of the proof that, whatever the input, the law returns true and the input reads as it did; its conditions are those of the given row. -/
import Derived.Test.YtblfhkldljfhiaaGreatDoorZDisLines3
import Derived.Test.YtblfhkldljfhiaaGreatDoorTie
import Derived.Test.YtblfhkldljfhiaaGreatDoorCards
import Derived.ProofKit
import Derived.OpenShut
import Derived.Stop.Joined
import Derived.Lay
import Derived.SevenTiedAt
set_option linter.unusedVariables false
set_option linter.unusedSimpArgs false
set_option maxRecDepth 100000
namespace Go.Ab
abbrev z0I : Qi := ⟨0,[]⟩
def U8 (l : List Int) : Prop := ∀ x ∈ l,byt x
def wd : Nat → List Int → Nat
 | n,[] => n
 | n,x :: l => wd (n * 256 + x.toNat) l
def szOf (b : Int) : Int := if b / 16 < 8 ∧ b / 16 % 2 = 1 then 4 else 2
theorem Qpi : ∀ b : Fin 256,QaY ((b.val : Nat) : Int) = some (szOf ((b.val : Nat) : Int)) := by decide +kernel
theorem Qqr (b : Int) (h : byt b) : Xf b = some (szOf b) := by
 have := Qpi ⟨b.toNat,by have := h.1; have := h.2; omega⟩
 have e : ((b.toNat : Nat) : Int) = b := Int.toNat_of_nonneg h.1
 simp only [e] at this
 rw [Xf.eq]; exact this
theorem Qje (b : Int) : szOf b = 2 ∨ szOf b = 4 := by unfold szOf; split <;> simp
def vals (i : Nat) (n : Nat) : List Int := (ks i).map (fun K => K.val (n : Int))
def dgo (n : Nat) (s : Int) : Nat → Nat → Option Nat
 | 0,_ => none
 | d + 1,i => if sz i = s ∧ enc (i : Int) (vals i n) = some n then some i else dgo n s d (i + 1)
theorem Qjf (n : Nat) (s : Int) (d i : Nat) : dgo n s (d + 1) i = if sz i = s ∧ enc (i : Int) (vals i n) = some n then some i else dgo n s d (i + 1) := rfl
def decW (n : Nat) (s : Int) : Qi × Int × Bool := match dgo n s 66 0 with
 | some i => (⟨(i : Int),vals i n⟩,s,true)
 | none => (z0I,0,false)
def dec (b : List Int) : Qi × Int × Bool :=
 if 2 ≤ b.length ∧ szOf (b.headD 0) ≤ b.length then decW (wd 0 (b.take (szOf (b.headD 0)).toNat)) (szOf (b.headD 0)) else (z0I,0,false)
theorem Qqs (i n : Nat) (h : n < 4294967296) : ∀ v ∈ vals i n,inI v := by
 intro x hx
 obtain ⟨K,_,rfl⟩ := List.mem_map.1 hx
 exact val_in K n ⟨by omega,by omega⟩
theorem Qjg (i n : Nat) : (vals i n).length = (ks i).length := by unfold vals; rw [List.length_map]
theorem wd_lt : ∀ (l : List Int) (n m : Nat),U8 l → n < 256 ^ m → wd n l < 256 ^ (m + l.length)
 | [],n,m,_,h => by simpa [wd] using h
 | x :: l,n,m,hl,h => by
  have hx : byt x := hl x (List.mem_cons_self ..)
  have e : 256 ^ (m + 1) = 256 * 256 ^ m := by rw [Nat.pow_succ,Nat.mul_comm]
  have := wd_lt l (n * 256 + x.toNat) (m + 1) (fun z hz => hl z (List.mem_cons_of_mem _ hz)) (by have := hx.1; have := hx.2; omega)
  simp only [wd,List.length_cons]
  rw [show m + (l.length + 1) = m + 1 + l.length by omega]
  exact this

theorem dl1 (s : Int) (h0 : Qi) (b : List Int) (hb : U8 b) (hl : b.length ≤ 4) : ∀ (d i acc : Nat),i + d = b.length → acc < 256 ^ i →
  UW ⟨s,(acc : Int),b,(b.length : Int),(i : Int),h0⟩ = some ⟨s,((wd acc (b.drop i) : Nat) : Int),h0⟩
 | 0,i,acc,hd,ha => by
  rw [UW.eq]; unfold Y1; simp only
  rw [show decide ((i : Int) < b.length) = false from decide_eq_false (by omega),List.drop_eq_nil_of_le (by omega)]; rfl
 | d + 1,i,acc,hd,ha => by
  have hi : i < b.length := by omega
  have hx := hb _ (List.getElem_mem hi)
  have hp : (256 : Nat) ^ i ≤ 256 ^ 3 := Nat.pow_le_pow_right (by decide) (by omega)
  have hx0 := hx.1
  have hx1 := hx.2
  have ho : orI .u32 (shlI .u32 (acc : Int) 8) (IntKind.u32.wrap b[i]) = ((acc * 256 + (b[i]).toNat : Nat) : Int) := by
   have e1 : shlI .u32 (acc : Int) 8 = ((acc * 256 : Nat) : Int) := by
    unfold shlI
    rw [u32_w,show ((2 : Int) ^ min (Int.toNat 8) IntKind.u32.bits) = 256 from rfl]; omega
   have e2 : IntKind.u32.wrap b[i] = (((b[i]).toNat : Nat) : Int) := by rw [u32_w]; omega
   rw [e1,e2,orU _ _ (by omega) (by omega)]
   congr 1
   rw [show acc * 256 = 2 ^ 8 * acc by omega,Nat.two_pow_add_eq_or_of_lt (by omega)]
  have ih := dl1 s h0 b hb hl d (i + 1) (acc * 256 + (b[i]).toNat) (by omega) (by rw [Nat.pow_succ]; omega)
  rw [UW.eq]; unfold Y1; simp only
  rw [show decide ((i : Int) < b.length) = true from decide_eq_true (by omega),cond_true,show decide (0 ≤ (i : Int)) = true from decide_eq_true (by omega),cond_true,Int.toNat_natCast,List.getElem?_eq_getElem hi,Option.bind_some,ho,w64_in (n := (i : Int) + 1) (by omega) (by omega),Option.bind_some,Sum.elim_inl,List.drop_eq_getElem_cons hi]
  exact ih
theorem dl3 (s len op : Int) (h0 : Qi) (n : Nat) (hn : n < 4294967296) (K : List Kn) (hK : K.length ≤ 8) : ∀ (d j : Nat),j + d = K.length →
  UX ⟨s,(n : Int),len,op,K.map Kn.str,(K.length : Int),(j : Int),h0,⟨op,(K.map (fun K => K.val (n : Int))).take j⟩⟩ = some ⟨s,(n : Int),len,op,h0,⟨op,K.map (fun K => K.val (n : Int))⟩⟩
 | 0,j,hd => by
  rw [UX.eq]; unfold Y2; simp only
  rw [show decide ((j : Int) < K.length) = false from decide_eq_false (by omega),List.take_of_length_le (by rw [List.length_map]; omega)]; rfl
 | d + 1,j,hd => by
  have hj : j < K.length := by omega
  have hj2 : j < (K.map Kn.str).length := by rw [List.length_map]; exact hj
  have hj3 : j < (K.map (fun K => K.val (n : Int))).length := by rw [List.length_map]; exact hj
  have ih := dl3 s len op h0 n hn K hK d (j + 1) (by omega)
  have e : (K.map (fun K => K.val (n : Int))).take j ++ [(K[j]).val (n : Int)] = (K.map (fun K => K.val (n : Int))).take (j + 1) := by
   rw [List.take_succ_eq_append_getElem hj3,List.getElem_map]
  rw [UX.eq]; unfold Y2; simp only
  rw [show decide ((j : Int) < K.length) = true from decide_eq_true (by omega),cond_true,show decide (0 ≤ (j : Int)) = true from decide_eq_true (by omega),cond_true,Int.toNat_natCast,List.getElem?_eq_getElem hj2,Option.bind_some,List.getElem_map,get_is _ _ ⟨by omega,by omega⟩,Option.bind_some,
   show decide ((((K.map (fun K => K.val (n : Int))).take j).length + [(K[j]).val (n : Int)].length) * 8 ≤ most) = true from decide_eq_true (by rw [List.length_take,List.length_singleton,List.length_map]; unfold most; omega),cond_true,e,w64_in (n := (j : Int) + 1) (by omega) (by omega),Option.bind_some,Sum.elim_inl]
  exact ih
theorem dl2 (s : Int) (n : Nat) (hn : n < 4294967296) : ∀ (d i : Nat),i + d = 66 →
  UB ⟨s,(n : Int),66,(i : Int),z0I⟩ = some (match dgo n s d i with | some i => .inl ⟨s,true,⟨(i : Int),vals i n⟩⟩ | none => .inr z0I)
 | 0,i,hd => by
  rw [UB.eq]; unfold Y3; simp only
  rw [show decide ((i : Int) < 66) = false from decide_eq_false (by omega)]; rfl
 | d + 1,i,hd => by
  have hi : i < 66 := by omega
  obtain ⟨t1,t2,t3⟩ := tab_is hi
  have hk := ks_len i
  have ih := dl2 s n hn d (i + 1) (by omega)
  have next : w64 ((i : Int) + 1) = ((i + 1 : Nat) : Int) := by rw [w64_in (by omega) (by omega)]; rfl
  rw [Qjf,UB.eq]; unfold Y3; simp only
  rw [show decide ((i : Int) < 66) = true from decide_eq_true (by omega),cond_true,t3,Option.bind_some,next]
  by_cases c : sz i = s
  rotate_left
  ·rw [show (sz i != s) = true by rw [bne_iff_ne]; exact c,cond_true,Option.bind_some,Sum.elim_inl,if_neg (fun h => c h.1)]; exact ih
  rw [show (sz i != s) = false by rw [c]; exact bne_self_eq_false s,cond_false,t1,Option.bind_some,List.length_map]
  have e := dl3 s 66 (i : Int) z0I n hn (ks i) (by omega) (ks i).length 0 (by omega)
  have e' : UX ⟨s,(n : Int),66,(i : Int),(ks i).map Kn.str,((ks i).length : Int),0,z0I,⟨(i : Int),[]⟩⟩ = some ⟨s,(n : Int),66,(i : Int),z0I,⟨(i : Int),vals i n⟩⟩ := e
  rw [e',Option.bind_some]
  have hv := Qqs i n hn
  have hlen : (vals i n).length ≤ 8 := by rw [Qjg]; omega
  obtain ⟨g,eg,hg⟩ := QkG ⟨(i : Int),vals i n⟩ hv (by show (vals i n).length ≤ _; omega)
  simp only
  rw [eg,Option.bind_some]
  cases h : enc (i : Int) (vals i n) with
  | none =>
   simp only [Option.isSome_none,cond_false,Option.bind_some,Sum.elim_inl]
   rw [next,if_neg (by simp)]; exact ih
  | some p =>
   simp only [Option.isSome_some,cond_true]
   rw [hg p h]
   by_cases c2 : p = n
   ·subst c2
    have ec : XG (vals i p) = some (vals i p) := by
     show cloneB 8 _ = _
     exact if_pos (by omega)
    rw [beq_self_eq_true,cond_true,ec,if_pos ⟨c,rfl⟩]; rfl
   ·rw [show (((p : Nat) : Int) == (n : Int)) = false from beq_eq_false_iff_ne.2 (by omega),cond_false,if_neg (fun h => c2 (Option.some.inj h.2)),Option.bind_some,Sum.elim_inl,next]; exact ih
theorem Qdd {b : List Int} (hb : U8 b) (n : Nat) : U8 (b.take n) := fun x hx => hb x (List.mem_of_mem_take hx)
theorem wd_32 {b : List Int} (hb : U8 b) {s : Int} (hs : s = 2 ∨ s = 4) (h : s ≤ b.length) : wd 0 (b.take s.toNat) < 4294967296 := by
 have h1 := wd_lt (b.take s.toNat) 0 0 (Qdd hb _) (by decide)
 rw [List.length_take] at h1
 have h2 : (256 : Nat) ^ (0 + min s.toNat b.length) ≤ 256 ^ 4 := Nat.pow_le_pow_right (by decide) (by omega)
 omega
theorem QnJ (b : List Int) (hb : U8 b) : W5 b = some (dec b) := by
 rw [W5.eq]; unfold PM dec
 by_cases c : 2 ≤ b.length
 rotate_left
 ·rw [show decide ((b.length : Int) < 2) = true from decide_eq_true (by omega),cond_true,if_neg (fun h => c h.1)]
 have h0 : 0 < b.length := by omega
 have hx := hb _ (List.getElem_mem h0)
 have er : b.headD 0 = b[0] := by cases b with | nil => cases h0 | cons a l => rfl
 rw [show decide ((b.length : Int) < 2) = false from decide_eq_false (by omega),cond_false,show Int.toNat 0 = 0 from rfl,List.getElem?_eq_getElem h0,Option.bind_some,er]
 have hs := Qje b[0]
 have hsz : Xf b[0] = some (szOf b[0]) := Qqr _ hx
 generalize szOf b[0] = s at *
 rw [hsz,Option.bind_some]
 by_cases d : s ≤ b.length
 rotate_left
 ·rw [show decide ((b.length : Int) < s) = true from decide_eq_true (by omega),cond_true,if_neg (fun h => d h.2)]
 rw [show decide ((b.length : Int) < s) = false from decide_eq_false (by omega),cond_false,Option.bind_some,hsz,Option.bind_some,show decide (0 ≤ (0 : Int) ∧ 0 ≤ s ∧ s ≤ (b.length : Nat)) = true from decide_eq_true (by omega),cond_true,Int.sub_zero,List.drop_zero,if_pos ⟨c,d⟩]
 have hw := wd_32 hb hs d
 have e := dl1 s z0I (b.take s.toNat) (Qdd hb _) (by rw [List.length_take]; omega) (b.take s.toNat).length 0 0 (by omega) (by decide)
 rw [List.drop_zero] at e
 have e' : UW ⟨s,0,b.take s.toNat,((b.take s.toNat).length : Int),0,z0I⟩ = _ := e
 rw [e',Option.bind_some,tab_eq,Option.bind_some,Qf9]
 have e2 := dl2 s _ hw 66 0 (by omega)
 have e2' : UB ⟨s,((wd 0 (b.take s.toNat) : Nat) : Int),((66 : Nat) : Int),0,z0I⟩ = _ := e2
 rw [e2',Option.bind_some]
 unfold decW
 cases dgo (wd 0 (b.take s.toNat)) s 66 0 <;> rfl
end Go.Ab
set_option maxRecDepth 100000
namespace Go.Ab
theorem Qpj (i n : Nat) : ((byts (i : Int) n).length : Int) = sz i := by
 unfold byts sz
 by_cases c : i < 43
 ·rw [if_pos (by omega),if_pos c]; rfl
 ·rw [if_neg (by omega),if_neg c]; rfl
theorem Qqt (op : Int) (n : Nat) : U8 (byts op n) := by
 unfold byts
 intro x hx
 split at hx
 ·simp only [List.mem_cons,List.not_mem_nil,or_false] at hx
  rcases hx with rfl | rfl <;> omega
 ·simp only [List.mem_cons,List.not_mem_nil,or_false] at hx
  rcases hx with rfl | rfl | rfl | rfl <;> omega
theorem Qpk : (D0.all fun r => !eqS r.Name s_) = true := by kernel_rfl
theorem Qde {i : Nat} (h : i < 66) : ∃ q : Qz,WZ i = some q.Name ∧ eqS q.Name s_ = false ∧ Yu i = some (sz i) ∧ Wm i = some q.Kinds ∧ JF q.Kinds = some ((ks i).map Kn.str) := by
 obtain ⟨nm,c,k,z,q,e1,e2,e3,e4,e5,e6,e7,e8,e9,_⟩ := rows h
 obtain ⟨t1,t2,t3⟩ := tab_is h
 have hf := Qga e5
 rw [t1] at e3; cases e3
 rw [t3] at e4; cases e4
 refine ⟨q,?_,?_,?_,?_,e6⟩
 ·rw [WZ.eq]; unfold Fv; rw [hf]; rfl
 ·have := List.all_eq_true.1 Qpk q (List.mem_of_getElem? e5)
  simpa using this
 ·rw [Yu.eq]; unfold QcS; rw [hf,Option.bind_some]
  have : w64 (Int.tdiv ((q.Bits.size : Nat) : Int) 2) = sz i := by
   rw [e8,Int.mul_comm,Int.mul_tdiv_cancel _ (by decide)]
   rcases e9 with e | e <;> rw [e] <;> rfl
  exact congrArg some this
 ·rw [Wm.eq]; unfold FY; rw [hf]; rfl
end Go.Ab
set_option maxRecDepth 100000
namespace Go.Ab
def pk9 (K : Kn) (L : List Int) (g : Int → Int) : Bool := (List.range 9).all fun t => match L[t]? with
 | some e => K.ok (g e) && decide (inI (g e))
 | none => false
theorem U6 {K : Kn} {n : Int} (L : List Int) (g : Int → Int) (he : GN JM K.str n = (JM n 9).bind fun r1 => bif decide (0 ≤ r1 ∧ r1 < ((L.length : Nat) : Int)) then (L[(Int.toNat r1)]?).bind fun e => some (g e) else none) (hl : L.length = 9) (h : pk9 K L g = true) :
  ∃ v,Vy K.str n = some v ∧ K.ok v = true ∧ inI v := by
 rw [Vy.eq,he,Er n 9 (by decide) (by decide),Option.bind_some]
 have h0 : 0 ≤ n % 9 ∧ n % 9 < 9 := by omega
 have h := List.all_eq_true.1 h (n % 9).toNat (List.mem_range.2 (by omega))
 rw [hl,show decide (0 ≤ n % 9 ∧ n % 9 < ((9 : Nat) : Int)) = true from decide_eq_true h0,cond_true]
 split at h
 ·rename_i e h1
  rw [Bool.and_eq_true,decide_eq_true_eq] at h
  rw [h1]; exact ⟨_,rfl,h.1,h.2⟩
 ·cases h
theorem Ye {K : Kn} {n : Int} (m : Int) (g : Int → Int) (hm : 0 < m ∧ m ≤ 4611686018427387904) (he : GN JM K.str n = (JM n 9).bind fun _ => (JM n m).bind fun r => some (g r)) (h : ∀ r,0 ≤ r → r < m → K.ok (g r) = true ∧ inI (g r)) :
  ∃ v,Vy K.str n = some v ∧ K.ok v = true ∧ inI v := by
 rw [Vy.eq,he,Er n 9 (by decide) (by decide),Option.bind_some,Er n m hm.1 hm.2,Option.bind_some]
 have h := h (n % m) (Int.emod_nonneg _ (by omega)) (Int.emod_lt_of_pos _ hm.1)
 exact ⟨_,rfl,h.1,h.2⟩
theorem in_of {v : Int} (h0 : -9223372036854775808 ≤ v) (h1 : v ≤ 9223372036854775807) : inI v := ⟨h0,h1⟩
theorem Qme (K : Kn) (n : Int) : ∃ v,Vy K.str n = some v ∧ K.ok v = true ∧ inI v := by
 cases K
 case X => exact U6 [0,1,7,24,31,5,28,3,30] (fun e => e) (by kernel_rfl) rfl (by kernel_rfl)
 case Y => exact U6 [0,1,7,24,31,5,28,3,30] (fun e => e) (by kernel_rfl) rfl (by kernel_rfl)
 case D => exact U6 [0,31,1,15,16,7,30,12,3] (fun e => e) (by kernel_rfl) rfl (by kernel_rfl)
 case A => exact U6 [0,31,1,15,16,7,30,12,3] (fun e => e) (by kernel_rfl) rfl (by kernel_rfl)
 case B => exact U6 [0,31,1,15,16,7,30,12,3] (fun e => e) (by kernel_rfl) rfl (by kernel_rfl)
 case U5 => exact U6 [0,31,1,15,16,7,30,12,3] (fun e => e) (by kernel_rfl) rfl (by kernel_rfl)
 case U7 => exact U6 [0,127,64,1,63,100,7,15,16] (fun e => e) (by kernel_rfl) rfl (by kernel_rfl)
 case O5 => exact U6 [1,32,2,16,31,17,8,5,30] (fun e => e) (by kernel_rfl) rfl (by kernel_rfl)
 case M1 => exact U6 [0,15,1,7,8,4,12,3,14] (fun e => e) (by kernel_rfl) rfl (by kernel_rfl)
 case I4 => exact U6 [0,15,1,7,8,4,12,3,14] (fun e => e) (by kernel_rfl) rfl (by kernel_rfl)
 case M2 => exact U6 [0,15,1,7,8,4,12,3,14] (fun e => w64 (2 * e)) (by kernel_rfl) rfl (by kernel_rfl)
 case M4 => exact U6 [0,15,1,7,8,4,12,3,14] (fun e => w64 (4 * e)) (by kernel_rfl) rfl (by kernel_rfl)
 case S16 => exact U6 [0,32767,-32768,-1,1,255,-256,4660,-4660] (fun e => e) (by kernel_rfl) rfl (by kernel_rfl)
 case C8 => exact U6 [0,255,256,65280,-1,-2,16711680,-256,2130706432] (fun e => e) (by kernel_rfl) rfl (by kernel_rfl)
 case O1 => exact Ye 2 (fun r => r) (by decide) (by kernel_rfl) fun r h0 h1 => ⟨by simp only [Kn.ok,decide_eq_true_eq]; omega,in_of (by omega) (by omega)⟩
 case I2 => exact Ye 4 (fun r => r) (by decide) (by kernel_rfl) fun r h0 h1 => ⟨by simp only [Kn.ok,decide_eq_true_eq]; omega,in_of (by omega) (by omega)⟩
 case O2 => exact Ye 4 (fun r => r) (by decide) (by kernel_rfl) fun r h0 h1 => ⟨by simp only [Kn.ok,decide_eq_true_eq]; omega,in_of (by omega) (by omega)⟩
 case T8 =>
  exact Ye 256 (fun r => w64 (2 * (w64 (r - 128)))) (by decide) (by kernel_rfl) fun r h0 h1 => by
   rw [w64_in (n := r - 128) (by omega) (by omega),w64_in (n := 2 * (r - 128)) (by omega) (by omega)]
   exact ⟨by simp only [Kn.ok,decide_eq_true_eq]; omega,in_of (by omega) (by omega)⟩
 case L20 =>
  exact Ye 1048576 (fun r => w64 (r - 524288)) (by decide) (by kernel_rfl) fun r h0 h1 => by
   rw [w64_in (n := r - 524288) (by omega) (by omega)]
   exact ⟨by simp only [Kn.ok,decide_eq_true_eq]; omega,in_of (by omega) (by omega)⟩
 case T15 =>
  exact Ye 32768 (fun r => w64 (2 * (w64 (r - 16384)))) (by decide) (by kernel_rfl) fun r h0 h1 => by
   rw [w64_in (n := r - 16384) (by omega) (by omega),w64_in (n := 2 * (r - 16384)) (by omega) (by omega)]
   exact ⟨by simp only [Kn.ok,decide_eq_true_eq]; omega,in_of (by omega) (by omega)⟩
 case T24 =>
  exact Ye 16777216 (fun r => w64 (2 * (w64 (r - 8388608)))) (by decide) (by kernel_rfl) fun r h0 h1 => by
   rw [w64_in (n := r - 8388608) (by omega) (by omega),w64_in (n := 2 * (r - 8388608)) (by omega) (by omega)]
   exact ⟨by simp only [Kn.ok,decide_eq_true_eq]; omega,in_of (by omega) (by omega)⟩
theorem make_l (Ks : List Kn) (ns : List Int) (op : Int) (h0 : Qi) (hK : Ks.length ≤ 8) : ∀ (d j : Nat) (F : List Int),j + d = Ks.length → F.length = j → (∀ v ∈ F,inI v) →
  ∃ l,V1 ⟨ns,Ks.map Kn.str,(j : Int),h0,⟨op,F⟩⟩ = some ⟨h0,⟨op,F ++ l⟩⟩ ∧ okAK (Ks.drop j) l = true ∧ ∀ v ∈ F ++ l,inI v
 | 0,j,F,hd,hF,hw => by
  refine ⟨[],?_,?_,by simpa using hw⟩
  ·rw [V1.eq]; unfold GP; simp only
   rw [List.length_map,show decide ((j : Int) < (Ks.length : Nat)) = false from decide_eq_false (by omega),List.append_nil]; rfl
  ·rw [List.drop_eq_nil_of_le (by omega)]; rfl
 | d + 1,j,F,hd,hF,hw => by
  have hj : j < Ks.length := by omega
  have hj2 : j < (Ks.map Kn.str).length := by rw [List.length_map]; exact hj
  have next : w64 ((j : Int) + 1) = ((j + 1 : Nat) : Int) := by rw [w64_in (by omega) (by omega)]; rfl
  have key : ∀ n : Int,∃ l,((Vy (Ks[j]).str n).bind fun r3 => (bif decide ((F.length + [r3].length) * 8 ≤ most) then some (.inl (⟨ns,Ks.map Kn.str,((j + 1 : Nat) : Int),h0,⟨op,F ++ [r3]⟩⟩ : J8)) else none : Option (J8 ⊕ Wg))).bind (Sum.elim V1 some) = some ⟨h0,⟨op,F ++ l⟩⟩ ∧ okAK (Ks.drop j) l = true ∧ ∀ v ∈ F ++ l,inI v := by
   intro n
   obtain ⟨v,e,hv,hb⟩ := Qme (Ks[j]) n
   obtain ⟨l,e2,ho,hw2⟩ := make_l Ks ns op h0 hK d (j + 1) (F ++ [v]) (by omega) (by simp [hF]) (by
    intro x hx
    rcases List.mem_append.1 hx with h | h
    ·exact hw x h
    ·rw [List.mem_singleton.1 h]; exact hb)
   rw [e,Option.bind_some,show decide ((F.length + [v].length) * 8 ≤ most) = true from decide_eq_true (by rw [List.length_singleton]; unfold most; omega),cond_true,Option.bind_some,Sum.elim_inl]
   refine ⟨v :: l,?_,?_,?_⟩
   ·rw [e2,List.append_assoc]; rfl
   ·rw [List.drop_eq_getElem_cons hj]; simp only [okAK,hv,ho,Bool.and_self]
   ·rw [List.append_assoc] at hw2; exact hw2
  rw [V1.eq]; unfold GP; simp only
  rw [show decide ((j : Int) < ((Ks.map Kn.str).length : Nat)) = true from decide_eq_true (by omega),cond_true,show decide (0 ≤ (j : Int)) = true from decide_eq_true (by omega),cond_true,cond_true,Int.toNat_natCast,List.getElem?_eq_getElem hj2,List.getElem_map,next]
  by_cases c : (j : Int) < (ns.length : Nat)
  ·rw [decide_eq_true c,cond_true,List.getElem?_eq_getElem (show j < ns.length by omega),Option.bind_some,Option.bind_some]
   exact key _
  ·rw [decide_eq_false c,cond_false,Option.bind_some]
   exact key _
theorem fin_op (op : Int) : ∃ i : Nat,op % 66 = (i : Int) ∧ i < 66 := ⟨(op % 66).toNat,by omega,by omega⟩
theorem Qqu (op : Int) (ns : List Int) : ∃ (i : Nat) (l : List Int),i < 66 ∧ YP op ns = some ((i : Int),l) ∧ okAK (ks i) l = true ∧ ∀ v ∈ l,inI v := by
 obtain ⟨i,hi,h66⟩ := fin_op op
 obtain ⟨q,q1,q2,q3,q4,q5⟩ := Qde h66
 have hk := ks_len i
 obtain ⟨l,e,ho,hw⟩ := make_l (ks i) ns (i : Int) ⟨0,[]⟩ (by omega) (ks i).length 0 [] (by omega) rfl (fun v hv => nomatch hv)
 refine ⟨i,l,h66,?_,ho,by simpa using hw⟩
 rw [YP.eq]; unfold Qcj
 rw [Er op 66 (by decide) (by decide),Option.bind_some,hi,q4,Option.bind_some,q5,Option.bind_some]
 have e' : V1 ⟨ns,(ks i).map Kn.str,0,⟨0,[]⟩,⟨(i : Int),[]⟩⟩ = some ⟨⟨0,[]⟩,⟨(i : Int),[] ++ l⟩⟩ := e
 rw [e',Option.bind_some,List.nil_append]
theorem enc_of {i : Nat} {l : List Int} (h : i < 66) (ho : okAK (ks i) l = true) : enc (i : Int) l = some (orA (bs i) (ks i) l) := by
 unfold enc; rw [Int.toNat_natCast,if_pos ⟨by omega,ho⟩]
end Go.Ab
set_option maxRecDepth 100000
namespace Go.Ab
end Go.Ab
namespace Go.Ab
def ba (l : List UInt8) : ByteArray := ⟨l.toArray⟩
theorem bl_ba (l : List UInt8) : bl (ba l) = l := by simp [bl,ba]
theorem ba_bl (s : ByteArray) : ba (bl s) = s := by cases s; simp [bl,ba]
theorem QL (l : List UInt8) : (ba l).size = l.length := by rw [SV,bl_ba]
theorem X4 (l : List UInt8) (i j : Nat) : (ba l).extract i j = ba ((l.take j).drop i) := by rw [← ba_bl ((ba l).extract i j),Qlk,bl_ba]
theorem JN (a b : List UInt8) : ba a ++ ba b = ba (a ++ b) := by rw [← ba_bl (ba a ++ ba b),Qmx,bl_ba,bl_ba]
theorem EM (l : List UInt8) (i : Nat) (d : UInt8) : (ba l).data.getD i d = l.getD i d := by rw [QpU,bl_ba]
theorem eqS_ba (a b : List UInt8) : eqS (ba a) (ba b) = decide (a = b) := by rw [Qlj,bl_ba,bl_ba]
def isD (b : UInt8) : Bool := decide (48 ≤ b.toNat ∧ b.toNat ≤ 57)
def isS (b : UInt8) : Bool := decide (97 ≤ b.toNat ∧ b.toNat ≤ 122 ∨ b.toNat = 95)
def isI (b : UInt8) : Bool := isS b || isD b
def isH (b : UInt8) : Bool := isD b || decide (97 ≤ b.toNat ∧ b.toNat ≤ 102)
theorem Et {p : UInt8 → Bool} : ∀ (s : List UInt8) (i : Nat) (hi : i ≤ s.length),(s.take i).all p = true → (∀ h : i < s.length,p s[i] = false) → s.takeWhile p = s.take i
 | s,0,_,_,h => by
  cases s with
  | nil => rfl
  | cons b s => have := h (by simp); simp at this; simp [this]
 | [],i + 1,hi,_,_ => by simp at hi
 | b :: s,i + 1,hi,ha,h => by
  simp only [List.take_succ_cons,List.all_cons,Bool.and_eq_true] at ha
  simp only [List.take_succ_cons,List.takeWhile_cons,ha.1,if_true]
  rw [Et s i (by simpa using hi) ha.2 (fun hl => h (by simp only [List.length_cons]; omega))]
theorem QhU {p : UInt8 → Bool} {s : List UInt8} {i : Nat} (h : i < s.length) (ha : (s.take i).all p = true) (hp : p s[i] = true) : (s.take (i + 1)).all p = true := by
 rw [List.take_succ_eq_append_getElem h,List.all_append,ha]; simp [hp]
def wordB (w : List UInt8) : Bool := match w with
 | [] => false
 | c :: t => decide (t.length < 12) && (!isD c && (decide ((c :: t).takeWhile isI = c :: t) && (decide (c ≠ 114) || (decide (t = []) || !decide (t.takeWhile isD = t)))))
theorem Fw {p : UInt8 → Bool} {a r : List UInt8} (ha : a.all p = true) (hr : ∀ c t,r = c :: t → p c = false) : (a ++ r).takeWhile p = a ∧ (a ++ r).dropWhile p = r := by
 induction a with
 | nil =>
  cases r with
  | nil => exact ⟨rfl,rfl⟩
  | cons c t => have := hr c t rfl; simp [List.takeWhile_cons,List.dropWhile_cons,this]
 | cons c a ih =>
  simp only [List.all_cons,Bool.and_eq_true] at ha
  obtain ⟨h1,h2⟩ := ih ha.2
  simp [List.takeWhile_cons,List.dropWhile_cons,ha.1,h1,h2]
theorem Qge (c : UInt8) : isI c = (isS c || isD c) := rfl
theorem QkH {c : UInt8} : isS c = (isI c && !isD c) := by
 rw [Qge]
 cases hd : isD c with
 | false => simp
 | true =>
  have : isS c = false := by
   unfold isD at hd; unfold isS
   have := of_decide_eq_true hd
   exact decide_eq_false (by omega)
  rw [this]; rfl
theorem Qfq {p : UInt8 → Bool} {l : List UInt8} : decide (l.takeWhile p = l) = l.all p := by
 rw [Bool.eq_iff_iff,decide_eq_true_iff]
 constructor
 ·intro e; rw [← e]; exact List.all_takeWhile
 ·intro h
  have := (Fw (r := []) h (fun c t e => by cases e)).1
  rwa [List.append_nil] at this
end Go.Ab
namespace Go.Ab
end Go.Ab
namespace Go.Ab
abbrev S0 : ByteArray := s_
inductive X3 where
 | num (n : Int)
 | nm (s : ByteArray)
 | here
 | neg (x : X3)
 | bin (k : Nat) (x y : X3)
namespace X3
def t : X3 → Qd
 | num n => ⟨1,n,S0,[]⟩
 | nm s => ⟨2,0,s,[]⟩
 | here => ⟨3,0,S0,[]⟩
 | neg x => ⟨4,0,S0,[x.t]⟩
 | bin k x y => ⟨k,0,S0,[x.t,y.t]⟩
def d : X3 → Nat
 | neg x => x.d + 1
 | bin _ x y => max x.d y.d + 1
 | _ => 0
def ok (p : ByteArray → Prop) : X3 → Prop
 | num n => 0 ≤ n ∧ n < 4294967296
 | nm s => p s
 | here => True
 | neg x => x.ok p
 | bin k x y => 5 ≤ k ∧ k ≤ 11 ∧ x.ok p ∧ y.ok p
end X3
theorem eqS_ne {x y : ByteArray} (h : x ≠ y) : eqS x y = false := by rw [Bool.eq_false_iff]; exact fun e => h (WN.1 e)
end Go.Ab
namespace Go.Ab
end Go.Ab
namespace Go.Ab
end Go.Ab
namespace Go.Ab
def dropB (s : List UInt8) : List UInt8 := s.dropWhile (· == 32)
theorem Zu (s : List UInt8) : dropB (dropB s) = dropB s := by
 unfold dropB
 induction s with
 | nil => rfl
 | cons b s ih =>
  by_cases h : b = 32
  ·simp [List.dropWhile_cons,h,ih]
  ·simp [List.dropWhile_cons,h]
def pre (a s : List UInt8) : Bool := decide (s.take a.length = a)
theorem Qqv {a s : List UInt8} (h : pre a s = true) : a.length ≤ s.length ∧ s = a ++ s.drop a.length := by
 have e : s.take a.length = a := of_decide_eq_true h
 refine ⟨?_,?_⟩
 ·have := congrArg List.length e; simp at this; omega
 ·conv => lhs; rw [← List.take_append_drop a.length s,e]
def sg (k : Nat) : List UInt8 := match k with
 | 5 => [43] | 6 => [45] | 7 => [42] | 8 => [38] | 9 => [124] | 10 => [60,60] | 11 => [62,62] | _ => []
def lv (l : Nat) : List Nat := match l with
 | 0 => [9] | 1 => [8] | 2 => [10,11] | 3 => [5,6] | _ => [7]
theorem lv_ok {l k : Nat} (h : k ∈ lv l) : 5 ≤ k ∧ k ≤ 11 := by
 unfold lv at h; split at h <;> simp at h <;> omega
def kindS (ks : List Nat) (t : List UInt8) : Option Nat := ks.find? fun k => pre (sg k) t
end Go.Ab
namespace Go.Ab
abbrev E0 : Qd := ⟨0,0,s_,[]⟩
def dg (b : UInt8) : Nat := if 97 ≤ b.toNat then b.toNat - 97 + 10 else b.toNat - 48
def numv (base : Nat) : List UInt8 → Nat → Option Nat
 | [],n => some n
 | b :: l,n => if n * base + dg b ≥ 4294967296 then none else numv base l (n * base + dg b)
theorem dg_lt {b : UInt8} (h : isH b = true) : dg b < 16 := by
 unfold isH isD at h; unfold dg
 simp only [Bool.or_eq_true,decide_eq_true_eq] at h
 split <;> omega
end Go.Ab
namespace Go.Ab
def tailA (base : Nat) (h r : List UInt8) : Option (X3 × List UInt8) := match numv base h 0 with
 | some n => if r.takeWhile isI = [] then some (.num n,r) else none
 | none => none
def atomS (t : List UInt8) : Option (X3 × List UInt8) :=
 bif pre [48,120] t && !decide ((t.drop 2).takeWhile isH = []) then tailA 16 ((t.drop 2).takeWhile isH) ((t.drop 2).dropWhile isH)
 else bif !decide (t.takeWhile isD = []) then tailA 10 (t.takeWhile isD) (t.dropWhile isD)
 else bif wordB (t.takeWhile isI) then some (.nm (ba (t.takeWhile isI)),t.dropWhile isI) else none
theorem Qgf {a : UInt8} {t : List UInt8} (h : ∀ r,t ≠ a :: r) : pre [a] t = false := by
 cases t with
 | nil => simp [pre]
 | cons b t =>
  have : b ≠ a := fun e => h t (by rw [e])
  simp [pre,this]
end Go.Ab
namespace Go.Ab
end Go.Ab
namespace Go.Ab
theorem Qc0 {b s : List UInt8} (hb : ∀ c ∈ b,c = 32) : dropB (b ++ s) = dropB s := by
 induction b with
 | nil => rfl
 | cons c b ih =>
  have hc := hb c (by simp)
  subst hc
  rw [List.cons_append]
  show List.dropWhile _ _ = _
  rw [List.dropWhile_cons]
  simp only [beq_self_eq_true,if_true]
  exact ih fun c h => hb c (by simp [h])
theorem Xm {c : UInt8} {s : List UInt8} (h : c ≠ 32) : dropB (c :: s) = c :: s := by
 unfold dropB; rw [List.dropWhile_cons]; simp [h]
def isBin : X3 → Bool
 | .bin _ _ _ => true
 | _ => false
def okW (x : X3) : Prop := x.ok fun s => wordB (bl s) = true
theorem Pa {u : Nat} : (Lib.decDigits u).all isD = true ∧ Lib.decDigits u ≠ [] := by
 induction u using Nat.strongRecOn with
 | _ u ih =>
  rw [Lib.decDigits]
  split
  ·refine ⟨?_,by simp⟩
   have : ∀ v : Fin 10,isD (UInt8.ofNat (48 + v.val)) = true := by decide
   simp only [List.all_cons,List.all_nil,Bool.and_true]
   exact this ⟨u,by assumption⟩
  ·have := ih (u / 10) (by omega)
   refine ⟨?_,by simp⟩
   rw [List.all_append,this.1]
   have h2 : ∀ v : Fin 10,isD (UInt8.ofNat (48 + v.val)) = true := by decide
   simp only [List.all_cons,List.all_nil,Bool.and_true,Bool.true_and]
   exact h2 ⟨u % 10,by omega⟩
theorem QdU (base : Nat) (c : UInt8) : ∀ (l : List UInt8) (n : Nat),numv base (l ++ [c]) n = (numv base l n).bind fun m => if m * base + dg c ≥ 4294967296 then none else some (m * base + dg c)
 | [],n => rfl
 | b :: l,n => by
  simp only [List.cons_append,numv]
  split
  ·rfl
  ·exact QdU base c l _
theorem Qpl {u : Nat} (h : u < 4294967296) : numv 10 (Lib.decDigits u) 0 = some u := by
 induction u using Nat.strongRecOn with
 | _ u ih =>
  have dv : ∀ v : Fin 10,dg (UInt8.ofNat (48 + v.val)) = v.val := by decide
  rw [Lib.decDigits]
  split
  ·rename_i hu
   have e := dv ⟨u,hu⟩
   simp only [numv,Nat.zero_mul,Nat.zero_add]
   simp only at e
   rw [e,if_neg (by omega)]
  ·rw [QdU,ih (u / 10) (by omega) (by omega)]
   have e := dv ⟨u % 10,by omega⟩
   simp only at e
   simp only [Option.bind_some,e]
   rw [if_neg (by omega)]; congr 1; omega
theorem Qpm {u : Nat} (h : u < 4294967296) {r : List UInt8} (hr : ∀ c t,r = c :: t → isI c = false) : atomS (Lib.decDigits u ++ r) = some (.num u,r) := by
 obtain ⟨h1,h2⟩ := @Pa u
 have hrD : ∀ c t,r = c :: t → isD c = false := fun c t e => by
  have := hr c t e
  simp only [isI,Bool.or_eq_false_iff] at this; exact this.2
 obtain ⟨e1,e2⟩ := Fw h1 hrD
 unfold atomS
 have hp : pre [48,120] (Lib.decDigits u ++ r) = false := by
  unfold pre
  rw [decide_eq_false]
  intro e
  match hd : Lib.decDigits u,h2 with
  | [c],_ =>
   rw [hd] at e
   cases r with
   | nil => simp at e
   | cons b r =>
    simp at e
    have := hr b r rfl
    rw [e.2] at this; cases this
  | c :: b :: l,_ =>
   rw [hd] at e h1
   simp at e
   simp only [List.all_cons,Bool.and_eq_true] at h1
   have := h1.2.1
   rw [e.2] at this; cases this
 rw [hp,e1,e2]
 simp only [Bool.false_and,cond_false,decide_eq_false h2,Bool.not_false,cond_true]
 unfold tailA
 rw [Qpl h]
 simp only
 have : r.takeWhile isI = [] := by
  cases r with
  | nil => rfl
  | cons b r => simp [List.takeWhile_cons,hr b r rfl]
 rw [if_pos this]
theorem Qfr {w : List UInt8} (h : wordB w = true) : ∃ c t,w = c :: t ∧ isI c = true ∧ isD c = false ∧ w.all isI = true := by
 match w,h with
 | c :: t,h =>
  have hw : wordB (c :: t) = (decide (t.length < 12) && (!isD c && (decide ((c :: t).takeWhile isI = c :: t) && (decide (c ≠ 114) || (decide (t = []) || !decide (t.takeWhile isD = t)))))) := rfl
  rw [hw] at h
  simp only [Bool.and_eq_true,Bool.not_eq_true',decide_eq_true_eq] at h
  have ha : (c :: t).all isI = true := by
   have := List.all_takeWhile (p := isI) (l := c :: t)
   rwa [h.2.2.1] at this
  refine ⟨c,t,rfl,?_,h.2.1,ha⟩
  simp only [List.all_cons,Bool.and_eq_true] at ha; exact ha.1
end Go.Ab
namespace Go.Ab
def lvlOf (k : Nat) : Nat := match k with
 | 9 => 0 | 8 => 1 | 10 => 2 | 11 => 2 | 5 => 3 | 6 => 3 | _ => 4
theorem Qpn {k l : Nat} (hk : 5 ≤ k ∧ k ≤ 11) (hl : l < 5) (s : List UInt8) : kindS (lv l) (sg k ++ s) = if lvlOf k = l then some k else none := by
 have h1 : k = 5 ∨ k = 6 ∨ k = 7 ∨ k = 8 ∨ k = 9 ∨ k = 10 ∨ k = 11 := by omega
 have h2 : l = 0 ∨ l = 1 ∨ l = 2 ∨ l = 3 ∨ l = 4 := by omega
 rcases h1 with rfl | rfl | rfl | rfl | rfl | rfl | rfl <;> rcases h2 with rfl | rfl | rfl | rfl | rfl <;> simp [kindS,lv,sg,pre,lvlOf]
theorem Qka {l : Nat} (hl : l < 5) (s : List UInt8) : kindS (lv l) (41 :: s) = none ∧ kindS (lv l) [] = none := by
 have h2 : l = 0 ∨ l = 1 ∨ l = 2 ∨ l = 3 ∨ l = 4 := by omega
 rcases h2 with rfl | rfl | rfl | rfl | rfl <;> simp [kindS,lv,sg,pre]
end Go.Ab
namespace Go.Ab
def tx : X3 → List UInt8
 | .num n => Lib.decDigits n.toNat
 | .nm s => bl s
 | .here => [46]
 | .neg x => 45 :: (if isBin x then 40 :: (tx x ++ [41]) else tx x)
 | .bin k x y => (if isBin x then 40 :: (tx x ++ [41]) else tx x) ++ (32 :: (sg k ++ (32 :: (if isBin y then 40 :: (tx y ++ [41]) else tx y))))
def txp (x : X3) : List UInt8 := if isBin x then 40 :: (tx x ++ [41]) else tx x
theorem tx_neg (x : X3) : tx (.neg x) = 45 :: txp x := rfl
theorem tx_bin (k : Nat) (x y : X3) : tx (.bin k x y) = txp x ++ (32 :: (sg k ++ (32 :: txp y))) := rfl
theorem EN : ∀ (g u : Nat),u < 10 ^ g → 0 < g → (Lib.decDigits u).length ≤ g
 | 0,u,h,h0 => by omega
 | g + 1,u,h,h0 => by
  rw [Lib.decDigits]
  split
  ·simp
  ·rename_i hu
   cases g with
   | zero => omega
   | succ g =>
    have := EN (g + 1) (u / 10) (by rw [Nat.pow_succ] at h; omega) (by omega)
    simp; omega
theorem nm_len {s : ByteArray} (h : wordB (bl s) = true) : (bl s).length ≤ 12 := by
 match hb : bl s,h with
 | c :: t,h =>
  have hw : wordB (c :: t) = (decide (t.length < 12) && (!isD c && (decide ((c :: t).takeWhile isI = c :: t) && (decide (c ≠ 114) || (decide (t = []) || !decide (t.takeWhile isD = t)))))) := rfl
  rw [hw] at h
  simp only [Bool.and_eq_true,decide_eq_true_eq] at h
  simp only [List.length_cons]; omega
theorem tx_len : ∀ (x : X3),okW x → (tx x).length + 8 ≤ 20 * 2 ^ x.d ∧ (txp x).length + 6 ≤ 20 * 2 ^ x.d := by
 have part : ∀ x : X3,(tx x).length + 8 ≤ 20 * 2 ^ x.d → (txp x).length + 6 ≤ 20 * 2 ^ x.d := by
  intro x h
  unfold txp; split
  ·simp; omega
  ·omega
 intro x hx
 induction x with
 | num n =>
  have hx : 0 ≤ n ∧ n < 4294967296 := hx
  have := EN 10 n.toNat (by simp; omega) (by omega)
  have e : (tx (.num n)).length = (Lib.decDigits n.toNat).length := rfl
  have : (tx (.num n)).length + 8 ≤ 20 * 2 ^ (X3.num n).d := by rw [e]; simp only [X3.d,Nat.pow_zero]; omega
  exact ⟨this,part _ this⟩
 | nm s =>
  have := nm_len (s := s) hx
  have e : (tx (.nm s)).length = (bl s).length := rfl
  have : (tx (.nm s)).length + 8 ≤ 20 * 2 ^ (X3.nm s).d := by rw [e]; simp only [X3.d,Nat.pow_zero]; omega
  exact ⟨this,part _ this⟩
 | here => exact ⟨by decide,by decide⟩
 | neg x ih =>
  have ih := ih hx
  have : (tx (.neg x)).length + 8 ≤ 20 * 2 ^ (X3.neg x).d := by
   rw [tx_neg]; simp only [List.length_cons,X3.d,Nat.pow_succ]
   have : 1 ≤ 2 ^ x.d := Nat.one_le_two_pow
   omega
  exact ⟨this,part _ this⟩
 | bin k x y ihx ihy =>
  have h1 := ihx hx.2.2.1
  have h2 := ihy hx.2.2.2
  have hs : (sg k).length ≤ 2 := by unfold sg; split <;> simp
  have : (tx (.bin k x y)).length + 8 ≤ 20 * 2 ^ (X3.bin k x y).d := by
   rw [tx_bin]; simp only [List.length_append,List.length_cons,X3.d,Nat.pow_succ]
   have e1 : 2 ^ x.d ≤ 2 ^ max x.d y.d := Nat.pow_le_pow_right (by decide) (Nat.le_max_left _ _)
   have e2 : 2 ^ y.d ≤ 2 ^ max x.d y.d := Nat.pow_le_pow_right (by decide) (Nat.le_max_right _ _)
   omega
  exact ⟨this,part _ this⟩
theorem EO {n : Nat} (h : n ≤ 1000000000) : decide (((n : Nat) : Int) ≤ IntKind.i64.max) = true := decide_eq_true (by rw [show IntKind.i64.max = 9223372036854775807 from by decide]; omega)
theorem guardS (a b : List UInt8) (h : a.length + b.length ≤ 1000000000) : decide ((((ba a).size + (ba b).size : Nat) : Int) ≤ IntKind.i64.max) = true := by rw [QL,QL]; exact EO h
theorem Qbl {k : Nat} (h : 5 ≤ k ∧ k ≤ 11) : Xy (k : Int) = some (ba (sg k),(lvlOf k : Int)) := by
 rw [Xy.eq]; unfold QcK
 have h1 : k = 5 ∨ k = 6 ∨ k = 7 ∨ k = 8 ∨ k = 9 ∨ k = 10 ∨ k = 11 := by omega
 rcases h1 with rfl | rfl | rfl | rfl | rfl | rfl | rfl <;> rfl
theorem u8_in {n : Int} (h1 : 0 ≤ n) (h2 : n ≤ 255) : IntKind.u8.wrap n = n := by
 have e : n % 256 = n := Int.emod_eq_of_lt h1 (by omega)
 unfold IntKind.wrap
 simp [IntKind.bits,IntKind.signed,e]
theorem Qc1 {u : Nat} (h : u < 9223372036854775808) : Jm (u : Int) = some (ba (Lib.decDigits u)) := by
 induction u using Nat.strongRecOn with
 | _ u ih =>
  rw [Jm.eq]; unfold YT
  have c1 : decide ((u : Int) < 0) = false := decide_eq_false (by omega)
  rw [c1,cond_false,Lib.decDigits]
  by_cases hu : u < 10
  ·have c2 : decide ((u : Int) ≥ 10) = false := decide_eq_false (by omega)
   rw [c2,cond_false,dif_pos hu,w64_in (by omega) (by omega),u8_in (by omega) (by omega)]
   simp only [Option.bind_some,listB,List.map_cons,List.map_nil]
   rw [show ((48 : Int) + (u : Int)).toNat = 48 + u from by omega]; rfl
  ·have c2 : decide ((u : Int) ≥ 10) = true := decide_eq_true (by omega)
   have e1 : w64 (Int.tdiv (u : Int) 10) = ((u / 10 : Nat) : Int) := by
    rw [show Int.tdiv (u : Int) 10 = ((u / 10 : Nat) : Int) from by rw [show (10 : Int) = ((10 : Nat) : Int) from rfl,← Int.ofNat_tdiv]]
    exact w64_in (by omega) (by omega)
   have e2 : Int.tmod (u : Int) 10 = ((u % 10 : Nat) : Int) := by rw [show (10 : Int) = ((10 : Nat) : Int) from rfl,← Int.ofNat_tmod]
   have hl1 := EN 19 (u / 10) (by simp; omega) (by omega)
   have hl2 := EN 19 (u % 10) (by simp; omega) (by omega)
   rw [c2,cond_true,dif_neg hu,e1,e2,ih (u / 10) (by omega) (by omega)]
   have e3 : Lib.decDigits (u % 10) = [UInt8.ofNat (48 + u % 10)] := by rw [Lib.decDigits,dif_pos (by omega)]
   simp only [Option.bind_some]
   rw [ih (u % 10) (by omega) (by omega)]
   simp only [Option.bind_some,JN,QL]
   rw [EO (by omega),cond_true,e3]
theorem Qmf : ∀ (x : X3),okW x → x.d ≤ 12 → JB x.t = some (ba (tx x)) ∧ JS x.t = some (ba (txp x)) := by
 have part : ∀ x : X3,okW x → x.d ≤ 12 → JB x.t = some (ba (tx x)) → JS x.t = some (ba (txp x)) := by
  intro x hx hd h
  rw [JS.eq]; unfold Xz
  have hl := (tx_len x hx).1
  have hp : 2 ^ x.d ≤ 2 ^ 12 := Nat.pow_le_pow_right (by decide) hd
  have hp2 : (2 : Nat) ^ 12 = 4096 := rfl
  simp only [h,Option.bind_some]
  cases x with
  | bin k y z =>
   have c1 : ((((X3.bin k y z).t.L.length : Nat) : Int) == 2) = true := rfl
   rw [c1,cond_true,show h_28 = ba [40] from rfl,show h_29 = ba [41] from rfl]
   simp only [JN,QL]
   rw [EO (by simp; omega),cond_true,EO (by simp; omega),cond_true]; rfl
  | _ => simp [X3.t,txp,isBin]
 intro x
 induction x with
 | num n =>
  intro hx hd
  have hx : 0 ≤ n ∧ n < 4294967296 := hx
  have : JB (X3.num n).t = some (ba (tx (.num n))) := by
   obtain ⟨u,rfl⟩ := Int.eq_ofNat_of_zero_le hx.1
   have hL : (X3.num (u : Int)).t = ⟨1,(u : Int),s_,[]⟩ := rfl
   have hT : tx (.num (u : Int)) = Lib.decDigits (u : Int).toNat := rfl
   have c3 : ((1 : Int) == 1) = true := rfl
   rw [JB.eq]; unfold X2
   rw [hL,hT]
   simp only [c3,cond_true,Qc1 (u := u) (by omega),Option.bind_some,Int.toNat_natCast]
  exact ⟨this,part _ hx hd this⟩
 | nm s =>
  intro hx hd
  have : JB (X3.nm s).t = some (ba (tx (.nm s))) := by
   rw [JB.eq]; unfold X2
   show some s = some (ba (bl s)); rw [ba_bl]
  exact ⟨this,part _ hx hd this⟩
 | here =>
  intro hx hd
  have : JB X3.here.t = some (ba (tx .here)) := by rw [JB.eq]; rfl
  exact ⟨this,part _ hx hd this⟩
 | neg x ih =>
  intro hx hd
  have hx' : okW x := hx
  have hd' : x.d + 1 ≤ 12 := hd
  have ih := ih hx' (by omega)
  have hl := (tx_len x hx').2
  have hp : 2 ^ x.d ≤ 2 ^ 12 := Nat.pow_le_pow_right (by decide) (by omega)
  have hp2 : (2 : Nat) ^ 12 = 4096 := rfl
  have : JB (X3.neg x).t = some (ba (tx (.neg x))) := by
   rw [JB.eq]; unfold X2
   have hL : (X3.neg x).t = ⟨4,0,s_,[x.t]⟩ := rfl
   have g0 : ([x.t] : List Qd)[Int.toNat 0]? = some x.t := rfl
   have k1 : ((4 : Int) == 1) = false := rfl
   have k2 : ((4 : Int) == 2) = false := rfl
   have k3 : ((4 : Int) == 3) = false := rfl
   have k4 : ((4 : Int) == 4) = true := rfl
   rw [hL,k1,cond_false,k2,cond_false,k3,cond_false,k4,cond_true,g0]
   simp only [Option.bind_some,ih.2,show h_2d = ba [45] from rfl,JN,QL]
   rw [EO (by simp; omega)]; rfl
  exact ⟨this,part _ hx hd this⟩
 | bin k x y ihx ihy =>
  intro hx hd
  obtain ⟨hk1,hk2,hx',hy'⟩ := id hx
  have hd' : max x.d y.d + 1 ≤ 12 := hd
  have e1 : x.d ≤ max x.d y.d := Nat.le_max_left _ _
  have e2 : y.d ≤ max x.d y.d := Nat.le_max_right _ _
  have ihx := ihx hx' (by omega)
  have ihy := ihy hy' (by omega)
  have hl := (tx_len x hx').2
  have hl2 := (tx_len y hy').2
  have hp : 2 ^ x.d ≤ 2 ^ 12 := Nat.pow_le_pow_right (by decide) (by omega)
  have hp' : 2 ^ y.d ≤ 2 ^ 12 := Nat.pow_le_pow_right (by decide) (by omega)
  have hp2 : (2 : Nat) ^ 12 = 4096 := rfl
  have hs : (sg k).length ≤ 2 := by unfold sg; split <;> simp
  have : JB (X3.bin k x y).t = some (ba (tx (.bin k x y))) := by
   rw [JB.eq]; unfold X2
   have hL : (X3.bin k x y).t = ⟨k,0,s_,[x.t,y.t]⟩ := rfl
   have k1 : ((k : Int) == 1) = false := by rw [beq_eq_false_iff_ne]; omega
   have k2 : ((k : Int) == 2) = false := by rw [beq_eq_false_iff_ne]; omega
   have k3 : ((k : Int) == 3) = false := by rw [beq_eq_false_iff_ne]; omega
   have k4 : ((k : Int) == 4) = false := by rw [beq_eq_false_iff_ne]; omega
   have g0 : ([x.t,y.t] : List Qd)[Int.toNat 0]? = some x.t := rfl
   have g1 : ([x.t,y.t] : List Qd)[Int.toNat 1]? = some y.t := rfl
   rw [hL,k1,cond_false,k2,cond_false,k3,cond_false,k4,cond_false,Qbl ⟨hk1,hk2⟩,g0,g1,Option.bind_some,Option.bind_some,ihx.2,Option.bind_some,show h_20 = ba [32] from rfl]
   rw [guardS (txp x) [32] (by simp; omega),cond_true,JN (txp x) [32],guardS (txp x ++ [32]) (sg k) (by simp; omega),cond_true,JN (txp x ++ [32]) (sg k)]
   rw [guardS (txp x ++ [32] ++ sg k) [32] (by simp; omega),cond_true,Option.bind_some,ihy.2,Option.bind_some,JN (txp x ++ [32] ++ sg k) [32]]
   rw [guardS (txp x ++ [32] ++ sg k ++ [32]) (txp y) (by simp; omega),cond_true,JN,tx_bin]
   simp only [List.append_assoc,List.singleton_append,List.cons_append,List.nil_append]
  exact ⟨this,part _ hx hd this⟩
end Go.Ab
set_option maxRecDepth 100000
namespace Go.Ab
theorem Qeo : ∀ (g u : Nat),u < 10 ^ g → 0 < g → (Lib.decDigits u).length ≤ g
 | 0,u,h,h0 => by omega
 | g + 1,u,h,h0 => by
  rw [Lib.decDigits]
  split
  ·simp
  ·rename_i hu
   cases g with
   | zero => omega
   | succ g =>
    have := Qeo (g + 1) (u / 10) (by rw [Nat.pow_succ] at h; omega) (by omega)
    simp; omega
def dgK (v : Int) : List UInt8 := Lib.itoa v
abbrev small (v : Int) : Prop := -1099511627776 ≤ v ∧ v ≤ 1099511627776
theorem dg_len {v : Int} (h : small v) : (dgK v).length ≤ 14 := by
 unfold dgK Lib.itoa
 split
 ·have := Qeo 13 v.natAbs (by omega) (by omega)
  simp only [List.length_cons]; omega
 ·have := Qeo 13 v.toNat (by omega) (by omega)
  omega
theorem Pb {v : Int} (h : small v) : U2 v = some (ba (dgK v)) := by
 show itoaQ v = _
 rw [Qim]; unfold itoaS
 rw [if_pos (by omega)]; rfl
def Kn.isR : Kn → Bool
 | .X | .Y | .D | .A | .B => true
 | _ => false
def Kn.isT : Kn → Bool
 | .T8 | .T15 | .T24 => true
 | _ => false
def opT (K : Kn) (v : Int) : List UInt8 := if K.isR then 114 :: dgK v else if K.isT then (if v < 0 then [46,32,45,32] ++ dgK (0 - v) else [46,32,43,32] ++ dgK v) else dgK v
theorem QkI (K : Kn) : UQ K.str = some K.isR := by cases K <;> exact Jj (UQ.cv _) 40 (by kernel_rfl)
theorem con_is (K : Kn) : containsS JE ((h_20 ++ K.str) ++ h_20) = some K.isR := by cases K <;> kernel_rfl
theorem QnK (K : Kn) : decide (((h_20.size + K.str.size : Nat) : Int) ≤ IntKind.i64.max) = true ∧ decide ((((h_20 ++ K.str).size + h_20.size : Nat) : Int) ≤ IntKind.i64.max) = true ∧ decide (0 ≤ (0 : Int) ∧ 0 < ((K.str.size : Nat) : Int)) = true ∧ (((K.str.data.getD (Int.toNat 0) 0).toNat : Int) == 84) = K.isT := by cases K <;> exact ⟨by kernel_rfl,by kernel_rfl,by kernel_rfl,by kernel_rfl⟩
theorem Qjh (K : Kn) (v : Int) (h : small v) : WE K.str v = some (ba (opT K v)) := by
 obtain ⟨h1,h2,h3,h4⟩ := QnK K
 have hl := dg_len h
 rw [WE.eq]; unfold FK
 rw [h1,cond_true,h2,cond_true,show Wz JE ((h_20 ++ K.str) ++ h_20) = _ from con_is K,Option.bind_some]
 unfold opT
 cases K.isR with
 | true => rw [cond_true,Pb h,Option.bind_some,show s_r = ba [114] from rfl,guardS _ _ (by simp only [List.length_singleton]; omega),cond_true,JN,if_pos rfl]; rfl
 | false =>
  rw [cond_false,h3,cond_true,h4,if_neg (by decide)]
  cases K.isT with
  | false => rw [cond_false,Pb h,Option.bind_some,if_neg (by decide)]
  | true =>
   rw [cond_true,if_pos rfl]
   by_cases c : v < 0
   ·have hl' := dg_len (v := 0 - v) (by omega)
    rw [decide_eq_true c,cond_true,if_pos c,w64_in (n := 0 - v) (by omega) (by omega),Pb (v := 0 - v) (by omega),Option.bind_some,show Gx = ba [46,32,45,32] from rfl,guardS _ _ (by simp only [List.length_cons,List.length_nil]; omega),cond_true,JN]
   ·rw [decide_eq_false c,cond_false,if_neg c,Pb h,Option.bind_some,show Gw = ba [46,32,43,32] from rfl,guardS _ _ (by simp only [List.length_cons,List.length_nil]; omega),cond_true,JN]
theorem Qqw (K : Kn) (v : Int) (h : small v) : (opT K v).length ≤ 18 := by
 have h1 := dg_len h
 have h2 := dg_len (v := 0 - v) (by omega)
 unfold opT
 split
 ·simp only [List.length_cons]; omega
 ·split
  ·split <;> simp only [List.length_append,List.length_cons,List.length_nil] <;> omega
  ·omega
def nmL : List (List UInt8) := [[115,101,95,105,108,108,101,103,97,108],[115,101,95,105,115,121,110,99],[115,101,95,115,99],[115,101,95,98,108,114],[115,101,95,98,99,116,114],[115,101,95,110,111,116],[115,101,95,110,101,103],[115,101,95,109,102,108,114],[115,101,95,109,116,108,114],[115,101,95,109,102,99,116,114],[115,101,95,109,116,99,116,114],[115,101,95,101,120,116,122,98],[115,101,95,101,120,116,115,98],[115,101,95,101,120,116,122,104],[115,101,95,101,120,116,115,104],[115,101,95,109,114],[115,101,95,97,100,100],[115,101,95,109,117,108,108,119],[115,101,95,115,117,98],[115,101,95,99,109,112],[115,101,95,99,109,112,108],[115,101,95,97,100,100,105],[115,101,95,99,109,112,108,105],[115,101,95,115,117,98,105],[115,101,95,99,109,112,105],[115,101,95,111,114],[115,101,95,97,110,100,99],[115,101,95,97,110,100],[115,101,95,108,105],[115,101,95,98,99,108,114,105],[115,101,95,98,115,101,116,105],[115,101,95,98,116,115,116,105],[115,101,95,115,114,119,105],[115,101,95,115,108,119,105],[115,101,95,108,98,122],[115,101,95,115,116,98],[115,101,95,108,104,122],[115,101,95,115,116,104],[115,101,95,108,119,122],[115,101,95,115,116,119],[115,101,95,98,99],[115,101,95,98],[115,101,95,98,108],[101,95,97,100,100,49,54,105],[101,95,97,100,100,105],[101,95,97,110,100,105],[101,95,111,114,105],[101,95,120,111,114,105],[101,95,108,105],[101,95,108,98,122],[101,95,115,116,98],[101,95,108,104,97],[101,95,108,119,122],[101,95,115,116,119],[101,95,108,104,122],[101,95,115,116,104],[101,95,98],[101,95,98,108],[101,95,98,99],[101,95,98,99,108],[97,100,100],[115,117,98,102],[109,117,108,108,119],[97,110,100],[111,114],[120,111,114]]
def nmB (k : Nat) : List UInt8 := nmL.getD k []
noncomputable def nmChk (k : Nat) : Bool := match Ja.s 2000 k,Ur.s 2000 k,D0[k]? with
 | some n,some kd,some q => eqS n (ba (nmB k)) && eqS q.Name n && decide ((nmB k).length ≤ 10) && (match fieldsS kd with | some l => eqL l ((ks k).map Kn.str) | none => false)
 | _,_,_ => false
theorem nm_all : ((List.range 66).all nmChk) = true := by kernel_rfl
theorem nm_is {k : Nat} (h : k < 66) : Ja k = some (ba (nmB k)) ∧ WZ k = some (ba (nmB k)) ∧ (nmB k).length ≤ 10 ∧ ∃ kd,Ur k = some kd ∧ Jv kd = some ((ks k).map Kn.str) := by
 have h' := List.all_eq_true.1 nm_all k (List.mem_range.2 h)
 unfold nmChk at h'
 split at h'
 ·rename_i n kd q e1 e2 e3
  simp only [Bool.and_eq_true,decide_eq_true_eq] at h'
  obtain ⟨⟨⟨h1,h2⟩,h3⟩,h4⟩ := h'
  split at h4
  ·rename_i l hl
   have a1 := WN.1 h1
   have a2 := WN.1 h2
   refine ⟨by rw [← a1]; exact Jj (Ja.cv _) _ e1,?_,h3,kd,Jj (Ur.cv _) _ e2,?_⟩
   ·rw [WZ.eq]; unfold Fv
    rw [Qga e3,Option.bind_some,← a1,← a2]
   ·show fieldsS kd = _
    rw [hl,eqL_eq h4]
  ·cases h4
 ·cases h'
def opsL (k : Nat) (l : List Int) : List (List UInt8) := List.zipWith opT (ks k) l
def lineI (k : Nat) (l : List Int) : List UInt8 := nmB k ++ (match opsL k l with | [] => [] | a :: t => 32 :: (a ++ (t.flatMap fun x => 44 :: 32 :: x)))
theorem QkJ (a : List UInt8) : ∀ t : List (List UInt8),Lib.join (a :: t) [44,32] = a ++ (t.flatMap fun x => 44 :: 32 :: x)
 | [] => by simp [Lib.join]
 | b :: t => by
  have ih := QkJ b t
  unfold Lib.join at ih ⊢
  rw [List.intercalate_cons_cons,ih]; simp
end Go.Ab
set_option maxRecDepth 100000
namespace Go.Ab
theorem ins_l (Ks : List Kn) (x : Qi) (hK : Ks.length ≤ 8) (hl : x.F.length = Ks.length) (hs : ∀ v ∈ x.F,small v) : ∀ (d j : Nat) (out : List ByteArray),j + d = Ks.length → out.length = j →
  Jw ⟨Ks.map Kn.str,Ks.length,j,x,out⟩ = some ⟨x,out ++ ((List.zipWith opT (Ks.drop j) (x.F.drop j)).map ba)⟩
 | 0,j,out,hd,ho => by
  rw [Jw.eq]; unfold Xk; simp only
  rw [show decide ((j : Int) < Ks.length) = false from decide_eq_false (by omega),List.drop_eq_nil_of_le (by omega),List.drop_eq_nil_of_le (by omega)]; simp
 | d + 1,j,out,hd,ho => by
  have hj : j < Ks.length := by omega
  have hj2 : j < x.F.length := by omega
  have hj3 : j < (Ks.map Kn.str).length := by rw [List.length_map]; exact hj
  have ih := ins_l Ks x hK hl hs d (j + 1) (out ++ [ba (opT Ks[j] x.F[j])]) (by omega) (by simp [ho])
  rw [Jw.eq]; unfold Xk; simp only
  rw [show decide ((j : Int) < Ks.length) = true from decide_eq_true (by omega),cond_true,show decide (0 ≤ (j : Int)) = true from decide_eq_true (by omega),cond_true,Int.toNat_natCast,List.getElem?_eq_getElem hj3,Option.bind_some,List.getElem?_eq_getElem hj2,Option.bind_some,List.getElem_map,Qjh _ _ (hs _ (List.getElem_mem hj2)),Option.bind_some,
   show decide ((out.length + [ba (opT Ks[j] x.F[j])].length) * 16 ≤ most) = true from decide_eq_true (by rw [List.length_singleton]; unfold most; omega),cond_true,w64_in (n := (j : Int) + 1) (by omega) (by omega),Option.bind_some,Sum.elim_inl,List.drop_eq_getElem_cons hj,List.drop_eq_getElem_cons hj2]
  refine Eq.trans ih ?_
  rw [List.zipWith_cons_cons,List.map_cons,List.append_assoc]; rfl
def sepT (j : Nat) : List UInt8 := if j = 0 then [32] else [44,32]
def goT : Nat → List (List UInt8) → List UInt8
 | _,[] => []
 | j,a :: t => sepT j ++ a ++ goT (j + 1) t
theorem Qep (j : Nat) : ∀ t : List (List UInt8),goT (j + 1) t = t.flatMap fun x => 44 :: 32 :: x
 | [] => rfl
 | a :: t => by
  unfold goT
  rw [Qep (j + 1) t,List.flatMap_cons]; simp [sepT]
theorem QkK (k : Nat) (l : List Int) : lineI k l = nmB k ++ goT 0 (opsL k l) := by
 unfold lineI
 cases opsL k l with
 | nil => rfl
 | cons a t =>
  unfold goT
  rw [Qep]; simp [sepT]
theorem QkL {n : Nat} : ∀ {Ks : List Kn} {l : List Int},(∀ v ∈ l,small v) → ∀ y ∈ List.zipWith opT Ks l,y.length ≤ 18
 | [],_,_,y,h => by simp at h
 | K :: Ks,[],_,y,h => by simp at h
 | K :: Ks,v :: l,hs,y,h => by
  rw [List.zipWith_cons_cons] at h
  rcases List.mem_cons.1 h with rfl | h
  ·exact Qqw K v (hs v (List.mem_cons_self ..))
  ·exact QkL (n := n) (fun v hv => hs v (List.mem_cons_of_mem _ hv)) y h
theorem Qgg : ∀ (t : List (List UInt8)) (j : Nat),(∀ y ∈ t,y.length ≤ 18) → (goT j t).length ≤ 20 * t.length
 | [],_,_ => by simp [goT]
 | a :: t,j,h => by
  have ih := Qgg t (j + 1) (fun y hy => h y (List.mem_cons_of_mem _ hy))
  have := h a (List.mem_cons_self ..)
  have hs : (sepT j).length ≤ 2 := by unfold sepT; split <;> simp
  unfold goT
  simp only [List.length_append,List.length_cons]; omega
def okLn (k : Nat) (l : List Int) : Prop := k < 66 ∧ l.length = (ks k).length ∧ ∀ v ∈ l,small v
theorem QkM {k : Nat} {l : List Int} (h : okLn k l) : (opsL k l).length = (ks k).length ∧ ∀ y ∈ opsL k l,y.length ≤ 18 := by
 refine ⟨?_,QkL (n := 0) h.2.2⟩
 unfold opsL; rw [List.length_zipWith,h.2.1]; omega
theorem Qji {k : Nat} {l : List Int} (h : okLn k l) : (lineI k l).length ≤ 70 := by
 obtain ⟨h1,h2⟩ := QkM h
 have := Qgg (opsL k l) 0 h2
 have hk := ks_len k
 have hn := (nm_is h.1).2.2.1
 rw [QkK,List.length_append]; omega
theorem Qqx (t : List (List UInt8)) : (t.map ba).map (fun s : ByteArray => s.data.toList) = t := by
 rw [List.map_map]
 conv => rhs; rw [← List.map_id t]
 exact List.map_congr_left fun a _ => bl_ba a
theorem Qqy {k : Nat} {l : List Int} (h : okLn k l) : ∃ kd,Ur k = some kd ∧ Jv kd = some ((ks k).map Kn.str) := (nm_is h.1).2.2.2
theorem Qqz {k : Nat} {l : List Int} (h : okLn k l) : U3 ⟨(k : Int),l⟩ = (bif ((((((opsL k l).map ba).length) : Nat) : Int) == 0) then (Ja k).bind fun r4 => some r4 else (Ja k).bind fun r5 => bif (decide (((r5.size + h_20.size : Nat) : Int) ≤ IntKind.i64.max)) then (Wd ((opsL k l).map ba) XC).bind fun r6 => (bif (decide ((((r5 ++ h_20).size + r6.size : Nat) : Int) ≤ IntKind.i64.max)) then some ((r5 ++ h_20) ++ r6) else none) else none) := by
 obtain ⟨kd,n4,n5⟩ := Qqy h
 have hk := ks_len k
 rw [U3.eq]; unfold Zx
 simp only
 rw [n4,Option.bind_some,n5,Option.bind_some,List.length_map]
 have e := ins_l (ks k) ⟨(k : Int),l⟩ (by omega) h.2.1 h.2.2 (ks k).length 0 [] (by omega) rfl
 rw [List.drop_zero,List.drop_zero,List.nil_append] at e
 have e' : Jw ⟨(ks k).map Kn.str,(((ks k).length : Nat) : Int),0,⟨(k : Int),l⟩,[]⟩ = some ⟨⟨(k : Int),l⟩,(opsL k l).map ba⟩ := e
 rw [e',Option.bind_some]
theorem jn (a : List UInt8) (t : List (List UInt8)) (h1 : (a :: t).length ≤ 100) (hq : (a ++ (t.flatMap fun x => 44 :: 32 :: x)).length ≤ 100) : Wd ((a :: t).map ba) XC = some (ba (a ++ (t.flatMap fun x => 44 :: 32 :: x))) := by
 show joinS _ _ = _
 unfold joinS
 have hs : XC.data.toList = [44,32] := rfl
 rw [Qqx,hs,QkJ,if_pos ⟨by rw [List.length_map]; omega,by omega⟩]; rfl
theorem tl (N : List UInt8) (a : List UInt8) (t : List (List UInt8)) (hN : N.length ≤ 10) (h1 : (a :: t).length ≤ 100) (hq : (a ++ (t.flatMap fun x => 44 :: 32 :: x)).length ≤ 100) (hj : Wd ((a :: t).map ba) XC = some (ba (a ++ (t.flatMap fun x => 44 :: 32 :: x)))) (k : Int) (n1 : Ja k = some (ba N)) :
 (bif ((((((a :: t).map ba).length) : Nat) : Int) == 0) then (Ja k).bind fun r4 => some r4 else (Ja k).bind fun r5 => bif (decide (((r5.size + h_20.size : Nat) : Int) ≤ IntKind.i64.max)) then (Wd ((a :: t).map ba) XC).bind fun r6 => (bif (decide ((((r5 ++ h_20).size + r6.size : Nat) : Int) ≤ IntKind.i64.max)) then some ((r5 ++ h_20) ++ r6) else none) else none) = some (ba (N ++ [32] ++ (a ++ (t.flatMap fun x => 44 :: 32 :: x)))) := by
 rw [show (((((a :: t).map ba).length : Nat) : Int) == 0) = false from beq_eq_false_iff_ne.2 (by simp only [List.length_map,List.length_cons]; omega),cond_false,n1,Option.bind_some,show h_20 = ba [32] from rfl,guardS N [32] (by simp only [List.length_singleton]; omega),cond_true,hj,Option.bind_some,JN,guardS _ _ (by simp only [List.length_append,List.length_singleton] at hq ⊢; omega),cond_true,JN]
theorem QnL (N : List UInt8) (k : Int) (n1 : Ja k = some (ba N)) :
 (bif (((((([] : List (List UInt8)).map ba).length) : Nat) : Int) == 0) then (Ja k).bind fun r4 => some r4 else (Ja k).bind fun r5 => bif (decide (((r5.size + h_20.size : Nat) : Int) ≤ IntKind.i64.max)) then (Wd (([] : List (List UInt8)).map ba) XC).bind fun r6 => (bif (decide ((((r5 ++ h_20).size + r6.size : Nat) : Int) ≤ IntKind.i64.max)) then some ((r5 ++ h_20) ++ r6) else none) else none) = some (ba N) := by
 rw [n1]; rfl
theorem go_len (a : List UInt8) (t : List (List UInt8)) : goT 0 (a :: t) = 32 :: (a ++ (t.flatMap fun x => 44 :: 32 :: x)) := by
 unfold goT; rw [Qep]; simp [sepT]
theorem Qmg {k : Nat} {l : List Int} (h : okLn k l) : U3 ⟨(k : Int),l⟩ = some (ba (lineI k l)) := by
 have n1 := (nm_is h.1).1
 have n3 := (nm_is h.1).2.2.1
 have hk := ks_len k
 obtain ⟨o1,o2⟩ := QkM h
 have hg := Qgg (opsL k l) 0 o2
 rw [Qqz h,QkK]
 generalize nmB k = N at n1 n3
 generalize opsL k l = L at o1 hg
 cases L with
 | nil =>
  have e : N ++ goT 0 [] = N := by rw [goT,List.append_nil]
  rw [e]; exact QnL N k n1
 | cons a t =>
  rw [go_len] at hg ⊢
  simp only [List.length_cons] at o1 hg
  have hq : (a ++ (t.flatMap fun x => 44 :: 32 :: x)).length ≤ 100 := by omega
  have hj := jn a t (by simp only [List.length_cons]; omega) hq
  have e := tl N a t n3 (by simp only [List.length_cons]; omega) hq hj k n1
  rw [List.append_assoc] at e
  exact e
end Go.Ab
set_option maxRecDepth 100000
namespace Go.Ab
theorem Qjj (n : Nat) (s : Int) : ∀ (d i k : Nat),i + d = 66 → dgo n s d i = some k → k < 66 ∧ sz k = s ∧ enc (k : Int) (vals k n) = some n
 | 0,i,k,hd,h => nomatch h
 | d + 1,i,k,hd,h => by
  rw [Qjf] at h
  split at h
  ·rename_i c; cases h; exact ⟨by omega,c.1,c.2⟩
  ·exact Qjj n s d (i + 1) k (by omega) h
theorem Zv {b : List Int} (hb : U8 b) (n : Nat) : U8 (b.drop n) := fun x hx => hb x (List.mem_of_mem_drop hx)
theorem Qkb {x : Int} (h : 0 ≤ x ∧ x < 4294967296) : small (sgn32 x) := by
 unfold sgn32; split <;> constructor <;> omega
theorem QnM (f s u : Int) (hu : byt u) : small (bkN f s u) := Qkb (Qbf _ _ hu)
theorem QnN (K : Kn) (n : Int) (w0 : inU n) : small (K.val n) := by
 cases K
 case C8 => exact QnM _ _ _ ⟨by omega,by omega⟩
 all_goals
  show -1099511627776 ≤ _ ∧ _ ≤ 1099511627776
  simp only [Kn.val,sgK]
  omega
theorem Qgh {k n : Nat} (hk : k < 66) (hn : n < 4294967296) : okLn k (vals k n) := by
 refine ⟨hk,Qjg k n,fun v hv => ?_⟩
 obtain ⟨K,_,rfl⟩ := List.mem_map.1 hv
 exact QnN K _ ⟨by omega,by omega⟩
def step (b : List Int) : List UInt8 × Nat :=
 match dec b with
 | (x,m,true) => (lineI x.Op.toNat x.F,m.toNat)
 | _ => if b.length = 1 then ([46,98,121,116,101,32] ++ dgK (b.headD 0),1) else ([46,104,97,108,102,32] ++ dgK (b.headD 0 * 256 + (b.drop 1).headD 0),2)
def lsF : Nat → List Int → List (List UInt8)
 | 0,_ => []
 | n + 1,b => if b = [] then [] else (step b).1 :: lsF n (b.drop (step b).2)
def listing (b : List Int) : List (List UInt8) := lsF b.length b
theorem Qc2 (b : List Int) (hb : U8 b) : (∃ (k n : Nat) (s : Int),dec b = (⟨(k : Int),vals k n⟩,s,true) ∧ n < 4294967296 ∧ k < 66 ∧ (s = 2 ∨ s = 4) ∧ s = sz k ∧ s ≤ b.length ∧ enc (k : Int) (vals k n) = some n) ∨ dec b = (z0I,0,false) := by
 unfold dec
 split
 ·rename_i c
  have hs := Qje (b.headD 0)
  generalize szOf (b.headD 0) = s at *
  have hn := wd_32 hb hs c.2
  generalize wd 0 (b.take s.toNat) = n at *
  unfold decW
  cases h : dgo n s 66 0 with
  | none => exact .inr rfl
  | some k =>
   obtain ⟨k1,k2,k3⟩ := Qjj n s 66 0 k (by omega) h
   exact .inl ⟨k,n,s,rfl,hn,k1,hs,k2.symm,c.2,k3⟩
 ·exact .inr rfl
theorem Pc (b : List Int) (hb : U8 b) (h0 : b ≠ []) : 1 ≤ (step b).2 ∧ (step b).2 ≤ b.length ∧ (step b).1.length ≤ 70 := by
 have hpos : 0 < b.length := List.length_pos_iff.2 h0
 unfold step
 rcases Qc2 b hb with ⟨k,n,s,h,h1,h2,h3,h3',h4,_⟩ | h
 ·rw [h]; simp only
  rw [Int.toNat_natCast]
  exact ⟨by omega,by omega,Qji (Qgh h2 h1)⟩
 ·rw [h]; simp only
  have hx : ∀ l : List Int,U8 l → byt (l.headD 0) := fun l hl => by
   cases l with
   | nil => exact ⟨by decide,by decide⟩
   | cons a t => exact hl a (List.mem_cons_self ..)
  have hx0 := hx b hb
  have hx1 := hx (b.drop 1) (Zv hb 1)
  have a0 := hx0.1; have a1 := hx0.2; have a2 := hx1.1; have a3 := hx1.2
  by_cases c : b.length = 1
  ·rw [if_pos c]
   have := dg_len (v := b.headD 0) (by omega)
   simp only [List.length_append,List.length_cons,List.length_nil]; omega
  ·rw [if_neg c]
   have := dg_len (v := b.headD 0 * 256 + (b.drop 1).headD 0) (by omega)
   simp only [List.length_append,List.length_cons,List.length_nil]; omega
theorem QkN : ∀ (n m : Nat) (b : List Int),U8 b → b.length ≤ n → b.length ≤ m → lsF n b = lsF m b
 | 0,0,_,_,_,_ => rfl
 | 0,m + 1,b,_,h,_ => by
  have : b = [] := List.eq_nil_of_length_eq_zero (by omega)
  subst this; rfl
 | n + 1,0,b,_,_,h => by
  have : b = [] := List.eq_nil_of_length_eq_zero (by omega)
  subst this; rfl
 | n + 1,m + 1,b,hb,h1,h2 => by
  unfold lsF
  by_cases c : b = []
  ·rw [if_pos c,if_pos c]
  ·obtain ⟨s1,s2,_⟩ := Pc b hb c
   rw [if_neg c,if_neg c,QkN n m (b.drop (step b).2) (Zv hb _) (by rw [List.length_drop]; omega) (by rw [List.length_drop]; omega)]
theorem PY {b : List Int} (hb : U8 b) (h : b ≠ []) : listing b = (step b).1 :: listing (b.drop (step b).2) := by
 obtain ⟨s1,s2,_⟩ := Pc b hb h
 have hpos : 0 < b.length := List.length_pos_iff.2 h
 obtain ⟨n,hn⟩ : ∃ n,b.length = n + 1 := ⟨b.length - 1,by omega⟩
 unfold listing
 rw [hn,lsF,if_neg h,QkN n (b.drop (step b).2).length (b.drop (step b).2) (Zv hb _) (by rw [List.length_drop]; omega) (Nat.le_refl _)]
theorem SK : listing [] = [] := rfl
theorem Qpo {x y : Int} (hx : byt x) (hy : byt y) : orI .i64 (shlI .i64 (w64 x) 8) (w64 y) = x * 256 + y := by
 have a0 := hx.1; have a1 := hx.2; have b0 := hy.1; have b1 := hy.2
 rw [w64_in (n := x) (by omega) (by omega),w64_in (n := y) (by omega) (by omega),Qda (x := x) ⟨by omega,by omega⟩ hy]
theorem Qc3 : JG ⟨[]⟩ = some (s_,false,⟨[]⟩) := by
 rw [JG.eq]; rfl
theorem next_1 (n : Nat) (s : ByteArray) (b : List Int) (h : n ≤ b.length) : J0 (n : Int) s ⟨b⟩ = some (s,true,⟨b.drop n⟩) := by
 rw [J0.eq]; unfold YV
 simp only
 rw [show decide (0 ≤ (n : Int) ∧ (n : Int) ≤ (b.length : Nat) ∧ ((b.length : Nat) : Int) ≤ (b.length : Nat)) = true from decide_eq_true (by omega),cond_true,Int.toNat_natCast,List.take_of_length_le (by rw [List.length_drop]; omega)]
theorem heads {b : List Int} (h : 1 < b.length) : b[0]? = some (b.headD 0) ∧ b[1]? = some ((b.drop 1).headD 0) := by
 match b,h with
 | x :: y :: t,_ => exact ⟨rfl,rfl⟩
theorem Qbm {b : List Int} (hb : U8 b) : byt (b.headD 0) := by
 cases b with
 | nil => exact ⟨by decide,by decide⟩
 | cons a t => exact hb a (List.mem_cons_self ..)
theorem QkO (b : List Int) (hb : U8 b) (h0 : b ≠ []) : JG ⟨b⟩ = some (ba (step b).1,true,⟨b.drop (step b).2⟩) := by
 have hpos : 0 < b.length := List.length_pos_iff.2 h0
 rw [JG.eq]; unfold Zy
 simp only
 rw [show (((b.length : Nat) : Int) == 0) = false from beq_eq_false_iff_ne.2 (by omega),cond_false,QnJ b hb,Option.bind_some]
 unfold step
 rcases Qc2 b hb with ⟨k,n,s,h,h1,h2,h3,h3',h4,_⟩ | h
 ·rw [h]; simp only
  rw [cond_true,Qmg (Qgh h2 h1),Option.bind_some,Int.toNat_natCast]
  have hs : s = ((s.toNat : Nat) : Int) := by omega
  have e := next_1 s.toNat (ba (lineI k (vals k n))) b (by omega)
  rw [← hs] at e
  rw [e]; rfl
 ·rw [h]; simp only
  have hx0 := Qbm hb
  have hx1 := Qbm (Zv hb 1)
  have a0 := hx0.1; have a1 := hx0.2; have a2 := hx1.1; have a3 := hx1.2
  rw [cond_false]
  by_cases c : b.length = 1
  ·have e0 : b[0]? = some (b.headD 0) := by
    cases b with
    | nil => cases c
    | cons a t => rfl
   have hl := dg_len (v := b.headD 0) (by omega)
   rw [show (((b.length : Nat) : Int) == 1) = true from beq_iff_eq.2 (by omega),cond_true,show Int.toNat 0 = 0 from rfl,e0,Option.bind_some,w64_in (n := b.headD 0) (by omega) (by omega),Pb (by omega),Option.bind_some,show Yh = ba [46,98,121,116,101,32] from rfl,guardS _ _ (by simp only [List.length_cons,List.length_nil]; omega),cond_true,JN,if_pos c]
   have e := next_1 1 (ba ([46,98,121,116,101,32] ++ dgK (b.headD 0))) b (by omega)
   rw [show ((1 : Nat) : Int) = 1 from rfl] at e
   rw [e]; rfl
  ·obtain ⟨e0,e1⟩ := heads (b := b) (by omega)
   have hl := dg_len (v := b.headD 0 * 256 + (b.drop 1).headD 0) (by omega)
   rw [show (((b.length : Nat) : Int) == 1) = false from beq_eq_false_iff_ne.2 (by omega),cond_false,show Int.toNat 0 = 0 from rfl,show Int.toNat 1 = 1 from rfl,e0,Option.bind_some,e1,Option.bind_some,Qpo hx0 hx1,Pb (by omega),Option.bind_some,show Yi = ba [46,104,97,108,102,32] from rfl,guardS _ _ (by simp only [List.length_cons,List.length_nil]; omega),cond_true,JN,if_neg c]
   have e := next_1 2 (ba ([46,104,97,108,102,32] ++ dgK (b.headD 0 * 256 + (b.drop 1).headD 0))) b (by omega)
   rw [show ((2 : Nat) : Int) = 2 from rfl] at e
   rw [e]; rfl
end Go.Ab
set_option maxRecDepth 100000
namespace Go.Ab
theorem QkP : ∀ (n : Nat) (b : List Int),U8 b → (lsF n b).length ≤ b.length
 | 0,b,_ => Nat.zero_le _
 | n + 1,b,hb => by
  unfold lsF
  by_cases c : b = []
  ·rw [if_pos c]; exact Nat.zero_le _
  ·obtain ⟨s1,s2,_⟩ := Pc b hb c
   have := QkP n (b.drop (step b).2) (Zv hb _)
   rw [List.length_drop] at this
   rw [if_neg c,List.length_cons]; omega
theorem QdV {b : List Int} (hb : U8 b) : (listing b).length ≤ b.length := QkP _ b hb
theorem Qjk {n : Nat} (h : n ≤ 1000000) (k : Nat) (hk : k ≤ 32) : decide (n * k ≤ most) = true := decide_eq_true (by
 have := Nat.mul_le_mul h hk
 unfold most; omega)
theorem Qeq (s : ByteArray) (out : List ByteArray) (r : Qy) : Vs ⟨s,false,r,out⟩ = some ⟨r,out⟩ := by
 rw [Vs.eq]; rfl
theorem each_l : ∀ (n : Nat) (b : List Int) (s : ByteArray) (out : List ByteArray),b.length ≤ n → U8 b → out.length + b.length < 1000000 → Vs ⟨s,true,⟨b⟩,out⟩ = some ⟨⟨[]⟩,out ++ s :: (listing b).map ba⟩ := by
 intro n
 induction n with
 | zero =>
  intro b s out h hb hl
  have : b = [] := List.eq_nil_of_length_eq_zero (by omega)
  subst this
  rw [Vs.eq]; unfold ZV; simp only
  have e1 : Wv s out = some (out ++ [s]) := by
   rw [Wv.eq]; unfold G8
   rw [Qjk (by rw [List.length_singleton]; omega) 16 (by omega),cond_true]
  rw [cond_true,e1,Option.bind_some,Qc3,Option.bind_some,Option.bind_some,Sum.elim_inl,Qeq,SK]; rfl
 | succ n ih =>
  intro b s out h hb hl
  have e1 : Wv s out = some (out ++ [s]) := by
   rw [Wv.eq]; unfold G8
   rw [Qjk (by rw [List.length_singleton]; omega) 16 (by omega),cond_true]
  rw [Vs.eq]; unfold ZV; simp only
  rw [cond_true,e1,Option.bind_some]
  by_cases c : b = []
  ·subst c
   rw [Qc3,Option.bind_some,Option.bind_some,Sum.elim_inl,Qeq,SK]; rfl
  ·obtain ⟨s1,s2,_⟩ := Pc b hb c
   rw [QkO b hb c,Option.bind_some,Option.bind_some,Sum.elim_inl]
   have e := ih (b.drop (step b).2) (ba (step b).1) (out ++ [s]) (by rw [List.length_drop]; omega) (Zv hb _) (by rw [List.length_append,List.length_drop,List.length_singleton]; omega)
   refine Eq.trans e ?_
   rw [PY hb c,List.map_cons,List.append_assoc]; rfl
theorem Qmh {n : Nat} (h : n ≤ 1000000) : n ≤ maxLen := by rw [QmB]; omega
theorem Qpp {l : List ByteArray} (h : l.length ≤ 1000000) : WX l = some l := by
 show cloneT 16 l = _
 unfold cloneT
 rw [if_pos ⟨by omega,Qmh h⟩]
theorem QnO (b : List Int) (hb : U8 b) (hl : b.length < 1000000) : Yb b = some ((listing b).map ba) := by
 have hlen := QdV hb
 have hc := Qpp (l := (listing b).map ba) (by rw [List.length_map]; omega)
 rw [Yb.eq]; unfold Qa5
 have e : Ya ⟨b⟩ [] = some (⟨[]⟩,(listing b).map ba) := by
  rw [Ya.eq]; unfold Qa4
  by_cases c : b = []
  ·subst c
   rw [Qc3,Option.bind_some,Qeq]; rfl
  ·obtain ⟨s1,s2,_⟩ := Pc b hb c
   rw [QkO b hb c,Option.bind_some]
   have e := each_l b.length (b.drop (step b).2) (ba (step b).1) [] (by rw [List.length_drop]; omega) (Zv hb _) (by rw [List.length_nil,List.length_drop]; omega)
   simp only
   rw [e,PY hb c]; rfl
 rw [e,Option.bind_some]
 simp only
 rw [hc,Option.bind_some]
end Go.Ab
set_option maxRecDepth 100000
namespace Go.Ab
theorem Qc4 (a n : Int) (hn : 0 < n) (hn2 : n ≤ 4611686018427387904) : Xa a n = some (a % n) := by
 rw [Xa.eq]; exact QeL a n hn hn2
theorem QhV : Z1 = some true := rfl
inductive Encs : List Int → Prop
 | nil : Encs []
 | cons {k n : Nat} {l : List Int} {r : List Int} (h : enc (k : Int) l = some n) (t : Encs r) : Encs (byts (k : Int) n ++ r)
theorem nil_u8 : U8 [] := fun x hx => nomatch hx
theorem app_u8 {a b : List Int} (ha : U8 a) (hb : U8 b) : U8 (a ++ b) := fun x hx => by
 rcases List.mem_append.1 hx with h | h
 ·exact ha x h
 ·exact hb x h
theorem QkQ (ops ns raw : List Int) (i : Nat) (hi : i < 30) (b : List Int) : ∀ (d k : Nat) (m : List Int),k + d = 3 → m.length ≤ k → ∃ m',VM ⟨ops,ns,raw,(i : Int),(k : Int),b,m⟩ = some ⟨ops,ns,raw,(i : Int),b,m'⟩
 | 0,k,m,hk,hm => by
  rw [VM.eq]; unfold ZQ; simp only
  rw [show decide ((k : Int) < 3) = false from decide_eq_false (by omega)]
  exact ⟨m,rfl⟩
 | d + 1,k,m,hk,hm => by
  rw [VM.eq]; unfold ZQ; simp only
  rw [show decide ((k : Int) < 3) = true from decide_eq_true (by omega),cond_true]
  by_cases c : ns = []
  ·subst c
   rw [show decide (((([] : List Int).length : Nat) : Int) > 0) = false from rfl]
   exact ⟨m,rfl⟩
  ·have hpos : 0 < ns.length := List.length_pos_iff.2 c
   have hw : w64 ((i : Int) + (k : Int)) = ((i + k : Nat) : Int) := by rw [w64_in (by omega) (by omega)]; omega
   have ht : Int.tmod ((i + k : Nat) : Int) ((ns.length : Nat) : Int) = (((i + k) % ns.length : Nat) : Int) := by rw [← Int.ofNat_tmod]
   have hlt : (i + k) % ns.length < ns.length := Nat.mod_lt _ hpos
   obtain ⟨m',e⟩ := QkQ ops ns raw i hi b d (k + 1) (m ++ [ns[(i + k) % ns.length]]) (by omega) (by rw [List.length_append,List.length_singleton]; omega)
   rw [show decide (((ns.length : Nat) : Int) > 0) = true from decide_eq_true (by omega),cond_true,show decide (((ns.length : Nat) : Int) ≠ 0) = true from decide_eq_true (by omega),cond_true,hw,ht,show decide (0 ≤ (((i + k) % ns.length : Nat) : Int)) = true from decide_eq_true (by omega),cond_true,Int.toNat_natCast,List.getElem?_eq_getElem hlt,Option.bind_some,
    show decide ((m.length + [ns[(i + k) % ns.length]].length) * 8 ≤ most) = true from decide_eq_true (by rw [List.length_singleton]; unfold most; omega),cond_true,w64_in (n := (k : Int) + 1) (by omega) (by omega),Option.bind_some,Sum.elim_inl]
   exact ⟨m',e⟩
theorem Qgi (ops ns raw : List Int) (hr : raw.length ≤ 10000) (hu : U8 raw) : ∀ (d i : Nat) (b : List Int),i + d = 30 → U8 b → b.length ≤ i * (4 + raw.length) →
  ∃ r,VN ⟨ops,ns,raw,(i : Int),b⟩ = some (b ++ r) ∧ U8 r ∧ r.length ≤ d * (4 + raw.length) ∧ (raw = [] → Encs r)
 | 0,i,b,hi,hb,hl => by
  rw [VN.eq]; unfold ZT; simp only
  refine ⟨[],?_,nil_u8,Nat.zero_le _,fun _ => .nil⟩
  rw [show decide ((i : Int) < 30) = false from decide_eq_false (by omega),List.append_nil]
  cases decide ((i : Int) < ((ops.length : Nat) : Int)) <;> rfl
 | d + 1,i,b,hi,hb,hl => by
  rw [VN.eq]; unfold ZT; simp only
  by_cases c : i < ops.length
  rotate_left
  ·rw [show decide ((i : Int) < ((ops.length : Nat) : Int)) = false from decide_eq_false (by omega)]
   exact ⟨[],by rw [List.append_nil]; rfl,nil_u8,Nat.zero_le _,fun _ => .nil⟩
  have hb30 : i * (4 + raw.length) ≤ 30 * (4 + raw.length) := Nat.mul_le_mul_right _ (by omega)
  have hblen : b.length ≤ 400000 := by omega
  obtain ⟨m',e2⟩ := QkQ ops ns raw i (by omega) b 3 0 [] rfl (Nat.le_refl _)
  have e2' : VM ⟨ops,ns,raw,(i : Int),0,b,[]⟩ = some ⟨ops,ns,raw,(i : Int),b,m'⟩ := e2
  obtain ⟨k,l,hk,hm,ho,hw⟩ := Qqu ops[i] m'
  have hlen := Qgc ho
  have hks := ks_len k
  have he := enc_of hk ho
  have eR := (Qmd ⟨(k : Int),l⟩ hw (by show l.length ≤ _; omega)).1
  simp only [encB] at eR
  rw [he] at eR
  simp only at eR
  have hby := Qpj k (orA (bs k) (ks k) l)
  have hbu := Qqt (k : Int) (orA (bs k) (ks k) l)
  generalize orA (bs k) (ks k) l = n at *
  have hsz : sz k = 2 ∨ sz k = 4 := by unfold sz; split <;> simp
  have next : w64 ((i : Int) + 1) = ((i + 1 : Nat) : Int) := by rw [w64_in (by omega) (by omega)]; rfl
  have hmul : (i + 1) * (4 + raw.length) = i * (4 + raw.length) + (4 + raw.length) := Nat.succ_mul _ _
  have hmul2 : (d + 1) * (4 + raw.length) = d * (4 + raw.length) + (4 + raw.length) := Nat.succ_mul _ _
  rw [show decide ((i : Int) < ((ops.length : Nat) : Int)) = true from decide_eq_true (by omega),cond_true,show decide ((i : Int) < 30) = true from decide_eq_true (by omega),cond_true,e2',Option.bind_some]
  simp only
  rw [show decide (0 ≤ (i : Int)) = true from decide_eq_true (by omega),cond_true,Int.toNat_natCast,List.getElem?_eq_getElem c,Option.bind_some,hm,Option.bind_some]
  simp only
  rw [eR,Option.bind_some]
  simp only
  rw [show decide ((b.length + (byts (k : Int) n).length) * 1 ≤ most) = true from decide_eq_true (by unfold most; omega),cond_true,Option.bind_some,Qc4 _ 5 (by decide) (by decide),Option.bind_some]
  by_cases f : w64 (Int.tdiv ops[i] 70) % 5 = 0
  ·have hk0 := Int.emod_nonneg ops[i] (by omega : ((raw.length : Nat) : Int) + 1 ≠ 0)
   have hk1 := Int.emod_lt_of_pos ops[i] (by omega : 0 < ((raw.length : Nat) : Int) + 1)
   rw [show (w64 (Int.tdiv ops[i] 70) % 5 == 0) = true from beq_iff_eq.2 f,cond_true,Option.bind_some,w64_in (n := ((raw.length : Nat) : Int) + 1) (by omega) (by omega),Qc4 _ _ (by omega) (by omega),Option.bind_some]
   generalize ops[i] % (((raw.length : Nat) : Int) + 1) = q at *
   have htl : (raw.take q.toNat).length ≤ raw.length := by rw [List.length_take]; omega
   rw [show decide (0 ≤ (0 : Int) ∧ 0 ≤ q ∧ q ≤ ((raw.length : Nat) : Int)) = true from decide_eq_true (by omega),cond_true,Int.sub_zero,show Int.toNat 0 = 0 from rfl,List.drop_zero,
    show decide (((b ++ byts (k : Int) n).length + (raw.take q.toNat).length) * 1 ≤ most) = true from decide_eq_true (by rw [List.length_append]; unfold most; omega),cond_true,next,Option.bind_some,Sum.elim_inl]
   obtain ⟨r,g1,g2,g3,g4⟩ := Qgi ops ns raw hr hu d (i + 1) (b ++ byts (k : Int) n ++ raw.take q.toNat) (by omega) (app_u8 (app_u8 hb hbu) (Qdd hu _)) (by rw [List.length_append,List.length_append]; omega)
   refine ⟨byts (k : Int) n ++ raw.take q.toNat ++ r,?_,app_u8 (app_u8 hbu (Qdd hu _)) g2,?_,fun hz => ?_⟩
   ·rw [g1]; simp only [List.append_assoc]
   ·simp only [List.length_append]; omega
   ·have e0 : raw.take q.toNat = [] := by rw [hz]; simp
    rw [e0,List.append_nil]
    exact .cons he (g4 hz)
  ·rw [show (w64 (Int.tdiv ops[i] 70) % 5 == 0) = false from beq_eq_false_iff_ne.2 f,cond_false,next,Option.bind_some,Sum.elim_inl]
   obtain ⟨r,g1,g2,g3,g4⟩ := Qgi ops ns raw hr hu d (i + 1) (b ++ byts (k : Int) n) (by omega) (app_u8 hb hbu) (by rw [List.length_append]; omega)
   refine ⟨byts (k : Int) n ++ r,?_,app_u8 hbu g2,?_,fun hz => .cons he (g4 hz)⟩
   ·rw [g1]; simp only [List.append_assoc]
   ·simp only [List.length_append]; omega
theorem Qpq (ops ns raw : List Int) (hr : raw.length ≤ 10000) (hu : U8 raw) : ∃ r,X7 ops ns raw = some r ∧ U8 r ∧ r.length ≤ 30 * (4 + raw.length) ∧ (raw = [] → Encs r) := by
 obtain ⟨r,g1,g2,g3,g4⟩ := Qgi ops ns raw hr hu 30 0 [] rfl nil_u8 (Nat.zero_le _)
 refine ⟨r,?_,g2,g3,g4⟩
 have g1' : VN ⟨ops,ns,raw,0,[]⟩ = some ([] ++ r) := g1
 rw [X7.eq]; unfold QaX
 rw [g1']; rfl
end Go.Ab
namespace Go.Ab
end Go.Ab
namespace Go.Ab
def vl (base : Nat) : List UInt8 → Nat → Nat
 | [],n => n
 | b :: l,n => vl base l (n * base + dg b)
def hd (v : Nat) : UInt8 := if v < 10 then UInt8.ofNat (48 + v) else UInt8.ofNat (87 + v)
end Go.Ab
namespace Go.Ab
theorem QdW (w : List UInt8) (f : Bool) (i : Nat) (hi : i < w.length) (hw : w.length ≤ 100) : Yp ⟨ba w,f,i⟩ =
  some (bif !isS w[i] && (decide (i = 0) || !isD w[i]) then .inr (.inl false) else .inl ⟨ba w,bif decide (0 < i) && !isD w[i] then false else f,(i + 1 : Nat)⟩) := by
 have hg : (ba w).data.getD (Int.toNat (i : Int)) 0 = w[i] := by rw [EM,Int.toNat_natCast]; simp [hi]
 have c1 : decide ((i : Int) < (((ba w).size : Nat) : Int)) = true := decide_eq_true (by rw [QL]; omega)
 have c2 : decide (0 ≤ (i : Int) ∧ (i : Int) < (((ba w).size : Nat) : Int)) = true := decide_eq_true (by rw [QL]; omega)
 unfold Yp
 simp only
 rw [c1,cond_true,c2,cond_true,hg]
 generalize w[i] = c
 have hS : isS c = (decide ((c.toNat : Int) ≥ 97) && decide ((c.toNat : Int) ≤ 122) || !((c.toNat : Int) != 95)) := by
  have e1 : decide ((c.toNat : Int) ≥ 97) = decide (97 ≤ c.toNat) := decide_eq_decide.2 (by omega)
  have e2 : decide ((c.toNat : Int) ≤ 122) = decide (c.toNat ≤ 122) := decide_eq_decide.2 (by omega)
  have e3 : (!((c.toNat : Int) != 95)) = decide (c.toNat = 95) := by
   rw [Bool.eq_iff_iff]; simp; omega
  unfold isS; rw [e1,e2,e3,Bool.decide_or,Bool.decide_and]
 have hD : isD c = (decide ((c.toNat : Int) ≥ 48) && decide ((c.toNat : Int) ≤ 57)) := by
  have e1 : decide ((c.toNat : Int) ≥ 48) = decide (48 ≤ c.toNat) := decide_eq_decide.2 (by omega)
  have e2 : decide ((c.toNat : Int) ≤ 57) = decide (c.toNat ≤ 57) := decide_eq_decide.2 (by omega)
  unfold isD; rw [e1,e2,Bool.decide_and]
 have h0 : ((i : Int) == 0) = decide (i = 0) := by rw [Bool.eq_iff_iff,beq_iff_eq,decide_eq_true_iff]; omega
 have hp : decide ((i : Int) > 0) = decide (0 < i) := decide_eq_decide.2 (by omega)
 rw [hS,hD,h0,hp,w64_in (n := (i : Int) + 1) (by omega) (by omega)]
 have hip : decide (0 < i) = !decide (i = 0) := by
  by_cases h : i = 0
  ·rw [decide_eq_true h,decide_eq_false (by omega)]; rfl
  ·rw [decide_eq_false h,decide_eq_true (by omega)]; rfl
 rw [hip]
 cases decide ((c.toNat : Int) ≥ 48) <;> cases decide ((c.toNat : Int) ≥ 97) <;> cases decide ((c.toNat : Int) ≤ 122) <;> cases ((c.toNat : Int) != 95) <;> cases decide (i = 0) <;> cases decide ((c.toNat : Int) ≤ 57) <;> rfl
theorem Qbn (w : List UInt8) (hw : w.length ≤ 100) : ∀ (g i : Nat) (f : Bool),g + i = w.length → 1 ≤ i → U4 ⟨ba w,f,i⟩ = some (bif (w.drop i).all isI then .inr (f && (w.drop i).all isD) else .inl false)
 | 0,i,f,hg,h1 => by
  rw [U4.eq]
  have c1 : decide ((i : Int) < (((ba w).size : Nat) : Int)) = false := decide_eq_false (by rw [QL]; omega)
  unfold Yp
  simp only
  rw [c1,List.drop_eq_nil_of_le (by omega)]
  simp
 | g + 1,i,f,hg,h1 => by
  have hi : i < w.length := by omega
  rw [U4.eq,QdW w f i hi hw,List.drop_eq_getElem_cons hi,Option.bind_some]
  have hi0 : decide (i = 0) = false := decide_eq_false (by omega)
  have hip : decide (0 < i) = true := decide_eq_true (by omega)
  rw [hi0,hip]
  simp only [List.all_cons]
  have hsd := @QkH w[i]
  cases hD : isD w[i] with
  | true =>
   have hI : isI w[i] = true := by rw [Qge,hD,Bool.or_true]
   rw [hD,hI] at hsd
   rw [hsd,hI]
   simp only [Bool.not_true,Bool.and_false,Bool.or_false,Bool.not_false,Bool.true_and,cond_false,Sum.elim_inl,Bool.and_true,Bool.or_true]
   exact Qbn w hw g (i + 1) f (by omega) (by omega)
  | false =>
   rw [hD] at hsd
   simp only [Bool.not_false,Bool.and_true] at hsd
   rw [hsd]
   cases hI : isI w[i] with
   | true =>
    simp only [Bool.not_true,Bool.false_and,cond_false,Bool.not_false,Bool.and_true,cond_true,Sum.elim_inl,Bool.true_and]
    rw [Qbn w hw g (i + 1) false (by omega) (by omega)]
    simp
   | false => simp
theorem Qfs (w : List UInt8) (hw : w.length ≤ 1000000000) : Xv (ba w) = some (wordB w) := by
 rw [Xv.eq]; unfold QcC
 rw [QL]
 cases w with
 | nil => rfl
 | cons c t =>
  have c1 : decide ((((c :: t).length : Nat) : Int) < 1) = false := decide_eq_false (by simp only [List.length_cons]; omega)
  have hwb : wordB (c :: t) = (decide (t.length < 12) && (!isD c && (decide ((c :: t).takeWhile isI = c :: t) && (decide (c ≠ 114) || (decide (t = []) || !decide (t.takeWhile isD = t)))))) := rfl
  rw [c1,cond_false,hwb,Qfq,Qfq]
  by_cases hl : t.length < 12
  ·have c2 : decide ((((c :: t).length : Nat) : Int) > 12) = false := decide_eq_false (by simp only [List.length_cons]; omega)
   have c3 : decide (0 ≤ (0 : Int) ∧ (0 : Int) < (((c :: t).length : Nat) : Int)) = true := decide_eq_true (by simp only [List.length_cons]; omega)
   have hg : (ba (c :: t)).data.getD (Int.toNat 0) 0 = c := by rw [EM]; rfl
   rw [c2,cond_false,c3,cond_true,hg,decide_eq_true hl]
   have h100 : (c :: t).length ≤ 100 := by simp only [List.length_cons]; omega
   have first : ∀ f : Bool,U4 ⟨ba (c :: t),f,0⟩ = some (bif isI c && !isD c then (bif t.all isI then .inr (f && t.all isD) else .inl false) else .inl false) := by
    intro f
    have hr := QdW (c :: t) f 0 (by simp) h100
    have hr : Yp ⟨ba (c :: t),f,0⟩ = _ := hr
    rw [U4.eq,hr,Option.bind_some]
    simp only [List.getElem_cons_zero,decide_true,Bool.true_or,Bool.and_true,Nat.lt_irrefl,decide_false,Bool.false_and,cond_false]
    rw [QkH]
    cases isI c && !isD c with
    | false => rfl
    | true =>
     simp only [Bool.not_true,cond_false,Sum.elim_inl,cond_true]
     exact Qbn (c :: t) h100 t.length 1 f (by simp) (by omega)
   have c4 : ((c.toNat : Int) == 114) = !decide (c ≠ 114) := by
    by_cases h : c = 114
    ·subst h; rfl
    ·have : ((c.toNat : Int) == 114) = false := by
      rw [beq_eq_false_iff_ne]; intro e; exact h (UInt8.toNat_inj.1 (by have : (114 : UInt8).toNat = 114 := rfl; omega))
     rw [this,decide_eq_true h]; rfl
   have c5 : decide ((((c :: t).length : Nat) : Int) > 1) = !decide (t = []) := by
    cases t with
    | nil => rfl
    | cons b t =>
     have e1 : decide ((((c :: b :: t).length : Nat) : Int) > 1) = true := decide_eq_true (by simp only [List.length_cons]; omega)
     rw [e1,decide_eq_false (List.cons_ne_nil b t)]; rfl
   rw [first,first,c4,c5,List.all_cons]
   cases isI c <;> cases isD c <;> cases t.all isI <;> cases t.all isD <;> cases decide (c ≠ 114) <;> cases decide (t = []) <;> rfl
  ·have c2 : decide ((((c :: t).length : Nat) : Int) > 12) = true := decide_eq_true (by simp only [List.length_cons]; omega)
   rw [c2,decide_eq_false hl]; rfl
end Go.Ab
namespace Go.Ab
abbrev RS (l s : List UInt8) (d : Int) (b : Bool) : Qb := ⟨ba l,((l.length - s.length : Nat) : Int),d,b⟩
theorem Qdf {l s : List UInt8} {c : UInt8} {t : List UInt8} (h : s <:+ l) (e : s = c :: t) : (ba l).data.getD (Int.toNat ((l.length - s.length : Nat) : Int)) 0 = c ∧ l.length - s.length < l.length ∧ l.length - t.length = l.length - s.length + 1 ∧ t <:+ l := by
 obtain ⟨q,rfl⟩ := h
 subst e
 refine ⟨?_,by simp,by simp; omega,⟨q ++ [c],by simp⟩⟩
 rw [EM,Int.toNat_natCast]
 simp
theorem QkR {l : List UInt8} (hl : l.length ≤ 1000000000) (d : Int) (b : Bool) : ∀ s,s <:+ l → UA (RS l s d b) = some (RS l (dropB s) d b) := by
 have loop : ∀ s,s <:+ l → J1 (RS l s d b) = some (RS l (dropB s) d b) := by
  intro s
  induction s with
  | nil =>
   intro hs
   rw [J1.eq]; unfold XJ
   have c1 : decide (((l.length - ([] : List UInt8).length : Nat) : Int) < (((ba l).size : Nat) : Int)) = false := decide_eq_false (by rw [QL]; simp)
   simp only
   rw [c1]; rfl
  | cons c t ih =>
   intro hs
   obtain ⟨h1,h2,h3,h4⟩ := Qdf hs rfl
   have c1 : decide (((l.length - (c :: t).length : Nat) : Int) < (((ba l).size : Nat) : Int)) = true := decide_eq_true (by rw [QL]; omega)
   have c2 : decide (0 ≤ ((l.length - (c :: t).length : Nat) : Int) ∧ ((l.length - (c :: t).length : Nat) : Int) < (((ba l).size : Nat) : Int)) = true := decide_eq_true (by rw [QL]; omega)
   rw [J1.eq]; unfold XJ
   simp only
   rw [c1,cond_true,c2,cond_true,h1]
   by_cases hc : c = 32
   ·have c3 : ((c.toNat : Int) == 32) = true := by subst hc; rfl
    rw [c3,cond_true,w64_in (by omega) (by omega)]
    simp only [Option.bind_some,Sum.elim_inl]
    have e : (⟨ba l,((l.length - (c :: t).length : Nat) : Int) + 1,d,b⟩ : Qb) = RS l t d b := by
     rw [show ((l.length - (c :: t).length : Nat) : Int) + 1 = ((l.length - t.length : Nat) : Int) from by rw [h3]; rfl]
    rw [e,ih h4]
    subst hc; rfl
   ·have c3 : ((c.toNat : Int) == 32) = false := by
     rw [beq_eq_false_iff_ne]; intro e; exact hc (UInt8.toNat_inj.1 (by have : (32 : UInt8).toNat = 32 := rfl; omega))
    rw [c3,cond_false,Xm hc]; rfl
 intro s hs
 rw [UA.eq]; unfold Z9
 rw [loop s hs]; rfl
theorem X5 (s : List UInt8) : dropB s <:+ s := List.dropWhile_suffix _
theorem is_eq {l : List UInt8} (hl : l.length ≤ 1000000000) (a : List UInt8) (ha : a.length ≤ 100) (s : List UInt8) (hs : s <:+ l) (d : Int) (b : Bool) :
  JI (ba a) (RS l s d b) = some (bif pre a (dropB s) then (true,RS l ((dropB s).drop a.length) d b) else (false,RS l (dropB s) d b)) := by
 rw [JI.eq]; unfold EI
 rw [QkR hl d b s hs,Option.bind_some]
 have hs2 : dropB s <:+ l := (X5 s).trans hs
 generalize dropB s = t at hs2
 obtain ⟨q,hq⟩ := hs2
 have hlen : l.length = q.length + t.length := by rw [← hq,List.length_append]
 have hP : l.length - t.length = q.length := by omega
 simp only [QL]
 rw [hP,w64_in (n := (q.length : Int) + (a.length : Int)) (by omega) (by omega)]
 by_cases h : a.length ≤ t.length
 ·have c1 : decide ((q.length : Int) + (a.length : Int) > (l.length : Int)) = false := decide_eq_false (by omega)
  have c2 : decide (0 ≤ (q.length : Int) ∧ (q.length : Int) ≤ (q.length : Int) + (a.length : Int) ∧ (q.length : Int) + (a.length : Int) ≤ (l.length : Int)) = true := decide_eq_true (by omega)
  have e1 : (ba l).extract (Int.toNat (q.length : Int)) (Int.toNat ((q.length : Int) + (a.length : Int))) = ba (t.take a.length) := by
   rw [X4,Int.toNat_natCast,show ((q.length : Int) + (a.length : Int)).toNat = q.length + a.length from by omega,← hq,List.take_append,List.take_of_length_le (by omega),List.drop_left,show q.length + a.length - q.length = a.length from by omega]
  rw [c1,cond_false,c2,cond_true,e1,eqS_ba]
  cases hp : pre a t with
  | true =>
   have : decide (t.take a.length = a) = true := hp
   rw [this]
   simp only [Bool.not_true,cond_false,cond_true]
   rw [show (q.length : Int) + (a.length : Int) = ((l.length - (t.drop a.length).length : Nat) : Int) from by rw [List.length_drop]; omega]
  | false =>
   have : decide (t.take a.length = a) = false := hp
   rw [this]
   simp only [Bool.not_false,cond_true,cond_false]
 ·have c1 : decide ((q.length : Int) + (a.length : Int) > (l.length : Int)) = true := decide_eq_true (by omega)
  have hp : pre a t = false := by
   unfold pre; exact decide_eq_false fun e => by
    have := congrArg List.length e
    simp at this; omega
  rw [c1,hp]
  simp only [cond_true,cond_false]
theorem SL (c : UInt8) : Ve (c.toNat : Int) 10 = some (if isD c then (dg c : Int) else -1) ∧ Ve (c.toNat : Int) 16 = some (if isH c then (dg c : Int) else -1) := by
 have hc := c.toNat_lt
 have e10 : ((10 : Int) == 16) = false := rfl
 have e16 : ((16 : Int) == 16) = true := rfl
 by_cases h1 : 48 ≤ c.toNat ∧ c.toNat ≤ 57
 ·have c1 : decide ((c.toNat : Int) ≥ 48) = true := decide_eq_true (by omega)
  have c2 : decide ((c.toNat : Int) ≤ 57) = true := decide_eq_true (by omega)
  have hD : isD c = true := decide_eq_true h1
  have hH : isH c = true := by simp [isH,hD]
  have hg : dg c = c.toNat - 48 := by unfold dg; rw [if_neg (by omega)]
  have e : w64 (IntKind.u8.wrap ((c.toNat : Int) - 48)) = (dg c : Int) := by rw [u8_in (by omega) (by omega),w64_in (by omega) (by omega)]; omega
  constructor <;> rw [Ve.eq] <;> unfold Eg <;> rw [c1,cond_true,c2,cond_true,e]
  ·rw [hD]; rfl
  ·rw [hH]; rfl
 ·have hD : isD c = false := decide_eq_false h1
  have step10 : Ve (c.toNat : Int) 10 = some (-1) := by
   rw [Ve.eq]; unfold Eg
   rw [e10]
   cases h : decide ((c.toNat : Int) ≥ 48)
   ·rfl
   ·have c2 : decide ((c.toNat : Int) ≤ 57) = false := decide_eq_false (by have := of_decide_eq_true h; omega)
    rw [c2]; rfl
  refine ⟨by rw [step10,hD]; rfl,?_⟩
  have head : Ve (c.toNat : Int) 16 = bif decide ((c.toNat : Int) ≥ 97) then (bif decide ((c.toNat : Int) ≤ 102) then some (w64 (w64 (IntKind.u8.wrap ((c.toNat : Int) - 97)) + 10)) else some (-1)) else some (-1) := by
   rw [Ve.eq]; unfold Eg
   rw [e16]
   cases h : decide ((c.toNat : Int) ≥ 48)
   ·rfl
   ·have c2 : decide ((c.toNat : Int) ≤ 57) = false := decide_eq_false (by have := of_decide_eq_true h; omega)
    rw [c2]; rfl
  rw [head]
  by_cases h2 : 97 ≤ c.toNat ∧ c.toNat ≤ 102
  ·have c3 : decide ((c.toNat : Int) ≥ 97) = true := decide_eq_true (by omega)
   have c4 : decide ((c.toNat : Int) ≤ 102) = true := decide_eq_true (by omega)
   have hH : isH c = true := by simp [isH,h2]
   have hg : dg c = c.toNat - 97 + 10 := by unfold dg; rw [if_pos h2.1]
   have e : w64 (w64 (IntKind.u8.wrap ((c.toNat : Int) - 97)) + 10) = (dg c : Int) := by
    rw [u8_in (by omega) (by omega),w64_in (n := (c.toNat : Int) - 97) (by omega) (by omega),w64_in (by omega) (by omega)]; omega
   rw [c3,cond_true,c4,cond_true,e,hH]; rfl
  ·have hH : isH c = false := by rw [isH,hD]; simp; omega
   rw [hH]
   cases h : decide ((c.toNat : Int) ≥ 97)
   ·rfl
   ·have c4 : decide ((c.toNat : Int) ≤ 102) = false := decide_eq_false (by have := of_decide_eq_true h; omega)
    rw [c4]; rfl
def isB (base : Nat) (c : UInt8) : Bool := if base = 16 then isH c else isD c
theorem Qmi {base : Nat} (hb : base = 10 ∨ base = 16) (c : UInt8) : Ve (c.toNat : Int) (base : Int) = some (if isB base c then (dg c : Int) else -1) := by
 rcases hb with rfl | rfl
 ·exact (SL c).1
 ·exact (SL c).2
theorem isB_H {base : Nat} {c : UInt8} (h : isB base c = true) : isH c = true := by
 unfold isB at h
 split at h
 ·exact h
 ·simp [isH,h]
theorem QnP {l : List UInt8} (hl : l.length ≤ 1000000000) {base : Nat} (hb : base = 10 ∨ base = 16) (at_ : Int) (d : Int) (b : Bool) : ∀ (s : List UInt8) (n : Nat),s <:+ l → n < 4294967296 →
  match numv base (s.takeWhile (isB base)) n with
  | some m => QO ⟨base,n,at_,RS l s d b,E0⟩ = some (.inr ⟨m,at_,RS l (s.dropWhile (isB base)) d b,E0⟩)
  | none => ∃ r,r <:+ l ∧ QO ⟨base,n,at_,RS l s d b,E0⟩ = some (.inl ⟨RS l r d true,E0⟩) := by
 intro s
 induction s with
 | nil =>
  intro n hs hn
  simp only [List.takeWhile_nil,numv]
  rw [QO.eq]; unfold WB
  have c1 : decide (((l.length - ([] : List UInt8).length : Nat) : Int) < (((ba l).size : Nat) : Int)) = false := decide_eq_false (by rw [QL]; simp)
  simp only
  rw [c1]; rfl
 | cons c t ih =>
  intro n hs hn
  obtain ⟨h1,h2,h3,h4⟩ := Qdf hs rfl
  have c1 : decide (((l.length - (c :: t).length : Nat) : Int) < (((ba l).size : Nat) : Int)) = true := decide_eq_true (by rw [QL]; omega)
  have c2 : decide (0 ≤ ((l.length - (c :: t).length : Nat) : Int) ∧ ((l.length - (c :: t).length : Nat) : Int) < (((ba l).size : Nat) : Int)) = true := decide_eq_true (by rw [QL]; omega)
  have step : QO ⟨base,n,at_,RS l (c :: t) d b,E0⟩ = (WB Ve ⟨base,n,at_,RS l (c :: t) d b,E0⟩).bind (Sum.elim QO some) := QO.eq _
  unfold WB at step
  simp only at step
  rw [c1,cond_true,c2,cond_true,h1,Qmi hb,Option.bind_some,Option.bind_some] at step
  cases hB : isB base c with
  | false =>
   rw [hB] at step
   have c3 : decide ((if false = true then ((dg c : Nat) : Int) else -1) ≥ 0) = false := rfl
   rw [c3,cond_false] at step
   simp only [List.takeWhile_cons,hB,Bool.false_eq_true,if_false,numv,List.dropWhile_cons]
   rw [step]; rfl
  | true =>
   rw [hB] at step
   have hdg := dg_lt (isB_H hB)
   have c3 : decide ((if true = true then ((dg c : Nat) : Int) else -1) ≥ 0) = true := decide_eq_true (by rw [if_pos rfl]; omega)
   have hmul : n * base ≤ 4294967296 * 16 := Nat.mul_le_mul (by omega) (by omega)
   have em : w64 (w64 ((base : Int) * (n : Int)) + (if true = true then ((dg c : Nat) : Int) else -1)) = ((n * base + dg c : Nat) : Int) := by
    rw [if_pos rfl,← Int.natCast_mul,Nat.mul_comm base n,w64_in (n := ((n * base : Nat) : Int)) (by omega) (by omega),w64_in (by omega) (by omega)]; omega
   have e3 : (⟨ba l,w64 (((l.length - (c :: t).length : Nat) : Int) + 1),d,b⟩ : Qb) = RS l t d b := by
    rw [w64_in (by omega) (by omega),show ((l.length - (c :: t).length : Nat) : Int) + 1 = ((l.length - t.length : Nat) : Int) from by rw [h3]; rfl]
   have e4 : (⟨ba l,w64 (((l.length - (c :: t).length : Nat) : Int) + 1),d,true⟩ : Qb) = RS l t d true := by
    rw [w64_in (by omega) (by omega),show ((l.length - (c :: t).length : Nat) : Int) + 1 = ((l.length - t.length : Nat) : Int) from by rw [h3]; rfl]
   rw [c3,cond_true,em,e3,e4] at step
   simp only [List.takeWhile_cons,hB,if_true,numv,List.dropWhile_cons]
   by_cases hbig : n * base + dg c ≥ 4294967296
   ·have c4 : decide (((n * base + dg c : Nat) : Int) ≥ 4294967296) = true := decide_eq_true (by omega)
    rw [if_pos hbig]
    rw [c4,cond_true] at step
    exact ⟨t,h4,step⟩
   ·have c4 : decide (((n * base + dg c : Nat) : Int) ≥ 4294967296) = false := decide_eq_false (by omega)
    rw [if_neg hbig]
    rw [c4,cond_false] at step
    have ih := ih (n * base + dg c) h4 (by omega)
    rw [step]
    exact ih
theorem Qhc {p : UInt8 → Bool} {s : List UInt8} : (s.takeWhile p = [] ↔ s.dropWhile p = s) ∧ (s.dropWhile p).length = s.length - (s.takeWhile p).length := by
 have h := List.takeWhile_append_dropWhile (p := p) (l := s)
 have hl := congrArg List.length h
 rw [List.length_append] at hl
 refine ⟨⟨fun e => by rw [e,List.nil_append] at h; exact h,fun e => by
  have := congrArg List.length e
  exact List.eq_nil_of_length_eq_zero (by omega)⟩,by omega⟩
theorem Qft {l : List UInt8} (hl : l.length ≤ 1000000000) {base : Nat} (hb : base = 10 ∨ base = 16) (s : List UInt8) (hs : s <:+ l) (d : Int) (b : Bool) :
  match numv base (s.takeWhile (isB base)) 0 with
  | some n => Ju base (RS l s d b) = some (⟨1,n,s_,[]⟩,RS l (s.dropWhile (isB base)) d (bif decide (s.takeWhile (isB base) = []) then true else b))
  | none => ∃ r,r <:+ l ∧ Ju base (RS l s d b) = some (E0,RS l r d true) := by
 have hL := QnP hl hb ((l.length - s.length : Nat) : Int) d b s 0 hs (by decide)
 have step : Ju base (RS l s d b) = X0 QO base (RS l s d b) := Ju.eq _ _
 unfold X0 at step
 cases hv : numv base (s.takeWhile (isB base)) 0 with
 | none =>
  rw [hv] at hL
  obtain ⟨r,hr,e⟩ := hL
  refine ⟨r,hr,?_⟩
  have e : QO ⟨base,0,((l.length - s.length : Nat) : Int),RS l s d b,E0⟩ = some (.inl ⟨RS l r d true,E0⟩) := e
  simp only at step
  rw [e] at step; exact step
 | some n =>
  rw [hv] at hL
  have e : QO ⟨base,0,((l.length - s.length : Nat) : Int),RS l s d b,E0⟩ = some (.inr ⟨n,((l.length - s.length : Nat) : Int),RS l (s.dropWhile (isB base)) d b,E0⟩) := hL
  simp only at step
  rw [e,Option.bind_some,Sum.elim_inr] at step
  simp only at step ⊢
  obtain ⟨t1,t2⟩ := @Qhc (isB base) s
  have hsl : s.length ≤ l.length := hs.length_le
  have htl : (s.takeWhile (isB base)).length ≤ s.length := (List.takeWhile_sublist _).length_le
  have c1 : (((l.length - s.length : Nat) : Int) == ((l.length - (s.dropWhile (isB base)).length : Nat) : Int)) = decide (s.takeWhile (isB base) = []) := by
   rw [Bool.eq_iff_iff,beq_iff_eq,decide_eq_true_iff]
   constructor
   ·intro e; exact List.eq_nil_of_length_eq_zero (by omega)
   ·intro e; rw [t1.1 e]
  rw [c1] at step
  rw [step]
  cases decide (s.takeWhile (isB base) = []) <;> rfl
end Go.Ab
namespace Go.Ab
theorem QqA {l : List UInt8} (hl : l.length ≤ 1000000000) (at_ d : Int) (b : Bool) : ∀ s : List UInt8,s <:+ l → JL ⟨at_,RS l s d b,E0⟩ = some ⟨at_,RS l (s.dropWhile isI) d b,E0⟩ := by
 intro s
 induction s with
 | nil =>
  intro hs
  rw [JL.eq]; unfold XK
  have c1 : decide (((l.length - ([] : List UInt8).length : Nat) : Int) < (((ba l).size : Nat) : Int)) = false := decide_eq_false (by rw [QL]; simp)
  simp only
  rw [c1]; rfl
 | cons c t ih =>
  intro hs
  obtain ⟨h1,h2,h3,h4⟩ := Qdf hs rfl
  have c1 : decide (((l.length - (c :: t).length : Nat) : Int) < (((ba l).size : Nat) : Int)) = true := decide_eq_true (by rw [QL]; omega)
  have c2 : decide (0 ≤ ((l.length - (c :: t).length : Nat) : Int) ∧ ((l.length - (c :: t).length : Nat) : Int) < (((ba l).size : Nat) : Int)) = true := decide_eq_true (by rw [QL]; omega)
  have e3 : (⟨ba l,w64 (((l.length - (c :: t).length : Nat) : Int) + 1),d,b⟩ : Qb) = RS l t d b := by
   rw [w64_in (by omega) (by omega),show ((l.length - (c :: t).length : Nat) : Int) + 1 = ((l.length - t.length : Nat) : Int) from by rw [h3]; rfl]
  rw [JL.eq]; unfold XK
  simp only
  rw [c1,cond_true,c2,cond_true,h1,e3]
  have e97 : decide ((c.toNat : Int) ≥ 97) = decide (97 ≤ c.toNat) := decide_eq_decide.2 (by omega)
  have e122 : decide ((c.toNat : Int) ≤ 122) = decide (c.toNat ≤ 122) := decide_eq_decide.2 (by omega)
  have e48 : decide ((c.toNat : Int) ≥ 48) = decide (48 ≤ c.toNat) := decide_eq_decide.2 (by omega)
  have e57 : decide ((c.toNat : Int) ≤ 57) = decide (c.toNat ≤ 57) := decide_eq_decide.2 (by omega)
  have e95 : ((c.toNat : Int) == 95) = decide (c.toNat = 95) := by rw [Bool.eq_iff_iff,beq_iff_eq,decide_eq_true_iff]; omega
  have hI : isI c = (decide (97 ≤ c.toNat) && decide (c.toNat ≤ 122) || decide (c.toNat = 95) || decide (48 ≤ c.toNat) && decide (c.toNat ≤ 57)) := by
   unfold isI isS isD; rw [Bool.decide_or,Bool.decide_and,Bool.decide_and]
  rw [e97,e122,e48,e57,e95]
  rw [List.dropWhile_cons,hI]
  have ih := ih h4
  cases decide (97 ≤ c.toNat) <;> cases decide (c.toNat ≤ 122) <;> cases decide (48 ≤ c.toNat) <;> cases decide (c.toNat ≤ 57) <;> cases decide (c.toNat = 95) <;> first | exact ih | rfl
theorem Qpr {l : List UInt8} (hl : l.length ≤ 1000000000) (s : List UInt8) (hs : s <:+ l) (d : Int) (b : Bool) :
  UZ (RS l s d b) = some (⟨2,0,ba (s.takeWhile isI),[]⟩,RS l (s.dropWhile isI) d (bif wordB (s.takeWhile isI) then b else true)) := by
 rw [UZ.eq]; unfold Ga
 simp only
 have e : JL ⟨((l.length - s.length : Nat) : Int),RS l s d b,E0⟩ = some ⟨((l.length - s.length : Nat) : Int),RS l (s.dropWhile isI) d b,E0⟩ := QqA hl _ d b s hs
 rw [e,Option.bind_some]
 simp only
 obtain ⟨q,hq⟩ := hs
 have hlen : l.length = q.length + s.length := by rw [← hq,List.length_append]
 obtain ⟨_,t2⟩ := @Qhc isI s
 have htl : (s.takeWhile isI).length ≤ s.length := (List.takeWhile_sublist _).length_le
 have c1 : decide (0 ≤ ((l.length - s.length : Nat) : Int) ∧ ((l.length - s.length : Nat) : Int) ≤ ((l.length - (s.dropWhile isI).length : Nat) : Int) ∧ ((l.length - (s.dropWhile isI).length : Nat) : Int) ≤ (((ba l).size : Nat) : Int)) = true := decide_eq_true (by rw [QL]; omega)
 have e1 : (ba l).extract (Int.toNat ((l.length - s.length : Nat) : Int)) (Int.toNat ((l.length - (s.dropWhile isI).length : Nat) : Int)) = ba (s.takeWhile isI) := by
  rw [X4,Int.toNat_natCast,Int.toNat_natCast,show l.length - s.length = q.length from by omega,show l.length - (s.dropWhile isI).length = q.length + (s.takeWhile isI).length from by omega,← hq,List.take_append,List.take_of_length_le (by omega),List.drop_left,show q.length + (s.takeWhile isI).length - q.length = (s.takeWhile isI).length from by omega]
  conv => lhs; arg 1; arg 2; rw [← List.takeWhile_append_dropWhile (p := isI) (l := s)]
  rw [List.take_left']
  rfl
 rw [c1,cond_true,e1,Qfs _ (by omega),Option.bind_some]
 cases wordB (s.takeWhile isI) <;> rfl
end Go.Ab
namespace Go.Ab
section
variable {l : List UInt8} (hl : l.length ≤ 1000000000)
include hl
omit hl in
theorem Jt {k lev : Nat} (hk : 5 ≤ k ∧ k ≤ 11) (h : lvlOf k ≠ lev) (r : Qb) : QU ⟨lev,k,r⟩ = QU ⟨lev,(k + 1 : Nat),r⟩ := by
 rw [QU.eq ⟨lev,k,r⟩]; unfold XL
 have c1 : decide ((k : Int) ≤ 11) = true := decide_eq_true (by omega)
 have c2 : ((lvlOf k : Int) == (lev : Int)) = false := by rw [beq_eq_false_iff_ne]; omega
 simp only
 rw [c1,cond_true,Qbl hk,Option.bind_some]
 simp only
 rw [c2,cond_false,w64_in (n := (k : Int) + 1) (by omega) (by omega)]
 rfl
theorem Gd {k lev : Nat} (hk : 5 ≤ k ∧ k ≤ 11) (h : lvlOf k = lev) (s : List UInt8) (hs : s <:+ l) (d : Int) : QU ⟨lev,k,RS l s d false⟩ =
  bif pre (sg k) (dropB s) then some (.inl ⟨k,RS l ((dropB s).drop (sg k).length) d false⟩) else QU ⟨lev,(k + 1 : Nat),RS l (dropB s) d false⟩ := by
 rw [QU.eq ⟨lev,k,RS l s d false⟩]; unfold XL
 have c1 : decide ((k : Int) ≤ 11) = true := decide_eq_true (by omega)
 have c2 : ((lvlOf k : Int) == (lev : Int)) = true := by rw [beq_iff_eq]; omega
 have hsg : (sg k).length ≤ 100 := by unfold sg; split <;> simp
 simp only
 rw [c1,cond_true,Qbl hk,Option.bind_some]
 simp only
 rw [c2,cond_true,is_eq hl (sg k) hsg s hs d false]
 simp only [Bool.not_false,cond_true,Option.bind_some]
 cases pre (sg k) (dropB s) with
 | true => rfl
 | false =>
  simp only [cond_false]
  rw [w64_in (n := (k : Int) + 1) (by omega) (by omega)]
  rfl
omit hl in
theorem PZ (lev : Int) (r : Qb) : QU ⟨lev,((12 : Nat) : Int),r⟩ = some (.inr r) := by rw [QU.eq]; rfl
theorem QqB {lev : Nat} (h5 : lev < 5) (s : List UInt8) (hs : s <:+ l) (d : Int) : Vo lev (RS l s d false) =
  some (match kindS (lv lev) (dropB s) with | some k => ((k : Int),RS l ((dropB s).drop (sg k).length) d false) | none => (0,RS l (dropB s) d false)) := by
 have hs2 : dropB s <:+ l := (X5 s).trans hs
 rw [Vo.eq]; unfold Gb
 have h2 : lev = 0 ∨ lev = 1 ∨ lev = 2 ∨ lev = 3 ∨ lev = 4 := by omega
 have e5 : QU ⟨lev,5,RS l s d false⟩ = QU ⟨lev,((5 : Nat) : Int),RS l s d false⟩ := rfl
 rw [e5]
 rcases h2 with rfl | rfl | rfl | rfl | rfl
 ·rw [Jt (by omega) (by decide),Jt (by omega) (by decide),Jt (by omega) (by decide),Jt (by omega) (by decide),Gd hl (by omega) (by decide) s hs d,Jt (by omega) (by decide),Jt (by omega) (by decide),PZ]
  simp only [kindS,lv,List.find?_cons]
  cases pre (sg 9) (dropB s) <;> rfl
 ·rw [Jt (by omega) (by decide),Jt (by omega) (by decide),Jt (by omega) (by decide),Gd hl (by omega) (by decide) s hs d,Jt (by omega) (by decide),Jt (by omega) (by decide),Jt (by omega) (by decide),PZ]
  simp only [kindS,lv,List.find?_cons]
  cases pre (sg 8) (dropB s) <;> rfl
 ·rw [Jt (by omega) (by decide),Jt (by omega) (by decide),Jt (by omega) (by decide),Jt (by omega) (by decide),Jt (by omega) (by decide),Gd hl (by omega) (by decide) s hs d,Gd hl (by omega) (by decide) (dropB s) hs2 d,Zu,PZ]
  simp only [kindS,lv,List.find?_cons]
  cases pre (sg 10) (dropB s) <;> cases pre (sg 11) (dropB s) <;> rfl
 ·rw [Gd hl (by omega) (by decide) s hs d,Gd hl (by omega) (by decide) (dropB s) hs2 d,Zu,Jt (by omega) (by decide),Jt (by omega) (by decide),Jt (by omega) (by decide),Jt (by omega) (by decide),Jt (by omega) (by decide),PZ]
  simp only [kindS,lv,List.find?_cons]
  cases pre (sg 5) (dropB s) <;> cases pre (sg 6) (dropB s) <;> rfl
 ·rw [Jt (by omega) (by decide),Jt (by omega) (by decide),Gd hl (by omega) (by decide) s hs d,Jt (by omega) (by decide),Jt (by omega) (by decide),Jt (by omega) (by decide),Jt (by omega) (by decide),PZ]
  simp only [kindS,lv,List.find?_cons]
  cases pre (sg 7) (dropB s) <;> rfl
omit hl in
end
noncomputable def RL (lev : Nat) (r : Qb) (x : Qd) : Option (Qd × Qb) := (QZ ⟨(lev : Int),r,E0,x⟩).bind fun o => some (o.h1,o.h0)
theorem rtwo5 (r : Qb) : Qu ((5 : Nat) : Int) r = QI r := by
 rw [Qu.eq]; unfold WL
 have c1 : decide (((5 : Nat) : Int) > 4) = true := rfl
 rw [c1,cond_true]
 cases QI r <;> rfl
theorem Qgj {lev : Nat} (h : lev < 5) (r : Qb) : Qu (lev : Int) r = (Qu ((lev + 1 : Nat) : Int) r).bind fun q => RL lev q.2 q.1 := by
 rw [Qu.eq]; unfold WL
 have c1 : decide ((lev : Int) > 4) = false := decide_eq_false (by omega)
 rw [c1,cond_false,w64_in (n := (lev : Int) + 1) (by omega) (by omega)]
 rfl
theorem RL_eq {l : List UInt8} (hl : l.length ≤ 1000000000) {lev : Nat} (h5 : lev < 5) (s : List UInt8) (hs : s <:+ l) (d : Int) (x : Qd) : RL lev (RS l s d false) x = match kindS (lv lev) (dropB s) with
  | none => some (x,RS l (dropB s) d false)
  | some k => (Qu ((lev + 1 : Nat) : Int) (RS l ((dropB s).drop (sg k).length) d false)).bind fun q => RL lev q.2 ⟨k,0,s_,[x,q.1]⟩ := by
 conv => lhs; unfold RL
 rw [QZ.eq]; unfold We
 simp only
 rw [QqB hl h5 s hs d,Option.bind_some]
 cases hk : kindS (lv lev) (dropB s) with
 | none => rfl
 | some k =>
  have hk5 := lv_ok (List.mem_of_find?_eq_some hk)
  have c1 : ((k : Int) == 0) = false := by rw [beq_eq_false_iff_ne]; omega
  simp only
  rw [c1,cond_false,w64_in (n := (lev : Int) + 1) (by omega) (by omega)]
  show Option.bind (Option.bind (Option.bind (Qu ((lev + 1 : Nat) : Int) (RS l ((dropB s).drop (sg k).length) d false)) _) _) _ = _
  cases Qu ((lev + 1 : Nat) : Int) (RS l ((dropB s).drop (sg k).length) d false) <;> rfl
def stuck (r : List UInt8) : Prop := ∃ c t,r = c :: t ∧ isI c = true
def RR (l : List UInt8) (f : Option (Qd × Qb)) (d : Int) (o : Option (X3 × List UInt8)) : Prop := match o with
 | some (x,r) => f = some (x.t,RS l r d false)
 | none => ∃ e r b,f = some (e,RS l r d b) ∧ r <:+ l ∧ (b = true ∨ stuck r)
theorem dw_suf {p : UInt8 → Bool} (s : List UInt8) : s.dropWhile p <:+ s := List.dropWhile_suffix p
theorem QkS {l : List UInt8} (hl : l.length ≤ 1000000000) {base : Nat} (hb : base = 10 ∨ base = 16) (s : List UInt8) (hs : s <:+ l) (hne : s.takeWhile (isB base) ≠ []) (d : Int) :
  RR l (Ju base (RS l s d false)) d (tailA base (s.takeWhile (isB base)) (s.dropWhile (isB base))) := by
 have h := Qft hl hb s hs d false
 unfold tailA
 cases hv : numv base (s.takeWhile (isB base)) 0 with
 | none =>
  rw [hv] at h
  obtain ⟨r,hr,e⟩ := h
  exact ⟨_,r,true,e,hr,.inl rfl⟩
 | some n =>
  rw [hv] at h
  simp only at h ⊢
  rw [decide_eq_false hne,cond_false] at h
  by_cases hi : (s.dropWhile (isB base)).takeWhile isI = []
  ·rw [if_pos hi]; exact h
  ·rw [if_neg hi]
   refine ⟨_,_,false,h,(dw_suf s).trans hs,.inr ?_⟩
   cases hd : s.dropWhile (isB base) with
   | nil => rw [hd] at hi; exact absurd rfl hi
   | cons c t =>
    rw [hd] at hi
    refine ⟨c,t,rfl,?_⟩
    cases hc : isI c with
    | true => rfl
    | false => exfalso; apply hi; simp [List.takeWhile_cons,hc]
theorem isB10 : isB 10 = isD := by funext c; rfl
theorem isB16 : isB 16 = isH := by funext c; rfl
theorem ratom {l : List UInt8} (hl : l.length ≤ 1000000000) {s t : List UInt8} (hs : s <:+ l) (h : dropB s = t) (h1 : ∀ r,t ≠ 40 :: r) (h2 : ∀ r,t ≠ 45 :: r) (h3 : ∀ r,t ≠ 46 :: r) (d : Int) : RR l (QI (RS l s d false)) d (atomS t) := by
 have ht : dropB t = t := by rw [← h,Zu]
 have hts : t <:+ l := by rw [← h]; exact (X5 s).trans hs
 have fin : ∀ f : Option (Qd × Qb),(f.bind fun r => some (r.1,r.2)) = f := fun f => by cases f <;> rfl
 rw [QI.eq]; unfold Wp
 simp only [cond_false]
 rw [show h_28 = ba [40] from rfl,is_eq hl [40] (by simp) s hs d false,h,Qgf h1]
 simp only [cond_false,Option.bind_some]
 rw [show h_2d = ba [45] from rfl,is_eq hl [45] (by simp) t hts d false,ht,Qgf h2]
 simp only [cond_false,Option.bind_some]
 rw [show h_2e = ba [46] from rfl,is_eq hl [46] (by simp) t hts d false,ht,Qgf h3]
 simp only [cond_false,Option.bind_some]
 rw [show s_0x = ba [48,120] from rfl,is_eq hl [48,120] (by simp) t hts d false,ht]
 cases hp : pre [48,120] t with
 | true =>
  obtain ⟨p1,p2⟩ := Qqv hp
  have h2s : t.drop 2 <:+ l := (List.drop_suffix 2 t).trans hts
  simp only [cond_true,Option.bind_some]
  rw [fin]
  show RR l (Ju ((16 : Nat) : Int) (RS l (t.drop 2) d false)) d (atomS t)
  unfold atomS
  rw [hp]
  by_cases he : (t.drop 2).takeWhile isH = []
  ·-- no digit: the document tells so; the program reads 0,and a word begins behind it
   have hn := Qft hl (.inr rfl) (t.drop 2) h2s d false
   rw [isB16,he] at hn
   simp only [numv,decide_true,cond_true] at hn
   rw [decide_eq_true he]
   simp only [Bool.not_true,Bool.and_false,cond_false]
   have e0 : t = 48 :: 120 :: t.drop 2 := p2
   have d48 : isD 48 = true := by decide
   have d120 : isD 120 = false := by decide
   have q1 : t.takeWhile isD = [48] := by rw [e0]; simp [List.takeWhile_cons,d48,d120]
   have q2 : t.dropWhile isD = 120 :: t.drop 2 := by
    conv => lhs; rw [e0]
    rfl
   rw [q1,q2]
   have : tailA 10 [48] (120 :: t.drop 2) = none := by
    unfold tailA
    rw [show numv 10 [48] 0 = some 0 from rfl]
    simp only
    have i120 : isI 120 = true := by decide
    rw [if_neg]
    simp [List.takeWhile_cons,i120]
   simp only [show decide (([48] : List UInt8) = []) = false from rfl,Bool.not_false,cond_true,this]
   exact ⟨_,_,true,hn,(dw_suf _).trans h2s,.inl rfl⟩
  ·rw [decide_eq_false he]
   simp only [Bool.not_false,Bool.true_and,cond_true]
   have := QkS hl (base := 16) (.inr rfl) (t.drop 2) h2s (by rw [isB16]; exact he) d
   rw [isB16] at this; exact this
 | false =>
  simp only [cond_false,Option.bind_some]
  unfold atomS
  rw [hp]
  simp only [Bool.false_and,cond_false]
  have wd : RR l (UZ (RS l t d false)) d (bif wordB (t.takeWhile isI) then some (.nm (ba (t.takeWhile isI)),t.dropWhile isI) else none) := by
   rw [Qpr hl t hts d false]
   cases hw : wordB (t.takeWhile isI) with
   | true => rfl
   | false => exact ⟨_,_,true,rfl,(dw_suf _).trans hts,.inl rfl⟩
  match t,hts,wd with
  | [],hts,wd =>
   have c1 : decide (((l.length - ([] : List UInt8).length : Nat) : Int) < (((ba l).size : Nat) : Int)) = false := decide_eq_false (by rw [QL]; simp)
   rw [c1,cond_false,fin]
   exact wd
  | c :: u,hts,wd =>
   obtain ⟨g1,g2,g3,g4⟩ := Qdf hts rfl
   have c1 : decide (((l.length - (c :: u).length : Nat) : Int) < (((ba l).size : Nat) : Int)) = true := decide_eq_true (by rw [QL]; omega)
   have c2 : decide (0 ≤ ((l.length - (c :: u).length : Nat) : Int) ∧ ((l.length - (c :: u).length : Nat) : Int) < (((ba l).size : Nat) : Int)) = true := decide_eq_true (by rw [QL]; omega)
   rw [c1,cond_true,c2,cond_true,g1,(SL c).1,Option.bind_some,fin,fin]
   cases hD : isD c with
   | true =>
    have c3 : decide ((if true = true then ((dg c : Nat) : Int) else -1) ≥ 0) = true := decide_eq_true (by rw [if_pos rfl]; omega)
    have hne : (c :: u).takeWhile isD ≠ [] := by simp [List.takeWhile_cons,hD]
    rw [c3,cond_true,decide_eq_false hne]
    simp only [Bool.not_false,cond_true]
    have := QkS hl (base := 10) (.inl rfl) (c :: u) hts (by rw [isB10]; exact hne) d
    rw [isB10] at this; exact this
   | false =>
    have c3 : decide ((if false = true then ((dg c : Nat) : Int) else -1) ≥ 0) = false := rfl
    have he : (c :: u).takeWhile isD = [] := by simp [List.takeWhile_cons,hD]
    rw [c3,cond_false,decide_eq_true he]
    exact wd
end Go.Ab
namespace Go.Ab
theorem Qjl {l : List UInt8} {d : Int} (h0 : 0 ≤ d) (h : d < 12) {s : List UInt8} {o : Option (X3 × List UInt8)} (ho : RR l (QI (RS l s (d + 1) false)) (d + 1) o) :
  RR l (Q5 false (RS l s d false)) d (o.bind fun xr => some (.neg xr.1,xr.2)) := by
 rw [Q5.eq]; unfold WP
 have c1 : decide (d ≥ 12) = false := decide_eq_false (by omega)
 have wd : w64 (d + 1 - 1) = d := by rw [w64_in (by omega) (by omega)]; omega
 simp only
 rw [c1,cond_false,cond_false,w64_in (n := d + 1) (by omega) (by omega)]
 cases o with
 | none =>
  obtain ⟨e,r,b,h1,h2,h3⟩ := ho
  have h1 : QI ⟨ba l,((l.length - s.length : Nat) : Int),d + 1,false⟩ = some (e,RS l r (d + 1) b) := h1
  rw [h1,Option.bind_some]
  simp only [wd,Option.bind_none]
  exact ⟨_,r,b,rfl,h2,h3⟩
 | some xr =>
  obtain ⟨x,r⟩ := xr
  have h1 : QI ⟨ba l,((l.length - s.length : Nat) : Int),d + 1,false⟩ = some (x.t,RS l r (d + 1) false) := ho
  rw [h1,Option.bind_some]
  simp only [wd,Option.bind_some]
  rfl
theorem Qmj {l : List UInt8} (hl : l.length ≤ 1000000000) {s r : List UInt8} (hs : s <:+ l) (h : dropB s = 45 :: r) (d : Int) : QI (RS l s d false) = Q5 false (RS l r d false) := by
 have hs2 : (45 :: r) <:+ l := by rw [← h]; exact (X5 s).trans hs
 have hd : dropB (45 :: r) = 45 :: r := Xm (by decide)
 rw [QI.eq]; unfold Wp
 simp only [cond_false]
 rw [show h_28 = ba [40] from rfl,is_eq hl [40] (by simp) s hs d false,h,show pre [40] (45 :: r) = false from by simp [pre]]
 simp only [cond_false,Option.bind_some]
 rw [show h_2d = ba [45] from rfl,is_eq hl [45] (by simp) _ hs2 d false,hd,show pre [45] (45 :: r) = true from by simp [pre]]
 simp only [cond_true,Option.bind_some]
 show (Q5 false (RS l r d false)).bind (fun q => some (q.1,q.2)) = _
 cases Q5 false (RS l r d false) <;> rfl
theorem Qps {l : List UInt8} (hl : l.length ≤ 1000000000) {s r : List UInt8} (hs : s <:+ l) (h : dropB s = 46 :: r) (d : Int) : QI (RS l s d false) = some (X3.here.t,RS l r d false) := by
 have hs2 : (46 :: r) <:+ l := by rw [← h]; exact (X5 s).trans hs
 have hd : dropB (46 :: r) = 46 :: r := Xm (by decide)
 rw [QI.eq]; unfold Wp
 simp only [cond_false]
 rw [show h_28 = ba [40] from rfl,is_eq hl [40] (by simp) s hs d false,h,show pre [40] (46 :: r) = false from by simp [pre]]
 simp only [cond_false,Option.bind_some]
 rw [show h_2d = ba [45] from rfl,is_eq hl [45] (by simp) _ hs2 d false,hd,show pre [45] (46 :: r) = false from by simp [pre]]
 simp only [cond_false,Option.bind_some]
 rw [show h_2e = ba [46] from rfl,is_eq hl [46] (by simp) _ hs2 d false,hd,show pre [46] (46 :: r) = true from by simp [pre]]
 rfl
end Go.Ab
namespace Go.Ab
theorem Qmk (w : List UInt8) (hw : w.length ≤ 1000000000) : Xw (ba w) = some (wordB w) := by
 rw [Xw.eq]; unfold QcD
 rw [Qfs w hw]; rfl
end Go.Ab
namespace Go.Ab
def isW (c : UInt8) : Bool := decide (c.toNat = 32 ∨ c.toNat = 9)
def trimR (s : List UInt8) : List UInt8 := (s.reverse.dropWhile isW).reverse
def trimW (s : List UInt8) : List UInt8 := (trimR s).dropWhile isW
theorem u8_eq {c : UInt8} {n : Nat} (hn : n < 256) : ((c.toNat : Int) == (n : Int)) = decide (c = UInt8.ofNat n) := by
 rw [Bool.eq_iff_iff,beq_iff_eq,decide_eq_true_iff]
 have : (UInt8.ofNat n).toNat = n := by simp; omega
 constructor
 ·intro h; exact UInt8.toNat_inj.1 (by omega)
 ·rintro rfl; omega
theorem ba_at (s : List UInt8) {i : Nat} (h : i < s.length) : (ba s).data.getD (Int.toNat (i : Int)) 0 = s[i] := by rw [EM,Int.toNat_natCast]; simp [h]
theorem ba_cut (s : List UInt8) (i j : Nat) : (ba s).extract (Int.toNat (i : Int)) (Int.toNat (j : Int)) = ba ((s.take j).drop i) := by rw [X4,Int.toNat_natCast,Int.toNat_natCast]
theorem isW_eq (c : UInt8) : isW c = (((c.toNat : Int) == 32) || ((c.toNat : Int) == 9)) := by
 unfold isW
 rw [Bool.decide_or]
 congr 1 <;> (rw [Bool.eq_iff_iff,beq_iff_eq,decide_eq_true_iff]; omega)
theorem Qfu (c : UInt8) (t : List UInt8) : trimR (c :: t) = if trimR t = [] then (if isW c then [] else [c]) else c :: trimR t := by
 unfold trimR
 rw [List.reverse_cons,List.dropWhile_append]
 cases h : t.reverse.dropWhile isW with
 | nil =>
  simp only [List.isEmpty_nil,if_true,List.reverse_nil]
  cases hc : isW c <;> simp [List.dropWhile_cons,hc]
 | cons a l => simp
theorem Qbo (s : List UInt8) : trimR (s.dropWhile isW) = trimW s := by
 unfold trimW
 induction s with
 | nil => rfl
 | cons c t ih =>
  rw [Qfu]
  cases hc : isW c with
  | true =>
   rw [List.dropWhile_cons_of_pos hc,ih]
   by_cases h : trimR t = []
   ·rw [if_pos h,h]; simp
   ·rw [if_neg h,List.dropWhile_cons_of_pos hc]
  | false =>
   rw [List.dropWhile_cons_of_neg (by simp [hc]),Qfu,hc]
   by_cases h : trimR t = []
   ·rw [if_pos h]; simp [List.dropWhile_cons,hc]
   ·rw [if_neg h,List.dropWhile_cons_of_neg (by simp [hc])]
theorem P0 (s : List UInt8) (hs : s.length ≤ 1000000000) : Vu (ba s) = some (ba (trimW s)) := by
 have l1 : ∀ s : List UInt8,s.length ≤ 1000000000 → Ww (ba s) = some (ba (s.dropWhile isW)) := by
  intro s
  induction s with
  | nil => intro _; rw [Ww.eq]; rfl
  | cons c t ih =>
   intro hs
   have hl : t.length ≤ 1000000000 := by simp only [List.length_cons] at hs; omega
   rw [Ww.eq]; unfold PP
   have c1 : decide ((((ba (c :: t)).size : Nat) : Int) > 0) = true := decide_eq_true (by rw [QL]; simp only [List.length_cons]; omega)
   have c2 : decide (0 ≤ (0 : Int) ∧ (0 : Int) < (((ba (c :: t)).size : Nat) : Int)) = true := decide_eq_true (by rw [QL]; simp only [List.length_cons]; omega)
   have c3 : decide (0 ≤ (1 : Int) ∧ (1 : Int) ≤ (((ba (c :: t)).size : Nat) : Int) ∧ (((ba (c :: t)).size : Nat) : Int) ≤ (((ba (c :: t)).size : Nat) : Int)) = true := decide_eq_true (by rw [QL]; simp only [List.length_cons]; omega)
   have hg : (ba (c :: t)).data.getD (Int.toNat 0) 0 = c := by rw [EM]; rfl
   have he : (ba (c :: t)).extract (Int.toNat 1) (Int.toNat (((ba (c :: t)).size : Nat) : Int)) = ba t := by
    rw [X4,QL,Int.toNat_natCast,List.take_length]; rfl
   rw [c1,cond_true,c2,cond_true,c3,cond_true,hg,he]
   have hw := isW_eq c
   cases h1 : ((c.toNat : Int) == 32) with
   | true =>
    rw [h1] at hw
    rw [cond_true,List.dropWhile_cons_of_pos (by rw [hw]; rfl)]
    exact ih hl
   | false =>
    rw [h1] at hw
    rw [cond_false]
    cases h2 : ((c.toNat : Int) == 9) with
    | true =>
     rw [h2] at hw
     rw [cond_true,List.dropWhile_cons_of_pos (by rw [hw]; rfl)]
     exact ih hl
    | false =>
     rw [h2] at hw
     rw [cond_false,List.dropWhile_cons_of_neg (by rw [hw]; decide)]
     rfl
 have l2 : ∀ r : List UInt8,r.length ≤ 1000000000 → Wx (ba r.reverse) = some (ba (r.dropWhile isW).reverse) := by
  intro r
  induction r with
  | nil => intro _; rw [Wx.eq]; rfl
  | cons c t ih =>
   intro hs
   have hl : t.length ≤ 1000000000 := by simp only [List.length_cons] at hs; omega
   rw [Wx.eq]; unfold PQ
   have hz : (ba (c :: t).reverse).size = t.length + 1 := by rw [QL,List.length_reverse]; rfl
   have hm : w64 ((((ba (c :: t).reverse).size : Nat) : Int) - 1) = (t.length : Int) := by rw [hz,w64_in (by omega) (by omega)]; omega
   have c1 : decide ((((ba (c :: t).reverse).size : Nat) : Int) > 0) = true := decide_eq_true (by rw [hz]; omega)
   have c2 : decide (0 ≤ (t.length : Int) ∧ (t.length : Int) < (((ba (c :: t).reverse).size : Nat) : Int)) = true := decide_eq_true (by rw [hz]; omega)
   have c3 : decide (0 ≤ (0 : Int) ∧ (0 : Int) ≤ (t.length : Int) ∧ (t.length : Int) ≤ (((ba (c :: t).reverse).size : Nat) : Int)) = true := decide_eq_true (by rw [hz]; omega)
   have hg : (ba (c :: t).reverse).data.getD (Int.toNat (t.length : Int)) 0 = c := by
    rw [EM,Int.toNat_natCast]; simp [List.getD_eq_getElem?_getD]
   have he : (ba (c :: t).reverse).extract (Int.toNat 0) (Int.toNat (t.length : Int)) = ba t.reverse := by
    rw [X4,Int.toNat_natCast]; simp
   rw [hm,c1,cond_true,c2,cond_true,c3,cond_true,hg,he]
   have hw := isW_eq c
   cases h1 : ((c.toNat : Int) == 32) with
   | true =>
    rw [h1] at hw
    rw [cond_true,List.dropWhile_cons_of_pos (by rw [hw]; rfl)]
    exact ih hl
   | false =>
    rw [h1] at hw
    rw [cond_false]
    cases h2 : ((c.toNat : Int) == 9) with
    | true =>
     rw [h2] at hw
     rw [cond_true,List.dropWhile_cons_of_pos (by rw [hw]; rfl)]
     exact ih hl
    | false =>
     rw [h2] at hw
     rw [cond_false,List.dropWhile_cons_of_neg (by rw [hw]; decide)]
     rfl
 rw [Vu.eq]; unfold QcA
 rw [l1 s hs,Option.bind_some]
 have hd : (s.dropWhile isW).length ≤ 1000000000 := Nat.le_trans (List.dropWhile_sublist _).length_le hs
 have := l2 (s.dropWhile isW).reverse (by rw [List.length_reverse]; exact hd)
 rw [List.reverse_reverse] at this
 rw [this,← Qbo]; rfl
def bareQ : Bool → List UInt8 → List UInt8
 | _,[] => []
 | q,c :: t => bif decide (c = 35) && !q then [] else c :: bareQ (bif decide (c = 34) then !q else q) t
theorem Qfv (s : List UInt8) (hs : s.length ≤ 1000000000) : ∀ (g i : Nat) (q : Bool),g + i = s.length → ∃ x,VC ⟨ba s,q,i⟩ = some x ∧ Sum.elim id id x = ba (s.take i ++ bareQ q (s.drop i))
 | 0,i,q,hg => by
  rw [VC.eq]; unfold Ea
  have c1 : decide ((i : Int) < (((ba s).size : Nat) : Int)) = false := decide_eq_false (by rw [QL]; omega)
  simp only
  rw [c1,List.drop_eq_nil_of_le (by omega),List.take_of_length_le (by omega)]
  exact ⟨_,rfl,by simp [bareQ]⟩
 | g + 1,i,q,hg => by
  have hi : i < s.length := by omega
  rw [VC.eq]; unfold Ea
  have c1 : decide ((i : Int) < (((ba s).size : Nat) : Int)) = true := decide_eq_true (by rw [QL]; omega)
  have c2 : decide (0 ≤ (0 : Int) ∧ (0 : Int) ≤ (i : Int) ∧ (i : Int) ≤ (((ba s).size : Nat) : Int)) = true := decide_eq_true (by rw [QL]; omega)
  have c3 : decide (0 ≤ (i : Int) ∧ (i : Int) < (((ba s).size : Nat) : Int)) = true := decide_eq_true (by rw [QL]; omega)
  have he : (ba s).extract (Int.toNat 0) (Int.toNat (i : Int)) = ba (s.take i) := by rw [X4,Int.toNat_natCast]; rfl
  have h35 : (((s[i].toNat : Nat) : Int) == 35) = decide (s[i] = 35) := u8_eq (n := 35) (by decide)
  have h34 : (((s[i].toNat : Nat) : Int) == 34) = decide (s[i] = 34) := u8_eq (n := 34) (by decide)
  simp only
  rw [c1,cond_true,c2,cond_true,c3,cond_true,he,ba_at s hi,h35,h34,w64_in (by omega) (by omega)]
  have hd : s.drop i = s[i] :: s.drop (i + 1) := List.drop_eq_getElem_cons hi
  have ht : s.take (i + 1) = s.take i ++ [s[i]] := List.take_succ_eq_append_getElem hi
  have rcx := fun q' => Qfv s hs g (i + 1) q' (by omega)
  have step : ∀ q',∃ x,VC ⟨ba s,q',(i : Int) + 1⟩ = some x ∧ Sum.elim id id x = ba (s.take i ++ s[i] :: bareQ q' (s.drop (i + 1))) := by
   intro q'
   have := rcx q'
   rw [ht] at this
   rw [← List.append_cons] at this
   exact this
  rw [hd]
  unfold bareQ
  cases h1 : decide (s[i] = 35) with
  | true =>
   have n34 : decide (s[i] = 34) = false := by have := of_decide_eq_true h1; rw [this]; decide
   rw [n34]
   cases q with
   | true => exact step true
   | false => exact ⟨_,rfl,by simp⟩
  | false =>
   cases h2 : decide (s[i] = 34) with
   | true => simp only [cond_true,cond_false,Option.bind_some,Sum.elim_inl,Bool.false_and]; exact step (!q)
   | false => simp only [cond_true,cond_false,Option.bind_some,Sum.elim_inl,Bool.false_and]; exact step q
theorem Qpt (s : List UInt8) (hs : s.length ≤ 1000000000) : YR (ba s) = some (ba (bareQ false s)) := by
 rw [YR.eq]; unfold Qcz
 obtain ⟨x,h1,h2⟩ := Qfv s hs s.length 0 false (by omega)
 have h1 : VC ⟨ba s,false,0⟩ = some x := h1
 rw [h1]
 have h2 : Sum.elim id id x = ba (bareQ false s) := by rw [h2]; simp
 cases x with
 | inl y => simp only [Sum.elim_inl,id] at h2; subst h2; rfl
 | inr y => simp only [Sum.elim_inr,id] at h2; subst h2; rfl
end Go.Ab
namespace Go.Ab
def regS (s : List UInt8) : Option Nat := match s with
 | [c,a] => if c = 114 ∧ isD a = true then some (a.toNat - 48) else none
 | [c,a,b] => if c = 114 ∧ isD a = true ∧ isD b = true ∧ a ≠ 48 ∧ (a.toNat - 48) * 10 + (b.toNat - 48) ≤ 31 then some ((a.toNat - 48) * 10 + (b.toNat - 48)) else none
 | _ => none
theorem regS2 (c a : UInt8) : regS [c,a] = if c = 114 ∧ isD a = true then some (a.toNat - 48) else none := rfl
theorem regS3 (c a b : UInt8) : regS [c,a,b] = if c = 114 ∧ isD a = true ∧ isD b = true ∧ a ≠ 48 ∧ (a.toNat - 48) * 10 + (b.toNat - 48) ≤ 31 then some ((a.toNat - 48) * 10 + (b.toNat - 48)) else none := rfl
theorem u8_ne {c : UInt8} {n : Nat} (hn : n < 256) : ((c.toNat : Int) != (n : Int)) = !decide (c = UInt8.ofNat n) := by
 rw [← u8_eq hn]; rfl
theorem Qer (s : List UInt8) {i : Nat} (hi : i < s.length) (hs : s.length ≤ 1000) (n : Nat) (hn : n ≤ 1000) : Ub ⟨ba s,n,i⟩ = if isD s[i] = true then Ub ⟨ba s,((n * 10 + (s[i].toNat - 48) : Nat) : Int),((i + 1 : Nat) : Int)⟩ else some (.inl (-1)) := by
 rw [Ub.eq]; unfold E1
 have c1 : decide ((i : Int) < (((ba s).size : Nat) : Int)) = true := decide_eq_true (by rw [QL]; omega)
 have c2 : decide (0 ≤ (i : Int) ∧ (i : Int) < (((ba s).size : Nat) : Int)) = true := decide_eq_true (by rw [QL]; omega)
 simp only
 rw [c1,cond_true,c2,cond_true,ba_at s hi]
 generalize s[i] = c
 unfold isD
 by_cases h : 48 ≤ c.toNat ∧ c.toNat ≤ 57
 ·have d1 : decide ((c.toNat : Int) < 48) = false := decide_eq_false (by omega)
  have d2 : decide ((c.toNat : Int) > 57) = false := decide_eq_false (by omega)
  rw [d1,cond_false,d2,cond_false,if_pos (decide_eq_true h),u8_in (by omega) (by omega),w64_in (n := (c.toNat : Int) - 48) (by omega) (by omega),w64_in (n := 10 * (n : Int)) (by omega) (by omega),w64_in (by omega) (by omega),w64_in (by omega) (by omega)]
  simp only [Option.bind_some,Sum.elim_inl]
  congr 2
  omega
 ·rw [if_neg (by simp only [decide_eq_true_eq]; exact h)]
  by_cases h1 : c.toNat < 48
  ·have d1 : decide ((c.toNat : Int) < 48) = true := decide_eq_true (by omega)
   rw [d1]; rfl
  ·have d1 : decide ((c.toNat : Int) < 48) = false := decide_eq_false (by omega)
   have d2 : decide ((c.toNat : Int) > 57) = true := decide_eq_true (by omega)
   rw [d1,d2]; rfl
theorem QkT (s : List UInt8) {i : Nat} (hi : s.length ≤ i) (n : Int) : Ub ⟨ba s,n,i⟩ = some (.inr n) := by
 rw [Ub.eq]; unfold E1
 have c1 : decide ((i : Int) < (((ba s).size : Nat) : Int)) = false := decide_eq_false (by rw [QL]; omega)
 simp only
 rw [c1]; rfl
theorem QqC (s : List UInt8) : ZI (ba s) = some (match regS s with | some n => (n : Int) | none => -1) := by
 rw [ZI.eq]; unfold Qec
 match s with
 | [] => rfl
 | [c] => rfl
 | c :: a :: b :: d :: t =>
  have c1 : decide ((((ba (c :: a :: b :: d :: t)).size : Nat) : Int) < 2) = false := decide_eq_false (by rw [QL]; simp only [List.length_cons]; omega)
  have c2 : decide ((((ba (c :: a :: b :: d :: t)).size : Nat) : Int) > 3) = true := decide_eq_true (by rw [QL]; simp only [List.length_cons]; omega)
  rw [c1,cond_false,c2,cond_true]
  rfl
 | [c,a] =>
  have c1 : decide ((((ba [c,a]).size : Nat) : Int) < 2) = false := rfl
  have c2 : decide ((((ba [c,a]).size : Nat) : Int) > 3) = false := rfl
  have c6 : decide ((((ba [c,a]).size : Nat) : Int) > 2) = false := rfl
  have c3 : decide (0 ≤ (0 : Int) ∧ (0 : Int) < (((ba [c,a]).size : Nat) : Int)) = true := by rw [QL]; rfl
  have c5 : decide (0 ≤ (1 : Int) ∧ (1 : Int) < (((ba [c,a]).size : Nat) : Int)) = true := by rw [QL]; rfl
  have hg : (ba [c,a]).data.getD (Int.toNat 0) 0 = c := rfl
  have h114 : ((c.toNat : Int) != 114) = !decide (c = 114) := u8_ne (n := 114) (by decide)
  have hl : Ub ⟨ba [c,a],0,1⟩ = if isD a = true then Ub ⟨ba [c,a],((0 * 10 + (a.toNat - 48) : Nat) : Int),((2 : Nat) : Int)⟩ else some (.inl (-1)) := Qer [c,a] (i := 1) (by simp) (by simp) 0 (by omega)
  have he := fun n => QkT [c,a] (i := 2) (by simp) n
  rw [c1,cond_false,c2,cond_false,c3,cond_true,c5,cond_true,c6,cond_false,hg,h114,hl,he]
  rw [regS2]
  cases hc : decide (c = 114) with
  | false =>
   have hc := of_decide_eq_false hc
   rw [if_neg (c := c = 114 ∧ isD a = true) (fun h => hc h.1)]; rfl
  | true =>
   have hc := of_decide_eq_true hc
   simp only [Bool.not_true,cond_false]
   cases ha : isD a with
   | false =>
    rw [if_neg (c := c = 114 ∧ false = true) (fun h => by cases h.2),if_neg (by decide)]
    cases (((ba [c,a]).data.getD (Int.toNat 1) 0).toNat : Int) == 48 <;> rfl
   | true =>
    have hd := ha
    unfold isD at hd
    have hd := of_decide_eq_true hd
    rw [if_pos (c := c = 114 ∧ true = true) ⟨hc,rfl⟩,if_pos rfl]
    have d : decide (((0 * 10 + (a.toNat - 48) : Nat) : Int) > 31) = false := decide_eq_false (by omega)
    simp only [Option.bind_some,Sum.elim_inr,d,cond_false]
    rw [Nat.zero_mul,Nat.zero_add]
    cases (((ba [c,a]).data.getD (Int.toNat 1) 0).toNat : Int) == 48 <;> rfl
 | [c, a,b] =>
  have c1 : decide ((((ba [c,a,b]).size : Nat) : Int) < 2) = false := rfl
  have c2 : decide ((((ba [c,a,b]).size : Nat) : Int) > 3) = false := rfl
  have c6 : decide ((((ba [c,a,b]).size : Nat) : Int) > 2) = true := rfl
  have c3 : decide (0 ≤ (0 : Int) ∧ (0 : Int) < (((ba [c,a,b]).size : Nat) : Int)) = true := by rw [QL]; rfl
  have c5 : decide (0 ≤ (1 : Int) ∧ (1 : Int) < (((ba [c,a,b]).size : Nat) : Int)) = true := by rw [QL]; rfl
  have hg : (ba [c,a,b]).data.getD (Int.toNat 0) 0 = c := rfl
  have hg1 : (ba [c,a,b]).data.getD (Int.toNat 1) 0 = a := rfl
  have h114 : ((c.toNat : Int) != 114) = !decide (c = 114) := u8_ne (n := 114) (by decide)
  have h48 : ((a.toNat : Int) == 48) = decide (a = 48) := u8_eq (n := 48) (by decide)
  have hl : Ub ⟨ba [c,a,b],0,1⟩ = if isD a = true then Ub ⟨ba [c,a,b],((0 * 10 + (a.toNat - 48) : Nat) : Int),((2 : Nat) : Int)⟩ else some (.inl (-1)) := Qer [c,a,b] (i := 1) (by simp) (by simp) 0 (by omega)
  have hlt := a.toNat_lt
  have hl2 : Ub ⟨ba [c,a,b],((0 * 10 + (a.toNat - 48) : Nat) : Int),((2 : Nat) : Int)⟩ = if isD b = true then Ub ⟨ba [c,a,b],(((0 * 10 + (a.toNat - 48)) * 10 + (b.toNat - 48) : Nat) : Int),((3 : Nat) : Int)⟩ else some (.inl (-1)) := Qer [c,a,b] (i := 2) (by simp) (by simp) _ (by omega)
  have he := fun n => QkT [c,a,b] (i := 3) (by simp) n
  rw [c1,cond_false,c2,cond_false,c3,cond_true,c5,cond_true,c6,cond_true,hg,hg1,h114,h48,hl,hl2,he]
  rw [Nat.zero_mul,Nat.zero_add]
  rw [regS3]
  cases hc : decide (c = 114) with
  | false =>
   have hc := of_decide_eq_false hc
   rw [if_neg (c := c = 114 ∧ _) (fun h => hc h.1)]; rfl
  | true =>
   have hc := of_decide_eq_true hc
   simp only [Bool.not_true,cond_false]
   cases h0 : decide (a = 48) with
   | true =>
    have h0 := of_decide_eq_true h0
    rw [if_neg (c := c = 114 ∧ _) (fun h => h.2.2.2.1 h0)]; rfl
   | false =>
    have h0 := of_decide_eq_false h0
    rw [cond_false]
    cases ha : isD a with
    | false => rw [if_neg (c := c = 114 ∧ _) (fun h => by cases h.2.1),if_neg (by decide)]; rfl
    | true =>
     rw [if_pos rfl]
     cases hb : isD b with
     | false => rw [if_neg (c := c = 114 ∧ _) (fun h => by cases h.2.2.1),if_neg (by decide)]; rfl
     | true =>
      rw [if_pos rfl]
      simp only [Option.bind_some,Sum.elim_inr]
      by_cases h31 : (a.toNat - 48) * 10 + (b.toNat - 48) ≤ 31
      ·have d : decide ((((a.toNat - 48) * 10 + (b.toNat - 48) : Nat) : Int) > 31) = false := decide_eq_false (by omega)
       rw [if_pos (c := c = 114 ∧ _) ⟨hc,by simp,by simp,h0,h31⟩,d]; rfl
      ·have d : decide ((((a.toNat - 48) * 10 + (b.toNat - 48) : Nat) : Int) > 31) = true := decide_eq_true (by omega)
       rw [if_neg (c := c = 114 ∧ _) (fun h => h31 h.2.2.2.2),d]; rfl
end Go.Ab
namespace Go.Ab
end Go.Ab
namespace Go.Ab
theorem Pd (c : UInt8) (s : List UInt8) : splL c s ≠ [] := by
 cases s with
 | nil => simp [splL]
 | cons b t =>
  rw [splL]
  split
  ·simp
  ·split <;> simp
theorem Yv (c : UInt8) (t : List UInt8) : splL c (c :: t) = [] :: splL c t := by rw [splL,if_pos rfl]
theorem Xc {c b : UInt8} (h : b ≠ c) {t : List UInt8} {p : List UInt8} {ps : List (List UInt8)} (e : splL c t = p :: ps) : splL c (b :: t) = (b :: p) :: ps := by
 rw [splL,if_neg h,e]
def opsS (s : List UInt8) : List (List UInt8) := if s = [] then [] else (splL 44 s).map trimW
def partsQ : Bool → List UInt8 → List UInt8 → List (List UInt8)
 | _,cur,[] => [cur]
 | q,cur,c :: t => bif decide (c = 34) then partsQ (!q) (cur ++ [c]) t else bif decide (c = 44) && !q then cur :: partsQ q [] t else partsQ q (cur ++ [c]) t
theorem most16 {n : Nat} (h : n ≤ 1000000001) : decide (n * 16 ≤ most) = true := decide_eq_true (by show n * 16 ≤ 140737488355328; omega)
theorem F7 (s : List UInt8) (hs : s.length ≤ 1000000000) : ∀ (g i at_ : Nat) (q : Bool) (out : List ByteArray),g + i = s.length → at_ ≤ i → out.length ≤ i →
  Ux ⟨ba s,q,at_,i,out⟩ = some (out ++ (partsQ q ((s.take i).drop at_) (s.drop i)).map fun p => ba (trimW p))
 | 0,i,at_,q,out,hg,ha,ho => by
  have hsz : (ba s).size = i := by rw [QL]; omega
  rw [Ux.eq]; unfold YN
  have c1 : decide ((i : Int) ≤ (((ba s).size : Nat) : Int)) = true := decide_eq_true (by omega)
  have c2 : decide ((i : Int) < (((ba s).size : Nat) : Int)) = false := decide_eq_false (by omega)
  have c3 : ((i : Int) == (((ba s).size : Nat) : Int)) = true := by rw [beq_iff_eq]; omega
  have c4 : decide (0 ≤ (at_ : Int) ∧ (at_ : Int) ≤ (i : Int) ∧ (i : Int) ≤ (((ba s).size : Nat) : Int)) = true := decide_eq_true (by omega)
  simp only
  rw [c1,cond_true,c2,cond_false,c3,cond_true,c4,cond_true,ba_cut,P0 _ (by rw [List.length_drop,List.length_take]; omega)]
  have hm : decide ((out.length + [ba (trimW ((s.take i).drop at_))].length) * 16 ≤ most) = true := most16 (by simp only [List.length_singleton]; omega)
  simp only [Option.bind_some]
  rw [hm,cond_true,w64_in (by omega) (by omega)]
  simp only [Option.bind_some,Sum.elim_inl]
  rw [Ux.eq]; unfold YN
  have d1 : decide ((i : Int) + 1 ≤ (((ba s).size : Nat) : Int)) = false := decide_eq_false (by omega)
  simp only
  rw [d1,List.drop_eq_nil_of_le (by omega : s.length ≤ i)]
  rfl
 | g + 1,i,at_,q,out,hg,ha,ho => by
  have hi : i < s.length := by omega
  have hsz : (ba s).size = s.length := QL s
  rw [Ux.eq]; unfold YN
  have c1 : decide ((i : Int) ≤ (((ba s).size : Nat) : Int)) = true := decide_eq_true (by omega)
  have c2 : decide ((i : Int) < (((ba s).size : Nat) : Int)) = true := decide_eq_true (by omega)
  have c3 : ((i : Int) == (((ba s).size : Nat) : Int)) = false := by rw [beq_eq_false_iff_ne]; omega
  have c4 : decide (0 ≤ (at_ : Int) ∧ (at_ : Int) ≤ (i : Int) ∧ (i : Int) ≤ (((ba s).size : Nat) : Int)) = true := decide_eq_true (by omega)
  have c5 : decide (0 ≤ (i : Int) ∧ (i : Int) < (((ba s).size : Nat) : Int)) = true := decide_eq_true (by omega)
  have h34 : (((s[i].toNat : Nat) : Int) == 34) = decide (s[i] = 34) := u8_eq (n := 34) (by decide)
  have h44 : (((s[i].toNat : Nat) : Int) == 44) = decide (s[i] = 44) := u8_eq (n := 44) (by decide)
  have hm : ∀ r : ByteArray,decide ((out.length + [r].length) * 16 ≤ most) = true := fun r => most16 (by simp only [List.length_singleton]; omega)
  have hcur : (s.take (i + 1)).drop at_ = (s.take i).drop at_ ++ [s[i]] := by
   rw [List.take_succ_eq_append_getElem hi,List.drop_append_of_le_length (by rw [List.length_take]; omega)]
  have hcur0 : (s.take (i + 1)).drop (i + 1) = [] := List.drop_eq_nil_of_le (by rw [List.length_take]; omega)
  simp only
  rw [c1,cond_true,c2,cond_true,c3,cond_false,cond_false,c4,cond_true,c5,cond_true,ba_at s hi,ba_cut,P0 _ (by rw [List.length_drop,List.length_take]; omega),h34,h44,w64_in (by omega) (by omega),List.drop_eq_getElem_cons hi]
  unfold partsQ
  simp only [Option.bind_some,hm,cond_true]
  have go1 := F7 s hs g (i + 1) at_ (!q) out (by omega) (by omega) (by omega)
  have go2 := F7 s hs g (i + 1) at_ q out (by omega) (by omega) (by omega)
  have go3 := F7 s hs g (i + 1) (i + 1) q (out ++ [ba (trimW ((s.take i).drop at_))]) (by omega) (by omega) (by simp; omega)
  rw [hcur] at go1 go2
  rw [hcur0] at go3
  have go1 : Ux ⟨ba s,!q,at_,(i : Int) + 1,out⟩ = _ := go1
  have go2 : Ux ⟨ba s,q,at_,(i : Int) + 1,out⟩ = _ := go2
  have go3 : Ux ⟨ba s,q,(i : Int) + 1,(i : Int) + 1,out ++ [ba (trimW ((s.take i).drop at_))]⟩ = _ := go3
  cases e34 : decide (s[i] = 34) with
  | true =>
   have e44 : decide (s[i] = 44) = false := by have := of_decide_eq_true e34; rw [this]; decide
   rw [e44]
   simp only [cond_true,cond_false,Option.bind_some,Sum.elim_inl]
   exact go1
  | false =>
   cases e44 : decide (s[i] = 44) with
   | false =>
    simp only [cond_true,cond_false,Option.bind_some,Sum.elim_inl,Bool.false_and]
    exact go2
   | true =>
    cases q with
    | true =>
     simp only [cond_true,cond_false,Option.bind_some,Sum.elim_inl,Bool.true_and,Bool.not_true]
     exact go2
    | false =>
     simp only [cond_true,cond_false,Option.bind_some,Sum.elim_inl,Bool.true_and,Bool.not_false]
     rw [go3]; simp
theorem QnQ (s : List UInt8) (hs : s.length ≤ 1000000000) : Yd (ba s) = some ((partsQ false [] s).map fun p => ba (trimW p)) := by
 rw [Yd.eq]; unfold Qa8
 have := F7 s hs s.length 0 0 false [] (by omega) (by omega) (by simp)
 have : Ux ⟨ba s,false,0,0,[]⟩ = _ := this
 rw [this]; simp
end Go.Ab
namespace Go.Ab
theorem SM : ∀ (s cur : List UInt8),34 ∉ s → ∃ p ps,splL 44 s = p :: ps ∧ partsQ false cur s = (cur ++ p) :: ps
 | [],cur,h => ⟨[],[],rfl,by simp [partsQ]⟩
 | c :: t,cur,h => by
  have hc : c ≠ 34 := fun e => h (by simp [e])
  have ht : 34 ∉ t := fun e => h (by simp [e])
  unfold partsQ
  rw [decide_eq_false hc,cond_false]
  by_cases h44 : c = 44
  ·subst h44
   obtain ⟨p,ps,e1,e2⟩ := SM t [] ht
   refine ⟨[],p :: ps,by rw [Yv,e1],?_⟩
   rw [e2]; simp
  ·obtain ⟨p,ps,e1,e2⟩ := SM t (cur ++ [c]) ht
   refine ⟨c :: p,ps,Xc h44 e1,?_⟩
   rw [decide_eq_false h44,e2]; simp
theorem F8 {c : UInt8} (hc : isW c = true) (s : List UInt8) : trimW (c :: s) = trimW s := by
 rw [← Qbo,← Qbo,List.dropWhile_cons_of_pos hc]
theorem Qml {c : UInt8} (hc : isW c = true) (s : List UInt8) : trimR (s ++ [c]) = trimR s := by
 unfold trimR
 rw [List.reverse_append]
 show ((c :: s.reverse).dropWhile isW).reverse = _
 rw [List.dropWhile_cons_of_pos hc]
theorem Qmm {c : UInt8} (hc : isW c = true) (s : List UInt8) : trimW (s ++ [c]) = trimW s := by
 unfold trimW; rw [Qml hc]
theorem isW_44 {c : UInt8} (hc : isW c = true) : c ≠ 44 := by rintro rfl; cases hc
theorem Qjm {c : UInt8} (hc : isW c = true) (s : List UInt8) : (splL 44 (c :: s)).map trimW = (splL 44 s).map trimW := by
 cases e : splL 44 s with
 | nil => exact absurd e (Pd 44 s)
 | cons p ps => rw [Xc (isW_44 hc) e,List.map_cons,List.map_cons,F8 hc]
theorem Qjn {c : UInt8} (hc : isW c = true) : ∀ s : List UInt8,(splL 44 (s ++ [c])).map trimW = (splL 44 s).map trimW
 | [] => by
  show (splL 44 [c]).map trimW = _
  exact Qjm hc []
 | b :: t => by
  have ih := Qjn hc t
  rw [List.cons_append]
  by_cases h : b = 44
  ·subst h; rw [Yv,Yv,List.map_cons,List.map_cons,ih]
  ·have hne1 := Pd 44 (t ++ [c])
   have hne2 := Pd 44 t
   have key : ∀ u : List UInt8,(splL 44 u).length = 1 ↔ 44 ∉ u := by
    intro u
    induction u with
    | nil => simp [splL]
    | cons x u ihu =>
     by_cases hx : x = 44
     ·subst hx; rw [Yv]; simp [Pd]
     ·cases e : splL 44 u with
      | nil => exact absurd e (Pd 44 u)
      | cons p ps =>
       rw [Xc hx e]
       rw [e] at ihu
       simp only [List.length_cons] at ihu ⊢
       rw [ihu]
       simp [Ne.symm hx]
   cases e1 : splL 44 (t ++ [c]) with
   | nil => exact absurd e1 hne1
   | cons p ps =>
    cases e2 : splL 44 t with
    | nil => exact absurd e2 hne2
    | cons q qs =>
     rw [Xc h e1,Xc h e2]
     rw [e1,e2] at ih
     simp only [List.map_cons,List.cons.injEq] at ih ⊢
     refine ⟨?_,ih.2⟩
     have first : ∀ u : List UInt8,∀ p ps,splL 44 u = p :: ps → p = u.takeWhile (· != 44) := by
      intro u
      induction u with
      | nil => intro p ps e; cases e; rfl
      | cons x u ihu =>
       intro p ps e
       by_cases hx : x = 44
       ·subst hx; rw [Yv] at e; cases e; simp
       ·cases e' : splL 44 u with
        | nil => exact absurd e' (Pd 44 u)
        | cons p' ps' =>
         rw [Xc hx e'] at e
         rw [← (List.cons.inj e).1,ihu p' ps' e',List.takeWhile_cons_of_pos (by simpa using hx)]
     have f1 := first _ _ _ e1
     have f2 := first _ _ _ e2
     by_cases hm : 44 ∈ t
     ·have : (t ++ [c]).takeWhile (· != 44) = t.takeWhile (· != 44) := by
       rw [List.takeWhile_append]
       have : ¬ (t.takeWhile (· != 44)).length = t.length := by
        intro hl
        have hp := (List.takeWhile_prefix (· != 44) (l := t)).eq_of_length hl
        have := List.all_takeWhile (p := (· != 44)) (l := t)
        rw [hp] at this
        have := List.all_eq_true.1 this 44 hm
        simp at this
       rw [if_neg this]
      rw [f1,f2,this]
     ·have ht : t.takeWhile (· != 44) = t := by
       have : t.all (· != 44) = true := List.all_eq_true.2 fun x hx => by simp; rintro rfl; exact hm hx
       have := (Fw (r := []) this (fun c t e => by cases e)).1
       rwa [List.append_nil] at this
      have htc : (t ++ [c]).takeWhile (· != 44) = t ++ [c] := by
       have : (t ++ [c]).all (· != 44) = true := List.all_eq_true.2 fun x hx => by
        simp only [List.mem_append,List.mem_singleton] at hx
        simp
        rintro rfl
        rcases hx with hx | hx
        ·exact hm hx
        ·exact isW_44 hc hx.symm
       have := (Fw (r := []) this (fun c t e => by cases e)).1
       rwa [List.append_nil] at this
      rw [f1,f2,ht,htc,← List.cons_append,Qmm hc]
theorem dec_R (s : List UInt8) : ∃ b,s = trimR s ++ b ∧ b.all isW = true := by
 refine ⟨(s.reverse.takeWhile isW).reverse,?_,by rw [List.all_reverse]; exact List.all_takeWhile⟩
 unfold trimR
 rw [← List.reverse_append,List.takeWhile_append_dropWhile,List.reverse_reverse]
theorem dec_W (s : List UInt8) : ∃ a b,s = a ++ (trimW s ++ b) ∧ a.all isW = true ∧ b.all isW = true := by
 obtain ⟨b,h1,h2⟩ := dec_R s
 refine ⟨(trimR s).takeWhile isW,b,?_,List.all_takeWhile,h2⟩
 unfold trimW
 rw [← List.append_assoc,List.takeWhile_append_dropWhile,← h1]
theorem QkU : ∀ (a s : List UInt8),a.all isW = true → (splL 44 (a ++ s)).map trimW = (splL 44 s).map trimW
 | [],s,_ => rfl
 | c :: a,s,h => by
  simp only [List.all_cons,Bool.and_eq_true] at h
  rw [List.cons_append,Qjm h.1,QkU a s h.2]
theorem Qjo : ∀ (b s : List UInt8),b.all isW = true → (splL 44 (s ++ b)).map trimW = (splL 44 s).map trimW
 | [],s,_ => by rw [List.append_nil]
 | c :: b,s,h => by
  simp only [List.all_cons,Bool.and_eq_true] at h
  have e : s ++ c :: b = (s ++ [c]) ++ b := by simp
  rw [e,Qjo b (s ++ [c]) h.2,Qjn h.1]
theorem Qpu (s : List UInt8) : (splL 44 (trimW s)).map trimW = (splL 44 s).map trimW := by
 obtain ⟨a,b,h1,h2,h3⟩ := dec_W s
 generalize trimW s = t at h1
 rw [h1,QkU a _ h2,Qjo b _ h3]
theorem Qmn (s : List UInt8) (h : 34 ∉ s) : (partsQ false [] s).map trimW = (splL 44 s).map trimW := by
 obtain ⟨p,ps,e1,e2⟩ := SM s [] h
 rw [e1,e2]; rfl
end Go.Ab
namespace Go.Ab
end Go.Ab
set_option maxRecDepth 100000
namespace Go.Ab
theorem QnR {k : Nat} {r : Qz} (h : D0[k]? = some r) : Wm (k : Int) = some r.Kinds := by
 rw [Wm.eq]; unfold FY
 rw [PX,Qbi _ D0 0 k r Qbh h (by omega)]; rfl
theorem Qjp {k : Nat} {r : Qz} (h : D0[k]? = some r) : WZ (k : Int) = some r.Name := by
 rw [WZ.eq]; unfold Fv
 rw [PX,Qbi _ D0 0 k r Qbh h (by omega)]; rfl
end Go.Ab
set_option maxRecDepth 100000
namespace Go.Ab
def boolsC : List ByteArray → Option (List Bool)
 | [] => some []
 | e :: l => if e.size ≤ 1000 then (containsS JE ((h_20 ++ e) ++ h_20)).bind fun b => (boolsC l).map (b :: ·) else none
noncomputable def boolsR : List ByteArray → Option (List Bool)
 | [] => some []
 | e :: l => (UQ.s 200 e).bind fun b => (boolsR l).map (b :: ·)
noncomputable def kindsP (k : Nat) : Option (List ByteArray × List ByteArray × List Bool) := match Ur.s 200 k,D0[k]? with
 | some a,some r => match fieldsS a,JF.s 200 r.Kinds with
  | some l,some m => match boolsC l,boolsR m with
   | some x,some y => if x = y ∧ l.length ≤ 8 then some (l,m,x) else none
   | _,_ => none
  | _,_ => none
 | _,_ => none
theorem kp_0 : ((List.range' 0 11).all fun k => (kindsP k).isSome) = true := by kernel_rfl
theorem kp_1 : ((List.range' 11 11).all fun k => (kindsP k).isSome) = true := by kernel_rfl
theorem kp_2 : ((List.range' 22 11).all fun k => (kindsP k).isSome) = true := by kernel_rfl
theorem kp_3 : ((List.range' 33 11).all fun k => (kindsP k).isSome) = true := by kernel_rfl
theorem kp_4 : ((List.range' 44 11).all fun k => (kindsP k).isSome) = true := by kernel_rfl
theorem kp_5 : ((List.range' 55 11).all fun k => (kindsP k).isSome) = true := by kernel_rfl
theorem kp_of {s n k : Nat} (h : ((List.range' s n).all fun k => (kindsP k).isSome) = true) (h1 : s ≤ k) (h2 : k < s + n) : (kindsP k).isSome = true := List.all_eq_true.1 h k (List.mem_range'_1.2 ⟨h1,h2⟩)
theorem kp_all {k : Nat} (h : k < 66) : (kindsP k).isSome = true := by
 rcases Nat.lt_or_ge k 11 with h' | h'
 ·exact kp_of kp_0 (by omega) (by omega)
 rcases Nat.lt_or_ge k 22 with h' | h'
 ·exact kp_of kp_1 (by omega) (by omega)
 rcases Nat.lt_or_ge k 33 with h' | h'
 ·exact kp_of kp_2 (by omega) (by omega)
 rcases Nat.lt_or_ge k 44 with h' | h'
 ·exact kp_of kp_3 (by omega) (by omega)
 rcases Nat.lt_or_ge k 55 with h' | h'
 ·exact kp_of kp_4 (by omega) (by omega)
 exact kp_of kp_5 (by omega) (by omega)
noncomputable def RG (k : Nat) : List Bool := ((kindsP k).getD ([],[],[])).2.2
theorem Qhd : ∀ (m : List ByteArray) (y : List Bool),boolsR m = some y → m.length = y.length ∧ ∀ (i : Nat) (h : i < m.length),UQ m[i] = some (y.getD i false)
 | [],y,h => by cases h; exact ⟨rfl,fun i h => absurd h (by simp)⟩
 | e :: l,y,h => by
  simp only [boolsR] at h
  obtain ⟨b,h1,h⟩ := Option.bind_eq_some_iff.1 h
  obtain ⟨z,h2,h⟩ := Option.map_eq_some_iff.1 h
  subst h
  obtain ⟨h3,h4⟩ := Qhd l z h2
  refine ⟨by simp [h3],fun i hi => ?_⟩
  cases i with
  | zero => exact Jj (UQ.cv e) 200 h1
  | succ i => simpa using h4 i (by simpa using hi)
theorem Qjq {k : Nat} (hk : k < 66) : ∃ a l b m,Ur (k : Int) = some a ∧ Jv a = some l ∧ l.length ≤ 8 ∧ boolsC l = some (RG k) ∧ Wm (k : Int) = some b ∧ JF b = some m ∧ m.length = (RG k).length ∧ ∀ (i : Nat) (h : i < m.length),UQ m[i] = some ((RG k).getD i false) := by
 obtain ⟨q,hq⟩ := Option.isSome_iff_exists.1 (kp_all hk)
 have hR : RG k = q.2.2 := by unfold RG; rw [hq]; rfl
 unfold kindsP at hq
 cases h1 : Ur.s 200 (k : Int) with
 | none => rw [h1] at hq; cases hq
 | some a =>
  cases h2 : D0[k]? with
  | none => rw [h1,h2] at hq; cases hq
  | some r =>
   rw [h1,h2] at hq
   simp only at hq
   cases h3 : fieldsS a with
   | none => rw [h3] at hq; cases hq
   | some l =>
    cases h4 : JF.s 200 r.Kinds with
    | none => rw [h3,h4] at hq; cases hq
    | some m =>
     rw [h3,h4] at hq
     simp only at hq
     cases h5 : boolsC l with
     | none => rw [h5] at hq; cases hq
     | some x =>
      cases h6 : boolsR m with
      | none => rw [h5,h6] at hq; cases hq
      | some y =>
       rw [h5,h6] at hq
       simp only at hq
       split at hq
       ·rename_i hxy
        cases hq
        obtain ⟨g1,g2⟩ := Qhd m y h6
        rw [← hxy.1] at g1 g2
        rw [hR]
        exact ⟨a,l,r.Kinds,m,Jj (Ur.cv _) 200 h1,h3,hxy.2,h5,QnR h2,Jj (JF.cv _) 200 h4,g1,g2⟩
       ·cases hq
theorem Qfw : ∀ (l : List ByteArray) (y : List Bool),boolsC l = some y → l.length = y.length
 | [],y,h => by cases h; rfl
 | e :: l,y,h => by
  simp only [boolsC] at h
  split at h
  ·obtain ⟨b,h1,h⟩ := Option.bind_eq_some_iff.1 h
   obtain ⟨z,h2,h⟩ := Option.map_eq_some_iff.1 h
   subst h
   simp [Qfw l z h2]
  ·cases h
end Go.Ab
set_option maxRecDepth 100000
namespace Go.Ab
abbrev SQ := Int × Int × ByteArray × List Qg
end Go.Ab
set_option maxRecDepth 100000
namespace Go.Ab
end Go.Ab
set_option maxRecDepth 100000
namespace Go.Ab
abbrev E_st : Qf := ⟨0,s_,0,0,s_,[]⟩
def mkS (lb : ByteArray) (q : SQ) : Qf := ⟨1,lb,q.1,q.2.1,q.2.2.1,q.2.2.2⟩
abbrev nb (c : UInt8) : Bool := !isW c
theorem Qgk {p : UInt8 → Bool} (s : List UInt8) : s.take (s.takeWhile p).length = s.takeWhile p ∧ s.drop (s.takeWhile p).length = s.dropWhile p := by
 have h := List.takeWhile_append_dropWhile (p := p) (l := s)
 refine ⟨(List.prefix_iff_eq_take.1 (List.takeWhile_prefix p)).symm,?_⟩
 have := congrArg (List.drop (s.takeWhile p).length) h
 rw [List.drop_left] at this
 exact this.symm
theorem tw_le {p : UInt8 → Bool} (s : List UInt8) : (s.takeWhile p).length ≤ s.length := (List.takeWhile_prefix p).length_le
theorem dw_le {p : UInt8 → Bool} (s : List UInt8) : (s.dropWhile p).length ≤ s.length := (List.dropWhile_suffix p).length_le
theorem QkV (s : List UInt8) : eqS (ba s) s_ = decide (s = []) := by rw [show s_ = ba [] from rfl,eqS_ba]
end Go.Ab
set_option maxRecDepth 100000
namespace Go.Ab
theorem isI_58 : isI 58 = false := by decide
def labS (b : List UInt8) : Option (List UInt8 × List UInt8) := match b.dropWhile isI with
 | c :: t => if c = 58 ∧ wordB (b.takeWhile isI) = true then some (b.takeWhile isI,trimW t) else none
 | [] => none
def labX (b : List UInt8) : Vm ⊕ ByteArray := match labS b with | some (w,t) => .inl ⟨ba w,ba t⟩ | none => .inr (ba b)
theorem Qpv {w : List UInt8} (h : wordB w = true) : w.all isI = true := (Qfr h).choose_spec.choose_spec.2.2.2
theorem Qfx (b : List UInt8) (hb : b.length ≤ 10000000) : ∀ (g i : Nat),g + i = b.length → Vc ⟨ba b,i⟩ = some (if i ≤ (b.takeWhile isI).length then labX b else .inr (ba b))
 | 0,i,hg => by
  rw [Vc.eq]; unfold ZX
  have c1 : decide ((i : Int) < (((ba b).size : Nat) : Int)) = false := decide_eq_false (by rw [QL]; omega)
  simp only
  rw [c1]
  by_cases h : i ≤ (b.takeWhile isI).length
  ·rw [if_pos h]
   have hl : b.dropWhile isI = [] := by
    have := congrArg List.length (List.takeWhile_append_dropWhile (p := isI) (l := b))
    rw [List.length_append] at this
    exact List.eq_nil_of_length_eq_zero (by omega)
   unfold labX labS
   rw [hl]; rfl
  ·rw [if_neg h]; rfl
 | g + 1,i,hg => by
  have hi : i < b.length := by omega
  have ih := Qfx b hb g (i + 1) (by omega)
  have ih : Vc ⟨ba b,(i : Int) + 1⟩ = _ := ih
  rw [Vc.eq]; unfold ZX
  have c1 : decide ((i : Int) < (((ba b).size : Nat) : Int)) = true := decide_eq_true (by rw [QL]; omega)
  have c2 : decide (0 ≤ (i : Int) ∧ (i : Int) < (((ba b).size : Nat) : Int)) = true := decide_eq_true (by rw [QL]; omega)
  have c3 : decide (0 ≤ (0 : Int) ∧ (0 : Int) ≤ (i : Int) ∧ (i : Int) ≤ (((ba b).size : Nat) : Int)) = true := decide_eq_true (by rw [QL]; omega)
  have c4 : decide (0 ≤ (i : Int) + 1 ∧ (i : Int) + 1 ≤ (((ba b).size : Nat) : Int) ∧ (((ba b).size : Nat) : Int) ≤ (((ba b).size : Nat) : Int)) = true := decide_eq_true (by rw [QL]; omega)
  have h58 : ((b[i].toNat : Int) == 58) = decide (b[i] = 58) := u8_eq (n := 58) (by decide)
  have hx : (ba b).extract (Int.toNat 0) (Int.toNat (i : Int)) = ba (b.take i) := by rw [X4,Int.toNat_natCast]; rfl
  have hy : (ba b).extract (Int.toNat ((i : Int) + 1)) (Int.toNat (((ba b).size : Nat) : Int)) = ba (b.drop (i + 1)) := by
   rw [show (i : Int) + 1 = ((i + 1 : Nat) : Int) from by omega,ba_cut,QL,List.take_length]
  simp only
  rw [c1,cond_true,c2,cond_true,c3,cond_true,ba_at b hi,h58,hx,w64_in (by omega) (by omega),c4,cond_true,hy,Qmk _ (by rw [List.length_take]; omega)]
  obtain ⟨t1,t2⟩ := Qgk (p := isI) b
  have hn := tw_le (p := isI) b
  have at_n : i = (b.takeWhile isI).length → b.dropWhile isI = b[i] :: b.drop (i + 1) := by
   intro e
   rw [← t2,← e,List.drop_eq_getElem_cons hi]
  have before : i < (b.takeWhile isI).length → isI b[i] = true := by
   intro h
   have h1 : (b.takeWhile isI)[i]? = some b[i] := by
    rw [← t1,List.getElem?_take,if_pos h,List.getElem?_eq_getElem hi]
   exact List.all_eq_true.1 List.all_takeWhile _ (List.mem_of_getElem? h1)
  have after : (b.takeWhile isI).length < i → wordB (b.take i) = false := by
   intro h
   cases hw : wordB (b.take i) with
   | false => rfl
   | true =>
    exfalso
    have ha := Qpv hw
    have := Et (p := isI) (b.take i) (b.take i).length (Nat.le_refl _) (by rw [List.take_length]; exact ha) (fun h => absurd h (by omega))
    have hlt : (b.takeWhile isI).length < b.length := by omega
    have hm : b[(b.takeWhile isI).length] ∈ b.take i := List.mem_iff_getElem?.2 ⟨(b.takeWhile isI).length,by rw [List.getElem?_take,if_pos h,List.getElem?_eq_getElem hlt]⟩
    have h1 := List.all_eq_true.1 ha _ hm
    have h2 : b.dropWhile isI = b[(b.takeWhile isI).length] :: b.drop ((b.takeWhile isI).length + 1) := by rw [← t2,List.drop_eq_getElem_cons hlt]
    have h3 := List.head?_dropWhile_not isI b
    rw [h2] at h3
    simp only [List.head?_cons] at h3
    rw [h1] at h3; cases h3
  cases hc : decide (b[i] = 58) with
  | false =>
   have hc := of_decide_eq_false hc
   simp only [cond_false,Option.bind_some,Sum.elim_inl]
   rw [ih]
   by_cases h : i ≤ (b.takeWhile isI).length
   ·rw [if_pos h]
    by_cases h' : i + 1 ≤ (b.takeWhile isI).length
    ·rw [if_pos h']
    ·rw [if_neg h']
     have := at_n (by omega)
     unfold labX labS
     rw [this]
     simp only
     rw [if_neg (fun x => hc x.1)]
   ·rw [if_neg h,if_neg (by omega)]
  | true =>
   have hc := of_decide_eq_true hc
   simp only [cond_true,Option.bind_some]
   by_cases h : i ≤ (b.takeWhile isI).length
   ·rw [if_pos h]
    have e : i = (b.takeWhile isI).length := by
     by_cases hlt : i < (b.takeWhile isI).length
     ·have := before hlt
      rw [hc,isI_58] at this; cases this
     ·omega
    have h1 := at_n e
    have h2 : b.take i = b.takeWhile isI := by rw [e]; exact t1
    rw [h2]
    unfold labX labS
    rw [h1]
    simp only
    cases hw : wordB (b.takeWhile isI) with
    | true =>
     rw [cond_true,P0 _ (by rw [List.length_drop]; omega),if_pos ⟨hc,rfl⟩]; rfl
    | false =>
     rw [cond_false,if_neg (fun x => by cases x.2)]
     simp only [Option.bind_some,Sum.elim_inl]
     rw [ih,if_neg (by omega)]
   ·rw [if_neg h,after (by omega),cond_false]
    simp only [Option.bind_some,Sum.elim_inl]
    rw [ih,if_neg (by omega)]
theorem Qpw (b : List UInt8) (hb : b.length ≤ 10000000) : Yc (ba b) = some (match labS b with | some (w,t) => (ba w,ba t) | none => (s_,ba b)) := by
 rw [Yc.eq]; unfold Qa7
 have := Qfx b hb b.length 0 (by omega)
 have : Vc ⟨ba b,0⟩ = _ := this
 rw [this,if_pos (by omega)]
 unfold labX
 cases labS b with
 | none => rfl
 | some p => rfl
theorem QkW (s : List UInt8) (hs : s.length ≤ 10000000) (h0 : Qf) : ∀ (g i : Nat),g + i = s.length → Wf ⟨ba s,i,h0⟩ = some (if 10 ∈ s.drop i then .inl ⟨false,E_st⟩ else .inr ⟨ba s,h0⟩)
 | 0,i,hg => by
  rw [Wf.eq]; unfold E2
  have c1 : decide ((i : Int) < (((ba s).size : Nat) : Int)) = false := decide_eq_false (by rw [QL]; omega)
  simp only
  rw [c1,List.drop_eq_nil_of_le (by omega),if_neg (by simp)]; rfl
 | g + 1,i,hg => by
  have hi : i < s.length := by omega
  have ih := QkW s hs h0 g (i + 1) (by omega)
  have ih : Wf ⟨ba s,(i : Int) + 1,h0⟩ = _ := ih
  rw [Wf.eq]; unfold E2
  have c1 : decide ((i : Int) < (((ba s).size : Nat) : Int)) = true := decide_eq_true (by rw [QL]; omega)
  have c2 : decide (0 ≤ (i : Int) ∧ (i : Int) < (((ba s).size : Nat) : Int)) = true := decide_eq_true (by rw [QL]; omega)
  have h10 : ((s[i].toNat : Int) == 10) = decide (s[i] = 10) := u8_eq (n := 10) (by decide)
  simp only
  rw [c1,cond_true,c2,cond_true,ba_at s hi,h10,w64_in (by omega) (by omega),List.drop_eq_getElem_cons hi]
  by_cases h : s[i] = 10
  ·rw [decide_eq_true h,if_pos (by simp [h])]; rfl
  ·rw [decide_eq_false h]
   simp only [cond_false,Option.bind_some,Sum.elim_inl]
   rw [ih]
   by_cases hm : 10 ∈ s.drop (i + 1)
   ·rw [if_pos hm,if_pos (List.mem_cons_of_mem _ hm)]
   ·rw [if_neg hm,if_neg (fun e => (List.mem_cons.1 e).elim (fun e => h e.symm) hm)]
theorem QkX (lb : ByteArray) (s : List UInt8) (hs : s.length ≤ 10000000) (h0 : Qf) : ∀ (g i : Nat),g + i = s.length → (s.take i).all nb = true → WC ⟨lb,ba s,i,h0⟩ = some ⟨lb,ba s,(s.takeWhile nb).length,h0⟩
 | 0,i,hg,ha => by
  rw [WC.eq]; unfold E3
  have c1 : decide ((i : Int) < (((ba s).size : Nat) : Int)) = false := decide_eq_false (by rw [QL]; omega)
  simp only
  rw [c1]
  have := Et (p := nb) s i (by omega) ha (fun h => absurd h (by omega))
  rw [this,List.length_take,Nat.min_eq_left (by omega)]; rfl
 | g + 1,i,hg,ha => by
  have hi : i < s.length := by omega
  rw [WC.eq]; unfold E3
  have c1 : decide ((i : Int) < (((ba s).size : Nat) : Int)) = true := decide_eq_true (by rw [QL]; omega)
  have c2 : decide (0 ≤ (i : Int) ∧ (i : Int) < (((ba s).size : Nat) : Int)) = true := decide_eq_true (by rw [QL]; omega)
  simp only
  rw [c1,cond_true,c2,cond_true,ba_at s hi,w64_in (by omega) (by omega)]
  have hw := isW_eq s[i]
  have e1 : ((s[i].toNat : Int) != 32) = !((s[i].toNat : Int) == 32) := rfl
  have e2 : ((s[i].toNat : Int) != 9) = !((s[i].toNat : Int) == 9) := rfl
  rw [e1,e2]
  cases hb : isW s[i] with
  | true =>
   have := Et (p := nb) s i (by omega) ha (fun h => by simp [nb,hb])
   rw [this,List.length_take,Nat.min_eq_left (by omega)]
   rw [hb] at hw
   cases h32 : ((s[i].toNat : Int) == 32) with
   | true => rfl
   | false =>
    rw [h32,Bool.false_or] at hw
    rw [← hw]; rfl
  | false =>
   rw [hb] at hw
   have hw := Bool.or_eq_false_iff.1 hw.symm
   rw [hw.1,hw.2]
   simp only [Bool.not_false,cond_true,Option.bind_some,Sum.elim_inl]
   exact QkX lb s hs h0 g (i + 1) (by omega) (QhU hi ha (by simp [nb,hb]))
end Go.Ab
set_option maxRecDepth 100000
namespace Go.Ab
theorem Qhe {n : Nat} (h : n ≤ 1000000000) : decide (((n : Nat) : Int) ≤ IntKind.i64.max) = true := EO h
end Go.Ab
set_option maxRecDepth 100000
namespace Go.Ab
def okA (a : Qg) : Prop := ∃ x : X3,a = ⟨-1,x.t⟩ ∧ okW x ∧ x.d ≤ 7
def isL (s : ByteArray) : Prop := s = s_a ∨ s = s_b1 ∨ s = s_loop ∨ s = s_x
end Go.Ab
set_option maxRecDepth 100000
namespace Go.Ab
def isT (s : ByteArray) : Prop := s = s_ ∨ s = s_hi ∨ s = QcX ∨ s = Qi8 ∨ s = s_tab
def isE (s : ByteArray) : Prop := s = s_k ∨ s = s_size ∨ s = s_x
inductive FitQ : SQ → Prop
 | inst (k : Nat) (zs : List Qg) : k < 66 → zs.length = (RG k).length → (∀ (i : Nat) a,zs[i]? = some a → if (RG k).getD i false = true then (∃ m : Nat,m ≤ 31 ∧ a = ⟨(m : Int),E0⟩) else okA a) → FitQ (1,(k : Int),s_,zs)
 | grow (o : Nat) (zs : List Qg) : o ≤ 2 → zs.length = (if o = 2 then 3 else 1) → (∀ a ∈ zs,okA a) → FitQ (2,(o : Int),s_,zs)
 | data (k : Int) (zs : List Qg) : k = 3 ∨ k = 4 ∨ k = 5 → 1 ≤ zs.length → zs.length ≤ 4 → (∀ a ∈ zs,okA a) → FitQ (k,0,s_,zs)
 | ascii (t : ByteArray) : isT t → FitQ (6,0,t,[])
 | one (k : Int) (a : Qg) : k = 7 ∨ k = 8 → okA a → FitQ (k,0,s_,[a])
 | equ (w : ByteArray) (a : Qg) : isE w → okA a → FitQ (9,0,w,[a])
end Go.Ab
set_option maxRecDepth 100000
namespace Go.Ab
def ArgT (a : Qg) (t : List UInt8) : Prop := (∃ m : Nat,m ≤ 31 ∧ a = ⟨(m : Int),E0⟩ ∧ t = 114 :: Lib.decDigits m) ∨ ∃ x : X3,a = ⟨-1,x.t⟩ ∧ okW x ∧ x.d ≤ 7 ∧ t = tx x
theorem ArgT.len {a : Qg} {t : List UInt8} (h : ArgT a t) : t.length ≤ 2600 := by
 rcases h with ⟨m,hm,_,rfl⟩ | ⟨x,_,hx,hd,rfl⟩
 ·have := EN 2 m (by omega) (by omega); simp only [List.length_cons]; omega
 ·have hl := (tx_len x hx).1
  have hp : 20 * 2 ^ x.d ≤ 20 * 2 ^ 7 := Nat.mul_le_mul (Nat.le_refl _) (Nat.pow_le_pow_right (by omega) hd)
  omega
theorem QaB {a : Qg} (h : okA a) : ∃ t,ArgT a t := by
 obtain ⟨x,e,hx,hd⟩ := h
 exact ⟨tx x,.inr ⟨x,e,hx,hd,rfl⟩⟩
theorem Qpx {m : Nat} (h : m ≤ 31) : ArgT ⟨(m : Int),E0⟩ (114 :: Lib.decDigits m) := .inl ⟨m,h,rfl,rfl⟩
inductive ArgsT : List Qg → List (List UInt8) → Prop
 | nil : ArgsT [] []
 | cons (a t zs ts) : ArgT a t → ArgsT zs ts → ArgsT (a :: zs) (t :: ts)
theorem ArgsT.length {zs : List Qg} {ts : List (List UInt8)} (h : ArgsT zs ts) : ts.length = zs.length := by induction h with | nil => rfl | cons _ _ _ _ _ _ ih => simp [ih]
theorem EP : ∀ (zs : List Qg),(∀ a ∈ zs,∃ t,ArgT a t) → ∃ ts,ArgsT zs ts
 | [],_ => ⟨[],.nil⟩
 | a :: zs,h => by
  obtain ⟨t,ht⟩ := h a (by simp)
  obtain ⟨ts,hts⟩ := EP zs (fun b hb => h b (by simp [hb]))
  exact ⟨t :: ts,.cons _ _ _ _ ht hts⟩
theorem QkY (s : ByteArray) (st : Qf) (hn : st.Args.length ≤ 100) : ∀ (zs : List Qg) (ts : List (List UInt8)) (i : Nat) (out : List ByteArray),ArgsT zs ts → st.Args.drop i = zs → i ≤ st.Args.length → out.length ≤ i + 2 → Q8 ⟨s,i,st,out⟩ = some ⟨s,out ++ ts.map ba⟩
 | [],ts,i,out,h,hd,hi,ho => by
  cases h
  rw [Q8.eq]; unfold Eo
  have : st.Args.length ≤ i := List.drop_eq_nil_iff.1 hd
  simp only
  rw [decide_eq_false (show ¬ (i : Int) < ((st.Args.length : Nat) : Int) by omega),cond_false]; simp
 | a :: zs,ts,i,out,h,hd,hi,ho => by
  cases h with
  | cons _ t _ ts' ht hts =>
  have hlt : i < st.Args.length := by
   rcases Nat.lt_or_ge i st.Args.length with h | h
   ·exact h
   ·rw [List.drop_eq_nil_of_le h] at hd; cases hd
  have hdd := List.drop_eq_getElem_cons hlt
  rw [hd] at hdd
  have ha := (List.cons.inj hdd).1
  have hz := (List.cons.inj hdd).2
  rw [Q8.eq]; unfold Eo
  have hg1 : st.Args[Int.toNat (i : Int)]? = some a := by rw [Int.toNat_natCast,List.getElem?_eq_getElem hlt,← ha]
  simp only
  rw [decide_eq_true (show (i : Int) < ((st.Args.length : Nat) : Int) by omega),cond_true,decide_eq_true (show 0 ≤ (i : Int) by omega),cond_true,hg1]
  simp only [Option.bind_some]
  have m : ∀ x : ByteArray,decide ((out.length + [x].length) * 16 ≤ most) = true := fun x => most16 (by simp only [List.length_singleton]; omega)
  have ih := QkY s st hn zs ts' (i + 1) (out ++ [ba t]) hts hz.symm (by omega) (by simp; omega)
  have ih : Q8 ⟨s,(i : Int) + 1,st,out ++ [ba t]⟩ = _ := ih
  rcases ht with ⟨n,hn1,rfl,rfl⟩ | ⟨x,rfl,hx,hxd,rfl⟩
  ·have d := EN 2 n (by omega) (by omega)
   rw [decide_eq_true (show ((n : Nat) : Int) ≥ 0 by omega),cond_true,Qc1 (by omega)]
   simp only [Option.bind_some]
   rw [show s_r = ba [114] from rfl,guardS [114] _ (by simp; omega),cond_true,JN,m,cond_true,w64_in (by omega) (by omega)]
   simp only [Option.bind_some,Sum.elim_inl]
   rw [show ([114] : List UInt8) ++ Lib.decDigits n = 114 :: Lib.decDigits n from rfl,ih]; simp
  ·rw [decide_eq_false (show ¬ (-1 : Int) ≥ 0 by omega),cond_false,(Qmf x hx (by omega)).1]
   simp only [Option.bind_some]
   rw [m,cond_true,w64_in (by omega) (by omega)]
   simp only [Option.bind_some,Sum.elim_inl]
   rw [ih]; simp
def joinC : List (List UInt8) → List UInt8
 | [] => []
 | [t] => t
 | t :: u :: l => t ++ (44 :: 32 :: joinC (u :: l))
def tailC : List (List UInt8) → List UInt8
 | [] => []
 | t :: l => 44 :: 32 :: (t ++ tailC l)
theorem Zw : ∀ (t : List UInt8) (l : List (List UInt8)),joinC (t :: l) = t ++ tailC l
 | t,[] => by simp [joinC,tailC]
 | t,u :: l => by rw [joinC,Zw u l,tailC]
theorem Qjr (ts : List (List UInt8)) (hl : ts.length ≤ 100) (ht : ∀ t ∈ ts,t.length ≤ 2700) : ∀ (l : List (List UInt8)) (i : Nat) (s : List UInt8),ts.drop i = l → 1 ≤ i → i ≤ ts.length → s.length ≤ 10000 + i * 2702 → Q1 ⟨ba s,i,ts.map ba⟩ = some (ba (s ++ tailC l))
 | [],i,s,hd,h1,hi,hs => by
  rw [Q1.eq]; unfold Zj
  have : ts.length ≤ i := List.drop_eq_nil_iff.1 hd
  simp only
  rw [List.length_map,decide_eq_false (show ¬ (i : Int) < ((ts.length : Nat) : Int) by omega),cond_false]
  simp [tailC]
 | t :: l,i,s,hd,h1,hi,hs => by
  have hlt : i < ts.length := by
   rcases Nat.lt_or_ge i ts.length with h | h
   ·exact h
   ·rw [List.drop_eq_nil_of_le h] at hd; cases hd
  have hdd := List.drop_eq_getElem_cons hlt
  rw [hd] at hdd
  have ha := (List.cons.inj hdd).1
  have hz := (List.cons.inj hdd).2
  have htl := ht t (by rw [ha]; exact List.getElem_mem hlt)
  rw [Q1.eq]; unfold Zj
  have hg1 : (ts.map ba)[Int.toNat (i : Int)]? = some (ba t) := by rw [Int.toNat_natCast,List.getElem?_map,List.getElem?_eq_getElem hlt,← ha]; rfl
  have hb : i * 2702 ≤ 100 * 2702 := Nat.mul_le_mul (by omega) (Nat.le_refl _)
  simp only
  rw [List.length_map,decide_eq_true (show (i : Int) < ((ts.length : Nat) : Int) by omega),cond_true,show ((i : Int) == 0) = false from beq_eq_false_iff_ne.2 (by omega),cond_false]
  rw [decide_eq_true (show 0 ≤ (i : Int) ∧ (i : Int) < ((ts.length : Nat) : Int) by omega),hg1,show XC = ba [44,32] from rfl,guardS s [44,32] (by simp; omega),cond_true,cond_true]
  simp only [Option.bind_some]
  rw [JN,guardS (s ++ [44,32]) t (by simp; omega),cond_true,JN,w64_in (by omega) (by omega)]
  simp only [Option.bind_some,Sum.elim_inl]
  have ih := Qjr ts hl ht l (i + 1) (s ++ [44,32] ++ t) hz.symm (by omega) (by omega) (by simp only [List.length_append,List.length_cons,List.length_nil]; rw [Nat.add_mul]; omega)
  have ih : Q1 ⟨ba (s ++ [44,32] ++ t),(i : Int) + 1,ts.map ba⟩ = _ := ih
  rw [ih]; simp [tailC]
theorem QqD (ts : List (List UInt8)) (hl : ts.length ≤ 100) (ht : ∀ t ∈ ts,t.length ≤ 2700) (s : List UInt8) (hs : s.length ≤ 5000) : Q1 ⟨ba s,0,ts.map ba⟩ = some (ba (s ++ (if ts = [] then [] else 32 :: joinC ts))) := by
 rw [Q1.eq]; unfold Zj
 cases ts with
 | nil => simp only; rw [show decide ((0 : Int) < ((([].map ba : List ByteArray).length : Nat) : Int)) = false from rfl]; simp
 | cons t l =>
  have htl := ht t (by simp)
  simp only
  rw [List.length_map,decide_eq_true (show (0 : Int) < (((t :: l).length : Nat) : Int) by simp only [List.length_cons]; omega),cond_true,show ((0 : Int) == 0) = true from rfl,cond_true]
  rw [decide_eq_true (show 0 ≤ (0 : Int) ∧ (0 : Int) < (((t :: l).length : Nat) : Int) by simp only [List.length_cons]; omega),show h_20 = ba [32] from rfl,guardS s [32] (by simp; omega),cond_true,cond_true,show ((t :: l).map ba)[Int.toNat 0]? = some (ba t) from rfl]
  simp only [Option.bind_some]
  rw [JN,guardS (s ++ [32]) t (by simp; omega),cond_true,JN,show w64 (0 + 1) = 1 from rfl]
  simp only [Option.bind_some,Sum.elim_inl]
  have ih := Qjr (t :: l) hl ht l 1 (s ++ [32] ++ t) rfl (by omega) (by simp) (by simp; omega)
  have ih : Q1 ⟨ba (s ++ [32] ++ t),1,(t :: l).map ba⟩ = _ := ih
  rw [ih,if_neg (by simp),Zw]; simp
end Go.Ab
set_option maxRecDepth 100000
namespace Go.Ab
def lstT (q : SQ) (ts : List (List UInt8)) : List (List UInt8) := if q.1 = 6 then (34 :: (bl q.2.2.1 ++ [34])) :: ts else if q.1 = 9 then bl q.2.2.1 :: ts else ts
theorem QqE {s : ByteArray} (h : isT s) : (bl s).length ≤ 20 := by rcases h with rfl | rfl | rfl | rfl | rfl <;> decide
theorem QqF {s : ByteArray} (h : isE s) : (bl s).length ≤ 20 := by rcases h with rfl | rfl | rfl <;> decide
theorem QqG {s : ByteArray} (h : isL s) : (bl s).length ≤ 20 ∧ s ≠ s_ := by
 rcases h with rfl | rfl | rfl | rfl <;> exact ⟨by decide,by decide +kernel⟩
noncomputable def coreT (X : ByteArray) (st : Qf) : Option ByteArray := (bif (st.Kind == (6 : Int)) then (bif (decide (((h_22.size + st.Text.size : Nat) : Int) ≤ IntKind.i64.max)) then (bif (decide ((((h_22 ++ st.Text).size + h_22.size : Nat) : Int) ≤ IntKind.i64.max)) then (bif (decide ([((h_22 ++ st.Text) ++ h_22)].length * 16 ≤ most)) then (bif (st.Kind == (9 : Int)) then (bif (decide (([((h_22 ++ st.Text) ++ h_22)].length + [st.Text].length) * 16 ≤ most)) then ((Q8 (QC.mk X (0 : Int) st ([((h_22 ++ st.Text) ++ h_22)] ++ [st.Text]))).bind (fun (o20 : QX) => ((Q1 (QD.mk o20.x3 (0 : Int) o20.r0)).bind (fun (o21 : ByteArray) => (some o21))))) else none) else ((Q8 (QC.mk X (0 : Int) st [((h_22 ++ st.Text) ++ h_22)])).bind (fun (o22 : QX) => ((Q1 (QD.mk o22.x3 (0 : Int) o22.r0)).bind (fun (o23 : ByteArray) => (some o23)))))) else none) else none) else none) else (bif (st.Kind == (9 : Int)) then (bif (decide ([st.Text].length * 16 ≤ most)) then ((Q8 (QC.mk X (0 : Int) st [st.Text])).bind (fun (o24 : QX) => ((Q1 (QD.mk o24.x3 (0 : Int) o24.r0)).bind (fun (o25 : ByteArray) => (some o25))))) else none) else ((Q8 (QC.mk X (0 : Int) st ([] : List ByteArray))).bind (fun (o26 : QX) => ((Q1 (QD.mk o26.x3 (0 : Int) o26.r0)).bind (fun (o27 : ByteArray) => (some o27)))))))
theorem Qes (S : List UInt8) (hS : S.length ≤ 5000) (st : Qf) (hn : st.Args.length ≤ 90) (ts : List (List UInt8)) (ha : ArgsT st.Args ts) (pre_ : List (List UInt8)) (hp : pre_.length ≤ 2) (hpl : ∀ t ∈ pre_,t.length ≤ 2700) :
  ((Q8 (QC.mk (ba S) (0 : Int) st (pre_.map ba))).bind (fun (o2 : QX) => ((Q1 (QD.mk o2.x3 (0 : Int) o2.r0)).bind (fun (o3 : ByteArray) => (some o3))))) = some (ba (S ++ (if pre_ ++ ts = [] then [] else 32 :: joinC (pre_ ++ ts)))) := by
 have h1 := QkY (ba S) st (by omega) st.Args ts 0 (pre_.map ba) ha rfl (by omega) (by simp; omega)
 have h1 : Q8 ⟨ba S,0,st,pre_.map ba⟩ = _ := h1
 rw [h1]
 simp only [Option.bind_some]
 have hlen := ha.length
 have hts : ∀ t ∈ pre_ ++ ts,t.length ≤ 2700 := by
  intro t ht
  rcases List.mem_append.1 ht with h | h
  ·exact hpl t h
  ·have key : ∀ (zs : List Qg) (ts : List (List UInt8)),ArgsT zs ts → ∀ t ∈ ts,t.length ≤ 2600 := by
    intro zs ts h
    induction h with
    | nil => intro t ht; cases ht
    | cons a t zs ts h1 _ ih =>
     intro u hu
     rcases List.mem_cons.1 hu with rfl | hu
     ·exact h1.len
     ·exact ih u hu
   have := key _ _ ha t h
   omega
 have h2 := QqD (pre_ ++ ts) (by simp; omega) hts S hS
 rw [List.map_append] at h2
 rw [h2]; rfl
theorem FitQ.args {q : SQ} (h : FitQ q) : q.2.2.2.length ≤ 10 ∧ ∃ ts,ArgsT q.2.2.2 ts := by
 have reg : ∀ k,k < 66 → (RG k).length ≤ 8 := fun k hk => by
  obtain ⟨a,l,b,m,_,_,h3,h4,_⟩ := Qjq hk
  rw [← Qfw l _ h4]; exact h3
 cases h with
 | inst k zs hk hl ha =>
  refine ⟨by have := reg k hk; show zs.length ≤ 10; omega,EP zs fun a hm => ?_⟩
  obtain ⟨i,hi⟩ := List.mem_iff_getElem?.1 hm
  have := ha i a hi
  split at this
  ·obtain ⟨m,hm2,rfl⟩ := this; exact ⟨_,Qpx hm2⟩
  ·exact QaB this
 | grow o zs ho hl ha => exact ⟨by show zs.length ≤ 10; rw [hl]; split <;> omega,EP zs fun a hm => QaB (ha a hm)⟩
 | data k zs hk h1 h4 ha => exact ⟨by show zs.length ≤ 10; omega,EP zs fun a hm => QaB (ha a hm)⟩
 | ascii t ht => exact ⟨by show 0 ≤ 10; omega,[],.nil⟩
 | one k a hk ha => exact ⟨by show 1 ≤ 10; omega,EP [a] fun b hb => by simp at hb; subst hb; exact QaB ha⟩
 | equ w a hw ha => exact ⟨by show 1 ≤ 10; omega,EP [a] fun b hb => by simp at hb; subst hb; exact QaB ha⟩
theorem QkZ (S : List UInt8) (hS : S.length ≤ 5000) (lb : ByteArray) {q : SQ} (hq : FitQ q) (ts : List (List UInt8)) (ha : ArgsT q.2.2.2 ts) : coreT (ba S) (mkS lb q) = some (ba (S ++ (if lstT q ts = [] then [] else 32 :: joinC (lstT q ts)))) := by
 have hn := hq.args.1
 unfold coreT
 have plain : q.1 ≠ 6 → q.1 ≠ 9 → coreT (ba S) (mkS lb q) = some (ba (S ++ (if lstT q ts = [] then [] else 32 :: joinC (lstT q ts)))) := by
  intro h6 h9
  unfold coreT lstT
  rw [if_neg h6,if_neg h9,show ((mkS lb q).Kind == 6) = false from beq_eq_false_iff_ne.2 h6,show ((mkS lb q).Kind == 9) = false from beq_eq_false_iff_ne.2 h9,cond_false,cond_false]
  exact Qes S hS (mkS lb q) (by show q.2.2.2.length ≤ 90; omega) ts ha [] (by simp) (by simp)
 unfold coreT at plain
 cases hq with
 | inst k zs _ _ _ => exact plain (by show (1 : Int) ≠ 6; decide) (by show (1 : Int) ≠ 9; decide)
 | grow o zs _ _ _ => exact plain (by show (2 : Int) ≠ 6; decide) (by show (2 : Int) ≠ 9; decide)
 | data k zs hk _ _ _ => exact plain (by show k ≠ 6; omega) (by show k ≠ 9; omega)
 | one k a hk _ => exact plain (by show k ≠ 6; omega) (by show k ≠ 9; omega)
 | ascii t ht =>
  have hl := QqE ht
  have hsz : t.size ≤ 20 := by rw [SV]; exact hl
  have e : t = ba (bl t) := (ba_bl t).symm
  have hT : (mkS lb (6,0,t,[])).Text = ba (bl t) := e
  rw [hT,show ((mkS lb (6,0,t,[])).Kind == 6) = true from rfl,cond_true,show ((mkS lb (6,0,t,[])).Kind == 9) = false from rfl,cond_false,show h_22 = ba [34] from rfl,guardS [34] _ (by simp; omega),cond_true,JN,guardS _ [34] (by simp; omega),cond_true,JN]
  rw [show decide (([ba ([34] ++ bl t ++ [34])].length) * 16 ≤ most) = true from rfl,cond_true]
  have := Qes S hS (mkS lb (6,0,t,[])) (by show 0 ≤ 90; omega) ts ha [[34] ++ bl t ++ [34]] (by simp) (by simp; omega)
  rw [show ([[34] ++ bl t ++ [34]] : List (List UInt8)).map ba = [ba ([34] ++ bl t ++ [34])] from rfl] at this
  rw [this]; rfl
 | equ w a hw h =>
  have hl := QqF hw
  have hsz : w.size ≤ 20 := by rw [SV]; exact hl
  have e : w = ba (bl w) := (ba_bl w).symm
  have hT : (mkS lb (9,0,w,[a])).Text = ba (bl w) := e
  rw [hT,show ((mkS lb (9,0,w,[a])).Kind == 6) = false from rfl,cond_false,show ((mkS lb (9,0,w,[a])).Kind == 9) = true from rfl,cond_true]
  rw [show decide (([ba (bl w)].length) * 16 ≤ most) = true from rfl,cond_true]
  have := Qes S hS (mkS lb (9,0,w,[a])) (by show 1 ≤ 90; omega) ts ha [bl w] (by simp) (by simp; omega)
  rw [show ([bl w] : List (List UInt8)).map ba = [ba (bl w)] from rfl] at this
  rw [this]; rfl
theorem Qpy : (D0.all fun r => decide (0 < r.Name.size ∧ r.Name.size ≤ 20)) = true := by kernel_rfl
theorem Qk0 {k : Nat} (hk : k < 66) : ∃ r,D0[k]? = some r ∧ 0 < r.Name.size ∧ r.Name.size ≤ 20 := by
 have : k < D0.length := by rw [D0_len]; exact hk
 refine ⟨D0[k],List.getElem?_eq_getElem this,?_⟩
 exact of_decide_eq_true (List.all_eq_true.1 Qpy _ (List.getElem_mem this))
def nameQ (q : SQ) : ByteArray := if q.1 = 1 then ((D0[q.2.1.toNat]?).map (·.Name)).getD s_ else if q.1 = 2 then (if q.2.1 = 0 then s_b else if q.2.1 = 1 then s_bl else s_bc) else if q.1 = 3 then V6 else if q.1 = 4 then V7 else if q.1 = 5 then XD else if q.1 = 6 then WV else if q.1 = 7 then WU else if q.1 = 8 then WW else YA
theorem QqH (lb : ByteArray) {q : SQ} (hq : FitQ q) : XT (mkS lb q) = some (nameQ q) ∧ 0 < (nameQ q).size ∧ (nameQ q).size ≤ 20 := by
 rw [XT.eq]; unfold QcT
 cases hq with
 | inst k zs hk _ _ =>
  obtain ⟨r,h1,h2,h3⟩ := Qk0 hk
  have e : nameQ (1,(k : Int),s_,zs) = r.Name := by unfold nameQ; rw [if_pos rfl]; show ((D0[(k : Int).toNat]?).map (·.Name)).getD s_ = _; rw [Int.toNat_natCast,h1]; rfl
  rw [e]
  refine ⟨?_,h2,h3⟩
  rw [show ((mkS lb (1,(k : Int),s_,zs)).Kind == 1) = true from rfl,cond_true]
  show (WZ (k : Int)).bind _ = _
  rw [Qjp h1]; rfl
 | grow o zs ho _ _ =>
  have : o = 0 ∨ o = 1 ∨ o = 2 := by omega
  rcases this with rfl | rfl | rfl
  ·exact ⟨rfl,(show 0 < s_b.size by decide),(show s_b.size ≤ 20 by decide)⟩
  ·exact ⟨rfl,(show 0 < s_bl.size by decide),(show s_bl.size ≤ 20 by decide)⟩
  ·exact ⟨rfl,(show 0 < s_bc.size by decide),(show s_bc.size ≤ 20 by decide)⟩
 | data k zs hk _ _ _ =>
  rcases hk with rfl | rfl | rfl
  ·exact ⟨rfl,(show 0 < V6.size by decide),(show V6.size ≤ 20 by decide)⟩
  ·exact ⟨rfl,(show 0 < V7.size by decide),(show V7.size ≤ 20 by decide)⟩
  ·exact ⟨rfl,(show 0 < XD.size by decide),(show XD.size ≤ 20 by decide)⟩
 | ascii t ht => exact ⟨rfl,by show 0 < WV.size; decide,by show WV.size ≤ 20; decide⟩
 | one k a hk _ =>
  rcases hk with rfl | rfl
  ·exact ⟨rfl,(show 0 < WU.size by decide),(show WU.size ≤ 20 by decide)⟩
  ·exact ⟨rfl,(show 0 < WW.size by decide),(show WW.size ≤ 20 by decide)⟩
 | equ w a hw h => exact ⟨rfl,by show 0 < YA.size; decide,by show YA.size ≤ 20; decide⟩
def labT (lb : ByteArray) : List UInt8 := if lb = s_ then [] else bl lb ++ [58,32]
def lineT (lb : ByteArray) (q : SQ) (ts : List (List UInt8)) : List UInt8 := labT lb ++ (bl (nameQ q) ++ (if lstT q ts = [] then [] else 32 :: joinC (lstT q ts)))
theorem FitQ.kind {q : SQ} (h : FitQ q) : q.1 ≠ 0 := by
 cases h with
 | inst => show (1 : Int) ≠ 0; decide
 | grow => show (2 : Int) ≠ 0; decide
 | data k zs hk => show k ≠ 0; omega
 | ascii => show (6 : Int) ≠ 0; decide
 | one k a hk => show k ≠ 0; omega
 | equ => show (9 : Int) ≠ 0; decide
theorem Qfy (lb : ByteArray) (hlb : lb = s_ ∨ isL lb) {q : SQ} (hq : FitQ q) (ts : List (List UInt8)) (ha : ArgsT q.2.2.2 ts) : W0 (mkS lb q) = some (ba (lineT lb q ts)) := by
 obtain ⟨n1,n2,n3⟩ := QqH lb hq
 have hnl : (bl (nameQ q)).length ≤ 20 := by rw [← SV]; exact n3
 have hk : ((mkS lb q).Kind == 0) = false := beq_eq_false_iff_ne.2 hq.kind
 rw [W0.eq]; unfold QcW
 unfold lineT labT
 rcases hlb with rfl | hL
 ·rw [show eqS (mkS s_ q).Label s_ = true from WN.2 rfl,if_pos rfl,hk,n1]
  simp only [Bool.not_true,cond_false,Option.bind_some]
  have g : decide (((s_.size + (nameQ q).size : Nat) : Int) ≤ IntKind.i64.max) = true := Qhe (by rw [show s_.size = 0 from rfl]; omega)
  rw [g,cond_true]
  have c := QkZ (bl (nameQ q)) (by omega) s_ hq ts ha
  have e : s_ ++ nameQ q = ba (bl (nameQ q)) := by
   rw [show s_ = ba [] from rfl]
   conv => lhs; rw [← ba_bl (nameQ q)]
   rw [JN]; rfl
  rw [e]
  exact c
 ·obtain ⟨l1,l2⟩ := QqG hL
  have hsz : lb.size ≤ 20 := by rw [SV]; exact l1
  have e0 : eqS (mkS lb q).Label s_ = false := eqS_ne l2
  have eL : (mkS lb q).Label = ba (bl lb) := (ba_bl lb).symm
  rw [e0,if_neg l2,eL,show h_3a = ba [58] from rfl,guardS _ [58] (by simp; omega),JN,hk,show s_ = ba [] from rfl,eqS_ba,show h_20 = ba [32] from rfl,guardS _ [32] (by simp; omega),JN,n1]
  rw [decide_eq_false (show ¬ bl lb ++ [58] = [] by simp)]
  simp only [Bool.not_false,cond_true,cond_false,Option.bind_some]
  have e : nameQ q = ba (bl (nameQ q)) := (ba_bl _).symm
  have g : decide ((((ba (bl lb ++ [58] ++ [32])).size + (nameQ q).size : Nat) : Int) ≤ IntKind.i64.max) = true := Qhe (by rw [QL]; simp; omega)
  rw [g,cond_true]
  have c := QkZ (bl lb ++ [58] ++ [32] ++ bl (nameQ q)) (by simp; omega) lb hq ts ha
  have e2 : ba (bl lb ++ [58] ++ [32]) ++ nameQ q = ba (bl lb ++ [58] ++ [32] ++ bl (nameQ q)) := by
   conv => lhs; rw [e]
   rw [JN]
  rw [e2]
  unfold coreT at c
  rw [eL,show h_22 = ba [34] from rfl] at *
  refine c.trans ?_
  simp
end Go.Ab
set_option maxRecDepth 100000
namespace Go.Ab
end Go.Ab
set_option maxRecDepth 100000
namespace Go.Ab
def cl (c : UInt8) : Bool := decide (c ≠ 34) && decide (c ≠ 35) && decide (c ≠ 10) && decide (c ≠ 44) && decide (c ≠ 58)
def Cle (t : List UInt8) : Prop := t.all cl = true ∧ (∃ c r,t = c :: r ∧ isW c = false) ∧ ∃ r c,t = r ++ [c] ∧ isW c = false
theorem isI_cl {c : UInt8} (h : isI c = true) : cl c = true ∧ isW c = false := by
 unfold isI isS isD at h
 simp only [Bool.or_eq_true,decide_eq_true_eq] at h
 constructor
 ·unfold cl
  simp only [Bool.and_eq_true,decide_eq_true_eq]
  refine ⟨⟨⟨⟨?_,?_⟩,?_⟩,?_⟩,?_⟩ <;> (rintro rfl; revert h; decide)
 ·unfold isW
  refine decide_eq_false fun hw => ?_
  omega
theorem Cle_I {t : List UInt8} (h : t.all isI = true) (hn : t ≠ []) : Cle t := by
 refine ⟨List.all_eq_true.2 fun c hc => (isI_cl (List.all_eq_true.1 h c hc)).1,?_,?_⟩
 ·cases t with
  | nil => exact absurd rfl hn
  | cons c r => exact ⟨c,r,rfl,(isI_cl (List.all_eq_true.1 h c (by simp))).2⟩
 ·have e := (List.dropLast_concat_getLast hn).symm
  exact ⟨_,_,e,(isI_cl (List.all_eq_true.1 h _ (List.getLast_mem hn))).2⟩
theorem Qet {c : UInt8} {t : List UInt8} (hc : cl c = true) (hw : isW c = false) (h : Cle t) : Cle (c :: t) := by
 obtain ⟨h1,_,r,d,h2,h3⟩ := h
 exact ⟨by simp [hc,h1],⟨c,t,rfl,hw⟩,c :: r,d,by rw [h2]; rfl,h3⟩
theorem Qpz {c : UInt8} {t : List UInt8} (hc : cl c = true) (hw : isW c = false) (h : Cle t) : Cle (t ++ [c]) := by
 obtain ⟨h1,⟨d,r,h2,h3⟩,_⟩ := h
 exact ⟨by simp [hc,h1],⟨d,r ++ [c],by rw [h2]; rfl,h3⟩,t,c,rfl,hw⟩
theorem QqI {t u : List UInt8} {m : List UInt8} (h : Cle t) (hm : m.all cl = true) (k : Cle u) : Cle (t ++ (m ++ u)) := by
 obtain ⟨h1,⟨d,r,h2,h3⟩,_⟩ := h
 obtain ⟨k1,_,s,c,k2,k3⟩ := k
 exact ⟨by simp [h1,hm,k1],⟨d,r ++ (m ++ u),by rw [h2]; rfl,h3⟩,t ++ (m ++ s),c,by rw [k2]; simp,k3⟩
theorem isD_I {c : UInt8} (h : isD c = true) : isI c = true := by rw [Qge,h,Bool.or_true]
theorem Qgl (u : Nat) : Cle (Lib.decDigits u) := by
 obtain ⟨h1,h2⟩ := @Pa u
 exact Cle_I (List.all_eq_true.2 fun c hc => isD_I (List.all_eq_true.1 h1 c hc)) h2
theorem Qjs {w : List UInt8} (h : wordB w = true) : Cle w := by
 obtain ⟨c,t,e,_,_,ha⟩ := Qfr h
 exact Cle_I ha (by rw [e]; simp)
theorem sg_cl {k : Nat} (hk : 5 ≤ k ∧ k ≤ 11) : (32 :: (sg k ++ [32])).all cl = true := by
 have : k = 5 ∨ k = 6 ∨ k = 7 ∨ k = 8 ∨ k = 9 ∨ k = 10 ∨ k = 11 := by omega
 rcases this with rfl | rfl | rfl | rfl | rfl | rfl | rfl <;> decide
theorem tx_cle : ∀ x : X3,okW x → Cle (tx x) ∧ Cle (txp x)
 | .num n,h => by
  have : tx (.num n) = Lib.decDigits n.toNat := rfl
  have e : txp (.num n) = tx (.num n) := rfl
  rw [e,this]; exact ⟨Qgl _,Qgl _⟩
 | .nm s,h => by
  have : tx (.nm s) = bl s := rfl
  have e : txp (.nm s) = tx (.nm s) := rfl
  rw [e,this]
  have hw : wordB (bl s) = true := h
  exact ⟨Qjs hw,Qjs hw⟩
 | .here,h => by
  have : Cle [46] := ⟨by decide,⟨46,[],rfl,by decide⟩,[],46,rfl,by decide⟩
  exact ⟨this,this⟩
 | .neg x,h => by
  have ih := (tx_cle x h).2
  have e : txp (.neg x) = tx (.neg x) := rfl
  rw [e,tx_neg]
  have := Qet (c := 45) (by decide) (by decide) ih
  exact ⟨this,this⟩
 | .bin k x y,h => by
  obtain ⟨h1,h2,hx,hy⟩ := h
  have ix := (tx_cle x hx).2
  have iy := (tx_cle y hy).2
  have e : txp (.bin k x y) = 40 :: (tx (.bin k x y) ++ [41]) := rfl
  have hb : Cle (tx (.bin k x y)) := by
   rw [tx_bin]
   have := QqI ix (sg_cl ⟨h1,h2⟩) iy
   simpa using this
  rw [e]
  exact ⟨hb,Qet (by decide) (by decide) (Qpz (by decide) (by decide) hb)⟩
theorem QpA {a : Qg} {t : List UInt8} (h : ArgT a t) : Cle t := by
 rcases h with ⟨m,hm,_,rfl⟩ | ⟨x,_,hx,hd,rfl⟩
 ·exact Qet (by decide) (by decide) (Qgl m)
 ·exact (tx_cle x hx).1
theorem QnS {r : List UInt8} {c : UInt8} (h : isW c = false) : trimR (r ++ [c]) = r ++ [c] := by
 unfold trimR
 rw [List.reverse_append]
 show ((c :: r.reverse).dropWhile isW).reverse = _
 rw [List.dropWhile_cons_of_neg (by simp [h])]; simp
theorem F9 {t : List UInt8} (h1 : ∃ c r,t = c :: r ∧ isW c = false) (h2 : ∃ r c,t = r ++ [c] ∧ isW c = false) : trimW t = t := by
 obtain ⟨r,c,e,hc⟩ := h2
 obtain ⟨d,q,e2,hd⟩ := h1
 unfold trimW
 have : trimR t = t := by rw [e]; exact QnS hc
 rw [this,e2,List.dropWhile_cons_of_neg (by simp [hd])]
theorem Cle.trim {t : List UInt8} (h : Cle t) : trimW t = t := F9 h.2.1 h.2.2
theorem Cle.no {t : List UInt8} (h : Cle t) {c : UInt8} (hc : cl c = false) : c ∉ t := fun hm => by have := List.all_eq_true.1 h.1 c hm; rw [hc] at this; cases this
theorem Qjt : ∀ (t : List UInt8),44 ∉ t → splL 44 t = [t]
 | [],_ => rfl
 | c :: t,h => Xc (fun e => h (by simp [e])) (Qjt t (fun e => h (by simp [e])))
theorem Qju : ∀ (t r : List UInt8),44 ∉ t → splL 44 (t ++ 44 :: r) = t :: splL 44 r
 | [],r,_ => Yv 44 r
 | c :: t,r,h => by
  rw [List.cons_append]
  exact Xc (fun e => h (by simp [e])) (Qju t r (fun e => h (by simp [e])))
theorem Qjv : ∀ (ts : List (List UInt8)) (t : List UInt8),44 ∉ t → (∀ u ∈ ts,Cle u) → (splL 44 (t ++ tailC ts)).map trimW = trimW t :: ts
 | [],t,h,_ => by rw [tailC,List.append_nil,Qjt t h]; rfl
 | u :: ts,t,h,hs => by
  have hu := hs u (by simp)
  have e : t ++ tailC (u :: ts) = t ++ 44 :: ((32 :: u) ++ tailC ts) := by simp [tailC]
  have ih := Qjv ts (32 :: u) (by simp; exact hu.no (by decide)) (fun v hv => hs v (by simp [hv]))
  rw [e,Qju t _ h,List.map_cons,ih,F8 (by decide),hu.trim]
theorem QpB (ts : List (List UInt8)) (h : ∀ u ∈ ts,Cle u) : opsS (joinC ts) = ts := by
 cases ts with
 | nil => rfl
 | cons t ts =>
  have ht := h t (by simp)
  rw [Zw]
  unfold opsS
  rw [if_neg (by obtain ⟨_,⟨c,r,e,_⟩,_⟩ := ht; rw [e]; simp),Qjv ts t (ht.no (by decide)) (fun u hu => h u (by simp [hu])),ht.trim]
theorem Su (t : List UInt8) (ts : List (List UInt8)) (h : ∀ u ∈ t :: ts,Cle u) : (∃ c r,joinC (t :: ts) = c :: r ∧ isW c = false) ∧ ∃ r c,joinC (t :: ts) = r ++ [c] ∧ isW c = false := by
 have ht := h t (by simp)
 rw [Zw]
 refine ⟨?_,?_⟩
 ·obtain ⟨_,⟨c,r,e,hc⟩,_⟩ := ht
  exact ⟨c,r ++ tailC ts,by rw [e]; rfl,hc⟩
 ·have key : ∀ (l : List (List UInt8)) (s : List UInt8),(∃ r c,s = r ++ [c] ∧ isW c = false) → (∀ u ∈ l,Cle u) → ∃ r c,s ++ tailC l = r ++ [c] ∧ isW c = false := by
   intro l
   induction l with
   | nil => intro s hs _; rw [tailC,List.append_nil]; exact hs
   | cons u l ih =>
    intro s hs hl
    obtain ⟨_,_,r,c,e,hc⟩ := hl u (by simp)
    have := ih (s ++ (44 :: 32 :: u)) ⟨s ++ (44 :: 32 :: r),c,by rw [e]; simp,hc⟩ (fun v hv => hl v (by simp [hv]))
    simpa [tailC] using this
  exact key ts t ht.2.2 (fun u hu => h u (by simp [hu]))
def dg2 (m : Nat) : List UInt8 := if m < 10 then [UInt8.ofNat (48 + m)] else [UInt8.ofNat (48 + m / 10),UInt8.ofNat (48 + m % 10)]
theorem dec2 {m : Nat} (h : m ≤ 31) : Lib.decDigits m = dg2 m := by
 unfold dg2
 rw [Lib.decDigits]
 split
 ·rfl
 ·rw [Lib.decDigits,dif_pos (by omega)]; rfl
theorem QqJ : ∀ m : Fin 32,regS (114 :: dg2 m.val) = some m.val := by decide
theorem QqK {m : Nat} (h : m ≤ 31) : regS (114 :: Lib.decDigits m) = some m := by rw [dec2 h]; exact QqJ ⟨m,by omega⟩
theorem Qhf {zs : List Qg} {ts : List (List UInt8)} (h : ArgsT zs ts) : ∀ t ∈ ts,Cle t := by
 induction h with
 | nil => intro t ht; cases ht
 | cons a t zs ts h1 _ ih =>
  intro u hu
  rcases List.mem_cons.1 hu with rfl | hu
  ·exact QpA h1
  ·exact ih u hu
end Go.Ab
set_option maxRecDepth 100000
namespace Go.Ab
end Go.Ab
set_option maxRecDepth 100000
namespace Go.Ab
theorem Qjw : ∀ (s r : List UInt8),34 ∉ s → 35 ∉ s → bareQ false (s ++ r) = s ++ bareQ false r
 | [],r,_,_ => rfl
 | c :: t,r,h1,h2 => by
  have c34 : c ≠ 34 := fun e => h1 (by simp [e])
  have c35 : c ≠ 35 := fun e => h2 (by simp [e])
  rw [List.cons_append]
  conv => lhs; unfold bareQ
  rw [decide_eq_false c35,decide_eq_false c34]
  simp only [Bool.false_and,cond_false,List.cons_append]
  rw [Qjw t r (fun e => h1 (by simp [e])) (fun e => h2 (by simp [e]))]
theorem Qk1 {c : UInt8} (h44 : c ≠ 44) (h32 : c ≠ 32) : ∀ ts : List (List UInt8),(∀ u ∈ ts,c ∉ u) → c ∉ tailC ts
 | [],_ => by simp [tailC]
 | t :: ts,h => by
  have h1 := h t (by simp)
  have h2 := Qk1 h44 h32 ts (fun u hu => h u (by simp [hu]))
  simp only [tailC,List.mem_cons,List.mem_append,not_or]
  exact ⟨h44,h32,h1,h2⟩
theorem QqL {c : UInt8} (h44 : c ≠ 44) (h32 : c ≠ 32) (ts : List (List UInt8)) (h : ∀ u ∈ ts,c ∉ u) : c ∉ joinC ts := by
 cases ts with
 | nil => simp [joinC]
 | cons t ts =>
  rw [Zw]
  simp only [List.mem_append,not_or]
  exact ⟨h t (by simp),Qk1 h44 h32 ts (fun u hu => h u (by simp [hu]))⟩
end Go.Ab
set_option maxRecDepth 100000
namespace Go.Ab
abbrev b31 (v : Int) : Prop := -2147483648 ≤ v ∧ v ≤ 2147483647
theorem QpC {x : Int} (h : 0 ≤ x ∧ x < 4294967296) : b31 (sgn32 x) := by
 unfold sgn32; split <;> constructor <;> omega
theorem val_31 (K : Kn) (n : Int) (w0 : inU n) : b31 (K.val n) := by
 cases K
 case C8 => exact QpC (Qbf _ _ (show byt (n % 256) from ⟨by omega,by omega⟩))
 all_goals
  show -2147483648 ≤ _ ∧ _ ≤ 2147483647
  simp only [Kn.val,sgK]
  omega
theorem Qgm (K : Kn) (n : Int) (w0 : inU n) (h : K.isR = true) : 0 ≤ K.val n ∧ K.val n ≤ 31 := by
 cases K <;> first | (cases h; done) | (simp only [Kn.val]; omega)
def xK (K : Kn) (v : Int) : X3 := if K.isT then (if v < 0 then .bin 6 .here (.num (0 - v)) else .bin 5 .here (.num v)) else if v < 0 then .neg (.num (0 - v)) else .num v
def aK (K : Kn) (v : Int) : Qg := if K.isR then ⟨v,E0⟩ else ⟨-1,(xK K v).t⟩
theorem dg_nn {v : Int} (h : 0 ≤ v) : dgK v = Lib.decDigits v.toNat := by
 unfold dgK Lib.itoa; rw [if_neg (by omega)]
theorem dg_neg {v : Int} (h : v < 0) : dgK v = 45 :: Lib.decDigits (0 - v).toNat := by
 unfold dgK Lib.itoa
 rw [if_pos h,show (0 - v).toNat = v.natAbs by omega]
theorem xK_ok (K : Kn) {v : Int} (h : b31 v) (hr : K.isR = false) : okW (xK K v) ∧ (xK K v).d ≤ 7 ∧ opT K v = tx (xK K v) := by
 have e : opT K v = if K.isT = true then (if v < 0 then [46,32,45,32] ++ dgK (0 - v) else [46,32,43,32] ++ dgK v) else dgK v := by
  unfold opT; rw [hr]; rfl
 rw [e]
 unfold xK
 by_cases hT : K.isT = true
 ·rw [if_pos hT,if_pos hT]
  by_cases c : v < 0
  ·rw [if_pos c,if_pos c,dg_nn (by omega)]
   exact ⟨⟨by decide,by decide,trivial,⟨by omega,by omega⟩⟩,(show 1 ≤ 7 by decide),rfl⟩
  ·rw [if_neg c,if_neg c,dg_nn (by omega)]
   exact ⟨⟨by decide,by decide,trivial,⟨by omega,by omega⟩⟩,(show 1 ≤ 7 by decide),rfl⟩
 ·rw [if_neg hT,if_neg hT]
  by_cases c : v < 0
  ·rw [if_pos c,dg_neg c]
   exact ⟨⟨by omega,by omega⟩,(show 1 ≤ 7 by decide),rfl⟩
  ·rw [if_neg c,dg_nn (by omega)]
   exact ⟨⟨by omega,by omega⟩,Nat.zero_le _,rfl⟩
theorem aK_arg (K : Kn) (n : Int) (w0 : inU n) : ArgT (aK K (K.val n)) (opT K (K.val n)) := by
 have h31 := val_31 K n w0
 unfold aK
 cases hr : K.isR with
 | true =>
  obtain ⟨h1,h2⟩ := Qgm K n w0 hr
  rw [if_pos rfl]
  refine .inl ⟨(K.val n).toNat,by omega,by rw [Int.toNat_of_nonneg h1],?_⟩
  unfold opT
  rw [hr,if_pos rfl,dg_nn h1]
 | false =>
  obtain ⟨h1,h2,h3⟩ := xK_ok K h31 hr
  rw [if_neg (by decide)]
  exact .inr ⟨_,rfl,h1,h2,h3⟩
theorem Qk2 (n : Int) (w0 : inU n) : ∀ Ks : List Kn,ArgsT (Ks.map fun K => aK K (K.val n)) (List.zipWith opT Ks (Ks.map fun K => K.val n))
 | [] => .nil
 | K :: Ks => .cons _ _ _ _ (aK_arg K n w0) (Qk2 n w0 Ks)
theorem QpD {k : Nat} (hk : k < 66) : (ks k).length = (RG k).length ∧ ∀ (i : Nat) (K : Kn),(ks k)[i]? = some K → (RG k).getD i false = K.isR := by
 obtain ⟨a,l,b,m,_,_,_,_,h5,h6,h7,h8⟩ := Qjq hk
 obtain ⟨q,_,_,_,q4,q5⟩ := Qde hk
 rw [q4] at h5; cases h5
 rw [q5] at h6; cases h6
 rw [List.length_map] at h7
 refine ⟨h7,fun i K hi => ?_⟩
 obtain ⟨hlt,e⟩ := List.getElem?_eq_some_iff.1 hi
 have := h8 i (by rw [List.length_map]; exact hlt)
 rw [List.getElem_map,e,QkI] at this
 exact (Option.some.inj this).symm
theorem Qfz (a : List UInt8) : ∀ t : List (List UInt8),joinC (a :: t) = a ++ (t.flatMap fun x => 44 :: 32 :: x) := fun t => by
 rw [Zw]
 congr 1
 induction t with
 | nil => rfl
 | cons u t ih => rw [tailC,ih]; simp
def qI (k n : Nat) : SQ := (1,(k : Int),s_,(ks k).map fun K => aK K (K.val (n : Int)))
theorem fit_I {k n : Nat} (hk : k < 66) (hn : n < 4294967296) : FitQ (qI k n) := by
 obtain ⟨h1,h2⟩ := QpD hk
 refine .inst k _ hk (by rw [List.length_map]; exact h1) fun i a ha => ?_
 rw [List.getElem?_map] at ha
 obtain ⟨K,hK,rfl⟩ := Option.map_eq_some_iff.1 ha
 rw [h2 i K hK]
 have w0 : inU (n : Int) := ⟨by omega,by omega⟩
 unfold aK
 cases hr : K.isR with
 | true =>
  obtain ⟨r1,r2⟩ := Qgm K n w0 hr
  rw [if_pos rfl,if_pos rfl]
  exact ⟨(K.val n).toNat,by omega,by rw [Int.toNat_of_nonneg r1]⟩
 | false =>
  obtain ⟨x1,x2,_⟩ := xK_ok K (val_31 K n w0) hr
  rw [if_neg (by decide),if_neg (by decide)]
  exact ⟨_,rfl,x1,x2⟩
theorem text_I {k n : Nat} (hk : k < 66) (hn : n < 4294967296) : lineT s_ (qI k n) (opsL k (vals k n)) = lineI k (vals k n) := by
 obtain ⟨r,h1,_,_⟩ := Qk0 hk
 have e : nameQ (qI k n) = r.Name := by unfold nameQ qI; rw [if_pos rfl]; show ((D0[(k : Int).toNat]?).map (·.Name)).getD s_ = _; rw [Int.toNat_natCast,h1]; rfl
 have en : bl r.Name = nmB k := by
  have a := Qjp h1
  rw [(nm_is hk).2.1] at a
  rw [← Option.some.inj a,bl_ba]
 have el : lstT (qI k n) (opsL k (vals k n)) = opsL k (vals k n) := by unfold lstT; rw [if_neg (show (qI k n).1 ≠ 6 from (by decide : (1 : Int) ≠ 6)),if_neg (show (qI k n).1 ≠ 9 from (by decide : (1 : Int) ≠ 9))]
 unfold lineT labT lineI
 rw [if_pos rfl,e,en,el,List.nil_append]
 cases opsL k (vals k n) with
 | nil => rfl
 | cons a t => rw [if_neg (by simp),Qfz]
theorem args_I {k n : Nat} (hn : n < 4294967296) : ArgsT (qI k n).2.2.2 (opsL k (vals k n)) := Qk2 (n : Int) ⟨by omega,by omega⟩ (ks k)
def qD (k v : Int) : SQ := (k,0,s_,[⟨-1,(X3.num v).t⟩])
theorem fit_D {k v : Int} (hk : k = 3 ∨ k = 4) (hv : 0 ≤ v ∧ v < 65536) : FitQ (qD k v) ∧ ArgsT (qD k v).2.2.2 [dgK v] := by
 have ho : okW (.num v) := ⟨hv.1,by omega⟩
 refine ⟨.data k _ (by omega) (by simp) (by simp) fun a ha => ?_,.cons _ _ _ _ (.inr ⟨_,rfl,ho,Nat.zero_le _,dg_nn hv.1⟩) .nil⟩
 rcases List.mem_singleton.1 ha with rfl
 exact ⟨_,rfl,ho,Nat.zero_le _⟩
def Says (b : List Int) (q : SQ) : Prop := (∃ k : Nat,k < 66 ∧ q.1 = 1 ∧ q.2.1 = (k : Int) ∧ sz k = ((step b).2 : Int) ∧ (2 ≤ (step b).2)) ∨ (q.1 = 4 ∧ (step b).2 = 2) ∨ (q.1 = 3 ∧ (step b).2 = 1 ∧ b.length = 1)
end Go.Ab
set_option maxRecDepth 100000
namespace Go.Ab
theorem kS_nil {l : Nat} (h : l < 5) : kindS (lv l) (dropB []) = none := (Qka h []).2
theorem P1 {l s r : List UInt8} (hl : l.length ≤ 1000000000) {x : Qd} {d : Int} (hr : r <:+ l) (h1 : QI (RS l s d false) = some (x,RS l r d false)) (lo : Nat) (hk : ∀ lev,lo ≤ lev → lev < 5 → kindS (lv lev) (dropB r) = none) :
  ∀ g lev : Nat,g + lev = 5 → lo ≤ lev → ∃ r',Qu (lev : Int) (RS l s d false) = some (x,RS l r' d false) ∧ dropB r' = dropB r ∧ r' <:+ l
 | 0,lev,hg,_ => by
  have : lev = 5 := by omega
  subst this
  exact ⟨r,by rw [rtwo5,h1],rfl,hr⟩
 | g + 1,lev,hg,hlo => by
  obtain ⟨r',e,hd,hs⟩ := P1 hl hr h1 lo hk g (lev + 1) (by omega) (by omega)
  refine ⟨dropB r',?_,by rw [Zu,hd],(X5 r').trans hs⟩
  rw [Qgj (by omega),e,Option.bind_some]
  simp only
  rw [RL_eq hl (by omega) r' hs d x,hd,hk lev hlo (by omega)]
theorem Qgn {l s : List UInt8} (hl : l.length ≤ 1000000000) (hs : s <:+ l) {u : Nat} (hu : u < 4294967296) (h : dropB s = Lib.decDigits u) (d : Int) : QI (RS l s d false) = some ((X3.num u).t,RS l [] d false) := by
 obtain ⟨hD,hne⟩ := @Pa u
 have hh : ∀ (c : UInt8) r,isD c = false → Lib.decDigits u ≠ c :: r := fun c r hc e => by
  have := List.all_eq_true.1 hD c (by rw [e]; simp)
  rw [hc] at this; cases this
 have ha := Qpm hu (r := []) (fun c t e => by cases e)
 rw [List.append_nil] at ha
 have := ratom hl hs h (fun r => hh 40 r (by decide)) (fun r => hh 45 r (by decide)) (fun r => hh 46 r (by decide)) d
 rw [ha] at this
 exact this
theorem QqM {l s : List UInt8} (hl : l.length ≤ 1000000000) (hs : s <:+ l) {u : Nat} (hu : u < 4294967296) (h : dropB s = 45 :: Lib.decDigits u) {d : Int} (h0 : 0 ≤ d) (hd : d < 12) : QI (RS l s d false) = some ((X3.neg (.num u)).t,RS l [] d false) := by
 have hs2 : Lib.decDigits u <:+ l := (List.suffix_cons 45 _).trans (by rw [← h]; exact (X5 s).trans hs)
 have hdd : dropB (Lib.decDigits u) = Lib.decDigits u := by
  obtain ⟨hD,hne⟩ := @Pa u
  cases e : Lib.decDigits u with
  | nil => exact absurd e hne
  | cons c t => exact Xm fun hc => by rw [e,hc] at hD; simp [isD] at hD
 have h1 := Qgn hl hs2 hu hdd (d + 1)
 rw [Qmj hl hs h d]
 exact Qjl (o := some (.num u,[])) h0 hd h1
theorem Qeu {s r : List UInt8} (hs : s.length ≤ 1000000000) {x : Qd} (h : Qu 0 (RS s s 0 false) = some (x,RS s r 0 false)) (hr : r <:+ s) (hd : dropB r = []) : WM (ba s) = some (x,true) := by
 have h0 : (RS s s 0 false) = ⟨ba s,0,0,false⟩ := by simp
 rw [h0] at h
 rw [WM.eq]; unfold Qba
 rw [h,Option.bind_some,QkR hs 0 false r hr,Option.bind_some,hd]
 simp only [cond_false]
 have c1 : decide (((s.length - ([] : List UInt8).length : Nat) : Int) < (((ba s).size : Nat) : Int)) = false := decide_eq_false (by rw [QL]; simp)
 rw [c1]; rfl
theorem Qc5 {u : Nat} (hu : u < 4294967296) : (Lib.decDigits u).length ≤ 10 := EN 10 u (by omega) (by omega)
theorem Qhg {u : Nat} (hu : u < 4294967296) : WM (ba (Lib.decDigits u)) = some ((X3.num u).t,true) := by
 have hl := Qc5 hu
 have hdd : dropB (Lib.decDigits u) = Lib.decDigits u := by
  obtain ⟨hD,hne⟩ := @Pa u
  cases e : Lib.decDigits u with
  | nil => exact absurd e hne
  | cons c t => exact Xm fun hc => by rw [e,hc] at hD; simp [isD] at hD
 obtain ⟨r',e,hd,hs⟩ := P1 (by omega) (List.nil_suffix) (Qgn (by omega) (List.suffix_refl _) hu hdd 0) 0 (fun lev _ h5 => kS_nil h5) 5 0 rfl (by omega)
 exact Qeu (by omega) e hs hd
theorem QnT {u : Nat} (hu : u < 4294967296) : WM (ba (45 :: Lib.decDigits u)) = some ((X3.neg (.num u)).t,true) := by
 have hl := Qc5 hu
 have hl' : (45 :: Lib.decDigits u).length ≤ 1000000000 := by simp only [List.length_cons]; omega
 obtain ⟨r',e,hd,hs⟩ := P1 hl' (List.nil_suffix) (QqM hl' (List.suffix_refl _) hu (Xm (by decide)) (d := 0) (by omega) (by omega)) 0 (fun lev _ h5 => kS_nil h5) 5 0 rfl (by omega)
 exact Qeu hl' e hs hd
theorem sg_lv {k lev : Nat} (hk : k = 5 ∨ k = 6) (h5 : lev < 5) (s : List UInt8) : kindS (lv lev) (sg k ++ s) = if lev = 3 then some k else none := by
 have hl : lvlOf k = 3 := by rcases hk with rfl | rfl <;> rfl
 rw [Qpn (by omega) h5,hl]
 by_cases h : lev = 3
 ·rw [if_pos h,if_pos h.symm]
 ·rw [if_neg h,if_neg (fun e => h e.symm)]
theorem Qhh {k u : Nat} (hk : k = 5 ∨ k = 6) (hu : u < 4294967296) : WM (ba (46 :: 32 :: (sg k ++ 32 :: Lib.decDigits u))) = some ((X3.bin k .here (.num u)).t,true) := by
 have hl := Qc5 hu
 have hsg : (sg k).length = 1 ∧ ∃ c,sg k = [c] ∧ c ≠ 32 := by rcases hk with rfl | rfl; exact ⟨rfl,43,rfl,by decide⟩; exact ⟨rfl,45,rfl,by decide⟩
 obtain ⟨hs1,c,hc,hc32⟩ := hsg
 have hL : ∀ l : List UInt8,l = 46 :: 32 :: (sg k ++ 32 :: Lib.decDigits u) → l.length ≤ 1000000000 := fun l e => by rw [e]; simp only [List.length_cons,List.length_append]; omega
 generalize hX : 46 :: 32 :: (sg k ++ 32 :: Lib.decDigits u) = l at hL
 have hl2 := hL l rfl
 have suf1 : (32 :: (sg k ++ 32 :: Lib.decDigits u)) <:+ l := by rw [← hX]; exact List.suffix_cons _ _
 have suf2 : (32 :: Lib.decDigits u) <:+ l := ((List.suffix_append (sg k) _).trans (List.suffix_cons 32 _)).trans suf1
 have hdl : dropB (32 :: (sg k ++ 32 :: Lib.decDigits u)) = sg k ++ 32 :: Lib.decDigits u := by
  rw [show (32 :: (sg k ++ 32 :: Lib.decDigits u)) = [32] ++ (sg k ++ 32 :: Lib.decDigits u) from rfl,Qc0 (by simp),hc]
  exact Xm hc32
 have hdn : dropB (32 :: Lib.decDigits u) = Lib.decDigits u := by
  obtain ⟨hD,hne⟩ := @Pa u
  rw [show (32 :: Lib.decDigits u) = [32] ++ Lib.decDigits u from rfl,Qc0 (by simp)]
  cases e : Lib.decDigits u with
  | nil => exact absurd e hne
  | cons c t => exact Xm fun hc => by rw [e,hc] at hD; simp [isD] at hD
 have hone : QI (RS l l 0 false) = some (X3.here.t,RS l (32 :: (sg k ++ 32 :: Lib.decDigits u)) 0 false) := Qps hl2 (List.suffix_refl _) (by rw [← hX]; exact Xm (by decide)) 0
 obtain ⟨r1,e1,d1,s1⟩ := P1 hl2 suf1 hone 4 (fun lev h4 h5 => by rw [hdl,sg_lv hk h5,if_neg (by omega)]) 1 4 rfl (by omega)
 obtain ⟨r2,e2,d2,s2⟩ := P1 hl2 (List.nil_suffix) (Qgn hl2 suf2 hu hdn 0) 4 (fun lev _ h5 => kS_nil h5) 1 4 rfl (by omega)
 have e3 : ∃ r3,Qu ((3 : Nat) : Int) (RS l l 0 false) = some ((X3.bin k .here (.num u)).t,RS l r3 0 false) ∧ dropB r3 = [] ∧ r3 <:+ l := by
  refine ⟨dropB r2,?_,by rw [Zu,d2]; rfl,(X5 r2).trans s2⟩
  rw [Qgj (by omega),e1,Option.bind_some]
  simp only
  rw [RL_eq hl2 (by omega) r1 s1 0 _,d1,hdl,sg_lv hk (by omega),if_pos rfl]
  simp only
  have hdrop : (sg k ++ 32 :: Lib.decDigits u).drop (sg k).length = 32 :: Lib.decDigits u := by simp
  rw [hdrop,e2,Option.bind_some]
  simp only
  rw [RL_eq hl2 (by omega) r2 s2 0 _,d2,kS_nil (by omega)]; rfl
 have up : ∀ g lev : Nat,g + lev = 3 → ∃ r3,Qu (lev : Int) (RS l l 0 false) = some ((X3.bin k .here (.num u)).t,RS l r3 0 false) ∧ dropB r3 = [] ∧ r3 <:+ l := by
  intro g
  induction g with
  | zero =>
   intro lev h
   have : lev = 3 := by omega
   subst this; exact e3
  | succ g ih =>
   intro lev h
   obtain ⟨r3,a1,a2,a3⟩ := ih (lev + 1) (by omega)
   refine ⟨dropB r3,?_,by rw [Zu,a2],(X5 r3).trans a3⟩
   rw [Qgj (by omega),a1,Option.bind_some]
   simp only
   rw [RL_eq hl2 (by omega) r3 a3 0 _,a2,show kindS (lv lev) [] = none from kS_nil (by omega)]
 obtain ⟨r3,a1,a2,a3⟩ := up 3 0 rfl
 exact Qeu hl2 a1 a3 a2
end Go.Ab
set_option maxRecDepth 100000
namespace Go.Ab
theorem QpE {m : Nat} (h : m ≤ 31) : Xi (ba (114 :: Lib.decDigits m)) true = some (⟨(m : Int),E0⟩,true) := by
 rw [Xi.eq]; unfold Qbc
 rw [cond_true,QqC,QqK h]
 simp only [Option.bind_some]
 rw [decide_eq_true (show (m : Int) ≥ 0 by omega),if_neg (show ¬ (0 : Int) > (m : Int) by omega)]
theorem rarg_x {t : List UInt8} {x : X3} (h : WM (ba t) = some (x.t,true)) : Xi (ba t) false = some (⟨-1,x.t⟩,true) := by
 rw [Xi.eq]; unfold Qbc
 rw [cond_false,h]; rfl
theorem rarg_K (K : Kn) (n : Int) (w0 : inU n) : Xi (ba (opT K (K.val n))) K.isR = some (aK K (K.val n),true) := by
 have h31 := val_31 K n w0
 have hreg := Qgm K n w0
 unfold aK opT
 generalize K.val n = v at h31 hreg
 cases hr : K.isR with
 | true =>
  obtain ⟨h1,h2⟩ := hreg hr
  rw [if_pos rfl,if_pos rfl,dg_nn h1]
  have := QpE (m := v.toNat) (by omega)
  rw [Int.toNat_of_nonneg h1] at this
  exact this
 | false =>
  rw [if_neg (show ¬ (false = true) by decide),if_neg (show ¬ (false = true) by decide)]
  unfold xK
  have e1 : v < 0 → ((0 - v).toNat : Int) = 0 - v := fun h => Int.toNat_of_nonneg (by omega)
  cases hT : K.isT with
  | true =>
   rw [if_pos rfl,if_pos rfl]
   by_cases c : v < 0
   ·rw [if_pos c,if_pos c,dg_nn (by omega)]
    have := rarg_x (Qhh (k := 6) (u := (0 - v).toNat) (.inr rfl) (by omega))
    rw [e1 c] at this
    exact this
   ·rw [if_neg c,if_neg c,dg_nn (by omega)]
    have := rarg_x (Qhh (k := 5) (u := v.toNat) (.inl rfl) (by omega))
    rw [Int.toNat_of_nonneg (show 0 ≤ v by omega)] at this
    exact this
  | false =>
   rw [if_neg (show ¬ (false = true) by decide),if_neg (show ¬ (false = true) by decide)]
   by_cases c : v < 0
   ·rw [if_pos c,dg_neg c]
    have := rarg_x (QnT (u := (0 - v).toNat) (by omega))
    rw [e1 c] at this
    exact this
   ·rw [if_neg c,dg_nn (by omega)]
    have := rarg_x (Qhg (u := v.toNat) (by omega))
    rw [Int.toNat_of_nonneg (show 0 ≤ v by omega)] at this
    exact this
theorem Qk3 (Ks : List Kn) (n : Int) (w0 : inU n) (hK : Ks.length ≤ 8) : ∀ (g i : Nat) (out : List Qg),g + i = Ks.length → out.length ≤ i →
  Uv ⟨(List.zipWith opT Ks (Ks.map fun K => K.val n)).map ba,Ks.map Kn.str,(i : Int),out⟩ = some (.inr (out ++ (Ks.drop i).map fun K => aK K (K.val n)))
 | 0,i,out,hg,ho => by
  rw [Uv.eq]; unfold Zi
  simp only
  rw [List.length_map,List.length_zipWith,List.length_map,decide_eq_false (show ¬ (i : Int) < ((min Ks.length Ks.length : Nat) : Int) by omega),List.drop_eq_nil_of_le (by omega)]; simp
 | g + 1,i,out,hg,ho => by
  have hi : i < Ks.length := by omega
  have g1 : (Ks.map Kn.str)[Int.toNat (i : Int)]? = some Ks[i].str := by rw [Int.toNat_natCast,List.getElem?_map,List.getElem?_eq_getElem hi]; rfl
  have g2 : ((List.zipWith opT Ks (Ks.map fun K => K.val n)).map ba)[Int.toNat (i : Int)]? = some (ba (opT Ks[i] (Ks[i].val n))) := by
   rw [Int.toNat_natCast,List.getElem?_map,List.getElem?_zipWith,List.getElem?_map,List.getElem?_eq_getElem hi]; rfl
  have ih := Qk3 Ks n w0 hK g (i + 1) (out ++ [aK Ks[i] (Ks[i].val n)]) (by omega) (by simp; omega)
  rw [Uv.eq]; unfold Zi
  simp only
  rw [List.length_map,List.length_zipWith,List.length_map,List.length_map,decide_eq_true (show (i : Int) < ((min Ks.length Ks.length : Nat) : Int) by omega),cond_true,decide_eq_true (show (i : Int) < ((Ks.length : Nat) : Int) by omega),cond_true,decide_eq_true (show 0 ≤ (i : Int) by omega),cond_true,g1,Option.bind_some,QkI,Option.bind_some,g2,Option.bind_some,rarg_K _ n w0,Option.bind_some]
  simp only [Bool.not_true,cond_false]
  rw [show decide ((out.length + [aK Ks[i] (Ks[i].val n)].length) * 64 ≤ most) = true from decide_eq_true (by rw [List.length_singleton]; show _ * 64 ≤ 140737488355328; omega),cond_true,Option.bind_some,Sum.elim_inl,w64_in (by omega) (by omega)]
  have ih : Uv ⟨_,_,(i : Int) + 1,_⟩ = _ := ih
  rw [ih,List.drop_eq_getElem_cons hi,List.map_cons,List.append_assoc]; rfl
def nameChk (k : Nat) : Bool := (match findR (-1) (ba (nmB k)) D0 0 with | some r => r.2 == (k : Int) | none => false) && (!eqS (ba (nmB k)) s_b && (!eqS (ba (nmB k)) s_bl && (!eqS (ba (nmB k)) s_bc && (decide ((nmB k).getD 0 0 ≠ 46) && ((nmB k).all isI && decide (nmB k ≠ []))))))
theorem QpF : ((List.range 66).all nameChk) = true := by kernel_rfl
theorem Qk4 {k : Nat} (hk : k < 66) : YS (ba (nmB k)) = some ((k : Int),true) ∧ eqS (ba (nmB k)) s_b = false ∧ eqS (ba (nmB k)) s_bl = false ∧ eqS (ba (nmB k)) s_bc = false ∧ (nmB k).getD 0 0 ≠ 46 ∧ (nmB k).all isI = true ∧ nmB k ≠ [] := by
 have h := List.all_eq_true.1 QpF k (List.mem_range.2 hk)
 unfold nameChk at h
 simp only [Bool.and_eq_true,Bool.not_eq_true',decide_eq_true_eq] at h
 obtain ⟨h1,h2,h3,h4,h5,h6,h7⟩ := h
 refine ⟨?_,h2,h3,h4,h5,h6,h7⟩
 rw [YS.eq]; unfold QcO
 rw [PX]
 split at h1
 ·rename_i r hr
  rw [hr]
  simp only [Option.bind_some]
  rw [beq_iff_eq.1 h1]
 ·cases h1
theorem QqN {k n : Nat} (hk : k < 66) (hn : n < 4294967296) : XR (ba (nmB k)) ((opsL k (vals k n)).map ba) = some (⟨0,s_,1,(k : Int),s_,(ks k).map fun K => aK K (K.val (n : Int))⟩,true) := by
 obtain ⟨n1,n2,n3,n4,_⟩ := Qk4 hk
 obtain ⟨q,_,_,_,q4,q5⟩ := Qde hk
 have hks := ks_len k
 have ha := Qk3 (ks k) (n : Int) ⟨by omega,by omega⟩ (by omega) (ks k).length 0 [] (by omega) (by simp)
 have ha : Uv ⟨(opsL k (vals k n)).map ba,(ks k).map Kn.str,0,[]⟩ = _ := ha
 have hA : Vp ((opsL k (vals k n)).map ba) ((ks k).map Kn.str) = some ((ks k).map fun K => aK K (K.val (n : Int)),true) := by
  rw [Vp.eq]; unfold Sn
  rw [ha]; rfl
 have hlen : ((opsL k (vals k n)).map ba).length = ((ks k).map Kn.str).length := by
  rw [List.length_map,List.length_map]
  unfold opsL vals
  rw [List.length_zipWith,List.length_map]; omega
 rw [XR.eq]; unfold QcP
 rw [n2,cond_false,n3,cond_false,n4,cond_false,n1,Option.bind_some]
 simp only [Bool.not_true,cond_false]
 rw [q4,Option.bind_some,q5,Option.bind_some,hlen,bne_self_eq_false,cond_false,hA]; rfl
theorem Qhi {t : List UInt8} {a : Qg} (h : Xi (ba t) false = some (a,true)) : Vp ([t].map ba) [] = some ([a],true) := by
 rw [Vp.eq]; unfold Sn
 have e0 : Uv ⟨[t].map ba,[],((1 : Nat) : Int),[a]⟩ = some (.inr [a]) := by rw [Uv.eq]; rfl
 have e : Uv ⟨[t].map ba,[],0,[]⟩ = some (.inr [a]) := by
  rw [Uv.eq]; unfold Zi
  simp only
  rw [show decide ((0 : Int) < ((([t].map ba).length : Nat) : Int)) = true from rfl,cond_true,show decide ((0 : Int) < ((([] : List ByteArray).length : Nat) : Int)) = false from rfl,cond_false,show decide (0 ≤ (0 : Int)) = true from rfl,cond_true,show ([t].map ba)[Int.toNat 0]? = some (ba t) from rfl,Option.bind_some,h,Option.bind_some]
  simp only [Bool.not_true,cond_false]
  rw [show decide ((([] : List Qg).length + [a].length) * 64 ≤ most) = true from rfl,cond_true,Option.bind_some,Sum.elim_inl]
  exact e0
 rw [e]; rfl
theorem QpG {k v : Int} (hk : k = 3 ∨ k = 4) (hv : 0 ≤ v ∧ v < 65536) : Xh (nameQ (qD k v)) ([dgK v].map ba) = some (⟨0,s_,k,0,s_,[⟨-1,(X3.num v).t⟩]⟩,true) := by
 have ha : Xi (ba (dgK v)) false = some (⟨-1,(X3.num v).t⟩,true) := by
  rw [dg_nn hv.1]
  have := rarg_x (Qhg (u := v.toNat) (by omega))
  rw [Int.toNat_of_nonneg hv.1] at this
  exact this
 rw [Xh.eq]; unfold Qbd
 rcases hk with rfl | rfl
 ·rw [show nameQ (qD 3 v) = V6 from rfl,show eqS V6 V6 = true from WN.2 rfl,cond_true,show decide (((([dgK v].map ba).length : Nat) : Int) < 1) = false from rfl,cond_false,show decide (((([dgK v].map ba).length : Nat) : Int) > 16) = false from rfl,cond_false,Qhi ha]; rfl
 ·rw [show nameQ (qD 4 v) = V7 from rfl,show eqS V7 V6 = false by decide +kernel,cond_false,show eqS V7 V7 = true from WN.2 rfl,cond_true,show decide (((([dgK v].map ba).length : Nat) : Int) < 1) = false from rfl,cond_false,show decide (((([dgK v].map ba).length : Nat) : Int) > 16) = false from rfl,cond_false,Qhi ha]; rfl
def glL (N : List UInt8) (ts : List (List UInt8)) : List UInt8 := N ++ (if ts = [] then [] else 32 :: joinC ts)
def okNm (N : List UInt8) : Prop := N.all nb = true ∧ N ≠ [] ∧ 34 ∉ N ∧ 35 ∉ N ∧ 10 ∉ N ∧ 58 ∉ N
theorem Qk5 {N : List UInt8} (hN : okNm N) (ts : List (List UInt8)) (hc : ∀ t ∈ ts,Cle t) (hlen : (glL N ts).length ≤ 1000000) {y : Qf}
  (hd : (if N.getD 0 0 = 46 then Xh (ba N) (ts.map ba) else XR (ba N) (ts.map ba)) = some (y,true)) : XH (ba (glL N ts)) = some (⟨1,s_,y.Kind,y.Op,y.Text,y.Args⟩,true) := by
 obtain ⟨n1,n2,n34,n35,n10,n58⟩ := hN
 have nbW : ∀ c ∈ N,isW c = false := fun c hc => by have := List.all_eq_true.1 n1 c hc; simpa [nb] using this
 have no : ∀ c,cl c = false → c ≠ 44 → c ≠ 32 → c ∉ N → c ∉ glL N ts := by
  intro c h1 h2 h3 h4
  unfold glL
  split
  ·simpa using h4
  ·simp only [List.mem_append,List.mem_cons,not_or]
   exact ⟨h4,h3,QqL h2 h3 ts (fun u hu => (hc u hu).no h1)⟩
 have g34 := no 34 (by decide) (by decide) (by decide) n34
 have g35 := no 35 (by decide) (by decide) (by decide) n35
 have g10 := no 10 (by decide) (by decide) (by decide) n10
 have g58 := no 58 (by decide) (by decide) (by decide) n58
 have h1 : ∃ c r,glL N ts = c :: r ∧ isW c = false := by
  unfold glL
  cases N with
  | nil => exact absurd rfl n2
  | cons c r => exact ⟨c,_,rfl,nbW c (by simp)⟩
 have h2 : ∃ r c,glL N ts = r ++ [c] ∧ isW c = false := by
  unfold glL
  cases ts with
  | nil => rw [if_pos rfl,List.append_nil]; exact ⟨_,_,(List.dropLast_concat_getLast n2).symm,nbW _ (List.getLast_mem n2)⟩
  | cons t ts =>
   rw [if_neg (by simp)]
   obtain ⟨_,r,c,e,hw⟩ := Su t ts hc
   exact ⟨N ++ (32 :: r),c,by rw [e]; simp,hw⟩
 have hb : bareQ false (glL N ts) = glL N ts := by
  have := Qjw (glL N ts) [] g34 g35
  rw [List.append_nil] at this
  rw [this]
  show glL N ts ++ [] = _
  rw [List.append_nil]
 have ht : trimW (glL N ts) = glL N ts := F9 h1 h2
 have hp : ∀ c t,(if ts = [] then [] else 32 :: joinC ts) = c :: t → nb c = false := by
  intro c t e
  split at e
  ·cases e
  ·cases e; decide
 obtain ⟨e1,e2⟩ := Fw (p := nb) n1 hp
 have e1 : (glL N ts).takeWhile nb = N := e1
 have e2 : (glL N ts).dropWhile nb = if ts = [] then [] else 32 :: joinC ts := e2
 have hlab : labS (glL N ts) = none := by
  unfold labS
  cases hdw : (glL N ts).dropWhile isI with
  | nil => rfl
  | cons c t =>
   have hm : c ∈ glL N ts := (List.dropWhile_sublist isI).mem (by rw [hdw]; simp)
   simp only
   rw [if_neg (fun x : c = 58 ∧ wordB ((glL N ts).takeWhile isI) = true => g58 (x.1 ▸ hm))]
 have hne : glL N ts ≠ [] := by obtain ⟨c,r,e,_⟩ := h1; rw [e]; simp
 have d34 : 34 ∉ (glL N ts).dropWhile nb := fun hm => g34 ((List.dropWhile_sublist nb).mem hm)
 have hparts : ts ≠ [] → (partsQ false [] ((glL N ts).dropWhile nb)).map (fun p => ba (trimW p)) = ts.map ba := fun hts => by
  have a := Qmn _ d34
  have b := Qpu ((glL N ts).dropWhile nb)
  have e3 : trimW ((glL N ts).dropWhile nb) = joinC ts := by
   rw [e2,if_neg hts]
   cases ts with
   | nil => exact absurd rfl hts
   | cons t ts =>
    obtain ⟨x,z⟩ := Su t ts hc
    rw [F8 (by decide),F9 x z]
  rw [e3] at b
  have o := QpB ts hc
  unfold opsS at o
  have jne : joinC ts ≠ [] := by
   cases ts with
   | nil => exact absurd rfl hts
   | cons t ts => obtain ⟨⟨c,r,e,_⟩,_⟩ := Su t ts hc; rw [e]; simp
  rw [if_neg jne] at o
  have : ((partsQ false [] ((glL N ts).dropWhile nb)).map trimW) = ts := by rw [a,← b,o]
  rw [show (fun p => ba (trimW p)) = ba ∘ trimW from rfl,← List.map_map,this]
 have hnl := QkW (glL N ts) (by omega) E_st (glL N ts).length 0 (by omega)
 have hnl : Wf ⟨ba (glL N ts),0,Qf.mk 0 s_ 0 0 s_ []⟩ = _ := hnl
 have hl := QkX s_ (glL N ts) (by omega) E_st (glL N ts).length 0 (by omega) (by simp)
 have hl : WC ⟨s_,ba (glL N ts),0,E_st⟩ = _ := hl
 have hD : (glL N ts).drop ((glL N ts).takeWhile nb).length = (glL N ts).dropWhile nb := (Qgk (glL N ts)).2
 have hx : (ba (glL N ts)).extract (Int.toNat 0) (Int.toNat ((N.length : Nat) : Int)) = ba N := by
  have := (Qgk (p := nb) (glL N ts)).1
  rw [e1] at this
  rw [X4,Int.toNat_natCast,this]; rfl
 have hle : N.length ≤ (glL N ts).length := by unfold glL; rw [List.length_append]; omega
 have hpos : 0 < N.length := List.length_pos_iff.2 n2
 have hg0 : (ba N).data.getD (Int.toNat 0) 0 = N.getD 0 0 := EM _ _ _
 have h46 : (((N.getD 0 0).toNat : Int) == 46) = decide (N.getD 0 0 = 46) := u8_eq (n := 46) (by decide)
 have hdw := dw_le (p := nb) (glL N ts)
 rw [XH.eq]; unfold Qej
 rw [hnl,List.drop_zero,Option.bind_some,if_neg g10,Sum.elim_inr]
 simp only
 rw [Qpt _ (by omega),Option.bind_some,hb,P0 _ (by omega),Option.bind_some,ht,Qpw _ (by omega),Option.bind_some,hlab]
 simp only
 rw [QkV,decide_eq_false hne,cond_false,hl,Option.bind_some]
 simp only
 rw [e1,QL,decide_eq_true (show 0 ≤ (0 : Int) ∧ (0 : Int) ≤ ((N.length : Nat) : Int) ∧ ((N.length : Nat) : Int) ≤ (((glL N ts).length : Nat) : Int) by omega),cond_true,decide_eq_true (show 0 ≤ ((N.length : Nat) : Int) ∧ ((N.length : Nat) : Int) ≤ (((glL N ts).length : Nat) : Int) ∧ (((glL N ts).length : Nat) : Int) ≤ (((glL N ts).length : Nat) : Int) by omega),cond_true,ba_cut,List.take_length,hx]
 rw [e1] at hD
 rw [hD,P0 _ (by omega),Option.bind_some,QkV,QL,decide_eq_true (show 0 ≤ (0 : Int) ∧ (0 : Int) < ((N.length : Nat) : Int) by omega),hg0,h46]
 simp only [cond_true]
 by_cases hts : ts = []
 ·have e3 : trimW ((glL N ts).dropWhile nb) = [] := by rw [e2,if_pos hts]; rfl
  have hm : ts.map ba = [] := by rw [hts]; rfl
  rw [hm] at hd
  rw [e3]
  simp only [decide_true,Bool.not_true,cond_false]
  by_cases h : N.getD 0 0 = 46
  ·rw [if_pos h] at hd
   rw [decide_eq_true h,cond_true,hd]; rfl
  ·rw [if_neg h] at hd
   rw [decide_eq_false h,cond_false,hd]; rfl
 ·have e3 : trimW ((glL N ts).dropWhile nb) ≠ [] := by
   rw [e2,if_neg hts]
   cases ts with
   | nil => exact absurd rfl hts
   | cons t ts =>
    obtain ⟨x,z⟩ := Su t ts hc
    rw [F8 (by decide),F9 x z]
    obtain ⟨c,r,e,_⟩ := x
    rw [e]; simp
  rw [decide_eq_false e3,Bool.not_false,cond_true,QnQ _ (by omega),Option.bind_some,hparts hts]
  by_cases h : N.getD 0 0 = 46
  ·rw [if_pos h] at hd
   rw [decide_eq_true h,cond_true,hd]; rfl
  ·rw [if_neg h] at hd
   rw [decide_eq_false h,cond_false,hd]; rfl
end Go.Ab
set_option maxRecDepth 100000
namespace Go.Ab
theorem one_I {k n : Nat} (hk : k < 66) (hn : n < 4294967296) : XH (ba (lineI k (vals k n))) = some (mkS s_ (qI k n),true) := by
 obtain ⟨n1,n2,n3,n4,n5,n6,n7⟩ := Qk4 hk
 have hl := Qji (Qgh hk hn)
 have hg : glL (nmB k) (opsL k (vals k n)) = lineI k (vals k n) := by
  unfold glL lineI
  cases opsL k (vals k n) with
  | nil => rfl
  | cons a t => rw [if_neg (by simp),Qfz]
 have hN : okNm (nmB k) := by
  have hc := Cle_I n6 n7
  exact ⟨List.all_eq_true.2 fun c hc => by have := (isI_cl (List.all_eq_true.1 n6 c hc)).2; simp [nb,this],n7,hc.no (by decide),hc.no (by decide),hc.no (by decide),hc.no (by decide)⟩
 have ho := Qk5 hN (opsL k (vals k n)) (Qhf (args_I hn)) (by rw [hg]; omega) (y := ⟨0,s_,1,(k : Int),s_,(ks k).map fun K => aK K (K.val (n : Int))⟩) (by rw [if_neg n5]; exact QqN hk hn)
 rw [hg] at ho
 exact ho
theorem one_D {k v : Int} {N : List UInt8} (hk : k = 3 ∨ k = 4) (hv : 0 ≤ v ∧ v < 65536) (hn : nameQ (qD k v) = ba N) (h46 : N.getD 0 0 = 46) (hN : okNm N) (hNl : N.length ≤ 100) : XH (ba (N ++ 32 :: dgK v)) = some (mkS s_ (qD k v),true) := by
 obtain ⟨f1,f2⟩ := fit_D hk hv
 have hdl := dg_len (v := v) ⟨by omega,by omega⟩
 have hd := QpG hk hv
 rw [hn] at hd
 exact Qk5 hN [dgK v] (Qhf f2) (by unfold glL; rw [if_neg (by simp)]; simp only [List.length_append,List.length_cons,joinC]; omega) (y := ⟨0,s_,k,0,s_,[⟨-1,(X3.num v).t⟩]⟩) (by rw [if_pos h46]; exact hd)
theorem one_B {v : Int} (hv : 0 ≤ v ∧ v < 65536) : XH (ba ([46,98,121,116,101] ++ 32 :: dgK v)) = some (mkS s_ (qD 3 v),true) := one_D (.inl rfl) hv rfl rfl ⟨by decide,by decide,by decide,by decide,by decide,by decide⟩ (by decide)
theorem one_H {v : Int} (hv : 0 ≤ v ∧ v < 65536) : XH (ba ([46,104,97,108,102] ++ 32 :: dgK v)) = some (mkS s_ (qD 4 v),true) := one_D (.inr rfl) hv rfl rfl ⟨by decide,by decide,by decide,by decide,by decide,by decide⟩ (by decide)
end Go.Ab
set_option maxRecDepth 100000
namespace Go.Ab
theorem text_D {k v : Int} {N : List UInt8} (hk : k = 3 ∨ k = 4) (hv : 0 ≤ v ∧ v < 65536) (hn : nameQ (qD k v) = ba N) : W0 (mkS s_ (qD k v)) = some (ba (N ++ 32 :: dgK v)) := by
 obtain ⟨f1,f2⟩ := fit_D hk hv
 have ht := Qfy s_ (.inl rfl) f1 _ f2
 have el : lstT (qD k v) [dgK v] = [dgK v] := by unfold lstT; rw [if_neg (show (qD k v).1 ≠ 6 by show k ≠ 6; omega),if_neg (show (qD k v).1 ≠ 9 by show k ≠ 9; omega)]
 have et : lineT s_ (qD k v) [dgK v] = N ++ 32 :: dgK v := by
  unfold lineT labT
  rw [if_pos rfl,hn,bl_ba,el,if_neg (by simp)]; rfl
 rw [et] at ht
 exact ht
theorem QnU (b : List Int) (hb : U8 b) (h0 : b ≠ []) : ∃ q,Says b q ∧ XH (ba (step b).1) = some (mkS s_ q,true) ∧ W0 (mkS s_ q) = some (ba (step b).1) := by
 have hpos : 0 < b.length := List.length_pos_iff.2 h0
 have hx0 := Qbm hb
 have hx1 := Qbm (Zv hb 1)
 rcases Qc2 b hb with ⟨k,n,s,h,h1,h2,h3,h3',h4,_⟩ | h
 ·have e : step b = (lineI k (vals k n),s.toNat) := by unfold step; rw [h]; simp only; rw [Int.toNat_natCast]
  have ht := Qfy s_ (.inl rfl) (fit_I h2 h1) _ (args_I h1)
  rw [text_I h2 h1] at ht
  refine ⟨qI k n,.inl ⟨k,h2,rfl,rfl,?_,?_⟩,by rw [e]; exact one_I h2 h1,by rw [e]; exact ht⟩
  ·rw [e,← h3']; simp only; omega
  ·rw [e]; simp only; omega
 ·have v0 : 0 ≤ b.headD 0 ∧ b.headD 0 < 65536 := ⟨hx0.1,by have := hx0.2; omega⟩
  have v1 : 0 ≤ b.headD 0 * 256 + (b.drop 1).headD 0 ∧ b.headD 0 * 256 + (b.drop 1).headD 0 < 65536 := ⟨by have := hx0.1; have := hx1.1; omega,by have := hx0.2; have := hx1.2; omega⟩
  by_cases c : b.length = 1
  ·have e : step b = ([46,98,121,116,101] ++ 32 :: dgK (b.headD 0),1) := by unfold step; rw [h]; simp only; rw [if_pos c]; rfl
   exact ⟨_,.inr (.inr ⟨rfl,by rw [e],c⟩),by rw [e]; exact one_B v0,by rw [e]; exact text_D (.inl rfl) v0 rfl⟩
  ·have e : step b = ([46,104,97,108,102] ++ 32 :: dgK (b.headD 0 * 256 + (b.drop 1).headD 0),2) := by unfold step; rw [h]; simp only; rw [if_neg c]; rfl
   exact ⟨_,.inr (.inl ⟨rfl,by rw [e]⟩),by rw [e]; exact one_H v1,by rw [e]; exact text_D (.inr rfl) v1 rfl⟩
theorem QdX (b0 : List Int) (hb0 : b0.length ≤ 1000000) (hu0 : U8 b0) : ∀ (m : Nat) (b : List Int) (pre_ : List (List UInt8)),b.length ≤ m → U8 b → b.length ≤ b0.length → listing b0 = pre_ ++ listing b →
  Uk ⟨b0,(listing b0).map ba,((b0.length - b.length : Nat) : Int),((pre_.length : Nat) : Int)⟩ = some (.inr ⟨b0,((b0.length : Nat) : Int)⟩)
 | m,b,pre_,hm,hu,hle,hl => by
  have hlen := QdV hu0
  have hL : (listing b0).length = pre_.length + (listing b).length := by rw [hl,List.length_append]
  by_cases h0 : b = []
  ·subst h0
   rw [SK] at hL
   rw [Uk.eq]; unfold YJ
   simp only
   rw [List.length_map,decide_eq_false (show ¬ ((pre_.length : Nat) : Int) < (((listing b0).length : Nat) : Int) by simp only [List.length_nil] at hL; omega)]; rfl
  ·obtain ⟨s1,s2,_⟩ := Pc b hu h0
   match m,hm with
   | 0,hm => omega
   | m + 1,hm =>
   have hcons := PY hu h0
   obtain ⟨q,hsay,o1,o2⟩ := QnU b hu h0
   rw [hcons,List.length_cons] at hL
   have hg : ((listing b0).map ba)[Int.toNat ((pre_.length : Nat) : Int)]? = some (ba (step b).1) := by
    rw [Int.toNat_natCast,List.getElem?_map,hl,hcons,List.getElem?_append_right (Nat.le_refl _),Nat.sub_self]; rfl
   have ih := QdX b0 hb0 hu0 m (b.drop (step b).2) (pre_ ++ [(step b).1]) (by rw [List.length_drop]; omega) (Zv hu _) (by rw [List.length_drop]; omega) (by rw [hl,hcons,List.append_assoc]; rfl)
   have hn : ((b0.length - b.length : Nat) : Int) + ((step b).2 : Int) = ((b0.length - (b.drop (step b).2).length : Nat) : Int) := by rw [List.length_drop]; omega
   have hi : ((pre_.length : Nat) : Int) + 1 = (((pre_ ++ [(step b).1]).length : Nat) : Int) := by rw [List.length_append]; rfl
   have heq : eqS (ba (step b).1) (ba (step b).1) = true := WN.2 rfl
   rw [Uk.eq]; unfold YJ
   simp only
   rw [List.length_map,decide_eq_true (show ((pre_.length : Nat) : Int) < (((listing b0).length : Nat) : Int) by omega),cond_true,decide_eq_true (show 0 ≤ ((pre_.length : Nat) : Int) by omega),cond_true,hg,Option.bind_some,o1,Option.bind_some]
   simp only
   rcases hsay with ⟨k,hk,k1,k2,k3,k4⟩ | ⟨k1,k2⟩ | ⟨k1,k2,k3⟩
   ·rw [show ((mkS s_ q).Kind == 1) = true from beq_iff_eq.2 k1,cond_true]
    obtain ⟨r,_,_,r3,_⟩ := Qde hk
    have hsz : Yu (mkS s_ q).Op = some ((step b).2 : Int) := by rw [show (mkS s_ q).Op = (k : Int) from k2,r3,k3]
    rw [hsz,Option.bind_some,Bool.not_true,cond_false,show (((step b).2 : Int) == 0) = false from beq_eq_false_iff_ne.2 (by omega),cond_false,show (((step b).2 : Int) == 1) = false from beq_eq_false_iff_ne.2 (by omega),cond_false,o2,Option.bind_some,Option.bind_some,heq,Bool.not_true,cond_false,Option.bind_some,Sum.elim_inl,w64_in (by omega) (by omega),w64_in (by omega) (by omega),hn,hi]
    exact ih
   ·rw [show ((mkS s_ q).Kind == 1) = false from beq_eq_false_iff_ne.2 (by show q.1 ≠ 1; omega),cond_false,show ((mkS s_ q).Kind == 4) = true from beq_iff_eq.2 k1,cond_true,Bool.not_true,cond_false,o2,Option.bind_some,Option.bind_some,heq,Bool.not_true,cond_false,Option.bind_some,Sum.elim_inl,w64_in (by omega) (by omega),w64_in (by omega) (by omega),show (2 : Int) = ((step b).2 : Int) by omega,hn,hi]
    exact ih
   ·have hend : listing (b.drop (step b).2) = [] := by rw [k2,show b.drop 1 = [] from List.drop_eq_nil_of_le (by omega)]; rfl
    rw [hend,List.length_nil] at hL
    rw [show ((mkS s_ q).Kind == 1) = false from beq_eq_false_iff_ne.2 (by show q.1 ≠ 1; omega),cond_false,show ((mkS s_ q).Kind == 4) = false from beq_eq_false_iff_ne.2 (by show q.1 ≠ 4; omega),cond_false,show ((mkS s_ q).Kind == 3) = true from beq_iff_eq.2 k1,cond_true,Bool.not_true,cond_false,w64_in (n := (((listing b0).length : Nat) : Int) - 1) (by omega) (by omega),decide_eq_false (show ¬ ((pre_.length : Nat) : Int) < (((listing b0).length : Nat) : Int) - 1 by omega),cond_false,o2,Option.bind_some,Option.bind_some,heq,Bool.not_true,cond_false,Option.bind_some,Sum.elim_inl,w64_in (by omega) (by omega),w64_in (by omega) (by omega),show (1 : Int) = ((step b).2 : Int) by omega]
    rw [show ((step b).2 : Int) = 1 by omega] at hn ⊢
    rw [hn,hi]
    exact ih
theorem Qev (ops ns raw : List Int) (w : ops.length ≤ maxLen ∧ ∀ y ∈ ops,IntKind.i64.min ≤ y ∧ y ≤ IntKind.i64.max) (w1 : ns.length ≤ maxLen ∧ ∀ y ∈ ns,IntKind.i64.min ≤ y ∧ y ≤ IntKind.i64.max) (w2 : raw.length ≤ maxLen ∧ ∀ y ∈ raw,IntKind.u8.min ≤ y ∧ y ≤ IntKind.u8.max) : WF ops ns raw = some true := by
 rw [WF.eq]; unfold FP
 rw [QhV,Option.bind_some,show (!true) = false from rfl,cond_false]
 rcases Nat.lt_or_ge 200 raw.length with h | h
 ·rw [decide_eq_true (show ((raw.length : Nat) : Int) > 200 by omega)]; rfl
 rw [decide_eq_false (show ¬ ((raw.length : Nat) : Int) > 200 by omega),cond_false]
 have hu : U8 raw := fun x hx => by
  have := w2.2 x hx
  have a : (0 : Int) ≤ x := this.1
  have b : x ≤ 255 := this.2
  exact ⟨a,by omega⟩
 obtain ⟨b,e,hb,hl,_⟩ := Qpq ops ns raw (by omega) hu
 have hbl : b.length ≤ 10000 := by
  have : 30 * (4 + raw.length) ≤ 30 * 204 := Nat.mul_le_mul (Nat.le_refl _) (by omega)
  omega
 have lp := QdX b (by omega) hb b.length b [] (Nat.le_refl _) hb (Nat.le_refl _) rfl
 rw [Nat.sub_self] at lp
 have lp : Uk ⟨b,(listing b).map ba,0,0⟩ = _ := lp
 rw [e,Option.bind_some,QnO b hb (by omega),Option.bind_some,lp,Option.bind_some,Sum.elim_inr]
 simp only
 rw [beq_self_eq_true]
end Go.Ab
namespace Go.Proofs.YtblfhkldljfhiaaGreatDoor
open Go Go.Ab Go.ChangeShapes Go.WideShapes Go.ChangeAt Go.RowKit
open Go.ChangeMaps (open_string shut_string)
theorem repL_one {c : Ctx} {w : World} {a : AV} {v : Value} (h : RepL c w [a] [v]) : Rep c w a v := by cases h; assumption
theorem laidOut : laidOutB Tryz.prog = true := by kernel_rfl
theorem own : ownKnob Tryz.prog.godebug = none := by kernel_rfl
theorem door_met (os : Os) (args : Array Value) : laidMetH Tryz.prog [("math/bits.deBruijn32tab",Rows.laid_math_bits_deBruijn32tab),("math/bits.deBruijn64tab",Rows.laid_math_bits_deBruijn64tab),("internal/strconv.uint64pow10",Rows.laid_internal_strconv_uint64pow10),("unicode.White_Space",Rows.laid_unicode_White_Space),("strings.asciiSpace",Rows.laid_strings_asciiSpace)] ((World.doorLaid Tryz.prog 96 os).forCall (fun _ _ => 0) ⟨#[],args,[]⟩).memory :=
 laidMetH_of_parts3 (fuel := 8) (laidMet_of_run' 8 (by kernel_rfl) (by kernel_rfl)) (by kernel_rfl) (by kernel_rfl)
namespace disLines
set_option maxRecDepth 100000 in
theorem lifted (os : Os) (started : os.Started) (H : Type) (enc : TypeId × Value → H) :
  ReturnsInHanded {} Tryz.checked os 4 .any (fun w args => (Rows.disLinesSpec.pre enc Tryz.prog Tryz.f4 [] false w args ∧ laidMetH Tryz.prog [("math/bits.deBruijn32tab",Rows.laid_math_bits_deBruijn32tab),("math/bits.deBruijn64tab",Rows.laid_math_bits_deBruijn64tab),("internal/strconv.uint64pow10",Rows.laid_internal_strconv_uint64pow10),("unicode.White_Space",Rows.laid_unicode_White_Space),("strings.asciiSpace",Rows.laid_strings_asciiSpace)] w) ∧ sizedMet enc Tryz.prog Tryz.f4 (OpenSpec.ofChange Rows.disLinesSpec) false w args) (Rows.disLinesSpec.post enc Tryz.prog Tryz.f4 false true false false) := by
 refine QfN (C := Tryz.checked) (X := fun w _ => laidMetH Tryz.prog [("math/bits.deBruijn32tab",Rows.laid_math_bits_deBruijn32tab),("math/bits.deBruijn64tab",Rows.laid_math_bits_deBruijn64tab),("internal/strconv.uint64pow10",Rows.laid_internal_strconv_uint64pow10),("unicode.White_Space",Rows.laid_unicode_White_Space),("strings.asciiSpace",Rows.laid_strings_asciiSpace)] w) (fun _ _ _ hh h => h.of_heap hh) own started (by kernel_rfl) Tryz.func4
  (ChangeSpec.witness_shaped (enc := enc) (C := Tryz.checked) (os := os) (X := fun w _ => laidMetH Tryz.prog [("math/bits.deBruijn32tab",Rows.laid_math_bits_deBruijn32tab),("math/bits.deBruijn64tab",Rows.laid_math_bits_deBruijn64tab),("internal/strconv.uint64pow10",Rows.laid_internal_strconv_uint64pow10),("unicode.White_Space",Rows.laid_unicode_White_Space),("strings.asciiSpace",Rows.laid_strings_asciiSpace)] w) false (World.doorLaid Tryz.prog 96 os) #[.slice none 0 0,.slice none 0 0,.slice none 0 0] 8 rfl (World.shaped_of_RefB (by kernel_rfl) (by kernel_rfl)) (by kernel_rfl) (by kernel_rfl) (by kernel_rfl) (door_met os _)) ?_
 intro W base args ds gs before hval0 hW hcnd hsz0 hL _
 have hT := QpZ hL
 have hW' := hW
 obtain ⟨p,q,hA0,hV,rfl,hfz,hnd⟩ := hW
 have hA : DataW.TrodAll enc Tryz.prog W 0 (fun _ => true) true Tryz.f4.params.toList args.toList ds p := hA0
 rw [Tryz.params4] at hA
 obtain ⟨v0,vs0,d0,ds0,p0,q0,hargs,rfl,rfl,h0,r0⟩ := trodAll_cons hA
 obtain ⟨v1,vs1,d1,ds1,p1,q1,rfl,rfl,rfl,h1,r1⟩ := trodAll_cons r0
 obtain ⟨v2,vs2,d2,ds2,p2,q2,rfl,rfl,rfl,h2,r2⟩ := trodAll_cons r1
 obtain ⟨rfl,rfl,rfl⟩ := trodAll_nil r2
 obtain rfl : args = #[v0,v1,v2] := by cases args; simp_all
 obtain ⟨rfl,rfl⟩ := trodVars_none hV
 obtain ⟨u0,len0,cap0,rfl⟩ := okWide_slice Tryz.underlying22 (hval0 0 22 v0 rfl rfl)
 obtain ⟨a0,w0,y0⟩ := QfJ (enc := enc) (P := Tryz.prog) (W := W) (fun fuel => (show Rd enc Tryz.prog W fuel 22 (fun l : List Int => [.sl (l.map VX)]) (fun l => l.length ≤ maxLen ∧ ∀ y ∈ l,IntKind.i64.min ≤ y ∧ y ≤ IntKind.i64.max) from by
   cases fuel with
   | zero => exact QfI _ _
   | succ m => exact Qd6 (s := 1) Tryz.underlying22 (by kernel_rfl) (by decide) (fun _ => rfl) (rd_int Tryz.underlying3 m))) h0
 replace y0 := repL_one (show RepL (oldCtx W) W [_] [_] from y0)
 obtain ⟨u1,len1,cap1,rfl⟩ := okWide_slice Tryz.underlying22 (hval0 1 22 v1 rfl rfl)
 obtain ⟨a1,w1,y1⟩ := QfJ (enc := enc) (P := Tryz.prog) (W := W) (fun fuel => (show Rd enc Tryz.prog W fuel 22 (fun l : List Int => [.sl (l.map VX)]) (fun l => l.length ≤ maxLen ∧ ∀ y ∈ l,IntKind.i64.min ≤ y ∧ y ≤ IntKind.i64.max) from by
   cases fuel with
   | zero => exact QfI _ _
   | succ m => exact Qd6 (s := 1) Tryz.underlying22 (by kernel_rfl) (by decide) (fun _ => rfl) (rd_int Tryz.underlying3 m))) h1
 replace y1 := repL_one (show RepL (oldCtx W) W [_] [_] from y1)
 obtain ⟨u2,len2,cap2,rfl⟩ := okWide_slice Tryz.underlying23 (hval0 2 23 v2 rfl rfl)
 obtain ⟨a2,w2,y2⟩ := QfJ (enc := enc) (P := Tryz.prog) (W := W) (fun fuel => (show Rd enc Tryz.prog W fuel 23 (fun l : List Int => [.sl (l.map C_u8)]) (fun l => l.length ≤ maxLen ∧ ∀ y ∈ l,IntKind.u8.min ≤ y ∧ y ≤ IntKind.u8.max) from by
   cases fuel with
   | zero => exact QfI _ _
   | succ m => exact Qd6 (s := 1) Tryz.underlying23 (by kernel_rfl) (by decide) (fun _ => rfl) (rd_int Tryz.underlying5 m))) h2
 replace y2 := repL_one (show RepL (oldCtx W) W [_] [_] from y2)
 obtain ⟨k,hk⟩ := WF.run a0 a1 a2 (Qev a0 a1 a2 w0 w1 w2)
 rw [JT] at y0
 rw [JT] at y1
 rw [Yz] at y2
 have lt0 : ∀ x ∈ p0,x.block < W.heap.size := by obtain ⟨m,hm⟩ := h0; exact DataW.trod_lt m _ _ _ hm
 have lt1 : ∀ x ∈ p1,x.block < W.heap.size := by obtain ⟨m,hm⟩ := h1; exact DataW.trod_lt m _ _ _ hm
 have lt2 : ∀ x ∈ p2,x.block < W.heap.size := by obtain ⟨m,hm⟩ := h2; exact DataW.trod_lt m _ _ _ hm
 refine (Qhl (T := told) (by kernel_rfl) ext_ok hk hT (.cons _ _ _ _ y0 (.cons _ _ _ _ y1 (.cons _ _ _ _ y2 .nil)))).mono fun e W' ⟨he,bel⟩ => ?_
 subst he
 exact ⟨_,rfl,_,_,_,[],_,[],hW',trodAll_mk1 (shut_bool Tryz.underlying4 _),(trodAll_cons_mk (Below.trod laidOut (by kernel_rfl) (of_decide_eq_true (by kernel_rfl)) h0 bel lt0) (trodAll_cons_mk (Below.trod laidOut (by kernel_rfl) (of_decide_eq_true (by kernel_rfl)) h1 bel lt1) (trodAll_cons_mk (Below.trod laidOut (by kernel_rfl) (of_decide_eq_true (by kernel_rfl)) h2 bel lt2) trodAll_mk0))),rfl,bel.frame _,fun h => by cases h⟩
theorem jf0 : (Rows.disLinesRow.wf (OpenSpec.ofChange Rows.disLinesSpec)) = true := by kernel_rfl
theorem jf1 : (laidOutB Tryz.prog) = true := by kernel_rfl
theorem jf2 : (mapsRowed Tryz.prog) = true := by kernel_rfl
theorem jf3 : (Tryz.f4.params.all (Tryz.prog.readableRec ·)) = true := by kernel_rfl
theorem jf4 : (namedTie Tryz.prog Rows.disLinesRow.named Rows.disLinesSpec.vars) = true := by kernel_rfl
theorem jf5 : ((Rows.disLinesRow.stops == [])) = true := by kernel_rfl
theorem jf6 : ((Tryz.prog.stops == [])) = true := by kernel_rfl
theorem jf7 : ((Rows.disLinesRow.knobs == [])) = true := by kernel_rfl
theorem jf8 : ((Tryz.prog.stopKnobs == [])) = true := by kernel_rfl
theorem jf9 : ((Rows.disLinesRow.inPlace == Tryz.prog.inPlace 4)) = true := by kernel_rfl
theorem jf10 : ((Rows.disLinesRow.unfollowed == Tryz.prog.unfollowed 4)) = true := by kernel_rfl
theorem jf11 : ((Rows.disLinesRow.recurses == Tryz.prog.recurses 4)) = true := by kernel_rfl
theorem jf12 : ((Rows.disLinesRow.named == Tryz.prog.varsNamed 4)) = true := by kernel_rfl
theorem jf13 : ((Rows.disLinesRow.maps == (Tryz.f4.params.toList ++ Rows.disLinesSpec.plain.varTypes Tryz.prog).any (Tryz.prog.mapsRec ·))) = true := by kernel_rfl
theorem jf14 : ((Rows.disLinesRow.ifaces == (Tryz.f4.params.toList ++ Rows.disLinesSpec.plain.varTypes Tryz.prog).any (Tryz.prog.ifacesRec ·))) = true := by kernel_rfl
theorem jf15 : ((Rows.disLinesRow.mapsOut == Tryz.prog.mapsAmong Tryz.f4.resultTypes.toList)) = true := by kernel_rfl
theorem jf16 : ((Rows.disLinesRow.loops == (Tryz.f4.params.toList ++ Rows.disLinesSpec.plain.varTypes Tryz.prog).any (Tryz.prog.loopsFrom ·))) = true := by kernel_rfl
theorem jf17 : ((Rows.disLinesRow.wideKeys == (Tryz.f4.params.toList ++ Rows.disLinesSpec.plain.varTypes Tryz.prog ++ Tryz.f4.resultTypes.toList).any (Tryz.prog.wideKeysFrom ·))) = true := by kernel_rfl
theorem jf18 : (Rows.disLinesSpec.vars.all (Tryz.prog.varReadable ·)) = true := by kernel_rfl
theorem jf19 : (Tryz.f4.resultTypes.all (fun t => Tryz.prog.readableRec t && decide (t < Tryz.prog.types.size))) = true := by kernel_rfl
theorem jf20 : ((Rows.disLinesRow.ifacesOut == Tryz.f4.resultTypes.toList.any (Tryz.prog.ifacesRec ·))) = true := by kernel_rfl
theorem jf21 : ((Rows.disLinesRow.loopsOut == Tryz.f4.resultTypes.toList.any (Tryz.prog.loopsFrom ·))) = true := by kernel_rfl
theorem jf22 : ((Rows.disLinesRow.plainKeys == Tryz.prog.plainKeys)) = true := by kernel_rfl
theorem jf23 : (Rows.disLinesRow.shortTexts.isNone) = true := by kernel_rfl
theorem jf24 : (Tryz.prog.stopsHeard) = true := by kernel_rfl
theorem jf25 : (Tryz.prog.mayEnter) = true := by kernel_rfl
theorem jf26 : ((Rows.disLinesRow.lifted == Tryz.prog.liftsFinal)) = true := by kernel_rfl
theorem jf27 : ((Tryz.prog.make == some Rows.disLinesRow.make)) = true := by kernel_rfl
theorem jf28 : ((Rows.disLinesRow.kinds == (if Rows.disLinesRow.domain.isEmpty then [] else Tryz.f4.params.toList.map fun t => match Tryz.prog.underlying t with | some (.int k) => some k | _ => none))) = true := by kernel_rfl
theorem jf29 : ((Rows.disLinesRow.pinned == Rows.disLinesRow.pinnedBy)) = true := by kernel_rfl
theorem jf30 : ((Rows.disLinesRow.veiled == (Tryz.f4.params.toList ++ Rows.disLinesSpec.plain.varTypes Tryz.prog ++ Tryz.f4.resultTypes.toList).any (Tryz.prog.veiledRec ·))) = true := by kernel_rfl
theorem jf31 : (Rows.disLinesRow.veiledFits Tryz.prog Tryz.f4.params.toList (Tryz.f4.params.toList ++ Rows.disLinesSpec.plain.varTypes Tryz.prog ++ Tryz.f4.resultTypes.toList)) = true := by kernel_rfl
theorem and2 {a b : Bool} (h : a = true) (k : b = true) : (a && b) = true := by rw [h,k]; rfl
set_option maxRecDepth 1000000 in
theorem jf : joinedFacts Tryz.prog 4 Tryz.f4 Rows.disLinesSpec Rows.disLinesRow = true := by
 delta joinedFacts
 exact (and2 (and2 (and2 (and2 (and2 (and2 (and2 (and2 (and2 (and2 (and2 (and2 (and2 (and2 (and2 (and2 (and2 (and2 (and2 (and2 (and2 (and2 (and2 (and2 (and2 (and2 (and2 (and2 (and2 (and2 (and2 jf0 jf1) jf2) jf3) jf4) jf5) jf6) jf7) jf8) jf9) jf10) jf11) jf12) jf13) jf14) jf15) jf16) jf17) jf18) jf19) jf20) jf21) jf22) jf23) jf24) jf25) jf26) jf27) jf28) jf29) jf30) jf31)
theorem cfw : Rows.disLinesRow.wfByText (OpenSpec.ofChange Rows.disLinesSpec) = true := by kernel_rfl
theorem cfn : Tryz.prog.funcNamed Tryz.f4.name = some 4 := by kernel_rfl
theorem cfl : true = Tryz.prog.looks [] := by kernel_rfl
theorem cfs : ([22,22,23].all fun u => !Tryz.prog.wantsStandIn u) = true := by kernel_rfl
theorem cfg : false = Rows.disLinesRow.goesBy Tryz.prog := by kernel_rfl
theorem over : Rows.disLinesRow.holds Tryz.pinned (OpenSpec.ofChange Rows.disLinesSpec) :=
 OpenClaim.holds_of_wide 4 Tryz.f4 rfl rfl rfl rfl rfl rfl rfl ⟨rfl,rfl,rfl,rfl,rfl⟩ rfl rfl rfl rfl rfl (by kernel_rfl) Tryz.func4 jf
  (of_decide_eq_true (by kernel_rfl)) (by unfold Func.isWrapper; first | (rw [if_pos (by decide +kernel)]; kernel_rfl) | (rw [if_neg (by decide +kernel)]; exact ⟨rfl,rfl⟩))
  (fun os started H enc _ => lifted os started H enc)
theorem proved : Rows.DisLinesSaid := over
theorem card : Rows.DisLinesCardSaid :=
 Claim7.holds_tied_plain_at .later [] [.data,.data,.data,.listed,.data] true (true,"eddddd2f21bf15afe128c8206f0bde60fb9797faf78c19398001fce18d007a2a") true
  proved (fun _ h => by cases h) cfw (fun _ h => by cases h) disLines_row_tie rfl ⟨rfl,rfl⟩ (by kernel_rfl) rfl
  (fun f fn hf hfn => by
   obtain rfl : f = 4 := Option.some.inj ((show Tryz.prog.funcNamed Tryz.f4.name = some 4 from cfn).symm.trans hf) |>.symm
   obtain rfl : fn = Tryz.f4 := (Option.some.inj (Tryz.func4.symm.trans hfn)).symm
   exact ⟨cfl,fun j t ht => by
    rw [Tryz.params4] at ht
    have hm : t ∈ [22,22,23] := by simpa using Array.mem_of_getElem? ht
    have hall : ([22,22,23].all fun u => !Tryz.prog.wantsStandIn u) = true := cfs
    exact (show Tryz.prog.wantsStandIn t = false by simpa using List.all_eq_true.1 hall t hm)⟩)
  cfg
end disLines
theorem disLines_holds : Rows.DisLinesCardSaid := disLines.card
end Go.Proofs.YtblfhkldljfhiaaGreatDoor
