/- DisBack: part 5 of the proof that, whatever the input, the law returns true and the input reads as it did; its conditions are those of the given row. -/
import Derived.Test.YtblfhkldljfhiaaGreatDoorZDisBack4
import Derived.Test.YtblfhkldljfhiaaGreatDoorTie
import Derived.Test.YtblfhkldljfhiaaGreatDoorCards
import Derived.ProofKit
import Derived.OpenShut
import Derived.Stop.Joined
import Derived.Lay
import Derived.SevenTiedAt
set_option linter.unusedVariables false
set_option linter.unusedSimpArgs false
set_option maxRecDepth 100000
namespace Go.Ab
def jnL (ls : List (List UInt8)) : List UInt8 := ls.flatMap fun t => t ++ [10]
def numS (n : Nat) : List Qe → List Qe
 | [] => []
 | x :: xs => ⟨(n : Int) + 1,x.Label,x.Kind,x.Op,x.Text,x.Args⟩ :: numS (n + 1) xs
theorem rempty : XW (ba []) = some (E_st,true) := by
 rw [XW.eq]; unfold Qfo
 have hnl := Qms [] (by simp) E_st 0 0 rfl
 have hnl : W3 ⟨ba [],0,Qe.mk 0 s_ 0 0 s_ []⟩ = _ := hnl
 rw [hnl,Option.bind_some,if_neg (by simp),Sum.elim_inr]
 simp only
 rw [Qp0 _ (by simp),Option.bind_some,show bareQ false [] = [] from rfl,Sv _ (by simp),Option.bind_some,show trimW [] = [] from rfl,Qp4 _ (by simp),Option.bind_some,show labS [] = none from rfl]
 simp only
 rw [show eqS (ba []) s_ = true from Xb.2 rfl,cond_true,show eqS s_ s_ = true from Xb.2 rfl,cond_true]
theorem Qw2 {n : Nat} (h : n ≤ 1000000) : decide ((n + 1) * 80 ≤ most) = true := decide_eq_true (by show _ * 80 ≤ 140737488355328; omega)
theorem p_scan {s : List UInt8} (hs : s.length ≤ 1000000) (P L R : List UInt8) (e : s = P ++ (L ++ 10 :: R)) (h10 : 10 ∉ L) (n : Int) (r0 : List Qe) (r1 : List Int) : ∀ g j : Nat,g + j = L.length →
  J5 ⟨ba s,((P.length : Nat) : Int),n,((P.length + j : Nat) : Int),r0,r1⟩ = J5 ⟨ba s,((P.length : Nat) : Int),n,((P.length + L.length : Nat) : Int),r0,r1⟩
 | 0,j,hg => by rw [show j = L.length by omega]
 | g + 1,j,hg => by
  have hlen : s.length = P.length + (L.length + (R.length + 1)) := by rw [e]; simp
  have hi : P.length + j < s.length := by omega
  have hgt : s[P.length + j] = L[j] := by
   have : s[P.length + j]? = L[j]? := by rw [e,List.getElem?_append_right (by omega),Nat.add_sub_cancel_left,List.getElem?_append_left (by omega)]
   rw [List.getElem?_eq_getElem hi,List.getElem?_eq_getElem (by omega)] at this
   exact Option.some.inj this
  have hne : L[j] ≠ 10 := fun h => h10 (h ▸ List.getElem_mem _)
  have ih := p_scan hs P L R e h10 n r0 r1 g (j + 1) (by omega)
  have h10' : ((s[P.length + j].toNat : Int) == 10) = decide (s[P.length + j] = 10) := u8_eq (n := 10) (by decide)
  rw [J5.eq]; unfold Zd
  simp only
  rw [QM,decide_eq_true (show ((P.length + j : Nat) : Int) ≤ ((s.length : Nat) : Int) by omega),cond_true,decide_eq_true (show ((P.length + j : Nat) : Int) < ((s.length : Nat) : Int) by omega),cond_true,decide_eq_true (show 0 ≤ ((P.length + j : Nat) : Int) ∧ ((P.length + j : Nat) : Int) < ((s.length : Nat) : Int) by omega),cond_true,ba_at s hi,bne,h10',hgt,decide_eq_false hne,Bool.not_false,cond_true,Option.bind_some,Sum.elim_inl,w64_in (by omega) (by omega)]
  exact ih
theorem p_line {s : List UInt8} (hs : s.length ≤ 1000000) (P L R : List UInt8) (e : s = P ++ (L ++ 10 :: R)) (h10 : 10 ∉ L) (n : Nat) (hn : n ≤ 1000000) (r0 : List Qe) (hr : r0.length ≤ 1000000) (r1 : List Int) {x : Qe} (hx : XW (ba L) = some (x,true)) (h1 : x.Line = 1) :
  J5 ⟨ba s,((P.length : Nat) : Int),(n : Int),((P.length : Nat) : Int),r0,r1⟩ = J5 ⟨ba s,(((P ++ (L ++ [10])).length : Nat) : Int),((n + 1 : Nat) : Int),(((P ++ (L ++ [10])).length : Nat) : Int),r0 ++ [⟨(n : Int) + 1,x.Label,x.Kind,x.Op,x.Text,x.Args⟩],r1⟩ := by
 have hlen : s.length = P.length + (L.length + (R.length + 1)) := by rw [e]; simp
 have hsc := p_scan hs P L R e h10 n r0 r1 L.length 0 (by omega)
 rw [Nat.add_zero] at hsc
 have hi : P.length + L.length < s.length := by omega
 have hgt : s[P.length + L.length] = 10 := by
  have : s[P.length + L.length]? = some 10 := by rw [e,List.getElem?_append_right (by omega),Nat.add_sub_cancel_left,List.getElem?_append_right (by omega),Nat.sub_self]; rfl
  rw [List.getElem?_eq_getElem hi] at this
  exact Option.some.inj this
 have hcut : (s.take (P.length + L.length)).drop P.length = L := by
  rw [e,← List.append_assoc,List.take_append_of_le_length (by simp),List.take_of_length_le (by simp),List.drop_append_of_le_length (by omega),List.drop_eq_nil_of_le (by omega)]; rfl
 have h10' : ((s[P.length + L.length].toNat : Int) == 10) = decide (s[P.length + L.length] = 10) := u8_eq (n := 10) (by decide)
 have hend : (((P ++ (L ++ [10])).length : Nat) : Int) = ((P.length + L.length : Nat) : Int) + 1 := by simp; omega
 rw [hsc,J5.eq]; unfold Zd
 simp only
 rw [QM,decide_eq_true (show ((P.length + L.length : Nat) : Int) ≤ ((s.length : Nat) : Int) by omega),cond_true,decide_eq_true (show ((P.length + L.length : Nat) : Int) < ((s.length : Nat) : Int) by omega),cond_true,decide_eq_true (show 0 ≤ ((P.length + L.length : Nat) : Int) ∧ ((P.length + L.length : Nat) : Int) < ((s.length : Nat) : Int) by omega),cond_true,ba_at s hi,bne,h10',hgt,decide_eq_true rfl,Bool.not_true,cond_false,decide_eq_true (show 0 ≤ ((P.length : Nat) : Int) ∧ ((P.length : Nat) : Int) ≤ ((P.length + L.length : Nat) : Int) ∧ ((P.length + L.length : Nat) : Int) ≤ ((s.length : Nat) : Int) by omega),cond_true,ba_cut,hcut,hx,Option.bind_some]
 simp only [Bool.not_true,cond_false]
 rw [decide_eq_true (show x.Line > 0 by omega),cond_true,List.length_singleton,Qw2 hr,cond_true,Option.bind_some,Sum.elim_inl,w64_in (n := (n : Int) + 1) (by omega) (by omega),w64_in (n := ((P.length + L.length : Nat) : Int) + 1) (by omega) (by omega),hend]; rfl
theorem p_end {s : List UInt8} (hs : s.length ≤ 1000000) (n : Nat) (hn : n ≤ 1000000) (r0 : List Qe) (r1 : List Int) : J5 ⟨ba s,((s.length : Nat) : Int),(n : Int),((s.length : Nat) : Int),r0,r1⟩ = some ⟨r0,r1⟩ := by
 have hcut : (s.take s.length).drop s.length = [] := by rw [List.take_length,List.drop_length]
 rw [J5.eq]; unfold Zd
 simp only
 rw [QM,decide_eq_true (show ((s.length : Nat) : Int) ≤ ((s.length : Nat) : Int) by omega),cond_true,decide_eq_false (show ¬ ((s.length : Nat) : Int) < ((s.length : Nat) : Int) by omega),cond_false,decide_eq_true (show 0 ≤ ((s.length : Nat) : Int) ∧ ((s.length : Nat) : Int) ≤ ((s.length : Nat) : Int) ∧ ((s.length : Nat) : Int) ≤ ((s.length : Nat) : Int) by omega),cond_true,ba_cut,hcut,rempty,Option.bind_some]
 simp only [Bool.not_true,cond_false]
 rw [show decide (E_st.Line > 0) = false from rfl,cond_false,Option.bind_some,Sum.elim_inl,w64_in (n := ((s.length : Nat) : Int) + 1) (by omega) (by omega),J5.eq]; unfold Zd
 simp only
 rw [QM,decide_eq_false (show ¬ ((s.length : Nat) : Int) + 1 ≤ ((s.length : Nat) : Int) by omega)]; rfl
inductive Rd5 : List (List UInt8) → List Qe → Prop
 | nil : Rd5 [] []
 | cons (L : List UInt8) (x : Qe) (ls xs) : 10 ∉ L → XW (ba L) = some (x,true) → x.Line = 1 → Rd5 ls xs → Rd5 (L :: ls) (x :: xs)
theorem Qyf {s : List UInt8} (hs : s.length ≤ 1000000) : ∀ {ls : List (List UInt8)} {xs : List Qe},Rd5 ls xs → ∀ (P : List UInt8) (n : Nat) (r0 : List Qe),s = P ++ jnL ls → n + ls.length ≤ 1000000 → r0.length + ls.length ≤ 1000000 → J5 ⟨ba s,((P.length : Nat) : Int),(n : Int),((P.length : Nat) : Int),r0,[]⟩ = some ⟨r0 ++ numS n xs,[]⟩ := by
 intro ls xs h
 induction h with
 | nil =>
  intro P n r0 e hn hr
  have : s = P := by rw [e]; simp [jnL]
  subst this
  rw [p_end hs n (by simpa using hn)]; simp [numS]
 | cons L x ls xs h10 hx h1 _ ih =>
  intro P n r0 e hn hr
  simp only [List.length_cons] at hn hr
  have e' : s = P ++ (L ++ 10 :: jnL ls) := by rw [e]; simp [jnL]
  rw [p_line hs P L (jnL ls) e' h10 n (by omega) r0 (by omega) [] hx h1]
  have := ih (P ++ (L ++ [10])) (n + 1) (r0 ++ [⟨(n : Int) + 1,x.Label,x.Kind,x.Op,x.Text,x.Args⟩]) (by rw [e']; simp) (by omega) (by simp; omega)
  rw [this]; simp [numS]
theorem Qrb {ls : List (List UInt8)} {xs : List Qe} (h : Rd5 ls xs) (hs : (jnL ls).length ≤ 1000000) (hl : ls.length ≤ 1000000) : YV (ba (jnL ls)) = some (numS 0 xs,[]) := by
 rw [YV.eq]; unfold Qfq
 have := Qyf hs h [] 0 [] rfl (by omega) (by simpa using hl)
 have : J5 ⟨ba (jnL ls),0,0,0,[],[]⟩ = _ := this
 rw [this]; rfl
end Go.Ab
set_option maxRecDepth 100000
namespace Go.Ab
abbrev En := ByteArray × Int × SQ × Nat
def stE (e : En) : Qe := ⟨e.2.1,s_,e.2.2.1.1,e.2.2.1.2.1,e.2.2.1.2.2.1,e.2.2.1.2.2.2⟩
def itE (e : En) (size at_ : Int) : Qf := ⟨stE e,e.1,size,at_,false,false,0⟩
def okE (e : En) : Prop := (e.2.2.1.1 = 1 ∧ YH e.2.2.1.2.1 = some (e.2.2.2 : Int)) ∨ (e.2.2.1.1 = 4 ∧ e.2.2.1.2.2.2.length = 1 ∧ e.2.2.2 = 2) ∨ (e.2.2.1.1 = 3 ∧ e.2.2.1.2.2.2.length = 1 ∧ e.2.2.2 = 1)
section
variable {α : Type}
theorem Zh (A : List α) (x : α) (B : List α) : (A ++ x :: B)[Int.toNat ((A.length : Nat) : Int)]? = some x := by rw [Int.toNat_natCast,List.getElem?_append_right (Nat.le_refl _),Nat.sub_self]; rfl
theorem mid_lt (A : List α) (x : α) (B : List α) : decide (((A.length : Nat) : Int) < (((A ++ x :: B).length : Nat) : Int)) = true := decide_eq_true (by simp only [List.length_append,List.length_cons]; omega)
theorem mid_in (A : List α) (x : α) (B : List α) : decide (0 ≤ ((A.length : Nat) : Int) ∧ ((A.length : Nat) : Int) < (((A ++ x :: B).length : Nat) : Int)) = true := decide_eq_true (by simp only [List.length_append,List.length_cons]; omega)
theorem end_lt (A : List α) : decide (((A.length : Nat) : Int) < (((A ++ ([] : List α)).length : Nat) : Int)) = false := decide_eq_false (by simp only [List.length_append,List.length_nil]; omega)
theorem QeG (A : List α) (x y : α) (B : List α) : (A ++ x :: B).set (Int.toNat ((A.length : Nat) : Int)) y = A ++ y :: B := by rw [Int.toNat_natCast]; exact Qx9 A x y B
theorem FG (A : List α) (x : α) (h : A.length ≤ 1000000) : w64 (((A.length : Nat) : Int) + 1) = (((A ++ [x]).length : Nat) : Int) := by rw [w64_in (by omega) (by omega),List.length_append]; rfl
theorem EE (A : List α) (x : α) (B : List α) : A ++ x :: B = (A ++ [x]) ++ B := by simp
end
theorem Qrc (i : Int) (h0 : Qc) (x : Qf) : Jo ⟨i,0,h0,x,[],[s_,s_]⟩ = some ⟨i,h0,[]⟩ := by
 have step : ∀ j : Nat,j < 2 → Jo ⟨i,(j : Int),h0,x,[],[s_,s_]⟩ = Jo ⟨i,((j + 1 : Nat) : Int),h0,x,[],[s_,s_]⟩ := fun j hj => by
  have hg : [s_,s_][Int.toNat (j : Int)]? = some s_ := by
   have : j = 0 ∨ j = 1 := by omega
   rcases this with rfl | rfl <;> rfl
  rw [Jo.eq]; unfold G8
  simp only
  rw [decide_eq_true (show (j : Int) < 2 by omega),cond_true,decide_eq_true (show 0 ≤ (j : Int) ∧ (j : Int) < (([s_,s_].length : Nat) : Int) from ⟨by omega,by show (j : Int) < 2; omega⟩),cond_true,hg,Option.bind_some,show eqS s_ s_ = true from Xb.2 rfl,cond_true,Option.bind_some,Sum.elim_inl,w64_in (by omega) (by omega)]; rfl
 have h1 := step 0 (by omega)
 have h2 := step 1 (by omega)
 have h1 : Jo ⟨i,0,h0,x,[],[s_,s_]⟩ = Jo ⟨i,((1 : Nat) : Int),h0,x,[],[s_,s_]⟩ := h1
 rw [h1,h2,Jo.eq]; rfl
theorem QcP {e : En} (h : okE e) : e.2.2.1.1 = 1 ∨ e.2.2.1.1 = 4 ∨ e.2.2.1.1 = 3 := h.elim (fun h => .inl h.1) fun h => h.elim (fun h => .inr (.inl h.1)) fun h => .inr (.inr h.1)
theorem Qnv (D : List Q5) : ∀ (es : List En) (A : List Qf),A.length + es.length ≤ 1000000 → (∀ e ∈ es,okE e) → Ub ⟨((A.length : Nat) : Int),⟨[],A ++ es.map (itE · 0 0),D⟩,[]⟩ = some ⟨[],A ++ es.map (itE · 0 0),D⟩
 | [],A,_,_ => by
  rw [Ub.eq]; unfold Zp
  simp only [List.map_nil]
  rw [end_lt]; rfl
 | e :: es,A,hl,hk => by
  have h9 : ((itE e 0 0).S.Kind == 9) = false := beq_eq_false_iff_ne.2 (by show e.2.2.1.1 ≠ 9; have := QcP (hk e (by simp)); omega)
  have ih := Qnv D es (A ++ [itE e 0 0]) (by simp only [List.length_append,List.length_cons,List.length_nil] at hl ⊢; omega) (fun x hx => hk x (by simp [hx]))
  rw [Ub.eq]; unfold Zp
  simp only [List.map_cons]
  rw [mid_lt,cond_true,mid_in,cond_true,Zh,Option.bind_some,h9,cond_false]
  have h3 := Qrc ((A.length : Nat) : Int) ⟨[],A ++ itE e 0 0 :: es.map (itE · 0 0),D⟩ (itE e 0 0)
  have h3 : Jo ⟨((A.length : Nat) : Int),0,⟨[],A ++ itE e 0 0 :: es.map (itE · 0 0),D⟩,itE e 0 0,[],[(itE e 0 0).S.Label,s_]⟩ = _ := h3
  rw [h3,Option.bind_some,Option.bind_some,Sum.elim_inl,FG A (itE e 0 0) (by simp only [List.length_cons] at hl; omega),EE A (itE e 0 0) (es.map (itE · 0 0))]
  exact ih
theorem Qw3 (es : List En) (D : List Q5) (hl : es.length ≤ 1000000) (hk : ∀ e ∈ es,okE e) : W9 ⟨[],es.map (itE · 0 0),D⟩ = some ⟨[],es.map (itE · 0 0),D⟩ := by
 rw [W9.eq]; unfold PN
 have h1 : UW ⟨0,⟨[],es.map (itE · 0 0),D⟩,[]⟩ = some ⟨⟨[],es.map (itE · 0 0),D⟩,[]⟩ := by rw [UW.eq]; rfl
 have h2 := Qnv D es [] (by simpa using hl) hk
 have h2 : Ub ⟨0,⟨[],es.map (itE · 0 0),D⟩,[]⟩ = _ := h2
 rw [h1,Option.bind_some,h2]; rfl
theorem Qnw (D : List Q5) : ∀ (es : List En) (A : List Qf),A.length + es.length ≤ 1000000 → (∀ e ∈ es,okE e) → JS ⟨((A.length : Nat) : Int),⟨[],A ++ es.map (itE · 0 0),D⟩⟩ = some ⟨[],A ++ es.map (fun e => itE e e.2.2.2 0),D⟩
 | [],A,_,_ => by
  rw [JS.eq]; unfold Zq
  simp only [List.map_nil]
  rw [end_lt]; rfl
 | e :: es,A,hl,hk => by
  have ih := Qnw D es (A ++ [itE e e.2.2.2 0]) (by simp only [List.length_append,List.length_cons,List.length_nil] at hl ⊢; omega) (fun x hx => hk x (by simp [hx]))
  have hn := FG A (itE e 0 0) (by simp only [List.length_cons] at hl; omega)
  have hln : (((A ++ [itE e 0 0]).length : Nat) : Int) = (((A ++ [itE e e.2.2.2 0]).length : Nat) : Int) := by simp
  rw [hln] at hn
  rw [JS.eq]; unfold Zq
  simp only [List.map_cons]
  rw [mid_lt,cond_true,mid_in,cond_true,Zh,Option.bind_some]
  have fin : JS ⟨w64 (((A.length : Nat) : Int) + 1),⟨[],A ++ itE e e.2.2.2 0 :: es.map (itE · 0 0),D⟩⟩ = some ⟨[],A ++ itE e e.2.2.2 0 :: es.map (fun e => itE e e.2.2.2 0),D⟩ := by
   rw [hn,EE A (itE e e.2.2.2 0) (es.map (itE · 0 0)),ih,← EE]
  rcases hk e (by simp) with ⟨k1,k2⟩ | ⟨k1,k2,k3⟩ | ⟨k1,k2,k3⟩
  ·have e1 : ((itE e 0 0).S.Kind == 1) = true := beq_iff_eq.2 k1
   have e2 : YH (itE e 0 0).S.Op = some (e.2.2.2 : Int) := k2
   rw [e1,cond_true,e2,Option.bind_some,Option.bind_some,Option.bind_some,Sum.elim_inl,QeG]
   exact fin
  ·have n1 : ((itE e 0 0).S.Kind == 1) = false := beq_eq_false_iff_ne.2 (by show e.2.2.1.1 ≠ 1; omega)
   have n2 : ((itE e 0 0).S.Kind == 2) = false := beq_eq_false_iff_ne.2 (by show e.2.2.1.1 ≠ 2; omega)
   have e4 : ((itE e 0 0).S.Kind == 4) = true := beq_iff_eq.2 k1
   have hz : w64 (2 * (((itE e 0 0).S.Args.length : Nat) : Int)) = (e.2.2.2 : Int) := by rw [show (itE e 0 0).S.Args.length = 1 from k2,k3]; rfl
   rw [n1,cond_false,n2,cond_false,e4,cond_true,Option.bind_some,Option.bind_some,Sum.elim_inl,hz,QeG]
   exact fin
  ·have n : ∀ k : Int,k ≠ 3 → ((itE e 0 0).S.Kind == k) = false := fun k hk' => beq_eq_false_iff_ne.2 (by show e.2.2.1.1 ≠ k; omega)
   have hz : (((itE e 0 0).S.Args.length : Nat) : Int) = (e.2.2.2 : Int) := by rw [show (itE e 0 0).S.Args.length = 1 from k2,k3]
   rw [n 1 (by decide),cond_false,n 2 (by decide),cond_false,n 4 (by decide),cond_false,n 5 (by decide),cond_false,n 6 (by decide),cond_false,n 0 (by decide),cond_false,n 9 (by decide),cond_false,n 7 (by decide),cond_false,n 8 (by decide),cond_false,Option.bind_some,Option.bind_some,Sum.elim_inl,hz,QeG]
   exact fin
theorem Qw4 (es : List En) (D : List Q5) (hl : es.length ≤ 1000000) (hk : ∀ e ∈ es,okE e) : Xa ⟨[],es.map (itE · 0 0),D⟩ = some ⟨[],es.map (fun e => itE e e.2.2.2 0),D⟩ := by
 rw [Xa.eq]; unfold PP
 have h2 := Qnw D es [] (by simpa using hl) hk
 have h2 : JS ⟨0,⟨[],es.map (itE · 0 0),D⟩⟩ = _ := h2
 rw [h2]; rfl
def laidE (at_ : Nat) : List En → List Qf
 | [] => []
 | e :: es => itE e e.2.2.2 (at_ : Int) :: laidE (at_ + e.2.2.2) es
def sumE : List En → Nat
 | [] => 0
 | e :: es => e.2.2.2 + sumE es
theorem Qlv (D : List Q5) : ∀ (es : List En) (A : List Qf) (at_ : Nat),A.length + es.length ≤ 1000000 → at_ + sumE es ≤ 1000000000 → (∀ e ∈ es,okE e) →
  JH ⟨(at_ : Int),((A.length : Nat) : Int),⟨[],A ++ es.map (fun e => itE e e.2.2.2 0),D⟩⟩ = some ⟨((at_ + sumE es : Nat) : Int),⟨[],A ++ laidE at_ es,D⟩⟩
 | [],A,at_,_,_,_ => by
  rw [JH.eq]; unfold Y5
  simp only [List.map_nil]
  rw [end_lt]; rfl
 | e :: es,A,at_,hl,hs,hk => by
  have ih := Qlv D es (A ++ [itE e e.2.2.2 (at_ : Int)]) (at_ + e.2.2.2) (by simp only [List.length_append,List.length_cons,List.length_nil] at hl ⊢; omega) (by unfold sumE at hs; omega) (fun x hx => hk x (by simp [hx]))
  have hn := FG A (itE e e.2.2.2 (at_ : Int)) (by simp only [List.length_cons] at hl; omega)
  have h7 : ((itE e e.2.2.2 (at_ : Int)).S.Kind == 7) = false := beq_eq_false_iff_ne.2 (by show e.2.2.1.1 ≠ 7; have := QcP (hk e (by simp)); omega)
  have hset : (A ++ itE e e.2.2.2 0 :: es.map (fun e => itE e e.2.2.2 0)).set (Int.toNat ((A.length : Nat) : Int)) (Qf.mk (itE e e.2.2.2 0).S (itE e e.2.2.2 0).Frag (itE e e.2.2.2 0).Size (at_ : Int) (itE e e.2.2.2 0).Grown (itE e e.2.2.2 0).Is (itE e e.2.2.2 0).Value) = A ++ itE e e.2.2.2 (at_ : Int) :: es.map (fun e => itE e e.2.2.2 0) := QeG _ _ _ _
  rw [JH.eq]; unfold Y5
  simp only [List.map_cons]
  rw [mid_lt,cond_true,mid_in,cond_true,Zh,Option.bind_some,hset,mid_in,cond_true,Zh,Option.bind_some,Option.bind_some,h7,cond_false,Option.bind_some,show (itE e e.2.2.2 (at_ : Int)).Grown = false from rfl,cond_false,Option.bind_some,Sum.elim_inl,show (itE e e.2.2.2 (at_ : Int)).Size = (e.2.2.2 : Int) from rfl,w64_in (n := (at_ : Int) + (e.2.2.2 : Int)) (by omega) (by unfold sumE at hs; omega),hn,EE A (itE e e.2.2.2 (at_ : Int)) (es.map (fun e => itE e e.2.2.2 0))]
  have ih : JH ⟨(at_ : Int) + (e.2.2.2 : Int),_,_⟩ = _ := ih
  rw [ih,← EE,show at_ + e.2.2.2 + sumE es = at_ + sumE (e :: es) from Nat.add_assoc _ _ _]; rfl
theorem Qvb (es : List En) (D : List Q5) (hl : es.length ≤ 1000000) (hs : sumE es ≤ 1000000000) (hk : ∀ e ∈ es,okE e) : Vj ⟨[],es.map (fun e => itE e e.2.2.2 0),D⟩ = some (((sumE es : Nat) : Int),⟨[],laidE 0 es,D⟩) := by
 rw [Vj.eq]; unfold FB
 have h2 := Qlv D es [] 0 (by simpa using hl) (by simpa using hs) hk
 have h2 : JH ⟨0,0,⟨[],es.map (fun e => itE e e.2.2.2 0),D⟩⟩ = _ := h2
 rw [h2,Nat.zero_add]; rfl
theorem Qnx (D : List Q5) : ∀ (es : List En) (A : List Qf) (at_ : Nat),A.length + es.length ≤ 1000000 → JT ⟨((A.length : Nat) : Int),⟨[],A ++ laidE at_ es,D⟩,[]⟩ = some ⟨⟨[],A ++ laidE at_ es,D⟩,[]⟩
 | [],A,at_,_ => by
  simp only [laidE]
  rw [JT.eq]; unfold Zr
  simp only
  rw [end_lt]; rfl
 | e :: es,A,at_,hl => by
  have ih := Qnx D es (A ++ [itE e e.2.2.2 (at_ : Int)]) (at_ + e.2.2.2) (by simp only [List.length_append,List.length_cons,List.length_nil] at hl ⊢; omega)
  have hn := FG A (itE e e.2.2.2 (at_ : Int)) (by simp only [List.length_cons] at hl; omega)
  have hset : (A ++ itE e e.2.2.2 (at_ : Int) :: laidE (at_ + e.2.2.2) es).set (Int.toNat ((A.length : Nat) : Int)) (Qf.mk (itE e e.2.2.2 (at_ : Int)).S (itE e e.2.2.2 (at_ : Int)).Frag (itE e e.2.2.2 (at_ : Int)).Size (itE e e.2.2.2 (at_ : Int)).At (itE e e.2.2.2 (at_ : Int)).Grown false (itE e e.2.2.2 (at_ : Int)).Value) = A ++ itE e e.2.2.2 (at_ : Int) :: laidE (at_ + e.2.2.2) es := QeG _ _ _ _
  simp only [laidE]
  rw [JT.eq]; unfold Zr
  simp only
  rw [mid_lt,cond_true,mid_in,cond_true,Zh,Option.bind_some,hset,mid_in,cond_true,Zh,Option.bind_some,show eqS (itE e e.2.2.2 (at_ : Int)).S.Label s_ = true from Xb.2 rfl,Bool.not_true,cond_false,Option.bind_some,Sum.elim_inl,hn,EE A (itE e e.2.2.2 (at_ : Int)) (laidE (at_ + e.2.2.2) es)]
  exact ih
theorem Qjq (D : List Q5) (b : Bool) : ∀ (es : List En) (A : List Qf) (at_ : Nat),A.length + es.length ≤ 1000000 → (∀ e ∈ es,okE e) → Uc ⟨b,((A.length : Nat) : Int),⟨[],A ++ laidE at_ es,D⟩,[]⟩ = some ⟨b,⟨[],A ++ laidE at_ es,D⟩,[]⟩
 | [],A,at_,_,_ => by
  simp only [laidE]
  rw [Uc.eq]; unfold Zs
  simp only
  rw [end_lt]; rfl
 | e :: es,A,at_,hl,hk => by
  have ih := Qjq D b es (A ++ [itE e e.2.2.2 (at_ : Int)]) (at_ + e.2.2.2) (by simp only [List.length_append,List.length_cons,List.length_nil] at hl ⊢; omega) (fun x hx => hk x (by simp [hx]))
  have hn := FG A (itE e e.2.2.2 (at_ : Int)) (by simp only [List.length_cons] at hl; omega)
  have h9 : ((itE e e.2.2.2 (at_ : Int)).S.Kind != 9) = true := bne_iff_ne.2 (by show e.2.2.1.1 ≠ 9; have := QcP (hk e (by simp)); omega)
  simp only [laidE]
  rw [Uc.eq]; unfold Zs
  simp only
  rw [mid_lt,cond_true,mid_in,cond_true,Zh,Option.bind_some,h9,cond_true,Option.bind_some,Sum.elim_inl,hn,EE A (itE e e.2.2.2 (at_ : Int)) (laidE (at_ + e.2.2.2) es)]
  exact ih
theorem Qw5 (es : List En) (D : List Q5) (hl : es.length ≤ 1000000) (hk : ∀ e ∈ es,okE e) : VP ⟨[],laidE 0 es,D⟩ = some ([],⟨[],laidE 0 es,D⟩) := by
 rw [VP.eq]; unfold PR
 have h1 := Qnx D es [] 0 (by simpa using hl)
 have h1 : JT ⟨0,⟨[],laidE 0 es,D⟩,[]⟩ = _ := h1
 have h3 := Qjq D false es [] 0 (by simpa using hl) hk
 have h3 : Uc ⟨false,0,⟨[],laidE 0 es,D⟩,[]⟩ = some ⟨false,⟨[],laidE 0 es,D⟩,[]⟩ := h3
 have h2 : Uy ⟨true,⟨[],laidE 0 es,D⟩,[]⟩ = some ⟨⟨[],laidE 0 es,D⟩,[]⟩ := by
  rw [Uy.eq]; unfold Ej
  simp only [cond_true]
  rw [h3,Option.bind_some,Option.bind_some,Sum.elim_inl,Uy.eq]; rfl
 have h1 : JT ⟨0,⟨[],laidE 0 es,D⟩,[] ++ []⟩ = some ⟨⟨[],laidE 0 es,D⟩,[]⟩ := h1
 show (bif decide _ then _ else _) = _
 rw [show decide ((([] : List Qk).length + ([] : List Qk).length) * 24 ≤ most) = true from rfl,cond_true,h1,Option.bind_some,h2]; rfl
theorem Qqa (D : List Q5) (b : Bool) : ∀ (es : List En) (A : List Qf) (at_ : Nat),A.length + es.length ≤ 1000000 → (∀ e ∈ es,okE e) → Us ⟨[],b,((A.length : Nat) : Int),⟨[],A ++ laidE at_ es,D⟩⟩ = some ⟨b,⟨[],A ++ laidE at_ es,D⟩⟩
 | [],A,at_,_,_ => by
  simp only [laidE]
  rw [Us.eq]; unfold ZN
  simp only
  rw [end_lt]; rfl
 | e :: es,A,at_,hl,hk => by
  have ih := Qqa D b es (A ++ [itE e e.2.2.2 (at_ : Int)]) (at_ + e.2.2.2) (by simp only [List.length_append,List.length_cons,List.length_nil] at hl ⊢; omega) (fun x hx => hk x (by simp [hx]))
  have hn := FG A (itE e e.2.2.2 (at_ : Int)) (by simp only [List.length_cons] at hl; omega)
  have h2 : ((itE e e.2.2.2 (at_ : Int)).S.Kind != 2) = true := bne_iff_ne.2 (by show e.2.2.1.1 ≠ 2; have := QcP (hk e (by simp)); omega)
  simp only [laidE]
  rw [Us.eq]; unfold ZN
  simp only
  rw [mid_lt,cond_true,mid_in,cond_true,Zh,Option.bind_some,h2,cond_true,Option.bind_some,Sum.elim_inl,hn,EE A (itE e e.2.2.2 (at_ : Int)) (laidE (at_ + e.2.2.2) es)]
  exact ih
theorem lay_eq (es : List En) (D : List Q5) (hl : es.length ≤ 1000000) (hs : sumE es ≤ 4096) (hk : ∀ e ∈ es,okE e) : XK ⟨[],es.map (fun e => itE e e.2.2.2 0),D⟩ = some ([],⟨[],laidE 0 es,D⟩) := by
 rw [XK.eq]; unfold QaR
 have hg : Xo [] ⟨[],laidE 0 es,D⟩ = some (false,⟨[],laidE 0 es,D⟩) := by
  rw [Xo.eq]; unfold So
  have h := Qqa D false es [] 0 (by simpa using hl) hk
  have h : Us ⟨[],false,0,⟨[],laidE 0 es,D⟩⟩ = some ⟨false,⟨[],laidE 0 es,D⟩⟩ := h
  rw [h]; rfl
 have hL : VZ ⟨((sumE es : Nat) : Int),[],⟨[],laidE 0 es,D⟩⟩ = some ⟨((sumE es : Nat) : Int),[],⟨[],laidE 0 es,D⟩⟩ := by
  rw [VZ.eq]; unfold FE
  simp only
  rw [hg]; rfl
 rw [Qvb es D hl (by omega) hk,Option.bind_some]
 simp only
 rw [Qw5 es D hl hk,Option.bind_some]
 simp only
 rw [hL,Option.bind_some]
 simp only
 rw [decide_eq_false (show ¬ ((sumE es : Nat) : Int) > 4096 by omega)]; rfl
end Go.Ab
set_option maxRecDepth 100000
namespace Go.Ab
theorem ev_num (u : Int) (h : Int) : Q1 (X3.num u).t h [] = some (u,0) := by rw [Q1.eq]; rfl
theorem Qr5 (h : Int) : Q1 X3.here.t h [] = some (h,0) := by rw [Q1.eq]; rfl
theorem ev_neg {u : Int} (hu : 0 ≤ u ∧ u < 4294967296) (h : Int) : Q1 (X3.neg (.num u)).t h [] = some (0 - u,0) := by
 rw [Q1.eq]
 show ((Q1 (X3.num u).t h []).bind _) = _
 rw [ev_num,Option.bind_some]
 show some (w64 (0 - u),(0 : Int)) = _
 rw [w64_in (by omega) (by omega)]
theorem Qqb {n : Int} (h : -1099511627776 ≤ n ∧ n ≤ 1099511627776) : ZD n = some (n,0) := by
 rw [ZD.eq]; unfold Qfr
 first
  | (rw [decide_eq_false (show ¬ n < -1099511627776 by omega),cond_false,decide_eq_false (show ¬ n > 1099511627776 by omega)]; rfl)
  | (rw [decide_eq_false (show ¬ n > 1099511627776 by omega),cond_false,decide_eq_false (show ¬ n < -1099511627776 by omega)]; rfl)
theorem ev_way {k : Nat} (hk : k = 5 ∨ k = 6) {u : Int} (hu : 0 ≤ u ∧ u < 4294967296) {h : Int} (hh : 0 ≤ h ∧ h ≤ 1000000) : Q1 (X3.bin k .here (.num u)).t h [] = some (if k = 5 then h + u else h - u,0) := by
 rw [Q1.eq]
 rcases hk with rfl | rfl
 ·show ((Q1 X3.here.t h []).bind _) = _
  rw [Qr5,Option.bind_some]
  show ((Q1 (X3.num u).t h []).bind _) = _
  rw [ev_num,Option.bind_some]
  show ((Xh 5 h u).bind _) = _
  have e : Xh 5 h u = some (h + u,0) := by
   rw [Xh.eq]; unfold SH
   rw [show ((5 : Int) == 5) = true from rfl,cond_true,w64_in (by omega) (by omega),Qqb (by omega)]; rfl
  rw [e]; rfl
 ·show ((Q1 X3.here.t h []).bind _) = _
  rw [Qr5,Option.bind_some]
  show ((Q1 (X3.num u).t h []).bind _) = _
  rw [ev_num,Option.bind_some]
  show ((Xh 6 h u).bind _) = _
  have e : Xh 6 h u = some (h - u,0) := by
   rw [Xh.eq]; unfold SH
   rw [show ((6 : Int) == 5) = false from rfl,cond_false,show ((6 : Int) == 6) = true from rfl,cond_true,w64_in (by omega) (by omega),Qqb (by omega)]; rfl
  rw [e]; rfl
def vK (K : Kn) (v at_ : Int) : Int := if K.isT = true then at_ + v else v
theorem isT_R (K : Kn) (h : K.isR = true) : K.isT = false := by cases K <;> first | rfl | cases h
theorem ev_K (K : Kn) {v : Int} (hv : b31 v) (hr : K.isR = false) {h : Int} (hh : 0 ≤ h ∧ h ≤ 1000000) : Q1 (xK K v).t h [] = some (vK K v h,0) := by
 unfold xK vK
 by_cases hT : K.isT = true
 ·rw [if_pos hT,if_pos hT]
  by_cases c : v < 0
  ·rw [if_pos c,ev_way (.inr rfl) (by omega) hh,if_neg (by decide)]
   rw [show h - (0 - v) = h + v by omega]
  ·rw [if_neg c,ev_way (.inl rfl) (by omega) hh,if_pos rfl]
 ·rw [if_neg hT,if_neg hT]
  by_cases c : v < 0
  ·rw [if_pos c,ev_neg (by omega)]
   rw [show 0 - (0 - v) = v by omega]
  ·rw [if_neg c,ev_num]
theorem QfD (w : Qc) (x : Qf) (f : Qj → Int) (hn : x.S.Args.length ≤ 100) (h9 : (x.S.Kind == 9) = false) (hf : ∀ a ∈ x.S.Args,(0 ≤ a.Reg ∧ f a = a.Reg) ∨ (a.Reg < 0 ∧ Q1 a.E x.At [] = some (f a,0))) : ∀ (g i : Nat) (out : List Int),g + i = x.S.Args.length → out.length ≤ i →
  Jz ⟨[],(i : Int),w,x,out⟩ = some (.inr ⟨w,x,out ++ (x.S.Args.drop i).map f⟩)
 | 0,i,out,hg,ho => by
  rw [Jz.eq]; unfold ZO
  simp only
  rw [decide_eq_false (show ¬ (i : Int) < ((x.S.Args.length : Nat) : Int) by omega),cond_false,List.drop_eq_nil_of_le (by omega)]; simp
 | g + 1,i,out,hg,ho => by
  have hi : i < x.S.Args.length := by omega
  have g1 : x.S.Args[Int.toNat (i : Int)]? = some x.S.Args[i] := by rw [Int.toNat_natCast,List.getElem?_eq_getElem hi]
  have m : ∀ z : Int,decide ((out.length + [z].length) * 8 ≤ most) = true := fun z => decide_eq_true (by rw [List.length_singleton]; show _ * 8 ≤ 140737488355328; omega)
  have ih := QfD w x f hn h9 hf g (i + 1) (out ++ [f x.S.Args[i]]) (by omega) (by simp; omega)
  have ih : Jz ⟨[],(i : Int) + 1,w,x,_⟩ = _ := ih
  have fin : ∀ z,z = (some (.inl (QO.mk [] (w64 ((i : Int) + 1)) w x (out ++ [f x.S.Args[i]]))) : Option (QO ⊕ (Q4 ⊕ JY))) → z.bind (Sum.elim Jz some) = some (.inr ⟨w,x,out ++ (x.S.Args.drop i).map f⟩) := by
   rintro z rfl
   rw [Option.bind_some,Sum.elim_inl,w64_in (by omega) (by omega),ih,List.drop_eq_getElem_cons hi,List.map_cons,List.append_assoc]; rfl
  rw [Jz.eq]; unfold ZO
  refine fin _ ?_
  simp only
  rw [decide_eq_true (show (i : Int) < ((x.S.Args.length : Nat) : Int) by omega),cond_true,decide_eq_true (show 0 ≤ (i : Int) by omega),cond_true,g1,Option.bind_some]
  rcases hf x.S.Args[i] (List.getElem_mem hi) with ⟨h1,h2⟩ | ⟨h1,h2⟩
  ·rw [decide_eq_false (show ¬ x.S.Args[i].Reg < 0 by omega),cond_false,m,cond_true,h2]
  ·rw [decide_eq_true h1,cond_true,h2,Option.bind_some]
   simp only
   rw [show ((0 : Int) == 4) = false from rfl,cond_false,show ((0 : Int) != 0) = false from rfl,cond_false,m,cond_true]
theorem T_head (K : Kn) : 0 < K.str.size ∧ (((K.str.data.getD (Int.toNat 0) 0).toNat : Int) == 84) = K.isT := by cases K <;> exact ⟨by decide,by decide⟩
theorem Qqc (x : Qf) (hat : 0 ≤ x.At ∧ x.At ≤ 1000000) (op n : Int) (Ks : List Kn) (hK : Ks.length ≤ 8) (hv : ∀ K ∈ Ks,b31 (K.val n)) : ∀ (g i : Nat) (F : List Int),g + i = Ks.length → F.length ≤ i →
  Wj ⟨Ks.map (fun K => vK K (K.val n) x.At),Ks.map Kn.str,(i : Int),x,⟨op,F⟩⟩ = some ⟨op,F ++ (Ks.drop i).map fun K => K.val n⟩
 | 0,i,F,hg,ho => by
  rw [Wj.eq]; unfold PS
  simp only
  rw [List.length_map,decide_eq_false (show ¬ (i : Int) < ((Ks.length : Nat) : Int) by omega),cond_false,List.drop_eq_nil_of_le (by omega)]; simp
 | g + 1,i,F,hg,ho => by
  have hi : i < Ks.length := by omega
  have h31 := hv Ks[i] (List.getElem_mem hi)
  have g1 : (Ks.map fun K => vK K (K.val n) x.At)[Int.toNat (i : Int)]? = some (vK Ks[i] (Ks[i].val n) x.At) := by rw [Int.toNat_natCast,List.getElem?_map,List.getElem?_eq_getElem hi]; rfl
  have g2 : (Ks.map Kn.str)[Int.toNat (i : Int)]? = some Ks[i].str := by rw [Int.toNat_natCast,List.getElem?_map,List.getElem?_eq_getElem hi]; rfl
  obtain ⟨t1,t2⟩ := T_head Ks[i]
  have m : ∀ z : Int,decide ((F.length + [z].length) * 8 ≤ most) = true := fun z => decide_eq_true (by rw [List.length_singleton]; show _ * 8 ≤ 140737488355328; omega)
  have ih := Qqc x hat op n Ks hK hv g (i + 1) (F ++ [Ks[i].val n]) (by omega) (by simp; omega)
  have ih : Wj ⟨_,_,(i : Int) + 1,x,_⟩ = _ := ih
  have fin : ∀ z,z = (some (.inl (UH.mk (Ks.map fun K => vK K (K.val n) x.At) (Ks.map Kn.str) (w64 ((i : Int) + 1)) x ⟨op,F ++ [Ks[i].val n]⟩)) : Option (UH ⊕ Qi)) → z.bind (Sum.elim Wj some) = some ⟨op,F ++ (Ks.drop i).map fun K => K.val n⟩ := by
   rintro z rfl
   rw [Option.bind_some,Sum.elim_inl,w64_in (by omega) (by omega),ih,List.drop_eq_getElem_cons hi,List.map_cons,List.append_assoc]; rfl
  rw [Wj.eq]; unfold PS
  refine fin _ ?_
  simp only
  rw [List.length_map,decide_eq_true (show (i : Int) < ((Ks.length : Nat) : Int) by omega),cond_true,decide_eq_true (show 0 ≤ (i : Int) by omega),cond_true,g1,Option.bind_some,g2,Option.bind_some,decide_eq_true (show 0 ≤ (0 : Int) ∧ (0 : Int) < ((Ks[i].str.size : Nat) : Int) by omega),cond_true,t2]
  unfold vK
  cases hT : Ks[i].isT with
  | true => rw [cond_true,if_pos rfl,show x.At + Ks[i].val n - x.At = Ks[i].val n by omega,w64_in (n := Ks[i].val n) (by have := h31.1; omega) (by have := h31.2; omega),m,cond_true]
  | false => rw [cond_false,if_neg (by decide),m,cond_true]
theorem Qyg (x : Qf) (hat : 0 ≤ x.At ∧ x.At ≤ 1000000) {k n : Nat} (hk : k < 66) (hn : n < 4294967296) (he : enc (k : Int) (vals k n) = some n) : Z1 (k : Int) x ((ks k).map fun K => vK K (K.val (n : Int)) x.At) = some (byts (k : Int) n,0) := by
 obtain ⟨q,_,_,_,q4,q5⟩ := Qis hk
 have hks := ks_len k
 have h1 := Qqc x hat (k : Int) (n : Int) (ks k) (by omega) (fun K _ => val_31 K (n : Int) ⟨by omega,by omega⟩) (ks k).length 0 [] (by omega) (by simp)
 have h1 : Wj ⟨_,(ks k).map Kn.str,0,x,⟨(k : Int),[]⟩⟩ = some ⟨(k : Int),vals k n⟩ := h1
 have h2 := (Qlj ⟨(k : Int),vals k n⟩ (QrK k n hn) (by unfold vals; rw [List.length_map]; omega)).1
 have h3 : encB (k : Int) (vals k n) = (byts (k : Int) n,true) := by unfold encB; rw [he]
 have h2 : VA ⟨(k : Int),vals k n⟩ = some (byts (k : Int) n,true) := by rw [h2]; exact congrArg some h3
 rw [Z1.eq]; unfold Qh3
 rw [q4,Option.bind_some,q5,Option.bind_some,h1,Option.bind_some,h2]; rfl
theorem rb_1 {v : Int} (hv : 0 ≤ v ∧ v < 256) : X7 v 1 [] = some [v] := by
 have e0 : Ul ⟨v,-1,[v]⟩ = some [v] := by rw [Ul.eq]; rfl
 have e : Ul ⟨v,0,[]⟩ = some [v] := by
  rw [Ul.eq]; unfold Gl
  simp only
  have hw : IntKind.u8.wrap (shrI .i64 v (IntKind.u64.wrap (w64 (8 * 0)))) = v := by
   rw [show IntKind.u64.wrap (w64 (8 * 0)) = ((0 : Nat) : Int) from by decide]
   unfold shrI
   rw [u8_w,show min (Int.toNat ((0 : Nat) : Int)) IntKind.i64.bits = 0 from by decide]
   simp [Int.fdiv_eq_ediv_of_nonneg]; omega
  rw [hw]
  exact e0
 rw [X7.eq]; unfold Qbv
 rw [show w64 ((1 : Int) - 1) = 0 from by decide,e]; rfl
theorem rb_2 {v : Int} (hv : 0 ≤ v ∧ v < 65536) : X7 v 2 [] = some [v / 256,v % 256] := by
 have hw0 : IntKind.u8.wrap (shrI .i64 v (IntKind.u64.wrap (w64 (8 * 0)))) = v % 256 := by
  rw [show IntKind.u64.wrap (w64 (8 * 0)) = ((0 : Nat) : Int) from by decide]
  unfold shrI
  rw [u8_w,show min (Int.toNat ((0 : Nat) : Int)) IntKind.i64.bits = 0 from by decide]
  simp [Int.fdiv_eq_ediv_of_nonneg]
 have hw1 : IntKind.u8.wrap (shrI .i64 v (IntKind.u64.wrap (w64 (8 * 1)))) = v / 256 := by
  rw [show IntKind.u64.wrap (w64 (8 * 1)) = ((8 : Nat) : Int) from by decide]
  unfold shrI
  rw [u8_w,show min (Int.toNat ((8 : Nat) : Int)) IntKind.i64.bits = 8 from by decide,Int.fdiv_eq_ediv_of_nonneg _ (by decide),show ((2 : Int) ^ 8) = 256 from rfl]
  omega
 have e0 : Ul ⟨v,-1,[v / 256,v % 256]⟩ = some [v / 256,v % 256] := by rw [Ul.eq]; rfl
 have e1 : Ul ⟨v,0,[v / 256]⟩ = some [v / 256,v % 256] := by
  rw [Ul.eq]; unfold Gl
  simp only
  rw [hw0]
  exact e0
 have e2 : Ul ⟨v,1,[]⟩ = some [v / 256,v % 256] := by
  rw [Ul.eq]; unfold Gl
  simp only
  rw [hw1]
  exact e1
 rw [X7.eq]; unfold Qbv
 rw [show w64 ((2 : Int) - 1) = 1 from by decide,e2]; rfl
theorem Qr6 {v n lo hi : Int} {bs : List Int} (h1 : lo ≤ v) (h2 : v ≤ hi) (hb : X7 v n [] = some bs) : Gr [v] n lo hi = some (bs,0) := by
 have e0 : Xd ⟨[v],n,lo,hi,1,bs⟩ = some (.inr bs) := by rw [Xd.eq]; rfl
 have e : Xd ⟨[v],n,lo,hi,0,[]⟩ = some (.inr bs) := by
  rw [Xd.eq]; unfold QcF
  simp only
  rw [show decide ((0 : Int) < ((([v] : List Int).length : Nat) : Int)) = true from rfl,cond_true,show decide (0 ≤ (0 : Int)) = true from rfl,cond_true,show ([v] : List Int)[Int.toNat 0]? = some v from rfl,Option.bind_some,decide_eq_false (show ¬ v < lo by omega),cond_false,Option.bind_some,decide_eq_false (show ¬ v > hi by omega),cond_false,Option.bind_some,hb,Option.bind_some,Option.bind_some,Sum.elim_inl]
  exact e0
 rw [Gr.eq]; unfold Qh6
 rw [e]; rfl
end Go.Ab
set_option maxRecDepth 100000
namespace Go.Ab
structure Pc where
 L : List UInt8
 q : SQ
 bs : List Int
def kindP (q : SQ) (bs : List Int) : Prop := (∃ k n : Nat,k < 66 ∧ n < 4294967296 ∧ enc (k : Int) (vals k n) = some n ∧ q = qI k n ∧ bs = byts (k : Int) n) ∨ (∃ v : Int,(0 ≤ v ∧ v < 65536) ∧ q = qD 4 v ∧ bs = [v / 256,v % 256]) ∨ (∃ v : Int,(0 ≤ v ∧ v < 256) ∧ q = qD 3 v ∧ bs = [v])
def okP (p : Pc) : Prop := 10 ∉ p.L ∧ p.L.length ≤ 39 ∧ XW (ba p.L) = some (mkS s_ p.q,true) ∧ kindP p.q p.bs
def evP : List Pc → Prop
 | [] => True
 | [_] => True
 | p :: q :: l => p.bs.length % 2 = 0 ∧ evP (q :: l)
theorem Qqd (v : Int) (h : 0 ≤ v) : 10 ∉ dgK v := by
 rw [dg_nn h]
 intro hm
 have := List.all_eq_true.1 (@Ss v.toNat).1 10 hm
 cases this
theorem QtE {k n : Nat} (hk : k < 66) (hn : n < 4294967296) : 10 ∉ lineI k (vals k n) := by
 obtain ⟨n1,n2,n3,n4,n5,n6,n7⟩ := Qmw hk
 have hc := Qih (args_I (k := k) hn)
 have hN : 10 ∉ nmB k := (Cle_I n6 n7).no (by decide)
 have hg : glL (nmB k) (opsL k (vals k n)) = lineI k (vals k n) := by
  unfold glL lineI
  cases opsL k (vals k n) with
  | nil => rfl
  | cons a t => rw [if_neg (by simp),Qlu]
 rw [← hg]
 unfold glL
 split
 ·simpa using hN
 ·simp only [List.mem_append,List.mem_cons,not_or]
  exact ⟨hN,by decide,Qr1 (by decide) (by decide) _ (fun u hu => (hc u hu).no (by decide))⟩
theorem QtF (b : List Int) (hb : U8 b) (h0 : b ≠ []) : ∃ p : Pc,okP p ∧ (step b).1 = p.L ∧ (step b).2 = p.bs.length ∧ b = p.bs ++ b.drop p.bs.length ∧ (b.drop p.bs.length ≠ [] → p.bs.length % 2 = 0) := by
 have hpos : 0 < b.length := List.length_pos_iff.2 h0
 have hmx := (Qiu b hb h0).1
 have hx0 := Su hb
 have hx1 := Su (Gs hb 1)
 have key : (∃ (k n : Nat) (s : Int),dec b = (⟨(k : Int),vals k n⟩,s,true) ∧ n < 4294967296 ∧ k < 66 ∧ s = sz k ∧ s ≤ b.length ∧ enc (k : Int) (vals k n) = some n ∧ byts (k : Int) n = b.take s.toNat) ∨ dec b = (z0I,0,false) := by
  unfold dec
  split
  ·rename_i c
   have hs := QjZ (b.headD 0)
   generalize szOf (b.headD 0) = s at *
   have hn := wd_32 hb hs c.2
   unfold decW
   cases h : dgo (wd 0 (b.take s.toNat)) s 66 0 with
   | none => exact .inr rfl
   | some k =>
    obtain ⟨k1,k2,k3⟩ := Qj1 _ s 66 0 k (by omega) h
    refine .inl ⟨k,_,s,rfl,hn,k1,k2.symm,c.2,k3,QxU _ (fun x hx => hb x (List.mem_of_mem_take hx)) ?_⟩
    rw [List.length_take,k2]; omega
  ·exact .inr rfl
 rcases key with ⟨k,n,s,h,h1,h2,h3,h4,h5,h6⟩ | h
 ·have e : step b = (lineI k (vals k n),s.toNat) := by unfold step; rw [h]; simp only; rw [Int.toNat_natCast]
  have hl : (byts (k : Int) n).length = s.toNat := by have := Qfz k n; omega
  rw [e] at hmx
  refine ⟨⟨lineI k (vals k n),qI k n,byts (k : Int) n⟩,⟨QtE h2 h1,hmx,one_I h2 h1,.inl ⟨k,n,h2,h1,h5,rfl,rfl⟩⟩,by rw [e],by rw [e,hl],?_,fun _ => ?_⟩
  ·simp only; rw [hl,h6,List.take_append_drop]
  ·simp only; rw [hl]; unfold sz at h3; split at h3 <;> omega
 ·by_cases c : b.length = 1
  ·have e : step b = ([46,98,121,116,101] ++ 32 :: dgK (b.headD 0),1) := by unfold step; rw [h]; simp only; rw [if_pos c]; rfl
   have v0 : 0 ≤ b.headD 0 ∧ b.headD 0 < 256 := ⟨hx0.1,hx0.2⟩
   have hb1 : b = [b.headD 0] := by
    match b,c with
    | [x],_ => rfl
   rw [e] at hmx
   refine ⟨⟨_,qD 3 (b.headD 0),[b.headD 0]⟩,⟨?_,hmx,one_B ⟨v0.1,by omega⟩,.inr (.inr ⟨_,v0,rfl,rfl⟩)⟩,by rw [e],by rw [e]; rfl,?_,fun hd => ?_⟩
   ·simp only [List.mem_append,List.mem_cons,not_or]; exact ⟨by decide,by decide,Qqd _ v0.1⟩
   ·conv => lhs; rw [hb1]
    rw [show b.drop [b.headD 0].length = [] from List.drop_eq_nil_of_le (by simp; omega)]; rfl
   ·exact absurd (List.drop_eq_nil_of_le (by simp; omega)) hd
  ·have e : step b = ([46,104,97,108,102] ++ 32 :: dgK (b.headD 0 * 256 + (b.drop 1).headD 0),2) := by unfold step; rw [h]; simp only; rw [if_neg c]; rfl
   have v1 : 0 ≤ b.headD 0 * 256 + (b.drop 1).headD 0 ∧ b.headD 0 * 256 + (b.drop 1).headD 0 < 65536 := ⟨by have := hx0.1; have := hx1.1; omega,by have := hx0.2; have := hx1.2; omega⟩
   rw [e] at hmx
   refine ⟨⟨_,qD 4 _,[(b.headD 0 * 256 + (b.drop 1).headD 0) / 256,(b.headD 0 * 256 + (b.drop 1).headD 0) % 256]⟩,⟨?_,hmx,one_H v1,.inr (.inl ⟨_,v1,rfl,rfl⟩)⟩,by rw [e],by rw [e]; rfl,?_,fun _ => by simp⟩
   ·simp only [List.mem_append,List.mem_cons,not_or]; exact ⟨by decide,by decide,Qqd _ v1.1⟩
   ·match b,hb,hpos,c with
    | x :: y :: t,hb,_,_ =>
     have a0 := hb x (by simp); have a1 := hb y (by simp)
     have p1 := a0.1; have p2 := a0.2; have p3 := a1.1; have p4 := a1.2
     show x :: y :: t = [(x * 256 + y) / 256,(x * 256 + y) % 256] ++ t
     rw [show (x * 256 + y) / 256 = x by omega,show (x * 256 + y) % 256 = y by omega]; rfl
theorem pieces : ∀ (m : Nat) (b : List Int),b.length ≤ m → U8 b → ∃ ps : List Pc,listing b = ps.map (·.L) ∧ b = ps.flatMap (·.bs) ∧ (∀ p ∈ ps,okP p) ∧ evP ps
 | m,b,hm,hb => by
  by_cases h0 : b = []
  ·subst h0
   exact ⟨[],SK,rfl,by simp,trivial⟩
  ·obtain ⟨s1,s2,_⟩ := QbB b hb h0
   obtain ⟨p,hp,e1,e2,e3,e4⟩ := QtF b hb h0
   match m,hm with
   | 0,hm => omega
   | m + 1,hm =>
   obtain ⟨ps,f1,f2,f3,f4⟩ := pieces m (b.drop (step b).2) (by rw [List.length_drop]; omega) (Gs hb _)
   refine ⟨p :: ps,?_,?_,?_,?_⟩
   ·rw [QcM hb h0,e1,f1]; rfl
   ·rw [List.flatMap_cons,← f2,e2]; exact e3
   ·intro x hx
    rcases List.mem_cons.1 hx with rfl | hx
    ·exact hp
    ·exact f3 x hx
   ·cases ps with
    | nil => trivial
    | cons q l =>
     refine ⟨e4 fun hd => ?_,f4⟩
     rw [e2,hd] at f1
     rw [SK] at f1; cases f1
def txP (g : List Pc) : List UInt8 := jnL (g.map (·.L))
theorem Qyh (g : List Pc) (p : Pc) : txP (g ++ [p]) = txP g ++ p.L ++ [10] := by simp [txP,jnL]
theorem txP_ne {g : List Pc} (h : g ≠ []) : txP g ≠ [] := by
 cases g with
 | nil => exact absurd rfl h
 | cons p g => simp [txP,jnL]
def frT (st : Fs) : List (List UInt8) := if st.2 = [] then st.1 else st.1 ++ [st.2]
theorem frV_T (st : Fs) : frV st = frG 0 (frT st) := by unfold frV frT; split <;> rfl
theorem groups : ∀ (ps : List Pc) (G : List (List Pc)) (g : List Pc),(g = [] → G = []) → ∃ G' : List (List Pc),frT ((ps.map (·.L)).foldl addF (G.map txP,txP g)) = G'.map txP ∧ G'.flatten = G.flatten ++ g ++ ps
 | [],G,g,hg => by
  by_cases h : g = []
  ·subst h
   refine ⟨G,?_,by simp⟩
   show frT (G.map txP,txP []) = _
   unfold frT; rw [if_pos (by rfl)]
  ·refine ⟨G ++ [g],?_,by simp⟩
   show frT (G.map txP,txP g) = _
   unfold frT; rw [if_neg (txP_ne h)]; simp
 | p :: ps,G,g,hg => by
  rw [List.map_cons,List.foldl_cons]
  by_cases h : (txP g).length + p.L.length + 1 > 600
  ·have hgne : g ≠ [] ∨ g = [] := by by_cases h : g = [] <;> simp [h]
   have e : addF (G.map txP,txP g) p.L = ((G ++ [g]).map txP,txP [p]) := by
    unfold addF; rw [if_pos h]; simp [txP,jnL]
   rw [e]
   obtain ⟨G',a1,a2⟩ := groups ps (G ++ [g]) [p] (fun h => by cases h)
   exact ⟨G',a1,by rw [a2]; simp⟩
  ·have e : addF (G.map txP,txP g) p.L = (G.map txP,txP (g ++ [p])) := by
    unfold addF; rw [if_neg h,Qyh]
   rw [e]
   obtain ⟨G',a1,a2⟩ := groups ps G (g ++ [p]) (fun h => by simp at h)
   exact ⟨G',a1,by rw [a2]; simp⟩
theorem Qvc (b : List Int) (hb : U8 b) : ∃ G : List (List Pc),fragsV b = frG 0 (G.map txP) ∧ b = G.flatten.flatMap (·.bs) ∧ (∀ p ∈ G.flatten,okP p) ∧ evP G.flatten := by
 obtain ⟨ps,f1,f2,f3,f4⟩ := pieces b.length b (Nat.le_refl _) hb
 obtain ⟨G,g1,g2⟩ := groups ps [] [] (fun _ => rfl)
 have g2 : G.flatten = ps := by rw [g2]; simp
 refine ⟨G,?_,by rw [g2]; exact f2,by rw [g2]; exact f3,by rw [g2]; exact f4⟩
 unfold fragsV
 rw [frV_T,f1]
 exact congrArg (frG 0) g1
end Go.Ab
set_option maxRecDepth 100000
namespace Go.Ab
def entP (F : ByteArray) : Nat → List Pc → List En
 | _,[] => []
 | n,p :: g => (F,(n : Int) + 1,p.q,p.bs.length) :: entP F (n + 1) g
def entG : Nat → List (List Pc) → List En
 | _,[] => []
 | i,g :: G => entP (nmF i) 0 g ++ entG (i + 1) G
abbrev newI (F : ByteArray) (x : Qe) : Qf := ⟨x,F,0,0,false,false,0⟩
theorem Qr7 (F : ByteArray) : ∀ (g : List Pc) (n : Nat),(numS n (g.map fun p => mkS s_ p.q)).map (newI F) = (entP F n g).map (itE · 0 0)
 | [],n => rfl
 | p :: g,n => by rw [List.map_cons,numS,List.map_cons,Qr7 F g (n + 1),entP,List.map_cons]; rfl
theorem Qj5 (F : ByteArray) : ∀ (g : List Pc) (n : Nat),(entP F n g).length = g.length
 | [],_ => rfl
 | p :: g,n => by rw [entP,List.length_cons,Qj5 F g (n + 1),List.length_cons]
theorem Qqe : ∀ (xs : List Qe) (n : Nat),(numS n xs).length = xs.length
 | [],_ => rfl
 | x :: xs,n => by rw [numS,List.length_cons,Qqe xs (n + 1),List.length_cons]
theorem Qqf : ∀ (G : List (List Pc)) (i : Nat),(entG i G).length = G.flatten.length
 | [],_ => rfl
 | g :: G,i => by rw [entG,List.length_append,Qj5,Qqf G (i + 1),List.flatten_cons,List.length_append]
theorem Qr8 : ∀ g : List Pc,(∀ p ∈ g,okP p) → Rd5 (g.map (·.L)) (g.map fun p => mkS s_ p.q)
 | [],_ => .nil
 | p :: g,h => by
  obtain ⟨h1,_,h2,_⟩ := h p (by simp)
  exact .cons _ _ _ _ h1 h2 rfl (Qr8 g fun x hx => h x (by simp [hx]))
theorem Qr9 : ∀ g : List Pc,(∀ p ∈ g,okP p) → (txP g).length ≤ 40 * g.length
 | [],_ => by simp [txP,jnL]
 | p :: g,h => by
  have h1 := (h p (by simp)).2.1
  have ih := Qr9 g fun x hx => h x (by simp [hx])
  have e : txP (p :: g) = p.L ++ 10 :: txP g := by simp [txP,jnL]
  rw [e]; simp only [List.length_append,List.length_cons]; omega
theorem Qlw (fr : List Qg) (i : Nat) (F : ByteArray) {T : ByteArray} (hf : fr[Int.toNat (i : Int)]? = some ⟨F,T⟩) (xs : List Qe) (A0 : Nat) (hx : A0 + xs.length ≤ 1000000) : ∀ (g j : Nat) (A : List Qf),g + j = xs.length → A.length ≤ A0 + j →
  J9 ⟨fr,(i : Int),xs,(j : Int),⟨[],A,[]⟩⟩ = some ⟨fr,(i : Int),⟨[],A ++ (xs.drop j).map (newI F),[]⟩⟩
 | 0,j,A,hg,hA => by
  rw [J9.eq]; unfold ZL
  simp only
  rw [decide_eq_false (show ¬ (j : Int) < ((xs.length : Nat) : Int) by omega),cond_false,List.drop_eq_nil_of_le (by omega)]; simp
 | g + 1,j,A,hg,hA => by
  have hj : j < xs.length := by omega
  have g1 : xs[Int.toNat (j : Int)]? = some xs[j] := by rw [Int.toNat_natCast,List.getElem?_eq_getElem hj]
  have ih := Qlw fr i F hf xs A0 hx g (j + 1) (A ++ [newI F xs[j]]) (by omega) (by simp; omega)
  have ih : J9 ⟨fr,(i : Int),xs,(j : Int) + 1,_⟩ = _ := ih
  rw [J9.eq]; unfold ZL
  simp only
  rw [decide_eq_true (show (j : Int) < ((xs.length : Nat) : Int) by omega),cond_true,decide_eq_true (show 0 ≤ (j : Int) by omega),cond_true,g1,Option.bind_some,decide_eq_true (show 0 ≤ (i : Int) by omega),cond_true,hf,Option.bind_some,show decide ((A.length + [newI F xs[j]].length) * 128 ≤ most) = true from decide_eq_true (by rw [List.length_singleton]; show _ * 128 ≤ 140737488355328; omega),cond_true,Option.bind_some,Sum.elim_inl,w64_in (by omega) (by omega),ih,List.drop_eq_getElem_cons hj,List.map_cons,List.append_assoc]; rfl
theorem Qlx : ∀ (G : List (List Pc)) (FA : List Qg) (A : List Qf),(∀ p ∈ G.flatten,okP p) → FA.length + G.length ≤ 1000 → A.length + G.flatten.length ≤ 10000 →
  Ur ⟨FA ++ frG FA.length (G.map txP),((FA.length : Nat) : Int),⟨[],A,[]⟩⟩ = some ⟨[],A ++ (entG FA.length G).map (itE · 0 0),[]⟩
 | [],FA,A,_,_,_ => by
  rw [Ur.eq]; unfold ZM
  simp only [List.map_nil,frG]
  rw [end_lt,cond_false]; simp [entG]
 | g :: G,FA,A,hG,hl,hA => by
  simp only [List.flatten_cons,List.length_append,List.length_cons] at hl hA
  have hg : ∀ p ∈ g,okP p := fun p hp => hG p (by simp [hp])
  have ih := Qlx G (FA ++ [⟨nmF FA.length,ba (txP g)⟩]) (A ++ (entP (nmF FA.length) 0 g).map (itE · 0 0)) (fun p hp => hG p (by simp at hp ⊢; exact .inr hp)) (by simp only [List.length_append,List.length_singleton]; omega) (by rw [List.length_append,List.length_map,Qj5]; omega)
  have hfl : (FA ++ [(⟨nmF FA.length,ba (txP g)⟩ : Qg)]).length = FA.length + 1 := by simp
  rw [hfl] at ih
  have hgl : g.length ≤ 10000 := by omega
  have htx := Qr9 g hg
  have hp := Qrb (Qr8 g hg) (show (txP g).length ≤ 1000000 by omega) (by simp; omega)
  have hp : YV (ba (txP g)) = _ := hp
  have hget : (FA ++ (⟨nmF FA.length,ba (txP g)⟩ : Qg) :: frG (FA.length + 1) (G.map txP))[Int.toNat ((FA.length : Nat) : Int)]? = some ⟨nmF FA.length,ba (txP g)⟩ := Zh _ _ _
  have h3 := Qlw _ FA.length (nmF FA.length) hget (numS 0 (g.map fun p => mkS s_ p.q)) A.length (by rw [Qqe,List.length_map]; omega) (numS 0 (g.map fun p => mkS s_ p.q)).length 0 A (by omega) (by omega)
  rw [List.drop_zero,Qr7] at h3
  have h3 : J9 ⟨FA ++ (⟨nmF FA.length,ba (txP g)⟩ : Qg) :: frG (FA.length + 1) (G.map txP),((FA.length : Nat) : Int),numS 0 (g.map fun p => mkS s_ p.q),0,⟨[],A,[]⟩⟩ = _ := h3
  have h2 : Vs ⟨FA ++ (⟨nmF FA.length,ba (txP g)⟩ : Qg) :: frG (FA.length + 1) (G.map txP),((FA.length : Nat) : Int),numS 0 (g.map fun p => mkS s_ p.q),[],0,⟨[],A,[]⟩⟩ = some ⟨FA ++ (⟨nmF FA.length,ba (txP g)⟩ : Qg) :: frG (FA.length + 1) (G.map txP),((FA.length : Nat) : Int),numS 0 (g.map fun p => mkS s_ p.q),⟨[],A,[]⟩⟩ := by
   rw [Vs.eq]; rfl
  rw [Ur.eq]; unfold ZM
  simp only [List.map_cons,frG]
  rw [mid_lt,cond_true,decide_eq_true (show 0 ≤ ((FA.length : Nat) : Int) by omega),cond_true,hget,Option.bind_some,hp,Option.bind_some]
  simp only
  rw [h2,Option.bind_some]
  simp only
  rw [h3,Option.bind_some,Option.bind_some,Sum.elim_inl]
  simp only
  rw [w64_in (by omega) (by omega)]
  have e1 : FA ++ (⟨nmF FA.length,ba (txP g)⟩ : Qg) :: frG (FA.length + 1) (G.map txP) = (FA ++ [⟨nmF FA.length,ba (txP g)⟩]) ++ frG (FA.length + 1) (G.map txP) := by simp
  have e2 : ((FA.length : Nat) : Int) + 1 = ((FA.length + 1 : Nat) : Int) := by omega
  rw [e1,e2,ih,entG,List.map_append,List.append_assoc]
theorem Qyi {p : Pc} (hp : okP p) (F : ByteArray) (n : Int) (at_ : Nat) (hat : at_ ≤ 1000000) (hev : p.q.1 = 1 → at_ % 2 = 0) (w : Qc) : Wo (itE (F,n,p.q,p.bs.length) p.bs.length (at_ : Int)) [] w = some (p.bs,0,w) := by
 obtain ⟨_,_,_,hk⟩ := hp
 rcases hk with ⟨k,m,hk,hm,he,hq,hbs⟩ | ⟨v,hv,hq,hbs⟩ | ⟨v,hv,hq,hbs⟩
 ·rw [hq] at hev
  rw [hq,hbs]
  have w0 : inU (m : Int) := ⟨by omega,by omega⟩
  let f : Qj → Int := fun a => if 0 ≤ a.Reg then a.Reg else ((Q1 a.E (at_ : Int) []).map (·.1)).getD 0
  have hfK : ∀ K : Kn,f (aK K (K.val (m : Int))) = vK K (K.val (m : Int)) (at_ : Int) ∧ ((0 ≤ (aK K (K.val (m : Int))).Reg ∧ f (aK K (K.val (m : Int))) = (aK K (K.val (m : Int))).Reg) ∨ ((aK K (K.val (m : Int))).Reg < 0 ∧ Q1 (aK K (K.val (m : Int))).E (at_ : Int) [] = some (f (aK K (K.val (m : Int))),0))) := by
   intro K
   cases hr : K.isR with
   | true =>
    obtain ⟨r1,r2⟩ := Qmu K (m : Int) w0 hr
    have e : aK K (K.val (m : Int)) = ⟨K.val (m : Int),E0⟩ := by unfold aK; rw [hr,if_pos rfl]
    have e2 : f ⟨K.val (m : Int),E0⟩ = K.val (m : Int) := if_pos r1
    rw [e,e2]
    refine ⟨?_,.inl ⟨r1,rfl⟩⟩
    unfold vK; rw [isT_R K hr,if_neg (by decide)]
   | false =>
    have e : aK K (K.val (m : Int)) = ⟨-1,(xK K (K.val (m : Int))).t⟩ := by unfold aK; rw [hr,if_neg (by decide)]
    have hv := ev_K K (val_31 K (m : Int) w0) hr (h := (at_ : Int)) ⟨by omega,by omega⟩
    have e2 : f ⟨-1,(xK K (K.val (m : Int))).t⟩ = vK K (K.val (m : Int)) (at_ : Int) := by
     show (if (0 : Int) ≤ -1 then (-1 : Int) else _) = _
     rw [if_neg (by decide)]
     show ((Q1 (xK K (K.val (m : Int))).t (at_ : Int) []).map (·.1)).getD 0 = _
     rw [hv]; rfl
    rw [e,e2]
    exact ⟨rfl,.inr ⟨by show (-1 : Int) < 0; decide,hv⟩⟩
  have hks := ks_len k
  have hL := QfD w (itE (F,n,qI k m,(byts (k : Int) m).length) (byts (k : Int) m).length (at_ : Int)) f (by show ((ks k).map _).length ≤ 100; rw [List.length_map]; omega) rfl (by
   intro a ha
   have ha : a ∈ (ks k).map fun K => aK K (K.val (m : Int)) := ha
   obtain ⟨K,_,rfl⟩ := List.mem_map.1 ha
   exact (hfK K).2) _ 0 [] (by rw [Nat.add_zero]) (by simp)
  rw [List.drop_zero,List.nil_append] at hL
  have hvals : (itE (F,n,qI k m,(byts (k : Int) m).length) (byts (k : Int) m).length (at_ : Int)).S.Args.map f = (ks k).map fun K => vK K (K.val (m : Int)) (at_ : Int) := by
   show ((ks k).map fun K => aK K (K.val (m : Int))).map f = _
   rw [List.map_map]
   exact List.map_congr_left fun K _ => (hfK K).1
  rw [hvals] at hL
  have hi := Qyg (itE (F,n,qI k m,(byts (k : Int) m).length) (byts (k : Int) m).length (at_ : Int)) ⟨by show (0 : Int) ≤ (at_ : Int); omega,by show (at_ : Int) ≤ 1000000; omega⟩ hk hm he
  have hL : Jz ⟨[],0,w,itE (F,n,qI k m,(byts (k : Int) m).length) (byts (k : Int) m).length (at_ : Int),[]⟩ = _ := hL
  have hodd : (Int.tmod (at_ : Int) 2 == 1) = false := by
   have h2 := hev rfl
   rw [show Int.tmod (at_ : Int) 2 = ((at_ % 2 : Nat) : Int) from rfl,h2]; rfl
  rw [Wo.eq]; unfold Z2
  rw [show ((itE (F,n,qI k m,(byts (k : Int) m).length) (byts (k : Int) m).length (at_ : Int)).S.Kind == 1) = true from rfl,cond_true,show Int.tmod (itE (F,n,qI k m,(byts (k : Int) m).length) (byts (k : Int) m).length (at_ : Int)).At 2 = Int.tmod (at_ : Int) 2 from rfl,hodd,cond_false,hL,Option.bind_some,Sum.elim_inr]
  simp only
  rw [show ((itE (F,n,qI k m,(byts (k : Int) m).length) (byts (k : Int) m).length (at_ : Int)).S.Kind == 1) = true from rfl,cond_true,show (itE (F,n,qI k m,(byts (k : Int) m).length) (byts (k : Int) m).length (at_ : Int)).S.Op = (k : Int) from rfl]
  have hi : Z1 (k : Int) _ ((ks k).map fun K => vK K (K.val (m : Int)) (at_ : Int)) = _ := hi
  rw [hi]; rfl
 ·rw [hq] at hev
  rw [hq,hbs]
  have hL := QfD w (itE (F,n,qD 4 v,[v / 256,v % 256].length) [v / 256,v % 256].length (at_ : Int)) (fun _ => v) (by show 1 ≤ 100; decide) rfl (by
   intro a ha
   have ha : a ∈ [(⟨-1,(X3.num v).t⟩ : Qj)] := ha
   rcases List.mem_singleton.1 ha with rfl
   exact .inr ⟨by show (-1 : Int) < 0; decide,ev_num v _⟩) 1 0 [] rfl (by simp)
  have hL : Jz ⟨[],0,w,itE (F,n,qD 4 v,[v / 256,v % 256].length) [v / 256,v % 256].length (at_ : Int),[]⟩ = some (.inr ⟨w,itE (F,n,qD 4 v,[v / 256,v % 256].length) [v / 256,v % 256].length (at_ : Int),[v]⟩) := hL
  have hd := Qr6 (v := v) (n := 2) (lo := -32768) (hi := 65535) (by omega) (by omega) (rb_2 hv)
  rw [Wo.eq]; unfold Z2
  rw [show ((itE (F,n,qD 4 v,[v / 256,v % 256].length) [v / 256,v % 256].length (at_ : Int)).S.Kind == 1) = false from rfl,cond_false,show ((itE (F,n,qD 4 v,[v / 256,v % 256].length) [v / 256,v % 256].length (at_ : Int)).S.Kind == 2) = false from rfl,cond_false,hL,Option.bind_some,Sum.elim_inr]
  simp only
  rw [show ((itE (F,n,qD 4 v,[v / 256,v % 256].length) [v / 256,v % 256].length (at_ : Int)).S.Kind == 1) = false from rfl,cond_false,show ((itE (F,n,qD 4 v,[v / 256,v % 256].length) [v / 256,v % 256].length (at_ : Int)).S.Kind == 2) = false from rfl,cond_false,show ((itE (F,n,qD 4 v,[v / 256,v % 256].length) [v / 256,v % 256].length (at_ : Int)).S.Kind == 3) = false from rfl,cond_false,show ((itE (F,n,qD 4 v,[v / 256,v % 256].length) [v / 256,v % 256].length (at_ : Int)).S.Kind == 4) = true from rfl,cond_true,hd]; rfl
 ·rw [hq] at hev
  rw [hq,hbs]
  have hL := QfD w (itE (F,n,qD 3 v,[v].length) [v].length (at_ : Int)) (fun _ => v) (by show 1 ≤ 100; decide) rfl (by
   intro a ha
   have ha : a ∈ [(⟨-1,(X3.num v).t⟩ : Qj)] := ha
   rcases List.mem_singleton.1 ha with rfl
   exact .inr ⟨by show (-1 : Int) < 0; decide,ev_num v _⟩) 1 0 [] rfl (by simp)
  have hL : Jz ⟨[],0,w,itE (F,n,qD 3 v,[v].length) [v].length (at_ : Int),[]⟩ = some (.inr ⟨w,itE (F,n,qD 3 v,[v].length) [v].length (at_ : Int),[v]⟩) := hL
  have hd := Qr6 (v := v) (n := 1) (lo := -128) (hi := 255) (by omega) (by omega) (rb_1 hv)
  rw [Wo.eq]; unfold Z2
  rw [show ((itE (F,n,qD 3 v,[v].length) [v].length (at_ : Int)).S.Kind == 1) = false from rfl,cond_false,show ((itE (F,n,qD 3 v,[v].length) [v].length (at_ : Int)).S.Kind == 2) = false from rfl,cond_false,hL,Option.bind_some,Sum.elim_inr]
  simp only
  rw [show ((itE (F,n,qD 3 v,[v].length) [v].length (at_ : Int)).S.Kind == 1) = false from rfl,cond_false,show ((itE (F,n,qD 3 v,[v].length) [v].length (at_ : Int)).S.Kind == 2) = false from rfl,cond_false,show ((itE (F,n,qD 3 v,[v].length) [v].length (at_ : Int)).S.Kind == 3) = true from rfl,cond_true,hd]; rfl
end Go.Ab
set_option maxRecDepth 100000
namespace Go.Ab
inductive Em : List En → List Pc → Prop
 | nil : Em [] []
 | cons (F : ByteArray) (n : Int) (p : Pc) (es ps) : Em es ps → Em ((F,n,p.q,p.bs.length) :: es) (p :: ps)
theorem Em.append {es es' : List En} {ps ps' : List Pc} (h : Em es ps) (h' : Em es' ps') : Em (es ++ es') (ps ++ ps') := by
 induction h with
 | nil => exact h'
 | cons F n p es ps _ ih => exact .cons F n p _ _ ih
theorem em_P (F : ByteArray) : ∀ (g : List Pc) (n : Nat),Em (entP F n g) g
 | [],_ => .nil
 | p :: g,n => .cons F _ p _ _ (em_P F g (n + 1))
theorem em_G : ∀ (G : List (List Pc)) (i : Nat),Em (entG i G) G.flatten
 | [],_ => .nil
 | g :: G,i => (em_P (nmF i) g 0).append (em_G G (i + 1))
theorem em_sum {es : List En} {ps : List Pc} (h : Em es ps) : sumE es = (ps.flatMap (·.bs)).length := by
 induction h with
 | nil => rfl
 | cons F n p es ps _ ih => rw [sumE,ih,List.flatMap_cons,List.length_append]
theorem okE_of {p : Pc} (h : okP p) (F : ByteArray) (n : Int) : okE (F,n,p.q,p.bs.length) := by
 obtain ⟨_,_,_,hk⟩ := h
 rcases hk with ⟨k,m,hk,hm,he,hq,hbs⟩ | ⟨v,hv,hq,hbs⟩ | ⟨v,hv,hq,hbs⟩
 ·refine .inl ⟨by show p.q.1 = 1; rw [hq]; rfl,?_⟩
  show YH p.q.2.1 = some ((p.bs.length : Nat) : Int)
  rw [hq,hbs,Qfz]
  obtain ⟨_,_,_,h3,_⟩ := Qis hk
  exact h3
 ·exact .inr (.inl ⟨by show p.q.1 = 4; rw [hq]; rfl,by show p.q.2.2.2.length = 1; rw [hq]; rfl,by show p.bs.length = 2; rw [hbs]; rfl⟩)
 ·exact .inr (.inr ⟨by show p.q.1 = 3; rw [hq]; rfl,by show p.q.2.2.2.length = 1; rw [hq]; rfl,by show p.bs.length = 1; rw [hbs]; rfl⟩)
theorem em_ok {es : List En} {ps : List Pc} (h : Em es ps) (hp : ∀ p ∈ ps,okP p) : ∀ e ∈ es,okE e := by
 induction h with
 | nil => intro e he; cases he
 | cons F n p es ps _ ih =>
  intro e he
  rcases List.mem_cons.1 he with rfl | he
  ·exact okE_of (hp p (by simp)) F n
  ·exact ih (fun x hx => hp x (by simp [hx])) e he
theorem Qyj (D : List Q5) {es : List En} {ps : List Pc} (h : Em es ps) : ∀ (A : List Qf) (at_ : Nat) (b : List Int),(∀ p ∈ ps,okP p) → evP ps → (ps ≠ [] → at_ % 2 = 0) → b.length = at_ → A.length + es.length ≤ 100000 → at_ + sumE es ≤ 100000 →
  XG ⟨[],((A.length : Nat) : Int),⟨[],A ++ laidE at_ es,D⟩,b⟩ = some ⟨[],⟨[],A ++ laidE at_ es,D⟩,b ++ ps.flatMap (·.bs)⟩ := by
 induction h with
 | nil =>
  intro A at_ b _ _ _ _ _ _
  simp only [laidE]
  rw [XG.eq]; unfold SI
  simp only
  rw [end_lt]; simp
 | cons F n p es ps hm ih =>
  intro A at_ b hp hev h2 hb hl hs
  simp only [List.length_cons] at hl
  rw [sumE] at hs
  have hs : at_ + (p.bs.length + sumE es) ≤ 100000 := hs
  have hl1 := Qyi (hp p (by simp)) F n at_ (by omega) (fun _ => h2 (by simp)) ⟨[],A ++ itE (F,n,p.q,p.bs.length) p.bs.length (at_ : Int) :: laidE (at_ + p.bs.length) es,D⟩
  have h7 : ((itE (F,n,p.q,p.bs.length) p.bs.length (at_ : Int)).S.Kind == 7) = false := beq_eq_false_iff_ne.2 (by show p.q.1 ≠ 7; have := QcP (okE_of (hp p (by simp)) F n); simp only at this; omega)
  have hev' : evP ps := by
   cases ps with
   | nil => trivial
   | cons q l => exact hev.2
  have h2' : ps ≠ [] → (at_ + p.bs.length) % 2 = 0 := fun hne => by
   cases ps with
   | nil => exact absurd rfl hne
   | cons q l => have := hev.1; have := h2 (by simp); omega
  have ih := ih (A ++ [itE (F,n,p.q,p.bs.length) p.bs.length (at_ : Int)]) (at_ + p.bs.length) (b ++ p.bs) (fun x hx => hp x (by simp [hx])) hev' h2' (by rw [List.length_append,hb]) (by rw [List.length_append,List.length_singleton]; omega) (by omega)
  have hL2 : Yl ⟨[],((A.length : Nat) : Int),p.bs,⟨[],A ++ itE (F,n,p.q,p.bs.length) p.bs.length (at_ : Int) :: laidE (at_ + p.bs.length) es,D⟩,b⟩ = some ⟨[],((A.length : Nat) : Int),p.bs,⟨[],A ++ itE (F,n,p.q,p.bs.length) p.bs.length (at_ : Int) :: laidE (at_ + p.bs.length) es,D⟩,b⟩ := by
   rw [Yl.eq]; unfold QdN
   simp only
   rw [mid_in,cond_true,Zh,Option.bind_some,show (itE (F,n,p.q,p.bs.length) p.bs.length (at_ : Int)).At = (at_ : Int) from rfl,decide_eq_false (show ¬ ((b.length : Nat) : Int) < (at_ : Int) by omega)]; rfl
  simp only [laidE]
  rw [XG.eq]; unfold SI
  simp only
  rw [mid_lt,cond_true,mid_in,cond_true,Zh,Option.bind_some,hl1,Option.bind_some]
  simp only
  rw [show ((0 : Int) != 0) = false from rfl,cond_false,hL2,Option.bind_some]
  simp only
  rw [show decide ((b.length + p.bs.length) * 1 ≤ most) = true from decide_eq_true (by show _ * 1 ≤ 140737488355328; omega),cond_true,mid_in,cond_true,Zh,Option.bind_some,h7,cond_false,Option.bind_some,Sum.elim_inl,FG A (itE (F,n,p.q,p.bs.length) p.bs.length (at_ : Int)) (by omega),EE A (itE (F,n,p.q,p.bs.length) p.bs.length (at_ : Int)) (laidE (at_ + p.bs.length) es),ih,List.flatMap_cons,List.append_assoc b]
theorem Qrd (b : List Int) (hb : U8 b) (hl : b.length ≤ 4096) (hf : (fragsV b).length ≤ 20) : XL (fragsV b) [] = some (b,[]) := by
 obtain ⟨G,g1,g2,g3,g4⟩ := Qvc b hb
 have hem := em_G G 0
 have hsum : sumE (entG 0 G) = b.length := by rw [em_sum hem,← g2]
 have hGl : G.length ≤ 20 := by rw [g1,QeE,List.length_map] at hf; exact hf
 have hok := em_ok hem g3
 have hbs : ∀ p ∈ G.flatten,1 ≤ p.bs.length := by
  intro p hp
  obtain ⟨_,_,_,hk⟩ := g3 p hp
  rcases hk with ⟨k,m,hk,hm,he,hq,hbs⟩ | ⟨v,hv,hq,hbs⟩ | ⟨v,hv,hq,hbs⟩
  ·have := Qfz k m; rw [hbs]; unfold sz at this; split at this <;> omega
  ·rw [hbs]; simp
  ·rw [hbs]; simp
 have hcount : ∀ l : List Pc,(∀ p ∈ l,1 ≤ p.bs.length) → l.length ≤ (l.flatMap (·.bs)).length := by
  intro l
  induction l with
  | nil => intro _; simp
  | cons p l ih =>
   intro h
   have h1 := h p (by simp)
   have h2 := ih fun x hx => h x (by simp [hx])
   rw [List.flatMap_cons,List.length_append,List.length_cons]; omega
 have hfl : G.flatten.length ≤ 4096 := by have := hcount _ hbs; rw [← g2] at this; omega
 have hel : (entG 0 G).length ≤ 4096 := by rw [Qqf]; exact hfl
 have r1 := Qlx G [] [] g3 (by simp; omega) (by simp only [List.length_nil]; omega)
 have r1 : Ur ⟨frG 0 (G.map txP),0,⟨[],[],[]⟩⟩ = some ⟨[],(entG 0 G).map (itE · 0 0),[]⟩ := r1
 have r1 : Xm (fragsV b) ⟨[],[],[]⟩ = some ⟨[],(entG 0 G).map (itE · 0 0),[]⟩ := by
  rw [Xm.eq]; unfold Sl
  rw [g1,r1]; rfl
 have r2 := Qw3 (entG 0 G) [] (by omega) hok
 have r3 := Qw4 (entG 0 G) [] (by omega) hok
 have r4 := lay_eq (entG 0 G) [] (by omega) (by omega) hok
 have r5 := Qyj [] hem [] 0 [] g3 g4 (fun _ => rfl) rfl (by simp only [List.length_nil]; omega) (by omega)
 have r5 : XG ⟨[],0,⟨[],laidE 0 (entG 0 G),[]⟩,[]⟩ = some ⟨[],⟨[],laidE 0 (entG 0 G),[]⟩,b⟩ := by rw [g2] at *; exact r5
 have ra : E4 (fragsV b) [] = some (b,[],⟨[],laidE 0 (entG 0 G),[]⟩) := by
  rw [E4.eq]; unfold QjU
  rw [r1,Option.bind_some]
  show (bif true then _ else _) = _
  rw [cond_true,r2,Option.bind_some]
  show (bif true then _ else _) = _
  rw [cond_true,r3,Option.bind_some]
  show (bif false then _ else _) = _
  rw [cond_false,r4,Option.bind_some]
  show (bif false then _ else _) = _
  rw [cond_false]
  simp only
  rw [r5]; rfl
 rw [XL.eq]; unfold Qa0
 rw [ra]; rfl
theorem Qqg (l : List (List Int)) (h2 : l.length = 2) (hl : ∀ b ∈ l,U8 b ∧ b.length ≤ 8192) : ∀ (g i : Nat),g + i = 2 → UB ⟨l,(i : Int)⟩ = some (.inr ())
 | 0,i,hg => by
  rw [UB.eq]; unfold GN
  simp only
  rw [decide_eq_false (show ¬ (i : Int) < 2 by omega)]; rfl
 | g + 1,i,hg => by
  have hi : i < l.length := by omega
  have g1 : l[Int.toNat (i : Int)]? = some l[i] := by rw [Int.toNat_natCast,List.getElem?_eq_getElem hi]
  obtain ⟨hu,hlen⟩ := hl l[i] (List.getElem_mem hi)
  have ih := Qqg l h2 hl g (i + 1) (by omega)
  have ih : UB ⟨l,(i : Int) + 1⟩ = _ := ih
  have fin : ∀ z,z = (some (.inl (Jq.mk l (w64 ((i : Int) + 1)))) : Option (Jq ⊕ (Bool ⊕ Unit))) → z.bind (Sum.elim UB some) = some (.inr ()) := by
   rintro z rfl
   rw [Option.bind_some,Sum.elim_inl,w64_in (by omega) (by omega),ih]
  rw [UB.eq]; unfold GN
  refine fin _ ?_
  simp only
  rw [decide_eq_true (show (i : Int) < 2 by omega),cond_true,decide_eq_true (show 0 ≤ (i : Int) by omega),cond_true,g1,Option.bind_some,Qtx _ hu hlen,Option.bind_some]
  by_cases c1 : ((l[i].length : Nat) : Int) > 4096
  ·rw [decide_eq_true c1,cond_true]
  rw [decide_eq_false c1,cond_false]
  by_cases c2 : (((fragsV l[i]).length : Nat) : Int) > 20
  ·rw [decide_eq_true c2,cond_true]
  rw [decide_eq_false c2,cond_false,Qrd _ hu (by omega) (by omega),Option.bind_some]
  simp only
  rw [show ((((([] : List Q5).length : Nat) : Int)) != 0) = false from rfl,cond_false,Option.bind_some,Option.bind_some,Xb.2 rfl]; rfl
theorem Qly (ops ns raw : List Int) (w : ops.length ≤ maxLen ∧ ∀ y ∈ ops,IntKind.i64.min ≤ y ∧ y ≤ IntKind.i64.max) (w1 : ns.length ≤ maxLen ∧ ∀ y ∈ ns,IntKind.i64.min ≤ y ∧ y ≤ IntKind.i64.max) (w2 : raw.length ≤ maxLen ∧ ∀ y ∈ raw,IntKind.u8.min ≤ y ∧ y ≤ IntKind.u8.max) : Ye ops ns raw = some true := by
 rw [Ye.eq]; unfold QcJ
 rw [Qop,Option.bind_some,show (!true) = false from rfl,cond_false]
 rcases Nat.lt_or_ge 100 raw.length with h | h
 ·rw [decide_eq_true (show ((raw.length : Nat) : Int) > 100 by omega)]; rfl
 rw [decide_eq_false (show ¬ ((raw.length : Nat) : Int) > 100 by omega),cond_false]
 have hu : U8 raw := fun x hx => by
  have := w2.2 x hx
  have a : (0 : Int) ≤ x := this.1
  have b : x ≤ 255 := this.2
  exact ⟨a,by omega⟩
 obtain ⟨b,e,hb,hl,_⟩ := QwO ops ns raw (by omega) hu
 have hbl : b.length ≤ 8192 := by
  have : 30 * (4 + raw.length) ≤ 30 * 104 := Nat.mul_le_mul (Nat.le_refl _) (by omega)
  omega
 have lp := Qqg [b,raw] rfl (by
  intro x hx
  simp only [List.mem_cons,List.not_mem_nil,or_false] at hx
  rcases hx with rfl | rfl
  ·exact ⟨hb,hbl⟩
  ·exact ⟨hu,by omega⟩) 2 0 rfl
 have lp : UB ⟨[b,raw],0⟩ = _ := lp
 rw [e,Option.bind_some,lp]; rfl
end Go.Ab
namespace Go.Proofs.YtblfhkldljfhiaaGreatDoor
open Go Go.Ab Go.ChangeShapes Go.WideShapes Go.ChangeAt Go.RowKit
open Go.ChangeMaps (open_string shut_string)
theorem repL_one {c : Ctx} {w : World} {a : AV} {v : Value} (h : RepL c w [a] [v]) : Rep c w a v := by cases h; assumption
theorem laidOut : laidOutB Tryz.prog = true := by kernel_rfl
theorem own : ownKnob Tryz.prog.godebug = none := by kernel_rfl
theorem door_met (os : Os) (args : Array Value) : laidMetH Tryz.prog [("math/bits.deBruijn32tab",Rows.laid_math_bits_deBruijn32tab),("math/bits.deBruijn64tab",Rows.laid_math_bits_deBruijn64tab),("internal/strconv.uint64pow10",Rows.laid_internal_strconv_uint64pow10),("unicode.White_Space",Rows.laid_unicode_White_Space),("strings.asciiSpace",Rows.laid_strings_asciiSpace)] ((World.doorLaid Tryz.prog 96 os).forCall (fun _ _ => 0) ⟨#[],args,[]⟩).memory :=
 laidMetH_of_parts3 (fuel := 8) (laidMet_of_run' 8 (by kernel_rfl) (by kernel_rfl)) (by kernel_rfl) (by kernel_rfl)
namespace disBack
set_option maxRecDepth 100000 in
theorem lifted (os : Os) (started : os.Started) (H : Type) (enc : TypeId × Value → H) :
  ReturnsInHanded {} Tryz.checked os 3 .any (fun w args => (Rows.disBackSpec.pre enc Tryz.prog Tryz.f3 [] false w args ∧ laidMetH Tryz.prog [("math/bits.deBruijn32tab",Rows.laid_math_bits_deBruijn32tab),("math/bits.deBruijn64tab",Rows.laid_math_bits_deBruijn64tab),("internal/strconv.uint64pow10",Rows.laid_internal_strconv_uint64pow10),("unicode.White_Space",Rows.laid_unicode_White_Space),("strings.asciiSpace",Rows.laid_strings_asciiSpace)] w) ∧ sizedMet enc Tryz.prog Tryz.f3 (OpenSpec.ofChange Rows.disBackSpec) false w args) (Rows.disBackSpec.post enc Tryz.prog Tryz.f3 false true false false) := by
 refine QlM (C := Tryz.checked) (X := fun w _ => laidMetH Tryz.prog [("math/bits.deBruijn32tab",Rows.laid_math_bits_deBruijn32tab),("math/bits.deBruijn64tab",Rows.laid_math_bits_deBruijn64tab),("internal/strconv.uint64pow10",Rows.laid_internal_strconv_uint64pow10),("unicode.White_Space",Rows.laid_unicode_White_Space),("strings.asciiSpace",Rows.laid_strings_asciiSpace)] w) (fun _ _ _ hh h => h.of_heap hh) own started (by kernel_rfl) Tryz.func3
  (ChangeSpec.witness_shaped (enc := enc) (C := Tryz.checked) (os := os) (X := fun w _ => laidMetH Tryz.prog [("math/bits.deBruijn32tab",Rows.laid_math_bits_deBruijn32tab),("math/bits.deBruijn64tab",Rows.laid_math_bits_deBruijn64tab),("internal/strconv.uint64pow10",Rows.laid_internal_strconv_uint64pow10),("unicode.White_Space",Rows.laid_unicode_White_Space),("strings.asciiSpace",Rows.laid_strings_asciiSpace)] w) false (World.doorLaid Tryz.prog 96 os) #[.slice none 0 0,.slice none 0 0,.slice none 0 0] 8 rfl (World.shaped_of_RefB (by kernel_rfl) (by kernel_rfl)) (by kernel_rfl) (by kernel_rfl) (by kernel_rfl) (door_met os _)) ?_
 intro W base args ds gs before hval0 hW hcnd hsz0 hL _
 have hT := Qxq hL
 have hW' := hW
 obtain ⟨p,q,hA0,hV,rfl,hfz,hnd⟩ := hW
 have hA : DataW.TrodAll enc Tryz.prog W 0 (fun _ => true) true Tryz.f3.params.toList args.toList ds p := hA0
 rw [Tryz.params3] at hA
 obtain ⟨v0,vs0,d0,ds0,p0,q0,hargs,rfl,rfl,h0,r0⟩ := trodAll_cons hA
 obtain ⟨v1,vs1,d1,ds1,p1,q1,rfl,rfl,rfl,h1,r1⟩ := trodAll_cons r0
 obtain ⟨v2,vs2,d2,ds2,p2,q2,rfl,rfl,rfl,h2,r2⟩ := trodAll_cons r1
 obtain ⟨rfl,rfl,rfl⟩ := trodAll_nil r2
 obtain rfl : args = #[v0,v1,v2] := by cases args; simp_all
 obtain ⟨rfl,rfl⟩ := trodVars_none hV
 obtain ⟨u0,len0,cap0,rfl⟩ := okWide_slice Tryz.underlying22 (hval0 0 22 v0 rfl rfl)
 obtain ⟨a0,w0,y0⟩ := QlI (enc := enc) (P := Tryz.prog) (W := W) (fun fuel => (show Rd enc Tryz.prog W fuel 22 (fun l : List Int => [.sl (l.map Qkn)]) (fun l => l.length ≤ maxLen ∧ ∀ y ∈ l,IntKind.i64.min ≤ y ∧ y ≤ IntKind.i64.max) from by
   cases fuel with
   | zero => exact QlH _ _
   | succ m => exact QjA (s := 1) Tryz.underlying22 (by kernel_rfl) (by decide) (fun _ => rfl) (rd_int Tryz.underlying3 m))) h0
 replace y0 := repL_one (show RepL (oldCtx W) W [_] [_] from y0)
 obtain ⟨u1,len1,cap1,rfl⟩ := okWide_slice Tryz.underlying22 (hval0 1 22 v1 rfl rfl)
 obtain ⟨a1,w1,y1⟩ := QlI (enc := enc) (P := Tryz.prog) (W := W) (fun fuel => (show Rd enc Tryz.prog W fuel 22 (fun l : List Int => [.sl (l.map Qkn)]) (fun l => l.length ≤ maxLen ∧ ∀ y ∈ l,IntKind.i64.min ≤ y ∧ y ≤ IntKind.i64.max) from by
   cases fuel with
   | zero => exact QlH _ _
   | succ m => exact QjA (s := 1) Tryz.underlying22 (by kernel_rfl) (by decide) (fun _ => rfl) (rd_int Tryz.underlying3 m))) h1
 replace y1 := repL_one (show RepL (oldCtx W) W [_] [_] from y1)
 obtain ⟨u2,len2,cap2,rfl⟩ := okWide_slice Tryz.underlying23 (hval0 2 23 v2 rfl rfl)
 obtain ⟨a2,w2,y2⟩ := QlI (enc := enc) (P := Tryz.prog) (W := W) (fun fuel => (show Rd enc Tryz.prog W fuel 23 (fun l : List Int => [.sl (l.map C_u8)]) (fun l => l.length ≤ maxLen ∧ ∀ y ∈ l,IntKind.u8.min ≤ y ∧ y ≤ IntKind.u8.max) from by
   cases fuel with
   | zero => exact QlH _ _
   | succ m => exact QjA (s := 1) Tryz.underlying23 (by kernel_rfl) (by decide) (fun _ => rfl) (rd_int Tryz.underlying5 m))) h2
 replace y2 := repL_one (show RepL (oldCtx W) W [_] [_] from y2)
 obtain ⟨k,hk⟩ := Ye.run a0 a1 a2 (Qly a0 a1 a2 w0 w1 w2)
 rw [Jw] at y0
 rw [Jw] at y1
 rw [YL] at y2
 have lt0 : ∀ x ∈ p0,x.block < W.heap.size := by obtain ⟨m,hm⟩ := h0; exact DataW.trod_lt m _ _ _ hm
 have lt1 : ∀ x ∈ p1,x.block < W.heap.size := by obtain ⟨m,hm⟩ := h1; exact DataW.trod_lt m _ _ _ hm
 have lt2 : ∀ x ∈ p2,x.block < W.heap.size := by obtain ⟨m,hm⟩ := h2; exact DataW.trod_lt m _ _ _ hm
 refine (QnA (T := told) (by kernel_rfl) ext_ok hk hT (.cons _ _ _ _ y0 (.cons _ _ _ _ y1 (.cons _ _ _ _ y2 .nil)))).mono fun e W' ⟨he,bel⟩ => ?_
 subst he
 exact ⟨_,rfl,_,_,_,[],_,[],hW',trodAll_mk1 (shut_bool Tryz.underlying4 _),(trodAll_cons_mk (Below.trod laidOut (by kernel_rfl) (of_decide_eq_true (by kernel_rfl)) h0 bel lt0) (trodAll_cons_mk (Below.trod laidOut (by kernel_rfl) (of_decide_eq_true (by kernel_rfl)) h1 bel lt1) (trodAll_cons_mk (Below.trod laidOut (by kernel_rfl) (of_decide_eq_true (by kernel_rfl)) h2 bel lt2) trodAll_mk0))),rfl,bel.frame _,fun h => by cases h⟩
theorem jf0 : (Rows.disBackRow.wf (OpenSpec.ofChange Rows.disBackSpec)) = true := by kernel_rfl
theorem jf1 : (laidOutB Tryz.prog) = true := by kernel_rfl
theorem jf2 : (mapsRowed Tryz.prog) = true := by kernel_rfl
theorem jf3 : (Tryz.f3.params.all (Tryz.prog.readableRec ·)) = true := by kernel_rfl
theorem jf4 : (namedTie Tryz.prog Rows.disBackRow.named Rows.disBackSpec.vars) = true := by kernel_rfl
theorem jf5 : ((Rows.disBackRow.stops == [])) = true := by kernel_rfl
theorem jf6 : ((Tryz.prog.stops == [])) = true := by kernel_rfl
theorem jf7 : ((Rows.disBackRow.knobs == [])) = true := by kernel_rfl
theorem jf8 : ((Tryz.prog.stopKnobs == [])) = true := by kernel_rfl
theorem jf9 : ((Rows.disBackRow.inPlace == Tryz.prog.inPlace 3)) = true := by kernel_rfl
theorem jf10 : ((Rows.disBackRow.unfollowed == Tryz.prog.unfollowed 3)) = true := by kernel_rfl
theorem jf11 : ((Rows.disBackRow.recurses == Tryz.prog.recurses 3)) = true := by kernel_rfl
theorem jf12 : ((Rows.disBackRow.named == Tryz.prog.varsNamed 3)) = true := by kernel_rfl
theorem jf13 : ((Rows.disBackRow.maps == (Tryz.f3.params.toList ++ Rows.disBackSpec.plain.varTypes Tryz.prog).any (Tryz.prog.mapsRec ·))) = true := by kernel_rfl
theorem jf14 : ((Rows.disBackRow.ifaces == (Tryz.f3.params.toList ++ Rows.disBackSpec.plain.varTypes Tryz.prog).any (Tryz.prog.ifacesRec ·))) = true := by kernel_rfl
theorem jf15 : ((Rows.disBackRow.mapsOut == Tryz.prog.mapsAmong Tryz.f3.resultTypes.toList)) = true := by kernel_rfl
theorem jf16 : ((Rows.disBackRow.loops == (Tryz.f3.params.toList ++ Rows.disBackSpec.plain.varTypes Tryz.prog).any (Tryz.prog.loopsFrom ·))) = true := by kernel_rfl
theorem jf17 : ((Rows.disBackRow.wideKeys == (Tryz.f3.params.toList ++ Rows.disBackSpec.plain.varTypes Tryz.prog ++ Tryz.f3.resultTypes.toList).any (Tryz.prog.wideKeysFrom ·))) = true := by kernel_rfl
theorem jf18 : (Rows.disBackSpec.vars.all (Tryz.prog.varReadable ·)) = true := by kernel_rfl
theorem jf19 : (Tryz.f3.resultTypes.all (fun t => Tryz.prog.readableRec t && decide (t < Tryz.prog.types.size))) = true := by kernel_rfl
theorem jf20 : ((Rows.disBackRow.ifacesOut == Tryz.f3.resultTypes.toList.any (Tryz.prog.ifacesRec ·))) = true := by kernel_rfl
theorem jf21 : ((Rows.disBackRow.loopsOut == Tryz.f3.resultTypes.toList.any (Tryz.prog.loopsFrom ·))) = true := by kernel_rfl
theorem jf22 : ((Rows.disBackRow.plainKeys == Tryz.prog.plainKeys)) = true := by kernel_rfl
theorem jf23 : (Rows.disBackRow.shortTexts.isNone) = true := by kernel_rfl
theorem jf24 : (Tryz.prog.stopsHeard) = true := by kernel_rfl
theorem jf25 : (Tryz.prog.mayEnter) = true := by kernel_rfl
theorem jf26 : ((Rows.disBackRow.lifted == Tryz.prog.liftsFinal)) = true := by kernel_rfl
theorem jf27 : ((Tryz.prog.make == some Rows.disBackRow.make)) = true := by kernel_rfl
theorem jf28 : ((Rows.disBackRow.kinds == (if Rows.disBackRow.domain.isEmpty then [] else Tryz.f3.params.toList.map fun t => match Tryz.prog.underlying t with | some (.int k) => some k | _ => none))) = true := by kernel_rfl
theorem jf29 : ((Rows.disBackRow.pinned == Rows.disBackRow.pinnedBy)) = true := by kernel_rfl
theorem jf30 : ((Rows.disBackRow.veiled == (Tryz.f3.params.toList ++ Rows.disBackSpec.plain.varTypes Tryz.prog ++ Tryz.f3.resultTypes.toList).any (Tryz.prog.veiledRec ·))) = true := by kernel_rfl
theorem jf31 : (Rows.disBackRow.veiledFits Tryz.prog Tryz.f3.params.toList (Tryz.f3.params.toList ++ Rows.disBackSpec.plain.varTypes Tryz.prog ++ Tryz.f3.resultTypes.toList)) = true := by kernel_rfl
theorem and2 {a b : Bool} (h : a = true) (k : b = true) : (a && b) = true := by rw [h,k]; rfl
set_option maxRecDepth 1000000 in
theorem jf : joinedFacts Tryz.prog 3 Tryz.f3 Rows.disBackSpec Rows.disBackRow = true := by
 delta joinedFacts
 exact (and2 (and2 (and2 (and2 (and2 (and2 (and2 (and2 (and2 (and2 (and2 (and2 (and2 (and2 (and2 (and2 (and2 (and2 (and2 (and2 (and2 (and2 (and2 (and2 (and2 (and2 (and2 (and2 (and2 (and2 (and2 jf0 jf1) jf2) jf3) jf4) jf5) jf6) jf7) jf8) jf9) jf10) jf11) jf12) jf13) jf14) jf15) jf16) jf17) jf18) jf19) jf20) jf21) jf22) jf23) jf24) jf25) jf26) jf27) jf28) jf29) jf30) jf31)
theorem cfw : Rows.disBackRow.wfByText (OpenSpec.ofChange Rows.disBackSpec) = true := by kernel_rfl
theorem cfn : Tryz.prog.funcNamed Tryz.f3.name = some 3 := by kernel_rfl
theorem cfl : true = Tryz.prog.looks [] := by kernel_rfl
theorem cfs : ([22,22,23].all fun u => !Tryz.prog.wantsStandIn u) = true := by kernel_rfl
theorem cfg : false = Rows.disBackRow.goesBy Tryz.prog := by kernel_rfl
theorem over : Rows.disBackRow.holds Tryz.pinned (OpenSpec.ofChange Rows.disBackSpec) :=
 OpenClaim.holds_of_wide 3 Tryz.f3 rfl rfl rfl rfl rfl rfl rfl ⟨rfl,rfl,rfl,rfl,rfl⟩ rfl rfl rfl rfl rfl (by kernel_rfl) Tryz.func3 jf
  (of_decide_eq_true (by kernel_rfl)) (by unfold Func.isWrapper; first | (rw [if_pos (by decide +kernel)]; kernel_rfl) | (rw [if_neg (by decide +kernel)]; exact ⟨rfl,rfl⟩))
  (fun os started H enc _ => lifted os started H enc)
theorem proved : Rows.DisBackSaid := over
theorem card : Rows.DisBackCardSaid :=
 Claim7.holds_tied_plain_at .later [] [.data,.data,.data,.listed,.data] true (true,"eddddd2f21bf15afe128c8206f0bde60fb9797faf78c19398001fce18d007a2a") true
  proved (fun _ h => by cases h) cfw (fun _ h => by cases h) disBack_row_tie rfl ⟨rfl,rfl⟩ (by kernel_rfl) rfl
  (fun f fn hf hfn => by
   obtain rfl : f = 3 := Option.some.inj ((show Tryz.prog.funcNamed Tryz.f3.name = some 3 from cfn).symm.trans hf) |>.symm
   obtain rfl : fn = Tryz.f3 := (Option.some.inj (Tryz.func3.symm.trans hfn)).symm
   exact ⟨cfl,fun j t ht => by
    rw [Tryz.params3] at ht
    have hm : t ∈ [22,22,23] := by simpa using Array.mem_of_getElem? ht
    have hall : ([22,22,23].all fun u => !Tryz.prog.wantsStandIn u) = true := cfs
    exact (show Tryz.prog.wantsStandIn t = false by simpa using List.all_eq_true.1 hall t hm)⟩)
  cfg
end disBack
theorem disBack_holds : Rows.DisBackCardSaid := disBack.card
end Go.Proofs.YtblfhkldljfhiaaGreatDoor
