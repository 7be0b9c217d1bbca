/- DisBack: part 1 of the proof that, whatever the input, the law returns true and the input reads as it did; its conditions are those of the given row. -/
import Derived.Test.YtblfhkldljfhiaaGreatDoorZDisBack0
import Derived.LoopN
import Derived.ScopeJumps
import Derived.Below
import Derived.KernelRfl
import Derived.Lib.ItoaNum
import Derived.ChangeArms
import Derived.Lib.LaidTab
import Derived.Lib.Fields
import Derived.Laws.OwnMore
import Derived.Lib.SmallJoins
import Derived.Lib.IndexMore
import Derived.Lib.Join
import Derived.Handed
import Derived.Lib.Bytealg
import Derived.Lib.Split
import Derived.Lib.SplitLaws
import Derived.Lib.IndexBytes
import Derived.Lib.SlTrimSet
import Derived.Lib.Atoi
set_option linter.unusedVariables false
set_option linter.unusedSimpArgs false
namespace Go.Ab
open M

section
variable {T : Told} {P : Program} {B : Base} {c : Ctx} {S S' : St} {a : Act} {w : World}

theorem SB : ∀ (n : Nat) (H : Heap) (p acc : List Nat),acc.Nodup → (reach n H p acc).Nodup
 | 0,_,_,acc,h => h
 | _ + 1,_,[],acc,h => h
 | n + 1,H,i :: p,acc,h => by
  simp only [reach]
  split
  ·exact SB n H p acc h
  ·rename_i hc
   split
   ·refine SB n H _ _ ?_
    rw [List.nodup_append]
    refine ⟨h,by simp,fun x hx y hy e => ?_⟩
    simp only [List.mem_singleton] at hy
    subst hy; subst e
    exact hc (by simpa using hx)
   ·exact SB n H p acc h
def pk (l : List (Option Nat)) (k : Nat) : Option Nat := (l[k]?).bind fun o => o
theorem Qgv : ∀ {l : List (Option Nat)} {i k j : Nat},idxOf l i k = some j → k ≤ j ∧ l[j - k]? = some (some i)
 | [],_,_,_,h => by simp [idxOf] at h
 | x :: l,i,k,j,h => by
  simp only [idxOf] at h
  split at h
  ·rename_i e; cases h; subst e; exact ⟨Nat.le_refl _,by simp⟩
  ·obtain ⟨h1,h2⟩ := Qgv h
   refine ⟨by omega,?_⟩
   rw [show j - k = (j - (k + 1)) + 1 from by omega]
   simpa using h2
theorem Qgw (f : Ob → Ob) (H : Heap) : ∀ (l : List (Option Nat)) (k j : Nat),get j (pickH f H k l) = if k ≤ j then (pk l (j - k)).bind fun i => (get i H).map f else none
 | [],k,j => by simp [pickH,get,pk]
 | i :: l,k,j => by
  have ih := Qgw f H l (k + 1) j
  have step : (if k + 1 ≤ j then (pk l (j - (k + 1))).bind fun i => (get i H).map f else none) = if k = j then none else if k ≤ j then (pk (i :: l) (j - k)).bind fun i => (get i H).map f else none := by
   by_cases e : k = j
   ·subst e; rw [if_neg (by omega),if_pos rfl]
   ·by_cases e2 : k ≤ j
    ·rw [if_pos (by omega),if_neg e,if_pos e2,show j - k = (j - (k + 1)) + 1 from by omega]; simp [pk]
    ·rw [if_neg (by omega),if_neg e,if_neg e2]
  simp only [pickH]
  split
  ·rename_i o ho
   simp only [get,ih,step]
   by_cases e : j = k
   ·subst e
    obtain ⟨i',rfl,ho2⟩ := Option.bind_eq_some_iff.1 ho
    simp [pk,ho2]
   ·rw [if_neg e,if_neg (Ne.symm e)]
  ·rename_i ho
   rw [ih,step]
   by_cases e : k = j
   ·subst e
    cases i with
    | none => simp [pk]
    | some i => simp only [Option.bind_some] at ho; simp [pk,ho]
   ·rw [if_neg e]

theorem QeQ (full : Bool) : ∀ (l : List Nat) {c : Ctx} {H : Heap},Inv B c H w → ∃ c' H',Inv B c' H' w ∧ Later c w c' w ∧ c'.ι = c.ι ∧ c'.K = c.K ∧ ∀ id,get id H' = if id ∈ l then (get id H).map (freezeO full) else get id H
 | [],c,H,I => ⟨c,H,I,.refl _ _,rfl,rfl,fun id => by simp⟩
 | i :: l,c,H,I => by
  obtain ⟨c1,H1,I1,L1,e1,k1,g1⟩ := QeQ full l I
  cases full with
  | true =>
   refine ⟨c1,H1,I1,L1,e1,k1,fun id => ?_⟩
   have hid : ∀ o : Option Ob,o.map (freezeO true) = o := fun o => by
    cases o with
    | none => rfl
    | some o => cases o <;> simp [freezeO]
   rw [g1 id]
   simp only [hid]
   split <;> split <;> rfl
  | false =>
   by_cases hi : i ∈ l
   ·refine ⟨c1,H1,I1,L1,e1,k1,fun id => ?_⟩
    rw [g1 id]
    by_cases h : id ∈ l
    ·rw [if_pos h,if_pos (by simp [h])]
    ·rw [if_neg h,if_neg]
     simp only [List.mem_cons,not_or]
     exact ⟨fun e => h (e ▸ hi),h⟩
   ·cases hg : get i H with
    | none =>
     refine ⟨c1,H1,I1,L1,e1,k1,fun id => ?_⟩
     rw [g1 id]
     by_cases h : id = i
     ·subst h; rw [if_neg hi,if_pos (by simp),hg]; rfl
     ·simp [h]
    | some ob =>
     cases ob with
     | arr fz s rows =>
      have hg1 : get i H1 = some (.arr fz s rows) := by rw [g1 i,if_neg hi,hg]
      obtain ⟨c2,I2,L2,e2,k2⟩ := I1.freeze i fz s rows hg1
      refine ⟨c2,_,I2,L1.trans L2,e2.trans e1,k2.trans k1,fun id => ?_⟩
      rw [J2]
      by_cases h : id = i
      ·subst h; rw [if_pos rfl,if_pos (by simp),hg]; simp [freezeO]
      ·rw [if_neg h,g1 id]; simp [h]
     | box ks cs =>
      refine ⟨c1,H1,I1,L1,e1,k1,fun id => ?_⟩
      rw [g1 id]
      by_cases h : id = i
      ·subst h; rw [if_neg hi,if_pos (by simp),hg]; rfl
      ·simp [h]
     | iter s p =>
      refine ⟨c1,H1,I1,L1,e1,k1,fun id => ?_⟩
      rw [g1 id]
      by_cases h : id = i
      ·subst h; rw [if_neg hi,if_pos (by simp),hg]; rfl
      ·simp [h]
     | fs s p =>
      refine ⟨c1,H1,I1,L1,e1,k1,fun id => ?_⟩
      rw [g1 id]
      by_cases h : id = i
      ·subst h; rw [if_neg hi,if_pos (by simp),hg]; rfl
      ·simp [h]
def pickCtx (c : Ctx) (l : List (Option Nat)) : Ctx := { ι := fun k => (pk l k).bind c.ι,Z := c.Z,K := fun k => k < l.length }
theorem Qjw {l : List (Option Nat)} : Ren (idxOf l) c w (pickCtx c l) w where
 k id j _ h := by
  obtain ⟨_,h2⟩ := Qgv h
  exact (List.getElem?_eq_some_iff.1 h2).1
 ι id j _ h sh hs := by
  obtain ⟨_,h2⟩ := Qgv h
  simp only [Nat.sub_zero] at h2
  simp only [pickCtx,pk,h2,Option.bind_some] at hs
  exact hs
 z _ _ h := h
 cell _ _ _ := rfl
theorem QoF {H : Heap} (I : Inv B c H w) {l : List (Option Nat)} (hn : ∀ i j x,pk l i = some x → pk l j = some x → i = j) (hm : ∀ id,id < B.m → id < l.length ∧ ∀ x,pk l id = some x → x = id) {H' : Heap} (hH : ∀ k,get k H' = (pk l k).bind fun i => (get i H).map (renO (idxOf l))) : Inv B (pickCtx c l) H' w where
 dead k h := by
  rw [hH] at h
  simp only [pickCtx]
  cases e : pk l k with
  | none => rfl
  | some i =>
   rw [e] at h
   simp only [Option.bind_some,Option.map_eq_none_iff] at h ⊢
   exact I.dead i h
 obj k ob h := by
  rw [hH,Option.bind_eq_some_iff] at h
  obtain ⟨i,h1,h2⟩ := h
  obtain ⟨o,h3,rfl⟩ := Option.map_eq_some_iff.1 h2
  obtain ⟨sh,e1,e2⟩ := I.obj i o h3
  exact ⟨sh,by simp only [pickCtx,h1,Option.bind_some,e1],e2.ren Qjw fun _ _ => rfl⟩
 known id sh h := by
  simp only [pickCtx,Option.bind_eq_some_iff] at h
  obtain ⟨p,h1,_⟩ := h
  obtain ⟨_,h1,_⟩ := Option.bind_eq_some_iff.1 h1
  exact (List.getElem?_eq_some_iff.1 h1).1
 inj i j si sj g hi hj hsi hsj := by
  simp only [pickCtx,Option.bind_eq_some_iff] at hi hj
  obtain ⟨x,h1,h2⟩ := hi
  obtain ⟨y,h3,h4⟩ := hj
  have := I.inj x y si sj g h2 h4 hsi hsj
  subst this
  exact hn i j x h1 h3
 zlt := I.zlt
 zob b o hz id sh h hb := by
  simp only [pickCtx,Option.bind_eq_some_iff] at h
  obtain ⟨x,h1,h2⟩ := h
  obtain ⟨s,rows,h3,h4⟩ := I.zob b o hz x sh h2 hb
  refine ⟨s,rows,?_,h4⟩
  rw [hH,h1,Option.bind_some,h3]; rfl
 bnd id sh g h hg := by
  simp only [pickCtx,Option.bind_eq_some_iff] at h
  obtain ⟨x,h1,h2⟩ := h
  exact I.bnd x sh g h2 hg
 size := I.size
 os := I.os
 tape := I.tape
 output := I.output
 old := I.old
 zold := I.zold
 znew := I.znew
 pass id h := ⟨(hm id h).1,fun sh hs => by
  simp only [pickCtx,Option.bind_eq_some_iff] at hs
  obtain ⟨x,h1,h2⟩ := hs
  have := (hm id h).2 x h1
  subst this
  exact (I.pass x h).2 sh h2⟩
theorem QcT : ∀ (n : Nat) (H : Heap) (p acc : List Nat),∃ t,reach n H p acc = acc ++ t
 | 0,_,_,acc => ⟨[],by simp [reach]⟩
 | _ + 1,_,[],acc => ⟨[],by simp [reach]⟩
 | n + 1,H,i :: p,acc => by
  simp only [reach]
  split
  ·exact QcT n H p acc
  ·split
   ·rename_i o _
    obtain ⟨t,h⟩ := QcT n H (p ++ idsO o) (acc ++ [i])
    exact ⟨[i] ++ t,by rw [h,List.append_assoc]⟩
   ·exact QcT n H p acc
theorem QmK {m : Nat} {H : Heap} {p : List Nat} : ∀ id,id < m → id < (canonL m H p).length ∧ pk (canonL m H p) id = if isArr H id then none else some id := by
 intro id h
 refine ⟨by simp only [canonL,List.length_append,List.length_map,List.length_range]; omega,?_⟩
 simp only [canonL,pk]
 rw [List.getElem?_append_left (by simpa using h),List.getElem?_map,List.getElem?_range h]
 rfl
theorem QcU {m : Nat} {H : Heap} {p : List Nat} : ∀ id,id < m → id < (canonL m H p).length ∧ ∀ x,pk (canonL m H p) id = some x → x = id := by
 intro id h
 obtain ⟨h1,h2⟩ := QmK (H := H) (p := p) id h
 refine ⟨h1,fun x hx => ?_⟩
 rw [h2] at hx
 split at hx <;> cases hx
 rfl
theorem QiQ {m : Nat} {H : Heap} {p : List Nat} : ∀ i j x,pk (canonL m H p) i = some x → pk (canonL m H p) j = some x → i = j := by
 have hnd : (reach 64 H p ((List.range m).filter fun i => !isArr H i)).Nodup := SB _ _ _ _ (List.nodup_range.filter _)
 obtain ⟨t,ht⟩ := QcT 64 H p ((List.range m).filter fun i => !isArr H i)
 rw [ht] at hnd
 obtain ⟨_,hnd2,hnd3⟩ := List.nodup_append.1 hnd
 have form : ∀ i x,pk (canonL m H p) i = some x → (i < m ∧ x = i ∧ isArr H i = false) ∨ (m ≤ i ∧ t[i - m]? = some x) := by
  intro i x hx
  by_cases h : i < m
  ·have := (QmK (H := H) (p := p) i h).2
   rw [this] at hx
   split at hx
   ·cases hx
   ·rename_i hf; cases hx; exact .inl ⟨h,rfl,by simpa using hf⟩
  ·right
   refine ⟨by omega,?_⟩
   simp only [canonL,pk] at hx
   rw [List.getElem?_append_right (by simp; omega),ht,List.drop_left] at hx
   simp only [List.length_map,List.length_range,List.getElem?_map] at hx
   cases e : t[i - m]? with
   | none => rw [e] at hx; cases hx
   | some y => rw [e] at hx; simpa using hx
 intro i j x hi hj
 have cross : ∀ i j,(i < m ∧ x = i ∧ isArr H i = false) → (m ≤ j ∧ t[j - m]? = some x) → False := by
  rintro i j ⟨h1,rfl,h2⟩ ⟨_,h3⟩
  exact hnd3 x (by simp [List.mem_filter,h1,h2]) x (List.mem_of_getElem? h3) rfl
 rcases form i x hi with h | h <;> rcases form j x hj with h' | h'
 ·omega
 ·exact (cross i j h h').elim
 ·exact (cross j i h' h).elim
 ·have := (List.getElem?_inj (List.getElem?_eq_some_iff.1 h.2).1 hnd2).1 (h.2.trans h'.2.symm)
  omega
theorem Qgx {ks : List Nat} : ∀ {l : List (Nat × AV)} {t : Nat} {v : AV},get t (keepE ks l) = some v → ks.contains t = true → ∃ v',get t l = some v' ∧ v' = v
 | [],t,v,h,_ => by simp [keepE,get] at h
 | (x,u) :: l,t,v,h,hc => by
  simp only [keepE] at h
  simp only [get]
  split at h
  ·simp only [get] at h
   split at h
   ·rename_i e; rw [if_pos e]; exact ⟨u,rfl,by cases h; rfl⟩
   ·rename_i e; rw [if_neg e]; exact Qgx h hc
  ·rename_i hx
   have : t ≠ x := fun e => hx (e ▸ hc)
   rw [if_neg this]; exact Qgx h hc
theorem Qjx {ks : List Nat} : ∀ {l : List (Nat × AV)} {t : Nat} {v : AV},get t (keepE ks l) = some v → ks.contains t = true
 | [],t,v,h => by simp [keepE,get] at h
 | (x,u) :: l,t,v,h => by
  simp only [keepE] at h
  split at h
  ·rename_i hx
   simp only [get] at h
   split at h
   ·rename_i e; rw [e]; exact hx
   ·exact Qjx h
  ·exact Qjx h
theorem QoG (f : AV → AV) : ∀ (l : List (Nat × AV)) (t : Nat),get t (l.map fun (x,v) => (x,f v)) = (get t l).map f
 | [],t => rfl
 | (x,u) :: l,t => by
  simp only [List.map_cons,get]
  split
  ·rfl
  ·exact QoG f l t

theorem SRx.nil (h : SRx B S a w) (z : Nat) (ob : Ob) (hob : ∀ (c : Ctx) (w : World),ObRep c w (.arr (.slice none 0 0) z) ob) : ∃ c c',SR B c S a w ∧ (∀ j,c.K j → j < S.nx) ∧ Inv B c' (ins S.nx ob S.heap) w ∧ Later c w c' w ∧ (∀ j,c'.K j → j < S.nx + 1) ∧ Rep c' w (.arr S.nx) (.slice none 0 0) := by
 obtain ⟨c,h,hK⟩ := h
 obtain ⟨I,L⟩ := h.inv.renew none none (fun g hg => by cases hg) S.nx (fun hk => by have := hK _ hk; omega) (.arr (.slice none 0 0) z) (fun _ => False) ob (Nat.le_refl _) rfl rfl rfl
  (fun g hg => by simp [Sh.block] at hg) (fun _ _ _ => rfl) (fun _ _ _ => rfl) (fun L => hob _ _) (fun g o hg => by simp [Sh.block] at hg)
 refine ⟨c,_,h,hK,I,L,fun j hj => ?_,.arr _ _ rfl (.inr rfl) fun cv s hs => by simp [Ctx.swap] at hs; exact hs.1⟩
 rcases hj with hj | rfl
 ·have := hK j hj; omega
 ·omega
theorem nil_ob (full : Bool) (z : Nat) (c : Ctx) (w : World) : ObRep c w (.arr (.slice none 0 0) (if z % 1000 < 200 then z % 1000 else 1)) (if z % 1000 < 200 then .arr (!full || decide (1000 ≤ z)) (z % 1000) [] else .fs (some (z % 1000 - 200)) []) := by
 split
 ·exact ⟨rfl,by simp,.inl ⟨trivial,rfl,rfl⟩⟩
 ·exact ⟨rfl,rfl,by simp [bindR],.inl ⟨trivial,rfl,rfl⟩⟩
theorem QfG {v v' : AV} {S S' : St} (hr : (snapLeaf v).run S = some (v',S')) : S'.env = S.env ∧ S'.nx = S.nx ∧ S'.n = S.n := by
 cases v with
 | arr id =>
  simp only [snapLeaf,UR] at hr
  obtain ⟨ob,hob,hr⟩ := hr
  cases ob with
  | arr fz s rows =>
   cases fz with
   | true => simp only [if_true,Qu] at hr; obtain ⟨_,rfl⟩ := hr; exact ⟨rfl,rfl,rfl⟩
   | false => simp only [Bool.false_eq_true,if_false,run,Option.some.injEq,Prod.mk.injEq] at hr; obtain ⟨_,rfl⟩ := hr; exact ⟨rfl,rfl,rfl⟩
  | box => exact (Qo.1 hr).elim
  | iter => exact (Qo.1 hr).elim
  | fs => simp only [Qu] at hr; obtain ⟨_,rfl⟩ := hr; exact ⟨rfl,rfl,rfl⟩
 | _ => simp only [snapLeaf,Qu] at hr; obtain ⟨_,rfl⟩ := hr; exact ⟨rfl,rfl,rfl⟩
theorem Qkh : ∀ {l l' : List AV} {S S' : St},(snapL l).run S = some (l',S') → S'.env = S.env ∧ S'.nx = S.nx ∧ S'.n = S.n
 | [],l',S,S',hr => by simp only [snapL,Qu] at hr; obtain ⟨_,rfl⟩ := hr; exact ⟨rfl,rfl,rfl⟩
 | v :: l,l',S,S',hr => by
  simp only [snapL,Qs,Qu] at hr
  obtain ⟨v',S1,h1,l2,S2,h2,_,rfl⟩ := hr
  have e1 := QfG h1
  have e2 := Qkh h2
  exact ⟨e2.1.trans e1.1,e2.2.1.trans e1.2.1,e2.2.2.trans e1.2.2⟩
theorem QmL {v v' : AV} {S S' : St} (hr : (snap v).run S = some (v',S')) : S'.env = S.env ∧ S'.nx = S.nx ∧ S'.n = S.n := by
 cases v with
 | agg cs =>
  simp only [snap,Qs,Qu] at hr
  obtain ⟨cs',S1,h1,_,rfl⟩ := hr
  exact Qkh h1
 | _ => simp only [snap] at hr; exact QfG hr
theorem QdX {own : List (Nat × Nat)} {full : Bool} : ∀ {l : List Nat} {S S' : St},SRx B S a w → fixS own full l S = some S' → SRx B S' a w
 | [],S,S',h,hr => by simp only [fixS,Option.some.injEq] at hr; subst hr; exact h
 | t :: l,S,S',h,hr => by
  simp only [fixS] at hr
  split at hr
  ·rename_i z ht _
   obtain ⟨c,c',hs,hK,I,L,hK',hrep⟩ := h.nil _ _ (nil_ob full z)
   refine QdX (S := { S with nx := S.nx + 1,env := ins t (.arr S.nx) S.env,heap := ins S.nx (if z % 1000 < 200 then .arr (!full || decide (1000 ≤ z)) (z % 1000) [] else .fs (some (z % 1000 - 200)) []) S.heap }) ⟨c',⟨I,fun x v hx => ?_,hs.size,hs.defers⟩,hK'⟩ hr
   rw [J2] at hx
   split at hx
   ·rename_i e; subst e; cases hx
    have h0 := hs.env x _ ht
    generalize a.tmps.getD x undef = cx at h0 ⊢
    cases h0
    exact hrep
   ·exact (hs.env x v hx).later L
  ·rename_i v z _hn ht _
   split at hr
   ·split at hr
    ·rename_i v' S1 h1
     obtain ⟨c,hs,hK⟩ := h
     obtain ⟨c',hs',_,L,hk⟩ := Fi hs (hs.env t v ht) h1
     obtain ⟨e1,e2,e3⟩ := QmL h1
     exact QdX (S := S1) ⟨c',hs',fun j hj => by rw [e2]; exact hK j (hk ▸ hj)⟩ hr
    ·cases hr
   ·exact QdX h hr
  ·rename_i v ht _
   split at hr
   ·rename_i v' S1 h1
    obtain ⟨c,hs,hK⟩ := h
    obtain ⟨c',hs',hv',L,hk⟩ := Fi hs (hs.env t v ht) h1
    obtain ⟨e1,e2,e3⟩ := QmL h1
    refine QdX (S := { S1 with env := ins t v' S1.env }) ⟨c',⟨hs'.inv,fun x u hx => ?_,hs'.size,hs'.defers⟩,fun j hj => ?_⟩ hr
    ·rw [J2] at hx
     split at hx
     ·rename_i e; subst e; cases hx; exact hv'
     ·exact hs'.env x u hx
    ·show j < S1.nx
     rw [e2]; exact hK j (hk ▸ hj)
   ·cases hr
  ·cases hr
theorem QdY {m : Nat} (hBm : B.m = m) {keep : List Nat} {own : List (Nat × Nat)} {full : Bool} (h : SRx B S a w) (hr : headS m keep own full S = some S') : SRx B S' a w := by
 unfold headS at hr
 obtain ⟨S1,h1,rfl⟩ := Option.map_eq_some_iff.1 hr
 have h0 : SRx B { S with env := keepE keep S.env } a w := by
  obtain ⟨c,h,hK⟩ := h
  exact ⟨c,⟨h.inv,fun t v hv => by
   obtain ⟨v',e1,rfl⟩ := Qgx hv (Qjx hv); exact h.env t _ e1,h.size,h.defers⟩,hK⟩
 obtain ⟨c,hs,hK⟩ := QdX h0 h1
 let l := canonL m S1.heap (rootsOf S1.heap m ++ idsL (S1.env.map (·.2)))
 obtain ⟨c1,H1,I1,L1,e1,k1,g1⟩ := QeQ full (l.filterMap fun o => o) hs.inv
 have I2 := QoF I1 QiQ (fun id hid => QcU id (hBm ▸ hid)) (H' := pickH (fun o => renO (idxOf l) (freezeO full o)) S1.heap 0 l) (fun k => by
  rw [Qgw,if_pos (Nat.zero_le _),Nat.sub_zero]
  cases e : pk l k with
  | none => rfl
  | some i =>
   simp only [Option.bind_some]
   have hi : i ∈ l.filterMap fun o => o := by
    obtain ⟨o,h1,h2⟩ := Option.bind_eq_some_iff.1 e
    exact List.mem_filterMap.2 ⟨o,List.mem_of_getElem? h1,h2⟩
   rw [g1 i,if_pos hi]
   cases get i S1.heap <;> rfl)
 refine ⟨pickCtx c1 l,⟨I2,fun t v hv => ?_,hs.size,hs.defers⟩,fun j hj => hj⟩
 simp only at hv
 rw [QoG (ren (idxOf l))] at hv
 obtain ⟨v0,e2,rfl⟩ := Option.map_eq_some_iff.1 hv
 exact ((hs.env t v0 e2).later L1).ren Qjw

def toExit : Ex → Exit
 | .norm => .normal
 | .exit id => .exit id
 | .ret => .ret
theorem QmM {code : Code} {body : St → Option (Ex × St)} {head : St → Option St} {tail : Ex → St → Option St} {Q : Exit → Act → World → Prop}
  (hbody : ∀ {S S' : St} {ex : Ex} {a : Act} {w : World} {Q : Exit → Act → World → Prop},body S = some (ex,S') → SRx B S a w → (∀ a' w',SRx B S' a' w' → Q (toExit ex) a' w') → code.wp P Q a w)
  (hhead : ∀ {S S' : St} {a : Act} {w : World},SRx B S a w → head S = some S' → SRx B S' a w)
  (htail : ∀ {ex : Ex} {S S' : St} {a : Act} {w : World},SRx B S a w → tail ex S = some S' → SRx B S' a w) :
  ∀ (n : Nat) {S S' : St} {ex : Ex} {a : Act} {w : World},loopE body head tail n S = some (ex,S') → SRx B S a w → (∀ a' w',SRx B S' a' w' → Q (toExit ex) a' w') → Code.rounds P code Q n a w
 | 0,S,S',ex,a,w,h,_,_ => by simp [loopE] at h
 | n + 1,S,S',ex,a,w,h,hs,hQ => by
  simp only [loopE] at h
  split at h
  ·cases h
  ·rename_i S1 h1
   have hs1 := hhead hs h1
   rw [rounds_succ]
   split at h
   ·rename_i S2 h2
    exact hbody h2 hs1 fun a' w' hs2 => QmM hbody hhead htail n h hs2 hQ
   ·rename_i ex2 S2 hne h2
    obtain ⟨S3,h3,h4⟩ := Option.map_eq_some_iff.1 h
    simp only [Prod.mk.injEq] at h4
    obtain ⟨rfl,rfl⟩ := h4
    refine hbody h2 hs1 fun a' w' hs2 => ?_
    cases ex2 with
    | norm => exact (hne rfl).elim
    | exit id => exact hQ a' w' (htail hs2 h3)
    | ret => exact hQ a' w' (htail hs2 h3)
   ·cases h
theorem QdZ {kd : TypeId → List Nat} {call : CallF} (hcall : FnOKB T B P call) (hmix : P.follows .mixedOrders = true) {m : Nat} (hBm : B.m = m) {an : Nat → Ann} {fuel : Nat} : ∀ (code : Code) {S S' : St} {ex : Ex} {a : Act} {w : World} {Q : Exit → Act → World → Prop},
  evalCode P kd call m an fuel code S = some (ex,S') → SRx B S a w → (∀ a' w',SRx B S' a' w' → Q (toExit ex) a' w') → code.wp P Q a w := by
 intro code
 induction code with
 | skip =>
  intro S S' ex a w Q h hs hQ
  simp only [evalCode,Option.some.injEq,Prod.mk.injEq] at h
  obtain ⟨rfl,rfl⟩ := h
  exact wp_skip (hQ a w hs)
 | region id ops draw =>
  intro S S' ex a w Q h hs hQ
  simp only [evalCode,Option.map_eq_some_iff,Prod.mk.injEq] at h
  obtain ⟨S1,h1,rfl,rfl⟩ := h
  exact QmJ hcall hmix hs h1 hQ
 | seq x y ihx ihy =>
  intro S S' ex a w Q h hs hQ
  simp only [evalCode] at h
  refine wp_seq ?_
  split at h
  ·rename_i S1 h1
   exact ihx h1 hs fun a' w' hs1 => ihy h hs1 hQ
  ·rename_i hne
   refine ihx h hs fun a' w' hs1 => ?_
   cases ex with
   | norm => exact (hne _ h).elim
   | exit id => exact hQ a' w' hs1
   | ret => exact hQ a' w' hs1
 | cond x y z ihy ihz =>
  intro S S' ex a w Q h hs hQ
  simp only [evalCode] at h
  split at h
  ·rename_i t S1 h1
   obtain ⟨c,hs',hK⟩ := hs
   obtain ⟨rfl,hv⟩ := J3 hs' h1
   generalize hx : a.eval x = cx at hv
   cases hv
   refine wp_cond hx ?_
   cases t with
   | true => exact ihy h ⟨c,hs',hK⟩ hQ
   | false => exact ihz h ⟨c,hs',hK⟩ hQ
  ·cases h
 | block id x ih =>
  intro S S' ex a w Q h hs hQ
  simp only [evalCode] at h
  refine wp_block ?_
  split at h
  ·rename_i j S1 h1
   refine ih h1 hs fun a' w' hs1 => ?_
   simp only [toExit,Exit.inBlock]
   split at h
   ·rename_i e
    simp only [Option.some.injEq,Prod.mk.injEq] at h
    obtain ⟨rfl,rfl⟩ := h
    rw [if_pos e]; exact hQ a' w' hs1
   ·rename_i e
    simp only [Option.some.injEq,Prod.mk.injEq] at h
    obtain ⟨rfl,rfl⟩ := h
    rw [if_neg e]; exact hQ a' w' hs1
  ·rename_i hne
   refine ih h hs fun a' w' hs1 => ?_
   cases ex with
   | norm => exact hQ a' w' hs1
   | exit id => exact (hne _ _ h).elim
   | ret => exact hQ a' w' hs1
 | loop x ih =>
  intro S S' ex a w Q h hs hQ
  simp only [evalCode] at h
  exact wp_loop_rounds fuel (QmM (fun h1 h2 h3 => ih h1 h2 h3) (fun h1 h2 => QdY hBm h1 h2) (fun h1 h2 => QdY hBm h1 h2) fuel h hs hQ)
 | exit id =>
  intro S S' ex a w Q h hs hQ
  simp only [evalCode,Option.some.injEq,Prod.mk.injEq] at h
  obtain ⟨rfl,rfl⟩ := h
  exact wp_exit (hQ a w hs)
 | ret =>
  intro S S' ex a w Q h hs hQ
  simp only [evalCode,Option.some.injEq,Prod.mk.injEq] at h
  obtain ⟨rfl,rfl⟩ := h
  exact wp_ret (hQ a w hs)
 | _ => intro S S' ex a w Q h; simp [evalCode] at h
def exitG (l : Nat) : Ex → Exit
 | .norm => .goto l
 | ex => toExit ex
theorem dgC_ok {kd : TypeId → List Nat} {call : CallF} (hcall : FnOKB T B P call) (hmix : P.follows .mixedOrders = true) {m : Nat} (hBm : B.m = m) {an : Nat → Ann} {fuel l : Nat} : ∀ (code : Code) {S S' : St} {ex : Ex} {a : Act} {w : World} {Q : Exit → Act → World → Prop},
  evalCode P kd call m an fuel (dgC l code) S = some (ex,S') → SRx B S a w → (∀ a' w',SRx B S' a' w' → Q (exitG l ex) a' w') → code.wp P Q a w := by
 intro code
 induction code with
 | seq x y ihx ihy =>
  intro S S' ex a w Q h hs hQ
  simp only [dgC,evalCode] at h
  refine wp_seq ?_
  split at h
  ·rename_i S1 h1
   exact QdZ hcall hmix hBm x h1 hs fun a' w' hs1 => ihy h hs1 hQ
  ·rename_i hne
   refine QdZ hcall hmix hBm x h hs fun a' w' hs1 => ?_
   cases ex with
   | norm => exact (hne _ h).elim
   | exit id => exact hQ a' w' hs1
   | ret => exact hQ a' w' hs1
 | cond x y z ihy ihz =>
  intro S S' ex a w Q h hs hQ
  simp only [dgC,evalCode] at h
  split at h
  ·rename_i t S1 h1
   obtain ⟨c,hs',hK⟩ := hs
   obtain ⟨rfl,hv⟩ := J3 hs' h1
   generalize hx : a.eval x = cx at hv
   cases hv
   refine wp_cond hx ?_
   cases t with
   | true => exact ihy h ⟨c,hs',hK⟩ hQ
   | false => exact ihz h ⟨c,hs',hK⟩ hQ
  ·cases h
 | goto l' =>
  intro S S' ex a w Q h hs hQ
  simp only [dgC] at h
  split at h
  ·rename_i e
   subst e
   simp only [evalCode,Option.some.injEq,Prod.mk.injEq] at h
   obtain ⟨rfl,rfl⟩ := h
   exact wp_goto (hQ a w hs)
  ·simp [evalCode] at h
 | ret =>
  intro S S' ex a w Q h hs hQ
  simp only [dgC,evalCode,Option.some.injEq,Prod.mk.injEq] at h
  obtain ⟨rfl,rfl⟩ := h
  exact wp_ret (hQ a w hs)
 | _ => intro S S' ex a w Q h; simp [dgC,evalCode] at h
def labC : Code → Option (Nat × Code)
 | .seq (.label l) b => some (l,b)
 | .seq (.region _ _ _) c => labC c
 | _ => none
theorem QtN : ∀ {c b : Code} {l : Nat},labC c = some (l,b) → findLabel c l = some (.seq .skip b) := by
 intro c
 fun_induction labC c with
 | case1 l b => intro b' l' h; cases h; simp [findLabel]
 | case2 i o d c ih => intro b l h; have := ih h; simp [findLabel,this]
 | case3 => intro b l h; cases h
theorem Qqo {kd : TypeId → List Nat} {call : CallF} {m : Nat} {an : Nat → Ann} {fuel : Nat} : ∀ {c : Code} {S S' : St} {ex : Ex},evalCode P kd call m an fuel (spineC c) S = some (ex,S') → ∃ l b,labC c = some (l,b) := by
 intro c
 fun_induction spineC c with
 | case1 l b => intro S S' ex h; exact ⟨l,b,rfl⟩
 | case2 i o d c ih =>
  intro S S' ex h
  simp only [evalCode] at h
  split at h
  ·obtain ⟨l,b,e⟩ := ih h; exact ⟨l,b,by simpa [labC] using e⟩
  ·rename_i hne
   cases hr : regionE P kd call o d S with
   | none => rw [hr] at h; cases h
   | some S1 => exact (hne S1 (by rw [hr]; rfl)).elim
 | case3 => intro S S' ex h; simp [evalCode] at h
theorem leastE {p : Nat → Prop} (h : ∃ n,p n) : ∃ n,p n ∧ ∀ m,p m → n ≤ m := by
 obtain ⟨n,hn⟩ := h
 induction n using Nat.strongRecOn with
 | _ n ih =>
  by_cases c : ∃ m,m < n ∧ p m
  ·obtain ⟨m,h1,h2⟩ := c; exact ih m h1 h2
  ·exact ⟨n,hn,fun m hm => Nat.le_of_not_lt fun hlt => c ⟨m,hlt,hm⟩⟩
noncomputable def leastN (p : Nat → Prop) : Nat := Classical.epsilon fun n => p n ∧ ∀ m,p m → n ≤ m
theorem QiR {p : Nat → Prop} (h : ∃ n,p n) : p (leastN p) ∧ ∀ m,p m → leastN p ≤ m := Classical.epsilon_spec (leastE h)
theorem Qvt {kd : TypeId → List Nat} {call : CallF} (hcall : FnOKB T B P call) (hmix : P.follows .mixedOrders = true) {m : Nat} (hBm : B.m = m) {an : Nat → Ann} {fuel : Nat} {c : Code} {S0 S' : St} {ex : Ex} {a0 : Act} {w0 : World} {Q : Exit → Act → World → Prop}
  (h0 : evalCode P kd call m an fuel (spineC c) S0 = some (ex,S')) (hs0 : SRx B S0 a0 w0) (hQ : ∀ a' w',SRx B S' a' w' → Q (toExit ex) a' w') : (Code.scope c).wp P Q a0 w0 := by
 obtain ⟨l,b,hl⟩ := Qqo h0
 let run : Nat → St → Option (Ex × St) := loopE (evalCode P kd call m an fuel (dgC l b)) (headS m (an (rid (dgC l b))).keep (an (rid (dgC l b))).own (an (rid (dgC l b))).full) (tailS m (an (rid (dgC l b))))
 let J : Act → World → Nat → Prop := fun a w n => ∃ S1,run n S1 = some (ex,S') ∧ SRx B S1 a w
 let JJ : Act → World → Prop := fun a w => ∃ n,J a w n
 let μ : Act → World → Nat := fun a w => leastN (J a w)
 have round : ∀ (R : Act → World → Prop) (n : Nat) (S1 : St) (a : Act) (w : World),run n S1 = some (ex,S') → SRx B S1 a w → (∀ n' a' w',n' < n → J a' w' n' → R a' w') → b.wp P (Exit.jump l R Q) a w := by
  intro R n S1 a w h hs hR
  cases n with
  | zero => simp [run,loopE] at h
  | succ n =>
   simp only [run,loopE] at h
   split at h
   ·cases h
   ·rename_i S2 h1
    have hs1 := QdY hBm hs h1
    split at h
    ·rename_i S3 h2
     exact dgC_ok hcall hmix hBm b h2 hs1 fun a' w' hs2 => ⟨rfl,hR n a' w' (Nat.lt_succ_self n) ⟨S3,h,hs2⟩⟩
    ·rename_i ex2 S3 hne h2
     obtain ⟨S4,h3,h4⟩ := Option.map_eq_some_iff.1 h
     simp only [Prod.mk.injEq] at h4
     obtain ⟨rfl,rfl⟩ := h4
     refine dgC_ok hcall hmix hBm b h2 hs1 fun a' w' hs2 => ?_
     cases ex2 with
     | norm => exact (hne rfl).elim
     | exit id => exact hQ a' w' (QdY hBm hs2 h3)
     | ret => exact hQ a' w' (QdY hBm hs2 h3)
    ·cases h
 have first : ∀ {c : Code} {S : St} {a : Act} {w : World},labC c = some (l,b) → evalCode P kd call m an fuel (spineC c) S = some (ex,S') → SRx B S a w → c.wp P (Exit.jump l JJ Q) a w := by
  intro c
  fun_induction labC c with
  | case1 l' b' =>
   intro S a w e h hs
   cases e
   simp only [spineC,evalCode] at h
   refine wp_seq (wp_label ?_)
   exact round JJ fuel S a w h hs fun n' a' w' _ hJ => ⟨n',hJ⟩
  | case2 i o d c ih =>
   intro S a w e h hs
   simp only [spineC,evalCode] at h
   refine wp_seq ?_
   split at h
   ·rename_i S1 h1
    obtain ⟨S2,h2,h3⟩ := Option.map_eq_some_iff.1 h1
    cases h3
    exact QmJ hcall hmix hs h2 fun a' w' hs1 => ih e h hs1
   ·rename_i hne
    cases hr : regionE P kd call o d S with
    | none => rw [hr] at h; cases h
    | some S1 => exact (hne S1 (by rw [hr]; rfl)).elim
  | case3 => intro S a w e; cases e
 refine wp_scope_jumps l JJ μ (QtN hl) (first hl h0 hs0) fun a w hJ => ?_
 obtain ⟨S1,h1,hs1⟩ := (QiR hJ).1
 refine wp_seq (wp_skip ?_)
 refine round _ (leastN (J a w)) S1 a w h1 hs1 fun n' a' w' hn hJ' => ⟨⟨n',hJ'⟩,?_⟩
 exact Nat.lt_of_le_of_lt ((QiR ⟨n',hJ'⟩).2 _ hJ') hn
theorem Qri {kd : TypeId → List Nat} {call : CallF} (hcall : FnOKB T B P call) (hmix : P.follows .mixedOrders = true) {m : Nat} (hBm : B.m = m) {an : Nat → Ann} {fuel : Nat} : ∀ (code : Code) {S S' : St} {ex : Ex} {a : Act} {w : World} {Q : Exit → Act → World → Prop},
  evalCode P kd call m an fuel (unsc code) S = some (ex,S') → SRx B S a w → (∀ a' w',SRx B S' a' w' → Q (toExit ex) a' w') → code.wp P Q a w := by
 intro code
 fun_induction unsc code with
 | case1 x y ih =>
  intro S S' ex a w Q h hs hQ
  simp only [evalCode] at h
  refine wp_seq ?_
  split at h
  ·rename_i S1 h1
   exact QdZ hcall hmix hBm x h1 hs fun a' w' hs1 => ih h hs1 hQ
  ·rename_i hne
   refine QdZ hcall hmix hBm x h hs fun a' w' hs1 => ?_
   cases ex with
   | norm => exact (hne _ h).elim
   | exit id => exact hQ a' w' hs1
   | ret => exact hQ a' w' hs1
 | case2 c => intro S S' ex a w Q h hs hQ; exact Qvt hcall hmix hBm h hs hQ
 | case3 c _ _ => intro S S' ex a w Q h hs hQ; exact QdZ hcall hmix hBm c h hs hQ
end
end Go.Ab
namespace Go.Ab
open M

section
variable {T : Told} {P : Program} {B : Base} {c : Ctx} {S S' : St} {a : Act} {w : World}

def readRes (tmps : Array Value) : ResultVar → Sem Value
 | .tmp t => pure (tmps.getD t undef)
 | .cell x t => do loadVar t (← asAddr (tmps.getD x undef))
theorem QlD : ∀ {l : List ResultVar} {S : St} {vs : List AV} {S' : St},SR B c S a w → (resM P l).run S = some (vs,S') → S' = S ∧ ∃ cvs,RepL c w vs cvs ∧ (l.mapM (readRes a.tmps)).run P w = .ok cvs w
 | [],S,vs,S',h,hr => by
  simp only [resM,Qu] at hr
  obtain ⟨rfl,rfl⟩ := hr
  exact ⟨rfl,[],.nil,rfl⟩
 | .tmp t :: l,S,vs,S',h,hr => by
  simp only [resM,Qs,Qu] at hr
  obtain ⟨v,S1,h1,vs',S2,h2,rfl,rfl⟩ := hr
  obtain ⟨rfl,hv⟩ := J3 h h1
  obtain ⟨rfl,cvs,e1,e2⟩ := QlD h h2
  refine ⟨rfl,_,.cons _ _ _ _ hv e1,?_⟩
  simp only [List.mapM_cons,Sem.run_bind,readRes,Sem.run_pure,Result.andThen_ok,e2,Act.eval]
 | .cell x t :: l,S,vs,S',h,hr => by
  simp only [resM,Qs,Qu] at hr
  obtain ⟨p,S1,h1,v,S2,h2,vs',S3,h3,rfl,rfl⟩ := hr
  obtain ⟨rfl,hp⟩ := J3 h h1
  obtain ⟨rfl,cv,e3,hv⟩ := Qjs h hp h2
  obtain ⟨rfl,cvs,e1,e2⟩ := QlD h h3
  refine ⟨rfl,cv :: cvs,.cons _ _ _ _ hv e1,?_⟩
  have hl : (readRes a.tmps (.cell x t)).run P w = .ok cv w := by
   simp only [Act.eval] at e3
   simp only [readRes,Sem.run_bind]
   simp only [Instr.loadAt,Sem.run_bind] at e3
   generalize a.tmps.getD x undef = cp at e3
   unfold Instr.sureAddr at e3
   unfold asAddr
   split at e3
   ·exact e3
   ·simp at e3
  simp only [List.mapM_cons,Sem.run_bind,hl,Result.andThen_ok,e2,Sem.run_pure]
def oneV : List Value → Value
 | [v] => v
 | vs => .tuple vs.toArray
theorem Qqp {fn : Func} {cvs : List Value} (h : (fn.results.toList.mapM (readRes a.tmps)).run P w = .ok cvs w) : (results fn a.tmps).run P w = .ok (oneV cvs) w := by
 have e : fn.results.mapM (readRes a.tmps) = (List.toArray <$> fn.results.toList.mapM (readRes a.tmps) : Sem (Array Value)) := Array.mapM_eq_mapM_toList ..
 have h2 : (fn.results.mapM (readRes a.tmps)).run P w = .ok cvs.toArray w := by rw [e,Sem.run_map,h]; rfl
 have h3 : results fn a.tmps = (do let vs ← fn.results.mapM (readRes a.tmps); pure (if h : vs.size = 1 then vs[0] else .tuple vs) : Sem Value) := by
  unfold results
  congr 2
 rw [h3,Sem.run_bind,h2,Result.andThen_ok,Sem.run_pure]
 congr 1
 match cvs with
 | [] => simp [oneV]
 | [v] => simp [oneV]
 | v :: u :: l => simp [oneV]
theorem Qxg {vs : List AV} {cvs : List Value} (h : RepL c w vs cvs) : Rep c w (one vs) (oneV cvs) := by
 match vs,cvs,h with
 | [],_,.nil => exact .tup _ [] .nil
 | [v],_,.cons _ u _ _ hv .nil => exact hv
 | v :: v' :: l,_,.cons _ u _ _ hv (.cons _ u' _ us hv' ht) => exact .tup _ (u :: u' :: us) (.cons _ _ _ _ hv (.cons _ _ _ _ hv' ht))
theorem Qqq {l : List AV} : ∀ {c : Ctx} {S : St} {l' : List AV} {vs : List Value},SR B c S a w → RepL c w l vs → (snapRes l).run S = some (l',S') →
  ∃ c',SR B c' S' a w ∧ RepL c' w l' vs ∧ Later c w c' w ∧ c'.K = c.K := by
 induction l with
 | nil =>
  intro c S l' vs h hv hr
  cases hv
  simp only [snapRes,Qu] at hr
  obtain ⟨rfl,rfl⟩ := hr
  exact ⟨c,h,.nil,.refl _ _,rfl⟩
 | cons v l ih =>
  intro c S l' vs h hv hr
  cases hv with
  | cons _ cv _ cvs h1 ht =>
   simp only [snapRes,Qs,Qu] at hr
   obtain ⟨v',S1,hr1,l2,S2,hr2,rfl,rfl⟩ := hr
   obtain ⟨c1,g1,g2,g3,g4⟩ := Fi h h1 hr1
   obtain ⟨c2,k1,k2,k3,k4⟩ := ih g1 (ht.later g3) hr2
   exact ⟨c2,k1,.cons _ _ _ _ (g2.later k3) k2,g3.trans k3,k4.trans g4⟩
theorem Qki : ∀ (l : List AV) (k t : Nat) (v : AV),get t (enterE k l) = some v → k ≤ t ∧ l[t - k]? = some v
 | [],k,t,v,h => by simp [enterE,get] at h
 | x :: l,k,t,v,h => by
  simp only [enterE,get] at h
  split at h
  ·rename_i e; cases h; subst e; exact ⟨Nat.le_refl _,by simp⟩
  ·obtain ⟨h1,h2⟩ := Qki l (k + 1) t v h
   refine ⟨by omega,?_⟩
   rw [show t - k = (t - (k + 1)) + 1 from by omega]; simpa using h2

theorem Qxh {call : CallF} (hcall : FnOK T P call) (hmix : P.follows .mixedOrders = true) {g : Cfg} {fuel : Nat} {f : FuncId} : FnOK1 T P f (bodyE P call g fuel f) := by
 intro args H res H' c w vs h hT I hK hv
 unfold bodyE at h
 split at h
 ·rename_i fn hfn
  split at h
  ·rename_i code hcode
   split at h
   ·rename_i hlen
    let B := baseOf c w H.length
    let a0 : Act := { tmps := vs.toArray ++ Array.replicate (fn.ntmps - vs.toArray.size) undef,defers := [] }
    have hvl := hv.length_eq
    have h0 : SRx B { n := fn.ntmps,nx := H.length,env := enterE 0 args,heap := H } a0 w := by
     refine ⟨c,⟨I,fun t v ht => ?_,?_,rfl⟩,hK⟩
     ·obtain ⟨_,h2⟩ := Qki args 0 t v ht
      simp only [Nat.sub_zero] at h2
      obtain ⟨u,hu,hr⟩ := hv.get t v h2
      have : a0.tmps.getD t undef = u := by
       have hlt := (List.getElem?_eq_some_iff.1 hu).1
       simp only [a0,Array.getD_eq_getD_getElem?]
       rw [Array.getElem?_append_left (by simpa using hlt)]
       simp [hu]
      rw [this]; exact hr
     ·show (vs.toArray ++ Array.replicate (fn.ntmps - vs.toArray.size) undef).size = fn.ntmps
      simp only [Array.size_append,List.size_toArray,Array.size_replicate]; omega
    have fin : ∀ {S1 S2 : St} {rs : List AV} {a' : Act} {w' : World},SRx B S1 a' w' → ((resM P fn.results.toList).bind fun vs => if g.own f then .ret vs else snapRes vs).run S1 = some (rs,S2) → leaveS (g.own f || g.keep f) H.length (one rs) S2.heap = (res,H') →
      a'.defers = [] ∧ ∃ v,(results fn a'.tmps).run P w' = .ok v w' ∧ ∃ v' c',Ending.returned v = .returned v' ∧ Inv (baseOf c w H.length) c' H' w' ∧ Rep c' w' res v' ∧ Later c w c' w' := by
     intro S1 S2 rs a' w' hs hr hl
     obtain ⟨c1,hs,_⟩ := hs
     simp only [Qs] at hr
     obtain ⟨vs1,S3,h3,h4⟩ := hr
     obtain ⟨rfl,cvs,e1,e2⟩ := QlD hs h3
     obtain ⟨c2,k1,k2⟩ : ∃ c2,SR B c2 S2 a' w' ∧ RepL c2 w' rs cvs := by
      split at h4
      ·simp only [Qu] at h4
       obtain ⟨rfl,rfl⟩ := h4
       exact ⟨c1,hs,e1⟩
      ·obtain ⟨c2,k1,k2,_,_⟩ := Qqq hs e1 h4
       exact ⟨c2,k1,k2⟩
     let l := canonL H.length S2.heap (rootsOf S2.heap H.length ++ ids (one rs))
     obtain ⟨c3,H3,I3,L3,e3,k3,g3⟩ := QeQ (w := w') (g.own f || g.keep f) (l.filterMap fun o => o) k1.inv
     refine ⟨hs.defers,_,Qqp e2,_,pickCtx c3 l,rfl,?_,?_,?_⟩
     ·simp only [leaveS,Prod.mk.injEq] at hl
      obtain ⟨_,rfl⟩ := hl
      refine QoF (l := l) I3 (QiQ (m := H.length)) (fun id hid => QcU (m := H.length) id hid) (fun k => ?_)
      rw [Qgw,if_pos (Nat.zero_le _),Nat.sub_zero]
      cases e : pk l k with
      | none => rfl
      | some i =>
       simp only [Option.bind_some]
       have hi : i ∈ l.filterMap fun o => o := by
        obtain ⟨o,h1,h2⟩ := Option.bind_eq_some_iff.1 e
        exact List.mem_filterMap.2 ⟨o,List.mem_of_getElem? h1,h2⟩
       rw [g3 i,if_pos hi]
       cases get i S2.heap <;> rfl
     ·simp only [leaveS,Prod.mk.injEq] at hl
      obtain ⟨rfl,_⟩ := hl
      exact ((Qxg k2).later L3).ren Qjw
     ·refine ⟨fun id hid => (QcU id (hK id hid)).1,fun id hid sh hs' => ?_,fun b o hz => L3.z b o (k1.inv.zold b o hz).1,fun b o hz => (k1.inv.zold b o hz).2⟩
      simp only [pickCtx,Option.bind_eq_some_iff,e3] at hs'
      obtain ⟨x,h1,h2⟩ := hs'
      have := (QcU id (hK id hid)).2 x h1
      subst this
      exact (k1.inv.pass x (hK x hid)).2 sh h2
    refine calls_of_wp hfn hcode ?_
    split at h
    ·rename_i S1 hev
     split at h
     ·rename_i rs S2 hres
      simp only [Option.some.injEq] at h
      refine Qri (T := T) ⟨hcall,hT⟩ hmix (m := H.length) (B := B) rfl code hev h0 fun a' w' hs => ?_
      obtain ⟨d1,v,d2,d3⟩ := fin hs hres h
      exact ⟨d1,v,d2,d3⟩
     ·cases h
    ·rename_i S1 hev
     split at h
     ·rename_i rs S2 hres
      simp only [Option.some.injEq] at h
      refine Qri (T := T) ⟨hcall,hT⟩ hmix (m := H.length) (B := B) rfl code hev h0 fun a' w' hs => ?_
      obtain ⟨d1,v,d2,d3⟩ := fin hs hres h
      exact ⟨d1,v,d2,d3⟩
     ·cases h
    ·cases h
   ·cases h
  ·cases h
 ·cases h
theorem QlE (hmix : P.follows .mixedOrders = true) {g : Cfg} (hext : ∀ f x,g.ext f = some x → FnOK1 T P f x) : ∀ k,FnOK T P (evalFn P g k)
 | 0 => fun f args H res H' c w vs h _ => by simp [evalFn] at h
 | k + 1 => fun f args H res H' c w vs h hT => by
  simp only [evalFn] at h
  split at h
  ·rename_i x hx; exact hext f x hx args H res H' c w vs h hT
  ·exact Qxh (QlE hmix hext k) hmix args H res H' c w vs h hT

def oldCtx (w : World) : Ctx := { ι := fun _ => none,Z := fun b _ => b < w.heap.size,K := fun _ => False }
theorem oldInv (w : World) : Inv (baseOf (oldCtx w) w 0) (oldCtx w) [] w where
 dead _ _ := rfl
 obj id ob h := by cases h
 known id sh h := by cases h
 inj i j si sj g h := by cases h
 zlt _ _ h := h
 zob b o hz id sh h := by cases h
 bnd id sh g h := by cases h
 size := Nat.le_refl _
 os := rfl
 tape := rfl
 output := rfl
 old _ _ _ := rfl
 zold _ _ h := ⟨h,rfl⟩
 znew _ _ h := .inl h
 pass id h := by cases h
theorem QnA (hmix : P.follows .mixedOrders = true) {g : Cfg} (hext : ∀ f x,g.ext f = some x → FnOK1 T P f x) {k : Nat} {f : FuncId} {args : List AV} {r : Value} {H' : Heap} {w : World} {vs : List Value}
  (h : evalFn P g k f args [] = some (.sc r,H')) (hT : T.T (oldCtx w).Z w) (hv : RepL (oldCtx w) w args vs) : Calls P f vs.toArray w fun e w' => e = .returned r ∧ RowKit.Below w.heap.size w w' := by
 refine (QlE hmix hext k f args [] (.sc r) H' (oldCtx w) w vs h hT (oldInv w) (fun id hid => hid.elim) hv).mono ?_
 rintro e w' ⟨v,c',rfl,I,hr,L⟩
 cases hr
 exact ⟨rfl,I.os,I.tape,I.output,I.size,fun b hb => I.old b hb (by rintro ⟨id,sh,h,_⟩; cases h)⟩
end
end Go.Ab
namespace Go.Ab
open M

inductive Tm (R : Type) : Type 1 where
 | fail
 | ret (x : R)
 | q {β : Type} (x : Qn β) (k : β → Tm R)
 | loop (c : Code) (σ : St) (k : Ex → St → Tm R)
abbrev Loops := Code → St → Option (Ex × St)
def Tm.run {R : Type} (lp : Loops) : Tm R → Option R
 | .fail => none
 | .ret x => some x
 | .q x k => match x.ans with
  | some v => (k v).run lp
  | none => none
 | .loop c σ k => match lp c σ with
  | some (ex,s) => (k ex s).run lp
  | none => none

section
variable {R α : Type}
def M.tm : M α → St → (α → St → Tm R) → Tm R
 | .ret a,s,K => K a s
 | .fail,_,_ => .fail
 | .getT t k,s,K => match get t s.env with
  | some v => (k v).tm s K
  | none => .fail
 | .setT t v k,s,K => if t < s.n then k.tm { s with env := ins t v s.env } K else .fail
 | .getO i k,s,K => match get i s.heap with
  | some o => (k o).tm s K
  | none => .fail
 | .setO i o k,s,K => k.tm { s with heap := ins i o s.heap } K
 | .delO i k,s,K => k.tm { s with heap := del i s.heap } K
 | .q x k,s,K => .q x fun v => (k v).tm s K
def M.tmL : M α → St → (α → St → Log → Tm R) → Tm R
 | .ret a,s,K => K a s ⟨[],[]⟩
 | .fail,_,_ => .fail
 | .getT t k,s,K => match get t s.env with
  | some v => (k v).tmL s fun a s l => K a s { l with r := (true,t) :: l.r }
  | none => .fail
 | .setT t v k,s,K => if t < s.n then k.tmL { s with env := ins t v s.env } fun a s l => K a s { l with w := (true,t) :: l.w } else .fail
 | .getO i k,s,K => match get i s.heap with
  | some o => (k o).tmL s fun a s l => K a s { l with r := (false,i) :: l.r }
  | none => .fail
 | .setO i o k,s,K => k.tmL { s with heap := ins i o s.heap } fun a s l => K a s { l with w := (false,i) :: l.w }
 | .delO i k,s,K => k.tmL { s with heap := del i s.heap } fun a s l => K a s { l with w := (false,i) :: l.w }
 | .q x k,s,K => .q x fun v => (k v).tmL s K

theorem tm_run (lp : Loops) (m : M α) : ∀ (s : St) (K : α → St → Tm R),(m.tm s K).run lp = (m.run s).bind fun p => (K p.1 p.2).run lp := by
  induction m with
  | ret a => intro s K; rfl
  | fail => intro s K; rfl
  | getT t k ih => intro s K; simp only [M.tm,M.run]; cases get t s.env with
    | none => rfl
    | some v => exact ih v s K
  | setT t v k ih => intro s K; simp only [M.tm,M.run]; split
                     · exact ih _ K
                     · rfl
  | getO i k ih => intro s K; simp only [M.tm,M.run]; cases get i s.heap with
    | none => rfl
    | some v => exact ih v s K
  | setO i o k ih => intro s K; exact ih _ K
  | delO i k ih => intro s K; exact ih _ K
  | q x k ih => intro s K; simp only [M.tm,M.run,Tm.run]; cases x.ans with
    | none => rfl
    | some v => exact ih v s K
theorem Qxi (lp : Loops) (m : M α) : ∀ (s : St) (K : α → St → Log → Tm R),(m.tmL s K).run lp = (m.runL s).bind fun p => (K p.1 p.2.1 p.2.2).run lp := by
  induction m with
  | ret a => intro s K; rfl
  | fail => intro s K; rfl
  | getT t k ih => intro s K; simp only [M.tmL,M.runL]; cases get t s.env with
    | none => rfl
    | some v => simp only [ih v s]; cases (k v).runL s <;> rfl
  | setT t v k ih => intro s K; simp only [M.tmL,M.runL]; split
                     · rw [ih]; cases k.runL { s with env := ins t v s.env } <;> rfl
                     · rfl
  | getO i k ih => intro s K; simp only [M.tmL,M.runL]; cases get i s.heap with
    | none => rfl
    | some v => simp only [ih v s]; cases (k v).runL s <;> rfl
  | setO i o k ih => intro s K; simp only [M.tmL,M.runL]; rw [ih]; cases k.runL { s with heap := ins i o s.heap } <;> rfl
  | delO i k ih => intro s K; simp only [M.tmL,M.runL]; rw [ih]; cases k.runL { s with heap := del i s.heap } <;> rfl
  | q x k ih => intro s K; simp only [M.tmL,M.runL,Tm.run]; cases x.ans with
    | none => rfl
    | some v => exact ih v s K
end

section
variable {R : Type}
def seqT (step : Nat → M Unit) : List Nat → St → (St → Tm R) → Tm R
 | [],s,K => K s
 | i :: l,s,K => (step i).tm s fun _ s => seqT step l s K
def opsT (step : Nat → M Unit) : List Nat → St → (St → List (Nat × Log) → Tm R) → Tm R
 | [],s,K => K s []
 | i :: l,s,K => (step i).tmL s fun _ s lg => opsT step l s fun t ls => K t ((i,lg) :: ls)
theorem QoH (lp : Loops) (step : Nat → M Unit) : ∀ (l : List Nat) (s : St) (K : St → Tm R),(seqT step l s K).run lp = (seqOps step l s).bind fun s => (K s).run lp
 | [],s,K => rfl
 | i :: l,s,K => by
  simp only [seqT,tm_run,seqOps,QoH lp step l]
  cases (step i).run s <;> rfl
theorem QoI (lp : Loops) (step : Nat → M Unit) : ∀ (l : List Nat) (s : St) (K : St → List (Nat × Log) → Tm R),(opsT step l s K).run lp = (runOps step l s).bind fun p => (K p.1 p.2).run lp
 | [],s,K => rfl
 | i :: l,s,K => by
  simp only [opsT,Qxi,runOps,QoI lp step l]
  cases (step i).runL s with
  | none => rfl
  | some p => obtain ⟨u,s',lg⟩ := p; simp only [Option.bind_some]; cases runOps step l s' <;> rfl

variable (P : Program) (kd : TypeId → List Nat) (call : CallF)
def regionT (ops : Array Oper) (draw : Bool) (s : St) (K : St → Tm R) : Tm R :=
 if draw then opsT (stepM P kd call s.nx ops) (List.range ops.size) s fun t logs => if edgesOk ops && okOrder (befL ops.toList []) logs then K { t with nx := s.nx + slots * ops.size } else .fail
 else seqT (stepM P kd call s.nx ops) (List.range ops.size) s fun t => K { t with nx := s.nx + slots * ops.size }
theorem QiS (lp : Loops) (ops : Array Oper) (draw : Bool) (s : St) (K : St → Tm R) : (regionT P kd call ops draw s K).run lp = (regionE P kd call ops draw s).bind fun s => (K s).run lp := by
 cases draw with
 | false =>
  simp only [regionT,regionE,Bool.false_eq_true,if_false,QoH]
  cases seqOps (stepM P kd call s.nx ops) (List.range ops.size) s <;> rfl
 | true =>
  simp only [regionT,regionE,if_true,QoI]
  cases runOps (stepM P kd call s.nx ops) (List.range ops.size) s with
  | none => rfl
  | some p =>
   obtain ⟨t,logs⟩ := p
   simp only [Option.bind_some]
   split <;> rfl

def codeT (m : Nat) (an : Nat → Ann) : Code → St → (Ex → St → Tm R) → Tm R
 | .skip,s,K => K .norm s
 | .region _ ops draw,s,K => regionT P kd call ops draw s fun s => K .norm s
 | .seq a b,s,K => codeT m an a s fun ex s => match ex with
  | .norm => codeT m an b s K
  | ex => K ex s
 | .cond c a b,s,K => (opd c).tm s fun v s => match v with
  | .sc (.bool t) => .q (.bool t) fun t => if t then codeT m an a s K else codeT m an b s K
  | _ => .fail
 | .block id c,s,K => codeT m an c s fun ex s => match ex with
  | .exit j => if j = id then K .norm s else K (.exit j) s
  | ex => K ex s
 | .loop c,s,K => match headS m (an (rid c)).keep (an (rid c)).own (an (rid c)).full s with
  | some σ => .loop c σ K
  | none => .fail
 | .exit id,s,K => K (.exit id) s
 | .ret,s,K => K .ret s
 | _,_,_ => .fail

def roundT (m : Nat) (an : Nat → Ann) (c : Code) (σ : St) : Tm (Ex × St) := codeT P kd call m an c σ fun ex s => match ex with
 | .norm => match headS m (an (rid c)).keep (an (rid c)).own (an (rid c)).full s with
  | some σ => .ret (.norm,σ)
  | none => .fail
 | ex => match tailS m (an (rid c)) ex s with
  | some s => .ret (ex,s)
  | none => .fail
def roundsF (round : St → Option (Ex × St)) : Nat → St → Option (Ex × St)
 | 0,_ => none
 | n + 1,σ => match round σ with
  | some (.norm,σ) => roundsF round n σ
  | r => r
def loopsF (m : Nat) (an : Nat → Ann) (fuel : Nat) : Loops := fun c σ => match fuel with
 | 0 => none
 | n + 1 => match evalCode P kd call m an fuel c σ with
  | some (.norm,s) => loopE (evalCode P kd call m an fuel c) (headS m (an (rid c)).keep (an (rid c)).own (an (rid c)).full) (tailS m (an (rid c))) n s
  | some (ex,s) => (tailS m (an (rid c)) ex s).map fun s => (ex,s)
  | none => none
theorem Qgy (m : Nat) (an : Nat → Ann) (fuel : Nat) : ∀ (c : Code) (s : St) (K : Ex → St → Tm R),
  (codeT P kd call m an c s K).run (loopsF P kd call m an fuel) = (evalCode P kd call m an fuel c s).bind fun p => (K p.1 p.2).run (loopsF P kd call m an fuel) := by
 intro c
 induction c with
 | skip => intro s K; rfl
 | region id ops draw =>
  intro s K
  simp only [codeT,evalCode,QiS]
  cases regionE P kd call ops draw s <;> rfl
 | seq a b iha ihb =>
  intro s K
  simp only [codeT,evalCode,iha]
  cases evalCode P kd call m an fuel a s with
  | none => rfl
  | some p =>
   obtain ⟨ex,s'⟩ := p
   cases ex with
   | norm => exact ihb s' K
   | exit id => rfl
   | ret => rfl
 | cond x a b iha ihb =>
  intro s K
  simp only [codeT,evalCode,tm_run]
  cases (opd x).run s with
  | none => rfl
  | some p =>
   obtain ⟨v,s'⟩ := p
   cases v with
   | sc u =>
    cases u with
    | bool t =>
     cases t with
     | true => exact iha s' K
     | false => exact ihb s' K
    | _ => rfl
   | _ => rfl
 | block id a ih =>
  intro s K
  simp only [codeT,evalCode,ih]
  cases evalCode P kd call m an fuel a s with
  | none => rfl
  | some p =>
   obtain ⟨ex,s'⟩ := p
   cases ex with
   | norm => rfl
   | exit j =>
    simp only [Option.bind_some]
    split <;> rfl
   | ret => rfl
 | loop a ih =>
  intro s K
  simp only [codeT,evalCode]
  cases fuel with
  | zero =>
   simp only [loopE,Option.bind_none]
   cases headS m (an (rid a)).keep (an (rid a)).own (an (rid a)).full s with
   | none => rfl
   | some σ => rfl
  | succ n =>
   simp only [loopE]
   cases headS m (an (rid a)).keep (an (rid a)).own (an (rid a)).full s with
   | none => rfl
   | some σ =>
    simp only [Tm.run]
    simp only [loopsF]
    cases evalCode P kd call m an (n + 1) a σ with
    | none => rfl
    | some p =>
     obtain ⟨ex,s'⟩ := p
     cases ex with
     | norm => simp only []; split <;> simp_all
     | exit j => simp only []; cases tailS m (an (rid a)) (.exit j) s' <;> rfl
     | ret => simp only []; cases tailS m (an (rid a)) .ret s' <;> rfl
 | exit id => intro s K; rfl
 | ret => intro s K; rfl
 | _ => intro s K; rfl
theorem QnB (m : Nat) (an : Nat → Ann) (fuel : Nat) (c : Code) (σ : St) : loopsF P kd call m an fuel c σ = roundsF (fun σ => (roundT P kd call m an c σ).run (loopsF P kd call m an fuel)) fuel σ := by
 have key : ∀ (n : Nat) (σ : St),(match evalCode P kd call m an fuel c σ with
   | some (.norm,s) => loopE (evalCode P kd call m an fuel c) (headS m (an (rid c)).keep (an (rid c)).own (an (rid c)).full) (tailS m (an (rid c))) n s
   | some (ex,s) => (tailS m (an (rid c)) ex s).map fun s => (ex,s)
   | none => none) = roundsF (fun σ => (roundT P kd call m an c σ).run (loopsF P kd call m an fuel)) (n + 1) σ := by
  intro n
  induction n with
  | zero =>
   intro σ
   simp only [roundsF,roundT,Qgy]
   cases evalCode P kd call m an fuel c σ with
   | none => rfl
   | some p =>
    obtain ⟨ex,s⟩ := p
    cases ex with
    | norm => simp only [Option.bind_some,loopE]; cases headS m (an (rid c)).keep (an (rid c)).own (an (rid c)).full s <;> rfl
    | exit j => simp only [Option.bind_some]; cases tailS m (an (rid c)) (.exit j) s <;> rfl
    | ret => simp only [Option.bind_some]; cases tailS m (an (rid c)) .ret s <;> rfl
  | succ n ih =>
   intro σ
   have hR : (roundT P kd call m an c σ).run (loopsF P kd call m an fuel) = _ := Qgy P kd call m an fuel c σ _
   rw [roundsF]
   simp only [hR]
   clear hR
   cases hev : evalCode P kd call m an fuel c σ with
   | none => rfl
   | some p =>
    obtain ⟨ex,s⟩ := p
    cases ex with
    | norm =>
     simp only [Option.bind_some,loopE]
     cases headS m (an (rid c)).keep (an (rid c)).own (an (rid c)).full s with
     | none => rfl
     | some σ' => exact ih σ'
    | exit j => simp only [Option.bind_some]; cases tailS m (an (rid c)) (.exit j) s <;> rfl
    | ret => simp only [Option.bind_some]; cases tailS m (an (rid c)) .ret s <;> rfl
 cases fuel with
 | zero => rfl
 | succ n => exact key n σ

def bodyT (g : Cfg) (f : FuncId) (args : List AV) (H : Heap) : Tm (AV × Heap) :=
 match P.funcs[f]? with
 | some fn => match fn.body with
  | some c => if args.length ≤ fn.ntmps then
    codeT P g.kd call H.length (g.an f) (unsc c) { n := fn.ntmps,nx := H.length,env := enterE 0 args,heap := H } fun ex s => match ex with
     | .exit _ => .fail
     | _ => ((resM P fn.results.toList).bind fun vs => if g.own f then .ret vs else snapRes vs).tm s fun vs s => .ret (leaveS (g.own f || g.keep f) H.length (one vs) s.heap)
   else .fail
  | none => .fail
 | none => .fail
theorem Qgz (g : Cfg) (fuel : Nat) (f : FuncId) (args : List AV) (H : Heap) : (bodyT P call g f args H).run (loopsF P g.kd call H.length (g.an f) fuel) = bodyE P call g fuel f args H := by
 unfold bodyT bodyE
 cases P.funcs[f]? with
 | none => rfl
 | some fn =>
  simp only []
  cases fn.body with
  | none => rfl
  | some c =>
   simp only []
   by_cases hl : args.length ≤ fn.ntmps
   ·rw [if_pos hl,if_pos hl,Qgy]
    cases evalCode P g.kd call H.length (g.an f) fuel (unsc c) { n := fn.ntmps,nx := H.length,env := enterE 0 args,heap := H } with
    | none => rfl
    | some p =>
     obtain ⟨ex,s⟩ := p
     cases ex with
     | norm =>
      simp only [Option.bind_some,tm_run]
      cases ((resM P fn.results.toList).bind fun vs => if g.own f then .ret vs else snapRes vs).run s <;> rfl
     | exit j => rfl
     | ret =>
      simp only [Option.bind_some,tm_run]
      cases ((resM P fn.results.toList).bind fun vs => if g.own f then .ret vs else snapRes vs).run s <;> rfl
   ·rw [if_neg hl,if_neg hl]; rfl
end

inductive Tr (ρ R : Type) : Type 1 where
 | fail
 | ret (a : ρ) (x : R)
 | ask (b b' : Bool) (t e : Tr ρ R)
 | yes (b : Bool) (t : Tr ρ R)
 | no (b : Bool) (e : Tr ρ R)
 | row {α : Type} (o : Option (List AV)) (m : Option α) (enc : α → List AV) (k : α → Tr ρ R)
 | rows (l l' : List (List AV)) (k : Tr ρ R)
 | num (n n' : Nat) (k : Tr ρ R)
 | byt (o m : Option (List UInt8)) (k : List UInt8 → Tr ρ R)
 | call {α : Type} (o : Option (AV × Heap)) (m : Option α) (enc : α → AV × Heap) (k : α → Tr ρ R)
 | loop {α : Type} (c : Code) (σ : St) (m : Option α) (e : α → Ex × St) (k : α → Tr ρ R)
 | loop2 {α β : Type} (c : Code) (σ : St) (m : Option (α ⊕ β)) (ea : α → Ex × St) (eb : β → Ex × St) (ka : α → Tr ρ R) (kb : β → Tr ρ R)
 | loop3 {α β γ : Type} (c : Code) (σ : St) (m : Option (α ⊕ β ⊕ γ)) (ea : α → Ex × St) (eb : β → Ex × St) (ec : γ → Ex × St) (ka : α → Tr ρ R) (kb : β → Tr ρ R) (kc : γ → Tr ρ R)

section
variable {ρ R : Type}
def Tr.norm : Tr ρ R → Tm R → Tr ρ R
 | .fail,_ => .fail
 | .ret a _,.ret y => .ret a y
 | .ask _ b' t e,.q (.bool b) k => .ask b b' (t.norm (k true)) (e.norm (k false))
 | .yes _ t,.q (.bool b) k => .yes b (t.norm (k true))
 | .no _ e,.q (.bool b) k => .no b (e.norm (k false))
 | .row _ m enc k,.q (.row o) k' => .row o m enc fun a => (k a).norm (k' (enc a))
 | .rows _ l' k,.q (.rows l) k' => .rows l l' (k.norm (k' l'))
 | .num _ n' k,.q (.num n) k' => .num n n' (k.norm (k' n'))
 | .byt _ m k,.q (.byt o) k' => .byt o m fun a => (k a).norm (k' a)
 | .call _ m enc k,.q (.call _ _ _ o) k' => .call o m enc fun a => (k a).norm (k' (enc a))
 | .loop _ _ m e k,.loop c σ k' => .loop c σ m e fun a => (k a).norm (k' (e a).1 (e a).2)
 | .loop2 _ _ m ea eb ka kb,.loop c σ k' => .loop2 c σ m ea eb (fun a => (ka a).norm (k' (ea a).1 (ea a).2)) (fun a => (kb a).norm (k' (eb a).1 (eb a).2))
 | .loop3 _ _ m ea eb ec ka kb kc,.loop c σ k' => .loop3 c σ m ea eb ec (fun a => (ka a).norm (k' (ea a).1 (ea a).2)) (fun a => (kb a).norm (k' (eb a).1 (eb a).2)) (fun a => (kc a).norm (k' (ec a).1 (ec a).2))
 | _,_ => .fail
def Tr.den : Tr ρ R → Option ρ
 | .fail => none
 | .ret a _ => some a
 | .ask _ b t e => bif b then t.den else e.den
 | .yes _ t => t.den
 | .no _ e => e.den
 | .row _ m _ k => m.bind fun a => (k a).den
 | .rows _ _ k => k.den
 | .num _ _ k => k.den
 | .byt _ m k => m.bind fun a => (k a).den
 | .call _ m _ k => m.bind fun a => (k a).den
 | .loop _ _ m _ k => m.bind fun a => (k a).den
 | .loop2 _ _ m _ _ ka kb => m.bind fun x => Sum.elim (fun a => (ka a).den) (fun a => (kb a).den) x
 | .loop3 _ _ m _ _ _ ka kb kc => m.bind fun x => Sum.elim (fun a => (ka a).den) (fun x => Sum.elim (fun a => (kb a).den) (fun a => (kc a).den) x) x
def Tr.ok (lp : Loops) (enc : ρ → R) : Tr ρ R → Prop
 | .fail => True
 | .ret a x => x = enc a
 | .ask b b' t e => b = b' ∧ (b' = true → t.ok lp enc) ∧ (b' = false → e.ok lp enc)
 | .yes b t => b = true ∧ t.ok lp enc
 | .no b e => b = false ∧ e.ok lp enc
 | .row o m en k => ∀ a,m = some a → o = some (en a) ∧ (k a).ok lp enc
 | .rows l l' k => l = l' ∧ k.ok lp enc
 | .num n n' k => n = n' ∧ k.ok lp enc
 | .byt o m k => ∀ a,m = some a → o = some a ∧ (k a).ok lp enc
 | .call o m en k => ∀ a,m = some a → o = some (en a) ∧ (k a).ok lp enc
 | .loop c σ m e k => ∀ a,m = some a → lp c σ = some (e a) ∧ (k a).ok lp enc
 | .loop2 c σ m ea eb ka kb => (∀ a,m = some (.inl a) → lp c σ = some (ea a) ∧ (ka a).ok lp enc) ∧ (∀ a,m = some (.inr a) → lp c σ = some (eb a) ∧ (kb a).ok lp enc)
 | .loop3 c σ m ea eb ec ka kb kc => (∀ a,m = some (.inl a) → lp c σ = some (ea a) ∧ (ka a).ok lp enc) ∧ (∀ a,m = some (.inr (.inl a)) → lp c σ = some (eb a) ∧ (kb a).ok lp enc) ∧
   (∀ a,m = some (.inr (.inr a)) → lp c σ = some (ec a) ∧ (kc a).ok lp enc)
theorem Tr.sound {lp : Loops} {enc : ρ → R} (tr : Tr ρ R) : ∀ (tm : Tm R),tr.norm tm = tr → tr.ok lp enc → ∀ r,tr.den = some r → tm.run lp = some (enc r) := by
 induction tr with
 | fail => intro tm _ _ r h; cases h
 | ret a x =>
  intro tm hn ho r h
  cases tm with
  | ret y => simp only [Tr.norm,Tr.ret.injEq,true_and] at hn; subst hn; cases h; simp only [Tr.ok] at ho; rw [ho]; rfl
  | q x k => cases x <;> simp [Tr.norm] at hn
  | _ => simp [Tr.norm] at hn
 | ask b b2 t e iht ihe =>
  intro tm hn ho r h
  cases tm with
  | q x k =>
   cases x with
   | bool b' =>
    simp only [Tr.norm,Tr.ask.injEq,true_and] at hn
    obtain ⟨rfl,h1,h2⟩ := hn
    obtain ⟨rfl,ho1,ho2⟩ := ho
    cases b' with
    | true => exact iht _ h1 (ho1 rfl) r h
    | false => exact ihe _ h2 (ho2 rfl) r h
   | _ => simp [Tr.norm] at hn
  | _ => simp [Tr.norm] at hn
 | yes b t ih =>
  intro tm hn ho r h
  cases tm with
  | q x k =>
   cases x with
   | bool b' =>
    simp only [Tr.norm,Tr.yes.injEq] at hn
    obtain ⟨rfl,h1⟩ := hn
    obtain ⟨rfl,ho⟩ := ho
    exact ih _ h1 ho r h
   | _ => simp [Tr.norm] at hn
  | _ => simp [Tr.norm] at hn
 | no b t ih =>
  intro tm hn ho r h
  cases tm with
  | q x k =>
   cases x with
   | bool b' =>
    simp only [Tr.norm,Tr.no.injEq] at hn
    obtain ⟨rfl,h1⟩ := hn
    obtain ⟨rfl,ho⟩ := ho
    exact ih _ h1 ho r h
   | _ => simp [Tr.norm] at hn
  | _ => simp [Tr.norm] at hn
 | row o m en k ih =>
  intro tm hn ho r h
  cases tm with
  | q x k' =>
   cases x with
   | row o' =>
    simp only [Tr.norm,Tr.row.injEq,heq_eq_eq,true_and] at hn
    obtain ⟨rfl,h1⟩ := hn
    simp only [Tr.den,Option.bind_eq_some_iff] at h
    obtain ⟨a,ha,h⟩ := h
    obtain ⟨o1,o2⟩ := ho a ha
    simp only [Tm.run,Qn.ans,o1]
    exact ih a _ (congrFun h1 a) o2 r h
   | _ => simp [Tr.norm] at hn
  | _ => simp [Tr.norm] at hn
 | rows l l' k ih =>
  intro tm hn ho r h
  cases tm with
  | q x k' =>
   cases x with
   | rows m =>
    simp only [Tr.norm,Tr.rows.injEq,true_and] at hn
    obtain ⟨rfl,h1⟩ := hn
    obtain ⟨rfl,ho⟩ := ho
    exact ih _ h1 ho r h
   | _ => simp [Tr.norm] at hn
  | _ => simp [Tr.norm] at hn
 | num l l' k ih =>
  intro tm hn ho r h
  cases tm with
  | q x k' =>
   cases x with
   | num m =>
    simp only [Tr.norm,Tr.num.injEq,true_and] at hn
    obtain ⟨rfl,h1⟩ := hn
    obtain ⟨rfl,ho⟩ := ho
    exact ih _ h1 ho r h
   | _ => simp [Tr.norm] at hn
  | _ => simp [Tr.norm] at hn
 | byt o m k ih =>
  intro tm hn ho r h
  cases tm with
  | q x k' =>
   cases x with
   | byt o' =>
    simp only [Tr.norm,Tr.byt.injEq,true_and] at hn
    obtain ⟨rfl,h1⟩ := hn
    simp only [Tr.den,Option.bind_eq_some_iff] at h
    obtain ⟨a,ha,h⟩ := h
    obtain ⟨o1,o2⟩ := ho a ha
    simp only [Tm.run,Qn.ans,o1]
    exact ih a _ (congrFun h1 a) o2 r h
   | _ => simp [Tr.norm] at hn
  | _ => simp [Tr.norm] at hn
 | call o m en k ih =>
  intro tm hn ho r h
  cases tm with
  | q x k' =>
   cases x with
   | call f args H o' =>
    simp only [Tr.norm,Tr.call.injEq,heq_eq_eq,true_and] at hn
    obtain ⟨rfl,h1⟩ := hn
    simp only [Tr.den,Option.bind_eq_some_iff] at h
    obtain ⟨a,ha,h⟩ := h
    obtain ⟨o1,o2⟩ := ho a ha
    simp only [Tm.run,Qn.ans,o1]
    exact ih a _ (congrFun h1 a) o2 r h
   | _ => simp [Tr.norm] at hn
  | _ => simp [Tr.norm] at hn
 | loop c σ m e k ih =>
  intro tm hn ho r h
  cases tm with
  | loop c' σ' k' =>
   simp only [Tr.norm,Tr.loop.injEq,heq_eq_eq,true_and] at hn
   obtain ⟨rfl,rfl,h1⟩ := hn
   simp only [Tr.den,Option.bind_eq_some_iff] at h
   obtain ⟨a,ha,h⟩ := h
   obtain ⟨o1,o2⟩ := ho a ha
   simp only [Tm.run,o1]
   exact ih a _ (congrFun h1 a) o2 r h
  | q x k => cases x <;> simp [Tr.norm] at hn
  | _ => simp [Tr.norm] at hn
 | loop2 c σ m ea eb ka kb iha ihb =>
  intro tm hn ho r h
  cases tm with
  | loop c' σ' k' =>
   simp only [Tr.norm,Tr.loop2.injEq,heq_eq_eq,true_and] at hn
   obtain ⟨rfl,rfl,h1,h2⟩ := hn
   simp only [Tr.den,Option.bind_eq_some_iff] at h
   obtain ⟨a,ha,h⟩ := h
   rcases a with a | a
   ·obtain ⟨o1,o2⟩ := ho.1 a ha
    simp only [Tm.run,o1]
    exact iha a _ (congrFun h1 a) o2 r h
   ·obtain ⟨o1,o2⟩ := ho.2 a ha
    simp only [Tm.run,o1]
    exact ihb a _ (congrFun h2 a) o2 r h
  | q x k => cases x <;> simp [Tr.norm] at hn
  | _ => simp [Tr.norm] at hn
 | loop3 c σ m ea eb ec ka kb kc iha ihb ihc =>
  intro tm hn ho r h
  cases tm with
  | loop c' σ' k' =>
   simp only [Tr.norm,Tr.loop3.injEq,heq_eq_eq,true_and] at hn
   obtain ⟨rfl,rfl,h1,h2,h3⟩ := hn
   simp only [Tr.den,Option.bind_eq_some_iff] at h
   obtain ⟨a,ha,h⟩ := h
   rcases a with a | a | a
   ·obtain ⟨o1,o2⟩ := ho.1 a ha
    simp only [Tm.run,o1]
    exact iha a _ (congrFun h1 a) o2 r h
   ·obtain ⟨o1,o2⟩ := ho.2.1 a ha
    simp only [Tm.run,o1]
    exact ihb a _ (congrFun h2 a) o2 r h
   ·obtain ⟨o1,o2⟩ := ho.2.2 a ha
    simp only [Tm.run,o1]
    exact ihc a _ (congrFun h3 a) o2 r h
  | q x k => cases x <;> simp [Tr.norm] at hn
  | _ => simp [Tr.norm] at hn
end

section
variable {A α : Type}
def iter (b : A → Option (A ⊕ α)) : Nat → A → Option α
 | 0,_ => none
 | n + 1,a => (b a).bind fun
  | .inl a => iter b n a
  | .inr r => some r
theorem QiT {round : St → Option (Ex × St)} {b : A → Option (A ⊕ α)} {σ : A → St} {e : α → Ex × St} (h : ∀ a,(∀ a',b a = some (.inl a') → round (σ a) = some (.norm,σ a')) ∧ (∀ r,b a = some (.inr r) → round (σ a) = some (e r) ∧ (e r).1 ≠ .norm)) :
  ∀ (n : Nat) (a : A) (r : α),iter b n a = some r → roundsF round n (σ a) = some (e r)
 | 0,a,r,hr => by cases hr
 | n + 1,a,r,hr => by
  simp only [iter,Option.bind_eq_some_iff] at hr
  obtain ⟨x,hx,hr⟩ := hr
  obtain ⟨h1,h2⟩ := h a
  cases x with
  | inl a' =>
   rw [roundsF,h1 a' hx]
   exact QiT h n a' r hr
  | inr r' =>
   cases hr
   obtain ⟨h3,h4⟩ := h2 r hx
   rw [roundsF,h3]
   split
   ·rename_i heq
    exfalso; apply h4
    simp only [Option.some.injEq] at heq
    rw [heq]
   ·rfl
end

section
variable {P : Program} {g : Cfg}
end

def yesN {ρ R : Type} : Nat → Bool → Tr ρ R → Tr ρ R
 | 0,_,t => t
 | n + 1,b,t => .yes b (yesN n b t)
def noN {ρ R : Type} : Nat → Bool → Tr ρ R → Tr ρ R
 | 0,_,t => t
 | n + 1,b,t => .no b (noN n b t)
theorem Qxj {ρ R : Type} {lp : Loops} {enc : ρ → R} (n : Nat) {b : Bool} {t : Tr ρ R} (h : b = true) (k : t.ok lp enc) : (yesN n b t).ok lp enc := by
 induction n with
 | zero => exact k
 | succ n ih => exact ⟨h,ih⟩
theorem noN_ok {ρ R : Type} {lp : Loops} {enc : ρ → R} (n : Nat) {b : Bool} {t : Tr ρ R} (h : b = false) (k : t.ok lp enc) : (noN n b t).ok lp enc := by
 induction n with
 | zero => exact k
 | succ n ih => exact ⟨h,ih⟩

def findLoop (r : Nat) : Code → Option Code
 | .seq a b => match findLoop r a with
  | some c => some c
  | none => findLoop r b
 | .cond _ a b => match findLoop r a with
  | some c => some c
  | none => findLoop r b
 | .block _ c | .scope c => findLoop r c
 | .loop c => if rid c = r then some c else findLoop r c
 | _ => none
def loopAt (P : Program) (f : FuncId) (r : Nat) : Code := (((P.funcs[f]?).bind (·.body)).bind fun c => findLoop r (unsc c)).getD .skip

abbrev w64 (x : Int) : Int := IntKind.i64.wrap x
def andI (k : IntKind) (x y : Int) : Int := k.wrap (BitVec.ofInt k.bits x &&& BitVec.ofInt k.bits y).toNat
def orI (k : IntKind) (x y : Int) : Int := k.wrap (BitVec.ofInt k.bits x ||| BitVec.ofInt k.bits y).toNat
def andNotI (k : IntKind) (x y : Int) : Int := k.wrap (BitVec.ofInt k.bits x &&& ~~~BitVec.ofInt k.bits y).toNat
def shlI (k : IntKind) (x y : Int) : Int := k.wrap (x * 2 ^ (min y.toNat k.bits))
def shrI (k : IntKind) (x y : Int) : Int := x.fdiv (2 ^ (min y.toNat k.bits))

section
variable {T : Type} {C : T → List AV}
theorem Qvu {l : List T} {n : Nat} {a : T} (h : l[n]? = some a) : (l.map C)[n]? = some (C a) := by rw [List.getElem?_map,h]; rfl
theorem Qjy {s : Nat} (h : ∀ a,(C a).length = s) (l : List T) : (l.map C).all (fun r => r.length == s) = true := by
 rw [List.all_eq_true]; intro r hr; obtain ⟨x,_,rfl⟩ := List.mem_map.1 hr; simp [h]
end
end Go.Ab
namespace Go.Ab
section
variable {α β γ A : Type}
def Le (x y : Option α) : Prop := ∀ r,x = some r → y = some r
theorem Le.refl (x : Option α) : Le x x := fun _ h => h
theorem Le.cond {b : Bool} {x y x' y' : Option α} (h1 : Le x x') (h2 : Le y y') : Le (bif b then x else y) (bif b then x' else y') := by cases b <;> assumption
theorem Le.bind {x x' : Option α} {g g' : α → Option β} (h : Le x x') (hg : ∀ a,Le (g a) (g' a)) : Le (x.bind g) (x'.bind g') := by
 intro r hr
 obtain ⟨a,ha,hr⟩ := Option.bind_eq_some_iff.1 hr
 rw [h a ha]; exact hg a r hr
theorem Le.sum {f f' : α → Option γ} {g g' : β → Option γ} (hf : ∀ a,Le (f a) (f' a)) (hg : ∀ a,Le (g a) (g' a)) (x : α ⊕ β) : Le (Sum.elim f g x) (Sum.elim f' g' x) := by
 cases x
 ·exact hf _
 ·exact hg _
theorem Le.iter {b b' : A → Option (A ⊕ α)} (h : ∀ a,Le (b a) (b' a)) : ∀ {j k : Nat} (hj : j ≤ k) (a : A),Le (iter b j a) (iter b' k a)
 | 0,_,_,a => fun r hr => by cases hr
 | j + 1,0,hj,a => absurd hj (by omega)
 | j + 1,k + 1,hj,a => by
  simp only [Ab.iter]
  refine Le.bind (h a) fun x => ?_
  cases x with
  | inl a' => exact Le.iter h (by omega) a'
  | inr r => exact .refl _
def Cv (F : Nat → Option α) (x : Option α) : Prop := (∀ k,Le (F k) (F (k + 1))) ∧ ∀ r,x = some r ↔ ∃ k,F k = some r
def two (x y : Option α) : Nat → Option α
 | 0 => x
 | _ + 1 => y
theorem Cv.two {x y : Option α} (h : Le x y) : Cv (Ab.two x y) y := ⟨fun k => by
 cases k with
 | zero => exact h
 | succ k => exact .refl _,fun r => ⟨fun e => ⟨1,e⟩,fun ⟨k,e⟩ => by
 cases k with
 | zero => exact h r e
 | succ k => exact e⟩⟩
theorem Cv.le {F : Nat → Option α} {x : Option α} (h : Cv F x) {j k : Nat} (hj : j ≤ k) : Le (F j) (F k) := by
 induction hj with
 | refl => exact .refl _
 | step _ ih => exact fun r e => h.1 _ r (ih r e)
theorem Cv.const (x : Option α) : Cv (fun _ => x) x := ⟨fun _ => .refl _,fun r => ⟨fun h => ⟨0,h⟩,fun ⟨_,h⟩ => h⟩⟩
theorem Cv.cond {b : Bool} {F G : Nat → Option α} {x y : Option α} (h1 : Cv F x) (h2 : Cv G y) : Cv (fun k => bif b then F k else G k) (bif b then x else y) := by cases b <;> assumption
theorem Cv.bind {F : Nat → Option α} {x : Option α} {G : Nat → α → Option β} {g : α → Option β} (h : Cv F x) (hg : ∀ a,Cv (fun k => G k a) (g a)) : Cv (fun k => (F k).bind (G k)) (x.bind g) := by
 refine ⟨fun k => Le.bind (h.1 k) fun a => (hg a).1 k,fun r => ⟨fun e => ?_,fun ⟨k,e⟩ => ?_⟩⟩
 ·obtain ⟨a,ha,hr⟩ := Option.bind_eq_some_iff.1 e
  obtain ⟨i,hi⟩ := (h.2 a).1 ha
  obtain ⟨j,hj⟩ := ((hg a).2 r).1 hr
  refine ⟨max i j,?_⟩
  show (F (max i j)).bind (G (max i j)) = some r
  rw [h.le (Nat.le_max_left i j) a hi]
  exact (hg a).le (Nat.le_max_right i j) r hj
 ·obtain ⟨a,ha,hr⟩ := Option.bind_eq_some_iff.1 e
  rw [(h.2 a).2 ⟨k,ha⟩]; exact ((hg a).2 r).2 ⟨k,hr⟩
theorem Cv.sum {F : Nat → α → Option γ} {f : α → Option γ} {G : Nat → β → Option γ} {g : β → Option γ} (hf : ∀ a,Cv (fun k => F k a) (f a)) (hg : ∀ a,Cv (fun k => G k a) (g a)) (x : α ⊕ β) :
  Cv (fun k => Sum.elim (F k) (G k) x) (Sum.elim f g x) := by
 cases x
 ·exact hf _
 ·exact hg _
theorem Cv.uniq {F : Nat → Option α} {x y : Option α} (h1 : Cv F x) (h2 : Cv F y) : x = y := by
 cases x with
 | some r => exact ((h2.2 r).2 ((h1.2 r).1 rfl)).symm
 | none => cases y with
  | none => rfl
  | some r => exact (h1.2 r).2 ((h2.2 r).1 rfl)
open Classical in
noncomputable def lim (F : Nat → Option α) : Option α := if h : ∃ r,∃ k,F k = some r then some h.choose else none
theorem Cv.lim {F : Nat → Option α} (h : ∀ k,Le (F k) (F (k + 1))) : Cv F (Ab.lim F) := by
 have hle : ∀ {j k : Nat},j ≤ k → Le (F j) (F k) := by
  intro j k hj
  induction hj with
  | refl => exact .refl _
  | step _ ih => exact fun r e => h _ r (ih r e)
 refine ⟨h,fun r => ?_⟩
 unfold Ab.lim
 split
 ·rename_i hx
  obtain ⟨i,hi⟩ := hx.choose_spec
  constructor
  ·intro e
   simp only [Option.some.injEq] at e
   rw [← e]; exact ⟨i,hi⟩
  ·rintro ⟨k,hk⟩
   have h1 := hle (Nat.le_max_left i k) _ hi
   have h2 := hle (Nat.le_max_right i k) _ hk
   rw [h1] at h2; exact h2
 ·rename_i hx
  constructor
  ·intro e; cases e
  ·rintro ⟨k,hk⟩; exact absurd ⟨r,k,hk⟩ hx
theorem Cv.shift {F : Nat → Option α} {x : Option α} (h : Cv F x) : Cv (fun k => F (k + 1)) x :=
 ⟨fun k => h.1 (k + 1),fun r => ⟨fun e => let ⟨k,hk⟩ := (h.2 r).1 e; ⟨k,h.1 k r hk⟩,fun ⟨k,hk⟩ => (h.2 r).2 ⟨k + 1,hk⟩⟩⟩
noncomputable def loopW (b : A → Option (A ⊕ α)) (a : A) : Option α := lim fun k => iter b k a
theorem Fj (b : A → Option (A ⊕ α)) (a : A) : Cv (fun k => iter b k a) (loopW b a) := .lim fun k => Le.iter (fun _ => .refl _) (Nat.le_succ k) a
theorem QK (b : A → Option (A ⊕ α)) (a : A) : loopW b a = (b a).bind (Sum.elim (loopW b) some) := by
 refine Cv.uniq (Fj b a).shift ?_
 have : Cv (fun k => (b a).bind (Sum.elim (fun a' => iter b k a') some)) ((b a).bind (Sum.elim (loopW b) some)) :=
  Cv.bind (.const _) fun x => Cv.sum (fun a' => Fj b a') (g := some) (G := fun _ => some) (fun r => .const (some r)) x
 have e : (fun k => iter b (k + 1) a) = fun k => (b a).bind (Sum.elim (fun a' => iter b k a') some) := by
  funext k
  simp only [Ab.iter]
  congr 1; funext x; cases x <;> rfl
 rw [e]; exact this
theorem QoJ {B : Nat → A → Option (A ⊕ α)} {b : A → Option (A ⊕ α)} (h : ∀ a,Cv (fun k => B k a) (b a)) {r : α} : ∀ (n : Nat) (a : A),iter b n a = some r → ∃ k,iter (B k) n a = some r
 | 0,_,e => by cases e
 | n + 1,a,e => by
  simp only [Ab.iter] at e
  obtain ⟨x,hx,e⟩ := Option.bind_eq_some_iff.1 e
  obtain ⟨i,hi⟩ := ((h a).2 x).1 hx
  cases x with
  | inr r' => cases e; exact ⟨i,by simp only [Ab.iter,hi,Option.bind_some]⟩
  | inl a' =>
   obtain ⟨j,hj⟩ := QoJ h n a' e
   refine ⟨max i j,?_⟩
   simp only [Ab.iter,(h a).le (Nat.le_max_left i j) _ hi,Option.bind_some]
   exact Le.iter (fun a => (h a).le (Nat.le_max_right i j)) (Nat.le_refl n) a' r hj
theorem Cv.iter {B : Nat → A → Option (A ⊕ α)} {b : A → Option (A ⊕ α)} (h : ∀ a,Cv (fun k => B k a) (b a)) (a : A) : Cv (fun k => iter (B k) k a) (loopW b a) := by
 refine ⟨fun k => Le.iter (fun a => (h a).1 k) (Nat.le_succ k) a,fun r => ⟨fun e => ?_,fun ⟨k,e⟩ => ?_⟩⟩
 ·obtain ⟨n,hn⟩ := ((Fj b a).2 r).1 e
  obtain ⟨k,hk⟩ := QoJ h n a hn
  exact ⟨max n k,Le.iter (fun a => (h a).le (Nat.le_max_right n k)) (Nat.le_max_left n k) a r hk⟩
 ·exact ((Fj b a).2 r).2 ⟨k,Le.iter (fun a r hr => ((h a).2 r).2 ⟨k,hr⟩) (Nat.le_refl k) a r e⟩
end
def eqS (x y : ByteArray) : Bool := x.toList == y.toList
theorem QiU (s : ByteArray) : ∀ (n i : Nat) (r : List UInt8),s.size - i = n → ByteArray.toList.loop s i r = r.reverse ++ s.data.toList.drop i
 | 0,i,r,h => by
  rw [ByteArray.toList.loop]
  have hs : s.data.toList.length = s.size := rfl
  rw [if_neg (by omega),List.drop_eq_nil_of_le (by omega),List.append_nil]
 | n + 1,i,r,h => by
  rw [ByteArray.toList.loop]
  have hs : s.data.toList.length = s.size := rfl
  rw [if_pos (by omega),QiU s n (i+1) _ (by omega)]
  rw [List.drop_eq_getElem_cons (by omega : i < s.data.toList.length)]
  simp [ByteArray.get!,getElem!_def,Array.getElem?_eq_getElem (by have : s.data.size = s.size := rfl; omega : i < s.data.size)]
theorem QtO (s : ByteArray) : s.toList = s.data.toList := by
 unfold ByteArray.toList; rw [QiU s s.size 0 [] (by omega)]; simp
abbrev bl (s : ByteArray) : List UInt8 := s.data.toList
theorem bl_inj {a b : ByteArray} (h : bl a = bl b) : a = b := by cases a; cases b; simpa using h
theorem Xb {x y : ByteArray} : eqS x y = true ↔ x = y := by
 simp only [eqS,QtO,beq_iff_eq]
 exact ⟨bl_inj,fun h => h ▸ rfl⟩
theorem Qsn {x y : ByteArray} : eqS x y = decide (bl x = bl y) := by
 rw [Bool.eq_iff_iff,Xb,decide_eq_true_iff]; exact ⟨fun h => h ▸ rfl,bl_inj⟩
theorem Qxk (s : ByteArray) : s.size = (bl s).length := rfl
theorem QtP (a b : ByteArray) : bl (a ++ b) = bl a ++ bl b := by simp [bl,ByteArray.data_append]
theorem Qso (s : ByteArray) (i j : Nat) : bl (s.extract i j) = ((bl s).take j).drop i := by
 simp [bl,ByteArray.data_extract,List.extract_eq_take_drop,Array.toList_extract,List.drop_take]
theorem Qxl (s : ByteArray) (i : Nat) (d : UInt8) : s.data.getD i d = (bl s).getD i d := by simp [bl,Array.getD_eq_getD_getElem?]
end Go.Ab
namespace Go.Ab
section
variable {α1 α2 α3 α4 α5 α6 α7 α8 α9 β : Type}
abbrev Cv1 (C : Nat → α1 → Option β) (D : α1 → Option β) : Prop := ∀ x1,Cv (fun k => C k x1) (D x1)
abbrev Le1 (C : α1 → Option β) (D : α1 → Option β) : Prop := ∀ x1,Le (C x1) (D x1)
theorem tw1 {C D : α1 → Option β} (h : Le1 C D) : Cv1 (fun k x1 => two (C x1) (D x1) k) D := fun x1 => .two (h x1)
abbrev Cv2 (C : Nat → α1 → α2 → Option β) (D : α1 → α2 → Option β) : Prop := ∀ x1 x2,Cv (fun k => C k x1 x2) (D x1 x2)
abbrev Le2 (C : α1 → α2 → Option β) (D : α1 → α2 → Option β) : Prop := ∀ x1 x2,Le (C x1 x2) (D x1 x2)
theorem tw2 {C D : α1 → α2 → Option β} (h : Le2 C D) : Cv2 (fun k x1 x2 => two (C x1 x2) (D x1 x2) k) D := fun x1 x2 => .two (h x1 x2)
abbrev Cv3 (C : Nat → α1 → α2 → α3 → Option β) (D : α1 → α2 → α3 → Option β) : Prop := ∀ x1 x2 x3,Cv (fun k => C k x1 x2 x3) (D x1 x2 x3)
abbrev Le3 (C : α1 → α2 → α3 → Option β) (D : α1 → α2 → α3 → Option β) : Prop := ∀ x1 x2 x3,Le (C x1 x2 x3) (D x1 x2 x3)
theorem tw3 {C D : α1 → α2 → α3 → Option β} (h : Le3 C D) : Cv3 (fun k x1 x2 x3 => two (C x1 x2 x3) (D x1 x2 x3) k) D := fun x1 x2 x3 => .two (h x1 x2 x3)
theorem cst {x : Option β} : Cv (fun _ => x) x := .const x
theorem Cv.un {F : Nat → Option β} {x : Option β} (h0 : F 0 = none) (h : Cv (fun k => F (k + 1)) x) : Cv F x := by
 refine ⟨fun k => ?_,fun r => ⟨fun e => ?_,fun ⟨k,e⟩ => ?_⟩⟩
 ·cases k with
  | zero => intro r e; rw [h0] at e; cases e
  | succ k => exact h.1 k
 ·obtain ⟨k,hk⟩ := (h.2 r).1 e
  exact ⟨k + 1,hk⟩
 ·cases k with
  | zero => rw [h0] at e; cases e
  | succ k => exact (h.2 r).2 ⟨k,e⟩
end
abbrev zz (b : ByteArray) : Int := ((b.size : Nat) : Int)
abbrev gb (b : ByteArray) (i : Int) : Int := ((b.data.getD (Int.toNat i) 0).toNat : Int)
abbrev cu (b : ByteArray) (i j : Int) : ByteArray := b.extract (Int.toNat i) (Int.toNat j)
abbrev in1 (i n : Int) : Bool := decide (0 ≤ i ∧ i < n)
abbrev in2 (i j n : Int) : Bool := decide (0 ≤ i ∧ i ≤ j ∧ j ≤ n)
abbrev xs (b : ByteArray) : AV := .sc (.string b)
abbrev xi (n : Int) : AV := .sc (.int .i64 n)
abbrev xb (n : Int) : AV := .sc (.int .u8 n)
abbrev xo (b : Bool) : AV := .sc (.bool b)
abbrev zi (n : Nat) : Int := (n : Int)
abbrev i0 : Int := 0
end Go.Ab
namespace Go.Ab
open M
section
variable {α β : Type}
theorem QtQ (m : M α) (f : α → M β) : ∀ s,(m.bind f).runL s = (m.runL s).bind fun p => ((f p.1).runL p.2.1).map fun q => (q.1,q.2.1,⟨p.2.2.r ++ q.2.2.r,p.2.2.w ++ q.2.2.w⟩) := by
  induction m with
  | ret a => intro s; simp only [M.bind,M.runL,Option.bind_some]; cases (f a).runL s <;> rfl
  | fail => intro s; rfl
  | getT t k ih => intro s; simp only [M.bind,M.runL]; cases get t s.env with
    | none => rfl
    | some v => simp only [ih v s]; cases (k v).runL s with
      | none => rfl
      | some p => simp only [Option.map_some,Option.bind_some,Option.map_map]; rfl
  | setT t v k ih => intro s; simp only [M.bind,M.runL]; split
                     · rw [ih]; cases k.runL { s with env := ins t v s.env } with
                       | none => rfl
                       | some p => simp only [Option.map_some,Option.bind_some,Option.map_map]; rfl
                     · rfl
  | getO i k ih => intro s; simp only [M.bind,M.runL]; cases get i s.heap with
    | none => rfl
    | some v => simp only [ih v s]; cases (k v).runL s with
      | none => rfl
      | some p => simp only [Option.map_some,Option.bind_some,Option.map_map]; rfl
  | setO i o k ih => intro s; simp only [M.bind,M.runL]; rw [ih]; cases k.runL { s with heap := ins i o s.heap } with
    | none => rfl
    | some p => simp only [Option.map_some,Option.bind_some,Option.map_map]; rfl
  | delO i k ih => intro s; simp only [M.bind,M.runL]; rw [ih]; cases k.runL { s with heap := del i s.heap } with
    | none => rfl
    | some p => simp only [Option.map_some,Option.bind_some,Option.map_map]; rfl
  | q x k ih => intro s; simp only [M.bind,M.runL]; cases x.ans with
    | none => rfl
    | some v => exact ih v s
theorem Cv.cast {F F' : Nat → Option α} {x x' : Option α} (h : Cv F x) (hF : ∀ k,F' k = F k) (hx : x' = x) : Cv F' x' := by
 obtain rfl : F' = F := funext hF
 rw [hx]; exact h
theorem Cv.map {F : Nat → Option α} {x : Option α} {g : α → β} (h : Cv F x) : Cv (fun k => (F k).map g) (x.map g) := by
 have := Cv.bind h (G := fun _ a => some (g a)) (g := fun a => some (g a)) fun a => .const _
 simpa only [Option.map_eq_bind,Function.comp_def] using this
def MCv (m : Nat → M α) (m' : M α) : Prop := ∀ s,Cv (fun k => (m k).runL s) (m'.runL s)
theorem MCv.const (m : M α) : MCv (fun _ => m) m := fun s => .const _
theorem MCv.bind {m : Nat → M α} {m' : M α} {f : Nat → α → M β} {f' : α → M β} (h : MCv m m') (hf : ∀ a,MCv (fun k => f k a) (f' a)) : MCv (fun k => (m k).bind (f k)) (m'.bind f') := fun s => by
 simp only [QtQ]
 exact .bind (h s) fun p => .map (hf _ _)
theorem MCv.run {m : Nat → M α} {m' : M α} (h : MCv m m') (s : St) : Cv (fun k => (m k).run s) (m'.run s) := by
 simp only [QiK]; exact .map (h s)
end
section
variable {P : Program} {kd : TypeId → List Nat} {cs : Nat → CallF} {W : CallF} (hW : ∀ f a H,Cv (fun k => cs k f a H) (W f a H))
include hW
theorem Qvv (b : Nat) (f : FuncId) (args : List AV) : MCv (fun k => callM (cs k) b f args) (callM W b f args) := by
 refine .bind (.const _) fun acc s => ?_
 have := Cv.bind (hW f (renL (posOf acc) args) (number (posOf acc) 0 acc)) (G := fun _ p => ((writeOld (backOf acc b) p.2 0 acc).bind fun _ => (writeNew (backOf acc b) p.2 acc.length b (min p.2.length slots)).bind fun _ => M.ret (ren (backOf acc b) p.1)).runL s) fun p => .const _
 refine this.cast (fun k => ?_) ?_
 ·simp only [M.runL,Qn.ans]; cases cs k f (renL (posOf acc) args) (number (posOf acc) 0 acc) <;> rfl
 ·simp only [M.runL,Qn.ans]; cases W f (renL (posOf acc) args) (number (posOf acc) 0 acc) <;> rfl
theorem aop_cv (b : Nat) (o : Oper) : MCv (fun k => aop P kd (cs k) b o) (aop P kd W b o) := by
 have const : (∀ call call',aop P kd call b o = aop P kd call' b o) → MCv (fun k => aop P kd (cs k) b o) (aop P kd W b o) := fun h => by
  have : (fun k => aop P kd (cs k) b o) = fun _ => aop P kd W b o := funext fun k => h _ _
  rw [this]; exact .const _
 cases ho : o.op with
 | call c =>
  cases hc : c.callee with
  | value f =>
   have e : ∀ call,aop P kd call b o = (opd f).bind fun v => match v with
    | .fn (.func g) first cap => if entersP P g then (opds c.args.toList).bind fun vs => (aop.handArgs (kd (1000000 + g)).isEmpty vs).bind fun vs => callM call b g (first ++ vs ++ cap) else .fail
    | _ => .fail := fun call => by unfold aop; rw [ho]; simp only [hc]; rfl
   simp only [e]
   refine .bind (.const _) fun v => ?_
   split
   ·split
    ·exact .bind (.const _) fun vs => .bind (.const _) fun vs => Qvv hW _ _ _
    ·exact .const _
   ·exact .const _
  | builtin bi => exact const fun _ _ => by unfold aop; rw [ho]; simp only [hc]; cases bi <;> rfl
  | invoke i m => exact const fun _ _ => by unfold aop; rw [ho]; simp only [hc]
 | makeFunc f _ _ => exact const fun _ _ => by unfold aop; rw [ho]; cases f <;> rfl
 | next x b => exact const fun _ _ => by unfold aop; rw [ho]; cases b <;> rfl
 | _ => exact const fun _ _ => by unfold aop; rw [ho]
theorem QoK (b : Nat) (ops : Array Oper) (i : Nat) : MCv (fun k => stepM P kd (cs k) b ops i) (stepM P kd W b ops i) := by
 unfold stepM
 split
 ·exact .const _
 ·refine .bind (.const _) fun w => ?_
  split
  ·exact .bind (aop_cv hW _ _) fun v => .const _
  ·exact .const _
end
theorem QmN {st : Nat → Nat → M Unit} {st' : Nat → M Unit} (h : ∀ i,MCv (fun k => st k i) (st' i)) : ∀ (l : List Nat) (s : St),Cv (fun k => seqOps (st k) l s) (seqOps st' l s)
 | [],s => .const _
 | i :: l,s => by
  have e : ∀ (g : Nat → M Unit),seqOps g (i :: l) s = ((g i).run s).bind fun p => seqOps g l p.2 := fun g => by simp only [seqOps]; cases (g i).run s <;> rfl
  simp only [e]
  exact .bind ((h i).run s) fun p => QmN h l _
theorem QmO {st : Nat → Nat → M Unit} {st' : Nat → M Unit} (h : ∀ i,MCv (fun k => st k i) (st' i)) : ∀ (l : List Nat) (s : St),Cv (fun k => runOps (st k) l s) (runOps st' l s)
 | [],s => .const _
 | i :: l,s => by
  have e : ∀ (g : Nat → M Unit),runOps g (i :: l) s = ((g i).runL s).bind fun p => (runOps g l p.2.1).map fun q => (q.1,(i,p.2.2) :: q.2) := fun g => by simp only [runOps]; cases (g i).runL s <;> rfl
  simp only [e]
  exact .bind (h i s) fun p => .map (QmO h l _)
section
variable {P : Program} {kd : TypeId → List Nat} {cs : Nat → CallF} {W : CallF}
theorem Qkj (hW : ∀ f a H,Cv (fun k => cs k f a H) (W f a H)) (ops : Array Oper) (draw : Bool) (s : St) : Cv (fun k => regionE P kd (cs k) ops draw s) (regionE P kd W ops draw s) := by
 cases draw with
 | false => simp only [regionE,Bool.false_eq_true,if_false]; exact .map (QmN (fun i => QoK hW _ _ _) _ _)
 | true =>
  have e : ∀ call,regionE P kd call ops true s = (runOps (stepM P kd call s.nx ops) (List.range ops.size) s).bind fun p => if edgesOk ops && okOrder (befL ops.toList []) p.2 then some { p.1 with nx := s.nx + slots * ops.size } else none := fun call => by
   simp only [regionE,if_true]; cases runOps (stepM P kd call s.nx ops) (List.range ops.size) s <;> rfl
  simp only [e]
  exact .bind (QmO (fun i => QoK hW _ _ _) _ _) fun p => .const _
def CLe (c c' : CallF) : Prop := ∀ f a H,Le (c f a H) (c' f a H)
theorem Qsp {c c' : CallF} (h : CLe c c') (ops : Array Oper) (draw : Bool) (s : St) : Le (regionE P kd c ops draw s) (regionE P kd c' ops draw s) := by
 have := (Qkj (P := P) (kd := kd) (cs := fun k f a H => two (c f a H) (c' f a H) k) (W := c') (fun f a H => .two (h f a H)) ops draw s).1 0
 exact this
theorem Qjz {b b' : St → Option (Ex × St)} (h : ∀ s,Le (b s) (b' s)) {head : St → Option St} {tail : Ex → St → Option St} : ∀ {j k : Nat} (hj : j ≤ k) (s : St),Le (loopE b head tail j s) (loopE b' head tail k s)
 | 0,_,_,s => fun r hr => by cases hr
 | j + 1,0,hj,s => absurd hj (by omega)
 | j + 1,k + 1,hj,s => by
  simp only [loopE]
  cases head s with
  | none => exact .refl _
  | some s =>
   simp only []
   intro r hr
   cases hb : b s with
   | none => rw [hb] at hr; cases hr
   | some p =>
    rw [hb] at hr; rw [h s p hb]
    obtain ⟨ex,s'⟩ := p
    cases ex with
    | norm => exact Qjz h (by omega) s' r hr
    | _ => exact hr
theorem Qdp {c c' : CallF} (h : CLe c c') {m : Nat} {an : Nat → Ann} {j k : Nat} (hj : j ≤ k) : ∀ (x : Code) (s : St),Le (evalCode P kd c m an j x s) (evalCode P kd c' m an k x s) := by
 intro x
 induction x with
 | region id ops draw =>
  intro s r hr
  simp only [evalCode] at hr ⊢
  obtain ⟨t,ht,hr⟩ := Option.map_eq_some_iff.1 hr
  rw [Qsp h ops draw s t ht]; exact congrArg some hr
 | seq a b iha ihb =>
  intro s r hr
  simp only [evalCode] at hr ⊢
  cases ha : evalCode P kd c m an j a s with
  | none => rw [ha] at hr; cases hr
  | some p =>
   rw [ha] at hr; rw [iha s p ha]
   obtain ⟨ex,s'⟩ := p
   cases ex with
   | norm => exact ihb s' r hr
   | _ => exact hr
 | cond x a b iha ihb =>
  intro s r hr
  simp only [evalCode] at hr ⊢
  split at hr
  ·split at hr
   ·rename_i h1; rw [h1]; exact iha _ r hr
   ·rename_i h1; simp only [h1]; exact ihb _ r hr
  ·cases hr
 | block id a ih =>
  intro s r hr
  simp only [evalCode] at hr ⊢
  cases ha : evalCode P kd c m an j a s with
  | none => rw [ha] at hr; cases hr
  | some p => rw [ha] at hr; rw [ih s p ha]; exact hr
 | loop a ih => intro s; simp only [evalCode]; exact Qjz ih hj s
 | _ => intro s; exact .refl _
theorem QtR {c c' : CallF} (h : CLe c c') {m : Nat} {an : Nat → Ann} : ∀ {j k : Nat} (hj : j ≤ k) (x : Code) (s : St),Le (loopsF P kd c m an j x s) (loopsF P kd c' m an k x s)
 | 0,_,_,x,s => fun r hr => by cases hr
 | j + 1,0,hj,x,s => absurd hj (by omega)
 | j + 1,k + 1,hj,x,s => by
  intro r hr
  simp only [loopsF] at hr ⊢
  cases ha : evalCode P kd c m an (j + 1) x s with
  | none => rw [ha] at hr; cases hr
  | some p =>
   rw [ha] at hr; rw [Qdp h hj x s p ha]
   obtain ⟨ex,s'⟩ := p
   cases ex with
   | norm => exact Qjz (fun s => Qdp h hj x s) (by omega) s' r hr
   | _ => exact hr
theorem Qvw {c c' : CallF} (h : CLe c c') {g : Cfg} {j k : Nat} (hj : j ≤ k) (f : FuncId) (args : List AV) (H : Heap) : Le (bodyE P c g j f args H) (bodyE P c' g k f args H) := by
 intro r hr
 rw [← Qgz] at hr
 unfold bodyE at *
 rw [Qgz] at hr
 unfold bodyE at hr
 cases hf : P.funcs[f]? with
 | none => rw [hf] at hr; cases hr
 | some fn =>
  rw [hf] at hr; simp only [] at hr ⊢
  cases hb : fn.body with
  | none => rw [hb] at hr; cases hr
  | some x =>
   rw [hb] at hr; simp only [] at hr ⊢
   by_cases hl : args.length ≤ fn.ntmps
   ·rw [if_pos hl] at hr ⊢
    cases ha : evalCode P g.kd c H.length (g.an f) j (unsc x) { n := fn.ntmps,nx := H.length,env := enterE 0 args,heap := H } with
    | none => rw [ha] at hr; cases hr
    | some p => rw [ha] at hr; rw [Qdp h hj _ _ p ha]; exact hr
   ·rw [if_neg hl] at hr; cases hr
theorem QgA (P : Program) (g : Cfg) : ∀ k,CLe (evalFn P g k) (evalFn P g (k + 1))
 | 0 => fun f a H r hr => by cases hr
 | k + 1 => fun f a H => by
  rw [evalFn,evalFn]
  cases g.ext f with
  | some x => exact .refl _
  | none => exact Qvw (QgA P g k) (Nat.le_succ k) f a H
noncomputable def evW (P : Program) (g : Cfg) : CallF := fun f a H => lim fun k => evalFn P g k f a H
theorem evW_cv (P : Program) (g : Cfg) (f : FuncId) (a : List AV) (H : Heap) : Cv (fun k => evalFn P g k f a H) (evW P g f a H) := .lim fun k => QgA P g k f a H
noncomputable def lpW (P : Program) (g : Cfg) (m : Nat) (an : Nat → Ann) : Loops := fun c σ => lim fun k => loopsF P g.kd (evalFn P g k) m an k c σ
theorem lpW_cv (P : Program) (g : Cfg) (m : Nat) (an : Nat → Ann) (c : Code) (σ : St) : Cv (fun k => loopsF P g.kd (evalFn P g k) m an k c σ) (lpW P g m an c σ) := .lim fun k => QtR (QgA P g k) (Nat.le_succ k) c σ
theorem QoL {R : Type} {lp : Nat → Loops} {lw : Loops} (hW : ∀ f a H,Cv (fun k => cs k f a H) (W f a H)) (hl : ∀ c σ,Cv (fun k => lp k c σ) (lw c σ)) {m : Nat} {an : Nat → Ann} : ∀ (x : Code) (s : St) (K : Nat → Ex → St → Tm R) (K' : Ex → St → Tm R),
  (∀ ex s,Cv (fun k => (K k ex s).run (lp k)) ((K' ex s).run lw)) → Cv (fun k => (codeT P kd (cs k) m an x s (K k)).run (lp k)) ((codeT P kd W m an x s K').run lw) := by
 intro x
 induction x with
 | skip => intro s K K' hK; exact hK _ _
 | region id ops draw =>
  intro s K K' hK
  simp only [codeT,QiS]
  exact .bind (Qkj hW ops draw s) fun p => hK _ _
 | seq a b iha ihb =>
  intro s K K' hK
  simp only [codeT]
  refine iha s _ _ fun ex s => ?_
  cases ex with
  | norm => exact ihb s K K' hK
  | _ => exact hK _ _
 | cond x a b iha ihb =>
  intro s K K' hK
  simp only [codeT,tm_run]
  refine .bind (.const _) fun p => ?_
  split
  ·simp only [Tm.run,Qn.ans]
   split
   ·exact iha _ K K' hK
   ·exact ihb _ K K' hK
  ·exact .const _
 | block id a ih =>
  intro s K K' hK
  simp only [codeT]
  refine ih s _ _ fun ex s => ?_
  cases ex with
  | norm => exact hK _ _
  | exit j => simp only []; split <;> exact hK _ _
  | ret => exact hK _ _
 | loop a ih =>
  intro s K K' hK
  simp only [codeT]
  cases headS m (an (rid a)).keep (an (rid a)).own (an (rid a)).full s with
  | none => exact .const _
  | some σ =>
   have e : ∀ (lp : Loops) (K : Ex → St → Tm R),(Tm.loop a σ K).run lp = (lp a σ).bind fun p => (K p.1 p.2).run lp := fun lp K => by simp only [Tm.run]; cases lp a σ <;> rfl
   simp only [e]
   exact .bind (hl a σ) fun p => hK _ _
 | exit id => intro s K K' hK; exact hK _ _
 | ret => intro s K K' hK; exact hK _ _
 | _ => intro s K K' hK; exact .const _
theorem Qvx (P : Program) (g : Cfg) (f : FuncId) (args : List AV) (H : Heap) : Cv (fun k => bodyE P (evalFn P g k) g k f args H) ((bodyT P (evW P g) g f args H).run (lpW P g H.length (g.an f))) := by
 simp only [← Qgz]
 unfold bodyT
 cases P.funcs[f]? with
 | none => exact .const _
 | some fn =>
  simp only []
  cases fn.body with
  | none => exact .const _
  | some c =>
   simp only []
   split
   ·refine QoL (evW_cv P g) (lpW_cv P g _ _) _ _ _ _ fun ex s => ?_
    cases ex with
    | exit j => exact .const _
    | _ => simp only [tm_run]; exact .bind (.const _) fun p => .const _
   ·exact .const _
theorem evW_eq {g : Cfg} {f : FuncId} (hg : g.ext f = none) (args : List AV) (H : Heap) : evW P g f args H = (bodyT P (evW P g) g f args H).run (lpW P g H.length (g.an f)) := by
 refine Cv.uniq (evW_cv P g f args H).shift ?_
 simp only [evalFn,hg]
 exact Qvx P g f args H
theorem FI {g : Cfg} {f : FuncId} {x : List AV → Heap → Option (AV × Heap)} (hg : g.ext f = some x) (args : List AV) (H : Heap) : evW P g f args H = x args H := by
 refine Cv.uniq (evW_cv P g f args H).shift ?_
 simp only [evalFn,hg]
 exact .const _
theorem fnW {ρ : Type} {g : Cfg} {f : FuncId} {args : List AV} {H : Heap} {enc : ρ → AV × Heap} (hg : g.ext f = none) (tr : Tr ρ (AV × Heap)) (hn : tr.norm (bodyT P (evW P g) g f args H) = tr)
  (ho : tr.ok (lpW P g H.length (g.an f)) enc) {r : ρ} (hr : tr.den = some r) : evW P g f args H = some (enc r) := by
 rw [evW_eq hg]; exact tr.sound _ hn ho r hr
def rndB (round : St → Option (Ex × St)) (σ : St) : Option (St ⊕ (Ex × St)) := (round σ).map fun p => match p with
 | (.norm,s) => .inl s
 | p => .inr p
theorem Qdq (round : St → Option (Ex × St)) : ∀ (n : Nat) (σ : St),roundsF round n σ = iter (rndB round) n σ
 | 0,σ => rfl
 | n + 1,σ => by
  simp only [roundsF,iter,rndB]
  cases round σ with
  | none => rfl
  | some p =>
   obtain ⟨ex,s⟩ := p
   cases ex with
   | norm => exact Qdq round n s
   | _ => rfl
theorem lpW_eq {g : Cfg} {m : Nat} {an : Nat → Ann} (c : Code) (σ : St) : lpW P g m an c σ = loopW (rndB fun σ => (roundT P g.kd (evW P g) m an c σ).run (lpW P g m an)) σ := by
 refine Cv.uniq (lpW_cv P g m an c σ) ?_
 have := Cv.iter (B := fun k => rndB fun σ => (roundT P g.kd (evalFn P g k) m an c σ).run (loopsF P g.kd (evalFn P g k) m an k)) (b := rndB fun σ => (roundT P g.kd (evW P g) m an c σ).run (lpW P g m an)) (fun σ => ?_) σ
 ·refine this.cast (fun k => ?_) rfl
  rw [← Qdq,← QnB]
 ·refine .map (QoL (evW_cv P g) (lpW_cv P g _ _) _ _ _ _ fun ex s => ?_)
  cases ex with
  | norm => simp only []; split <;> exact .const _
  | _ => simp only []; split <;> exact .const _
theorem Qvy {A α : Type} {g : Cfg} {m : Nat} {an : Nat → Ann} {c : Code} {σ : A → St} {e : α → Ex × St} {b : A → Option (A ⊕ α)} (tr : A → Tr (A ⊕ α) (Ex × St)) (hd : ∀ a,(tr a).den = b a)
  (hn : ∀ a,(tr a).norm (roundT P g.kd (evW P g) m an c (σ a)) = tr a) (ho : ∀ a,(tr a).ok (lpW P g m an) (Sum.elim (fun a => (.norm,σ a)) e)) (he : ∀ r,(e r).1 ≠ .norm) {a : A} {r : α} (hr : loopW b a = some r) :
  lpW P g m an c (σ a) = some (e r) := by
 obtain ⟨n,hn'⟩ := ((Fj b a).2 r).1 hr
 rw [lpW_eq,((Fj _ _).2 (e r))]
 refine ⟨n,?_⟩
 show iter _ n (σ a) = some (e r)
 rw [← Qdq]
 refine QiT (b := b) (fun a => ⟨fun a' ha => ?_,fun r ha => ⟨?_,he r⟩⟩) n a r hn'
 ·exact (tr a).sound _ (hn a) (ho a) (.inl a') ((hd a).trans ha)
 ·exact (tr a).sound _ (hn a) (ho a) (.inr r) ((hd a).trans ha)
theorem fnP {ρ : Type} {g : Cfg} {f : FuncId} {args : List AV} {H : Heap} {enc : ρ → AV × Heap} (tr : Tr ρ (AV × Heap)) (ho : tr.ok (lpW P g H.length (g.an f)) enc) {r : ρ} (hr : tr.den = some r)
  (hg : g.ext f = none := by rfl) (hn : tr.norm (bodyT P (evW P g) g f args H) = tr := by kernel_rfl) : evW P g f args H = some (enc r) := fnW hg tr hn ho hr
theorem lpP {A α : Type} {g : Cfg} {m : Nat} {an : Nat → Ann} {c : Code} {σ : A → St} {e : α → Ex × St} {b : A → Option (A ⊕ α)} {a : A} {r : α} (hr : loopW b a = some r) (tr : A → Tr (A ⊕ α) (Ex × St))
  (ho : ∀ a,(tr a).ok (lpW P g m an) (Sum.elim (fun a => (.norm,σ a)) e)) (hd : ∀ a,(tr a).den = b a := by intro _; rfl)
  (hn : ∀ a,(tr a).norm (roundT P g.kd (evW P g) m an c (σ a)) = tr a := by intro _; kernel_rfl)
  (he : ∀ r,(e r).1 ≠ .norm := by
   first | (intro r; exact fun h => Ex.noConfusion h) | (rintro (r | r) <;> exact fun h => Ex.noConfusion h) | (rintro (r | r | r) <;> exact fun h => Ex.noConfusion h)) :
  lpW P g m an c (σ a) = some (e r) := Qvy tr hd hn ho he hr
theorem itP {A α : Type} {b : A → Option (A ⊕ α)} {k : Nat} {a : A} {r : α} (hr : iter b k a = some r) : loopW b a = some r := ((Fj b a).2 r).2 ⟨k,hr⟩
theorem runP {g : Cfg} {f : FuncId} {args : List AV} {H : Heap} {x : AV × Heap} (h : evW P g f args H = some x) : ∃ k,evalFn P g k f args H = some x := ((evW_cv P g f args H).2 x).1 h
end
section
variable {α1 α2 α3 α4 α5 α6 α7 α8 α9 β : Type}
theorem ks1 {x : α1 → Option β} : Cv1 (fun _ => x) x := fun _ => .const _
theorem ks2 {x : α1 → α2 → Option β} : Cv2 (fun _ => x) x := fun _ _ => .const _
theorem ks3 {x : α1 → α2 → α3 → Option β} : Cv3 (fun _ => x) x := fun _ _ _ => .const _
end
end Go.Ab
namespace Go.Ab
def Pn (Γ : Prop) (lp : Loops) {ρ R : Type} (enc : ρ → R) : Type 1 := {t : Tr ρ R // Γ → t.ok lp enc}
structure Rw (α : Type) where
 C : α → List AV
 R : List α → List (List AV)
 map : ∀ l,l.map C = R l
 n : Nat
 len : ∀ a,(C a).length = n
theorem Rw.get {α : Type} (E : Rw α) {l : List α} {i : Nat} {a : α} (h : l[i]? = some a) : (E.R l)[i]? = some (E.C a) := by rw [← E.map]; exact Qvu h
theorem Rw.length {α : Type} (E : Rw α) (l : List α) : (E.R l).length = l.length := by rw [← E.map,List.length_map]
theorem Rw.append {α : Type} (E : Rw α) (a b : List α) : E.R a ++ E.R b = E.R (a ++ b) := by simp only [← E.map,List.map_append]
theorem Rw.set {α : Type} (E : Rw α) (l : List α) (i : Nat) (a : α) : (E.R l).set i (E.C a) = E.R (l.set i a) := by simp only [← E.map,List.map_set]
theorem Rw.all {α : Type} (E : Rw α) (l : List α) : decide ((E.R l).all (fun r => r.length == E.n) = true) = true := decide_eq_true (by rw [← E.map]; exact Qjy E.len l)
section
variable {Γ : Prop} {lp : Loops} {ρ R : Type} {enc : ρ → R} {α β γ : Type}
def pF : Pn Γ lp enc := ⟨.fail,fun _ => trivial⟩
def pR (x : ρ) : Pn Γ lp enc := ⟨.ret x (enc x),fun _ => rfl⟩
def pB (c b : Bool) (h : c = b) (A : Pn (Γ ∧ b = true) lp enc) (B : Pn (Γ ∧ b = false) lp enc) : Pn Γ lp enc := ⟨.ask c b A.1 B.1,fun g => ⟨h,fun q => A.2 ⟨g,q⟩,fun q => B.2 ⟨g,q⟩⟩⟩
def pA (b : Bool) (A : Pn (Γ ∧ b = true) lp enc) (B : Pn (Γ ∧ b = false) lp enc) : Pn Γ lp enc := pB b b rfl A B
def pY (b : Bool) (h : Γ → b = true) (T : Pn Γ lp enc) : Pn Γ lp enc := ⟨.yes b T.1,fun g => ⟨h g,T.2 g⟩⟩
def pN (b : Bool) (h : Γ → b = false) (T : Pn Γ lp enc) : Pn Γ lp enc := ⟨.no b T.1,fun g => ⟨h g,T.2 g⟩⟩
def pU (b : Bool) (h : b = true) (T : Pn Γ lp enc) : Pn Γ lp enc := pY b (fun _ => h) T
def pV (b : Bool) (h : b = false) (T : Pn Γ lp enc) : Pn Γ lp enc := pN b (fun _ => h) T
def pYN (n : Nat) (b : Bool) (h : Γ → b = true) (T : Pn Γ lp enc) : Pn Γ lp enc := ⟨yesN n b T.1,fun g => Qxj n (h g) (T.2 g)⟩
def pNN (n : Nat) (b : Bool) (h : Γ → b = false) (T : Pn Γ lp enc) : Pn Γ lp enc := ⟨noN n b T.1,fun g => noN_ok n (h g) (T.2 g)⟩
def pW (o : Option (List AV)) (m : Option α) (en : α → List AV) (h : ∀ a,m = some a → o = some (en a)) (k : α → Pn Γ lp enc) : Pn Γ lp enc := ⟨.row o m en fun a => (k a).1,fun g a e => ⟨h a e,(k a).2 g⟩⟩
def pI (E : Rw α) (l : List α) (i : Int) (k : α → Pn Γ lp enc) : Pn Γ lp enc := pW ((E.R l)[Int.toNat i]?) (l[Int.toNat i]?) E.C (fun _ => E.get) k
def pG (E : Rw α) (l : List α) (i : Int) (A : Pn (Γ ∧ decide (0 ≤ i ∧ i < ((l.length : Nat) : Int)) = true) lp enc) (B : Pn (Γ ∧ decide (0 ≤ i ∧ i < ((l.length : Nat) : Int)) = false) lp enc) : Pn Γ lp enc :=
 pB (decide (0 ≤ i ∧ i < (((E.R l).length : Nat) : Int))) (decide (0 ≤ i ∧ i < ((l.length : Nat) : Int))) (by rw [E.length]) A B
def pZ (l l' : List (List AV)) (h : l = l') (T : Pn Γ lp enc) : Pn Γ lp enc := ⟨.rows l l' T.1,fun g => ⟨h,T.2 g⟩⟩
def pP (E : Rw α) (a b : List α) (T : Pn Γ lp enc) : Pn Γ lp enc := pZ (E.R a ++ E.R b) (E.R (a ++ b)) (E.append a b) T
def pM (n n' : Nat) (h : n = n') (T : Pn Γ lp enc) : Pn Γ lp enc := ⟨.num n n' T.1,fun g => ⟨h,T.2 g⟩⟩
def pH (E : Rw α) (l : List α) (T : Pn Γ lp enc) : Pn Γ lp enc := pM (E.R l).length l.length (E.length l) T
def pJ (E : Rw α) (l : List α) (T : Pn Γ lp enc) : Pn Γ lp enc := pU (decide ((E.R l).all (fun r => r.length == E.n) = true)) (E.all l) T
def pQ (E : Rw α) (by_ : Nat) (l x : List α) (T : Pn (Γ ∧ decide ((l.length + x.length) * by_ ≤ most) = true) lp enc) : Pn Γ lp enc :=
 pJ E x (pB (decide (((E.R l).length + (E.R x).length) * by_ ≤ most)) (decide ((l.length + x.length) * by_ ≤ most)) (by rw [E.length,E.length]) (pP E l x T) pF)
def pT (o m : Option (List UInt8)) (h : ∀ a,m = some a → o = some a) (k : List UInt8 → Pn Γ lp enc) : Pn Γ lp enc := ⟨.byt o m fun a => (k a).1,fun g a e => ⟨h a e,(k a).2 g⟩⟩
def pC (o : Option (AV × Heap)) (m : Option α) (en : α → AV × Heap) (h : ∀ a,m = some a → o = some (en a)) (k : α → Pn Γ lp enc) : Pn Γ lp enc := ⟨.call o m en fun a => (k a).1,fun g a e => ⟨h a e,(k a).2 g⟩⟩
def p1 (c : Code) (σ : St) (m : Option α) (e : α → Ex × St) (h : ∀ a,m = some a → lp c σ = some (e a)) (k : α → Pn Γ lp enc) : Pn Γ lp enc := ⟨.loop c σ m e fun a => (k a).1,fun g a x => ⟨h a x,(k a).2 g⟩⟩
def p2 (c : Code) (σ : St) (m : Option (α ⊕ β)) (ea : α → Ex × St) (eb : β → Ex × St) (h : ∀ a,m = some a → lp c σ = some (Sum.elim ea eb a)) (k : α → Pn Γ lp enc) (k' : β → Pn Γ lp enc) : Pn Γ lp enc :=
 ⟨.loop2 c σ m ea eb (fun a => (k a).1) (fun a => (k' a).1),fun g => ⟨fun a x => ⟨h _ x,(k a).2 g⟩,fun a x => ⟨h _ x,(k' a).2 g⟩⟩⟩
def p3 (c : Code) (σ : St) (m : Option (α ⊕ β ⊕ γ)) (ea : α → Ex × St) (eb : β → Ex × St) (ec : γ → Ex × St) (h : ∀ a,m = some a → lp c σ = some (Sum.elim ea (Sum.elim eb ec) a)) (k : α → Pn Γ lp enc) (k' : β → Pn Γ lp enc) (k'' : γ → Pn Γ lp enc) : Pn Γ lp enc :=
 ⟨.loop3 c σ m ea eb ec (fun a => (k a).1) (fun a => (k' a).1) (fun a => (k'' a).1),fun g => ⟨fun a x => ⟨h _ x,(k a).2 g⟩,fun a x => ⟨h _ x,(k' a).2 g⟩,fun a x => ⟨h _ x,(k'' a).2 g⟩⟩⟩
end
section
variable {P : Program}
theorem fnQ {ρ : Type} {g : Cfg} {f : FuncId} {args : List AV} {H : Heap} {enc : ρ → AV × Heap} (T : Pn True (lpW P g H.length (g.an f)) enc) {x : Option ρ} {r : ρ} (hr : x = some r) (hd : x = T.1.den := by kernel_rfl)
  (hg : g.ext f = none := by rfl) (hn : T.1.norm (bodyT P (evW P g) g f args H) = T.1 := by kernel_rfl) : evW P g f args H = some (enc r) := fnP T.1 (T.2 trivial) (hd ▸ hr) hg hn
theorem lpQ {A α : Type} {g : Cfg} {m : Nat} {an : Nat → Ann} {c : Code} {σ : A → St} {e : α → Ex × St} {b : A → Option (A ⊕ α)} (T : (a : A) → Pn True (lpW P g m an) (Sum.elim (fun a => (.norm,σ a)) e)) {a : A} {r : α} (hr : loopW b a = some r)
  (hd : ∀ a,(T a).1.den = b a := by intro _; kernel_rfl) (hn : ∀ a,(T a).1.norm (roundT P g.kd (evW P g) m an c (σ a)) = (T a).1 := by intro _; kernel_rfl)
  (he : ∀ r,(e r).1 ≠ .norm := by
   first | (intro r; exact fun h => Ex.noConfusion h) | (rintro (r | r) <;> exact fun h => Ex.noConfusion h) | (rintro (r | r | r) <;> exact fun h => Ex.noConfusion h)) :
  lpW P g m an c (σ a) = some (e r) := lpP hr (fun a => (T a).1) (fun a => (T a).2 trivial) hd hn he
end
end Go.Ab
namespace Go.Ab
section
variable {T : Told} {P : Program} {B : Base} {c : Ctx} {H : Heap} {w w' : World}
theorem Inv.below (I : Inv B c H w) (h : RowKit.Below w.heap.size w w') : Inv B c H w' ∧ Later c w c w' := by
 obtain ⟨h1,h2,h3,h4,h5⟩ := h
 have L : Later c w c w' := ⟨fun _ h => h,fun _ _ _ h => h,fun _ _ h => h,fun b o hz => XN (h5 b (I.zlt b o hz)) o⟩
 exact ⟨I.step L h4 h1 h2 h3 (fun _ => False) (fun b hb _ => h5 b hb) (fun _ h => h.elim) (fun _ => .inl ⟨rfl,rfl,fun _ _ _ _ h => h⟩) I.inj (fun _ _ h => .inl h) I.zob,L⟩
theorem QlF : ∀ {us vs : List Value},RepL c w (us.map .sc) vs → vs = us
 | [],_,.nil => rfl
 | u :: us,_,.cons _ _ _ _ h t => by cases h; rw [QlF t]
theorem QeR {f : FuncId} {x : List AV → Heap → Option (AV × Heap)}
  (h : ∀ args H res H',x args H = some (res,H') → H' = H ∧ ∃ (us : List Value) (r : Value),args = us.map .sc ∧ res = .sc r ∧ scal r = true ∧ ∀ Z w,T.T Z w → Calls P f us.toArray w fun e w' => e = .returned r ∧ RowKit.Below w.heap.size w w') : FnOK1 T P f x := by
 intro args H res H' c w vs hx hT I hK hv
 obtain ⟨rfl,us,r,rfl,rfl,hr,hc⟩ := h args H res H' hx
 obtain rfl := QlF hv
 refine (hc c.Z w hT).mono ?_
 rintro e w' ⟨rfl,hb⟩
 obtain ⟨I',L⟩ := I.below hb
 exact ⟨r,c,rfl,I',.sc r hr,L⟩
theorem Inv.fresh (I : Inv B c H w) (hb : RowKit.Below w.heap.size w w') (Zn : Nat → Nat → Prop) (hZ : ∀ b o,Zn b o → w.heap.size ≤ b ∧ b < w'.heap.size) :
  Inv B { c with Z := fun b o => c.Z b o ∨ Zn b o } H w' ∧ Later c w { c with Z := fun b o => c.Z b o ∨ Zn b o } w' := by
 obtain ⟨h1,h2,h3,h4,h5⟩ := hb
 have L : Later c w { c with Z := fun b o => c.Z b o ∨ Zn b o } w' := ⟨fun _ h => h,fun _ _ _ h => h,fun _ _ h => .inl h,fun b o hz => XN (h5 b (I.zlt b o hz)) o⟩
 refine ⟨I.step L h4 h1 h2 h3 (fun _ => False) (fun b hb _ => h5 b hb) (fun _ h => h.elim) (fun _ => .inl ⟨rfl,rfl,fun _ _ _ _ h => h⟩) I.inj (fun b o h => ?_) ?_,L⟩
 ·rcases h with h | h
  ·exact .inl h
  ·exact .inr (.inr (hZ b o h))
 ·intro b o h id sh hs hbl
  rcases h with h | h
  ·exact I.zob b o h id sh hs hbl
  ·have := (I.bnd id sh b hs hbl).1
   have := (hZ b o h).1
   omega
theorem QgB {α : Type} (f : α → AV) (xs : List α) : (xs.map fun x => [f x]).flatten = xs.map f := by
 induction xs with
 | nil => rfl
 | cons x xs ih => rw [List.map_cons,List.flatten_cons,ih,List.map_cons]; rfl
theorem QlG (xs : List Value) : (xs.map fun x => [AV.sc x]).flatten = xs.map .sc := by
 induction xs with
 | nil => rfl
 | cons x xs ih => rw [List.map_cons,List.flatten_cons,ih]; rfl
theorem QgC (I : Inv B c H w) (hb : RowKit.Below w.heap.size w w') {e : TypeId} {v : Value} {n : Nat} {xs : List Value} (h : w'.ownsRow w.heap.size e 1 v n xs) (hs : xs.all scal = true) :
  ∃ c',Inv B c' H w' ∧ Later c w c' w' ∧ Rep c' w' (.sl (xs.map fun x => [.sc x])) v := by
 obtain ⟨hl,h⟩ := h
 rcases h with ⟨rfl,rfl⟩ | ⟨g,cap,cur,rfl,hg,hgc,hn,hm,hsz,ht⟩
 ·have : xs = [] := List.eq_nil_of_length_eq_zero (by omega)
  subst this
  obtain ⟨I',L⟩ := I.below hb
  exact ⟨c,I',L,.slnil⟩
 ·have hlt : g < w'.heap.size := (Array.getElem?_eq_some_iff.1 hgc).1
  obtain ⟨I',L⟩ := I.fresh hb (fun b o => b = g) (fun b o h => by subst h; exact ⟨hg,hlt⟩)
  refine ⟨_,I',L,?_⟩
  have hlen : (xs.map fun x => [AV.sc x]).length = n := by rw [List.length_map]; omega
  have := Rep.sl (c := { c with Z := fun b o => c.Z b o ∨ b = g }) (w := w') 1 (xs.map fun x => [AV.sc x]) g 0 cap (by simp) (by rw [hlen]; exact hn) (by
   rw [QlG]
   refine RepC.of_get fun i a ha => ?_
   rw [List.getElem?_map,Option.map_eq_some_iff] at ha
   obtain ⟨x,hx,rfl⟩ := ha
   have hx0 := hx
   rw [← ht,List.getElem?_take] at hx
   split at hx
   ·have hsx : scal x = true := List.all_eq_true.1 hs x (List.mem_of_getElem? hx0)
    refine ⟨x,?_,.inr rfl,rfl,Xk (c := c) (w := w') (.sc x hsx) rfl,.sc x hsx⟩
    rw [cell_of_row w' g (0 + i) cur e (0,0) hgc]; simpa using hx
   ·cases hx)
  rw [hlen] at this
  exact this
def strsOf : List (List AV) → Option (List ByteArray)
 | [] => some []
 | [.sc (.string z)] :: l => (strsOf l).map (z :: ·)
 | _ => none
theorem QmP : ∀ {rows : List (List AV)} {zs : List ByteArray},strsOf rows = some zs → rows = zs.map fun z => [.sc (.string z)]
 | [],zs,h => by simp only [strsOf,Option.some.injEq] at h; subst h; rfl
 | r :: l,zs,h => by
  unfold strsOf at h
  split at h
  ·rename_i e; cases e
  ·rename_i z l' e
   cases e
   obtain ⟨zs',h',rfl⟩ := Option.map_eq_some_iff.1 h
   rw [QmP h']; rfl
  ·cases h
theorem Qsq (l : List ByteArray) : strsOf (l.map fun z => [.sc (.string z)]) = some l := by
 induction l with
 | nil => rfl
 | cons x l ih => rw [List.map_cons,strsOf,ih]; rfl
def itoaS (n : Int) : Option ByteArray := if -9223372036854775808 ≤ n ∧ n ≤ 9223372036854775807 then some ⟨(Lib.itoa n).toArray⟩ else none
def itoaX (args : List AV) (H : Heap) : Option (AV × Heap) := match args with
 | [.sc (.int .i64 n)] => (itoaS n).map fun s => (.sc (.string s),H)
 | _ => none
theorem Qxm {n : Int} {r : ByteArray} (h : itoaS n = some r) : itoaX [.sc (.int .i64 n)] [] = some (.sc (.string r),[]) := by simp only [itoaX,h,Option.map_some]
theorem Qsr {f : FuncId} (h : ∀ (n : Int) (Z : Nat → Nat → Prop) (w : World),-9223372036854775808 ≤ n → n ≤ 9223372036854775807 → T.T Z w → Calls P f #[.int .i64 n] w fun e w' => e = .returned (.string ⟨(Lib.itoa n).toArray⟩) ∧ RowKit.Below w.heap.size w w') : FnOK1 T P f itoaX := by
 refine QeR fun args H res H' hx => ?_
 unfold itoaX at hx
 split at hx
 ·rename_i n
  obtain ⟨s,hs,hx⟩ := Option.map_eq_some_iff.1 hx
  simp only [Prod.mk.injEq] at hx
  obtain ⟨rfl,rfl⟩ := hx
  unfold itoaS at hs
  split at hs
  ·rename_i hb; cases hs
   exact ⟨rfl,[.int .i64 n],_,rfl,rfl,rfl,fun Z w hT => h n Z w hb.1 hb.2 hT⟩
  ·cases hs
 ·cases hx
end
end Go.Ab
namespace Go.Ab
section
variable {H : Type} {enc : TypeId × Value → H} {P : Program} {W : World}
def Rd {H : Type} (enc : TypeId × Value → H) (P : Program) (W : World) (fuel : Nat) (t : TypeId) {T : Type} (C : T → List AV) (wf : T → Prop) : Prop :=
 ∀ cs x,DataW.trod enc P W 0 (fun _ => true) true fuel t cs = some x → ∃ a,wf a ∧ RepL (oldCtx W) W (C a) cs ∧ (C a).all flat = true
theorem QlH {t : TypeId} {T : Type} (C : T → List AV) (wf : T → Prop) : Rd enc P W 0 t C wf := fun cs x h => by simp [DataW.trod] at h
theorem rd_int {t : TypeId} {k : IntKind} (ht : P.underlying t = some (.int k)) (fuel : Nat) : Rd enc P W fuel t (fun n : Int => [.sc (.int k n)]) (fun n => k.min ≤ n ∧ n ≤ k.max) := by
 intro cs x h
 obtain ⟨n,rfl,_,hw⟩ := DataW.trod_int ht h
 exact ⟨n,by simpa [Lit.wf] using hw,.cons _ _ _ _ (.sc _ rfl) .nil,rfl⟩
theorem QiV {T : Type} {p : Nat → T → Prop} : ∀ (n : Nat),(∀ i,i < n → ∃ a,p i a) → ∃ l : List T,l.length = n ∧ ∀ i a,l[i]? = some a → p i a
 | 0,_ => ⟨[],rfl,by simp⟩
 | n + 1,h => by
  obtain ⟨l,h1,h2⟩ := QiV n fun i hi => h i (by omega)
  obtain ⟨a,ha⟩ := h n (by omega)
  refine ⟨l ++ [a],by simp [h1],fun i x hx => ?_⟩
  rcases Nat.lt_or_ge i n with hi | hi
  ·rw [List.getElem?_append_left (by omega)] at hx; exact h2 i x hx
  ·rw [List.getElem?_append_right (by omega)] at hx
   have : i = n := by
    have := (List.getElem?_eq_some_iff.1 hx).1
    simp at this; omega
   subst this
   simp [h1] at hx; subst hx; exact ha
theorem Qkk {T : Type} {C : T → List AV} {s : Nat} (hC : ∀ a,(C a).length = s) : ∀ (l : List T) (j : Nat) (x : AV),(l.map C).flatten[j]? = some x → ∃ i r a,l[i]? = some a ∧ r < s ∧ j = i * s + r ∧ (C a)[r]? = some x
 | [],j,x,h => by simp at h
 | a :: l,j,x,h => by
  rw [List.map_cons,List.flatten_cons] at h
  rcases Nat.lt_or_ge j s with hj | hj
  ·rw [List.getElem?_append_left (by rw [hC]; exact hj)] at h
   exact ⟨0,j,a,rfl,hj,by omega,h⟩
  ·rw [List.getElem?_append_right (by rw [hC]; exact hj),hC] at h
   obtain ⟨i,r,b,h1,h2,h3,h4⟩ := Qkk hC l (j - s) x h
   exact ⟨i + 1,r,b,by simpa using h1,h2,by rw [Nat.succ_mul]; omega,h4⟩
theorem QjA {t e : TypeId} {s fuel : Nat} {T : Type} {C : T → List AV} {wf : T → Prop} (ht : P.underlying t = some (.slice e)) (hs : P.cellsOf e = s) (h0 : 0 < s) (hC : ∀ a,(C a).length = s) (he : Rd enc P W fuel e C wf) :
  Rd enc P W (fuel + 1) t (fun l : List T => [.sl (l.map C)]) (fun l => l.length ≤ maxLen ∧ ∀ a ∈ l,wf a) := by
 intro cs x h
 rcases DataW.trod_slice ht h with ⟨rfl,_⟩ | ⟨a,len,cap,elems,rest,n,hn,rfl,_,hb,hl,hm,hlen,hel,_,_⟩
 ·exact ⟨[],⟨by simp,by simp⟩,.cons _ _ _ _ .slnil .nil,rfl⟩
 ·obtain rfl : fuel = n := by omega
  rw [hs] at hel
  obtain ⟨l,h1,h2⟩ := QiV (p := fun i b => wf b ∧ ∃ c,W.cells? 0 (a.add (i * s)) s = some c ∧ RepL (oldCtx W) W (C b) c ∧ (C b).all flat = true) len fun i hi => by
   have := hel i hi
   rw [List.getElem?_eq_getElem (by omega)] at this
   obtain ⟨c,hc,htr⟩ := Option.bind_eq_some_iff.1 this
   obtain ⟨b,b1,b2,b3⟩ := he c _ htr
   exact ⟨b,b1,c,hc,b2,b3⟩
  refine ⟨l,⟨by omega,fun b hb => ?_⟩,.cons _ _ _ _ ?_ .nil,rfl⟩
  ·obtain ⟨i,hi⟩ := List.getElem?_of_mem hb
   exact (h2 i b hi).1
  ·cases len with
   | zero =>
    have : l = [] := List.eq_nil_of_length_eq_zero h1
    subst this
    exact .sl0 a cap
   | succ m =>
    have hsp : a.spot = none := by
     obtain ⟨_,c,hc,_,_⟩ := h2 0 (l[0]'(by omega)) (by simp)
     have h3 := (World.cells?_some hc).2.2 0 h0
     have h4 := (World.cells?_some hc).2.1
     simp only [Nat.zero_mul,Addr.add,if_true] at h3
     rw [List.getElem?_eq_getElem (by omega)] at h3
     unfold World.cell? at h3
     split at h3
     ·split at h3
      ·cases h3
      ·rename_i hx; simpa using hx
     ·cases h3
    obtain ⟨b,o,sp⟩ := a
    simp only at hsp; subst hsp
    have hll : (l.map C).length = m + 1 := by rw [List.length_map]; exact h1
    have := Rep.sl (c := oldCtx W) (w := W) s (l.map C) b o cap (by simp [hC]) (by omega) (RepC.of_get fun j x hx => by
     obtain ⟨i,r,y,e1,e2,e3,e4⟩ := Qkk hC l j x hx
     obtain ⟨_,c,hc,hr,hf⟩ := h2 i y e1
     obtain ⟨v,hv,hrep⟩ := hr.get r x e4
     have h5 := (World.cells?_some hc).2.2 r (by omega)
     have h6 : (⟨b,o,none⟩ : Addr).add (i * s) = ⟨b,o + i * s,none⟩ := by unfold Addr.add; split <;> simp_all
     have h7 : (⟨b,o + i * s,none⟩ : Addr).add r = ⟨b,o + j,none⟩ := by subst e3; unfold Addr.add; split <;> simp_all <;> omega
     rw [h6,h7] at h5
     have hfl : flat x = true := List.all_eq_true.1 hf x (List.mem_of_getElem? e4)
     refine ⟨v,h5.trans hv,?_,hfl,Xk hrep (FH hfl),hrep⟩
     show b < W.heap.size
     rw [hv] at h5
     unfold World.cell? at h5
     split at h5
     ·rename_i e; exact (Array.getElem?_eq_some_iff.1 e).1
     ·cases h5)
    rw [hll] at this
    exact this
theorem QlI {t : TypeId} {T : Type} {C : T → List AV} {wf : T → Prop} (h : ∀ fuel,Rd enc P W fuel t C wf) {v : Value} {d : DataW H} {p : List MemPlace} (hd : DataW.Trod enc P W 0 (fun _ => true) true t v d p) :
  ∃ a,wf a ∧ RepL (oldCtx W) W (C a) v.cells.toList := by
 obtain ⟨fuel,hf⟩ := hd
 obtain ⟨a,h1,h2,_⟩ := h fuel _ _ hf
 exact ⟨a,h1,h2⟩
end
end Go.Ab
namespace Go.Ab
def tabT (P : Program) (n : String) (g : Nat) (cs : Array Value) (Z : Nat → Nat → Prop) (w : World) : Prop := P.globalNamed n = some g ∧ (∀ o,Z g o) ∧ w.var? P n = some cs ∧ 0 < cs.size
theorem QtS {P : Program} {n : String} {g : Nat} {cs : Array Value} {Z Z' : Nat → Nat → Prop} {w w' : World} (h : tabT P n g cs Z w) (k : ∀ b o,Z b o → Z' b o ∧ w'.cell? ⟨b,o,none⟩ = w.cell? ⟨b,o,none⟩) : tabT P n g cs Z' w' := by
 obtain ⟨h1,h2,h3,h4⟩ := h
 refine ⟨h1,fun o => (k g o (h2 o)).1,?_,h4⟩
 unfold World.var? at h3 ⊢
 rw [h1] at h3 ⊢
 simp only [Option.bind_some] at h3 ⊢
 have hc := fun o => (k g o (h2 o)).2
 simp only [World.cell?] at hc
 split at h3
 ·rename_i cs0 e fr hw
  cases h3
  rw [hw] at hc
  have h0 := hc 0
  simp only [Option.isSome_none,Bool.false_eq_true,if_false] at h0 hc
  rw [Array.getElem?_eq_getElem h4] at h0
  cases hw' : w'.heap[g]? with
  | none => rw [hw'] at h0; cases h0
  | some ob =>
   cases ob with
   | cells cs' e' fr' =>
    rw [hw'] at hc
    simp only at hc
    have : cs' = cs := Array.ext_getElem? hc
    subst this; rfl
   | _ => rw [hw'] at h0; cases h0
 ·cases h3
def told1 (P : Program) (n : String) (g : Nat) (cs : Array Value) : Told := ⟨tabT P n g cs,QtS⟩
def Told.both (A B : Told) : Told := ⟨fun Z w => A.T Z w ∧ B.T Z w,fun h k => ⟨A.keep h.1 k,B.keep h.2 k⟩⟩
theorem QoM {P : Program} {n : String} {g : Nat} {cs : Array Value} {w : World} (hg : P.globalNamed n = some g) (h : w.var? P n = some cs) (h0 : 0 < cs.size) : tabT P n g cs (oldCtx w).Z w := by
 refine ⟨hg,fun o => ?_,h,h0⟩
 unfold World.var? at h
 rw [hg] at h
 simp only [Option.bind_some] at h
 show g < w.heap.size
 rcases Nat.lt_or_ge g w.heap.size with h' | h'
 ·exact h'
 ·rw [Array.getElem?_eq_none h'] at h; cases h
end Go.Ab
namespace Go.Ab
theorem w64_in {n : Int} (h1 : -9223372036854775808 ≤ n) (h2 : n ≤ 9223372036854775807) : w64 n = n := IntWalk.i64_in n ⟨h1,h2⟩
def withinV (a n : Int) : Option Int := bif (decide (n ≠ 0)) then (bif (decide ((Int.tmod a n) < (0 : Int))) then (some (w64 ((Int.tmod a n) + n))) else (some (Int.tmod a n))) else none
theorem Qkl (a n : Int) (hn : 0 < n) (hn2 : n ≤ 4611686018427387904) : withinV a n = some (a % n) := by
 have h1 := Int.emod_nonneg a (by omega : n ≠ 0)
 have h2 := Int.emod_lt_of_pos a hn
 have h3 := Int.tmod_eq_emod (a := a) (b := n)
 unfold withinV
 rw [decide_eq_true (by omega),cond_true]
 have hb : (n.natAbs : Int) = n := by omega
 by_cases h : 0 ≤ a ∨ n ∣ a
 ·rw [if_pos h] at h3
  rw [h3,decide_eq_false (by omega),cond_false]; simp
 ·rw [if_neg h,hb] at h3
  rw [h3,decide_eq_true (by omega),cond_true,w64_in (by omega) (by omega)]
  congr 1; omega
theorem Jp {α : Type} {F : Nat → Option α} {x : Option α} (h : Cv F x) (k : Nat) {r : α} (e : F k = some r) : x = some r := (h.2 r).2 ⟨k,e⟩
theorem QoN {A α : Type} {F : A → Option α} {b : A → Option (A ⊕ α)} (hF : ∀ a,F a = (b a).bind (Sum.elim F some)) (I : A → Prop) (Q : A → α → Prop) (μ : A → Nat)
  (h : ∀ a,I a → (∃ a',b a = some (.inl a') ∧ I a' ∧ μ a' < μ a ∧ ∀ r,Q a' r → Q a r) ∨ ∃ r,b a = some (.inr r) ∧ Q a r) : ∀ a,I a → ∃ r,F a = some r ∧ Q a r := by
 intro a
 induction hm : μ a using Nat.strongRecOn generalizing a with
 | _ m ih =>
  intro hI
  rcases h a hI with ⟨a',h1,h2,h3,h4⟩ | ⟨r,h1,h2⟩
  ·obtain ⟨r,hr,hq⟩ := ih (μ a') (by omega) a' rfl h2
   exact ⟨r,by rw [hF,h1]; exact hr,h4 r hq⟩
  ·exact ⟨r,by rw [hF,h1]; rfl,h2⟩
theorem QtT : maxLen = 9223372036854775807 := by decide
end Go.Ab
namespace Go.Ab
def fitsS (v b : Int) : Option Bool := if 1 ≤ b then (if b ≤ 41 then some (decide (-(2 ^ (b - 1).toNat) ≤ v ∧ v < 2 ^ (b - 1).toNat)) else none) else none
def fitsX (args : List AV) (H : Heap) : Option (AV × Heap) := match args with
 | [.sc (.int .i64 v),.sc (.int .i64 b)] => (fitsS v b).map fun r => (.sc (.bool r),H)
 | _ => none
theorem Qxn {v b : Int} {r : Bool} (h : fitsS v b = some r) : fitsX [.sc (.int .i64 v),.sc (.int .i64 b)] [] = some (.sc (.bool r),[]) := by simp only [fitsX,h,Option.map_some]
theorem Qss {T : Told} {P : Program} {f : FuncId} (h : ∀ (v b : Int) (r : Bool) (w : World),fitsS v b = some r → Calls P f #[.int .i64 v,.int .i64 b] w fun e w' => e = .returned (.bool r) ∧ RowKit.Below w.heap.size w w') : FnOK1 T P f fitsX := by
 refine QeR fun args H res H' hx => ?_
 unfold fitsX at hx
 split at hx
 ·rename_i v b
  obtain ⟨r,hr,hx⟩ := Option.map_eq_some_iff.1 hx
  simp only [Prod.mk.injEq] at hx
  obtain ⟨rfl,rfl⟩ := hx
  exact ⟨rfl,[.int .i64 v,.int .i64 b],_,rfl,rfl,rfl,fun Z w _ => h v b r w hr⟩
 ·cases hx
end Go.Ab
namespace Go.Ab
def wordsOf (s : ByteArray) : List ByteArray := (Lib.fields s.data.toList).map fun l => ⟨l.toArray⟩
def fieldsS (s : ByteArray) : Option (List ByteArray) := if s.size < 4294967281 then (if s.data.toList.all (fun b => decide (b.toNat < 128)) = true then some (wordsOf s) else none) else none
def fieldsX (args : List AV) (H : Heap) : Option (AV × Heap) := match args with
 | [.sc (.string s)] => (fieldsS s).map fun l => (.sl (l.map fun z => [.sc (.string z)]),H)
 | _ => none
theorem QtU {s : ByteArray} {r : List ByteArray} (h : fieldsS s = some r) : fieldsX [.sc (.string s)] [] = some (.sl (r.map fun z => [.sc (.string z)]),[]) := by simp only [fieldsX,h,Option.map_some]
theorem QlJ : ∀ (l : List UInt8) (b : Bool),Lib.cntF b l ≤ l.length
 | [],b => by simp [Lib.cntF]
 | c :: l,b => by
  have h1 := QlJ l true
  have h2 := QlJ l false
  simp only [Lib.cntF,List.length_cons]
  cases b <;> cases Lib.isSp c <;> simp <;> omega
theorem Qst (l : List UInt8) : (Lib.fields l).length ≤ l.length + 1 := by
 rw [Lib.fields_length]
 have := QlJ l true
 omega
theorem QoO {T : Told} {P : Program} {f : FuncId} {e_ : TypeId}
  (h : ∀ (s : ByteArray) (Z : Nat → Nat → Prop) (w : World),s.size < 4294967281 → (∀ (j : Nat) b,s.data.toList[j]? = some b → b.toNat < 128) → T.T Z w →
   Calls P f #[.string s] w fun e w' => e = .returned (.slice (some ⟨w.heap.size,0,none⟩) (Lib.fields s.data.toList).length (Lib.fields s.data.toList).length) ∧ w' = w.alloc (.cells ((Lib.fields s.data.toList).map fun l => Value.string ⟨l.toArray⟩).toArray e_)) : FnOK1 T P f fieldsX := by
 intro args H res H' c w vs hx hT I hK hv
 unfold fieldsX at hx
 split at hx
 ·rename_i s
  obtain ⟨l,hl,hx⟩ := Option.map_eq_some_iff.1 hx
  simp only [Prod.mk.injEq] at hx
  obtain ⟨rfl,rfl⟩ := hx
  unfold fieldsS at hl
  split at hl
  ·rename_i hs
   split at hl
   ·rename_i ha
    cases hl
    obtain rfl : vs = [.string s] := by
     have := QlF (c := c) (w := w) (us := [.string s]) hv
     exact this
    refine (h s c.Z w hs (fun j b hb => by simpa using List.all_eq_true.1 ha b (List.mem_of_getElem? hb)) hT).mono ?_
    rintro e w' ⟨rfl,rfl⟩
    have hn := Qst s.data.toList
    have hz : s.data.toList.length = s.size := rfl
    have own := World.ownsRow_lit (base := w.heap.size) (e := e_) (size := 1) w ((Lib.fields s.data.toList).map fun l => Value.string ⟨l.toArray⟩).toArray (Lib.fields s.data.toList).length (Nat.le_refl _) (by simp only [maxLen]; omega) (by simp)
    obtain ⟨c',I',L,hr⟩ := QgC I ((RowKit.Below.refl _ _).alloc (Nat.le_refl _) _) own (by simp [scal])
    refine ⟨_,c',rfl,I',?_,L⟩
    simpa [wordsOf,List.map_map,Function.comp_def] using hr
   ·cases hl
  ·cases hl
 ·cases hx
end Go.Ab
namespace Go.Ab
def scsOf : List (List AV) → Option (List Value)
 | [] => some []
 | [.sc v] :: l => if scal v = true then (scsOf l).map (v :: ·) else none
 | _ => none
theorem QoP : ∀ {rows : List (List AV)} {zs : List Value},scsOf rows = some zs → rows = zs.map (fun z => [.sc z]) ∧ zs.all scal = true
 | [],zs,h => by simp only [scsOf,Option.some.injEq] at h; subst h; exact ⟨rfl,rfl⟩
 | r :: l,zs,h => by
  unfold scsOf at h
  split at h
  ·rename_i e; cases e
  ·rename_i z l' e
   cases e
   split at h
   ·rename_i hz
    obtain ⟨zs',h',rfl⟩ := Option.map_eq_some_iff.1 h
    obtain ⟨h1,h2⟩ := QoP h'
    rw [h1]; exact ⟨rfl,by rw [List.all_cons,hz,h2]; rfl⟩
   ·cases h
  ·cases h
theorem QtV {α : Type} (enc : α → Value) (hs : ∀ a,scal (enc a) = true) (l : List α) : scsOf (l.map fun z => [.sc (enc z)]) = some (l.map enc) := by
 induction l with
 | nil => rfl
 | cons x l ih => rw [List.map_cons,scsOf,if_pos (hs x),ih]; rfl
def cloneV (B : Nat) (args : List AV) (H : Heap) : Option (AV × Heap) := match args with
 | [.sl rows] => (scsOf rows).bind fun zs => if zs.length * B ≤ 140737488355328 then some (.sl rows,H) else none
 | _ => none
def cloneB {α : Type} (B : Nat) (l : List α) : Option (List α) := if l.length * B ≤ 140737488355328 then some l else none
theorem QtW {α : Type} {B : Nat} (enc : α → Value) (hs : ∀ a,scal (enc a) = true) {l r : List α} (h : cloneB B l = some r) : cloneV B [.sl (l.map fun z => [.sc (enc z)])] [] = some (.sl (r.map fun z => [.sc (enc z)]),[]) := by
 unfold cloneB at h
 split at h
 ·rename_i hb; cases h; simp only [cloneV,QtV enc hs,Option.bind_some,List.length_map,if_pos hb]
 ·cases h
theorem QoQ {T : Told} {P : Program} {f : FuncId} {e_ : TypeId} {B : Nat} (hnil : ∀ (n cap : Nat) (w : World),Calls P f #[.slice none n cap] w fun e w' => e = .returned (.slice none 0 0) ∧ w' = w)
  (hzero : ∀ (p : Addr) (cap : Nat) (w : World),Calls P f #[.slice (some p) 0 cap] w fun e w' => ∃ v',e = .returned v' ∧ w'.ownsRow w.heap.size e_ 1 v' 0 [] ∧ RowKit.Below w.heap.size w w')
  (hsome : ∀ (b off cap : Nat) (zs : List Value) (w : World),zs.length * B ≤ 140737488355328 → zs.all scal = true → (∀ (j : Nat) z,zs[j]? = some z → w.cell? ⟨b,off + j,none⟩ = some z) →
   Calls P f #[.slice (some ⟨b,off,none⟩) zs.length cap] w fun x w' => ∃ v',x = .returned v' ∧ w'.ownsRow w.heap.size e_ 1 v' zs.length zs ∧ RowKit.Below w.heap.size w w') : FnOK1 T P f (cloneV B) := by
 intro args H res H' c w vs hx hT I hK hv
 unfold cloneV at hx
 split at hx
 ·rename_i rows
  obtain ⟨zs,hz,hx⟩ := Option.bind_eq_some_iff.1 hx
  split at hx
  ·rename_i hbig
   simp only [Option.some.injEq,Prod.mk.injEq] at hx
   obtain ⟨rfl,rfl⟩ := hx
   obtain ⟨hrows,hsc⟩ := QoP hz
   subst hrows
   cases hv with
   | cons _ v _ vs hv ht =>
    cases ht
    generalize hR : (zs.map fun z => [AV.sc z]) = R at hv
    cases hv with
    | slnil =>
     refine (hnil 0 0 w).mono ?_
     rintro x w' ⟨rfl,rfl⟩
     exact ⟨_,c,rfl,I,.slnil,.refl _ _⟩
    | sl0 p cap =>
     refine (hzero p cap w).mono ?_
     rintro x w' ⟨v',rfl,hown,hb⟩
     obtain ⟨c',I',L,hr⟩ := QgC I hb hown (by simp)
     exact ⟨v',c',rfl,I',hr,L⟩
    | sl s _ b o cap hs hc hrc =>
     subst hR
     have hfl : (zs.map fun z => [AV.sc z]).flatten = zs.map fun z => .sc z := QgB (fun z => AV.sc z) zs
     rw [hfl] at hrc
     rw [List.length_map]
     refine (hsome b o cap zs w hbig hsc (fun j z hj => ?_)).mono ?_
     ·obtain ⟨v,h1,_,_,_,h2⟩ := hrc.get j (.sc z) (by simp [hj])
      cases h2
      exact h1
     ·rintro x w' ⟨v',rfl,hown,hb⟩
      obtain ⟨c',I',L,hr⟩ := QgC I hb hown hsc
      exact ⟨v',c',rfl,I',hr,L⟩
  ·cases hx
 ·cases hx
end Go.Ab
namespace Go.Ab
def digQ : Nat → Nat → List UInt8
 | 0,_ => []
 | k + 1,u => if u < 10 then [UInt8.ofNat (48 + u)] else digQ k (u / 10) ++ [UInt8.ofNat (48 + u % 10)]
theorem QlK : ∀ (k u : Nat),u < 10 ^ k → 0 < k → digQ k u = Lib.decDigits u
 | 0,u,_,h => by omega
 | k + 1,u,h,_ => by
  unfold digQ
  rw [Lib.decDigits]
  by_cases c : u < 10
  ·rw [if_pos c,dif_pos c]
  ·rw [if_neg c,dif_neg c]
   rw [Nat.pow_succ] at h
   cases k with
   | zero => simp at h; omega
   | succ k => rw [QlK (k + 1) (u / 10) (by omega) (by omega)]
def itoaB (n : Int) : List UInt8 := if n < 0 then 45 :: digQ 20 n.natAbs else digQ 20 n.toNat
def itoaQ (n : Int) : Option ByteArray := if -9223372036854775808 ≤ n ∧ n ≤ 9223372036854775807 then some ⟨(itoaB n).toArray⟩ else none
theorem Qvz {n : Int} (h : -9223372036854775808 ≤ n ∧ n ≤ 9223372036854775807) : itoaB n = Lib.itoa n := by
 have e : (10 : Nat) ^ 20 = 100000000000000000000 := by decide
 unfold itoaB Lib.itoa
 rw [QlK 20 n.natAbs (by omega) (by decide),QlK 20 n.toNat (by omega) (by decide)]
theorem QoR (n : Int) : itoaQ n = itoaS n := by
 unfold itoaQ itoaS
 by_cases h : -9223372036854775808 ≤ n ∧ n ≤ 9223372036854775807
 ·rw [if_pos h,if_pos h,Qvz h]
 ·rw [if_neg h,if_neg h]
def containsS (s t : ByteArray) : Option Bool := if s.size < 4294967281 then some (Lib.contains s.data.toList t.data.toList) else none
def containsX (args : List AV) (H : Heap) : Option (AV × Heap) := match args with
 | [.sc (.string s),.sc (.string t)] => (containsS s t).map fun b => (.sc (.bool b),H)
 | _ => none
theorem Qqr {s t : ByteArray} {r : Bool} (h : containsS s t = some r) : containsX [.sc (.string s),.sc (.string t)] [] = some (.sc (.bool r),[]) := by simp only [containsX,h,Option.map_some]
theorem QlL {T : Told} {P : Program} {f : FuncId} (h : ∀ (s t : ByteArray) (Z : Nat → Nat → Prop) (w : World),s.size < 4294967281 → T.T Z w → Calls P f #[.string s,.string t] w fun e w' => e = .returned (.bool (Lib.contains s.data.toList t.data.toList)) ∧ w' = w) : FnOK1 T P f containsX := by
 refine QeR fun args H res H' hx => ?_
 unfold containsX at hx
 split at hx
 ·rename_i s t
  obtain ⟨b,hb,hx⟩ := Option.map_eq_some_iff.1 hx
  simp only [Prod.mk.injEq] at hx
  obtain ⟨rfl,rfl⟩ := hx
  unfold containsS at hb
  split at hb
  ·rename_i hs; cases hb
   refine ⟨rfl,[.string s,.string t],_,rfl,rfl,rfl,fun Z w hT => (h s t Z w hs hT).mono ?_⟩
   rintro e w' ⟨rfl,rfl⟩
   exact ⟨rfl,RowKit.Below.refl _ _⟩
  ·cases hb
 ·cases hx
def joinS (l : List ByteArray) (sep : ByteArray) : Option ByteArray := if l.length ≤ 140737488355328 ∧ (Lib.join (l.map (·.data.toList)) sep.data.toList).length ≤ 140737488355328 then some ⟨(Lib.join (l.map (·.data.toList)) sep.data.toList).toArray⟩ else none
def joinX (args : List AV) (H : Heap) : Option (AV × Heap) := match args with
 | [.sl rows,.sc (.string sep)] => (strsOf rows).bind fun l => (joinS l sep).map fun s => (.sc (.string s),H)
 | _ => none
theorem Qxo {l : List ByteArray} {sep r : ByteArray} (h : joinS l sep = some r) : joinX [.sl (l.map fun z => [.sc (.string z)]),.sc (.string sep)] [] = some (.sc (.string r),[]) := by simp only [joinX,Qsq,Option.bind_some,h,Option.map_some]
theorem Qsu {T : Told} {P : Program} {f : FuncId} (h0 : ∀ (a : Option Addr) (c : Nat) (sep : ByteArray) (w : World),Calls P f #[.slice a 0 c,.string sep] w fun e w' => e = .returned (.string ⟨#[]⟩) ∧ w' = w)
  (h : ∀ (bk o c : Nat) (xs : List ByteArray) (sep : ByteArray) (w : World),(∀ (j : Nat) x,xs[j]? = some x → w.cell? ⟨bk,o + j,none⟩ = some (.string x)) → bk < w.heap.size → xs.length ≤ 140737488355328 → xs.length ≤ c →
   (Lib.join (xs.map (·.data.toList)) sep.data.toList).length ≤ 140737488355328 → Calls P f #[.slice (some ⟨bk,o,none⟩) xs.length c,.string sep] w fun e w' => e = .returned (.string ⟨(Lib.join (xs.map (·.data.toList)) sep.data.toList).toArray⟩) ∧ RowKit.Below w.heap.size w w') : FnOK1 T P f joinX := by
 intro args H res H' c w vs hx hT I hK hv
 unfold joinX at hx
 split at hx
 ·rename_i rows sep
  obtain ⟨l,hl,hx⟩ := Option.bind_eq_some_iff.1 hx
  obtain ⟨s,hs,hx⟩ := Option.map_eq_some_iff.1 hx
  simp only [Prod.mk.injEq] at hx
  obtain ⟨rfl,rfl⟩ := hx
  unfold joinS at hs
  split at hs
  ·rename_i hb; cases hs
   have hrows := QmP hl
   subst hrows
   cases hv with
   | cons _ v _ vs hv ht =>
    cases ht with
    | cons _ v2 _ vs2 hv2 ht2 =>
     cases ht2
     cases hv2
     generalize hR : (l.map fun z => [AV.sc (.string z)]) = R at hv
     have nil : ∀ {a : Option Addr} {cc : Nat},l = [] → Calls P f #[.slice a 0 cc,.string sep] w fun e w' => ∃ v c',e = .returned v ∧ Inv (baseOf c w H.length) c' H w' ∧ Rep c' w' (.sc (.string ⟨(Lib.join (l.map (·.data.toList)) sep.data.toList).toArray⟩)) v ∧ Later c w c' w' := by
      rintro a cc rfl
      refine (h0 a cc sep w).mono ?_
      rintro e w' ⟨rfl,rfl⟩
      exact ⟨_,c,rfl,I,.sc _ rfl,.refl _ _⟩
     cases hv with
     | slnil => exact nil (by cases l with | nil => rfl | cons a l => cases hR)
     | sl0 p cap => exact nil (by cases l with | nil => rfl | cons a l => cases hR)
     | sl sz _ b o cap hs hc hrc =>
      subst hR
      have hfl : (l.map fun z => [AV.sc (.string z)]).flatten = l.map fun z => .sc (.string z) := QgB (fun z => AV.sc (.string z)) l
      rw [hfl] at hrc
      rw [List.length_map] at hc ⊢
      cases l with
      | nil => exact nil rfl
      | cons x l' =>
       have hat : ∀ (j : Nat) y,(x :: l')[j]? = some y → w.cell? ⟨b,o + j,none⟩ = some (.string y) := fun j y hy => by
        obtain ⟨v,h1,_,_,_,h2⟩ := hrc.get j (.sc (.string y)) (by rw [List.getElem?_map,hy]; rfl)
        cases h2
        exact h1
       have hbk : b < w.heap.size := by
        obtain ⟨v,h1,h2,_⟩ := hrc.get 0 (.sc (.string x)) rfl
        exact I.zlt b _ h2
       refine (h b o cap (x :: l') sep w hat hbk hb.1 hc hb.2).mono ?_
       rintro e w' ⟨rfl,hbel⟩
       obtain ⟨I',L⟩ := I.below hbel
       exact ⟨_,c,rfl,I',.sc _ rfl,L⟩
  ·cases hs
 ·cases hx
def isSc : AV → Bool
 | .sc v => scal v
 | _ => false
def rowsSc (k : Nat) (rows : List (List AV)) : Bool := rows.all fun r => r.length == k && r.all isSc
def cloneK (k B : Nat) (args : List AV) (H : Heap) : Option (AV × Heap) := match args with
 | [.sl rows] => if rowsSc k rows = true ∧ rows.length * B ≤ 140737488355328 ∧ rows.length ≤ maxLen then some (.sl rows,H) else none
 | _ => none
def cloneT {α : Type} (B : Nat) (l : List α) : Option (List α) := if l.length * B ≤ 140737488355328 ∧ l.length ≤ maxLen then some l else none
theorem QtX {α : Type} {k B : Nat} (C : α → List AV) (hs : ∀ a,((C a).length == k && (C a).all isSc) = true) {l r : List α} (h : cloneT B l = some r) : cloneK k B [.sl (l.map C)] [] = some (.sl (r.map C),[]) := by
 unfold cloneT at h
 split at h
 ·rename_i hb; cases h
  have : rowsSc k (l.map C) = true := by
   unfold rowsSc
   rw [List.all_map]
   exact List.all_eq_true.2 fun a _ => hs a
  simp only [cloneK,List.length_map,this,hb,and_self,if_true]
 ·cases h
theorem scs_of : ∀ {r : List AV},r.all isSc = true → ∃ us : List Value,r = us.map .sc ∧ us.all scal = true
 | [],_ => ⟨[],rfl,rfl⟩
 | a :: r,h => by
  rw [List.all_cons,Bool.and_eq_true] at h
  obtain ⟨us,h1,h2⟩ := scs_of h.2
  cases a with
  | sc v => exact ⟨v :: us,by rw [h1]; rfl,by rw [List.all_cons,h2]; simpa [isSc] using h.1⟩
  | _ => exact absurd h.1 (by simp [isSc])
theorem QoS {k : Nat} : ∀ {rows : List (List AV)},(∀ r ∈ rows,r.length = k) → rows.flatten.length = rows.length * k
 | [],_ => by simp
 | r :: l,h => by
  rw [List.flatten_cons,List.length_append,QoS (fun r hr => h r (List.mem_cons_of_mem _ hr)),h r (List.mem_cons_self ..),List.length_cons,Nat.succ_mul,Nat.add_comm]
theorem Qkm {B : Base} {c : Ctx} {H : Heap} {w w' : World} (I : Inv B c H w) (hb : RowKit.Below w.heap.size w w') {e : TypeId} {v : Value} {n k : Nat} {xs : List Value} {rows : List (List AV)} (hk : ∀ r ∈ rows,r.length = k) (hr : rows.flatten = xs.map .sc) (hn : rows.length = n)
  (h : w'.ownsRow w.heap.size e k v n xs) (hs : xs.all scal = true) : ∃ c',Inv B c' H w' ∧ Later c w c' w' ∧ Rep c' w' (.sl rows) v := by
 obtain ⟨hl,h⟩ := h
 rcases h with ⟨rfl,rfl⟩ | ⟨g,cap,cur,rfl,hg,hgc,hn2,hm,hsz,ht⟩
 ·have : rows = [] := List.eq_nil_of_length_eq_zero hn
  subst this
  obtain ⟨I',L⟩ := I.below hb
  exact ⟨c,I',L,.slnil⟩
 ·have hlt : g < w'.heap.size := (Array.getElem?_eq_some_iff.1 hgc).1
  obtain ⟨I',L⟩ := I.fresh hb (fun b o => b = g) (fun b o h => by subst h; exact ⟨hg,hlt⟩)
  refine ⟨_,I',L,?_⟩
  have := Rep.sl (c := { c with Z := fun b o => c.Z b o ∨ b = g }) (w := w') k rows g 0 cap hk (by omega) (by
   rw [hr]
   refine RepC.of_get fun i a ha => ?_
   rw [List.getElem?_map,Option.map_eq_some_iff] at ha
   obtain ⟨x,hx,rfl⟩ := ha
   have hx0 := hx
   rw [← ht,List.getElem?_take] at hx
   split at hx
   ·have hsx : scal x = true := List.all_eq_true.1 hs x (List.mem_of_getElem? hx0)
    refine ⟨x,?_,.inr rfl,rfl,Xk (c := c) (w := w') (.sc x hsx) rfl,.sc x hsx⟩
    rw [cell_of_row w' g (0 + i) cur e (0,0) hgc]; simpa using hx
   ·cases hx)
  rw [hn] at this
  exact this
theorem QgD {T : Told} {P : Program} {f : FuncId} {e_ : TypeId} {k B : Nat} (hnil : ∀ (n cap : Nat) (w : World),Calls P f #[.slice none n cap] w fun e w' => e = .returned (.slice none 0 0) ∧ w' = w)
  (hzero : ∀ (p : Addr) (cap : Nat) (w : World),Calls P f #[.slice (some p) 0 cap] w fun e w' => ∃ v',e = .returned v' ∧ w'.ownsRow w.heap.size e_ k v' 0 [] ∧ RowKit.Below w.heap.size w w')
  (hsome : ∀ (b off n cap : Nat) (zs : List Value) (w : World),zs.length = n * k → n * B ≤ 140737488355328 → n ≤ maxLen → zs.all scal = true → (∀ (j : Nat) z,zs[j]? = some z → w.cell? ⟨b,off + j,none⟩ = some z) →
   Calls P f #[.slice (some ⟨b,off,none⟩) n cap] w fun x w' => ∃ v',x = .returned v' ∧ w'.ownsRow w.heap.size e_ k v' n zs ∧ RowKit.Below w.heap.size w w') : FnOK1 T P f (cloneK k B) := by
 intro args H res H' c w vs hx hT I hK hv
 unfold cloneK at hx
 split at hx
 ·rename_i rows
  split at hx
  ·rename_i hb
   simp only [Option.some.injEq,Prod.mk.injEq] at hx
   obtain ⟨rfl,rfl⟩ := hx
   obtain ⟨h1,h2,h3⟩ := hb
   cases hv with
   | cons _ v _ vs hv ht =>
    cases ht
    cases hv with
    | slnil =>
     refine (hnil 0 0 w).mono ?_
     rintro x w' ⟨rfl,rfl⟩
     exact ⟨_,c,rfl,I,.slnil,.refl _ _⟩
    | sl0 p cap =>
     refine (hzero p cap w).mono ?_
     rintro x w' ⟨v',rfl,hown,hb⟩
     obtain ⟨c',I',L,hr⟩ := Qkm (rows := []) I hb (by simp) rfl rfl hown rfl
     exact ⟨v',c',rfl,I',hr,L⟩
    | sl s _ b o cap hs hc hrc =>
     have hk : ∀ r ∈ rows,r.length = k := fun r hr => by
      have := List.all_eq_true.1 h1 r hr
      rw [Bool.and_eq_true,beq_iff_eq] at this
      exact this.1
     obtain ⟨us,e1,e2⟩ := scs_of (r := rows.flatten) (List.all_eq_true.2 fun a ha => by
      obtain ⟨r,hr,ha⟩ := List.mem_flatten.1 ha
      have := List.all_eq_true.1 h1 r hr
      rw [Bool.and_eq_true] at this
      exact List.all_eq_true.1 this.2 a ha)
     have hlen := QoS hk
     rw [e1,List.length_map] at hlen
     rw [e1] at hrc
     refine (hsome b o rows.length cap us w hlen h2 h3 e2 (fun j z hj => ?_)).mono ?_
     ·obtain ⟨v,g1,_,_,_,g2⟩ := hrc.get j (.sc z) (by rw [List.getElem?_map,hj]; rfl)
      cases g2
      exact g1
     ·rintro x w' ⟨v',rfl,hown,hb⟩
      obtain ⟨c',I',L,hr⟩ := Qkm I hb hk e1 rfl hown e2
      exact ⟨v',c',rfl,I',hr,L⟩
  ·cases hx
 ·cases hx
end Go.Ab
namespace Go.Ab
end Go.Ab
namespace Go.Ab
def cellT (g : Nat) : Told := ⟨fun Z w => Z g 0 ∧ ∃ m,w.cell? ⟨g,0,none⟩ = some (.int .i64 m),fun h k => ⟨(k g 0 h.1).1,by rw [(k g 0 h.1).2]; exact h.2⟩⟩
theorem QtY {g : Nat} {w : World} (h : ∃ m,w.cell? ⟨g,0,none⟩ = some (.int .i64 m)) : (cellT g).T (oldCtx w).Z w := by
 refine ⟨?_,h⟩
 obtain ⟨m,h⟩ := h
 show g < w.heap.size
 unfold World.cell? at h
 split at h
 ·rename_i e; exact (Array.getElem?_eq_some_iff.1 e).1
 ·cases h
theorem QlM {H : Type} {enc : TypeId × Value → H} {a : Assume} {C : Checked} {os : Os} {f : FuncId} {fn : Func} {s : ChangeSpec} {conds : List PathCond} {apart fresh handsOn again : Bool} {X : World → Array Value → Prop}
  (hX : ∀ (w w' : World) (args : Array Value),w.heap = w'.heap → X w args → X w' args)
  (own : ownKnob C.prog.godebug = none) (started : os.Started) (noInit : C.prog.inits.idxOf? f = none) (hfn : C.prog.funcs[f]? = some fn)
  (witness : ∃ (w : World) (tape : Tape) (i : Input),w.os = os ∧ (w.forCall tape i).Shaped C.prog ∧ i.vars = [] ∧ Input.okWide C.prog (w.forCall tape i) .any w.heap.size f i ∧
   ((s.pre enc C.prog fn conds apart (w.forCall tape i).memory i.args ∧ X (w.forCall tape i).memory i.args) ∧ sizedMet enc C.prog fn (OpenSpec.ofChange s) apart (w.forCall tape i).memory i.args) ∧ a.holds C.prog (lone (Frame.enter C.prog f i.args .normal) [] (w.forCall tape i)))
  (contract : ∀ (W : World) (base : Nat) (args : Array Value) (ds gs : List (DataW H)) (before : List MemPlace),
   (∀ (j : Nat) t v,fn.params[j]? = some t → args[j]? = some v → Value.okWide C.prog W .any base t v) →
   DataW.Whole enc C.prog fn.params.toList s.vars apart W args.toList ds gs before →
   conds.all (PathCond.test C.prog ⟨fn.params.toList,ds,s.plain.varTypes C.prog,gs⟩) = true →
   (DataW.weightsEach C.prog (fn.params.toList ++ s.plain.varTypes C.prog) (ds ++ gs)).all (· ≤ reachBytes) = true → (X W args ∧ W.ShapedOpen C.prog) →
   a.holds C.prog (lone (Frame.enter C.prog f args .normal) [] W) →
   Calls C.prog f args W fun e W' => ∃ v,e = .returned v ∧ s.post enc C.prog fn apart fresh handsOn again W args v W') :
  ReturnsInHanded a C os f .any (fun w args => (s.pre enc C.prog fn conds apart w args ∧ X w args) ∧ sizedMet enc C.prog fn (OpenSpec.ofChange s) apart w args) (s.post enc C.prog fn apart fresh handsOn again) := by
 refine returnsInHanded_of_calls own started noInit witness ?_
 intro w tape i _ hsh _ hok hpre hholds
 obtain ⟨_,_,_,fn',hfn',_,_,_,_,hval⟩ := hok
 have e : fn' = fn := Option.some.inj (hfn'.symm.trans hfn)
 subst e
 obtain ⟨⟨⟨ds,gs,before,hw,hc⟩,hx⟩,hz⟩ := hpre
 have hw' := DataW.Whole.of_heap (w' := w.forCall tape i) (by rfl) hw
 refine (contract (w.forCall tape i) w.heap.size i.args ds gs before hval hw' hc (hz.weights hw) ⟨hX _ _ _ (by rfl) hx,hsh⟩ hholds).mono fun e W' ⟨v,he,hp⟩ => ?_
 subst he
 exact ChangeSpec.post_blind hp
end Go.Ab
namespace Go.Ab
def splL (c : UInt8) : List UInt8 → List (List UInt8)
 | [] => [[]]
 | b :: l => if b = c then [] :: splL c l else match splL c l with
  | [] => [[b]]
  | h :: t => (b :: h) :: t
end Go.Ab
namespace Go.Ab
def knownX (args : List AV) (H : Heap) : Option (AV × Heap) := match args,H with
 | [],[] => some (.sc (.bool true),[])
 | _,_ => none
theorem QvA {r : Bool} (h : some true = some r) : knownX [] [] = some (.sc (.bool r),[]) := by cases h; rfl
theorem Qqs {T : Told} {P : Program} {call : CallF} {f : FuncId} (h : FnOK T P call) (e : call f [] [] = some (.sc (.bool true),[])) : FnOK1 T P f knownX := by
 intro args H res H' c w vs hx hT
 unfold knownX at hx
 split at hx
 ·cases hx
  exact h f [] [] _ _ c w vs e hT
 ·cases hx
end Go.Ab
