/- DisBack: part 3 of the proof that, whatever the input, the law returns true and the input reads as it did; its conditions are those of the given row. -/
import Derived.Test.YtblfhkldljfhiaaGreatDoorZDisBack2
import Derived.Test.YtblfhkldljfhiaaGreatDoorFl
import Derived.Shelf.Strings.SlTrimAscii
import Derived.Tactics
import Derived.WalkLawsBesides
import Derived.RowKit3
import Derived.Laws.BitsLemmas
import Derived.Test.YtblfhkldljfhiaaGreatDoorSh
import Derived.Test.YtblfhkldljfhiaaGreatDoorRows
import Derived.LaidMore
import Derived.MakeChecks
import Derived.Lib.AppendIntMem
import Derived.Shelf.Vars
import Derived.WalkKit
import Derived.Deep.LoopGhost
import Derived.Lib.Walk
import Derived.Lib.SliceRun
set_option linter.unusedVariables false
set_option linter.unusedSimpArgs false
namespace Go.Ab
open Go.Proofs
noncomputable abbrev Qhk {Γ : Prop} {ρ R : Type} {en : ρ → R} (l : VJ) (j : EI l) (a : Jn) (k0 : VC → Pn Γ (lw 1 159) en) : Pn Γ (lw 1 159) en := p1 (loopAt pp 159 4) (GY a) (l a) GZ (fun _ => j _ _) k0
noncomputable def Qhl (C0 : Jf) (i_r3_reader_two : YG C0) (a : Jn) : Pn True (lw 1 159) (Sum.elim (fun a => (Ex.norm,GY a)) GZ) := (QjM a.x1 a.h0 fun r1 => (pA (r1.1 == 0) (pR (.inr (VC.mk r1.2 a.h2))) (PM C0 i_r3_reader_two (w64 (a.x1 + 1)) r1.2 fun r2 => (pZ [[xi a.h2.Kind,xi a.h2.N,xs a.h2.Name,.sl (We a.h2.L)],[xi r2.1.Kind,xi r2.1.N,xs r2.1.Name,.sl (We r2.1.L)]] (We [a.h2,r2.1]) (P7 [a.h2,r2.1]) (pR (.inl (Jn.mk a.x1 r2.2 a.h1 (Qd.mk r1.1 i0 s_ [a.h2,r2.1]))))))))
noncomputable def Q8.s (k : Nat) (C0 : Jf) : VJ := iter (W2 VU C0) k
theorem Qgf (k : Nat) {C0 : Jf} (i_r3_reader_two : YG C0) : EI (Q8.s k C0) := fun a r h => lpQ (Qhl C0 i_r3_reader_two) (itP h)
theorem Q8.m {j k : Nat} (hj : j ≤ k) (C0 : Jf) (D0 : Jf) (H0 : Le2 C0 D0) (a : Jn) : Le (Q8.s j C0 a) (Q8.s k D0 a) := Le.iter (fun a => (Qah ks2 (tw2 H0) a).1 0) hj a
noncomputable def Q8.w (C0 : Jf) : VJ := loopW (W2 VU C0)
theorem Q8.cv (C0 : Nat → Jf) (D0 : Jf) (H0 : Cv2 C0 D0) (a : Jn) : Cv (fun k => Q8.s k (C0 k) a) (Q8.w D0 a) := Cv.iter (fun a => Qah ks2 H0 a) a
def XS (C0 : WA) (C1 : Jf) (L2 : VJ) (a1 : Int) (h0 : Qb) : Option (Qd × Qb) := (bif (decide (a1 > 4)) then ((C0 h0).bind fun r1 => (some (r1.1,r1.2))) else ((C1 (w64 (a1 + 1)) h0).bind fun r2 => ((L2 (Jn.mk a1 r2.2 (Qd.mk (0 : Int) (0 : Int) s_ ([] : List Qd)) r2.1)).bind (fun (o3 : VC) => (some (o3.h1,o3.h0))))))
theorem Qc9 {C0 : Nat → WA} {D0 : WA} (H0 : Cv1 C0 D0) {C1 : Nat → Jf} {D1 : Jf} (H1 : Cv2 C1 D1) {L2 : Nat → VJ} {M2 : VJ} (N2 : Cv1 L2 M2) (a1 : Int) (h0 : Qb) : Cv (fun k => XS (C0 k) (C1 k) (L2 k) a1 h0) (XS D0 D1 M2 a1 h0) := by
 unfold XS
 exact .cond (.bind (H0 _) fun r1 => by exact .const _) (.bind (H1 _ _) fun r2 => .bind (N2 _) (fun o3 => by exact .const _))
noncomputable def QkR (C0 : WA) (i_r3_reader_one : EA C0) (C1 : Jf) (i_r3_reader_two : YG C1) (L2 : VJ) (j_r3_reader_two_L1 : EI L2) (a1 : Int) (h0 : Qb) : Pn True (lw 1 159) Jb := (pA (decide (a1 > 4)) (Qc7 C0 i_r3_reader_one h0 fun r1 => (pR (r1.1,r1.2))) (PM C1 i_r3_reader_two (w64 (a1 + 1)) h0 fun r2 => (Qhk L2 j_r3_reader_two_L1 (Jn.mk a1 r2.2 (Qd.mk i0 i0 s_ ([] : List Qd)) r2.1) (fun o3 => (pR (o3.h1,o3.h0))))))
mutual
noncomputable def Ji.s : Nat → Bool → Qb → Option (Qd × Qb)
 | 0,_,_ => none
 | k + 1,a1,h0 => XZ (fun a1 h0 => Qw.s k a1 h0) Vq (fun h0 => QJ.s k h0) a1 h0
termination_by structural k => k
noncomputable def QJ.s : Nat → Qb → Option (Qd × Qb)
 | 0,_ => none
 | k + 1,h0 => Xg Vq (fun a1 h0 => Ji.s k a1 h0) JR Wh VT h0
termination_by structural k => k
noncomputable def Qw.s : Nat → Int → Qb → Option (Qd × Qb)
 | 0,_,_ => none
 | k + 1,a1,h0 => XS (fun h0 => QJ.s k h0) (fun a1 h0 => Qw.s k a1 h0) (Q8.s k (fun a1 h0 => Qw.s k a1 h0)) a1 h0
termination_by structural k => k
end
theorem P0 : ∀ (k : Nat),(Fz (Ji.s k)) ∧ (EA (QJ.s k)) ∧ (YG (Qw.s k))
 | 0 => ⟨fun _ _ _ h => (nomatch h),fun _ _ h => (nomatch h),fun _ _ _ h => (nomatch h)⟩
 | k + 1 => by
  obtain ⟨i_r3_reader_inner,i_r3_reader_one,i_r3_reader_two⟩ := P0 k
  exact ⟨fun a1 h0 r h => fnQ (QiA (Qw.s k) i_r3_reader_two (QJ.s k) i_r3_reader_one a1 h0) h,
   fun h0 r h => fnQ (QkQ (Ji.s k) i_r3_reader_inner h0) h,
   fun a1 h0 r h => fnQ (QkR (QJ.s k) i_r3_reader_one (Qw.s k) i_r3_reader_two (Q8.s k (Qw.s k)) (Qgf k i_r3_reader_two) a1 h0) h⟩
theorem Yt : ∀ (k : Nat),(∀ (a1 : Bool) (h0 : Qb),Le (Ji.s k a1 h0) (Ji.s (k + 1) a1 h0)) ∧ (∀ (h0 : Qb),Le (QJ.s k h0) (QJ.s (k + 1) h0)) ∧ (∀ (a1 : Int) (h0 : Qb),Le (Qw.s k a1 h0) (Qw.s (k + 1) a1 h0))
 | 0 => ⟨fun _ _ _ h => (nomatch h),fun _ _ h => (nomatch h),fun _ _ _ h => (nomatch h)⟩
 | k + 1 => by
  obtain ⟨i_r3_reader_inner,i_r3_reader_one,i_r3_reader_two⟩ := Yt k
  exact ⟨fun a1 h0 => (Qa5 (tw2 i_r3_reader_two) ks2 (tw1 i_r3_reader_one) a1 h0).1 0,
   fun h0 => (Qc8 ks2 (tw2 i_r3_reader_inner) ks2 ks2 ks1 h0).1 0,
   fun a1 h0 => (Qc9 (tw1 i_r3_reader_one) (tw2 i_r3_reader_two) (tw1 (Q8.m (Nat.le_succ k) (Qw.s k) (Qw.s (k + 1)) i_r3_reader_two)) a1 h0).1 0⟩
noncomputable def Ji (a1 : Bool) (h0 : Qb) : Option (Qd × Qb) := lim fun k => Ji.s k a1 h0
theorem Ji.cv (a1 : Bool) (h0 : Qb) : Cv (fun k => Ji.s k a1 h0) (Ji a1 h0) := .lim fun k => (Yt k).1 a1 h0
noncomputable def QJ (h0 : Qb) : Option (Qd × Qb) := lim fun k => QJ.s k h0
theorem QJ.cv (h0 : Qb) : Cv (fun k => QJ.s k h0) (QJ h0) := .lim fun k => (Yt k).2.1 h0
noncomputable def Qw (a1 : Int) (h0 : Qb) : Option (Qd × Qb) := lim fun k => Qw.s k a1 h0
theorem Qw.cv (a1 : Int) (h0 : Qb) : Cv (fun k => Qw.s k a1 h0) (Qw a1 h0) := .lim fun k => (Yt k).2.2 a1 h0
theorem Qw.ok {a1 : Int} {h0 : Qb} {r : (Qd × Qb)} (h : Qw a1 h0 = some r) : ww 159 [.ptr 0 0,xi a1] [(0,.box [] (QU h0))] = some (Jb r) := let ⟨k,e⟩ := ((Qw.cv a1 h0).2 r).1 h; (P0 k).2.2 a1 h0 _ e
noncomputable def Q8 : VJ := Q8.w Qw
theorem Q8.eq (a : Jn) : Q8 a = (W2 VU Qw a).bind (Sum.elim Q8 some) := QK _ _
theorem Ji.eq (a1 : Bool) (h0 : Qb) : Ji a1 h0 = XZ Qw Vq QJ a1 h0 := Cv.uniq (Ji.cv a1 h0).shift (Qa5 Qw.cv ks2 QJ.cv a1 h0)
theorem QJ.eq (h0 : Qb) : QJ h0 = Xg Vq Ji JR Wh VT h0 := Cv.uniq (QJ.cv h0).shift (Qc8 ks2 Ji.cv ks2 ks2 ks1 h0)
theorem Qw.eq (a1 : Int) (h0 : Qb) : Qw a1 h0 = XS QJ Qw Q8 a1 h0 := Cv.uniq (Qw.cv a1 h0).shift (Qc9 QJ.cv Qw.cv (Q8.cv (fun k => Qw.s k) Qw Qw.cv) a1 h0)
noncomputable abbrev QkS {Γ : Prop} {lp : Loops} {ρ R : Type} {en : ρ → R} (a1 : Int) (h0 : Qb) (k : (Qd × Qb) → Pn Γ lp en) : Pn Γ lp en := pC (ww 159 [.ptr 0 0,xi a1] [(0,.box [] (QU h0))]) (Qw a1 h0) Jb (fun _ => Qw.ok) k
def Qfk (r : (Qd × Bool)) : AV × Heap := (.tup [.agg (Jg r.1),xo r.2],[])
abbrev Qm6 := ByteArray → Option (Qd × Bool)
def Qfl (C0 : Jf) (C1 : PH) (a0 : ByteArray) : Option (Qd × Bool) := ((C0 (0 : Int) (Qb.mk a0 (0 : Int) (0 : Int) false)).bind fun r1 => ((C1 r1.2).bind fun r2 => (bif r2.Bad then (some ((Qd.mk (0 : Int) (0 : Int) s_ ([] : List Qd)),false)) else (bif (decide (r2.P < ((a0.size : Nat) : Int))) then (some ((Qd.mk (0 : Int) (0 : Int) s_ ([] : List Qd)),false)) else (some (r1.1,true))))))
noncomputable def XT : Qm6 := Qfl Qw Vh
theorem XT.eq (a0 : ByteArray) : XT a0 = Qfl Qw Vh a0 := rfl
noncomputable def Qtd (a0 : ByteArray) : Pn True (lw 0 107) Qfk := (QkS i0 (Qb.mk a0 i0 i0 false) fun r1 => (Qco r1.2 fun r2 => (pA r2.Bad (pYN 7 r2.Bad (fun g => g.2) (pU true rfl (pR ((Qd.mk i0 i0 s_ ([] : List Qd)),false)))) (pNN 7 r2.Bad (fun g => g.2) (pA (decide (r2.P < (zz a0))) (pR ((Qd.mk i0 i0 s_ ([] : List Qd)),false)) (pR (r1.1,true)))))))
theorem XT.ok {a0 : ByteArray} {r : (Qd × Bool)} (h : XT a0 = some r) : ww 107 [xs a0] [] = some (Qfk r) := fnQ (Qtd a0) h
noncomputable abbrev Qte {Γ : Prop} {lp : Loops} {ρ R : Type} {en : ρ → R} (a0 : ByteArray) (k : (Qd × Bool) → Pn Γ lp en) : Pn Γ lp en := pC (ww 107 [xs a0] []) (XT a0) Qfk (fun _ => XT.ok) k
def QjN (r : (Qj × Bool)) : AV × Heap := (.tup [.agg (QcW r.1),xo r.2],[])
abbrev Qrm := ByteArray → Bool → Option (Qj × Bool)
def Qfm (C0 : Qrl) (C1 : Qm6) (a0 : ByteArray) (a1 : Bool) : Option (Qj × Bool) := (bif a1 then ((C0 a0).bind fun r1 => (some ((Qj.mk (if (0 : Int) > r1 then (0 : Int) else r1) (Qd.mk (0 : Int) (0 : Int) s_ ([] : List Qd))),(decide (r1 ≥ 0))))) else ((C1 a0).bind fun r2 => (some ((Qj.mk (-1 : Int) r2.1),r2.2))))
noncomputable def YT : Qrm := Qfm E1 XT
theorem YT.eq (a0 : ByteArray) (a1 : Bool) : YT a0 a1 = Qfm E1 XT a0 a1 := rfl
noncomputable def QvO (a0 : ByteArray) (a1 : Bool) : Pn True (lw 0 158) QjN := (pA a1 (QvN a0 fun r1 => (pR ((Qj.mk (if i0 > r1 then i0 else r1) (Qd.mk i0 i0 s_ ([] : List Qd))),(decide (r1 ≥ 0))))) (Qte a0 fun r2 => (pR ((Qj.mk (-1 : Int) r2.1),r2.2))))
theorem YT.ok {a0 : ByteArray} {a1 : Bool} {r : (Qj × Bool)} (h : YT a0 a1 = some r) : ww 158 [xs a0,xo a1] [] = some (QjN r) := fnQ (QvO a0 a1) h
noncomputable abbrev Qps {Γ : Prop} {lp : Loops} {ρ R : Type} {en : ρ → R} (a0 : ByteArray) (a1 : Bool) (k : (Qj × Bool) → Pn Γ lp en) : Pn Γ lp en := pC (ww 158 [xs a0,xo a1] []) (YT a0 a1) QjN (fun _ => YT.ok) k
def Qhm (r : ((List Qj) × Bool)) : AV × Heap := (.tup [.sl (Jl r.1),xo r.2],[])
abbrev QjO := (List ByteArray) → (List ByteArray) → Option ((List Qj) × Bool)
structure Vr where
 x0 : (List ByteArray)
 x1 : (List ByteArray)
 x7 : Int
 r0 : (List Qj)
structure Wk where
 x4 : (List Qj)
 x5 : Bool
def Qcq (a : Vr) : St := { n := 42,nx := 1,env := [(0,.sl (Qr a.x0)),(1,.sl (Qr a.x1)),(6,.arr 0),(7,xi a.x7)],heap := [(0,.arr true 5 (Jl a.r0))] }
def QfX (a : Wk) : Ex × St := (.ret,{ n := 42,nx := 0,env := [(4,.sl (Jl a.x4)),(5,xo a.x5)],heap := [] })
def QfY (a : (List Qj)) : Ex × St := (.exit 0,{ n := 42,nx := 1,env := [(6,.arr 0)],heap := [(0,.arr true 5 (Jl a))] })
def Qhn : (Wk ⊕ (List Qj)) → Ex × St := Sum.elim QfX QfY
abbrev Qjd := Vr → Option (Wk ⊕ (List Qj))
def G2 (C0 : Qhe) (C1 : Qrm) (a : Vr) : Option (Vr ⊕ (Wk ⊕ (List Qj))) := (bif (decide (a.x7 < (((a.x0.length) : Nat) : Int))) then (bif (decide (a.x7 < (((a.x1.length) : Nat) : Int))) then (bif (decide (0 ≤ a.x7)) then ((a.x1[(Int.toNat a.x7)]?).bind fun e1 => ((C0 e1).bind fun r2 => ((a.x0[(Int.toNat a.x7)]?).bind fun e3 => ((C1 e3 r2).bind fun r4 => (bif (!r4.2) then (some (.inr (.inl (Wk.mk ([] : List Qj) false)))) else (bif (decide ((a.r0.length + [r4.1].length) * 64 ≤ most)) then (some (.inl (Vr.mk a.x0 a.x1 (w64 (a.x7 + 1)) (a.r0 ++ [r4.1])))) else none)))))) else none) else (bif (decide (0 ≤ a.x7)) then ((a.x0[(Int.toNat a.x7)]?).bind fun e5 => ((C1 e5 false).bind fun r6 => (bif (!r6.2) then (some (.inr (.inl (Wk.mk ([] : List Qj) false)))) else (bif (decide ((a.r0.length + [r6.1].length) * 64 ≤ most)) then (some (.inl (Vr.mk a.x0 a.x1 (w64 (a.x7 + 1)) (a.r0 ++ [r6.1])))) else none)))) else none)) else (some (.inr (.inr a.r0))))
noncomputable def U1 : Qjd := loopW (G2 Vc YT)
theorem U1.eq (a : Vr) : U1 a = (G2 Vc YT a).bind (Sum.elim U1 some) := QK _ _
noncomputable def Qpt (a : Vr) : Pn True (lw 0 101) (Sum.elim (fun a => (Ex.norm,Qcq a)) Qhn) := (pH Qv a.x0 (pA (decide (a.x7 < (((a.x0.length) : Nat) : Int))) (pH Qv a.x1 (pA (decide (a.x7 < (((a.x1.length) : Nat) : Int))) (let u142 := (decide (0 ≤ a.x7)); pA u142 (pI Qv a.x1 a.x7 fun e1 => (Qn8 e1 fun r2 => (pY u142 (fun g => g.2) (pI Qv a.x0 a.x7 fun e3 => (Qps e3 r2 fun r4 => (pA (!r4.2) (pR (.inr (.inl (Wk.mk ([] : List Qj) false)))) (pZ [[xi r4.1.Reg,xi r4.1.E.Kind,xi r4.1.E.N,xs r4.1.E.Name,.sl (We r4.1.E.L)]] (Jl [r4.1]) (Qav [r4.1]) (pQ Zk 64 a.r0 [r4.1] (pR (.inl (Vr.mk a.x0 a.x1 (w64 (a.x7 + 1)) (a.r0 ++ [r4.1])))))))))))) pF) (pA (decide (0 ≤ a.x7)) (pI Qv a.x0 a.x7 fun e5 => (Qps e5 false fun r6 => (pA (!r6.2) (pR (.inr (.inl (Wk.mk ([] : List Qj) false)))) (pZ [[xi r6.1.Reg,xi r6.1.E.Kind,xi r6.1.E.N,xs r6.1.E.Name,.sl (We r6.1.E.L)]] (Jl [r6.1]) (Qav [r6.1]) (pQ Zk 64 a.r0 [r6.1] (pR (.inl (Vr.mk a.x0 a.x1 (w64 (a.x7 + 1)) (a.r0 ++ [r6.1]))))))))) pF))) (pR (.inr (.inr a.r0)))))
theorem U1.ok {a : Vr} {r : (Wk ⊕ (List Qj))} (h : U1 a = some r) : lw 0 101 (loopAt pp 101 3) (Qcq a) = some (Qhn r) := lpQ Qpt h
noncomputable abbrev Qpu {Γ : Prop} {ρ R : Type} {en : ρ → R} (a : Vr) (k0 : Wk → Pn Γ (lw 0 101) en) (k1 : (List Qj) → Pn Γ (lw 0 101) en) : Pn Γ (lw 0 101) en := p2 (loopAt pp 101 3) (Qcq a) (U1 a) QfX QfY (fun _ => U1.ok) k0 k1
def Qda (L0 : Qjd) (a0 : (List ByteArray)) (a1 : (List ByteArray)) : Option ((List Qj) × Bool) := ((L0 (Vr.mk a0 a1 (0 : Int) ([] : List Qj))).bind fun x => Sum.elim (fun (o1 : Wk) => (some (o1.x4,o1.x5))) (fun (o2 : (List Qj)) => (some (o2,true))) x)
noncomputable def Yo : QjO := Qda U1
theorem Yo.eq (a0 : (List ByteArray)) (a1 : (List ByteArray)) : Yo a0 a1 = Qda U1 a0 a1 := rfl
noncomputable def Quy (a0 : (List ByteArray)) (a1 : (List ByteArray)) : Pn True (lw 0 101) Qhm := (Qpu (Vr.mk a0 a1 i0 ([] : List Qj)) (fun o1 => (pR (o1.x4,o1.x5))) (fun o2 => (pR (o2,true))))
theorem Yo.ok {a0 : (List ByteArray)} {a1 : (List ByteArray)} {r : ((List Qj) × Bool)} (h : Yo a0 a1 = some r) : ww 101 [.sl (Qr a0),.sl (Qr a1)] [] = some (Qhm r) := fnQ (Quy a0 a1) h
noncomputable abbrev YC {Γ : Prop} {lp : Loops} {ρ R : Type} {en : ρ → R} (a0 : (List ByteArray)) (a1 : (List ByteArray)) (k : ((List Qj) × Bool) → Pn Γ lp en) : Pn Γ lp en := pC (ww 101 [.sl (Qr a0),.sl (Qr a1)] []) (Yo a0 a1) Qhm (fun _ => Yo.ok) k
def QdC (r : (ByteArray × Bool)) : AV × Heap := (.tup [xs r.1,xo r.2],[])
abbrev QkT := ByteArray → Option (ByteArray × Bool)
structure VV where
 x0 : ByteArray
 x4 : Int
structure Uq where
 x2 : ByteArray
 x3 : Bool
def Sk (a : VV) : St := { n := 54,nx := 0,env := [(0,xs a.x0),(4,xi a.x4)],heap := [] }
def Qdb (a : Uq) : Ex × St := (.ret,{ n := 54,nx := 0,env := [(2,xs a.x2),(3,xo a.x3)],heap := [] })
def Qdc (a : ByteArray) : Ex × St := (.exit 0,{ n := 54,nx := 0,env := [(0,xs a)],heap := [] })
def Qex : (Uq ⊕ ByteArray) → Ex × St := Sum.elim Qdb Qdc
abbrev QfZ := VV → Option (Uq ⊕ ByteArray)
def Ql0 (a : VV) : Option (VV ⊕ (Uq ⊕ ByteArray)) := (bif (decide (a.x4 < (w64 (((a.x0.size : Nat) : Int) - 1)))) then (bif (decide (0 ≤ a.x4 ∧ a.x4 < ((a.x0.size : Nat) : Int))) then (bif (decide (((a.x0.data.getD (Int.toNat a.x4) 0).toNat : Int) < 32)) then (some (.inr (.inl (Uq.mk s_ false)))) else (bif (decide (((a.x0.data.getD (Int.toNat a.x4) 0).toNat : Int) > 126)) then (some (.inr (.inl (Uq.mk s_ false)))) else (bif (((a.x0.data.getD (Int.toNat a.x4) 0).toNat : Int) == 34) then (some (.inr (.inl (Uq.mk s_ false)))) else (some (.inl (VV.mk a.x0 (w64 (a.x4 + 1)))))))) else none) else (some (.inr (.inr a.x0))))
noncomputable def G3 : QfZ := loopW (Ql0 )
noncomputable def Ql1 (a : VV) : Pn True (lw 0 100) (Sum.elim (fun a => (Ex.norm,Sk a)) Qex) := (pA (decide (a.x4 < (w64 ((zz a.x0) - 1)))) (let u145 := (in1 a.x4 (zz a.x0)); pA u145 (let u144 := (decide ((gb a.x0 a.x4) < 32)); pA u144 (pYN 4 u144 (fun g => g.2) (pYN 6 true (fun _ => rfl) (pR (.inr (.inl (Uq.mk s_ false)))))) (pNN 2 u144 (fun g => g.2) (pY u145 (fun g => g.1.2) (pNN 2 u144 (fun g => g.2) (let u143 := (decide ((gb a.x0 a.x4) > 126)); pA u143 (pYN 4 u143 (fun g => g.2) (pU true rfl (pR (.inr (.inl (Uq.mk s_ false)))))) (pNN 2 u143 (fun g => g.2) (pY u145 (fun g => g.1.1.2) (pNN 2 u143 (fun g => g.2) (pA ((gb a.x0 a.x4) == 34) (pR (.inr (.inl (Uq.mk s_ false)))) (pR (.inl (VV.mk a.x0 (w64 (a.x4 + 1)))))))))))))) pF) (pR (.inr (.inr a.x0))))
theorem G3.ok {a : VV} {r : (Uq ⊕ ByteArray)} (h : G3 a = some r) : lw 0 100 (loopAt pp 100 4) (Sk a) = some (Qex r) := lpQ Ql1 h
noncomputable abbrev Ql2 {Γ : Prop} {ρ R : Type} {en : ρ → R} (a : VV) (k0 : Uq → Pn Γ (lw 0 100) en) (k1 : ByteArray → Pn Γ (lw 0 100) en) : Pn Γ (lw 0 100) en := p2 (loopAt pp 100 4) (Sk a) (G3 a) Qdb Qdc (fun _ => G3.ok) k0 k1
def QqN (L0 : QfZ) (a0 : ByteArray) : Option (ByteArray × Bool) := (bif (decide (((a0.size : Nat) : Int) < 2)) then (some (s_,false)) else (bif (decide (0 ≤ (0 : Int) ∧ (0 : Int) < ((a0.size : Nat) : Int))) then (bif (((a0.data.getD (Int.toNat 0) 0).toNat : Int) != 34) then (some (s_,false)) else (bif (decide (0 ≤ (w64 (((a0.size : Nat) : Int) - 1)) ∧ (w64 (((a0.size : Nat) : Int) - 1)) < ((a0.size : Nat) : Int))) then (bif (((a0.data.getD (Int.toNat (w64 (((a0.size : Nat) : Int) - 1))) 0).toNat : Int) != 34) then (some (s_,false)) else (bif (decide (((a0.size : Nat) : Int) > 62)) then (some (s_,false)) else ((L0 (VV.mk a0 (1 : Int))).bind fun x => Sum.elim (fun (o1 : Uq) => (some (o1.x2,o1.x3))) (fun (o2 : ByteArray) => (bif (decide (0 ≤ (1 : Int) ∧ (1 : Int) ≤ (w64 (((o2.size : Nat) : Int) - 1)) ∧ (w64 (((o2.size : Nat) : Int) - 1)) ≤ ((o2.size : Nat) : Int))) then (some ((o2.extract (Int.toNat 1) (Int.toNat (w64 (((o2.size : Nat) : Int) - 1)))),true)) else none)) x))) else none)) else none))
noncomputable def FQ : QkT := QqN G3
noncomputable def QqO (a0 : ByteArray) : Pn True (lw 0 100) QdC := (let u148 := (decide ((zz a0) < 2)); pA u148 (pYN 3 u148 (fun g => g.2) (pYN 12 true (fun _ => rfl) (pR (s_,false)))) (pN u148 (fun g => g.2) (pA (in1 i0 (zz a0)) (pNN 2 u148 (fun g => g.1.2) (let u147 := ((gb a0 i0) != 34); pA u147 (pYN 6 u147 (fun g => g.2) (pYN 5 true (fun _ => rfl) (pR (s_,false)))) (pNN 4 u147 (fun g => g.2) (pA (in1 (w64 ((zz a0) - 1)) (zz a0)) (pNN 2 u147 (fun g => g.1.2) (let u146 := ((gb a0 (w64 ((zz a0) - 1))) != 34); pA u146 (pYN 3 u146 (fun g => g.2) (pU true rfl (pR (s_,false)))) (pNN 3 u146 (fun g => g.2) (pA (decide ((zz a0) > 62)) (pR (s_,false)) (Ql2 (VV.mk a0 (zi 1)) (fun o1 => (pR (o1.x2,o1.x3))) (fun o2 => (pA (in2 (zi 1) (w64 ((zz o2) - 1)) (zz o2)) (pR ((cu o2 (zi 1) (w64 ((zz o2) - 1))),true)) pF))))))) pF)))) pF)))
theorem FQ.ok {a0 : ByteArray} {r : (ByteArray × Bool)} (h : FQ a0 = some r) : ww 100 [xs a0] [] = some (QdC r) := fnQ (QqO a0) h
noncomputable abbrev QqP {Γ : Prop} {lp : Loops} {ρ R : Type} {en : ρ → R} (a0 : ByteArray) (k : (ByteArray × Bool) → Pn Γ lp en) : Pn Γ lp en := pC (ww 100 [xs a0] []) (FQ a0) QdC (fun _ => FQ.ok) k
def Yu (r : (Qe × Bool)) : AV × Heap := (.tup [.agg (Qbj r.1),xo r.2],[])
abbrev Qm7 := ByteArray → (List ByteArray) → Option (Qe × Bool)
def Qfn (C0 : QjO) (C1 : QkT) (C2 : QjF) (a0 : ByteArray) (a1 : (List ByteArray)) : Option (Qe × Bool) := (bif (eqS a0 YM) then (bif (decide ((((a1.length) : Nat) : Int) < 1)) then (some ((Qe.mk (0 : Int) s_ (3 : Int) (0 : Int) s_ ([] : List Qj)),false)) else (bif (decide ((((a1.length) : Nat) : Int) > 16)) then (some ((Qe.mk (0 : Int) s_ (3 : Int) (0 : Int) s_ ([] : List Qj)),false)) else ((C0 a1 ([] : List ByteArray)).bind fun r1 => (some ((Qe.mk (0 : Int) s_ (3 : Int) (0 : Int) s_ r1.1),r1.2))))) else (bif (eqS a0 YN) then (bif (decide ((((a1.length) : Nat) : Int) < 1)) then (some ((Qe.mk (0 : Int) s_ (4 : Int) (0 : Int) s_ ([] : List Qj)),false)) else (bif (decide ((((a1.length) : Nat) : Int) > 16)) then (some ((Qe.mk (0 : Int) s_ (4 : Int) (0 : Int) s_ ([] : List Qj)),false)) else ((C0 a1 ([] : List ByteArray)).bind fun r2 => (some ((Qe.mk (0 : Int) s_ (4 : Int) (0 : Int) s_ r2.1),r2.2))))) else (bif (eqS a0 QbI) then (bif (decide ((((a1.length) : Nat) : Int) < 1)) then (some ((Qe.mk (0 : Int) s_ (5 : Int) (0 : Int) s_ ([] : List Qj)),false)) else (bif (decide ((((a1.length) : Nat) : Int) > 16)) then (some ((Qe.mk (0 : Int) s_ (5 : Int) (0 : Int) s_ ([] : List Qj)),false)) else ((C0 a1 ([] : List ByteArray)).bind fun r3 => (some ((Qe.mk (0 : Int) s_ (5 : Int) (0 : Int) s_ r3.1),r3.2))))) else (bif (eqS a0 P9) then (bif (decide ((((a1.length) : Nat) : Int) < 1)) then (some ((Qe.mk (0 : Int) s_ (7 : Int) (0 : Int) s_ ([] : List Qj)),false)) else (bif (decide ((((a1.length) : Nat) : Int) > 1)) then (some ((Qe.mk (0 : Int) s_ (7 : Int) (0 : Int) s_ ([] : List Qj)),false)) else ((C0 a1 ([] : List ByteArray)).bind fun r4 => (some ((Qe.mk (0 : Int) s_ (7 : Int) (0 : Int) s_ r4.1),r4.2))))) else (bif (eqS a0 Sb) then (bif (decide ((((a1.length) : Nat) : Int) < 1)) then (some ((Qe.mk (0 : Int) s_ (8 : Int) (0 : Int) s_ ([] : List Qj)),false)) else (bif (decide ((((a1.length) : Nat) : Int) > 1)) then (some ((Qe.mk (0 : Int) s_ (8 : Int) (0 : Int) s_ ([] : List Qj)),false)) else ((C0 a1 ([] : List ByteArray)).bind fun r5 => (some ((Qe.mk (0 : Int) s_ (8 : Int) (0 : Int) s_ r5.1),r5.2))))) else (bif (eqS a0 Sa) then (bif ((((a1.length) : Nat) : Int) != 1) then (some ((Qe.mk (0 : Int) s_ (0 : Int) (0 : Int) s_ ([] : List Qj)),false)) else ((a1[(Int.toNat 0)]?).bind fun e6 => ((C1 e6).bind fun r7 => (some ((Qe.mk (0 : Int) s_ (6 : Int) (0 : Int) r7.1 ([] : List Qj)),r7.2))))) else (bif (eqS a0 QeW) then (bif ((((a1.length) : Nat) : Int) != 2) then (some ((Qe.mk (0 : Int) s_ (0 : Int) (0 : Int) s_ ([] : List Qj)),false)) else ((a1[(Int.toNat 0)]?).bind fun e8 => ((C2 e8).bind fun r9 => (bif (!r9) then (some ((Qe.mk (0 : Int) s_ (0 : Int) (0 : Int) s_ ([] : List Qj)),false)) else (bif (decide (0 ≤ (1 : Int) ∧ (1 : Int) ≤ ((a1.length : Nat) : Int) ∧ ((a1.length : Nat) : Int) ≤ ((a1.length : Nat) : Int))) then ((C0 ((a1.drop (Int.toNat 1)).take (Int.toNat (((a1.length : Nat) : Int) - 1))) ([] : List ByteArray)).bind fun r10 => ((a1[(Int.toNat 0)]?).bind fun e11 => (some ((Qe.mk (0 : Int) s_ (9 : Int) (0 : Int) e11 r10.1),r10.2)))) else none))))) else (some ((Qe.mk (0 : Int) s_ (0 : Int) (0 : Int) s_ ([] : List Qj)),false)))))))))
noncomputable def YU : Qm7 := Qfn Yo FQ Zc
theorem YU.eq (a0 : ByteArray) (a1 : (List ByteArray)) : YU a0 a1 = Qfn Yo FQ Zc a0 a1 := rfl
noncomputable def Qtf (a0 : ByteArray) (a1 : (List ByteArray)) : Pn True (lw 0 56) Yu := (pA (eqS a0 YM) (pH Qv a1 (let u149 := (decide ((((a1.length) : Nat) : Int) < 1)); pA u149 (pYN 4 u149 (fun g => g.2) (pU true rfl (pR ((Qe.mk i0 s_ (zi 3) i0 s_ ([] : List Qj)),false)))) (pN u149 (fun g => g.2) (pH Qv a1 (pNN 3 u149 (fun g => g.2) (pA (decide ((((a1.length) : Nat) : Int) > 16)) (pR ((Qe.mk i0 s_ (zi 3) i0 s_ ([] : List Qj)),false)) (YC a1 ([] : List ByteArray) fun r1 => (pR ((Qe.mk i0 s_ (zi 3) i0 s_ r1.1),r1.2))))))))) (pA (eqS a0 YN) (pH Qv a1 (let u150 := (decide ((((a1.length) : Nat) : Int) < 1)); pA u150 (pYN 4 u150 (fun g => g.2) (pU true rfl (pR ((Qe.mk i0 s_ (zi 4) i0 s_ ([] : List Qj)),false)))) (pN u150 (fun g => g.2) (pH Qv a1 (pNN 3 u150 (fun g => g.2) (pA (decide ((((a1.length) : Nat) : Int) > 16)) (pR ((Qe.mk i0 s_ (zi 4) i0 s_ ([] : List Qj)),false)) (YC a1 ([] : List ByteArray) fun r2 => (pR ((Qe.mk i0 s_ (zi 4) i0 s_ r2.1),r2.2))))))))) (pA (eqS a0 QbI) (pH Qv a1 (let u151 := (decide ((((a1.length) : Nat) : Int) < 1)); pA u151 (pYN 4 u151 (fun g => g.2) (pU true rfl (pR ((Qe.mk i0 s_ (zi 5) i0 s_ ([] : List Qj)),false)))) (pN u151 (fun g => g.2) (pH Qv a1 (pNN 3 u151 (fun g => g.2) (pA (decide ((((a1.length) : Nat) : Int) > 16)) (pR ((Qe.mk i0 s_ (zi 5) i0 s_ ([] : List Qj)),false)) (YC a1 ([] : List ByteArray) fun r3 => (pR ((Qe.mk i0 s_ (zi 5) i0 s_ r3.1),r3.2))))))))) (pA (eqS a0 P9) (pH Qv a1 (let u152 := (decide ((((a1.length) : Nat) : Int) < 1)); pA u152 (pYN 4 u152 (fun g => g.2) (pU true rfl (pR ((Qe.mk i0 s_ (zi 7) i0 s_ ([] : List Qj)),false)))) (pN u152 (fun g => g.2) (pH Qv a1 (pNN 3 u152 (fun g => g.2) (pA (decide ((((a1.length) : Nat) : Int) > 1)) (pR ((Qe.mk i0 s_ (zi 7) i0 s_ ([] : List Qj)),false)) (YC a1 ([] : List ByteArray) fun r4 => (pR ((Qe.mk i0 s_ (zi 7) i0 s_ r4.1),r4.2))))))))) (pA (eqS a0 Sb) (pH Qv a1 (let u153 := (decide ((((a1.length) : Nat) : Int) < 1)); pA u153 (pYN 4 u153 (fun g => g.2) (pU true rfl (pR ((Qe.mk i0 s_ (zi 8) i0 s_ ([] : List Qj)),false)))) (pN u153 (fun g => g.2) (pH Qv a1 (pNN 3 u153 (fun g => g.2) (pA (decide ((((a1.length) : Nat) : Int) > 1)) (pR ((Qe.mk i0 s_ (zi 8) i0 s_ ([] : List Qj)),false)) (YC a1 ([] : List ByteArray) fun r5 => (pR ((Qe.mk i0 s_ (zi 8) i0 s_ r5.1),r5.2))))))))) (pA (eqS a0 Sa) (pH Qv a1 (pA ((((a1.length) : Nat) : Int) != 1) (pR ((Qe.mk i0 s_ i0 i0 s_ ([] : List Qj)),false)) (pU (decide (0 ≤ i0)) rfl (pI Qv a1 i0 fun e6 => (QqP e6 fun r7 => (pR ((Qe.mk i0 s_ (zi 6) i0 r7.1 ([] : List Qj)),r7.2))))))) (pA (eqS a0 QeW) (pH Qv a1 (let u154 := ((((a1.length) : Nat) : Int) != 2); pA u154 (pYN 5 u154 (fun g => g.2) (pU true rfl (pR ((Qe.mk i0 s_ i0 i0 s_ ([] : List Qj)),false)))) (pN u154 (fun g => g.2) (pU (decide (0 ≤ i0)) rfl (pI Qv a1 i0 fun e8 => (pNN 2 u154 (fun g => g.2) (Qm3 e8 fun r9 => (pNN 2 u154 (fun g => g.2) (pA (!r9) (pR ((Qe.mk i0 s_ i0 i0 s_ ([] : List Qj)),false)) (pU (decide ((Qr a1).all (fun r => r.length == 1) = true)) (decide_eq_true (QoU _)) (pB (in2 (zi 1) (((Qr a1).length : Nat) : Int) (((Qr a1).length : Nat) : Int)) (in2 (zi 1) ((a1.length : Nat) : Int) ((a1.length : Nat) : Int)) (by rw [GP]) (pZ (((Qr a1).drop (Int.toNat 1)).take (Int.toNat ((((Qr a1).length : Nat) : Int) - 1))) (Qr ((a1.drop (Int.toNat 1)).take (Int.toNat (((a1.length : Nat) : Int) - 1)))) (by rw [QlN,GP]) (YC ((a1.drop (Int.toNat 1)).take (Int.toNat (((a1.length : Nat) : Int) - 1))) ([] : List ByteArray) fun r10 => (pU (decide (0 ≤ i0)) rfl (pI Qv a1 i0 fun e11 => (pR ((Qe.mk i0 s_ (zi 9) i0 e11 r10.1),r10.2)))))) pF))))))))))) (pR ((Qe.mk i0 s_ i0 i0 s_ ([] : List Qj)),false)))))))))
theorem YU.ok {a0 : ByteArray} {a1 : (List ByteArray)} {r : (Qe × Bool)} (h : YU a0 a1 = some r) : ww 56 [xs a0,.sl (Qr a1)] [] = some (Yu r) := fnQ (Qtf a0 a1) h
noncomputable abbrev QkU {Γ : Prop} {lp : Loops} {ρ R : Type} {en : ρ → R} (a0 : ByteArray) (a1 : (List ByteArray)) (k : (Qe × Bool) → Pn Γ lp en) : Pn Γ lp en := pC (ww 56 [xs a0,.sl (Qr a1)] []) (YU a0 a1) Yu (fun _ => YU.ok) k
def Qho (r : (Int × Bool)) : AV × Heap := (.tup [xi r.1,xo r.2],[])
abbrev QjP := ByteArray → Option (Int × Bool)
def Qhp (C0 : Fm) (a0 : ByteArray) : Option (Int × Bool) := ((C0 (-1 : Int) a0).bind fun r1 => (some (r1.2.1,r1.2.2)))
noncomputable def ZZ : QjP := Qhp Wb
theorem ZZ.eq (a0 : ByteArray) : ZZ a0 = Qhp Wb a0 := rfl
noncomputable def Quz (a0 : ByteArray) : Pn True (lw 0 102) Qho := (SZ (-1 : Int) a0 fun r1 => (pR (r1.2.1,r1.2.2)))
theorem ZZ.ok {a0 : ByteArray} {r : (Int × Bool)} (h : ZZ a0 = some r) : ww 102 [xs a0] [] = some (Qho r) := fnQ (Quz a0) h
noncomputable abbrev Qhq {Γ : Prop} {lp : Loops} {ρ R : Type} {en : ρ → R} (a0 : ByteArray) (k : (Int × Bool) → Pn Γ lp en) : Pn Γ lp en := pC (ww 102 [xs a0] []) (ZZ a0) Qho (fun _ => ZZ.ok) k
abbrev Qpv := ByteArray → (List ByteArray) → Option (Qe × Bool)
def Qhr (C0 : QjO) (C1 : QjP) (C2 : QcX) (C3 : FJ) (a0 : ByteArray) (a1 : (List ByteArray)) : Option (Qe × Bool) := (bif (eqS a0 s_b) then (bif ((((a1.length) : Nat) : Int) != 1) then (some ((Qe.mk (0 : Int) s_ (2 : Int) (0 : Int) s_ ([] : List Qj)),false)) else ((C0 a1 ([] : List ByteArray)).bind fun r1 => (some ((Qe.mk (0 : Int) s_ (2 : Int) (0 : Int) s_ r1.1),r1.2)))) else (bif (eqS a0 s_bl) then (bif ((((a1.length) : Nat) : Int) != 1) then (some ((Qe.mk (0 : Int) s_ (2 : Int) (1 : Int) s_ ([] : List Qj)),false)) else ((C0 a1 ([] : List ByteArray)).bind fun r2 => (some ((Qe.mk (0 : Int) s_ (2 : Int) (1 : Int) s_ r2.1),r2.2)))) else (bif (eqS a0 s_bc) then (bif ((((a1.length) : Nat) : Int) != 3) then (some ((Qe.mk (0 : Int) s_ (2 : Int) (2 : Int) s_ ([] : List Qj)),false)) else ((C0 a1 ([] : List ByteArray)).bind fun r3 => (some ((Qe.mk (0 : Int) s_ (2 : Int) (2 : Int) s_ r3.1),r3.2)))) else ((C1 a0).bind fun r4 => (bif (!r4.2) then (some ((Qe.mk (0 : Int) s_ (2 : Int) (0 : Int) s_ ([] : List Qj)),false)) else ((C2 r4.1).bind fun r5 => ((C3 r5).bind fun r6 => (bif ((((a1.length) : Nat) : Int) != (((r6.length) : Nat) : Int)) then (some ((Qe.mk (0 : Int) s_ (1 : Int) r4.1 s_ ([] : List Qj)),false)) else ((C0 a1 r6).bind fun r7 => (some ((Qe.mk (0 : Int) s_ (1 : Int) r4.1 s_ r7.1),r7.2)))))))))))
noncomputable def Z0 : Qpv := Qhr Yo ZZ WU JZ
theorem Z0.eq (a0 : ByteArray) (a1 : (List ByteArray)) : Z0 a0 a1 = Qhr Yo ZZ WU JZ a0 a1 := rfl
noncomputable def QuA (a0 : ByteArray) (a1 : (List ByteArray)) : Pn True (lw 0 57) Yu := (pA (eqS a0 s_b) (pH Qv a1 (pA ((((a1.length) : Nat) : Int) != 1) (pR ((Qe.mk i0 s_ (zi 2) i0 s_ ([] : List Qj)),false)) (YC a1 ([] : List ByteArray) fun r1 => (pR ((Qe.mk i0 s_ (zi 2) i0 s_ r1.1),r1.2))))) (pA (eqS a0 s_bl) (pH Qv a1 (pA ((((a1.length) : Nat) : Int) != 1) (pR ((Qe.mk i0 s_ (zi 2) (zi 1) s_ ([] : List Qj)),false)) (YC a1 ([] : List ByteArray) fun r2 => (pR ((Qe.mk i0 s_ (zi 2) (zi 1) s_ r2.1),r2.2))))) (pA (eqS a0 s_bc) (pH Qv a1 (pA ((((a1.length) : Nat) : Int) != 3) (pR ((Qe.mk i0 s_ (zi 2) (zi 2) s_ ([] : List Qj)),false)) (YC a1 ([] : List ByteArray) fun r3 => (pR ((Qe.mk i0 s_ (zi 2) (zi 2) s_ r3.1),r3.2))))) (Qhq a0 fun r4 => (pA (!r4.2) (pR ((Qe.mk i0 s_ (zi 2) i0 s_ ([] : List Qj)),false)) (QeY r4.1 fun r5 => (Pm r5 fun r6 => (pH Qv r6 (pH Qv a1 (pA ((((a1.length) : Nat) : Int) != (((r6.length) : Nat) : Int)) (pR ((Qe.mk i0 s_ (zi 1) r4.1 s_ ([] : List Qj)),false)) (YC a1 r6 fun r7 => (pR ((Qe.mk i0 s_ (zi 1) r4.1 s_ r7.1),r7.2)))))))))))))
theorem Z0.ok {a0 : ByteArray} {a1 : (List ByteArray)} {r : (Qe × Bool)} (h : Z0 a0 a1 = some r) : ww 57 [xs a0,.sl (Qr a1)] [] = some (Yu r) := fnQ (QuA a0 a1) h
noncomputable abbrev Qm8 {Γ : Prop} {lp : Loops} {ρ R : Type} {en : ρ → R} (a0 : ByteArray) (a1 : (List ByteArray)) (k : (Qe × Bool) → Pn Γ lp en) : Pn Γ lp en := pC (ww 57 [xs a0,.sl (Qr a1)] []) (Z0 a0 a1) Yu (fun _ => Z0.ok) k
abbrev Qrn := ByteArray → Option (Qe × Bool)
structure W7 where
 x0 : ByteArray
 x4 : Int
 h0 : Qe
structure XU where
 x3 : Bool
 h0 : Qe
structure XV where
 x0 : ByteArray
 h0 : Qe
def QdD (a : W7) : St := { n := 89,nx := 2,env := [(0,xs a.x0),(2,.ptr 0 0),(4,xi a.x4)],heap := [(0,.box [0,0,0,0,0,5] [xi a.h0.Line,xs a.h0.Label,xi a.h0.Kind,xi a.h0.Op,xs a.h0.Text,.arr 1]),(1,.arr true 5 (Jl a.h0.Args))] }
def Qhs (a : XU) : Ex × St := (.ret,{ n := 89,nx := 2,env := [(2,.ptr 0 0),(3,xo a.x3)],heap := [(0,.box [0,0,0,0,0,5] [xi a.h0.Line,xs a.h0.Label,xi a.h0.Kind,xi a.h0.Op,xs a.h0.Text,.arr 1]),(1,.arr true 5 (Jl a.h0.Args))] })
def Qht (a : XV) : Ex × St := (.exit 0,{ n := 89,nx := 2,env := [(0,xs a.x0),(2,.ptr 0 0)],heap := [(0,.box [0,0,0,0,0,5] [xi a.h0.Line,xs a.h0.Label,xi a.h0.Kind,xi a.h0.Op,xs a.h0.Text,.arr 1]),(1,.arr true 5 (Jl a.h0.Args))] })
def Qje : (XU ⊕ XV) → Ex × St := Sum.elim Qhs Qht
abbrev QkV := W7 → Option (XU ⊕ XV)
def SF (a : W7) : Option (W7 ⊕ (XU ⊕ XV)) := (bif (decide (a.x4 < ((a.x0.size : Nat) : Int))) then (bif (decide (0 ≤ a.x4 ∧ a.x4 < ((a.x0.size : Nat) : Int))) then (bif (((a.x0.data.getD (Int.toNat a.x4) 0).toNat : Int) == 10) then (some (.inr (.inl (XU.mk false (Qe.mk (0 : Int) s_ (0 : Int) (0 : Int) s_ ([] : List Qj)))))) else (some (.inl (W7.mk a.x0 (w64 (a.x4 + 1)) a.h0)))) else none) else (some (.inr (.inr (XV.mk a.x0 a.h0)))))
noncomputable def W3 : QkV := loopW (SF )
theorem W3.eq (a : W7) : W3 a = (SF a).bind (Sum.elim W3 some) := QK _ _
noncomputable def QqQ (a : W7) : Pn True (lw 0 20) (Sum.elim (fun a => (Ex.norm,QdD a)) Qje) := (pA (decide (a.x4 < (zz a.x0))) (pA (in1 a.x4 (zz a.x0)) (pA ((gb a.x0 a.x4) == 10) (pR (.inr (.inl (XU.mk false (Qe.mk i0 s_ i0 i0 s_ ([] : List Qj)))))) (pR (.inl (W7.mk a.x0 (w64 (a.x4 + 1)) a.h0)))) pF) (pR (.inr (.inr (XV.mk a.x0 a.h0)))))
theorem W3.ok {a : W7} {r : (XU ⊕ XV)} (h : W3 a = some r) : lw 0 20 (loopAt pp 20 2) (QdD a) = some (Qje r) := lpQ QqQ h
noncomputable abbrev QqR {Γ : Prop} {ρ R : Type} {en : ρ → R} (a : W7) (k0 : XU → Pn Γ (lw 0 20) en) (k1 : XV → Pn Γ (lw 0 20) en) : Pn Γ (lw 0 20) en := p2 (loopAt pp 20 2) (QdD a) (W3 a) Qhs Qht (fun _ => W3.ok) k0 k1
structure W8 where
 x5 : ByteArray
 x6 : ByteArray
 x7 : Int
 h0 : Qe
structure Wl where
 x5 : ByteArray
 x6 : ByteArray
 x7 : Int
 h0 : Qe
def QdE (a : W8) : St := { n := 89,nx := 2,env := [(2,.ptr 0 0),(5,xs a.x5),(6,xs a.x6),(7,xi a.x7)],heap := [(0,.box [0,0,0,0,0,5] [xi a.h0.Line,xs a.h0.Label,xi a.h0.Kind,xi a.h0.Op,xs a.h0.Text,.arr 1]),(1,.arr true 5 (Jl a.h0.Args))] }
def QdF (a : Wl) : Ex × St := (.exit 2,{ n := 89,nx := 2,env := [(2,.ptr 0 0),(5,xs a.x5),(6,xs a.x6),(7,xi a.x7)],heap := [(0,.box [0,0,0,0,0,5] [xi a.h0.Line,xs a.h0.Label,xi a.h0.Kind,xi a.h0.Op,xs a.h0.Text,.arr 1]),(1,.arr true 5 (Jl a.h0.Args))] })
abbrev QkW := W8 → Option Wl
def SG (a : W8) : Option (W8 ⊕ Wl) := (bif (decide (a.x7 < ((a.x6.size : Nat) : Int))) then (bif (decide (0 ≤ a.x7 ∧ a.x7 < ((a.x6.size : Nat) : Int))) then (bif (((a.x6.data.getD (Int.toNat a.x7) 0).toNat : Int) != 32) then (bif (((a.x6.data.getD (Int.toNat a.x7) 0).toNat : Int) != 9) then (some (.inl (W8.mk a.x5 a.x6 (w64 (a.x7 + 1)) a.h0))) else (some (.inr (Wl.mk a.x5 a.x6 a.x7 a.h0)))) else (some (.inr (Wl.mk a.x5 a.x6 a.x7 a.h0)))) else none) else (some (.inr (Wl.mk a.x5 a.x6 a.x7 a.h0))))
noncomputable def XD : QkW := loopW (SG )
theorem XD.eq (a : W8) : XD a = (SG a).bind (Sum.elim XD some) := QK _ _
noncomputable def QqS (a : W8) : Pn True (lw 0 20) (Sum.elim (fun a => (Ex.norm,QdE a)) QdF) := (let u157 := (decide (a.x7 < (zz a.x6))); pA u157 (pYN 2 u157 (fun g => g.2) (let u156 := (in1 a.x7 (zz a.x6)); pA u156 (pYN 2 u157 (fun g => g.1.2) (let u155 := ((gb a.x6 a.x7) != 32); pA u155 (pYN 2 u155 (fun g => g.2) (pY u156 (fun g => g.1.2) (pYN 2 u155 (fun g => g.2) (pA ((gb a.x6 a.x7) != 9) (pR (.inl (W8.mk a.x5 a.x6 (w64 (a.x7 + 1)) a.h0))) (pR (.inr (Wl.mk a.x5 a.x6 a.x7 a.h0))))))) (pNN 4 u155 (fun g => g.2) (pV false rfl (pR (.inr (Wl.mk a.x5 a.x6 a.x7 a.h0))))))) pF)) (pNN 4 u157 (fun g => g.2) (pNN 6 false (fun _ => rfl) (pR (.inr (Wl.mk a.x5 a.x6 a.x7 a.h0))))))
theorem XD.ok {a : W8} {r : Wl} (h : XD a = some r) : lw 0 20 (loopAt pp 20 12) (QdE a) = some (QdF r) := lpQ QqS h
noncomputable abbrev QqT {Γ : Prop} {ρ R : Type} {en : ρ → R} (a : W8) (k0 : Wl → Pn Γ (lw 0 20) en) : Pn Γ (lw 0 20) en := p1 (loopAt pp 20 12) (QdE a) (XD a) QdF (fun _ => XD.ok) k0
def Qfo (C0 : Qpj) (C1 : Qff) (C2 : Qm4) (C3 : Qm5) (C4 : Qm7) (C5 : Qpv) (L6 : QkV) (L7 : QkW) (a0 : ByteArray) : Option (Qe × Bool) := ((L6 (W7.mk a0 (0 : Int) (Qe.mk (0 : Int) s_ (0 : Int) (0 : Int) s_ ([] : List Qj)))).bind fun x => Sum.elim (fun (o1 : XU) => (some (o1.h0,o1.x3))) (fun (o2 : XV) => ((C0 o2.x0).bind fun r3 => ((C1 r3).bind fun r4 => ((C2 r4).bind fun r5 => (bif (eqS r5.2 s_) then (bif (eqS r5.1 s_) then (some ((Qe.mk (0 : Int) s_ (0 : Int) (0 : Int) s_ ([] : List Qj)),true)) else (some ((Qe.mk (1 : Int) r5.1 (0 : Int) (0 : Int) s_ ([] : List Qj)),true))) else ((L7 (W8.mk r5.1 r5.2 (0 : Int) o2.h0)).bind (fun (o6 : Wl) => (bif (decide (0 ≤ (0 : Int) ∧ (0 : Int) ≤ o6.x7 ∧ o6.x7 ≤ ((o6.x6.size : Nat) : Int))) then (bif (decide (0 ≤ o6.x7 ∧ o6.x7 ≤ ((o6.x6.size : Nat) : Int) ∧ ((o6.x6.size : Nat) : Int) ≤ ((o6.x6.size : Nat) : Int))) then ((C1 (o6.x6.extract (Int.toNat o6.x7) (Int.toNat ((o6.x6.size : Nat) : Int)))).bind fun r7 => (bif (!(eqS r7 s_)) then ((C3 (o6.x6.extract (Int.toNat o6.x7) (Int.toNat ((o6.x6.size : Nat) : Int)))).bind fun r8 => (bif (decide (0 ≤ (0 : Int) ∧ (0 : Int) < (((o6.x6.extract (Int.toNat 0) (Int.toNat o6.x7)).size : Nat) : Int))) then (bif ((((o6.x6.extract (Int.toNat 0) (Int.toNat o6.x7)).data.getD (Int.toNat 0) 0).toNat : Int) == 46) then ((C4 (o6.x6.extract (Int.toNat 0) (Int.toNat o6.x7)) r8).bind fun r9 => (bif (!r9.2) then (some ((Qe.mk (0 : Int) s_ (0 : Int) (0 : Int) s_ ([] : List Qj)),false)) else (some ((Qe.mk (1 : Int) o6.x5 r9.1.Kind r9.1.Op r9.1.Text r9.1.Args),true)))) else ((C5 (o6.x6.extract (Int.toNat 0) (Int.toNat o6.x7)) r8).bind fun r10 => (bif (!r10.2) then (some ((Qe.mk (0 : Int) s_ (0 : Int) (0 : Int) s_ ([] : List Qj)),false)) else (some ((Qe.mk (1 : Int) o6.x5 r10.1.Kind r10.1.Op r10.1.Text r10.1.Args),true))))) else none)) else (bif (decide (0 ≤ (0 : Int) ∧ (0 : Int) < (((o6.x6.extract (Int.toNat 0) (Int.toNat o6.x7)).size : Nat) : Int))) then (bif ((((o6.x6.extract (Int.toNat 0) (Int.toNat o6.x7)).data.getD (Int.toNat 0) 0).toNat : Int) == 46) then ((C4 (o6.x6.extract (Int.toNat 0) (Int.toNat o6.x7)) ([] : List ByteArray)).bind fun r11 => (bif (!r11.2) then (some ((Qe.mk (0 : Int) s_ (0 : Int) (0 : Int) s_ ([] : List Qj)),false)) else (some ((Qe.mk (1 : Int) o6.x5 r11.1.Kind r11.1.Op r11.1.Text r11.1.Args),true)))) else ((C5 (o6.x6.extract (Int.toNat 0) (Int.toNat o6.x7)) ([] : List ByteArray)).bind fun r12 => (bif (!r12.2) then (some ((Qe.mk (0 : Int) s_ (0 : Int) (0 : Int) s_ ([] : List Qj)),false)) else (some ((Qe.mk (1 : Int) o6.x5 r12.1.Kind r12.1.Op r12.1.Text r12.1.Args),true))))) else none))) else none) else none)))))))) x)
noncomputable def XW : Qrn := Qfo Gp Yn ZB ZC YU Z0 W3 XD
theorem XW.eq (a0 : ByteArray) : XW a0 = Qfo Gp Yn ZB ZC YU Z0 W3 XD a0 := rfl
noncomputable def QvP (a0 : ByteArray) : Pn True (lw 0 20) Yu := (QqR (W7.mk a0 i0 (Qe.mk i0 s_ i0 i0 s_ ([] : List Qj))) (fun o1 => (pR (o1.h0,o1.x3))) (fun o2 => (Qus o2.x0 fun r3 => (Zl r3 fun r4 => (Qs9 r4 fun r5 => (pA (eqS r5.2 s_) (pA (eqS r5.1 s_) (pR ((Qe.mk i0 s_ i0 i0 s_ ([] : List Qj)),true)) (pR ((Qe.mk (zi 1) r5.1 i0 i0 s_ ([] : List Qj)),true))) (QqT (W8.mk r5.1 r5.2 i0 o2.h0) (fun o6 => (pA (in2 i0 o6.x7 (zz o6.x6)) (let u158 := (in2 o6.x7 (zz o6.x6) (zz o6.x6)); pA u158 (Zl (cu o6.x6 o6.x7 (zz o6.x6)) fun r7 => (pA (!(eqS r7 s_)) (pY u158 (fun g => g.1.2) (Qtb (cu o6.x6 o6.x7 (zz o6.x6)) fun r8 => (pA (in1 i0 (zz (cu o6.x6 i0 o6.x7))) (pA ((gb (cu o6.x6 i0 o6.x7) i0) == 46) (QkU (cu o6.x6 i0 o6.x7) r8 fun r9 => (pA (!r9.2) (pR ((Qe.mk i0 s_ i0 i0 s_ ([] : List Qj)),false)) (pR ((Qe.mk (zi 1) o6.x5 r9.1.Kind r9.1.Op r9.1.Text r9.1.Args),true)))) (Qm8 (cu o6.x6 i0 o6.x7) r8 fun r10 => (pA (!r10.2) (pR ((Qe.mk i0 s_ i0 i0 s_ ([] : List Qj)),false)) (pR ((Qe.mk (zi 1) o6.x5 r10.1.Kind r10.1.Op r10.1.Text r10.1.Args),true))))) pF))) (pA (in1 i0 (zz (cu o6.x6 i0 o6.x7))) (pA ((gb (cu o6.x6 i0 o6.x7) i0) == 46) (QkU (cu o6.x6 i0 o6.x7) ([] : List ByteArray) fun r11 => (pA (!r11.2) (pR ((Qe.mk i0 s_ i0 i0 s_ ([] : List Qj)),false)) (pR ((Qe.mk (zi 1) o6.x5 r11.1.Kind r11.1.Op r11.1.Text r11.1.Args),true)))) (Qm8 (cu o6.x6 i0 o6.x7) ([] : List ByteArray) fun r12 => (pA (!r12.2) (pR ((Qe.mk i0 s_ i0 i0 s_ ([] : List Qj)),false)) (pR ((Qe.mk (zi 1) o6.x5 r12.1.Kind r12.1.Op r12.1.Text r12.1.Args),true))))) pF))) pF) pF)))))))))
theorem XW.ok {a0 : ByteArray} {r : (Qe × Bool)} (h : XW a0 = some r) : ww 20 [xs a0] [] = some (Yu r) := fnQ (QvP a0) h
noncomputable abbrev Qpw {Γ : Prop} {lp : Loops} {ρ R : Type} {en : ρ → R} (a0 : ByteArray) (k : (Qe × Bool) → Pn Γ lp en) : Pn Γ lp en := pC (ww 20 [xs a0] []) (XW a0) Yu (fun _ => XW.ok) k
def Qfp (r : ((List Qe) × (List Int))) : AV × Heap := (.tup [.sl (Ya r.1),.sl (QS r.2)],[])
abbrev Qm9 := ByteArray → Option ((List Qe) × (List Int))
structure Ja where
 x0 : ByteArray
 x6 : Int
 x7 : Int
 x8 : Int
 r0 : (List Qe)
 r1 : (List Int)
structure XE where
 r0 : (List Qe)
 r1 : (List Int)
def QaP (a : Ja) : St := { n := 56,nx := 2,env := [(0,xs a.x0),(4,.arr 0),(5,.arr 1),(6,xi a.x6),(7,xi a.x7),(8,xi a.x8)],heap := [(0,.arr true 6 (Ya a.r0)),(1,.arr true 1 (QS a.r1))] }
def QaQ (a : XE) : Ex × St := (.exit 0,{ n := 56,nx := 2,env := [(4,.arr 0),(5,.arr 1)],heap := [(0,.arr true 6 (Ya a.r0)),(1,.arr true 1 (QS a.r1))] })
abbrev Qhu := Ja → Option XE
def Zd (C0 : Qrn) (a : Ja) : Option (Ja ⊕ XE) := (bif (decide (a.x8 ≤ ((a.x0.size : Nat) : Int))) then (bif (decide (a.x8 < ((a.x0.size : Nat) : Int))) then (bif (decide (0 ≤ a.x8 ∧ a.x8 < ((a.x0.size : Nat) : Int))) then (bif (((a.x0.data.getD (Int.toNat a.x8) 0).toNat : Int) != 10) then (some (.inl (Ja.mk a.x0 a.x6 a.x7 (w64 (a.x8 + 1)) a.r0 a.r1))) else (bif (decide (0 ≤ a.x6 ∧ a.x6 ≤ a.x8 ∧ a.x8 ≤ ((a.x0.size : Nat) : Int))) then ((C0 (a.x0.extract (Int.toNat a.x6) (Int.toNat a.x8))).bind fun r1 => (bif (!r1.2) then (bif (decide ((a.r1.length + [(w64 (a.x7 + 1))].length) * 8 ≤ most)) then (some (.inl (Ja.mk a.x0 (w64 (a.x8 + 1)) (w64 (a.x7 + 1)) (w64 (a.x8 + 1)) a.r0 (a.r1 ++ [(w64 (a.x7 + 1))])))) else none) else (bif (decide (r1.1.Line > 0)) then (bif (decide ((a.r0.length + [(Qe.mk (w64 (a.x7 + 1)) r1.1.Label r1.1.Kind r1.1.Op r1.1.Text r1.1.Args)].length) * 80 ≤ most)) then (some (.inl (Ja.mk a.x0 (w64 (a.x8 + 1)) (w64 (a.x7 + 1)) (w64 (a.x8 + 1)) (a.r0 ++ [(Qe.mk (w64 (a.x7 + 1)) r1.1.Label r1.1.Kind r1.1.Op r1.1.Text r1.1.Args)]) a.r1))) else none) else (some (.inl (Ja.mk a.x0 (w64 (a.x8 + 1)) (w64 (a.x7 + 1)) (w64 (a.x8 + 1)) a.r0 a.r1)))))) else none)) else none) else (bif (decide (0 ≤ a.x6 ∧ a.x6 ≤ a.x8 ∧ a.x8 ≤ ((a.x0.size : Nat) : Int))) then ((C0 (a.x0.extract (Int.toNat a.x6) (Int.toNat a.x8))).bind fun r2 => (bif (!r2.2) then (bif (decide ((a.r1.length + [(w64 (a.x7 + 1))].length) * 8 ≤ most)) then (some (.inl (Ja.mk a.x0 (w64 (a.x8 + 1)) (w64 (a.x7 + 1)) (w64 (a.x8 + 1)) a.r0 (a.r1 ++ [(w64 (a.x7 + 1))])))) else none) else (bif (decide (r2.1.Line > 0)) then (bif (decide ((a.r0.length + [(Qe.mk (w64 (a.x7 + 1)) r2.1.Label r2.1.Kind r2.1.Op r2.1.Text r2.1.Args)].length) * 80 ≤ most)) then (some (.inl (Ja.mk a.x0 (w64 (a.x8 + 1)) (w64 (a.x7 + 1)) (w64 (a.x8 + 1)) (a.r0 ++ [(Qe.mk (w64 (a.x7 + 1)) r2.1.Label r2.1.Kind r2.1.Op r2.1.Text r2.1.Args)]) a.r1))) else none) else (some (.inl (Ja.mk a.x0 (w64 (a.x8 + 1)) (w64 (a.x7 + 1)) (w64 (a.x8 + 1)) a.r0 a.r1)))))) else none)) else (some (.inr (XE.mk a.r0 a.r1))))
noncomputable def J5 : Qhu := loopW (Zd XW)
theorem J5.eq (a : Ja) : J5 a = (Zd XW a).bind (Sum.elim J5 some) := QK _ _
noncomputable def Qn9 (a : Ja) : Pn True (lw 0 32) (Sum.elim (fun a => (Ex.norm,QaP a)) QaQ) := (pA (decide (a.x8 ≤ (zz a.x0))) (let u159 := (decide (a.x8 < (zz a.x0))); pA u159 (pYN 2 u159 (fun g => g.2) (pA (in1 a.x8 (zz a.x0)) (pYN 2 u159 (fun g => g.1.2) (pA ((gb a.x0 a.x8) != 10) (pR (.inl (Ja.mk a.x0 a.x6 a.x7 (w64 (a.x8 + 1)) a.r0 a.r1))) (pA (in2 a.x6 a.x8 (zz a.x0)) (Qpw (cu a.x0 a.x6 a.x8) fun r1 => (pA (!r1.2) (pZ [[xi (w64 (a.x7 + 1))]] (QS [(w64 (a.x7 + 1))]) (Jw [(w64 (a.x7 + 1))]) (pQ Jh 8 a.r1 [(w64 (a.x7 + 1))] (pR (.inl (Ja.mk a.x0 (w64 (a.x8 + 1)) (w64 (a.x7 + 1)) (w64 (a.x8 + 1)) a.r0 (a.r1 ++ [(w64 (a.x7 + 1))])))))) (pA (decide (r1.1.Line > 0)) (pZ [[xi (w64 (a.x7 + 1)),xs r1.1.Label,xi r1.1.Kind,xi r1.1.Op,xs r1.1.Text,.sl (Jl r1.1.Args)]] (Ya [(Qe.mk (w64 (a.x7 + 1)) r1.1.Label r1.1.Kind r1.1.Op r1.1.Text r1.1.Args)]) (P8 [(Qe.mk (w64 (a.x7 + 1)) r1.1.Label r1.1.Kind r1.1.Op r1.1.Text r1.1.Args)]) (pQ Qbk 80 a.r0 [(Qe.mk (w64 (a.x7 + 1)) r1.1.Label r1.1.Kind r1.1.Op r1.1.Text r1.1.Args)] (pR (.inl (Ja.mk a.x0 (w64 (a.x8 + 1)) (w64 (a.x7 + 1)) (w64 (a.x8 + 1)) (a.r0 ++ [(Qe.mk (w64 (a.x7 + 1)) r1.1.Label r1.1.Kind r1.1.Op r1.1.Text r1.1.Args)]) a.r1))))) (pR (.inl (Ja.mk a.x0 (w64 (a.x8 + 1)) (w64 (a.x7 + 1)) (w64 (a.x8 + 1)) a.r0 a.r1)))))) pF))) pF)) (pNN 4 u159 (fun g => g.2) (pV false rfl (pA (in2 a.x6 a.x8 (zz a.x0)) (Qpw (cu a.x0 a.x6 a.x8) fun r2 => (pA (!r2.2) (pZ [[xi (w64 (a.x7 + 1))]] (QS [(w64 (a.x7 + 1))]) (Jw [(w64 (a.x7 + 1))]) (pQ Jh 8 a.r1 [(w64 (a.x7 + 1))] (pR (.inl (Ja.mk a.x0 (w64 (a.x8 + 1)) (w64 (a.x7 + 1)) (w64 (a.x8 + 1)) a.r0 (a.r1 ++ [(w64 (a.x7 + 1))])))))) (pA (decide (r2.1.Line > 0)) (pZ [[xi (w64 (a.x7 + 1)),xs r2.1.Label,xi r2.1.Kind,xi r2.1.Op,xs r2.1.Text,.sl (Jl r2.1.Args)]] (Ya [(Qe.mk (w64 (a.x7 + 1)) r2.1.Label r2.1.Kind r2.1.Op r2.1.Text r2.1.Args)]) (P8 [(Qe.mk (w64 (a.x7 + 1)) r2.1.Label r2.1.Kind r2.1.Op r2.1.Text r2.1.Args)]) (pQ Qbk 80 a.r0 [(Qe.mk (w64 (a.x7 + 1)) r2.1.Label r2.1.Kind r2.1.Op r2.1.Text r2.1.Args)] (pR (.inl (Ja.mk a.x0 (w64 (a.x8 + 1)) (w64 (a.x7 + 1)) (w64 (a.x8 + 1)) (a.r0 ++ [(Qe.mk (w64 (a.x7 + 1)) r2.1.Label r2.1.Kind r2.1.Op r2.1.Text r2.1.Args)]) a.r1))))) (pR (.inl (Ja.mk a.x0 (w64 (a.x8 + 1)) (w64 (a.x7 + 1)) (w64 (a.x8 + 1)) a.r0 a.r1)))))) pF)))) (pR (.inr (XE.mk a.r0 a.r1))))
theorem J5.ok {a : Ja} {r : XE} (h : J5 a = some r) : lw 0 32 (loopAt pp 32 5) (QaP a) = some (QaQ r) := lpQ Qn9 h
noncomputable abbrev Qoa {Γ : Prop} {ρ R : Type} {en : ρ → R} (a : Ja) (k0 : XE → Pn Γ (lw 0 32) en) : Pn Γ (lw 0 32) en := p1 (loopAt pp 32 5) (QaP a) (J5 a) QaQ (fun _ => J5.ok) k0
def Qfq (L0 : Qhu) (a0 : ByteArray) : Option ((List Qe) × (List Int)) := ((L0 (Ja.mk a0 (0 : Int) (0 : Int) (0 : Int) ([] : List Qe) ([] : List Int))).bind (fun (o1 : XE) => (some (o1.r0,o1.r1))))
noncomputable def YV : Qm9 := Qfq J5
theorem YV.eq (a0 : ByteArray) : YV a0 = Qfq J5 a0 := rfl
noncomputable def Qtg (a0 : ByteArray) : Pn True (lw 0 32) Qfp := (Qoa (Ja.mk a0 i0 i0 i0 ([] : List Qe) ([] : List Int)) (fun o1 => (pR (o1.r0,o1.r1))))
theorem YV.ok {a0 : ByteArray} {r : ((List Qe) × (List Int))} (h : YV a0 = some r) : ww 32 [xs a0] [] = some (Qfp r) := fnQ (Qtg a0) h
noncomputable abbrev Qth {Γ : Prop} {lp : Loops} {ρ R : Type} {en : ρ → R} (a0 : ByteArray) (k : ((List Qe) × (List Int)) → Pn Γ lp en) : Pn Γ lp en := pC (ww 32 [xs a0] []) (YV a0) Qfp (fun _ => YV.ok) k
def Vi (r : Qc) : AV × Heap := (.tup [],[(0,.box [0,112,103] [.sl (Ql r.Syms),.arr 3,.arr 4]),(3,.arr false 12 (Qh r.L)),(4,.arr false 3 (Qp r.D))])
abbrev Ze := ByteArray → Int → Int → Qc → Option Qc
def Ql3 (a1 : ByteArray) (a2 : Int) (a3 : Int) (h0 : Qc) : Option Qc := (bif (decide ((h0.D.length + [(Q5.mk a1 a2 a3)].length) * 32 ≤ most)) then (some (Qc.mk h0.Syms h0.L (h0.D ++ [(Q5.mk a1 a2 a3)]))) else none)
noncomputable def VW : Ze := Ql3
noncomputable def Ql4 (a1 : ByteArray) (a2 : Int) (a3 : Int) (h0 : Qc) : Pn True (lw 3 99) Vi := (pZ [[xs a1,xi a2,xi a3]] (Qp [(Q5.mk a1 a2 a3)]) (Qd1 [(Q5.mk a1 a2 a3)]) (pQ Xr 32 h0.D [(Q5.mk a1 a2 a3)] (pR (Qc.mk h0.Syms h0.L (h0.D ++ [(Q5.mk a1 a2 a3)])))))
theorem VW.ok {a1 : ByteArray} {a2 : Int} {a3 : Int} {h0 : Qc} {r : Qc} (h : VW a1 a2 a3 h0 = some r) : ww 99 [.ptr 0 0,xs a1,xi a2,xi a3] [(0,.box [0,112,103] [.sl (Ql h0.Syms),.arr 1,.arr 2]),(1,.arr false 12 (Qh h0.L)),(2,.arr false 3 (Qp h0.D))] = some (Vi r) := fnQ (Ql4 a1 a2 a3 h0) h
noncomputable abbrev VX {Γ : Prop} {lp : Loops} {ρ R : Type} {en : ρ → R} (a1 : ByteArray) (a2 : Int) (a3 : Int) (h0 : Qc) (k : Qc → Pn Γ lp en) : Pn Γ lp en := pC (ww 99 [.ptr 0 0,xs a1,xi a2,xi a3] [(0,.box [0,112,103] [.sl (Ql h0.Syms),.arr 1,.arr 2]),(1,.arr false 12 (Qh h0.L)),(2,.arr false 3 (Qp h0.D))]) (VW a1 a2 a3 h0) Vi (fun _ => VW.ok) k
abbrev Qf0 := (List Qg) → Qc → Option Qc
structure Ue where
 x1 : (List Qg)
 x4 : Int
 x5 : (List Qe)
 x6 : (List Int)
 x7 : Int
 h0 : Qc
structure V8 where
 x1 : (List Qg)
 x4 : Int
 x5 : (List Qe)
 h0 : Qc
def EJ (a : Ue) : St := { n := 66,nx := 5,env := [(0,.ptr 0 0),(1,.sl (QL a.x1)),(4,xi a.x4),(5,.sl (Ya a.x5)),(6,.sl (QS a.x6)),(7,xi a.x7)],heap := [(0,.box [0,112,103] [.sl (Ql a.h0.Syms),.arr 3,.arr 4]),(3,.arr false 12 (Qh a.h0.L)),(4,.arr false 3 (Qp a.h0.D))] }
def EK (a : V8) : Ex × St := (.exit 2,{ n := 66,nx := 5,env := [(0,.ptr 0 0),(1,.sl (QL a.x1)),(4,xi a.x4),(5,.sl (Ya a.x5))],heap := [(0,.box [0,112,103] [.sl (Ql a.h0.Syms),.arr 3,.arr 4]),(3,.arr false 12 (Qh a.h0.L)),(4,.arr false 3 (Qp a.h0.D))] })
abbrev Qcr := Ue → Option V8
def Qa6 (C0 : Ze) (a : Ue) : Option (Ue ⊕ V8) := (bif (decide (a.x7 < (((a.x6.length) : Nat) : Int))) then (bif (decide (0 ≤ a.x4)) then ((a.x1[(Int.toNat a.x4)]?).bind fun e1 => (bif (decide (0 ≤ a.x7)) then ((a.x6[(Int.toNat a.x7)]?).bind fun e2 => ((C0 e1.Name e2 (1 : Int) a.h0).bind fun r3 => (some (.inl (Ue.mk a.x1 a.x4 a.x5 a.x6 (w64 (a.x7 + 1)) r3))))) else none)) else none) else (some (.inr (V8.mk a.x1 a.x4 a.x5 a.h0))))
noncomputable def Vs : Qcr := loopW (Qa6 VW)
theorem Vs.eq (a : Ue) : Vs a = (Qa6 VW a).bind (Sum.elim Vs some) := QK _ _
noncomputable def QiB (a : Ue) : Pn True (lw 3 94) (Sum.elim (fun a => (Ex.norm,EJ a)) EK) := (pH Jh a.x6 (pA (decide (a.x7 < (((a.x6.length) : Nat) : Int))) (pA (decide (0 ≤ a.x4)) (pI UY a.x1 a.x4 fun e1 => (pA (decide (0 ≤ a.x7)) (pI Jh a.x6 a.x7 fun e2 => (VX e1.Name e2 (zi 1) a.h0 fun r3 => (pR (.inl (Ue.mk a.x1 a.x4 a.x5 a.x6 (w64 (a.x7 + 1)) r3))))) pF)) pF) (pR (.inr (V8.mk a.x1 a.x4 a.x5 a.h0)))))
theorem Vs.ok {a : Ue} {r : V8} (h : Vs a = some r) : lw 3 94 (loopAt pp 94 5) (EJ a) = some (EK r) := lpQ QiB h
noncomputable abbrev QiC {Γ : Prop} {ρ R : Type} {en : ρ → R} (a : Ue) (k0 : V8 → Pn Γ (lw 3 94) en) : Pn Γ (lw 3 94) en := p1 (loopAt pp 94 5) (EJ a) (Vs a) EK (fun _ => Vs.ok) k0
structure Uf where
 x1 : (List Qg)
 x4 : Int
 x5 : (List Qe)
 x8 : Int
 h0 : Qc
structure V9 where
 x1 : (List Qg)
 x4 : Int
 h0 : Qc
def EL (a : Uf) : St := { n := 66,nx := 5,env := [(0,.ptr 0 0),(1,.sl (QL a.x1)),(4,xi a.x4),(5,.sl (Ya a.x5)),(8,xi a.x8)],heap := [(0,.box [0,112,103] [.sl (Ql a.h0.Syms),.arr 3,.arr 4]),(3,.arr false 12 (Qh a.h0.L)),(4,.arr false 3 (Qp a.h0.D))] }
def EM (a : V9) : Ex × St := (.exit 4,{ n := 66,nx := 5,env := [(0,.ptr 0 0),(1,.sl (QL a.x1)),(4,xi a.x4)],heap := [(0,.box [0,112,103] [.sl (Ql a.h0.Syms),.arr 3,.arr 4]),(3,.arr false 12 (Qh a.h0.L)),(4,.arr false 3 (Qp a.h0.D))] })
abbrev Qcs := Uf → Option V9
def ZL (a : Uf) : Option (Uf ⊕ V9) := (bif (decide (a.x8 < (((a.x5.length) : Nat) : Int))) then (bif (decide (0 ≤ a.x8)) then ((a.x5[(Int.toNat a.x8)]?).bind fun e1 => (bif (decide (0 ≤ a.x4)) then ((a.x1[(Int.toNat a.x4)]?).bind fun e2 => (bif (decide ((a.h0.L.length + [(Qf.mk e1 e2.Name (0 : Int) (0 : Int) false false (0 : Int))].length) * 128 ≤ most)) then (some (.inl (Uf.mk a.x1 a.x4 a.x5 (w64 (a.x8 + 1)) (Qc.mk a.h0.Syms (a.h0.L ++ [(Qf.mk e1 e2.Name (0 : Int) (0 : Int) false false (0 : Int))]) a.h0.D)))) else none)) else none)) else none) else (some (.inr (V9.mk a.x1 a.x4 a.h0))))
noncomputable def J9 : Qcs := loopW (ZL )
theorem J9.eq (a : Uf) : J9 a = (ZL a).bind (Sum.elim J9 some) := QK _ _
noncomputable def QiD (a : Uf) : Pn True (lw 3 94) (Sum.elim (fun a => (Ex.norm,EL a)) EM) := (pH Qbk a.x5 (pA (decide (a.x8 < (((a.x5.length) : Nat) : Int))) (pA (decide (0 ≤ a.x8)) (pI Qbk a.x5 a.x8 fun e1 => (pA (decide (0 ≤ a.x4)) (pI UY a.x1 a.x4 fun e2 => (pZ [[xi e1.Line,xs e1.Label,xi e1.Kind,xi e1.Op,xs e1.Text,.sl (Jl e1.Args),xs e2.Name,xi i0,xi i0,xo false,xo false,xi i0]] (Qh [(Qf.mk e1 e2.Name i0 i0 false false i0)]) (E7 [(Qf.mk e1 e2.Name i0 i0 false false i0)]) (pQ Qy 128 a.h0.L [(Qf.mk e1 e2.Name i0 i0 false false i0)] (pR (.inl (Uf.mk a.x1 a.x4 a.x5 (w64 (a.x8 + 1)) (Qc.mk a.h0.Syms (a.h0.L ++ [(Qf.mk e1 e2.Name i0 i0 false false i0)]) a.h0.D))))))) pF)) pF) (pR (.inr (V9.mk a.x1 a.x4 a.h0)))))
theorem J9.ok {a : Uf} {r : V9} (h : J9 a = some r) : lw 3 94 (loopAt pp 94 9) (EL a) = some (EM r) := lpQ QiD h
noncomputable abbrev QiE {Γ : Prop} {ρ R : Type} {en : ρ → R} (a : Uf) (k0 : V9 → Pn Γ (lw 3 94) en) : Pn Γ (lw 3 94) en := p1 (loopAt pp 94 9) (EL a) (J9 a) EM (fun _ => J9.ok) k0
structure Ug where
 x1 : (List Qg)
 x4 : Int
 h0 : Qc
def EN (a : Ug) : St := { n := 66,nx := 5,env := [(0,.ptr 0 0),(1,.sl (QL a.x1)),(4,xi a.x4)],heap := [(0,.box [0,112,103] [.sl (Ql a.h0.Syms),.arr 3,.arr 4]),(3,.arr false 12 (Qh a.h0.L)),(4,.arr false 3 (Qp a.h0.D))] }
def EO (a : Qc) : Ex × St := (.exit 0,{ n := 66,nx := 5,env := [],heap := [(0,.box [0,112,103] [.sl (Ql a.Syms),.arr 3,.arr 4]),(3,.arr false 12 (Qh a.L)),(4,.arr false 3 (Qp a.D))] })
abbrev Qct := Ug → Option Qc
def ZM (C0 : Qm9) (L1 : Qcr) (L2 : Qcs) (a : Ug) : Option (Ug ⊕ Qc) := (bif (decide (a.x4 < (((a.x1.length) : Nat) : Int))) then (bif (decide (0 ≤ a.x4)) then ((a.x1[(Int.toNat a.x4)]?).bind fun e1 => ((C0 e1.Text).bind fun r2 => ((L1 (Ue.mk a.x1 a.x4 r2.1 r2.2 (0 : Int) a.h0)).bind (fun (o3 : V8) => ((L2 (Uf.mk o3.x1 o3.x4 o3.x5 (0 : Int) o3.h0)).bind (fun (o4 : V9) => (some (.inl (Ug.mk o4.x1 (w64 (o4.x4 + 1)) o4.h0))))))))) else none) else (some (.inr a.h0)))
noncomputable def Ur : Qct := loopW (ZM YV Vs J9)
theorem Ur.eq (a : Ug) : Ur a = (ZM YV Vs J9 a).bind (Sum.elim Ur some) := QK _ _
noncomputable def QiF (a : Ug) : Pn True (lw 3 94) (Sum.elim (fun a => (Ex.norm,EN a)) EO) := (pH UY a.x1 (pA (decide (a.x4 < (((a.x1.length) : Nat) : Int))) (pA (decide (0 ≤ a.x4)) (pI UY a.x1 a.x4 fun e1 => (Qth e1.Text fun r2 => (QiC (Ue.mk a.x1 a.x4 r2.1 r2.2 i0 a.h0) (fun o3 => (QiE (Uf.mk o3.x1 o3.x4 o3.x5 i0 o3.h0) (fun o4 => (pR (.inl (Ug.mk o4.x1 (w64 (o4.x4 + 1)) o4.h0))))))))) pF) (pR (.inr a.h0))))
theorem Ur.ok {a : Ug} {r : Qc} (h : Ur a = some r) : lw 3 94 (loopAt pp 94 1) (EN a) = some (EO r) := lpQ QiF h
noncomputable abbrev QiG {Γ : Prop} {ρ R : Type} {en : ρ → R} (a : Ug) (k0 : Qc → Pn Γ (lw 3 94) en) : Pn Γ (lw 3 94) en := p1 (loopAt pp 94 1) (EN a) (Ur a) EO (fun _ => Ur.ok) k0
def Sl (L0 : Qct) (a1 : (List Qg)) (h0 : Qc) : Option Qc := ((L0 (Ug.mk a1 (0 : Int) h0)).bind (fun (o1 : Qc) => (some o1)))
noncomputable def Xm : Qf0 := Sl Ur
theorem Xm.eq (a1 : (List Qg)) (h0 : Qc) : Xm a1 h0 = Sl Ur a1 h0 := rfl
noncomputable def Ql5 (a1 : (List Qg)) (h0 : Qc) : Pn True (lw 3 94) Vi := (QiG (Ug.mk a1 i0 h0) (fun o1 => (pR o1)))
theorem Xm.ok {a1 : (List Qg)} {h0 : Qc} {r : Qc} (h : Xm a1 h0 = some r) : ww 94 [.ptr 0 0,.sl (QL a1)] [(0,.box [0,112,103] [.sl (Ql h0.Syms),.arr 1,.arr 2]),(1,.arr false 12 (Qh h0.L)),(2,.arr false 3 (Qp h0.D))] = some (Vi r) := fnQ (Ql5 a1 h0) h
noncomputable abbrev Ql6 {Γ : Prop} {lp : Loops} {ρ R : Type} {en : ρ → R} (a1 : (List Qg)) (h0 : Qc) (k : Qc → Pn Γ lp en) : Pn Γ lp en := pC (ww 94 [.ptr 0 0,.sl (QL a1)] [(0,.box [0,112,103] [.sl (Ql h0.Syms),.arr 1,.arr 2]),(1,.arr false 12 (Qh h0.L)),(2,.arr false 3 (Qp h0.D))]) (Xm a1 h0) Vi (fun _ => Xm.ok) k
abbrev Qro := (List ByteArray) → ByteArray → Option Bool
structure Xn where
 x0 : (List ByteArray)
 x1 : ByteArray
 x5 : Int
def QdG (a : Xn) : St := { n := 18,nx := 0,env := [(0,.sl (Qr a.x0)),(1,xs a.x1),(5,xi a.x5)],heap := [] }
def Qhv (a : Bool) : Ex × St := (.ret,{ n := 18,nx := 0,env := [(4,xo a)],heap := [] })
def Qhw (a : Unit) : Ex × St := (.exit 0,{ n := 18,nx := 0,env := [],heap := [] })
def Qjf : (Bool ⊕ Unit) → Ex × St := Sum.elim Qhv Qhw
abbrev QkX := Xn → Option (Bool ⊕ Unit)
def QqU (a : Xn) : Option (Xn ⊕ (Bool ⊕ Unit)) := (bif (decide (a.x5 < (((a.x0.length) : Nat) : Int))) then (bif (decide (0 ≤ a.x5)) then ((a.x0[(Int.toNat a.x5)]?).bind fun e1 => (bif (eqS e1 a.x1) then (some (.inr (.inl true))) else (some (.inl (Xn.mk a.x0 a.x1 (w64 (a.x5 + 1))))))) else none) else (some (.inr (.inr ()))))
noncomputable def Qai : QkX := loopW (QqU )
noncomputable def QqV (a : Xn) : Pn True (lw 0 149) (Sum.elim (fun a => (Ex.norm,QdG a)) Qjf) := (pH Qv a.x0 (pA (decide (a.x5 < (((a.x0.length) : Nat) : Int))) (pA (decide (0 ≤ a.x5)) (pI Qv a.x0 a.x5 fun e1 => (pA (eqS e1 a.x1) (pR (.inr (.inl true))) (pR (.inl (Xn.mk a.x0 a.x1 (w64 (a.x5 + 1))))))) pF) (pR (.inr (.inr ())))))
theorem Qai.ok {a : Xn} {r : (Bool ⊕ Unit)} (h : Qai a = some r) : lw 0 149 (loopAt pp 149 2) (QdG a) = some (Qjf r) := lpQ QqV h
noncomputable abbrev QqW {Γ : Prop} {ρ R : Type} {en : ρ → R} (a : Xn) (k0 : Bool → Pn Γ (lw 0 149) en) (k1 : Unit → Pn Γ (lw 0 149) en) : Pn Γ (lw 0 149) en := p2 (loopAt pp 149 2) (QdG a) (Qai a) Qhv Qhw (fun _ => Qai.ok) k0 k1
def QvQ (L0 : QkX) (a0 : (List ByteArray)) (a1 : ByteArray) : Option Bool := ((L0 (Xn.mk a0 a1 (0 : Int))).bind fun x => Sum.elim (fun (o1 : Bool) => (some o1)) (fun (o2 : Unit) => (some false)) x)
noncomputable def Qey : Qro := QvQ Qai
noncomputable def QvR (a0 : (List ByteArray)) (a1 : ByteArray) : Pn True (lw 0 149) QF := (QqW (Xn.mk a0 a1 i0) (fun o1 => (pR o1)) (fun o2 => (pR false)))
theorem Qey.ok {a0 : (List ByteArray)} {a1 : ByteArray} {r : Bool} (h : Qey a0 a1 = some r) : ww 149 [.sl (Qr a0),xs a1] [] = some (QF r) := fnQ (QvR a0 a1) h
noncomputable abbrev QvS {Γ : Prop} {lp : Loops} {ρ R : Type} {en : ρ → R} (a0 : (List ByteArray)) (a1 : ByteArray) (k : Bool → Pn Γ lp en) : Pn Γ lp en := pC (ww 149 [.sl (Qr a0),xs a1] []) (Qey a0 a1) QF (fun _ => Qey.ok) k
abbrev Qez := Qc → Option Qc
structure JW where
 x3 : Int
 h0 : Qc
 r5 : (List ByteArray)
structure VD where
 h0 : Qc
 r5 : (List ByteArray)
def G4 (a : JW) : St := { n := 86,nx := 6,env := [(0,.ptr 0 0),(2,.arr 5),(3,xi a.x3)],heap := [(0,.box [0,112,103] [.sl (Ql a.h0.Syms),.arr 3,.arr 4]),(3,.arr false 12 (Qh a.h0.L)),(4,.arr false 3 (Qp a.h0.D)),(5,.arr true 1 (Qr a.r5))] }
def G5 (a : VD) : Ex × St := (.exit 0,{ n := 86,nx := 6,env := [(0,.ptr 0 0),(2,.arr 5)],heap := [(0,.box [0,112,103] [.sl (Ql a.h0.Syms),.arr 3,.arr 4]),(3,.arr false 12 (Qh a.h0.L)),(4,.arr false 3 (Qp a.h0.D)),(5,.arr true 1 (Qr a.r5))] })
abbrev Qa7 := JW → Option VD
def Qaj (a : JW) : Option (JW ⊕ VD) := (bif (decide (a.x3 < (((a.h0.Syms.length) : Nat) : Int))) then (bif (decide (0 ≤ a.x3)) then ((a.h0.Syms[(Int.toNat a.x3)]?).bind fun e1 => (bif (decide ((a.r5.length + [e1.Name].length) * 16 ≤ most)) then (some (.inl (JW.mk (w64 (a.x3 + 1)) a.h0 (a.r5 ++ [e1.Name])))) else none)) else none) else (some (.inr (VD.mk a.h0 a.r5))))
noncomputable def UW : Qa7 := loopW (Qaj )
theorem UW.eq (a : JW) : UW a = (Qaj a).bind (Sum.elim UW some) := QK _ _
noncomputable def Qhx (a : JW) : Pn True (lw 3 95) (Sum.elim (fun a => (Ex.norm,G4 a)) G5) := (pH Yy a.h0.Syms (pA (decide (a.x3 < (((a.h0.Syms.length) : Nat) : Int))) (pA (decide (0 ≤ a.x3)) (pI Yy a.h0.Syms a.x3 fun e1 => (pZ [[xs e1.Name]] (Qr [e1.Name]) (Js [e1.Name]) (pQ Qv 16 a.r5 [e1.Name] (pR (.inl (JW.mk (w64 (a.x3 + 1)) a.h0 (a.r5 ++ [e1.Name]))))))) pF) (pR (.inr (VD.mk a.h0 a.r5)))))
theorem UW.ok {a : JW} {r : VD} (h : UW a = some r) : lw 3 95 (loopAt pp 95 2) (G4 a) = some (G5 r) := lpQ Qhx h
noncomputable abbrev Qhy {Γ : Prop} {ρ R : Type} {en : ρ → R} (a : JW) (k0 : VD → Pn Γ (lw 3 95) en) : Pn Γ (lw 3 95) en := p1 (loopAt pp 95 2) (G4 a) (UW a) G5 (fun _ => UW.ok) k0
structure Q2 where
 x4 : Int
 x7 : Int
 h0 : Qc
 h6 : Qf
 r5 : (List ByteArray)
 r7 : (List ByteArray)
structure U2 where
 x4 : Int
 h0 : Qc
 r5 : (List ByteArray)
def G6 (a : Q2) : St := { n := 86,nx := 8,env := [(0,.ptr 0 0),(2,.arr 5),(4,xi a.x4),(5,.ptr 6 0),(6,.arr 7),(7,xi a.x7)],heap := [(0,.box [0,112,103] [.sl (Ql a.h0.Syms),.arr 3,.arr 4]),(3,.arr false 12 (Qh a.h0.L)),(4,.arr false 3 (Qp a.h0.D)),(5,.arr true 1 (Qr a.r5)),(6,.box [] (WE a.h6)),(7,.arr true 1 (Qr a.r7))] }
def G7 (a : U2) : Ex × St := (.exit 4,{ n := 86,nx := 6,env := [(0,.ptr 0 0),(2,.arr 5),(4,xi a.x4)],heap := [(0,.box [0,112,103] [.sl (Ql a.h0.Syms),.arr 3,.arr 4]),(3,.arr false 12 (Qh a.h0.L)),(4,.arr false 3 (Qp a.h0.D)),(5,.arr true 1 (Qr a.r5))] })
abbrev Qa8 := Q2 → Option U2
def G8 (C0 : Qro) (C1 : Ze) (a : Q2) : Option (Q2 ⊕ U2) := (bif (decide (a.x7 < 2)) then (bif (decide (0 ≤ a.x7 ∧ a.x7 < ((a.r7.length : Nat) : Int))) then ((a.r7[(Int.toNat a.x7)]?).bind fun e1 => (bif (eqS e1 s_) then (some (.inl (Q2.mk a.x4 (w64 (a.x7 + 1)) a.h0 a.h6 a.r5 a.r7))) else ((a.r7[(Int.toNat a.x7)]?).bind fun e2 => ((C0 a.r5 e2).bind fun r3 => (bif r3 then ((C1 a.h6.Frag a.h6.S.Line (2 : Int) a.h0).bind fun r4 => ((a.r7[(Int.toNat a.x7)]?).bind fun e5 => (bif (decide ((a.r5.length + [e5].length) * 16 ≤ most)) then (some (.inl (Q2.mk a.x4 (w64 (a.x7 + 1)) r4 a.h6 (a.r5 ++ [e5]) a.r7))) else none))) else ((a.r7[(Int.toNat a.x7)]?).bind fun e6 => (bif (decide ((a.r5.length + [e6].length) * 16 ≤ most)) then (some (.inl (Q2.mk a.x4 (w64 (a.x7 + 1)) a.h0 a.h6 (a.r5 ++ [e6]) a.r7))) else none))))))) else none) else (some (.inr (U2.mk a.x4 a.h0 a.r5))))
noncomputable def Jo : Qa8 := loopW (G8 Qey VW)
theorem Jo.eq (a : Q2) : Jo a = (G8 Qey VW a).bind (Sum.elim Jo some) := QK _ _
noncomputable def Qhz (a : Q2) : Pn True (lw 3 95) (Sum.elim (fun a => (Ex.norm,G6 a)) G7) := (pA (decide (a.x7 < 2)) (pG Qv a.r7 a.x7 (pI Qv a.r7 a.x7 fun e1 => (pA (eqS e1 s_) (pR (.inl (Q2.mk a.x4 (w64 (a.x7 + 1)) a.h0 a.h6 a.r5 a.r7))) (pY (in1 a.x7 (((Qr a.r7).length : Nat) : Int)) (fun g => (show (in1 a.x7 (((Qr a.r7).length : Nat) : Int)) = (in1 a.x7 ((a.r7.length : Nat) : Int)) from (by rw [GP])).trans g.1.2) (pI Qv a.r7 a.x7 fun e2 => (QvS a.r5 e2 fun r3 => (pA r3 (VX a.h6.Frag a.h6.S.Line (zi 2) a.h0 fun r4 => (pY (in1 a.x7 (((Qr a.r7).length : Nat) : Int)) (fun g => (show (in1 a.x7 (((Qr a.r7).length : Nat) : Int)) = (in1 a.x7 ((a.r7.length : Nat) : Int)) from (by rw [GP])).trans g.1.1.2) (pI Qv a.r7 a.x7 fun e5 => (pZ [[xs e5]] (Qr [e5]) (Js [e5]) (pQ Qv 16 a.r5 [e5] (pR (.inl (Q2.mk a.x4 (w64 (a.x7 + 1)) r4 a.h6 (a.r5 ++ [e5]) a.r7)))))))) (pY (in1 a.x7 (((Qr a.r7).length : Nat) : Int)) (fun g => (show (in1 a.x7 (((Qr a.r7).length : Nat) : Int)) = (in1 a.x7 ((a.r7.length : Nat) : Int)) from (by rw [GP])).trans g.1.1.2) (pI Qv a.r7 a.x7 fun e6 => (pZ [[xs e6]] (Qr [e6]) (Js [e6]) (pQ Qv 16 a.r5 [e6] (pR (.inl (Q2.mk a.x4 (w64 (a.x7 + 1)) a.h0 a.h6 (a.r5 ++ [e6]) a.r7))))))))))))) pF) (pR (.inr (U2.mk a.x4 a.h0 a.r5))))
theorem Jo.ok {a : Q2} {r : U2} (h : Jo a = some r) : lw 3 95 (loopAt pp 95 13) (G6 a) = some (G7 r) := lpQ Qhz h
noncomputable abbrev Qak {Γ : Prop} {ρ R : Type} {en : ρ → R} (a : Q2) (k0 : U2 → Pn Γ (lw 3 95) en) : Pn Γ (lw 3 95) en := p1 (loopAt pp 95 13) (G6 a) (Jo a) G7 (fun _ => Jo.ok) k0
structure Jx where
 x4 : Int
 h0 : Qc
 r5 : (List ByteArray)
def G9 (a : Jx) : St := { n := 86,nx := 6,env := [(0,.ptr 0 0),(2,.arr 5),(4,xi a.x4)],heap := [(0,.box [0,112,103] [.sl (Ql a.h0.Syms),.arr 3,.arr 4]),(3,.arr false 12 (Qh a.h0.L)),(4,.arr false 3 (Qp a.h0.D)),(5,.arr true 1 (Qr a.r5))] }
def Ea (a : Qc) : Ex × St := (.exit 2,{ n := 86,nx := 5,env := [],heap := [(0,.box [0,112,103] [.sl (Ql a.Syms),.arr 3,.arr 4]),(3,.arr false 12 (Qh a.L)),(4,.arr false 3 (Qp a.D))] })
abbrev Qa9 := Jx → Option Qc
def Zp (L0 : Qa8) (a : Jx) : Option (Jx ⊕ Qc) := (bif (decide (a.x4 < (((a.h0.L.length) : Nat) : Int))) then (bif (decide (0 ≤ a.x4 ∧ a.x4 < ((a.h0.L.length : Nat) : Int))) then ((a.h0.L[(Int.toNat a.x4)]?).bind fun e1 => (bif (e1.S.Kind == 9) then (bif (decide (0 ≤ (1 : Int) ∧ (1 : Int) < (([e1.S.Label,s_].length : Nat) : Int))) then (([e1.S.Label,s_][(Int.toNat 1)]?).bind fun e2 => ((L0 (Q2.mk a.x4 (0 : Int) a.h0 e1 a.r5 ([e1.S.Label,s_].set (Int.toNat 1) e1.S.Text))).bind (fun (o3 : U2) => (some (.inl (Jx.mk (w64 (o3.x4 + 1)) o3.h0 o3.r5)))))) else none) else ((L0 (Q2.mk a.x4 (0 : Int) a.h0 e1 a.r5 [e1.S.Label,s_])).bind (fun (o4 : U2) => (some (.inl (Jx.mk (w64 (o4.x4 + 1)) o4.h0 o4.r5))))))) else none) else (some (.inr a.h0)))
noncomputable def Ub : Qa9 := loopW (Zp Jo)
theorem Ub.eq (a : Jx) : Ub a = (Zp Jo a).bind (Sum.elim Ub some) := QK _ _
noncomputable def QhA (a : Jx) : Pn True (lw 3 95) (Sum.elim (fun a => (Ex.norm,G9 a)) Ea) := (pH Qy a.h0.L (pA (decide (a.x4 < (((a.h0.L.length) : Nat) : Int))) (pG Qy a.h0.L a.x4 (pI Qy a.h0.L a.x4 fun e1 => (pZ [[xs e1.S.Label],[xs s_]] (Qr [e1.S.Label,s_]) (Js [e1.S.Label,s_]) (pA (e1.S.Kind == 9) (pG Qv [e1.S.Label,s_] (zi 1) (pI Qv [e1.S.Label,s_] (zi 1) fun e2 => (pZ ((Qr [e1.S.Label,s_]).set (Int.toNat 1) [xs e1.S.Text]) (Qr ([e1.S.Label,s_].set (Int.toNat 1) e1.S.Text)) (QoT [e1.S.Label,s_] (Int.toNat 1) e1.S.Text) (Qak (Q2.mk a.x4 i0 a.h0 e1 a.r5 ([e1.S.Label,s_].set (Int.toNat 1) e1.S.Text)) (fun o3 => (pR (.inl (Jx.mk (w64 (o3.x4 + 1)) o3.h0 o3.r5))))))) pF) (Qak (Q2.mk a.x4 i0 a.h0 e1 a.r5 [e1.S.Label,s_]) (fun o4 => (pR (.inl (Jx.mk (w64 (o4.x4 + 1)) o4.h0 o4.r5)))))))) pF) (pR (.inr a.h0))))
theorem Ub.ok {a : Jx} {r : Qc} (h : Ub a = some r) : lw 3 95 (loopAt pp 95 6) (G9 a) = some (Ea r) := lpQ QhA h
noncomputable abbrev QhB {Γ : Prop} {ρ R : Type} {en : ρ → R} (a : Jx) (k0 : Qc → Pn Γ (lw 3 95) en) : Pn Γ (lw 3 95) en := p1 (loopAt pp 95 6) (G9 a) (Ub a) Ea (fun _ => Ub.ok) k0
def PN (L0 : Qa7) (L1 : Qa9) (h0 : Qc) : Option Qc := ((L0 (JW.mk (0 : Int) h0 ([] : List ByteArray))).bind (fun (o1 : VD) => ((L1 (Jx.mk (0 : Int) o1.h0 o1.r5)).bind (fun (o2 : Qc) => (some o2)))))
noncomputable def W9 : Qez := PN UW Ub
theorem W9.eq (h0 : Qc) : W9 h0 = PN UW Ub h0 := rfl
noncomputable def QkY (h0 : Qc) : Pn True (lw 3 95) Vi := (Qhy (JW.mk i0 h0 ([] : List ByteArray)) (fun o1 => (QhB (Jx.mk i0 o1.h0 o1.r5) (fun o2 => (pR o2)))))
theorem W9.ok {h0 : Qc} {r : Qc} (h : W9 h0 = some r) : ww 95 [.ptr 0 0] [(0,.box [0,112,103] [.sl (Ql h0.Syms),.arr 1,.arr 2]),(1,.arr false 12 (Qh h0.L)),(2,.arr false 3 (Qp h0.D))] = some (Vi r) := fnQ (QkY h0) h
noncomputable abbrev QkZ {Γ : Prop} {lp : Loops} {ρ R : Type} {en : ρ → R} (h0 : Qc) (k : Qc → Pn Γ lp en) : Pn Γ lp en := pC (ww 95 [.ptr 0 0] [(0,.box [0,112,103] [.sl (Ql h0.Syms),.arr 1,.arr 2]),(1,.arr false 12 (Qh h0.L)),(2,.arr false 3 (Qp h0.D))]) (W9 h0) Vi (fun _ => W9.ok) k
abbrev Qpx := Int → Option Int
def QhC (C0 : Fm) (a0 : Int) : Option Int := ((C0 a0 h_20).bind fun r1 => (some (w64 (Int.tdiv ((r1.1.Bits.size : Nat) : Int) (2 : Int)))))
noncomputable def YH : Qpx := QhC Wb
theorem YH.eq (a0 : Int) : YH a0 = QhC Wb a0 := rfl
noncomputable def QuB (a0 : Int) : Pn True (lw 0 21) Qq := (SZ a0 h_20 fun r1 => (pU (decide ((zi 2) ≠ 0)) rfl (pR (w64 (Int.tdiv (zz r1.1.Bits) (zi 2))))))
theorem YH.ok {a0 : Int} {r : Int} (h : YH a0 = some r) : ww 21 [xi a0] [] = some (Qq r) := fnQ (QuB a0) h
noncomputable abbrev QuC {Γ : Prop} {lp : Loops} {ρ R : Type} {en : ρ → R} (a0 : Int) (k : Int → Pn Γ lp en) : Pn Γ lp en := pC (ww 21 [xi a0] []) (YH a0) Qq (fun _ => YH.ok) k
def WS (r : (Int × Int)) : AV × Heap := (.tup [xi r.1,xi r.2],[])
abbrev Qna := Int → Option (Int × Int)
def Qfr (a0 : Int) : Option (Int × Int) := (bif (decide (a0 < (-1099511627776 : Int))) then (some ((0 : Int),(6 : Int))) else (bif (decide (a0 > 1099511627776)) then (some ((0 : Int),(6 : Int))) else (some (a0,(0 : Int)))))
noncomputable def ZD : Qna := Qfr
theorem ZD.eq (a0 : Int) : ZD a0 = Qfr a0 := rfl
noncomputable def Qti (a0 : Int) : Pn True (lw 0 133) WS := (let u160 := (decide (a0 < (-1099511627776 : Int))); pA u160 (pYN 2 u160 (fun g => g.2) (pU true rfl (pR (i0,(zi 6))))) (pNN 2 u160 (fun g => g.2) (pA (decide (a0 > 1099511627776)) (pR (i0,(zi 6))) (pR (a0,i0)))))
theorem ZD.ok {a0 : Int} {r : (Int × Int)} (h : ZD a0 = some r) : ww 133 [xi a0] [] = some (WS r) := fnQ (Qti a0) h
noncomputable abbrev Qbs {Γ : Prop} {lp : Loops} {ρ R : Type} {en : ρ → R} (a0 : Int) (k : (Int × Int) → Pn Γ lp en) : Pn Γ lp en := pC (ww 133 [xi a0] []) (ZD a0) WS (fun _ => ZD.ok) k
abbrev Qnb := Int → Int → Option (Int × Int)
def Qtj (a0 : Int) (a1 : Int) : Option (Int × Int) := (bif (a0 == 0) then (some ((0 : Int),(0 : Int))) else (bif (a1 == 0) then (some ((0 : Int),(0 : Int))) else (bif (decide ((if (w64 ((0 : Int) - a1)) > a1 then (w64 ((0 : Int) - a1)) else a1) ≠ 0)) then (bif (decide ((if (w64 ((0 : Int) - a0)) > a0 then (w64 ((0 : Int) - a0)) else a0) > (w64 (Int.tdiv (1099511627776 : Int) (if (w64 ((0 : Int) - a1)) > a1 then (w64 ((0 : Int) - a1)) else a1))))) then (some ((0 : Int),(6 : Int))) else (some ((w64 (a0 * a1)),(0 : Int)))) else none)))
noncomputable def Sm : Qnb := Qtj
noncomputable def Qtk (a0 : Int) (a1 : Int) : Pn True (lw 0 134) WS := (let u161 := (a0 == 0); pA u161 (pYN 2 u161 (fun g => g.2) (pU true rfl (pR (i0,i0)))) (pNN 2 u161 (fun g => g.2) (pA (a1 == 0) (pR (i0,i0)) (pA (decide ((if (w64 (i0 - a1)) > a1 then (w64 (i0 - a1)) else a1) ≠ 0)) (pA (decide ((if (w64 (i0 - a0)) > a0 then (w64 (i0 - a0)) else a0) > (w64 (Int.tdiv (zi 1099511627776) (if (w64 (i0 - a1)) > a1 then (w64 (i0 - a1)) else a1))))) (pR (i0,(zi 6))) (pR ((w64 (a0 * a1)),i0))) pF))))
theorem Sm.ok {a0 : Int} {a1 : Int} {r : (Int × Int)} (h : Sm a0 a1 = some r) : ww 134 [xi a0,xi a1] [] = some (WS r) := fnQ (Qtk a0 a1) h
noncomputable abbrev Qk0 {Γ : Prop} {lp : Loops} {ρ R : Type} {en : ρ → R} (a0 : Int) (a1 : Int) (k : (Int × Int) → Pn Γ lp en) : Pn Γ lp en := pC (ww 134 [xi a0,xi a1] []) (Sm a0 a1) WS (fun _ => Sm.ok) k
abbrev Qbt := Int → Int → Int → Option (Int × Int)
def SH (C0 : Qna) (C1 : Qnb) (a0 : Int) (a1 : Int) (a2 : Int) : Option (Int × Int) := (bif (a0 == 5) then ((C0 (w64 (a1 + a2))).bind fun r1 => (some (r1.1,r1.2))) else (bif (a0 == 6) then ((C0 (w64 (a1 - a2))).bind fun r2 => (some (r2.1,r2.2))) else (bif (a0 == 7) then ((C1 a1 a2).bind fun r3 => (some (r3.1,r3.2))) else (bif (a0 == 8) then ((C0 (andI .i64 a1 a2)).bind fun r4 => (some (r4.1,r4.2))) else (bif (a0 == 9) then ((C0 (orI .i64 a1 a2)).bind fun r5 => (some (r5.1,r5.2))) else (bif (decide (a2 < 0)) then (some ((0 : Int),(6 : Int))) else (bif (decide (a2 > 40)) then (some ((0 : Int),(6 : Int))) else (bif (a0 == 11) then (bif (decide (0 ≤ (IntKind.u64.wrap a2))) then (some ((shrI .i64 a1 (IntKind.u64.wrap a2)),(0 : Int))) else none) else (bif (decide (0 ≤ (IntKind.u64.wrap a2))) then ((C1 a1 (shlI .i64 (1 : Int) (IntKind.u64.wrap a2))).bind fun r6 => (some (r6.1,r6.2))) else none)))))))))
noncomputable def Xh : Qbt := SH ZD Sm
theorem Xh.eq (a0 : Int) (a1 : Int) (a2 : Int) : Xh a0 a1 a2 = SH ZD Sm a0 a1 a2 := rfl
noncomputable def QqX (a0 : Int) (a1 : Int) (a2 : Int) : Pn True (lw 0 86) WS := (pA (a0 == 5) (Qbs (w64 (a1 + a2)) fun r1 => (pR (r1.1,r1.2))) (pA (a0 == 6) (Qbs (w64 (a1 - a2)) fun r2 => (pR (r2.1,r2.2))) (pA (a0 == 7) (Qk0 a1 a2 fun r3 => (pR (r3.1,r3.2))) (pA (a0 == 8) (Qbs (andI .i64 a1 a2) fun r4 => (pR (r4.1,r4.2))) (pA (a0 == 9) (Qbs (orI .i64 a1 a2) fun r5 => (pR (r5.1,r5.2))) (let u162 := (decide (a2 < 0)); pA u162 (pYN 2 u162 (fun g => g.2) (pU true rfl (pR (i0,(zi 6))))) (pNN 2 u162 (fun g => g.2) (pA (decide (a2 > 40)) (pR (i0,(zi 6))) (pA (a0 == 11) (pA (decide (0 ≤ (IntKind.u64.wrap a2))) (pR ((shrI .i64 a1 (IntKind.u64.wrap a2)),i0)) pF) (pA (decide (0 ≤ (IntKind.u64.wrap a2))) (Qk0 a1 (shlI .i64 (zi 1) (IntKind.u64.wrap a2)) fun r6 => (pR (r6.1,r6.2))) pF))))))))))
theorem Xh.ok {a0 : Int} {a1 : Int} {a2 : Int} {r : (Int × Int)} (h : Xh a0 a1 a2 = some r) : ww 86 [xi a0,xi a1,xi a2] [] = some (WS r) := fnQ (QqX a0 a1 a2) h
noncomputable abbrev QqY {Γ : Prop} {lp : Loops} {ρ R : Type} {en : ρ → R} (a0 : Int) (a1 : Int) (a2 : Int) (k : (Int × Int) → Pn Γ lp en) : Pn Γ lp en := pC (ww 86 [xi a0,xi a1,xi a2] []) (Xh a0 a1 a2) WS (fun _ => Xh.ok) k
abbrev ZE := Qd → Int → (List Qk) → Option (Int × Int)
abbrev Qfs (c : ZE) : Prop := ∀ (a0 : Qd) (a1 : Int) (a2 : (List Qk)) (r : (Int × Int)),c a0 a1 a2 = some r → ww 41 [.agg (Jg a0),xi a1,.sl (Ql a2)] [] = some (WS r)
noncomputable abbrev Qnc {Γ : Prop} {lp : Loops} {ρ R : Type} {en : ρ → R} (c : ZE) (i : Qfs c) (a0 : Qd) (a1 : Int) (a2 : (List Qk)) (k : (Int × Int) → Pn Γ lp en) : Pn Γ lp en := pC (ww 41 [.agg (Jg a0),xi a1,.sl (Ql a2)] []) (c a0 a1 a2) WS (fun _ => i a0 a1 a2 _) k
structure VY where
 x2 : (List Qk)
 x8 : Int
 h0 : Qd
structure Xw where
 x6 : Int
 x7 : Int
def Qcu (a : VY) : St := { n := 81,nx := 1,env := [(2,.sl (Ql a.x2)),(3,.ptr 0 0),(8,xi a.x8)],heap := [(0,.box [] (Jg a.h0))] }
def Qf1 (a : Xw) : Ex × St := (.ret,{ n := 81,nx := 0,env := [(6,xi a.x6),(7,xi a.x7)],heap := [] })
def Qf2 (a : Unit) : Ex × St := (.exit 1,{ n := 81,nx := 0,env := [],heap := [] })
def QhD : (Xw ⊕ Unit) → Ex × St := Sum.elim Qf1 Qf2
abbrev Yd := VY → Option (Xw ⊕ Unit)
def QhE (a : VY) : Option (VY ⊕ (Xw ⊕ Unit)) := (bif (decide (a.x8 < (((a.x2.length) : Nat) : Int))) then (bif (decide (0 ≤ a.x8)) then ((a.x2[(Int.toNat a.x8)]?).bind fun e1 => (bif (eqS e1.Name a.h0.Name) then ((a.x2[(Int.toNat a.x8)]?).bind fun e2 => (some (.inr (.inl (Xw.mk e2.Value (0 : Int)))))) else (some (.inl (VY.mk a.x2 (w64 (a.x8 + 1)) a.h0))))) else none) else (some (.inr (.inr ()))))
abbrev QdH (l : Yd) : Prop := ∀ (a : VY) (r : (Xw ⊕ Unit)),l a = some r → lw 0 41 (loopAt pp 41 8) (Qcu a) = some (QhD r)
noncomputable abbrev Qpy {Γ : Prop} {ρ R : Type} {en : ρ → R} (l : Yd) (j : QdH l) (a : VY) (k0 : Xw → Pn Γ (lw 0 41) en) (k1 : Unit → Pn Γ (lw 0 41) en) : Pn Γ (lw 0 41) en := p2 (loopAt pp 41 8) (Qcu a) (l a) Qf1 Qf2 (fun _ => j _ _) k0 k1
noncomputable def Qpz (a : VY) : Pn True (lw 0 41) (Sum.elim (fun a => (Ex.norm,Qcu a)) QhD) := (pH Yy a.x2 (pA (decide (a.x8 < (((a.x2.length) : Nat) : Int))) (let u163 := (decide (0 ≤ a.x8)); pA u163 (pI Yy a.x2 a.x8 fun e1 => (pA (eqS e1.Name a.h0.Name) (pY u163 (fun g => g.1.2) (pI Yy a.x2 a.x8 fun e2 => (pR (.inr (.inl (Xw.mk e2.Value i0)))))) (pR (.inl (VY.mk a.x2 (w64 (a.x8 + 1)) a.h0))))) pF) (pR (.inr (.inr ())))))
noncomputable def Wi.s (k : Nat) : Yd := iter (QhE ) k
theorem Qob (k : Nat) : QdH (Wi.s k ) := fun a r h => lpQ (Qpz ) (itP h)
theorem Wi.m {j k : Nat} (hj : j ≤ k) (a : VY) : Le (Wi.s j a) (Wi.s k a) := Le.iter (fun a => .refl _) hj a
noncomputable def Wi.w : Yd := loopW (QhE )
theorem Wi.cv (a : VY) : Cv (fun k => Wi.s k a) (Wi.w a) := Cv.iter (fun a => by exact .const _) a
def Qal (C0 : ZE) (C1 : Qbt) (L2 : Yd) (a0 : Qd) (a1 : Int) (a2 : (List Qk)) : Option (Int × Int) := (bif (a0.Kind == 1) then (some (a0.N,(0 : Int))) else (bif (a0.Kind == 3) then (some (a1,(0 : Int))) else (bif (a0.Kind == 2) then ((L2 (VY.mk a2 (0 : Int) a0)).bind fun x => Sum.elim (fun (o1 : Xw) => (some (o1.x6,o1.x7))) (fun (o2 : Unit) => (some ((0 : Int),(4 : Int)))) x) else ((a0.L[(Int.toNat 0)]?).bind fun e3 => ((C0 e3 a1 a2).bind fun r4 => (bif (r4.2 != 0) then (some ((0 : Int),r4.2)) else (bif (a0.Kind == 4) then (some ((w64 ((0 : Int) - r4.1)),(0 : Int))) else ((a0.L[(Int.toNat 1)]?).bind fun e5 => ((C0 e5 a1 a2).bind fun r6 => (bif (r6.2 != 0) then (some ((0 : Int),r6.2)) else ((C1 a0.Kind r4.1 r6.1).bind fun r7 => (some (r7.1,r7.2)))))))))))))
theorem Qnd {C0 : Nat → ZE} {D0 : ZE} (H0 : Cv3 C0 D0) {C1 : Nat → Qbt} {D1 : Qbt} (H1 : Cv3 C1 D1) {L2 : Nat → Yd} {M2 : Yd} (N2 : Cv1 L2 M2) (a0 : Qd) (a1 : Int) (a2 : (List Qk)) : Cv (fun k => Qal (C0 k) (C1 k) (L2 k) a0 a1 a2) (Qal D0 D1 M2 a0 a1 a2) := by
 unfold Qal
 exact .cond cst (.cond cst (.cond (.bind (N2 _) fun x => .sum (fun o1 => by exact .const _) (fun o2 => by exact .const _) x) (.bind (.const _) fun e3 => .bind (H0 _ _ _) fun r4 => .cond cst (.cond cst (.bind (.const _) fun e5 => .bind (H0 _ _ _) fun r6 => .cond cst (.bind (H1 _ _ _) fun r7 => by exact .const _))))))
noncomputable def QuD (C0 : ZE) (i_r3_Eval : Qfs C0) (L1 : Yd) (j_r3_Eval_L1 : QdH L1) (a0 : Qd) (a1 : Int) (a2 : (List Qk)) : Pn True (lw 0 41) WS := (pA (a0.Kind == 1) (pR (a0.N,i0)) (pA (a0.Kind == 3) (pR (a1,i0)) (pA (a0.Kind == 2) (Qpy L1 j_r3_Eval_L1 (VY.mk a2 i0 a0) (fun o1 => (pR (o1.x6,o1.x7))) (fun o2 => (pR (i0,(zi 4))))) (pU (decide (0 ≤ i0)) rfl (pI Eu a0.L i0 fun e3 => (Qnc C0 i_r3_Eval e3 a1 a2 fun r4 => (pA (r4.2 != 0) (pR (i0,r4.2)) (pA (a0.Kind == 4) (pR ((w64 (i0 - r4.1)),i0)) (pU (decide (0 ≤ (zi 1))) rfl (pI Eu a0.L (zi 1) fun e5 => (Qnc C0 i_r3_Eval e5 a1 a2 fun r6 => (pA (r6.2 != 0) (pR (i0,r6.2)) (QqY a0.Kind r4.1 r6.1 fun r7 => (pR (r7.1,r7.2)))))))))))))))
noncomputable def Q1.s : Nat → Qd → Int → (List Qk) → Option (Int × Int)
 | 0,_,_,_ => none
 | k + 1,a0,a1,a2 => Qal (fun a0 a1 a2 => Q1.s k a0 a1 a2) Xh (Wi.s k) a0 a1 a2
termination_by structural k => k
theorem Qjg : ∀ (k : Nat),(Qfs (Q1.s k))
 | 0 => fun _ _ _ _ h => (nomatch h)
 | k + 1 => by
  have i_r3_Eval : Qfs (Q1.s k) := Qjg k
  exact fun a0 a1 a2 r h => fnQ (QuD (Q1.s k) i_r3_Eval (Wi.s k) (Qob k ) a0 a1 a2) h
theorem QhF : ∀ (k : Nat),(∀ (a0 : Qd) (a1 : Int) (a2 : (List Qk)),Le (Q1.s k a0 a1 a2) (Q1.s (k + 1) a0 a1 a2))
 | 0 => fun _ _ _ _ h => (nomatch h)
 | k + 1 => by
  have i_r3_Eval : ∀ (a0 : Qd) (a1 : Int) (a2 : (List Qk)),Le (Q1.s k a0 a1 a2) (Q1.s (k + 1) a0 a1 a2) := QhF k
  exact fun a0 a1 a2 => (Qnd (tw3 i_r3_Eval) ks3 (tw1 (Wi.m (Nat.le_succ k))) a0 a1 a2).1 0
noncomputable def Q1 (a0 : Qd) (a1 : Int) (a2 : (List Qk)) : Option (Int × Int) := lim fun k => Q1.s k a0 a1 a2
theorem Q1.cv (a0 : Qd) (a1 : Int) (a2 : (List Qk)) : Cv (fun k => Q1.s k a0 a1 a2) (Q1 a0 a1 a2) := .lim fun k => (QhF k) a0 a1 a2
theorem Q1.ok {a0 : Qd} {a1 : Int} {a2 : (List Qk)} {r : (Int × Int)} (h : Q1 a0 a1 a2 = some r) : ww 41 [.agg (Jg a0),xi a1,.sl (Ql a2)] [] = some (WS r) := let ⟨k,e⟩ := ((Q1.cv a0 a1 a2).2 r).1 h; (Qjg k) a0 a1 a2 _ e
noncomputable def Wi : Yd := Wi.w
theorem Q1.eq (a0 : Qd) (a1 : Int) (a2 : (List Qk)) : Q1 a0 a1 a2 = Qal Q1 Xh Wi a0 a1 a2 := Cv.uniq (Q1.cv a0 a1 a2).shift (Qnd Q1.cv ks3 (Wi.cv) a0 a1 a2)
noncomputable abbrev Qdd {Γ : Prop} {lp : Loops} {ρ R : Type} {en : ρ → R} (a0 : Qd) (a1 : Int) (a2 : (List Qk)) (k : (Int × Int) → Pn Γ lp en) : Pn Γ lp en := pC (ww 41 [.agg (Jg a0),xi a1,.sl (Ql a2)] []) (Q1 a0 a1 a2) WS (fun _ => Q1.ok) k
abbrev YW := Qd → Option Bool
abbrev Qcv (c : YW) : Prop := ∀ (a0 : Qd) (r : Bool),c a0 = some r → ww 202 [.agg (Jg a0)] [] = some (QF r)
noncomputable abbrev QuE {Γ : Prop} {lp : Loops} {ρ R : Type} {en : ρ → R} (c : YW) (i : Qcv c) (a0 : Qd) (k : Bool → Pn Γ lp en) : Pn Γ lp en := pC (ww 202 [.agg (Jg a0)] []) (c a0) QF (fun _ => i a0 _) k
structure UX where
 x3 : Bool
 x4 : Int
 h0 : Qd
def Qcw (a : UX) : St := { n := 25,nx := 1,env := [(1,.ptr 0 0),(3,xo a.x3),(4,xi a.x4)],heap := [(0,.box [] (Jg a.h0))] }
def Qcx (a : Bool) : Ex × St := (.exit 0,{ n := 25,nx := 0,env := [(3,xo a)],heap := [] })
abbrev ZF := UX → Option Bool
def PO (C0 : YW) (a : UX) : Option (UX ⊕ Bool) := (bif (decide (a.x4 < (((a.h0.L.length) : Nat) : Int))) then (bif a.x3 then (some (.inl (UX.mk true (w64 (a.x4 + 1)) a.h0))) else (bif (decide (0 ≤ a.x4)) then ((a.h0.L[(Int.toNat a.x4)]?).bind fun e1 => ((C0 e1).bind fun r2 => (some (.inl (UX.mk r2 (w64 (a.x4 + 1)) a.h0))))) else none)) else (some (.inr a.x3)))
theorem QpA {C0 : Nat → YW} {D0 : YW} (H0 : Cv1 C0 D0) (a : UX) : Cv (fun k => PO (C0 k) a) (PO D0 a) := by
 unfold PO
 exact .cond (.cond cst (.cond (.bind (.const _) fun e1 => .bind (H0 _) fun r2 => by exact .const _) cst)) cst
abbrev QdI (l : ZF) : Prop := ∀ (a : UX) (r : Bool),l a = some r → lw 0 202 (loopAt pp 202 3) (Qcw a) = some (Qcx r)
noncomputable abbrev QpB {Γ : Prop} {ρ R : Type} {en : ρ → R} (l : ZF) (j : QdI l) (a : UX) (k0 : Bool → Pn Γ (lw 0 202) en) : Pn Γ (lw 0 202) en := p1 (loopAt pp 202 3) (Qcw a) (l a) Qcx (fun _ => j _ _) k0
noncomputable def QpC (C0 : YW) (i_r3_Here : Qcv C0) (a : UX) : Pn True (lw 0 202) (Sum.elim (fun a => (Ex.norm,Qcw a)) Qcx) := (pH Eu a.h0.L (pA (decide (a.x4 < (((a.h0.L.length) : Nat) : Int))) (pA a.x3 (pYN 6 a.x3 (fun g => g.2) (pR (.inl (UX.mk true (w64 (a.x4 + 1)) a.h0)))) (pNN 3 a.x3 (fun g => g.2) (pA (decide (0 ≤ a.x4)) (pI Eu a.h0.L a.x4 fun e1 => (pNN 2 a.x3 (fun g => g.1.2) (QuE C0 i_r3_Here e1 fun r2 => (pN a.x3 (fun g => g.1.2) (pR (.inl (UX.mk r2 (w64 (a.x4 + 1)) a.h0))))))) pF))) (pR (.inr a.x3))))
noncomputable def Gc.s (k : Nat) (C0 : YW) : ZF := iter (PO C0) k
theorem Qoc (k : Nat) {C0 : YW} (i_r3_Here : Qcv C0) : QdI (Gc.s k C0) := fun a r h => lpQ (QpC C0 i_r3_Here) (itP h)
theorem Gc.m {j k : Nat} (hj : j ≤ k) (C0 : YW) (D0 : YW) (H0 : Le1 C0 D0) (a : UX) : Le (Gc.s j C0 a) (Gc.s k D0 a) := Le.iter (fun a => (QpA (tw1 H0) a).1 0) hj a
def Qde (L0 : ZF) (a0 : Qd) : Option Bool := ((L0 (UX.mk (a0.Kind == 3) (0 : Int) a0)).bind (fun (o1 : Bool) => (some o1)))
theorem QuF {L0 : Nat → ZF} {M0 : ZF} (N0 : Cv1 L0 M0) (a0 : Qd) : Cv (fun k => Qde (L0 k) a0) (Qde M0 a0) := by
 unfold Qde
 exact .bind (N0 _) (fun o1 => by exact .const _)
noncomputable def QuG (L0 : ZF) (j_r3_Here_L1 : QdI L0) (a0 : Qd) : Pn True (lw 0 202) QF := (QpB L0 j_r3_Here_L1 (UX.mk (a0.Kind == 3) i0 a0) (fun o1 => (pR o1)))
noncomputable def WB.s : Nat → Qd → Option Bool
 | 0,_ => none
 | k + 1,a0 => Qde (Gc.s k (fun a0 => WB.s k a0)) a0
termination_by structural k => k
theorem Qjh : ∀ (k : Nat),(Qcv (WB.s k))
 | 0 => fun _ _ h => (nomatch h)
 | k + 1 => by
  have i_r3_Here : Qcv (WB.s k) := Qjh k
  exact fun a0 r h => fnQ (QuG (Gc.s k (WB.s k)) (Qoc k i_r3_Here) a0) h
theorem QhG : ∀ (k : Nat),(∀ (a0 : Qd),Le (WB.s k a0) (WB.s (k + 1) a0))
 | 0 => fun _ _ h => (nomatch h)
 | k + 1 => by
  have i_r3_Here : ∀ (a0 : Qd),Le (WB.s k a0) (WB.s (k + 1) a0) := QhG k
  exact fun a0 => (QuF (tw1 (Gc.m (Nat.le_succ k) (WB.s k) (WB.s (k + 1)) i_r3_Here)) a0).1 0
noncomputable def WB (a0 : Qd) : Option Bool := lim fun k => WB.s k a0
theorem WB.cv (a0 : Qd) : Cv (fun k => WB.s k a0) (WB a0) := .lim fun k => (QhG k) a0
theorem WB.ok {a0 : Qd} {r : Bool} (h : WB a0 = some r) : ww 202 [.agg (Jg a0)] [] = some (QF r) := let ⟨k,e⟩ := ((WB.cv a0).2 r).1 h; (Qjh k) a0 _ e
noncomputable abbrev QuH {Γ : Prop} {lp : Loops} {ρ R : Type} {en : ρ → R} (a0 : Qd) (k : Bool → Pn Γ lp en) : Pn Γ lp en := pC (ww 202 [.agg (Jg a0)] []) (WB a0) QF (fun _ => WB.ok) k
def Yp (r : (Int × Qc)) : AV × Heap := (xi r.1,[(0,.box [0,112,103] [.sl (Ql r.2.Syms),.arr 3,.arr 4]),(3,.arr false 12 (Qh r.2.L)),(4,.arr false 3 (Qp r.2.D))])
abbrev QeA := Qf → Qc → Option (Int × Qc)
def Qk1 (C0 : ZE) (C1 : YW) (C2 : Ze) (a1 : Qf) (h0 : Qc) : Option (Int × Qc) := ((a1.S.Args[(Int.toNat 0)]?).bind fun e1 => ((C0 e1.E (0 : Int) h0.Syms).bind fun r2 => (bif (r2.2 == 0) then ((C1 e1.E).bind fun r3 => (bif (a1.S.Kind == 7) then (bif (!r3) then (bif (r2.1 == 1) then (some (r2.1,h0)) else (bif (r2.1 == 2) then (some (r2.1,h0)) else (bif (r2.1 == 4) then (some (r2.1,h0)) else (bif (r2.1 == 8) then (some (r2.1,h0)) else (bif (!(r2.1 == 16)) then ((C2 a1.Frag a1.S.Line (3 : Int) h0).bind fun r4 => (some ((0 : Int),r4))) else (some (r2.1,h0))))))) else ((C2 a1.Frag a1.S.Line (3 : Int) h0).bind fun r5 => (some ((0 : Int),r5)))) else (bif (!r3) then (bif (decide (r2.1 ≥ 0)) then (bif (!(decide (r2.1 ≤ 1000))) then ((C2 a1.Frag a1.S.Line (3 : Int) h0).bind fun r6 => (some ((0 : Int),r6))) else (some (r2.1,h0))) else ((C2 a1.Frag a1.S.Line (3 : Int) h0).bind fun r7 => (some ((0 : Int),r7)))) else ((C2 a1.Frag a1.S.Line (3 : Int) h0).bind fun r8 => (some ((0 : Int),r8)))))) else (bif (a1.S.Kind == 7) then ((C2 a1.Frag a1.S.Line (3 : Int) h0).bind fun r9 => (some ((0 : Int),r9))) else ((C2 a1.Frag a1.S.Line (3 : Int) h0).bind fun r10 => (some ((0 : Int),r10)))))))
noncomputable def Zf : QeA := Qk1 Q1 WB VW
noncomputable def Qk2 (a1 : Qf) (h0 : Qc) : Pn True (lw 3 150) Yp := (pU (decide (0 ≤ i0)) rfl (pI Zk a1.S.Args i0 fun e1 => (Qdd e1.E i0 h0.Syms fun r2 => (let u169 := (r2.2 == 0); pA u169 (pY u169 (fun g => g.2) (QuH e1.E fun r3 => (pYN 2 u169 (fun g => g.2) (pA (a1.S.Kind == 7) (pA (!r3) (pYN 2 (!r3) (fun g => g.2) (let u167 := (r2.1 == 1); pA u167 (pY u167 (fun g => g.2) (pY (!r3) (fun g => g.1.2) (pY u167 (fun g => g.2) (pY (!r3) (fun g => g.1.2) (pYN 2 true (fun _ => rfl) (pY (!r3) (fun g => g.1.2) (pU true rfl (pY (!r3) (fun g => g.1.2) (pYN 2 true (fun _ => rfl) (pY (!r3) (fun g => g.1.2) (pU true rfl (pY (!r3) (fun g => g.1.2) (pYN 2 true (fun _ => rfl) (pY (!r3) (fun g => g.1.2) (pU true rfl (pY (!r3) (fun g => g.1.2) (pV false rfl (pR (r2.1,h0))))))))))))))))))) (pN u167 (fun g => g.2) (pY (!r3) (fun g => g.1.2) (pN u167 (fun g => g.2) (pY (!r3) (fun g => g.1.2) (let u166 := (r2.1 == 2); pA u166 (pY u166 (fun g => g.2) (pY (!r3) (fun g => g.1.1.2) (pY u166 (fun g => g.2) (pY (!r3) (fun g => g.1.1.2) (pYN 2 true (fun _ => rfl) (pY (!r3) (fun g => g.1.1.2) (pU true rfl (pY (!r3) (fun g => g.1.1.2) (pYN 2 true (fun _ => rfl) (pY (!r3) (fun g => g.1.1.2) (pU true rfl (pY (!r3) (fun g => g.1.1.2) (pV false rfl (pR (r2.1,h0))))))))))))))) (pN u166 (fun g => g.2) (pY (!r3) (fun g => g.1.1.2) (pN u166 (fun g => g.2) (pY (!r3) (fun g => g.1.1.2) (let u165 := (r2.1 == 4); pA u165 (pY u165 (fun g => g.2) (pY (!r3) (fun g => g.1.1.1.2) (pY u165 (fun g => g.2) (pY (!r3) (fun g => g.1.1.1.2) (pYN 2 true (fun _ => rfl) (pY (!r3) (fun g => g.1.1.1.2) (pU true rfl (pY (!r3) (fun g => g.1.1.1.2) (pV false rfl (pR (r2.1,h0))))))))))) (pN u165 (fun g => g.2) (pY (!r3) (fun g => g.1.1.1.2) (pN u165 (fun g => g.2) (pY (!r3) (fun g => g.1.1.1.2) (let u164 := (r2.1 == 8); pA u164 (pY u164 (fun g => g.2) (pY (!r3) (fun g => g.1.1.1.1.2) (pY u164 (fun g => g.2) (pY (!r3) (fun g => g.1.1.1.1.2) (pV false rfl (pR (r2.1,h0))))))) (pN u164 (fun g => g.2) (pY (!r3) (fun g => g.1.1.1.1.2) (pN u164 (fun g => g.2) (pY (!r3) (fun g => g.1.1.1.1.2) (pA (!(r2.1 == 16)) (VX a1.Frag a1.S.Line (zi 3) h0 fun r4 => (pR (i0,r4))) (pR (r2.1,h0)))))))))))))))))))))))) (pNN 10 (!r3) (fun g => g.2) (pU true rfl (VX a1.Frag a1.S.Line (zi 3) h0 fun r5 => (pR (i0,r5)))))) (pA (!r3) (pYN 2 (!r3) (fun g => g.2) (let u168 := (decide (r2.1 ≥ 0)); pA u168 (pYN 2 u168 (fun g => g.2) (pA (!(decide (r2.1 ≤ 1000))) (VX a1.Frag a1.S.Line (zi 3) h0 fun r6 => (pR (i0,r6))) (pR (r2.1,h0)))) (pNN 2 u168 (fun g => g.2) (pU true rfl (VX a1.Frag a1.S.Line (zi 3) h0 fun r7 => (pR (i0,r7))))))) (pNN 2 (!r3) (fun g => g.2) (pNN 3 false (fun _ => rfl) (pU true rfl (VX a1.Frag a1.S.Line (zi 3) h0 fun r8 => (pR (i0,r8))))))))))) (pNN 3 u169 (fun g => g.2) (pA (a1.S.Kind == 7) (pNN 11 false (fun _ => rfl) (pU true rfl (VX a1.Frag a1.S.Line (zi 3) h0 fun r9 => (pR (i0,r9))))) (pNN 6 false (fun _ => rfl) (pU true rfl (VX a1.Frag a1.S.Line (zi 3) h0 fun r10 => (pR (i0,r10)))))))))))
theorem Zf.ok {a1 : Qf} {h0 : Qc} {r : (Int × Qc)} (h : Zf a1 h0 = some r) : ww 150 [.ptr 0 0,.agg (WE a1)] [(0,.box [0,112,103] [.sl (Ql h0.Syms),.arr 1,.arr 2]),(1,.arr false 12 (Qh h0.L)),(2,.arr false 3 (Qp h0.D))] = some (Yp r) := fnQ (Qk2 a1 h0) h
noncomputable abbrev Qdf {Γ : Prop} {lp : Loops} {ρ R : Type} {en : ρ → R} (a1 : Qf) (h0 : Qc) (k : (Int × Qc) → Pn Γ lp en) : Pn Γ lp en := pC (ww 150 [.ptr 0 0,.agg (WE a1)] [(0,.box [0,112,103] [.sl (Ql h0.Syms),.arr 1,.arr 2]),(1,.arr false 12 (Qh h0.L)),(2,.arr false 3 (Qp h0.D))]) (Zf a1 h0) Yp (fun _ => Zf.ok) k
abbrev QeB := Qc → Option Qc
structure QB where
 x2 : Int
 h0 : Qc
def Eb (a : QB) : St := { n := 70,nx := 5,env := [(0,.ptr 0 0),(2,xi a.x2)],heap := [(0,.box [0,112,103] [.sl (Ql a.h0.Syms),.arr 3,.arr 4]),(3,.arr false 12 (Qh a.h0.L)),(4,.arr false 3 (Qp a.h0.D))] }
def Ec (a : Qc) : Ex × St := (.exit 0,{ n := 70,nx := 5,env := [],heap := [(0,.box [0,112,103] [.sl (Ql a.Syms),.arr 3,.arr 4]),(3,.arr false 12 (Qh a.L)),(4,.arr false 3 (Qp a.D))] })
abbrev Qba := QB → Option Qc
def Zq (C0 : Qpx) (C1 : QeA) (a : QB) : Option (QB ⊕ Qc) := (bif (decide (a.x2 < (((a.h0.L.length) : Nat) : Int))) then (bif (decide (0 ≤ a.x2 ∧ a.x2 < ((a.h0.L.length : Nat) : Int))) then ((a.h0.L[(Int.toNat a.x2)]?).bind fun e1 => (bif (e1.S.Kind == 1) then ((C0 e1.S.Op).bind fun r2 => ((a.h0.L[(Int.toNat a.x2)]?).bind fun e3 => (some (.inl (QB.mk (w64 (a.x2 + 1)) (Qc.mk a.h0.Syms (a.h0.L.set (Int.toNat a.x2) (Qf.mk e3.S e3.Frag r2 e3.At e3.Grown e3.Is e3.Value)) a.h0.D)))))) else (bif (e1.S.Kind == 2) then ((a.h0.L[(Int.toNat a.x2)]?).bind fun e4 => (some (.inl (QB.mk (w64 (a.x2 + 1)) (Qc.mk a.h0.Syms (a.h0.L.set (Int.toNat a.x2) (Qf.mk e4.S e4.Frag (2 : Int) e4.At e4.Grown e4.Is e4.Value)) a.h0.D))))) else (bif (e1.S.Kind == 4) then ((a.h0.L[(Int.toNat a.x2)]?).bind fun e5 => (some (.inl (QB.mk (w64 (a.x2 + 1)) (Qc.mk a.h0.Syms (a.h0.L.set (Int.toNat a.x2) (Qf.mk e5.S e5.Frag (w64 ((2 : Int) * (((e1.S.Args.length) : Nat) : Int))) e5.At e5.Grown e5.Is e5.Value)) a.h0.D))))) else (bif (e1.S.Kind == 5) then ((a.h0.L[(Int.toNat a.x2)]?).bind fun e6 => (some (.inl (QB.mk (w64 (a.x2 + 1)) (Qc.mk a.h0.Syms (a.h0.L.set (Int.toNat a.x2) (Qf.mk e6.S e6.Frag (w64 ((4 : Int) * (((e1.S.Args.length) : Nat) : Int))) e6.At e6.Grown e6.Is e6.Value)) a.h0.D))))) else (bif (e1.S.Kind == 6) then ((a.h0.L[(Int.toNat a.x2)]?).bind fun e7 => (some (.inl (QB.mk (w64 (a.x2 + 1)) (Qc.mk a.h0.Syms (a.h0.L.set (Int.toNat a.x2) (Qf.mk e7.S e7.Frag ((e1.S.Text.size : Nat) : Int) e7.At e7.Grown e7.Is e7.Value)) a.h0.D))))) else (bif (e1.S.Kind == 0) then ((a.h0.L[(Int.toNat a.x2)]?).bind fun e8 => (some (.inl (QB.mk (w64 (a.x2 + 1)) (Qc.mk a.h0.Syms (a.h0.L.set (Int.toNat a.x2) (Qf.mk e8.S e8.Frag (0 : Int) e8.At e8.Grown e8.Is e8.Value)) a.h0.D))))) else (bif (e1.S.Kind == 9) then ((a.h0.L[(Int.toNat a.x2)]?).bind fun e9 => (some (.inl (QB.mk (w64 (a.x2 + 1)) (Qc.mk a.h0.Syms (a.h0.L.set (Int.toNat a.x2) (Qf.mk e9.S e9.Frag (0 : Int) e9.At e9.Grown e9.Is e9.Value)) a.h0.D))))) else (bif (e1.S.Kind == 7) then ((a.h0.L[(Int.toNat a.x2)]?).bind fun e10 => ((C1 e10 a.h0).bind fun r11 => (bif (decide (0 ≤ a.x2 ∧ a.x2 < ((r11.2.L.length : Nat) : Int))) then ((r11.2.L[(Int.toNat a.x2)]?).bind fun e12 => (some (.inl (QB.mk (w64 (a.x2 + 1)) (Qc.mk r11.2.Syms (r11.2.L.set (Int.toNat a.x2) (Qf.mk e12.S e12.Frag r11.1 e12.At e12.Grown e12.Is e12.Value)) r11.2.D))))) else none))) else (bif (e1.S.Kind == 8) then ((a.h0.L[(Int.toNat a.x2)]?).bind fun e13 => ((C1 e13 a.h0).bind fun r14 => (bif (decide (0 ≤ a.x2 ∧ a.x2 < ((r14.2.L.length : Nat) : Int))) then ((r14.2.L[(Int.toNat a.x2)]?).bind fun e15 => (some (.inl (QB.mk (w64 (a.x2 + 1)) (Qc.mk r14.2.Syms (r14.2.L.set (Int.toNat a.x2) (Qf.mk e15.S e15.Frag r14.1 e15.At e15.Grown e15.Is e15.Value)) r14.2.D))))) else none))) else ((a.h0.L[(Int.toNat a.x2)]?).bind fun e16 => (some (.inl (QB.mk (w64 (a.x2 + 1)) (Qc.mk a.h0.Syms (a.h0.L.set (Int.toNat a.x2) (Qf.mk e16.S e16.Frag (((e1.S.Args.length) : Nat) : Int) e16.At e16.Grown e16.Is e16.Value)) a.h0.D))))))))))))))) else none) else (some (.inr a.h0)))
noncomputable def JS : Qba := loopW (Zq YH Zf)
theorem JS.eq (a : QB) : JS a = (Zq YH Zf a).bind (Sum.elim JS some) := QK _ _
noncomputable def QhH (a : QB) : Pn True (lw 3 96) (Sum.elim (fun a => (Ex.norm,Eb a)) Ec) := (pH Qy a.h0.L (pA (decide (a.x2 < (((a.h0.L.length) : Nat) : Int))) (pG Qy a.h0.L a.x2 (pI Qy a.h0.L a.x2 fun e1 => (pH Zk e1.S.Args (pA (e1.S.Kind == 1) (QuC e1.S.Op fun r2 => (pY (in1 a.x2 (((Qh a.h0.L).length : Nat) : Int)) (fun g => (show (in1 a.x2 (((Qh a.h0.L).length : Nat) : Int)) = (in1 a.x2 ((a.h0.L.length : Nat) : Int)) from (by rw [JD])).trans g.1.2) (pI Qy a.h0.L a.x2 fun e3 => (pZ ((Qh a.h0.L).set (Int.toNat a.x2) [xi e3.S.Line,xs e3.S.Label,xi e3.S.Kind,xi e3.S.Op,xs e3.S.Text,.sl (Jl e3.S.Args),xs e3.Frag,xi r2,xi e3.At,xo e3.Grown,xo e3.Is,xi e3.Value]) (Qh (a.h0.L.set (Int.toNat a.x2) (Qf.mk e3.S e3.Frag r2 e3.At e3.Grown e3.Is e3.Value))) (Uv a.h0.L (Int.toNat a.x2) (Qf.mk e3.S e3.Frag r2 e3.At e3.Grown e3.Is e3.Value)) (pR (.inl (QB.mk (w64 (a.x2 + 1)) (Qc.mk a.h0.Syms (a.h0.L.set (Int.toNat a.x2) (Qf.mk e3.S e3.Frag r2 e3.At e3.Grown e3.Is e3.Value)) a.h0.D)))))))) (pA (e1.S.Kind == 2) (pY (in1 a.x2 (((Qh a.h0.L).length : Nat) : Int)) (fun g => (show (in1 a.x2 (((Qh a.h0.L).length : Nat) : Int)) = (in1 a.x2 ((a.h0.L.length : Nat) : Int)) from (by rw [JD])).trans g.1.1.2) (pI Qy a.h0.L a.x2 fun e4 => (pZ ((Qh a.h0.L).set (Int.toNat a.x2) [xi e4.S.Line,xs e4.S.Label,xi e4.S.Kind,xi e4.S.Op,xs e4.S.Text,.sl (Jl e4.S.Args),xs e4.Frag,xi (zi 2),xi e4.At,xo e4.Grown,xo e4.Is,xi e4.Value]) (Qh (a.h0.L.set (Int.toNat a.x2) (Qf.mk e4.S e4.Frag (zi 2) e4.At e4.Grown e4.Is e4.Value))) (Uv a.h0.L (Int.toNat a.x2) (Qf.mk e4.S e4.Frag (zi 2) e4.At e4.Grown e4.Is e4.Value)) (pR (.inl (QB.mk (w64 (a.x2 + 1)) (Qc.mk a.h0.Syms (a.h0.L.set (Int.toNat a.x2) (Qf.mk e4.S e4.Frag (zi 2) e4.At e4.Grown e4.Is e4.Value)) a.h0.D))))))) (pA (e1.S.Kind == 4) (pY (in1 a.x2 (((Qh a.h0.L).length : Nat) : Int)) (fun g => (show (in1 a.x2 (((Qh a.h0.L).length : Nat) : Int)) = (in1 a.x2 ((a.h0.L.length : Nat) : Int)) from (by rw [JD])).trans g.1.1.1.2) (pI Qy a.h0.L a.x2 fun e5 => (pZ ((Qh a.h0.L).set (Int.toNat a.x2) [xi e5.S.Line,xs e5.S.Label,xi e5.S.Kind,xi e5.S.Op,xs e5.S.Text,.sl (Jl e5.S.Args),xs e5.Frag,xi (w64 ((zi 2) * (((e1.S.Args.length) : Nat) : Int))),xi e5.At,xo e5.Grown,xo e5.Is,xi e5.Value]) (Qh (a.h0.L.set (Int.toNat a.x2) (Qf.mk e5.S e5.Frag (w64 ((zi 2) * (((e1.S.Args.length) : Nat) : Int))) e5.At e5.Grown e5.Is e5.Value))) (Uv a.h0.L (Int.toNat a.x2) (Qf.mk e5.S e5.Frag (w64 ((zi 2) * (((e1.S.Args.length) : Nat) : Int))) e5.At e5.Grown e5.Is e5.Value)) (pR (.inl (QB.mk (w64 (a.x2 + 1)) (Qc.mk a.h0.Syms (a.h0.L.set (Int.toNat a.x2) (Qf.mk e5.S e5.Frag (w64 ((zi 2) * (((e1.S.Args.length) : Nat) : Int))) e5.At e5.Grown e5.Is e5.Value)) a.h0.D))))))) (pA (e1.S.Kind == 5) (pY (in1 a.x2 (((Qh a.h0.L).length : Nat) : Int)) (fun g => (show (in1 a.x2 (((Qh a.h0.L).length : Nat) : Int)) = (in1 a.x2 ((a.h0.L.length : Nat) : Int)) from (by rw [JD])).trans g.1.1.1.1.2) (pI Qy a.h0.L a.x2 fun e6 => (pZ ((Qh a.h0.L).set (Int.toNat a.x2) [xi e6.S.Line,xs e6.S.Label,xi e6.S.Kind,xi e6.S.Op,xs e6.S.Text,.sl (Jl e6.S.Args),xs e6.Frag,xi (w64 ((zi 4) * (((e1.S.Args.length) : Nat) : Int))),xi e6.At,xo e6.Grown,xo e6.Is,xi e6.Value]) (Qh (a.h0.L.set (Int.toNat a.x2) (Qf.mk e6.S e6.Frag (w64 ((zi 4) * (((e1.S.Args.length) : Nat) : Int))) e6.At e6.Grown e6.Is e6.Value))) (Uv a.h0.L (Int.toNat a.x2) (Qf.mk e6.S e6.Frag (w64 ((zi 4) * (((e1.S.Args.length) : Nat) : Int))) e6.At e6.Grown e6.Is e6.Value)) (pR (.inl (QB.mk (w64 (a.x2 + 1)) (Qc.mk a.h0.Syms (a.h0.L.set (Int.toNat a.x2) (Qf.mk e6.S e6.Frag (w64 ((zi 4) * (((e1.S.Args.length) : Nat) : Int))) e6.At e6.Grown e6.Is e6.Value)) a.h0.D))))))) (pA (e1.S.Kind == 6) (pY (in1 a.x2 (((Qh a.h0.L).length : Nat) : Int)) (fun g => (show (in1 a.x2 (((Qh a.h0.L).length : Nat) : Int)) = (in1 a.x2 ((a.h0.L.length : Nat) : Int)) from (by rw [JD])).trans g.1.1.1.1.1.2) (pI Qy a.h0.L a.x2 fun e7 => (pZ ((Qh a.h0.L).set (Int.toNat a.x2) [xi e7.S.Line,xs e7.S.Label,xi e7.S.Kind,xi e7.S.Op,xs e7.S.Text,.sl (Jl e7.S.Args),xs e7.Frag,xi (zz e1.S.Text),xi e7.At,xo e7.Grown,xo e7.Is,xi e7.Value]) (Qh (a.h0.L.set (Int.toNat a.x2) (Qf.mk e7.S e7.Frag (zz e1.S.Text) e7.At e7.Grown e7.Is e7.Value))) (Uv a.h0.L (Int.toNat a.x2) (Qf.mk e7.S e7.Frag (zz e1.S.Text) e7.At e7.Grown e7.Is e7.Value)) (pR (.inl (QB.mk (w64 (a.x2 + 1)) (Qc.mk a.h0.Syms (a.h0.L.set (Int.toNat a.x2) (Qf.mk e7.S e7.Frag (zz e1.S.Text) e7.At e7.Grown e7.Is e7.Value)) a.h0.D))))))) (let u171 := (e1.S.Kind == 0); pA u171 (pY u171 (fun g => g.2) (pY (in1 a.x2 (((Qh a.h0.L).length : Nat) : Int)) (fun g => (show (in1 a.x2 (((Qh a.h0.L).length : Nat) : Int)) = (in1 a.x2 ((a.h0.L.length : Nat) : Int)) from (by rw [JD])).trans g.1.1.1.1.1.1.2) (pI Qy a.h0.L a.x2 fun e8 => (pZ ((Qh a.h0.L).set (Int.toNat a.x2) [xi e8.S.Line,xs e8.S.Label,xi e8.S.Kind,xi e8.S.Op,xs e8.S.Text,.sl (Jl e8.S.Args),xs e8.Frag,xi i0,xi e8.At,xo e8.Grown,xo e8.Is,xi e8.Value]) (Qh (a.h0.L.set (Int.toNat a.x2) (Qf.mk e8.S e8.Frag i0 e8.At e8.Grown e8.Is e8.Value))) (Uv a.h0.L (Int.toNat a.x2) (Qf.mk e8.S e8.Frag i0 e8.At e8.Grown e8.Is e8.Value)) (pR (.inl (QB.mk (w64 (a.x2 + 1)) (Qc.mk a.h0.Syms (a.h0.L.set (Int.toNat a.x2) (Qf.mk e8.S e8.Frag i0 e8.At e8.Grown e8.Is e8.Value)) a.h0.D)))))))) (pA (e1.S.Kind == 9) (pY (in1 a.x2 (((Qh a.h0.L).length : Nat) : Int)) (fun g => (show (in1 a.x2 (((Qh a.h0.L).length : Nat) : Int)) = (in1 a.x2 ((a.h0.L.length : Nat) : Int)) from (by rw [JD])).trans g.1.1.1.1.1.1.1.2) (pI Qy a.h0.L a.x2 fun e9 => (pZ ((Qh a.h0.L).set (Int.toNat a.x2) [xi e9.S.Line,xs e9.S.Label,xi e9.S.Kind,xi e9.S.Op,xs e9.S.Text,.sl (Jl e9.S.Args),xs e9.Frag,xi i0,xi e9.At,xo e9.Grown,xo e9.Is,xi e9.Value]) (Qh (a.h0.L.set (Int.toNat a.x2) (Qf.mk e9.S e9.Frag i0 e9.At e9.Grown e9.Is e9.Value))) (Uv a.h0.L (Int.toNat a.x2) (Qf.mk e9.S e9.Frag i0 e9.At e9.Grown e9.Is e9.Value)) (pR (.inl (QB.mk (w64 (a.x2 + 1)) (Qc.mk a.h0.Syms (a.h0.L.set (Int.toNat a.x2) (Qf.mk e9.S e9.Frag i0 e9.At e9.Grown e9.Is e9.Value)) a.h0.D))))))) (let u170 := (e1.S.Kind == 7); pA u170 (pY u170 (fun g => g.2) (pY (in1 a.x2 (((Qh a.h0.L).length : Nat) : Int)) (fun g => (show (in1 a.x2 (((Qh a.h0.L).length : Nat) : Int)) = (in1 a.x2 ((a.h0.L.length : Nat) : Int)) from (by rw [JD])).trans g.1.1.1.1.1.1.1.1.2) (pI Qy a.h0.L a.x2 fun e10 => (Qdf e10 a.h0 fun r11 => (pG Qy r11.2.L a.x2 (pI Qy r11.2.L a.x2 fun e12 => (pZ ((Qh r11.2.L).set (Int.toNat a.x2) [xi e12.S.Line,xs e12.S.Label,xi e12.S.Kind,xi e12.S.Op,xs e12.S.Text,.sl (Jl e12.S.Args),xs e12.Frag,xi r11.1,xi e12.At,xo e12.Grown,xo e12.Is,xi e12.Value]) (Qh (r11.2.L.set (Int.toNat a.x2) (Qf.mk e12.S e12.Frag r11.1 e12.At e12.Grown e12.Is e12.Value))) (Uv r11.2.L (Int.toNat a.x2) (Qf.mk e12.S e12.Frag r11.1 e12.At e12.Grown e12.Is e12.Value)) (pR (.inl (QB.mk (w64 (a.x2 + 1)) (Qc.mk r11.2.Syms (r11.2.L.set (Int.toNat a.x2) (Qf.mk e12.S e12.Frag r11.1 e12.At e12.Grown e12.Is e12.Value)) r11.2.D)))))) pF))))) (pA (e1.S.Kind == 8) (pY (in1 a.x2 (((Qh a.h0.L).length : Nat) : Int)) (fun g => (show (in1 a.x2 (((Qh a.h0.L).length : Nat) : Int)) = (in1 a.x2 ((a.h0.L.length : Nat) : Int)) from (by rw [JD])).trans g.1.1.1.1.1.1.1.1.1.2) (pI Qy a.h0.L a.x2 fun e13 => (Qdf e13 a.h0 fun r14 => (pG Qy r14.2.L a.x2 (pI Qy r14.2.L a.x2 fun e15 => (pZ ((Qh r14.2.L).set (Int.toNat a.x2) [xi e15.S.Line,xs e15.S.Label,xi e15.S.Kind,xi e15.S.Op,xs e15.S.Text,.sl (Jl e15.S.Args),xs e15.Frag,xi r14.1,xi e15.At,xo e15.Grown,xo e15.Is,xi e15.Value]) (Qh (r14.2.L.set (Int.toNat a.x2) (Qf.mk e15.S e15.Frag r14.1 e15.At e15.Grown e15.Is e15.Value))) (Uv r14.2.L (Int.toNat a.x2) (Qf.mk e15.S e15.Frag r14.1 e15.At e15.Grown e15.Is e15.Value)) (pR (.inl (QB.mk (w64 (a.x2 + 1)) (Qc.mk r14.2.Syms (r14.2.L.set (Int.toNat a.x2) (Qf.mk e15.S e15.Frag r14.1 e15.At e15.Grown e15.Is e15.Value)) r14.2.D)))))) pF)))) (pY (in1 a.x2 (((Qh a.h0.L).length : Nat) : Int)) (fun g => (show (in1 a.x2 (((Qh a.h0.L).length : Nat) : Int)) = (in1 a.x2 ((a.h0.L.length : Nat) : Int)) from (by rw [JD])).trans g.1.1.1.1.1.1.1.1.1.2) (pI Qy a.h0.L a.x2 fun e16 => (pZ ((Qh a.h0.L).set (Int.toNat a.x2) [xi e16.S.Line,xs e16.S.Label,xi e16.S.Kind,xi e16.S.Op,xs e16.S.Text,.sl (Jl e16.S.Args),xs e16.Frag,xi (((e1.S.Args.length) : Nat) : Int),xi e16.At,xo e16.Grown,xo e16.Is,xi e16.Value]) (Qh (a.h0.L.set (Int.toNat a.x2) (Qf.mk e16.S e16.Frag (((e1.S.Args.length) : Nat) : Int) e16.At e16.Grown e16.Is e16.Value))) (Uv a.h0.L (Int.toNat a.x2) (Qf.mk e16.S e16.Frag (((e1.S.Args.length) : Nat) : Int) e16.At e16.Grown e16.Is e16.Value)) (pR (.inl (QB.mk (w64 (a.x2 + 1)) (Qc.mk a.h0.Syms (a.h0.L.set (Int.toNat a.x2) (Qf.mk e16.S e16.Frag (((e1.S.Args.length) : Nat) : Int) e16.At e16.Grown e16.Is e16.Value)) a.h0.D)))))))))))))))))) pF) (pR (.inr a.h0))))
theorem JS.ok {a : QB} {r : Qc} (h : JS a = some r) : lw 3 96 (loopAt pp 96 1) (Eb a) = some (Ec r) := lpQ QhH h
noncomputable abbrev QhI {Γ : Prop} {ρ R : Type} {en : ρ → R} (a : QB) (k0 : Qc → Pn Γ (lw 3 96) en) : Pn Γ (lw 3 96) en := p1 (loopAt pp 96 1) (Eb a) (JS a) Ec (fun _ => JS.ok) k0
def PP (L0 : Qba) (h0 : Qc) : Option Qc := ((L0 (QB.mk (0 : Int) h0)).bind (fun (o1 : Qc) => (some o1)))
noncomputable def Xa : QeB := PP JS
theorem Xa.eq (h0 : Qc) : Xa h0 = PP JS h0 := rfl
noncomputable def Qk3 (h0 : Qc) : Pn True (lw 3 96) Vi := (QhI (QB.mk i0 h0) (fun o1 => (pR o1)))
theorem Xa.ok {h0 : Qc} {r : Qc} (h : Xa h0 = some r) : ww 96 [.ptr 0 0] [(0,.box [0,112,103] [.sl (Ql h0.Syms),.arr 1,.arr 2]),(1,.arr false 12 (Qh h0.L)),(2,.arr false 3 (Qp h0.D))] = some (Vi r) := fnQ (Qk3 h0) h
noncomputable abbrev Qk4 {Γ : Prop} {lp : Loops} {ρ R : Type} {en : ρ → R} (h0 : Qc) (k : Qc → Pn Γ lp en) : Pn Γ lp en := pC (ww 96 [.ptr 0 0] [(0,.box [0,112,103] [.sl (Ql h0.Syms),.arr 1,.arr 2]),(1,.arr false 12 (Qh h0.L)),(2,.arr false 3 (Qp h0.D))]) (Xa h0) Vi (fun _ => Xa.ok) k
abbrev PQ := Qc → Option (Int × Qc)
structure J7 where
 x3 : Int
 x4 : Int
 x5 : Int
 h0 : Qc
structure Vt where
 x3 : Int
 x4 : Int
 h0 : Qc
def GC (a : J7) : St := { n := 59,nx := 5,env := [(0,.ptr 0 0),(3,xi a.x3),(4,xi a.x4),(5,xi a.x5)],heap := [(0,.box [0,112,103] [.sl (Ql a.h0.Syms),.arr 3,.arr 4]),(3,.arr false 12 (Qh a.h0.L)),(4,.arr false 3 (Qp a.h0.D))] }
def GD (a : Vt) : Ex × St := (.exit 2,{ n := 59,nx := 5,env := [(0,.ptr 0 0),(3,xi a.x3),(4,xi a.x4)],heap := [(0,.box [0,112,103] [.sl (Ql a.h0.Syms),.arr 3,.arr 4]),(3,.arr false 12 (Qh a.h0.L)),(4,.arr false 3 (Qp a.h0.D))] })
abbrev Qam := J7 → Option Vt
def Qgg (a : J7) : Option (J7 ⊕ Vt) := (bif (decide (a.x5 ≠ 0)) then (bif ((Int.tmod a.x3 a.x5) != 0) then (some (.inl (J7.mk (w64 (a.x3 + 1)) a.x4 a.x5 a.h0))) else (some (.inr (Vt.mk a.x3 a.x4 a.h0)))) else none)
noncomputable def X0 : Qam := loopW (Qgg )
noncomputable def Qgh (a : J7) : Pn True (lw 3 151) (Sum.elim (fun a => (Ex.norm,GC a)) GD) := (pA (decide (a.x5 ≠ 0)) (pA ((Int.tmod a.x3 a.x5) != 0) (pR (.inl (J7.mk (w64 (a.x3 + 1)) a.x4 a.x5 a.h0))) (pR (.inr (Vt.mk a.x3 a.x4 a.h0)))) pF)
theorem X0.ok {a : J7} {r : Vt} (h : X0 a = some r) : lw 3 151 (loopAt pp 151 8) (GC a) = some (GD r) := lpQ Qgh h
noncomputable abbrev Qgi {Γ : Prop} {ρ R : Type} {en : ρ → R} (a : J7) (k0 : Vt → Pn Γ (lw 3 151) en) : Pn Γ (lw 3 151) en := p1 (loopAt pp 151 8) (GC a) (X0 a) GD (fun _ => X0.ok) k0
structure Je where
 x3 : Int
 x4 : Int
 h0 : Qc
structure Vu where
 x3 : Int
 h0 : Qc
def GE (a : Je) : St := { n := 59,nx := 5,env := [(0,.ptr 0 0),(3,xi a.x3),(4,xi a.x4)],heap := [(0,.box [0,112,103] [.sl (Ql a.h0.Syms),.arr 3,.arr 4]),(3,.arr false 12 (Qh a.h0.L)),(4,.arr false 3 (Qp a.h0.D))] }
def GF (a : Vu) : Ex × St := (.exit 0,{ n := 59,nx := 5,env := [(3,xi a.x3)],heap := [(0,.box [0,112,103] [.sl (Ql a.h0.Syms),.arr 3,.arr 4]),(3,.arr false 12 (Qh a.h0.L)),(4,.arr false 3 (Qp a.h0.D))] })
abbrev Qan := Je → Option Vu
def Y5 (L0 : Qam) (a : Je) : Option (Je ⊕ Vu) := (bif (decide (a.x4 < (((a.h0.L.length) : Nat) : Int))) then (bif (decide (0 ≤ a.x4 ∧ a.x4 < ((a.h0.L.length : Nat) : Int))) then ((a.h0.L[(Int.toNat a.x4)]?).bind fun e1 => (bif (decide (0 ≤ a.x4 ∧ a.x4 < (((a.h0.L.set (Int.toNat a.x4) (Qf.mk e1.S e1.Frag e1.Size a.x3 e1.Grown e1.Is e1.Value)).length : Nat) : Int))) then (((a.h0.L.set (Int.toNat a.x4) (Qf.mk e1.S e1.Frag e1.Size a.x3 e1.Grown e1.Is e1.Value))[(Int.toNat a.x4)]?).bind fun e2 => (((a.h0.L.set (Int.toNat a.x4) (Qf.mk e1.S e1.Frag e1.Size a.x3 e1.Grown e1.Is e1.Value))[(Int.toNat a.x4)]?).bind fun e3 => (bif (e3.S.Kind == 7) then ((L0 (J7.mk a.x3 a.x4 e2.Size (Qc.mk a.h0.Syms (a.h0.L.set (Int.toNat a.x4) (Qf.mk e1.S e1.Frag e1.Size a.x3 e1.Grown e1.Is e1.Value)) a.h0.D))).bind (fun (o4 : Vt) => (some (.inl (Je.mk o4.x3 (w64 (o4.x4 + 1)) o4.h0))))) else (((a.h0.L.set (Int.toNat a.x4) (Qf.mk e1.S e1.Frag e1.Size a.x3 e1.Grown e1.Is e1.Value))[(Int.toNat a.x4)]?).bind fun e5 => (bif e5.Grown then (some (.inl (Je.mk (w64 (a.x3 + 4)) (w64 (a.x4 + 1)) (Qc.mk a.h0.Syms (a.h0.L.set (Int.toNat a.x4) (Qf.mk e1.S e1.Frag e1.Size a.x3 e1.Grown e1.Is e1.Value)) a.h0.D)))) else (some (.inl (Je.mk (w64 (a.x3 + e2.Size)) (w64 (a.x4 + 1)) (Qc.mk a.h0.Syms (a.h0.L.set (Int.toNat a.x4) (Qf.mk e1.S e1.Frag e1.Size a.x3 e1.Grown e1.Is e1.Value)) a.h0.D))))))))) else none)) else none) else (some (.inr (Vu.mk a.x3 a.h0))))
noncomputable def JH : Qan := loopW (Y5 X0)
theorem JH.eq (a : Je) : JH a = (Y5 X0 a).bind (Sum.elim JH some) := QK _ _
noncomputable def Qgj (a : Je) : Pn True (lw 3 151) (Sum.elim (fun a => (Ex.norm,GE a)) GF) := (pH Qy a.h0.L (pA (decide (a.x4 < (((a.h0.L.length) : Nat) : Int))) (pG Qy a.h0.L a.x4 (pI Qy a.h0.L a.x4 fun e1 => (pZ ((Qh a.h0.L).set (Int.toNat a.x4) [xi e1.S.Line,xs e1.S.Label,xi e1.S.Kind,xi e1.S.Op,xs e1.S.Text,.sl (Jl e1.S.Args),xs e1.Frag,xi e1.Size,xi a.x3,xo e1.Grown,xo e1.Is,xi e1.Value]) (Qh (a.h0.L.set (Int.toNat a.x4) (Qf.mk e1.S e1.Frag e1.Size a.x3 e1.Grown e1.Is e1.Value))) (Uv a.h0.L (Int.toNat a.x4) (Qf.mk e1.S e1.Frag e1.Size a.x3 e1.Grown e1.Is e1.Value)) (pG Qy (a.h0.L.set (Int.toNat a.x4) (Qf.mk e1.S e1.Frag e1.Size a.x3 e1.Grown e1.Is e1.Value)) a.x4 (pI Qy (a.h0.L.set (Int.toNat a.x4) (Qf.mk e1.S e1.Frag e1.Size a.x3 e1.Grown e1.Is e1.Value)) a.x4 fun e2 => (pY (in1 a.x4 (((Qh (a.h0.L.set (Int.toNat a.x4) (Qf.mk e1.S e1.Frag e1.Size a.x3 e1.Grown e1.Is e1.Value))).length : Nat) : Int)) (fun g => (show (in1 a.x4 (((Qh (a.h0.L.set (Int.toNat a.x4) (Qf.mk e1.S e1.Frag e1.Size a.x3 e1.Grown e1.Is e1.Value))).length : Nat) : Int)) = (in1 a.x4 (((a.h0.L.set (Int.toNat a.x4) (Qf.mk e1.S e1.Frag e1.Size a.x3 e1.Grown e1.Is e1.Value)).length : Nat) : Int)) from (by rw [JD])).trans g.2) (pI Qy (a.h0.L.set (Int.toNat a.x4) (Qf.mk e1.S e1.Frag e1.Size a.x3 e1.Grown e1.Is e1.Value)) a.x4 fun e3 => (pA (e3.S.Kind == 7) (Qgi (J7.mk a.x3 a.x4 e2.Size (Qc.mk a.h0.Syms (a.h0.L.set (Int.toNat a.x4) (Qf.mk e1.S e1.Frag e1.Size a.x3 e1.Grown e1.Is e1.Value)) a.h0.D)) (fun o4 => (pR (.inl (Je.mk o4.x3 (w64 (o4.x4 + 1)) o4.h0))))) (pY (in1 a.x4 (((Qh (a.h0.L.set (Int.toNat a.x4) (Qf.mk e1.S e1.Frag e1.Size a.x3 e1.Grown e1.Is e1.Value))).length : Nat) : Int)) (fun g => (show (in1 a.x4 (((Qh (a.h0.L.set (Int.toNat a.x4) (Qf.mk e1.S e1.Frag e1.Size a.x3 e1.Grown e1.Is e1.Value))).length : Nat) : Int)) = (in1 a.x4 (((a.h0.L.set (Int.toNat a.x4) (Qf.mk e1.S e1.Frag e1.Size a.x3 e1.Grown e1.Is e1.Value)).length : Nat) : Int)) from (by rw [JD])).trans g.1.2) (pI Qy (a.h0.L.set (Int.toNat a.x4) (Qf.mk e1.S e1.Frag e1.Size a.x3 e1.Grown e1.Is e1.Value)) a.x4 fun e5 => (pA e5.Grown (pR (.inl (Je.mk (w64 (a.x3 + 4)) (w64 (a.x4 + 1)) (Qc.mk a.h0.Syms (a.h0.L.set (Int.toNat a.x4) (Qf.mk e1.S e1.Frag e1.Size a.x3 e1.Grown e1.Is e1.Value)) a.h0.D)))) (pR (.inl (Je.mk (w64 (a.x3 + e2.Size)) (w64 (a.x4 + 1)) (Qc.mk a.h0.Syms (a.h0.L.set (Int.toNat a.x4) (Qf.mk e1.S e1.Frag e1.Size a.x3 e1.Grown e1.Is e1.Value)) a.h0.D))))))))))) pF))) pF) (pR (.inr (Vu.mk a.x3 a.h0)))))
theorem JH.ok {a : Je} {r : Vu} (h : JH a = some r) : lw 3 151 (loopAt pp 151 3) (GE a) = some (GF r) := lpQ Qgj h
noncomputable abbrev Qgk {Γ : Prop} {ρ R : Type} {en : ρ → R} (a : Je) (k0 : Vu → Pn Γ (lw 3 151) en) : Pn Γ (lw 3 151) en := p1 (loopAt pp 151 3) (GE a) (JH a) GF (fun _ => JH.ok) k0
def FB (L0 : Qan) (h0 : Qc) : Option (Int × Qc) := ((L0 (Je.mk (0 : Int) (0 : Int) h0)).bind (fun (o1 : Vu) => (some (o1.x3,o1.h0))))
noncomputable def Vj : PQ := FB JH
theorem Vj.eq (h0 : Qc) : Vj h0 = FB JH h0 := rfl
noncomputable def QjQ (h0 : Qc) : Pn True (lw 3 151) Yp := (Qgk (Je.mk i0 i0 h0) (fun o1 => (pR (o1.x3,o1.h0))))
theorem Vj.ok {h0 : Qc} {r : (Int × Qc)} (h : Vj h0 = some r) : ww 151 [.ptr 0 0] [(0,.box [0,112,103] [.sl (Ql h0.Syms),.arr 1,.arr 2]),(1,.arr false 12 (Qh h0.L)),(2,.arr false 3 (Qp h0.D))] = some (Yp r) := fnQ (QjQ h0) h
noncomputable abbrev Qcy {Γ : Prop} {lp : Loops} {ρ R : Type} {en : ρ → R} (h0 : Qc) (k : (Int × Qc) → Pn Γ lp en) : Pn Γ lp en := pC (ww 151 [.ptr 0 0] [(0,.box [0,112,103] [.sl (Ql h0.Syms),.arr 1,.arr 2]),(1,.arr false 12 (Qh h0.L)),(2,.arr false 3 (Qp h0.D))]) (Vj h0) Yp (fun _ => Vj.ok) k
def Yq (r : ((List Qk) × Qc)) : AV × Heap := (.sl (Ql r.1),[(0,.box [0,112,103] [.sl (Ql r.2.Syms),.arr 3,.arr 4]),(3,.arr false 12 (Qh r.2.L)),(4,.arr false 3 (Qp r.2.D))])
abbrev Sn := Qc → Option ((List Qk) × Qc)
structure Jy where
 x4 : Int
 h0 : Qc
 r5 : (List Qk)
structure VE where
 h0 : Qc
 r5 : (List Qk)
def Ed (a : Jy) : St := { n := 127,nx := 6,env := [(0,.ptr 0 0),(3,.arr 5),(4,xi a.x4)],heap := [(0,.box [0,112,103] [.sl (Ql a.h0.Syms),.arr 3,.arr 4]),(3,.arr false 12 (Qh a.h0.L)),(4,.arr false 3 (Qp a.h0.D)),(5,.arr true 2 (Ql a.r5))] }
def Ee (a : VE) : Ex × St := (.exit 0,{ n := 127,nx := 6,env := [(0,.ptr 0 0),(3,.arr 5)],heap := [(0,.box [0,112,103] [.sl (Ql a.h0.Syms),.arr 3,.arr 4]),(3,.arr false 12 (Qh a.h0.L)),(4,.arr false 3 (Qp a.h0.D)),(5,.arr true 2 (Ql a.r5))] })
abbrev Qbb := Jy → Option VE
def Zr (a : Jy) : Option (Jy ⊕ VE) := (bif (decide (a.x4 < (((a.h0.L.length) : Nat) : Int))) then (bif (decide (0 ≤ a.x4 ∧ a.x4 < ((a.h0.L.length : Nat) : Int))) then ((a.h0.L[(Int.toNat a.x4)]?).bind fun e1 => (bif (decide (0 ≤ a.x4 ∧ a.x4 < (((a.h0.L.set (Int.toNat a.x4) (Qf.mk e1.S e1.Frag e1.Size e1.At e1.Grown false e1.Value)).length : Nat) : Int))) then (((a.h0.L.set (Int.toNat a.x4) (Qf.mk e1.S e1.Frag e1.Size e1.At e1.Grown false e1.Value))[(Int.toNat a.x4)]?).bind fun e2 => (bif (!(eqS e2.S.Label s_)) then (((a.h0.L.set (Int.toNat a.x4) (Qf.mk e1.S e1.Frag e1.Size e1.At e1.Grown false e1.Value))[(Int.toNat a.x4)]?).bind fun e3 => (((a.h0.L.set (Int.toNat a.x4) (Qf.mk e1.S e1.Frag e1.Size e1.At e1.Grown false e1.Value))[(Int.toNat a.x4)]?).bind fun e4 => (bif (decide ((a.r5.length + [(Qk.mk e3.S.Label e4.At)].length) * 24 ≤ most)) then (some (.inl (Jy.mk (w64 (a.x4 + 1)) (Qc.mk a.h0.Syms (a.h0.L.set (Int.toNat a.x4) (Qf.mk e1.S e1.Frag e1.Size e1.At e1.Grown false e1.Value)) a.h0.D) (a.r5 ++ [(Qk.mk e3.S.Label e4.At)])))) else none))) else (some (.inl (Jy.mk (w64 (a.x4 + 1)) (Qc.mk a.h0.Syms (a.h0.L.set (Int.toNat a.x4) (Qf.mk e1.S e1.Frag e1.Size e1.At e1.Grown false e1.Value)) a.h0.D) a.r5))))) else none)) else none) else (some (.inr (VE.mk a.h0 a.r5))))
noncomputable def JT : Qbb := loopW (Zr )
theorem JT.eq (a : Jy) : JT a = (Zr a).bind (Sum.elim JT some) := QK _ _
noncomputable def QhJ (a : Jy) : Pn True (lw 3 152) (Sum.elim (fun a => (Ex.norm,Ed a)) Ee) := (pH Qy a.h0.L (pA (decide (a.x4 < (((a.h0.L.length) : Nat) : Int))) (pG Qy a.h0.L a.x4 (pI Qy a.h0.L a.x4 fun e1 => (pZ ((Qh a.h0.L).set (Int.toNat a.x4) [xi e1.S.Line,xs e1.S.Label,xi e1.S.Kind,xi e1.S.Op,xs e1.S.Text,.sl (Jl e1.S.Args),xs e1.Frag,xi e1.Size,xi e1.At,xo e1.Grown,xo false,xi e1.Value]) (Qh (a.h0.L.set (Int.toNat a.x4) (Qf.mk e1.S e1.Frag e1.Size e1.At e1.Grown false e1.Value))) (Uv a.h0.L (Int.toNat a.x4) (Qf.mk e1.S e1.Frag e1.Size e1.At e1.Grown false e1.Value)) (pG Qy (a.h0.L.set (Int.toNat a.x4) (Qf.mk e1.S e1.Frag e1.Size e1.At e1.Grown false e1.Value)) a.x4 (pI Qy (a.h0.L.set (Int.toNat a.x4) (Qf.mk e1.S e1.Frag e1.Size e1.At e1.Grown false e1.Value)) a.x4 fun e2 => (pA (!(eqS e2.S.Label s_)) (pY (in1 a.x4 (((Qh (a.h0.L.set (Int.toNat a.x4) (Qf.mk e1.S e1.Frag e1.Size e1.At e1.Grown false e1.Value))).length : Nat) : Int)) (fun g => (show (in1 a.x4 (((Qh (a.h0.L.set (Int.toNat a.x4) (Qf.mk e1.S e1.Frag e1.Size e1.At e1.Grown false e1.Value))).length : Nat) : Int)) = (in1 a.x4 (((a.h0.L.set (Int.toNat a.x4) (Qf.mk e1.S e1.Frag e1.Size e1.At e1.Grown false e1.Value)).length : Nat) : Int)) from (by rw [JD])).trans g.1.2) (pI Qy (a.h0.L.set (Int.toNat a.x4) (Qf.mk e1.S e1.Frag e1.Size e1.At e1.Grown false e1.Value)) a.x4 fun e3 => (pY (in1 a.x4 (((Qh (a.h0.L.set (Int.toNat a.x4) (Qf.mk e1.S e1.Frag e1.Size e1.At e1.Grown false e1.Value))).length : Nat) : Int)) (fun g => (show (in1 a.x4 (((Qh (a.h0.L.set (Int.toNat a.x4) (Qf.mk e1.S e1.Frag e1.Size e1.At e1.Grown false e1.Value))).length : Nat) : Int)) = (in1 a.x4 (((a.h0.L.set (Int.toNat a.x4) (Qf.mk e1.S e1.Frag e1.Size e1.At e1.Grown false e1.Value)).length : Nat) : Int)) from (by rw [JD])).trans g.1.2) (pI Qy (a.h0.L.set (Int.toNat a.x4) (Qf.mk e1.S e1.Frag e1.Size e1.At e1.Grown false e1.Value)) a.x4 fun e4 => (pZ [[xs e3.S.Label,xi e4.At]] (Ql [(Qk.mk e3.S.Label e4.At)]) (E6 [(Qk.mk e3.S.Label e4.At)]) (pQ Yy 24 a.r5 [(Qk.mk e3.S.Label e4.At)] (pR (.inl (Jy.mk (w64 (a.x4 + 1)) (Qc.mk a.h0.Syms (a.h0.L.set (Int.toNat a.x4) (Qf.mk e1.S e1.Frag e1.Size e1.At e1.Grown false e1.Value)) a.h0.D) (a.r5 ++ [(Qk.mk e3.S.Label e4.At)])))))))))) (pR (.inl (Jy.mk (w64 (a.x4 + 1)) (Qc.mk a.h0.Syms (a.h0.L.set (Int.toNat a.x4) (Qf.mk e1.S e1.Frag e1.Size e1.At e1.Grown false e1.Value)) a.h0.D) a.r5))))) pF))) pF) (pR (.inr (VE.mk a.h0 a.r5)))))
theorem JT.ok {a : Jy} {r : VE} (h : JT a = some r) : lw 3 152 (loopAt pp 152 3) (Ed a) = some (Ee r) := lpQ QhJ h
noncomputable abbrev QhK {Γ : Prop} {ρ R : Type} {en : ρ → R} (a : Jy) (k0 : VE → Pn Γ (lw 3 152) en) : Pn Γ (lw 3 152) en := p1 (loopAt pp 152 3) (Ed a) (JT a) Ee (fun _ => JT.ok) k0
structure Q3 where
 x5 : Bool
 x6 : Int
 h0 : Qc
 r5 : (List Qk)
structure VF where
 x5 : Bool
 h0 : Qc
 r5 : (List Qk)
def Ef (a : Q3) : St := { n := 127,nx := 6,env := [(0,.ptr 0 0),(3,.arr 5),(5,xo a.x5),(6,xi a.x6)],heap := [(0,.box [0,112,103] [.sl (Ql a.h0.Syms),.arr 3,.arr 4]),(3,.arr false 12 (Qh a.h0.L)),(4,.arr false 3 (Qp a.h0.D)),(5,.arr true 2 (Ql a.r5))] }
def Eg (a : VF) : Ex × St := (.exit 4,{ n := 127,nx := 6,env := [(0,.ptr 0 0),(3,.arr 5),(5,xo a.x5)],heap := [(0,.box [0,112,103] [.sl (Ql a.h0.Syms),.arr 3,.arr 4]),(3,.arr false 12 (Qh a.h0.L)),(4,.arr false 3 (Qp a.h0.D)),(5,.arr true 2 (Ql a.r5))] })
abbrev Qbc := Q3 → Option VF
def Zs (C0 : ZE) (a : Q3) : Option (Q3 ⊕ VF) := (bif (decide (a.x6 < (((a.h0.L.length) : Nat) : Int))) then (bif (decide (0 ≤ a.x6 ∧ a.x6 < ((a.h0.L.length : Nat) : Int))) then ((a.h0.L[(Int.toNat a.x6)]?).bind fun e1 => (bif (e1.S.Kind != 9) then (some (.inl (Q3.mk a.x5 (w64 (a.x6 + 1)) a.h0 a.r5))) else (bif e1.Is then (some (.inl (Q3.mk a.x5 (w64 (a.x6 + 1)) a.h0 a.r5))) else ((e1.S.Args[(Int.toNat 0)]?).bind fun e2 => ((C0 e2.E e1.At a.r5).bind fun r3 => (bif (r3.2 == 0) then ((a.h0.L[(Int.toNat a.x6)]?).bind fun e4 => (bif (decide (0 ≤ a.x6 ∧ a.x6 < (((a.h0.L.set (Int.toNat a.x6) (Qf.mk e4.S e4.Frag e4.Size e4.At e4.Grown true e4.Value)).length : Nat) : Int))) then (((a.h0.L.set (Int.toNat a.x6) (Qf.mk e4.S e4.Frag e4.Size e4.At e4.Grown true e4.Value))[(Int.toNat a.x6)]?).bind fun e5 => (bif (decide ((a.r5.length + [(Qk.mk e1.S.Text r3.1)].length) * 24 ≤ most)) then (some (.inl (Q3.mk true (w64 (a.x6 + 1)) (Qc.mk a.h0.Syms ((a.h0.L.set (Int.toNat a.x6) (Qf.mk e4.S e4.Frag e4.Size e4.At e4.Grown true e4.Value)).set (Int.toNat a.x6) (Qf.mk e5.S e5.Frag e5.Size e5.At e5.Grown e5.Is r3.1)) a.h0.D) (a.r5 ++ [(Qk.mk e1.S.Text r3.1)])))) else none)) else none)) else (some (.inl (Q3.mk a.x5 (w64 (a.x6 + 1)) a.h0 a.r5))))))))) else none) else (some (.inr (VF.mk a.x5 a.h0 a.r5))))
noncomputable def Uc : Qbc := loopW (Zs Q1)
theorem Uc.eq (a : Q3) : Uc a = (Zs Q1 a).bind (Sum.elim Uc some) := QK _ _
noncomputable def QhL (a : Q3) : Pn True (lw 3 152) (Sum.elim (fun a => (Ex.norm,Ef a)) Eg) := (pH Qy a.h0.L (pA (decide (a.x6 < (((a.h0.L.length) : Nat) : Int))) (pG Qy a.h0.L a.x6 (pI Qy a.h0.L a.x6 fun e1 => (let u172 := (e1.S.Kind != 9); pA u172 (pYN 2 u172 (fun g => g.2) (pU true rfl (pR (.inl (Q3.mk a.x5 (w64 (a.x6 + 1)) a.h0 a.r5))))) (pNN 2 u172 (fun g => g.2) (pA e1.Is (pR (.inl (Q3.mk a.x5 (w64 (a.x6 + 1)) a.h0 a.r5))) (pU (decide (0 ≤ i0)) rfl (pI Zk e1.S.Args i0 fun e2 => (Qdd e2.E e1.At a.r5 fun r3 => (pA (r3.2 == 0) (pY (in1 a.x6 (((Qh a.h0.L).length : Nat) : Int)) (fun g => (show (in1 a.x6 (((Qh a.h0.L).length : Nat) : Int)) = (in1 a.x6 ((a.h0.L.length : Nat) : Int)) from (by rw [JD])).trans g.1.1.1.2) (pI Qy a.h0.L a.x6 fun e4 => (pZ ((Qh a.h0.L).set (Int.toNat a.x6) [xi e4.S.Line,xs e4.S.Label,xi e4.S.Kind,xi e4.S.Op,xs e4.S.Text,.sl (Jl e4.S.Args),xs e4.Frag,xi e4.Size,xi e4.At,xo e4.Grown,xo true,xi e4.Value]) (Qh (a.h0.L.set (Int.toNat a.x6) (Qf.mk e4.S e4.Frag e4.Size e4.At e4.Grown true e4.Value))) (Uv a.h0.L (Int.toNat a.x6) (Qf.mk e4.S e4.Frag e4.Size e4.At e4.Grown true e4.Value)) (pG Qy (a.h0.L.set (Int.toNat a.x6) (Qf.mk e4.S e4.Frag e4.Size e4.At e4.Grown true e4.Value)) a.x6 (pI Qy (a.h0.L.set (Int.toNat a.x6) (Qf.mk e4.S e4.Frag e4.Size e4.At e4.Grown true e4.Value)) a.x6 fun e5 => (pZ ((Qh (a.h0.L.set (Int.toNat a.x6) (Qf.mk e4.S e4.Frag e4.Size e4.At e4.Grown true e4.Value))).set (Int.toNat a.x6) [xi e5.S.Line,xs e5.S.Label,xi e5.S.Kind,xi e5.S.Op,xs e5.S.Text,.sl (Jl e5.S.Args),xs e5.Frag,xi e5.Size,xi e5.At,xo e5.Grown,xo e5.Is,xi r3.1]) (Qh ((a.h0.L.set (Int.toNat a.x6) (Qf.mk e4.S e4.Frag e4.Size e4.At e4.Grown true e4.Value)).set (Int.toNat a.x6) (Qf.mk e5.S e5.Frag e5.Size e5.At e5.Grown e5.Is r3.1))) (Uv (a.h0.L.set (Int.toNat a.x6) (Qf.mk e4.S e4.Frag e4.Size e4.At e4.Grown true e4.Value)) (Int.toNat a.x6) (Qf.mk e5.S e5.Frag e5.Size e5.At e5.Grown e5.Is r3.1)) (pZ [[xs e1.S.Text,xi r3.1]] (Ql [(Qk.mk e1.S.Text r3.1)]) (E6 [(Qk.mk e1.S.Text r3.1)]) (pQ Yy 24 a.r5 [(Qk.mk e1.S.Text r3.1)] (pR (.inl (Q3.mk true (w64 (a.x6 + 1)) (Qc.mk a.h0.Syms ((a.h0.L.set (Int.toNat a.x6) (Qf.mk e4.S e4.Frag e4.Size e4.At e4.Grown true e4.Value)).set (Int.toNat a.x6) (Qf.mk e5.S e5.Frag e5.Size e5.At e5.Grown e5.Is r3.1)) a.h0.D) (a.r5 ++ [(Qk.mk e1.S.Text r3.1)])))))))) pF)))) (pR (.inl (Q3.mk a.x5 (w64 (a.x6 + 1)) a.h0 a.r5))))))))))) pF) (pR (.inr (VF.mk a.x5 a.h0 a.r5)))))
theorem Uc.ok {a : Q3} {r : VF} (h : Uc a = some r) : lw 3 152 (loopAt pp 152 12) (Ef a) = some (Eg r) := lpQ QhL h
noncomputable abbrev QhM {Γ : Prop} {ρ R : Type} {en : ρ → R} (a : Q3) (k0 : VF → Pn Γ (lw 3 152) en) : Pn Γ (lw 3 152) en := p1 (loopAt pp 152 12) (Ef a) (Uc a) Eg (fun _ => Uc.ok) k0
structure JX where
 x5 : Bool
 h0 : Qc
 r5 : (List Qk)
structure VG where
 h0 : Qc
 r5 : (List Qk)
def Eh (a : JX) : St := { n := 127,nx := 6,env := [(0,.ptr 0 0),(3,.arr 5),(5,xo a.x5)],heap := [(0,.box [0,112,103] [.sl (Ql a.h0.Syms),.arr 3,.arr 4]),(3,.arr false 12 (Qh a.h0.L)),(4,.arr false 3 (Qp a.h0.D)),(5,.arr true 2 (Ql a.r5))] }
def Ei (a : VG) : Ex × St := (.exit 2,{ n := 127,nx := 6,env := [(3,.arr 5)],heap := [(0,.box [0,112,103] [.sl (Ql a.h0.Syms),.arr 3,.arr 4]),(3,.arr false 12 (Qh a.h0.L)),(4,.arr false 3 (Qp a.h0.D)),(5,.arr true 2 (Ql a.r5))] })
abbrev Qbd := JX → Option VG
def Ej (L0 : Qbc) (a : JX) : Option (JX ⊕ VG) := (bif a.x5 then ((L0 (Q3.mk false (0 : Int) a.h0 a.r5)).bind (fun (o1 : VF) => (some (.inl (JX.mk o1.x5 o1.h0 o1.r5))))) else (some (.inr (VG.mk a.h0 a.r5))))
noncomputable def Uy : Qbd := loopW (Ej Uc)
theorem Uy.eq (a : JX) : Uy a = (Ej Uc a).bind (Sum.elim Uy some) := QK _ _
noncomputable def QhN (a : JX) : Pn True (lw 3 152) (Sum.elim (fun a => (Ex.norm,Eh a)) Ei) := (pA a.x5 (QhM (Q3.mk false i0 a.h0 a.r5) (fun o1 => (pR (.inl (JX.mk o1.x5 o1.h0 o1.r5))))) (pR (.inr (VG.mk a.h0 a.r5))))
theorem Uy.ok {a : JX} {r : VG} (h : Uy a = some r) : lw 3 152 (loopAt pp 152 9) (Eh a) = some (Ei r) := lpQ QhN h
noncomputable abbrev QhO {Γ : Prop} {ρ R : Type} {en : ρ → R} (a : JX) (k0 : VG → Pn Γ (lw 3 152) en) : Pn Γ (lw 3 152) en := p1 (loopAt pp 152 9) (Eh a) (Uy a) Ei (fun _ => Uy.ok) k0
def PR (L0 : Qbb) (L1 : Qbd) (h0 : Qc) : Option ((List Qk) × Qc) := (bif (decide ((([] : List Qk).length + h0.Syms.length) * 24 ≤ most)) then ((L0 (Jy.mk (0 : Int) h0 (([] : List Qk) ++ h0.Syms))).bind (fun (o1 : VE) => ((L1 (JX.mk true o1.h0 o1.r5)).bind (fun (o2 : VG) => (some (o2.r5,o2.h0)))))) else none)
noncomputable def VP : Sn := PR JT Uy
theorem VP.eq (h0 : Qc) : VP h0 = PR JT Uy h0 := rfl
noncomputable def Qk5 (h0 : Qc) : Pn True (lw 3 152) Yq := (pZ [] (Ql ([] : List Qk)) (E6 ([] : List Qk)) (pQ Yy 24 ([] : List Qk) h0.Syms (QhK (Jy.mk i0 h0 (([] : List Qk) ++ h0.Syms)) (fun o1 => (QhO (JX.mk true o1.h0 o1.r5) (fun o2 => (pR (o2.r5,o2.h0))))))))
theorem VP.ok {h0 : Qc} {r : ((List Qk) × Qc)} (h : VP h0 = some r) : ww 152 [.ptr 0 0] [(0,.box [0,112,103] [.sl (Ql h0.Syms),.arr 1,.arr 2]),(1,.arr false 12 (Qh h0.L)),(2,.arr false 3 (Qp h0.D))] = some (Yq r) := fnQ (Qk5 h0) h
noncomputable abbrev Qdg {Γ : Prop} {lp : Loops} {ρ R : Type} {en : ρ → R} (h0 : Qc) (k : ((List Qk) × Qc) → Pn Γ lp en) : Pn Γ lp en := pC (ww 152 [.ptr 0 0] [(0,.box [0,112,103] [.sl (Ql h0.Syms),.arr 1,.arr 2]),(1,.arr false 12 (Qh h0.L)),(2,.arr false 3 (Qp h0.D))]) (VP h0) Yq (fun _ => VP.ok) k
def YI (r : (Bool × Qc)) : AV × Heap := (xo r.1,[(0,.box [0,112,103] [.sl (Ql r.2.Syms),.arr 3,.arr 4]),(3,.arr false 12 (Qh r.2.L)),(4,.arr false 3 (Qp r.2.D))])
abbrev Qf3 := (List Qk) → Qc → Option (Bool × Qc)
structure QZ where
 x1 : (List Qk)
 x5 : Bool
 x6 : Int
 h0 : Qc
structure Wa where
 x5 : Bool
 h0 : Qc
def EP (a : QZ) : St := { n := 70,nx := 5,env := [(0,.ptr 0 0),(1,.sl (Ql a.x1)),(5,xo a.x5),(6,xi a.x6)],heap := [(0,.box [0,112,103] [.sl (Ql a.h0.Syms),.arr 3,.arr 4]),(3,.arr false 12 (Qh a.h0.L)),(4,.arr false 3 (Qp a.h0.D))] }
def EQ (a : Wa) : Ex × St := (.exit 0,{ n := 70,nx := 5,env := [(5,xo a.x5)],heap := [(0,.box [0,112,103] [.sl (Ql a.h0.Syms),.arr 3,.arr 4]),(3,.arr false 12 (Qh a.h0.L)),(4,.arr false 3 (Qp a.h0.D))] })
abbrev Qcz := QZ → Option Wa
def ZN (C0 : ZE) (C1 : QlO) (a : QZ) : Option (QZ ⊕ Wa) := (bif (decide (a.x6 < (((a.h0.L.length) : Nat) : Int))) then (bif (decide (0 ≤ a.x6 ∧ a.x6 < ((a.h0.L.length : Nat) : Int))) then ((a.h0.L[(Int.toNat a.x6)]?).bind fun e1 => (bif (e1.S.Kind != 2) then (some (.inl (QZ.mk a.x1 a.x5 (w64 (a.x6 + 1)) a.h0))) else (bif e1.Grown then (some (.inl (QZ.mk a.x1 a.x5 (w64 (a.x6 + 1)) a.h0))) else (bif (decide (0 ≤ (w64 ((((e1.S.Args.length) : Nat) : Int) - 1)))) then ((e1.S.Args[(Int.toNat (w64 ((((e1.S.Args.length) : Nat) : Int) - 1)))]?).bind fun e2 => ((C0 e2.E e1.At a.x1).bind fun r3 => (bif (r3.2 == 0) then ((C1 s_T8 (w64 (r3.1 - e1.At))).bind fun r4 => (bif (!r4) then ((a.h0.L[(Int.toNat a.x6)]?).bind fun e5 => (some (.inl (QZ.mk a.x1 true (w64 (a.x6 + 1)) (Qc.mk a.h0.Syms (a.h0.L.set (Int.toNat a.x6) (Qf.mk e5.S e5.Frag e5.Size e5.At true e5.Is e5.Value)) a.h0.D))))) else (some (.inl (QZ.mk a.x1 a.x5 (w64 (a.x6 + 1)) a.h0))))) else (some (.inl (QZ.mk a.x1 a.x5 (w64 (a.x6 + 1)) a.h0)))))) else none)))) else none) else (some (.inr (Wa.mk a.x5 a.h0))))
noncomputable def Us : Qcz := loopW (ZN Q1 QV)
theorem Us.eq (a : QZ) : Us a = (ZN Q1 QV a).bind (Sum.elim Us some) := QK _ _
noncomputable def QiH (a : QZ) : Pn True (lw 3 153) (Sum.elim (fun a => (Ex.norm,EP a)) EQ) := (pH Qy a.h0.L (pA (decide (a.x6 < (((a.h0.L.length) : Nat) : Int))) (pG Qy a.h0.L a.x6 (pI Qy a.h0.L a.x6 fun e1 => (let u174 := (e1.S.Kind != 2); pA u174 (pYN 2 u174 (fun g => g.2) (pU true rfl (pR (.inl (QZ.mk a.x1 a.x5 (w64 (a.x6 + 1)) a.h0))))) (pNN 2 u174 (fun g => g.2) (pA e1.Grown (pR (.inl (QZ.mk a.x1 a.x5 (w64 (a.x6 + 1)) a.h0))) (pH Zk e1.S.Args (pA (decide (0 ≤ (w64 ((((e1.S.Args.length) : Nat) : Int) - 1)))) (pI Zk e1.S.Args (w64 ((((e1.S.Args.length) : Nat) : Int) - 1)) fun e2 => (Qdd e2.E e1.At a.x1 fun r3 => (let u173 := (r3.2 == 0); pA u173 (pYN 4 u173 (fun g => g.2) (Qo9 s_T8 (w64 (r3.1 - e1.At)) fun r4 => (pYN 2 u173 (fun g => g.2) (pA (!r4) (pY (in1 a.x6 (((Qh a.h0.L).length : Nat) : Int)) (fun g => (show (in1 a.x6 (((Qh a.h0.L).length : Nat) : Int)) = (in1 a.x6 ((a.h0.L.length : Nat) : Int)) from (by rw [JD])).trans g.1.1.1.1.1.2) (pI Qy a.h0.L a.x6 fun e5 => (pZ ((Qh a.h0.L).set (Int.toNat a.x6) [xi e5.S.Line,xs e5.S.Label,xi e5.S.Kind,xi e5.S.Op,xs e5.S.Text,.sl (Jl e5.S.Args),xs e5.Frag,xi e5.Size,xi e5.At,xo true,xo e5.Is,xi e5.Value]) (Qh (a.h0.L.set (Int.toNat a.x6) (Qf.mk e5.S e5.Frag e5.Size e5.At true e5.Is e5.Value))) (Uv a.h0.L (Int.toNat a.x6) (Qf.mk e5.S e5.Frag e5.Size e5.At true e5.Is e5.Value)) (pR (.inl (QZ.mk a.x1 true (w64 (a.x6 + 1)) (Qc.mk a.h0.Syms (a.h0.L.set (Int.toNat a.x6) (Qf.mk e5.S e5.Frag e5.Size e5.At true e5.Is e5.Value)) a.h0.D))))))) (pR (.inl (QZ.mk a.x1 a.x5 (w64 (a.x6 + 1)) a.h0))))))) (pNN 6 u173 (fun g => g.2) (pV false rfl (pR (.inl (QZ.mk a.x1 a.x5 (w64 (a.x6 + 1)) a.h0)))))))) pF)))))) pF) (pR (.inr (Wa.mk a.x5 a.h0)))))
theorem Us.ok {a : QZ} {r : Wa} (h : Us a = some r) : lw 3 153 (loopAt pp 153 3) (EP a) = some (EQ r) := lpQ QiH h
noncomputable abbrev QiI {Γ : Prop} {ρ R : Type} {en : ρ → R} (a : QZ) (k0 : Wa → Pn Γ (lw 3 153) en) : Pn Γ (lw 3 153) en := p1 (loopAt pp 153 3) (EP a) (Us a) EQ (fun _ => Us.ok) k0
def So (L0 : Qcz) (a1 : (List Qk)) (h0 : Qc) : Option (Bool × Qc) := ((L0 (QZ.mk a1 false (0 : Int) h0)).bind (fun (o1 : Wa) => (some (o1.x5,o1.h0))))
noncomputable def Xo : Qf3 := So Us
theorem Xo.eq (a1 : (List Qk)) (h0 : Qc) : Xo a1 h0 = So Us a1 h0 := rfl
noncomputable def Ql7 (a1 : (List Qk)) (h0 : Qc) : Pn True (lw 3 153) YI := (QiI (QZ.mk a1 false i0 h0) (fun o1 => (pR (o1.x5,o1.h0))))
theorem Xo.ok {a1 : (List Qk)} {h0 : Qc} {r : (Bool × Qc)} (h : Xo a1 h0 = some r) : ww 153 [.ptr 0 0,.sl (Ql a1)] [(0,.box [0,112,103] [.sl (Ql h0.Syms),.arr 1,.arr 2]),(1,.arr false 12 (Qh h0.L)),(2,.arr false 3 (Qp h0.D))] = some (YI r) := fnQ (Ql7 a1 h0) h
noncomputable abbrev Ql8 {Γ : Prop} {lp : Loops} {ρ R : Type} {en : ρ → R} (a1 : (List Qk)) (h0 : Qc) (k : (Bool × Qc) → Pn Γ lp en) : Pn Γ lp en := pC (ww 153 [.ptr 0 0,.sl (Ql a1)] [(0,.box [0,112,103] [.sl (Ql h0.Syms),.arr 1,.arr 2]),(1,.arr false 12 (Qh h0.L)),(2,.arr false 3 (Qp h0.D))]) (Xo a1 h0) YI (fun _ => Xo.ok) k
abbrev QhP := Qc → Option ((List Qk) × Qc)
structure Uz where
 x3 : Int
 x4 : (List Qk)
 h0 : Qc
structure WG where
 x3 : Int
 x4 : (List Qk)
 h0 : Qc
def FC (a : Uz) : St := { n := 21,nx := 5,env := [(0,.ptr 0 0),(3,xi a.x3),(4,.sl (Ql a.x4))],heap := [(0,.box [0,112,103] [.sl (Ql a.h0.Syms),.arr 3,.arr 4]),(3,.arr false 12 (Qh a.h0.L)),(4,.arr false 3 (Qp a.h0.D))] }
def FD (a : WG) : Ex × St := (.exit 0,{ n := 21,nx := 5,env := [(0,.ptr 0 0),(3,xi a.x3),(4,.sl (Ql a.x4))],heap := [(0,.box [0,112,103] [.sl (Ql a.h0.Syms),.arr 3,.arr 4]),(3,.arr false 12 (Qh a.h0.L)),(4,.arr false 3 (Qp a.h0.D))] })
abbrev Qdh := Uz → Option WG
def FE (C0 : Qf3) (C1 : PQ) (C2 : Sn) (a : Uz) : Option (Uz ⊕ WG) := ((C0 a.x4 a.h0).bind fun r1 => (bif r1.1 then ((C1 r1.2).bind fun r2 => ((C2 r2.2).bind fun r3 => (some (.inl (Uz.mk r2.1 r3.1 r3.2))))) else (some (.inr (WG.mk a.x3 a.x4 r1.2)))))
noncomputable def VZ : Qdh := loopW (FE Xo Vj VP)
theorem VZ.eq (a : Uz) : VZ a = (FE Xo Vj VP a).bind (Sum.elim VZ some) := QK _ _
noncomputable def QjR (a : Uz) : Pn True (lw 3 97) (Sum.elim (fun a => (Ex.norm,FC a)) FD) := (Ql8 a.x4 a.h0 fun r1 => (pA r1.1 (Qcy r1.2 fun r2 => (Qdg r2.2 fun r3 => (pR (.inl (Uz.mk r2.1 r3.1 r3.2))))) (pR (.inr (WG.mk a.x3 a.x4 r1.2)))))
theorem VZ.ok {a : Uz} {r : WG} (h : VZ a = some r) : lw 3 97 (loopAt pp 97 3) (FC a) = some (FD r) := lpQ QjR h
noncomputable abbrev QjS {Γ : Prop} {ρ R : Type} {en : ρ → R} (a : Uz) (k0 : WG → Pn Γ (lw 3 97) en) : Pn Γ (lw 3 97) en := p1 (loopAt pp 97 3) (FC a) (VZ a) FD (fun _ => VZ.ok) k0
def QaR (C0 : PQ) (C1 : Sn) (C2 : Ze) (L3 : Qdh) (h0 : Qc) : Option ((List Qk) × Qc) := ((C0 h0).bind fun r1 => ((C1 r1.2).bind fun r2 => ((L3 (Uz.mk r1.1 r2.1 r2.2)).bind (fun (o3 : WG) => (bif (decide (o3.x3 > 4096)) then ((C2 s_ (0 : Int) (8 : Int) o3.h0).bind fun r4 => (some (o3.x4,r4))) else (some (o3.x4,o3.h0)))))))
noncomputable def XK : QhP := QaR Vj VP VW VZ
theorem XK.eq (h0 : Qc) : XK h0 = QaR Vj VP VW VZ h0 := rfl
noncomputable def Qod (h0 : Qc) : Pn True (lw 3 97) Yq := (Qcy h0 fun r1 => (Qdg r1.2 fun r2 => (QjS (Uz.mk r1.1 r2.1 r2.2) (fun o3 => (pA (decide (o3.x3 > 4096)) (VX s_ i0 (zi 8) o3.h0 fun r4 => (pR (o3.x4,r4))) (pR (o3.x4,o3.h0)))))))
theorem XK.ok {h0 : Qc} {r : ((List Qk) × Qc)} (h : XK h0 = some r) : ww 97 [.ptr 0 0] [(0,.box [0,112,103] [.sl (Ql h0.Syms),.arr 1,.arr 2]),(1,.arr false 12 (Qh h0.L)),(2,.arr false 3 (Qp h0.D))] = some (Yq r) := fnQ (Qod h0) h
noncomputable abbrev QaS {Γ : Prop} {lp : Loops} {ρ R : Type} {en : ρ → R} (h0 : Qc) (k : ((List Qk) × Qc) → Pn Γ lp en) : Pn Γ lp en := pC (ww 97 [.ptr 0 0] [(0,.box [0,112,103] [.sl (Ql h0.Syms),.arr 1,.arr 2]),(1,.arr false 12 (Qh h0.L)),(2,.arr false 3 (Qp h0.D))]) (XK h0) Yq (fun _ => XK.ok) k
abbrev Qin := (List ByteArray) → ByteArray → Option Bool
structure Xp where
 x0 : (List ByteArray)
 x1 : ByteArray
 x5 : Int
def QdJ (a : Xp) : St := { n := 18,nx := 0,env := [(0,.sl (Qr a.x0)),(1,xs a.x1),(5,xi a.x5)],heap := [] }
def QhQ (a : Bool) : Ex × St := (.ret,{ n := 18,nx := 0,env := [(4,xo a)],heap := [] })
def QhR (a : Unit) : Ex × St := (.exit 0,{ n := 18,nx := 0,env := [],heap := [] })
def Qji : (Bool ⊕ Unit) → Ex × St := Sum.elim QhQ QhR
abbrev Qk6 := Xp → Option (Bool ⊕ Unit)
def QqZ (a : Xp) : Option (Xp ⊕ (Bool ⊕ Unit)) := (bif (decide (a.x5 < (((a.x0.length) : Nat) : Int))) then (bif (decide (0 ≤ a.x5)) then ((a.x0[(Int.toNat a.x5)]?).bind fun e1 => (bif (eqS e1 a.x1) then (some (.inr (.inl true))) else (some (.inl (Xp.mk a.x0 a.x1 (w64 (a.x5 + 1))))))) else none) else (some (.inr (.inr ()))))
noncomputable def Qao : Qk6 := loopW (QqZ )
noncomputable def Qq0 (a : Xp) : Pn True (lw 0 232) (Sum.elim (fun a => (Ex.norm,QdJ a)) Qji) := (pH Qv a.x0 (pA (decide (a.x5 < (((a.x0.length) : Nat) : Int))) (pA (decide (0 ≤ a.x5)) (pI Qv a.x0 a.x5 fun e1 => (pA (eqS e1 a.x1) (pR (.inr (.inl true))) (pR (.inl (Xp.mk a.x0 a.x1 (w64 (a.x5 + 1))))))) pF) (pR (.inr (.inr ())))))
theorem Qao.ok {a : Xp} {r : (Bool ⊕ Unit)} (h : Qao a = some r) : lw 0 232 (loopAt pp 232 2) (QdJ a) = some (Qji r) := lpQ Qq0 h
noncomputable abbrev Qq1 {Γ : Prop} {ρ R : Type} {en : ρ → R} (a : Xp) (k0 : Bool → Pn Γ (lw 0 232) en) (k1 : Unit → Pn Γ (lw 0 232) en) : Pn Γ (lw 0 232) en := p2 (loopAt pp 232 2) (QdJ a) (Qao a) QhQ QhR (fun _ => Qao.ok) k0 k1
def QvT (L0 : Qk6) (a0 : (List ByteArray)) (a1 : ByteArray) : Option Bool := ((L0 (Xp.mk a0 a1 (0 : Int))).bind fun x => Sum.elim (fun (o1 : Bool) => (some o1)) (fun (o2 : Unit) => (some false)) x)
noncomputable def QhS : Qin := QvT Qao
noncomputable def QvU (a0 : (List ByteArray)) (a1 : ByteArray) : Pn True (lw 0 232) QF := (Qq1 (Xp.mk a0 a1 i0) (fun o1 => (pR o1)) (fun o2 => (pR false)))
theorem QhS.ok {a0 : (List ByteArray)} {a1 : ByteArray} {r : Bool} (h : QhS a0 a1 = some r) : ww 232 [.sl (Qr a0),xs a1] [] = some (QF r) := fnQ (QvU a0 a1) h
noncomputable abbrev QvV {Γ : Prop} {lp : Loops} {ρ R : Type} {en : ρ → R} (a0 : (List ByteArray)) (a1 : ByteArray) (k : Bool → Pn Γ lp en) : Pn Γ lp en := pC (ww 232 [.sl (Qr a0),xs a1] []) (QhS a0 a1) QF (fun _ => QhS.ok) k
abbrev Yk := Qd → Option (List ByteArray)
abbrev Qap (c : Yk) : Prop := ∀ (a0 : Qd) (r : (List ByteArray)),c a0 = some r → ww 203 [.agg (Jg a0)] [] = some (UI r)
noncomputable abbrev Qtl {Γ : Prop} {lp : Loops} {ρ R : Type} {en : ρ → R} (c : Yk) (i : Qap c) (a0 : Qd) (k : (List ByteArray) → Pn Γ lp en) : Pn Γ lp en := pC (ww 203 [.agg (Jg a0)] []) (c a0) UI (fun _ => i a0 _) k
structure UA where
 x4 : Int
 x5 : (List ByteArray)
 x6 : Int
 h0 : Qd
 r1 : (List ByteArray)
structure XF where
 x4 : Int
 h0 : Qd
 r1 : (List ByteArray)
def QaT (a : UA) : St := { n := 47,nx := 2,env := [(1,.ptr 0 0),(3,.arr 1),(4,xi a.x4),(5,.sl (Qr a.x5)),(6,xi a.x6)],heap := [(0,.box [] (Jg a.h0)),(1,.arr true 1 (Qr a.r1))] }
def QaU (a : XF) : Ex × St := (.exit 2,{ n := 47,nx := 2,env := [(1,.ptr 0 0),(3,.arr 1),(4,xi a.x4)],heap := [(0,.box [] (Jg a.h0)),(1,.arr true 1 (Qr a.r1))] })
abbrev YX := UA → Option XF
def Fg (C0 : Qin) (a : UA) : Option (UA ⊕ XF) := (bif (decide (a.x6 < (((a.x5.length) : Nat) : Int))) then (bif (decide (0 ≤ a.x6)) then ((a.x5[(Int.toNat a.x6)]?).bind fun e1 => ((C0 a.r1 e1).bind fun r2 => (bif (!r2) then ((a.x5[(Int.toNat a.x6)]?).bind fun e3 => (bif (decide ((a.r1.length + [e3].length) * 16 ≤ most)) then (some (.inl (UA.mk a.x4 a.x5 (w64 (a.x6 + 1)) a.h0 (a.r1 ++ [e3])))) else none)) else (some (.inl (UA.mk a.x4 a.x5 (w64 (a.x6 + 1)) a.h0 a.r1)))))) else none) else (some (.inr (XF.mk a.x4 a.h0 a.r1))))
theorem Qoe {C0 : Nat → Qin} {D0 : Qin} (H0 : Cv2 C0 D0) (a : UA) : Cv (fun k => Fg (C0 k) a) (Fg D0 a) := by
 unfold Fg
 exact .cond (.cond (.bind (.const _) fun e1 => .bind (H0 _ _) fun r2 => by exact .const _) cst) cst
abbrev QcA (l : YX) : Prop := ∀ (a : UA) (r : XF),l a = some r → lw 0 203 (loopAt pp 203 9) (QaT a) = some (QaU r)
noncomputable abbrev Qof {Γ : Prop} {ρ R : Type} {en : ρ → R} (l : YX) (j : QcA l) (a : UA) (k0 : XF → Pn Γ (lw 0 203) en) : Pn Γ (lw 0 203) en := p1 (loopAt pp 203 9) (QaT a) (l a) QaU (fun _ => j _ _) k0
noncomputable def Qog (a : UA) : Pn True (lw 0 203) (Sum.elim (fun a => (Ex.norm,QaT a)) QaU) := (pH Qv a.x5 (pA (decide (a.x6 < (((a.x5.length) : Nat) : Int))) (let u175 := (decide (0 ≤ a.x6)); pA u175 (pI Qv a.x5 a.x6 fun e1 => (QvV a.r1 e1 fun r2 => (pA (!r2) (pY u175 (fun g => g.1.2) (pI Qv a.x5 a.x6 fun e3 => (pZ [[xs e3]] (Qr [e3]) (Js [e3]) (pQ Qv 16 a.r1 [e3] (pR (.inl (UA.mk a.x4 a.x5 (w64 (a.x6 + 1)) a.h0 (a.r1 ++ [e3])))))))) (pR (.inl (UA.mk a.x4 a.x5 (w64 (a.x6 + 1)) a.h0 a.r1)))))) pF) (pR (.inr (XF.mk a.x4 a.h0 a.r1)))))
noncomputable def ZG.s (k : Nat) : YX := iter (Fg QhS) k
theorem Ql9 (k : Nat) : QcA (ZG.s k ) := fun a r h => lpQ (Qog ) (itP h)
theorem ZG.m {j k : Nat} (hj : j ≤ k) (a : UA) : Le (ZG.s j a) (ZG.s k a) := Le.iter (fun a => (Qoe ks2 a).1 0) hj a
structure Vk where
 x4 : Int
 h0 : Qd
 r1 : (List ByteArray)
def QaV (a : Vk) : St := { n := 47,nx := 2,env := [(1,.ptr 0 0),(3,.arr 1),(4,xi a.x4)],heap := [(0,.box [] (Jg a.h0)),(1,.arr true 1 (Qr a.r1))] }
def QaW (a : (List ByteArray)) : Ex × St := (.exit 0,{ n := 47,nx := 1,env := [(3,.arr 0)],heap := [(0,.arr true 1 (Qr a))] })
abbrev YY := Vk → Option (List ByteArray)
def Fh (C0 : Yk) (L1 : YX) (a : Vk) : Option (Vk ⊕ (List ByteArray)) := (bif (decide (a.x4 < (((a.h0.L.length) : Nat) : Int))) then (bif (decide (0 ≤ a.x4)) then ((a.h0.L[(Int.toNat a.x4)]?).bind fun e1 => ((C0 e1).bind fun r2 => ((L1 (UA.mk a.x4 r2 (0 : Int) a.h0 a.r1)).bind (fun (o3 : XF) => (some (.inl (Vk.mk (w64 (o3.x4 + 1)) o3.h0 o3.r1))))))) else none) else (some (.inr a.r1)))
theorem Qoh {C0 : Nat → Yk} {D0 : Yk} (H0 : Cv1 C0 D0) {L1 : Nat → YX} {M1 : YX} (N1 : Cv1 L1 M1) (a : Vk) : Cv (fun k => Fh (C0 k) (L1 k) a) (Fh D0 M1 a) := by
 unfold Fh
 exact .cond (.cond (.bind (.const _) fun e1 => .bind (H0 _) fun r2 => .bind (N1 _) (fun o3 => by exact .const _)) cst) cst
abbrev QcB (l : YY) : Prop := ∀ (a : Vk) (r : (List ByteArray)),l a = some r → lw 0 203 (loopAt pp 203 5) (QaV a) = some (QaW r)
noncomputable abbrev Qoi {Γ : Prop} {ρ R : Type} {en : ρ → R} (l : YY) (j : QcB l) (a : Vk) (k0 : (List ByteArray) → Pn Γ (lw 0 203) en) : Pn Γ (lw 0 203) en := p1 (loopAt pp 203 5) (QaV a) (l a) QaW (fun _ => j _ _) k0
noncomputable def Qoj (C0 : Yk) (i_r3_Names : Qap C0) (L1 : YX) (j_r3_Names_L2 : QcA L1) (a : Vk) : Pn True (lw 0 203) (Sum.elim (fun a => (Ex.norm,QaV a)) QaW) := (pH Eu a.h0.L (pA (decide (a.x4 < (((a.h0.L.length) : Nat) : Int))) (pA (decide (0 ≤ a.x4)) (pI Eu a.h0.L a.x4 fun e1 => (Qtl C0 i_r3_Names e1 fun r2 => (Qof L1 j_r3_Names_L2 (UA.mk a.x4 r2 i0 a.h0 a.r1) (fun o3 => (pR (.inl (Vk.mk (w64 (o3.x4 + 1)) o3.h0 o3.r1))))))) pF) (pR (.inr a.r1))))
noncomputable def ZH.s (k : Nat) (C0 : Yk) : YY := iter (Fh C0 (ZG.s k)) k
theorem Qma (k : Nat) {C0 : Yk} (i_r3_Names : Qap C0) : QcB (ZH.s k C0) := fun a r h => lpQ (Qoj C0 i_r3_Names (ZG.s k) (Ql9 k )) (itP h)
theorem ZH.m {j k : Nat} (hj : j ≤ k) (C0 : Yk) (D0 : Yk) (H0 : Le1 C0 D0) (a : Vk) : Le (ZH.s j C0 a) (ZH.s k D0 a) := Le.iter (fun a => (Qoh (tw1 H0) (tw1 (ZG.m hj)) a).1 0) hj a
def Qbu (L0 : YY) (a0 : Qd) : Option (List ByteArray) := (bif (a0.Kind == 2) then (some [a0.Name]) else ((L0 (Vk.mk (0 : Int) a0 ([] : List ByteArray))).bind (fun (o1 : (List ByteArray)) => (some o1))))
theorem Qtm {L0 : Nat → YY} {M0 : YY} (N0 : Cv1 L0 M0) (a0 : Qd) : Cv (fun k => Qbu (L0 k) a0) (Qbu M0 a0) := by
 unfold Qbu
 exact .cond cst (.bind (N0 _) (fun o1 => by exact .const _))
noncomputable def Qtn (L0 : YY) (j_r3_Names_L1 : QcB L0) (a0 : Qd) : Pn True (lw 0 203) UI := (pA (a0.Kind == 2) (pZ [[xs a0.Name]] (Qr [a0.Name]) (Js [a0.Name]) (pR [a0.Name])) (Qoi L0 j_r3_Names_L1 (Vk.mk i0 a0 ([] : List ByteArray)) (fun o1 => (pR o1))))
noncomputable def Vx.s : Nat → Qd → Option (List ByteArray)
 | 0,_ => none
 | k + 1,a0 => Qbu (ZH.s k (fun a0 => Vx.s k a0)) a0
termination_by structural k => k
theorem QhT : ∀ (k : Nat),(Qap (Vx.s k))
 | 0 => fun _ _ h => (nomatch h)
 | k + 1 => by
  have i_r3_Names : Qap (Vx.s k) := QhT k
  exact fun a0 r h => fnQ (Qtn (ZH.s k (Vx.s k)) (Qma k i_r3_Names) a0) h
theorem Qf4 : ∀ (k : Nat),(∀ (a0 : Qd),Le (Vx.s k a0) (Vx.s (k + 1) a0))
 | 0 => fun _ _ h => (nomatch h)
 | k + 1 => by
  have i_r3_Names : ∀ (a0 : Qd),Le (Vx.s k a0) (Vx.s (k + 1) a0) := Qf4 k
  exact fun a0 => (Qtm (tw1 (ZH.m (Nat.le_succ k) (Vx.s k) (Vx.s (k + 1)) i_r3_Names)) a0).1 0
noncomputable def Vx (a0 : Qd) : Option (List ByteArray) := lim fun k => Vx.s k a0
theorem Vx.cv (a0 : Qd) : Cv (fun k => Vx.s k a0) (Vx a0) := .lim fun k => (Qf4 k) a0
theorem Vx.ok {a0 : Qd} {r : (List ByteArray)} (h : Vx a0 = some r) : ww 203 [.agg (Jg a0)] [] = some (UI r) := let ⟨k,e⟩ := ((Vx.cv a0).2 r).1 h; (QhT k) a0 _ e
noncomputable abbrev Qto {Γ : Prop} {lp : Loops} {ρ R : Type} {en : ρ → R} (a0 : Qd) (k : (List ByteArray) → Pn Γ lp en) : Pn Γ lp en := pC (ww 203 [.agg (Jg a0)] []) (Vx a0) UI (fun _ => Vx.ok) k
abbrev QeC := Qd → Qc → Option (Bool × Qc)
structure JN where
 x5 : (List ByteArray)
 x6 : Int
 x7 : Bool
 x8 : Int
 h0 : Qc
structure VH where
 x5 : (List ByteArray)
 x6 : Int
 x7 : Bool
 h0 : Qc
def Ek (a : JN) : St := { n := 99,nx := 5,env := [(0,.ptr 0 0),(5,.sl (Qr a.x5)),(6,xi a.x6),(7,xo a.x7),(8,xi a.x8)],heap := [(0,.box [0,112,103] [.sl (Ql a.h0.Syms),.arr 3,.arr 4]),(3,.arr false 12 (Qh a.h0.L)),(4,.arr false 3 (Qp a.h0.D))] }
def El (a : VH) : Ex × St := (.exit 2,{ n := 99,nx := 5,env := [(0,.ptr 0 0),(5,.sl (Qr a.x5)),(6,xi a.x6),(7,xo a.x7)],heap := [(0,.box [0,112,103] [.sl (Ql a.h0.Syms),.arr 3,.arr 4]),(3,.arr false 12 (Qh a.h0.L)),(4,.arr false 3 (Qp a.h0.D))] })
abbrev Qbe := JN → Option VH
def QhU (a : JN) : Option (JN ⊕ VH) := (bif (decide (a.x8 < (((a.h0.Syms.length) : Nat) : Int))) then (bif a.x7 then (some (.inl (JN.mk a.x5 a.x6 true (w64 (a.x8 + 1)) a.h0))) else (bif (decide (0 ≤ a.x8)) then ((a.h0.Syms[(Int.toNat a.x8)]?).bind fun e1 => (bif (decide (0 ≤ a.x6)) then ((a.x5[(Int.toNat a.x6)]?).bind fun e2 => (some (.inl (JN.mk a.x5 a.x6 (eqS e1.Name e2) (w64 (a.x8 + 1)) a.h0)))) else none)) else none)) else (some (.inr (VH.mk a.x5 a.x6 a.x7 a.h0))))
noncomputable def YZ : Qbe := loopW (QhU )
noncomputable def QhV (a : JN) : Pn True (lw 3 154) (Sum.elim (fun a => (Ex.norm,Ek a)) El) := (pH Yy a.h0.Syms (pA (decide (a.x8 < (((a.h0.Syms.length) : Nat) : Int))) (pA a.x7 (pYN 13 a.x7 (fun g => g.2) (pR (.inl (JN.mk a.x5 a.x6 true (w64 (a.x8 + 1)) a.h0)))) (pNN 5 a.x7 (fun g => g.2) (pA (decide (0 ≤ a.x8)) (pI Yy a.h0.Syms a.x8 fun e1 => (pNN 5 a.x7 (fun g => g.1.2) (pA (decide (0 ≤ a.x6)) (pI Qv a.x5 a.x6 fun e2 => (pNN 3 a.x7 (fun g => g.1.1.2) (pR (.inl (JN.mk a.x5 a.x6 (eqS e1.Name e2) (w64 (a.x8 + 1)) a.h0))))) pF))) pF))) (pR (.inr (VH.mk a.x5 a.x6 a.x7 a.h0)))))
theorem YZ.ok {a : JN} {r : VH} (h : YZ a = some r) : lw 3 154 (loopAt pp 154 7) (Ek a) = some (El r) := lpQ QhV h
noncomputable abbrev QhW {Γ : Prop} {ρ R : Type} {en : ρ → R} (a : JN) (k0 : VH → Pn Γ (lw 3 154) en) : Pn Γ (lw 3 154) en := p1 (loopAt pp 154 7) (Ek a) (YZ a) El (fun _ => YZ.ok) k0
structure Jc where
 x5 : (List ByteArray)
 x6 : Int
 x7 : Bool
 x9 : Int
 h0 : Qc
structure VI where
 x5 : (List ByteArray)
 x6 : Int
 x7 : Bool
 h0 : Qc
def Eo (a : Jc) : St := { n := 99,nx := 5,env := [(0,.ptr 0 0),(5,.sl (Qr a.x5)),(6,xi a.x6),(7,xo a.x7),(9,xi a.x9)],heap := [(0,.box [0,112,103] [.sl (Ql a.h0.Syms),.arr 3,.arr 4]),(3,.arr false 12 (Qh a.h0.L)),(4,.arr false 3 (Qp a.h0.D))] }
def Ep (a : VI) : Ex × St := (.exit 4,{ n := 99,nx := 5,env := [(0,.ptr 0 0),(5,.sl (Qr a.x5)),(6,xi a.x6),(7,xo a.x7)],heap := [(0,.box [0,112,103] [.sl (Ql a.h0.Syms),.arr 3,.arr 4]),(3,.arr false 12 (Qh a.h0.L)),(4,.arr false 3 (Qp a.h0.D))] })
abbrev Qbf := Jc → Option VI
def QhX (a : Jc) : Option (Jc ⊕ VI) := (bif (decide (a.x9 < (((a.h0.L.length) : Nat) : Int))) then (bif a.x7 then (some (.inl (Jc.mk a.x5 a.x6 true (w64 (a.x9 + 1)) a.h0))) else (bif (decide (0 ≤ a.x9 ∧ a.x9 < ((a.h0.L.length : Nat) : Int))) then ((a.h0.L[(Int.toNat a.x9)]?).bind fun e1 => (bif (decide (0 ≤ a.x6)) then ((a.x5[(Int.toNat a.x6)]?).bind fun e2 => (bif (eqS e1.S.Label e2) then (some (.inl (Jc.mk a.x5 a.x6 true (w64 (a.x9 + 1)) a.h0))) else ((a.h0.L[(Int.toNat a.x9)]?).bind fun e3 => (bif (e3.S.Kind == 9) then ((a.h0.L[(Int.toNat a.x9)]?).bind fun e4 => ((a.x5[(Int.toNat a.x6)]?).bind fun e5 => (some (.inl (Jc.mk a.x5 a.x6 (eqS e4.S.Text e5) (w64 (a.x9 + 1)) a.h0))))) else (some (.inl (Jc.mk a.x5 a.x6 false (w64 (a.x9 + 1)) a.h0))))))) else none)) else none)) else (some (.inr (VI.mk a.x5 a.x6 a.x7 a.h0))))
noncomputable def Y0 : Qbf := loopW (QhX )
noncomputable def QhY (a : Jc) : Pn True (lw 3 154) (Sum.elim (fun a => (Ex.norm,Eo a)) Ep) := (pH Qy a.h0.L (pA (decide (a.x9 < (((a.h0.L.length) : Nat) : Int))) (pA a.x7 (pYN 14 a.x7 (fun g => g.2) (pYN 13 true (fun _ => rfl) (pR (.inl (Jc.mk a.x5 a.x6 true (w64 (a.x9 + 1)) a.h0))))) (pNN 5 a.x7 (fun g => g.2) (pG Qy a.h0.L a.x9 (pNN 3 a.x7 (fun g => g.1.2) (pI Qy a.h0.L a.x9 fun e1 => (pNN 3 a.x7 (fun g => g.1.2) (let u178 := (decide (0 ≤ a.x6)); pA u178 (pI Qv a.x5 a.x6 fun e2 => (pNN 3 a.x7 (fun g => g.1.1.2) (let u177 := (eqS e1.S.Label e2); pA u177 (pYN 12 u177 (fun g => g.2) (pR (.inl (Jc.mk a.x5 a.x6 true (w64 (a.x9 + 1)) a.h0)))) (pNN 5 u177 (fun g => g.2) (pY (in1 a.x9 (((Qh a.h0.L).length : Nat) : Int)) (fun g => (show (in1 a.x9 (((Qh a.h0.L).length : Nat) : Int)) = (in1 a.x9 ((a.h0.L.length : Nat) : Int)) from (by rw [JD])).trans g.1.1.2) (pNN 3 u177 (fun g => g.2) (pI Qy a.h0.L a.x9 fun e3 => (pNN 2 u177 (fun g => g.2) (let u176 := (e3.S.Kind == 9); pA u176 (pYN 5 u176 (fun g => g.2) (pY (in1 a.x9 (((Qh a.h0.L).length : Nat) : Int)) (fun g => (show (in1 a.x9 (((Qh a.h0.L).length : Nat) : Int)) = (in1 a.x9 ((a.h0.L.length : Nat) : Int)) from (by rw [JD])).trans g.1.1.1.2) (pYN 3 u176 (fun g => g.2) (pI Qy a.h0.L a.x9 fun e4 => (pYN 3 u176 (fun g => g.2) (pY u178 (fun g => g.1.1.2) (pI Qv a.x5 a.x6 fun e5 => (pYN 2 u176 (fun g => g.2) (pN u177 (fun g => g.1.2) (pY u176 (fun g => g.2) (pN u177 (fun g => g.1.2) (pR (.inl (Jc.mk a.x5 a.x6 (eqS e4.S.Text e5) (w64 (a.x9 + 1)) a.h0)))))))))))))) (pNN 13 u176 (fun g => g.2) (pN u177 (fun g => g.1.2) (pN u176 (fun g => g.2) (pN u177 (fun g => g.1.2) (pR (.inl (Jc.mk a.x5 a.x6 false (w64 (a.x9 + 1)) a.h0)))))))))))))))) pF)))) pF))) (pR (.inr (VI.mk a.x5 a.x6 a.x7 a.h0)))))
theorem Y0.ok {a : Jc} {r : VI} (h : Y0 a = some r) : lw 3 154 (loopAt pp 154 11) (Eo a) = some (Ep r) := lpQ QhY h
noncomputable abbrev QhZ {Γ : Prop} {ρ R : Type} {en : ρ → R} (a : Jc) (k0 : VI → Pn Γ (lw 3 154) en) : Pn Γ (lw 3 154) en := p1 (loopAt pp 154 11) (Eo a) (Y0 a) Ep (fun _ => Y0.ok) k0
structure Un where
 x5 : (List ByteArray)
 x6 : Int
 h0 : Qc
structure U3 where
 x4 : Bool
 h0 : Qc
def Er (a : Un) : St := { n := 99,nx := 5,env := [(0,.ptr 0 0),(5,.sl (Qr a.x5)),(6,xi a.x6)],heap := [(0,.box [0,112,103] [.sl (Ql a.h0.Syms),.arr 3,.arr 4]),(3,.arr false 12 (Qh a.h0.L)),(4,.arr false 3 (Qp a.h0.D))] }
def P1 (a : U3) : Ex × St := (.ret,{ n := 99,nx := 5,env := [(4,xo a.x4)],heap := [(0,.box [0,112,103] [.sl (Ql a.h0.Syms),.arr 3,.arr 4]),(3,.arr false 12 (Qh a.h0.L)),(4,.arr false 3 (Qp a.h0.D))] })
def P2 (a : Qc) : Ex × St := (.exit 0,{ n := 99,nx := 5,env := [],heap := [(0,.box [0,112,103] [.sl (Ql a.Syms),.arr 3,.arr 4]),(3,.arr false 12 (Qh a.L)),(4,.arr false 3 (Qp a.D))] })
def Qaq : (U3 ⊕ Qc) → Ex × St := Sum.elim P1 P2
abbrev Qbg := Un → Option (U3 ⊕ Qc)
def Qh0 (L0 : Qbe) (L1 : Qbf) (a : Un) : Option (Un ⊕ (U3 ⊕ Qc)) := (bif (decide (a.x6 < (((a.x5.length) : Nat) : Int))) then ((L0 (JN.mk a.x5 a.x6 false (0 : Int) a.h0)).bind (fun (o1 : VH) => ((L1 (Jc.mk o1.x5 o1.x6 o1.x7 (0 : Int) o1.h0)).bind (fun (o2 : VI) => (bif (!o2.x7) then (some (.inr (.inl (U3.mk false o2.h0)))) else (some (.inl (Un.mk o2.x5 (w64 (o2.x6 + 1)) o2.h0)))))))) else (some (.inr (.inr a.h0))))
noncomputable def Y1 : Qbg := loopW (Qh0 YZ Y0)
noncomputable def Qh1 (a : Un) : Pn True (lw 3 154) (Sum.elim (fun a => (Ex.norm,Er a)) Qaq) := (pH Qv a.x5 (pA (decide (a.x6 < (((a.x5.length) : Nat) : Int))) (QhW (JN.mk a.x5 a.x6 false i0 a.h0) (fun o1 => (QhZ (Jc.mk o1.x5 o1.x6 o1.x7 i0 o1.h0) (fun o2 => (pA (!o2.x7) (pR (.inr (.inl (U3.mk false o2.h0)))) (pR (.inl (Un.mk o2.x5 (w64 (o2.x6 + 1)) o2.h0)))))))) (pR (.inr (.inr a.h0)))))
theorem Y1.ok {a : Un} {r : (U3 ⊕ Qc)} (h : Y1 a = some r) : lw 3 154 (loopAt pp 154 3) (Er a) = some (Qaq r) := lpQ Qh1 h
noncomputable abbrev Qh2 {Γ : Prop} {ρ R : Type} {en : ρ → R} (a : Un) (k0 : U3 → Pn Γ (lw 3 154) en) (k1 : Qc → Pn Γ (lw 3 154) en) : Pn Γ (lw 3 154) en := p2 (loopAt pp 154 3) (Er a) (Y1 a) P1 P2 (fun _ => Y1.ok) k0 k1
def Qk7 (C0 : Yk) (L1 : Qbg) (a1 : Qd) (h0 : Qc) : Option (Bool × Qc) := ((C0 a1).bind fun r1 => ((L1 (Un.mk r1 (0 : Int) h0)).bind fun x => Sum.elim (fun (o2 : U3) => (some (o2.x4,o2.h0))) (fun (o3 : Qc) => (some (true,o3))) x))
noncomputable def Zg : QeC := Qk7 Vx Y1
noncomputable def Qk8 (a1 : Qd) (h0 : Qc) : Pn True (lw 3 154) YI := (Qto a1 fun r1 => (Qh2 (Un.mk r1 i0 h0) (fun o2 => (pR (o2.x4,o2.h0))) (fun o3 => (pR (true,o3)))))
theorem Zg.ok {a1 : Qd} {h0 : Qc} {r : (Bool × Qc)} (h : Zg a1 h0 = some r) : ww 154 [.ptr 0 0,.agg (Jg a1)] [(0,.box [0,112,103] [.sl (Ql h0.Syms),.arr 1,.arr 2]),(1,.arr false 12 (Qh h0.L)),(2,.arr false 3 (Qp h0.D))] = some (YI r) := fnQ (Qk8 a1 h0) h
noncomputable abbrev Qk9 {Γ : Prop} {lp : Loops} {ρ R : Type} {en : ρ → R} (a1 : Qd) (h0 : Qc) (k : (Bool × Qc) → Pn Γ lp en) : Pn Γ lp en := pC (ww 154 [.ptr 0 0,.agg (Jg a1)] [(0,.box [0,112,103] [.sl (Ql h0.Syms),.arr 1,.arr 2]),(1,.arr false 12 (Qh h0.L)),(2,.arr false 3 (Qp h0.D))]) (Zg a1 h0) YI (fun _ => Zg.ok) k
def FR (r : ((List Int) × Int)) : AV × Heap := (.tup [.sl (R_u8 r.1),xi r.2],[])
abbrev QpD := Int → Qf → (List Int) → Option ((List Int) × Int)
structure UH where
 x2 : (List Int)
 x8 : (List ByteArray)
 x10 : Int
 h0 : Qf
 h1 : Qi
def QcC (a : UH) : St := { n := 53,nx := 3,env := [(2,.sl (QS a.x2)),(4,.ptr 0 0),(8,.sl (Qr a.x8)),(9,.ptr 1 0),(10,xi a.x10)],heap := [(0,.box [] (WE a.h0)),(1,.box [0,101] [xi a.h1.Op,.arr 2]),(2,.arr true 1 (QS a.h1.F))] }
def QcD (a : Qi) : Ex × St := (.exit 0,{ n := 53,nx := 2,env := [(9,.ptr 0 0)],heap := [(0,.box [0,101] [xi a.Op,.arr 1]),(1,.arr true 1 (QS a.F))] })
abbrev Qjj := UH → Option Qi
def PS (a : UH) : Option (UH ⊕ Qi) := (bif (decide (a.x10 < (((a.x8.length) : Nat) : Int))) then (bif (decide (0 ≤ a.x10)) then ((a.x2[(Int.toNat a.x10)]?).bind fun e1 => ((a.x8[(Int.toNat a.x10)]?).bind fun e2 => (bif (decide (0 ≤ (0 : Int) ∧ (0 : Int) < ((e2.size : Nat) : Int))) then (bif (((e2.data.getD (Int.toNat 0) 0).toNat : Int) == 84) then (bif (decide ((a.h1.F.length + [(w64 (e1 - a.h0.At))].length) * 8 ≤ most)) then (some (.inl (UH.mk a.x2 a.x8 (w64 (a.x10 + 1)) a.h0 (Qi.mk a.h1.Op (a.h1.F ++ [(w64 (e1 - a.h0.At))]))))) else none) else (bif (decide ((a.h1.F.length + [e1].length) * 8 ≤ most)) then (some (.inl (UH.mk a.x2 a.x8 (w64 (a.x10 + 1)) a.h0 (Qi.mk a.h1.Op (a.h1.F ++ [e1]))))) else none)) else none))) else none) else (some (.inr a.h1)))
noncomputable def Wj : Qjj := loopW (PS )
theorem Wj.eq (a : UH) : Wj a = (PS a).bind (Sum.elim Wj some) := QK _ _
noncomputable def QpE (a : UH) : Pn True (lw 0 155) (Sum.elim (fun a => (Ex.norm,QcC a)) QcD) := (pH Qv a.x8 (pA (decide (a.x10 < (((a.x8.length) : Nat) : Int))) (let u179 := (decide (0 ≤ a.x10)); pA u179 (pI Jh a.x2 a.x10 fun e1 => (pY u179 (fun g => g.2) (pI Qv a.x8 a.x10 fun e2 => (pA (in1 i0 (zz e2)) (pA ((gb e2 i0) == 84) (pZ [[xi (w64 (e1 - a.h0.At))]] (QS [(w64 (e1 - a.h0.At))]) (Jw [(w64 (e1 - a.h0.At))]) (pQ Jh 8 a.h1.F [(w64 (e1 - a.h0.At))] (pR (.inl (UH.mk a.x2 a.x8 (w64 (a.x10 + 1)) a.h0 (Qi.mk a.h1.Op (a.h1.F ++ [(w64 (e1 - a.h0.At))]))))))) (pZ [[xi e1]] (QS [e1]) (Jw [e1]) (pQ Jh 8 a.h1.F [e1] (pR (.inl (UH.mk a.x2 a.x8 (w64 (a.x10 + 1)) a.h0 (Qi.mk a.h1.Op (a.h1.F ++ [e1])))))))) pF)))) pF) (pR (.inr a.h1))))
theorem Wj.ok {a : UH} {r : Qi} (h : Wj a = some r) : lw 0 155 (loopAt pp 155 4) (QcC a) = some (QcD r) := lpQ QpE h
noncomputable abbrev QpF {Γ : Prop} {ρ R : Type} {en : ρ → R} (a : UH) (k0 : Qi → Pn Γ (lw 0 155) en) : Pn Γ (lw 0 155) en := p1 (loopAt pp 155 4) (QcC a) (Wj a) QcD (fun _ => Wj.ok) k0
def Qh3 (C0 : QcX) (C1 : FJ) (C2 : Qe5) (L3 : Qjj) (a0 : Int) (a1 : Qf) (a2 : (List Int)) : Option ((List Int) × Int) := ((C0 a0).bind fun r1 => ((C1 r1).bind fun r2 => ((L3 (UH.mk a2 r2 (0 : Int) a1 (Qi.mk a0 ([] : List Int)))).bind (fun (o3 : Qi) => ((C2 o3).bind fun r4 => (bif (!r4.2) then (some (([] : List Int),(6 : Int))) else (some (r4.1,(0 : Int)))))))))
noncomputable def Z1 : QpD := Qh3 WU JZ VA Wj
theorem Z1.eq (a0 : Int) (a1 : Qf) (a2 : (List Int)) : Z1 a0 a1 a2 = Qh3 WU JZ VA Wj a0 a1 a2 := rfl
noncomputable def QuI (a0 : Int) (a1 : Qf) (a2 : (List Int)) : Pn True (lw 0 155) FR := (QeY a0 fun r1 => (Pm r1 fun r2 => (QpF (UH.mk a2 r2 i0 a1 (Qi.mk a0 ([] : List Int))) (fun o3 => (Qi0 o3 fun r4 => (pA (!r4.2) (pR (([] : List Int),(zi 6))) (pR (r4.1,i0))))))))
theorem Z1.ok {a0 : Int} {a1 : Qf} {a2 : (List Int)} {r : ((List Int) × Int)} (h : Z1 a0 a1 a2 = some r) : ww 155 [xi a0,.agg (WE a1),.sl (QS a2)] [] = some (FR r) := fnQ (QuI a0 a1 a2) h
noncomputable abbrev FS {Γ : Prop} {lp : Loops} {ρ R : Type} {en : ρ → R} (a0 : Int) (a1 : Qf) (a2 : (List Int)) (k : ((List Int) × Int) → Pn Γ lp en) : Pn Γ lp en := pC (ww 155 [xi a0,.agg (WE a1),.sl (QS a2)] []) (Z1 a0 a1 a2) FR (fun _ => Z1.ok) k
abbrev Qla := Qf → Option Int
def Qq2 (C0 : QjP) (a0 : Qf) : Option Int := (bif (decide (0 ≤ a0.S.Op ∧ a0.S.Op < (([Gg,Y8,Y7].length : Nat) : Int))) then (([Gg,Y8,Y7][(Int.toNat a0.S.Op)]?).bind fun e1 => (bif a0.Grown then (bif (decide (0 ≤ a0.S.Op ∧ a0.S.Op < (([E8,Gf,Gd].length : Nat) : Int))) then (([E8,Gf,Gd][(Int.toNat a0.S.Op)]?).bind fun e2 => ((C0 e2).bind fun r3 => (some r3.1))) else none) else ((C0 e1).bind fun r4 => (some r4.1)))) else none)
noncomputable def FT : Qla := Qq2 ZZ
noncomputable def Qq3 (a0 : Qf) : Pn True (lw 0 156) Qq := (pZ [[xs Gg],[xs Y8],[xs Y7]] (Qr [Gg,Y8,Y7]) (Js [Gg,Y8,Y7]) (pG Qv [Gg,Y8,Y7] a0.S.Op (pI Qv [Gg,Y8,Y7] a0.S.Op fun e1 => (pA a0.Grown (pZ [[xs E8],[xs Gf],[xs Gd]] (Qr [E8,Gf,Gd]) (Js [E8,Gf,Gd]) (pG Qv [E8,Gf,Gd] a0.S.Op (pI Qv [E8,Gf,Gd] a0.S.Op fun e2 => (Qhq e2 fun r3 => (pR r3.1))) pF)) (Qhq e1 fun r4 => (pR r4.1)))) pF))
theorem FT.ok {a0 : Qf} {r : Int} (h : FT a0 = some r) : ww 156 [.agg (WE a0)] [] = some (Qq r) := fnQ (Qq3 a0) h
noncomputable abbrev QdK {Γ : Prop} {lp : Loops} {ρ R : Type} {en : ρ → R} (a0 : Qf) (k : Int → Pn Γ lp en) : Pn Γ lp en := pC (ww 156 [.agg (WE a0)] []) (FT a0) Qq (fun _ => FT.ok) k
def Qft (r : (List Int)) : AV × Heap := (.arr 1,[(1,.arr true 1 (R_u8 r))])
abbrev Qne := Int → Int → (List Int) → Option (List Int)
structure VQ where
 x1 : Int
 x7 : Int
 r1 : (List Int)
def QaX (a : VQ) : St := { n := 24,nx := 2,env := [(0,.arr 1),(1,xi a.x1),(7,xi a.x7)],heap := [(1,.arr true 1 (R_u8 a.r1))] }
def QaY (a : (List Int)) : Ex × St := (.exit 0,{ n := 24,nx := 2,env := [(0,.arr 1)],heap := [(1,.arr true 1 (R_u8 a))] })
abbrev Qh4 := VQ → Option (List Int)
def Gl (a : VQ) : Option (VQ ⊕ (List Int)) := (bif (decide (a.x7 ≥ 0)) then (bif (decide (0 ≤ (IntKind.u64.wrap (w64 ((8 : Int) * a.x7))))) then (bif (decide ((a.r1.length + [(IntKind.u8.wrap (shrI .i64 a.x1 (IntKind.u64.wrap (w64 ((8 : Int) * a.x7)))))].length) * 1 ≤ most)) then (some (.inl (VQ.mk a.x1 (w64 (a.x7 - 1)) (a.r1 ++ [(IntKind.u8.wrap (shrI .i64 a.x1 (IntKind.u64.wrap (w64 ((8 : Int) * a.x7)))))])))) else none) else none) else (some (.inr a.r1)))
noncomputable def Ul : Qh4 := loopW (Gl )
theorem Ul.eq (a : VQ) : Ul a = (Gl a).bind (Sum.elim Ul some) := QK _ _
noncomputable def Qok (a : VQ) : Pn True (lw 1 204) (Sum.elim (fun a => (Ex.norm,QaX a)) QaY) := (pA (decide (a.x7 ≥ 0)) (pA (decide (0 ≤ (IntKind.u64.wrap (w64 ((zi 8) * a.x7))))) (pZ [[xb (IntKind.u8.wrap (shrI .i64 a.x1 (IntKind.u64.wrap (w64 ((zi 8) * a.x7)))))]] (R_u8 [(IntKind.u8.wrap (shrI .i64 a.x1 (IntKind.u64.wrap (w64 ((zi 8) * a.x7)))))]) (YL [(IntKind.u8.wrap (shrI .i64 a.x1 (IntKind.u64.wrap (w64 ((zi 8) * a.x7)))))]) (pQ E_u8 1 a.r1 [(IntKind.u8.wrap (shrI .i64 a.x1 (IntKind.u64.wrap (w64 ((zi 8) * a.x7)))))] (pR (.inl (VQ.mk a.x1 (w64 (a.x7 - 1)) (a.r1 ++ [(IntKind.u8.wrap (shrI .i64 a.x1 (IntKind.u64.wrap (w64 ((zi 8) * a.x7)))))])))))) pF) (pR (.inr a.r1)))
theorem Ul.ok {a : VQ} {r : (List Int)} (h : Ul a = some r) : lw 1 204 (loopAt pp 204 2) (QaX a) = some (QaY r) := lpQ Qok h
noncomputable abbrev Qol {Γ : Prop} {ρ R : Type} {en : ρ → R} (a : VQ) (k0 : (List Int) → Pn Γ (lw 1 204) en) : Pn Γ (lw 1 204) en := p1 (loopAt pp 204 2) (QaX a) (Ul a) QaY (fun _ => Ul.ok) k0
def Qbv (L0 : Qh4) (a1 : Int) (a2 : Int) (r0 : (List Int)) : Option (List Int) := ((L0 (VQ.mk a1 (w64 (a2 - 1)) r0)).bind (fun (o1 : (List Int)) => (some o1)))
noncomputable def X7 : Qne := Qbv Ul
theorem X7.eq (a1 : Int) (a2 : Int) (r0 : (List Int)) : X7 a1 a2 r0 = Qbv Ul a1 a2 r0 := rfl
noncomputable def Qtp (a1 : Int) (a2 : Int) (r0 : (List Int)) : Pn True (lw 1 204) Qft := (Qol (VQ.mk a1 (w64 (a2 - 1)) r0) (fun o1 => (pR o1)))
theorem X7.ok {a1 : Int} {a2 : Int} {r0 : (List Int)} {r : (List Int)} (h : X7 a1 a2 r0 = some r) : ww 204 [.arr 0,xi a1,xi a2] [(0,.arr true 1 (R_u8 r0))] = some (Qft r) := fnQ (Qtp a1 a2 r0) h
noncomputable abbrev Qtq {Γ : Prop} {lp : Loops} {ρ R : Type} {en : ρ → R} (a1 : Int) (a2 : Int) (r0 : (List Int)) (k : (List Int) → Pn Γ lp en) : Pn Γ lp en := pC (ww 204 [.arr 0,xi a1,xi a2] [(0,.arr true 1 (R_u8 r0))]) (X7 a1 a2 r0) Qft (fun _ => X7.ok) k
abbrev QpG := (List Int) → Int → Int → Int → Option ((List Int) × Int)
structure Wm where
 x0 : (List Int)
 x1 : Int
 x2 : Int
 x3 : Int
 x11 : Int
 r0 : (List Int)
structure Wn where
 x8 : (List Int)
 x9 : Int
def QcE (a : Wm) : St := { n := 40,nx := 1,env := [(0,.sl (QS a.x0)),(1,xi a.x1),(2,xi a.x2),(3,xi a.x3),(10,.arr 0),(11,xi a.x11)],heap := [(0,.arr true 1 (R_u8 a.r0))] }
def Qf5 (a : Wn) : Ex × St := (.ret,{ n := 40,nx := 0,env := [(8,.sl (R_u8 a.x8)),(9,xi a.x9)],heap := [] })
def Qf6 (a : (List Int)) : Ex × St := (.exit 0,{ n := 40,nx := 1,env := [(10,.arr 0)],heap := [(0,.arr true 1 (R_u8 a))] })
def Qh5 : (Wn ⊕ (List Int)) → Ex × St := Sum.elim Qf5 Qf6
abbrev Qjk := Wm → Option (Wn ⊕ (List Int))
def QcF (C0 : Qne) (a : Wm) : Option (Wm ⊕ (Wn ⊕ (List Int))) := (bif (decide (a.x11 < (((a.x0.length) : Nat) : Int))) then (bif (decide (0 ≤ a.x11)) then ((a.x0[(Int.toNat a.x11)]?).bind fun e1 => (bif (decide (e1 < a.x2)) then (some (.inr (.inl (Wn.mk ([] : List Int) (6 : Int))))) else ((a.x0[(Int.toNat a.x11)]?).bind fun e2 => (bif (decide (e2 > a.x3)) then (some (.inr (.inl (Wn.mk ([] : List Int) (6 : Int))))) else ((a.x0[(Int.toNat a.x11)]?).bind fun e3 => ((C0 e3 a.x1 a.r0).bind fun r4 => (some (.inl (Wm.mk a.x0 a.x1 a.x2 a.x3 (w64 (a.x11 + 1)) r4))))))))) else none) else (some (.inr (.inr a.r0))))
noncomputable def Xd : Qjk := loopW (QcF X7)
theorem Xd.eq (a : Wm) : Xd a = (QcF X7 a).bind (Sum.elim Xd some) := QK _ _
noncomputable def QpH (a : Wm) : Pn True (lw 0 157) (Sum.elim (fun a => (Ex.norm,QcE a)) Qh5) := (pH Jh a.x0 (pA (decide (a.x11 < (((a.x0.length) : Nat) : Int))) (let u181 := (decide (0 ≤ a.x11)); pA u181 (pI Jh a.x0 a.x11 fun e1 => (let u180 := (decide (e1 < a.x2)); pA u180 (pYN 6 u180 (fun g => g.2) (pU true rfl (pR (.inr (.inl (Wn.mk ([] : List Int) (zi 6))))))) (pNN 2 u180 (fun g => g.2) (pY u181 (fun g => g.1.2) (pI Jh a.x0 a.x11 fun e2 => (pNN 4 u180 (fun g => g.2) (pA (decide (e2 > a.x3)) (pR (.inr (.inl (Wn.mk ([] : List Int) (zi 6))))) (pY u181 (fun g => g.1.1.2) (pI Jh a.x0 a.x11 fun e3 => (Qtq e3 a.x1 a.r0 fun r4 => (pR (.inl (Wm.mk a.x0 a.x1 a.x2 a.x3 (w64 (a.x11 + 1)) r4))))))))))))) pF) (pR (.inr (.inr a.r0)))))
theorem Xd.ok {a : Wm} {r : (Wn ⊕ (List Int))} (h : Xd a = some r) : lw 0 157 (loopAt pp 157 3) (QcE a) = some (Qh5 r) := lpQ QpH h
noncomputable abbrev QpI {Γ : Prop} {ρ R : Type} {en : ρ → R} (a : Wm) (k0 : Wn → Pn Γ (lw 0 157) en) (k1 : (List Int) → Pn Γ (lw 0 157) en) : Pn Γ (lw 0 157) en := p2 (loopAt pp 157 3) (QcE a) (Xd a) Qf5 Qf6 (fun _ => Xd.ok) k0 k1
def Qh6 (L0 : Qjk) (a0 : (List Int)) (a1 : Int) (a2 : Int) (a3 : Int) : Option ((List Int) × Int) := ((L0 (Wm.mk a0 a1 a2 a3 (0 : Int) ([] : List Int))).bind fun x => Sum.elim (fun (o1 : Wn) => (some (o1.x8,o1.x9))) (fun (o2 : (List Int)) => (some (o2,(0 : Int)))) x)
noncomputable def Gr : QpG := Qh6 Xd
theorem Gr.eq (a0 : (List Int)) (a1 : Int) (a2 : Int) (a3 : Int) : Gr a0 a1 a2 a3 = Qh6 Xd a0 a1 a2 a3 := rfl
noncomputable def QuJ (a0 : (List Int)) (a1 : Int) (a2 : Int) (a3 : Int) : Pn True (lw 0 157) FR := (QpI (Wm.mk a0 a1 a2 a3 i0 ([] : List Int)) (fun o1 => (pR (o1.x8,o1.x9))) (fun o2 => (pR (o2,i0))))
theorem Gr.ok {a0 : (List Int)} {a1 : Int} {a2 : Int} {a3 : Int} {r : ((List Int) × Int)} (h : Gr a0 a1 a2 a3 = some r) : ww 157 [.sl (QS a0),xi a1,xi a2,xi a3] [] = some (FR r) := fnQ (QuJ a0 a1 a2 a3) h
noncomputable abbrev Zt {Γ : Prop} {lp : Loops} {ρ R : Type} {en : ρ → R} (a0 : (List Int)) (a1 : Int) (a2 : Int) (a3 : Int) (k : ((List Int) × Int) → Pn Γ lp en) : Pn Γ lp en := pC (ww 157 [.sl (QS a0),xi a1,xi a2,xi a3] []) (Gr a0 a1 a2 a3) FR (fun _ => Gr.ok) k
def Sp (r : ((List Int) × Int × Qc)) : AV × Heap := (.tup [.sl (R_u8 r.1),xi r.2.1],[(0,.box [0,112,103] [.sl (Ql r.2.2.Syms),.arr 3,.arr 4]),(3,.arr false 12 (Qh r.2.2.L)),(4,.arr false 3 (Qp r.2.2.D))])
abbrev Qf7 := Qf → (List Qk) → Qc → Option ((List Int) × Int × Qc)
structure QO where
 x2 : (List Qk)
 x9 : Int
 h0 : Qc
 h5 : Qf
 r6 : (List Int)
structure Q4 where
 x6 : (List Int)
 x7 : Int
 h0 : Qc
structure JY where
 h0 : Qc
 h5 : Qf
 r6 : (List Int)
def ER (a : QO) : St := { n := 129,nx := 7,env := [(0,.ptr 0 0),(2,.sl (Ql a.x2)),(4,.ptr 5 0),(8,.arr 6),(9,xi a.x9)],heap := [(0,.box [0,112,103] [.sl (Ql a.h0.Syms),.arr 3,.arr 4]),(3,.arr false 12 (Qh a.h0.L)),(4,.arr false 3 (Qp a.h0.D)),(5,.box [] (WE a.h5)),(6,.arr false 1 (QS a.r6))] }
def Qar (a : Q4) : Ex × St := (.ret,{ n := 129,nx := 5,env := [(6,.sl (R_u8 a.x6)),(7,xi a.x7)],heap := [(0,.box [0,112,103] [.sl (Ql a.h0.Syms),.arr 3,.arr 4]),(3,.arr false 12 (Qh a.h0.L)),(4,.arr false 3 (Qp a.h0.D))] })
def Qas (a : JY) : Ex × St := (.exit 0,{ n := 129,nx := 7,env := [(4,.ptr 5 0),(8,.arr 6)],heap := [(0,.box [0,112,103] [.sl (Ql a.h0.Syms),.arr 3,.arr 4]),(3,.arr false 12 (Qh a.h0.L)),(4,.arr false 3 (Qp a.h0.D)),(5,.box [] (WE a.h5)),(6,.arr false 1 (QS a.r6))] })
def Qbh : (Q4 ⊕ JY) → Ex × St := Sum.elim Qar Qas
abbrev QcG := QO → Option (Q4 ⊕ JY)
def ZO (C0 : ZE) (C1 : QeC) (a : QO) : Option (QO ⊕ (Q4 ⊕ JY)) := (bif (decide (a.x9 < (((a.h5.S.Args.length) : Nat) : Int))) then (bif (decide (0 ≤ a.x9)) then ((a.h5.S.Args[(Int.toNat a.x9)]?).bind fun e1 => (bif (decide (e1.Reg < 0)) then ((C0 e1.E a.h5.At a.x2).bind fun r2 => (bif (r2.2 == 4) then (bif (a.h5.S.Kind == 9) then ((C1 e1.E a.h0).bind fun r3 => (bif r3.1 then (some (.inr (.inl (Q4.mk ([] : List Int) (5 : Int) r3.2)))) else (bif (r2.2 != 0) then (some (.inr (.inl (Q4.mk ([] : List Int) r2.2 r3.2)))) else (bif (decide ((a.r6.length + [r2.1].length) * 8 ≤ most)) then (some (.inl (QO.mk a.x2 (w64 (a.x9 + 1)) r3.2 a.h5 (a.r6 ++ [r2.1])))) else none)))) else (bif (r2.2 != 0) then (some (.inr (.inl (Q4.mk ([] : List Int) r2.2 a.h0)))) else (bif (decide ((a.r6.length + [r2.1].length) * 8 ≤ most)) then (some (.inl (QO.mk a.x2 (w64 (a.x9 + 1)) a.h0 a.h5 (a.r6 ++ [r2.1])))) else none))) else (bif (r2.2 != 0) then (some (.inr (.inl (Q4.mk ([] : List Int) r2.2 a.h0)))) else (bif (decide ((a.r6.length + [r2.1].length) * 8 ≤ most)) then (some (.inl (QO.mk a.x2 (w64 (a.x9 + 1)) a.h0 a.h5 (a.r6 ++ [r2.1])))) else none)))) else (bif (decide ((a.r6.length + [e1.Reg].length) * 8 ≤ most)) then (some (.inl (QO.mk a.x2 (w64 (a.x9 + 1)) a.h0 a.h5 (a.r6 ++ [e1.Reg])))) else none))) else none) else (some (.inr (.inr (JY.mk a.h0 a.h5 a.r6)))))
noncomputable def Jz : QcG := loopW (ZO Q1 Zg)
theorem Jz.eq (a : QO) : Jz a = (ZO Q1 Zg a).bind (Sum.elim Jz some) := QK _ _
noncomputable def QiJ (a : QO) : Pn True (lw 3 98) (Sum.elim (fun a => (Ex.norm,ER a)) Qbh) := (pH Zk a.h5.S.Args (pA (decide (a.x9 < (((a.h5.S.Args.length) : Nat) : Int))) (pA (decide (0 ≤ a.x9)) (pI Zk a.h5.S.Args a.x9 fun e1 => (pA (decide (e1.Reg < 0)) (Qdd e1.E a.h5.At a.x2 fun r2 => (let u183 := (r2.2 == 4); pA u183 (pYN 4 u183 (fun g => g.2) (let u182 := (a.h5.S.Kind == 9); pA u182 (pYN 3 u182 (fun g => g.2) (Qk9 e1.E a.h0 fun r3 => (pY u182 (fun g => g.2) (pA r3.1 (pR (.inr (.inl (Q4.mk ([] : List Int) (zi 5) r3.2)))) (pA (r2.2 != 0) (pR (.inr (.inl (Q4.mk ([] : List Int) r2.2 r3.2)))) (pZ [[xi r2.1]] (QS [r2.1]) (Jw [r2.1]) (pQ Jh 8 a.r6 [r2.1] (pR (.inl (QO.mk a.x2 (w64 (a.x9 + 1)) r3.2 a.h5 (a.r6 ++ [r2.1]))))))))))) (pNN 4 u182 (fun g => g.2) (pV false rfl (pA (r2.2 != 0) (pR (.inr (.inl (Q4.mk ([] : List Int) r2.2 a.h0)))) (pZ [[xi r2.1]] (QS [r2.1]) (Jw [r2.1]) (pQ Jh 8 a.r6 [r2.1] (pR (.inl (QO.mk a.x2 (w64 (a.x9 + 1)) a.h0 a.h5 (a.r6 ++ [r2.1]))))))))))) (pNN 4 u183 (fun g => g.2) (pNN 6 false (fun _ => rfl) (pA (r2.2 != 0) (pR (.inr (.inl (Q4.mk ([] : List Int) r2.2 a.h0)))) (pZ [[xi r2.1]] (QS [r2.1]) (Jw [r2.1]) (pQ Jh 8 a.r6 [r2.1] (pR (.inl (QO.mk a.x2 (w64 (a.x9 + 1)) a.h0 a.h5 (a.r6 ++ [r2.1]))))))))))) (pZ [[xi e1.Reg]] (QS [e1.Reg]) (Jw [e1.Reg]) (pQ Jh 8 a.r6 [e1.Reg] (pR (.inl (QO.mk a.x2 (w64 (a.x9 + 1)) a.h0 a.h5 (a.r6 ++ [e1.Reg])))))))) pF) (pR (.inr (.inr (JY.mk a.h0 a.h5 a.r6))))))
theorem Jz.ok {a : QO} {r : (Q4 ⊕ JY)} (h : Jz a = some r) : lw 3 98 (loopAt pp 98 5) (ER a) = some (Qbh r) := lpQ QiJ h
noncomputable abbrev ES {Γ : Prop} {ρ R : Type} {en : ρ → R} (a : QO) (k0 : Q4 → Pn Γ (lw 3 98) en) (k1 : JY → Pn Γ (lw 3 98) en) : Pn Γ (lw 3 98) en := p2 (loopAt pp 98 5) (ER a) (Jz a) Qar Qas (fun _ => Jz.ok) k0 k1
def Z2 (C0 : QpD) (C1 : Qla) (C2 : QpG) (L3 : QcG) (a1 : Qf) (a2 : (List Qk)) (h0 : Qc) : Option ((List Int) × Int × Qc) := (bif (a1.S.Kind == 1) then (bif ((Int.tmod a1.At (2 : Int)) == 1) then (some (([] : List Int),(7 : Int),h0)) else ((L3 (QO.mk a2 (0 : Int) h0 a1 ([] : List Int))).bind fun x => Sum.elim (fun (o1 : Q4) => (some (o1.x6,o1.x7,o1.h0))) (fun (o2 : JY) => (bif (o2.h5.S.Kind == 1) then ((C0 o2.h5.S.Op o2.h5 o2.r6).bind fun r3 => (some (r3.1,r3.2,o2.h0))) else (bif (o2.h5.S.Kind == 2) then ((C1 o2.h5).bind fun r4 => ((C0 r4 o2.h5 o2.r6).bind fun r5 => (some (r5.1,r5.2,o2.h0)))) else (bif (o2.h5.S.Kind == 3) then ((C2 o2.r6 (1 : Int) (-128 : Int) (255 : Int)).bind fun r6 => (some (r6.1,r6.2,o2.h0))) else (bif (o2.h5.S.Kind == 4) then ((C2 o2.r6 (2 : Int) (-32768 : Int) (65535 : Int)).bind fun r7 => (some (r7.1,r7.2,o2.h0))) else (bif (o2.h5.S.Kind == 5) then ((C2 o2.r6 (4 : Int) (-2147483648 : Int) (4294967295 : Int)).bind fun r8 => (some (r8.1,r8.2,o2.h0))) else (bif (o2.h5.S.Kind == 6) then (some ((bytesL o2.h5.S.Text),(0 : Int),o2.h0)) else (bif (o2.h5.S.Kind == 8) then (bif (decide (0 ≤ o2.h5.Size ∧ o2.h5.Size = o2.h5.Size ∧ o2.h5.Size * 1 ≤ (most : Int))) then (some ((List.replicate (Int.toNat o2.h5.Size) (0 : Int)),(0 : Int),o2.h0)) else none) else (some (([] : List Int),(0 : Int),o2.h0)))))))))) x)) else (bif (a1.S.Kind == 2) then (bif ((Int.tmod a1.At (2 : Int)) == 1) then (some (([] : List Int),(7 : Int),h0)) else ((L3 (QO.mk a2 (0 : Int) h0 a1 ([] : List Int))).bind fun x => Sum.elim (fun (o9 : Q4) => (some (o9.x6,o9.x7,o9.h0))) (fun (o10 : JY) => (bif (o10.h5.S.Kind == 1) then ((C0 o10.h5.S.Op o10.h5 o10.r6).bind fun r11 => (some (r11.1,r11.2,o10.h0))) else (bif (o10.h5.S.Kind == 2) then ((C1 o10.h5).bind fun r12 => ((C0 r12 o10.h5 o10.r6).bind fun r13 => (some (r13.1,r13.2,o10.h0)))) else (bif (o10.h5.S.Kind == 3) then ((C2 o10.r6 (1 : Int) (-128 : Int) (255 : Int)).bind fun r14 => (some (r14.1,r14.2,o10.h0))) else (bif (o10.h5.S.Kind == 4) then ((C2 o10.r6 (2 : Int) (-32768 : Int) (65535 : Int)).bind fun r15 => (some (r15.1,r15.2,o10.h0))) else (bif (o10.h5.S.Kind == 5) then ((C2 o10.r6 (4 : Int) (-2147483648 : Int) (4294967295 : Int)).bind fun r16 => (some (r16.1,r16.2,o10.h0))) else (bif (o10.h5.S.Kind == 6) then (some ((bytesL o10.h5.S.Text),(0 : Int),o10.h0)) else (bif (o10.h5.S.Kind == 8) then (bif (decide (0 ≤ o10.h5.Size ∧ o10.h5.Size = o10.h5.Size ∧ o10.h5.Size * 1 ≤ (most : Int))) then (some ((List.replicate (Int.toNat o10.h5.Size) (0 : Int)),(0 : Int),o10.h0)) else none) else (some (([] : List Int),(0 : Int),o10.h0)))))))))) x)) else ((L3 (QO.mk a2 (0 : Int) h0 a1 ([] : List Int))).bind fun x => Sum.elim (fun (o17 : Q4) => (some (o17.x6,o17.x7,o17.h0))) (fun (o18 : JY) => (bif (o18.h5.S.Kind == 1) then ((C0 o18.h5.S.Op o18.h5 o18.r6).bind fun r19 => (some (r19.1,r19.2,o18.h0))) else (bif (o18.h5.S.Kind == 2) then ((C1 o18.h5).bind fun r20 => ((C0 r20 o18.h5 o18.r6).bind fun r21 => (some (r21.1,r21.2,o18.h0)))) else (bif (o18.h5.S.Kind == 3) then ((C2 o18.r6 (1 : Int) (-128 : Int) (255 : Int)).bind fun r22 => (some (r22.1,r22.2,o18.h0))) else (bif (o18.h5.S.Kind == 4) then ((C2 o18.r6 (2 : Int) (-32768 : Int) (65535 : Int)).bind fun r23 => (some (r23.1,r23.2,o18.h0))) else (bif (o18.h5.S.Kind == 5) then ((C2 o18.r6 (4 : Int) (-2147483648 : Int) (4294967295 : Int)).bind fun r24 => (some (r24.1,r24.2,o18.h0))) else (bif (o18.h5.S.Kind == 6) then (some ((bytesL o18.h5.S.Text),(0 : Int),o18.h0)) else (bif (o18.h5.S.Kind == 8) then (bif (decide (0 ≤ o18.h5.Size ∧ o18.h5.Size = o18.h5.Size ∧ o18.h5.Size * 1 ≤ (most : Int))) then (some ((List.replicate (Int.toNat o18.h5.Size) (0 : Int)),(0 : Int),o18.h0)) else none) else (some (([] : List Int),(0 : Int),o18.h0)))))))))) x)))
noncomputable def Wo : Qf7 := Z2 Z1 FT Gr Jz
theorem Wo.eq (a1 : Qf) (a2 : (List Qk)) (h0 : Qc) : Wo a1 a2 h0 = Z2 Z1 FT Gr Jz a1 a2 h0 := rfl
noncomputable def Qmb (a1 : Qf) (a2 : (List Qk)) (h0 : Qc) : Pn True (lw 3 98) Sp := (let u185 := (a1.S.Kind == 1); pA u185 (pYN 4 u185 (fun g => g.2) (pYN 3 true (fun _ => rfl) (pU (decide ((zi 2) ≠ 0)) rfl (pYN 2 true (fun _ => rfl) (pA ((Int.tmod a1.At (zi 2)) == 1) (pR (([] : List Int),(zi 7),h0)) (ES (QO.mk a2 i0 h0 a1 ([] : List Int)) (fun o1 => (pR (o1.x6,o1.x7,o1.h0))) (fun o2 => (pA (o2.h5.S.Kind == 1) (FS o2.h5.S.Op o2.h5 o2.r6 fun r3 => (pR (r3.1,r3.2,o2.h0))) (pA (o2.h5.S.Kind == 2) (QdK o2.h5 fun r4 => (FS r4 o2.h5 o2.r6 fun r5 => (pR (r5.1,r5.2,o2.h0)))) (pA (o2.h5.S.Kind == 3) (Zt o2.r6 (zi 1) (-128 : Int) (zi 255) fun r6 => (pR (r6.1,r6.2,o2.h0))) (pA (o2.h5.S.Kind == 4) (Zt o2.r6 (zi 2) (-32768 : Int) (zi 65535) fun r7 => (pR (r7.1,r7.2,o2.h0))) (pA (o2.h5.S.Kind == 5) (Zt o2.r6 (zi 4) (-2147483648 : Int) (zi 4294967295) fun r8 => (pR (r8.1,r8.2,o2.h0))) (pA (o2.h5.S.Kind == 6) (pZ (byteRows o2.h5.S.Text.data.toList) (R_u8 (bytesL o2.h5.S.Text)) (QeV _) (pR ((bytesL o2.h5.S.Text),i0,o2.h0))) (pA (o2.h5.S.Kind == 8) (pA (decide (0 ≤ o2.h5.Size ∧ o2.h5.Size = o2.h5.Size ∧ o2.h5.Size * 1 ≤ (most : Int))) (pZ (List.replicate (Int.toNat o2.h5.Size) [xb i0]) (R_u8 (List.replicate (Int.toNat o2.h5.Size) i0)) (QjB _ _) (pR ((List.replicate (Int.toNat o2.h5.Size) i0),i0,o2.h0))) pF) (pR (([] : List Int),i0,o2.h0)))))))))))))))) (pNN 4 u185 (fun g => g.2) (let u184 := (a1.S.Kind == 2); pA u184 (pYN 2 u184 (fun g => g.2) (pU (decide ((zi 2) ≠ 0)) rfl (pYN 2 u184 (fun g => g.2) (pA ((Int.tmod a1.At (zi 2)) == 1) (pR (([] : List Int),(zi 7),h0)) (ES (QO.mk a2 i0 h0 a1 ([] : List Int)) (fun o9 => (pR (o9.x6,o9.x7,o9.h0))) (fun o10 => (pA (o10.h5.S.Kind == 1) (FS o10.h5.S.Op o10.h5 o10.r6 fun r11 => (pR (r11.1,r11.2,o10.h0))) (pA (o10.h5.S.Kind == 2) (QdK o10.h5 fun r12 => (FS r12 o10.h5 o10.r6 fun r13 => (pR (r13.1,r13.2,o10.h0)))) (pA (o10.h5.S.Kind == 3) (Zt o10.r6 (zi 1) (-128 : Int) (zi 255) fun r14 => (pR (r14.1,r14.2,o10.h0))) (pA (o10.h5.S.Kind == 4) (Zt o10.r6 (zi 2) (-32768 : Int) (zi 65535) fun r15 => (pR (r15.1,r15.2,o10.h0))) (pA (o10.h5.S.Kind == 5) (Zt o10.r6 (zi 4) (-2147483648 : Int) (zi 4294967295) fun r16 => (pR (r16.1,r16.2,o10.h0))) (pA (o10.h5.S.Kind == 6) (pZ (byteRows o10.h5.S.Text.data.toList) (R_u8 (bytesL o10.h5.S.Text)) (QeV _) (pR ((bytesL o10.h5.S.Text),i0,o10.h0))) (pA (o10.h5.S.Kind == 8) (pA (decide (0 ≤ o10.h5.Size ∧ o10.h5.Size = o10.h5.Size ∧ o10.h5.Size * 1 ≤ (most : Int))) (pZ (List.replicate (Int.toNat o10.h5.Size) [xb i0]) (R_u8 (List.replicate (Int.toNat o10.h5.Size) i0)) (QjB _ _) (pR ((List.replicate (Int.toNat o10.h5.Size) i0),i0,o10.h0))) pF) (pR (([] : List Int),i0,o10.h0))))))))))))))) (pNN 4 u184 (fun g => g.2) (pV false rfl (ES (QO.mk a2 i0 h0 a1 ([] : List Int)) (fun o17 => (pR (o17.x6,o17.x7,o17.h0))) (fun o18 => (pA (o18.h5.S.Kind == 1) (FS o18.h5.S.Op o18.h5 o18.r6 fun r19 => (pR (r19.1,r19.2,o18.h0))) (pA (o18.h5.S.Kind == 2) (QdK o18.h5 fun r20 => (FS r20 o18.h5 o18.r6 fun r21 => (pR (r21.1,r21.2,o18.h0)))) (pA (o18.h5.S.Kind == 3) (Zt o18.r6 (zi 1) (-128 : Int) (zi 255) fun r22 => (pR (r22.1,r22.2,o18.h0))) (pA (o18.h5.S.Kind == 4) (Zt o18.r6 (zi 2) (-32768 : Int) (zi 65535) fun r23 => (pR (r23.1,r23.2,o18.h0))) (pA (o18.h5.S.Kind == 5) (Zt o18.r6 (zi 4) (-2147483648 : Int) (zi 4294967295) fun r24 => (pR (r24.1,r24.2,o18.h0))) (pA (o18.h5.S.Kind == 6) (pZ (byteRows o18.h5.S.Text.data.toList) (R_u8 (bytesL o18.h5.S.Text)) (QeV _) (pR ((bytesL o18.h5.S.Text),i0,o18.h0))) (pA (o18.h5.S.Kind == 8) (pA (decide (0 ≤ o18.h5.Size ∧ o18.h5.Size = o18.h5.Size ∧ o18.h5.Size * 1 ≤ (most : Int))) (pZ (List.replicate (Int.toNat o18.h5.Size) [xb i0]) (R_u8 (List.replicate (Int.toNat o18.h5.Size) i0)) (QjB _ _) (pR ((List.replicate (Int.toNat o18.h5.Size) i0),i0,o18.h0))) pF) (pR (([] : List Int),i0,o18.h0))))))))))))))))
theorem Wo.ok {a1 : Qf} {a2 : (List Qk)} {h0 : Qc} {r : ((List Int) × Int × Qc)} (h : Wo a1 a2 h0 = some r) : ww 98 [.ptr 0 0,.agg (WE a1),.sl (Ql a2)] [(0,.box [0,112,103] [.sl (Ql h0.Syms),.arr 1,.arr 2]),(1,.arr false 12 (Qh h0.L)),(2,.arr false 3 (Qp h0.D))] = some (Sp r) := fnQ (Qmb a1 a2 h0) h
noncomputable abbrev Qmc {Γ : Prop} {lp : Loops} {ρ R : Type} {en : ρ → R} (a1 : Qf) (a2 : (List Qk)) (h0 : Qc) (k : ((List Int) × Int × Qc) → Pn Γ lp en) : Pn Γ lp en := pC (ww 98 [.ptr 0 0,.agg (WE a1),.sl (Ql a2)] [(0,.box [0,112,103] [.sl (Ql h0.Syms),.arr 1,.arr 2]),(1,.arr false 12 (Qh h0.L)),(2,.arr false 3 (Qp h0.D))]) (Wo a1 a2 h0) Sp (fun _ => Wo.ok) k
def QjT (r : ((List Int) × (List Qk) × Qc)) : AV × Heap := (.tup [.ptr 0 0,.sl (R_u8 r.1),.sl (Ql r.2.1)],[(0,.box [0,112,103] [.sl (Ql r.2.2.Syms),.arr 1,.arr 2]),(1,.arr false 12 (Qh r.2.2.L)),(2,.arr false 3 (Qp r.2.2.D))])
abbrev Qrp := (List Qg) → (List Qk) → Option ((List Int) × (List Qk) × Qc)
structure V5 where
 x8 : (List Qk)
 x10 : Int
 x11 : (List Int)
 h0 : Qc
 r1 : (List Int)
structure XX where
 x8 : (List Qk)
 x10 : Int
 x11 : (List Int)
 h0 : Qc
 r1 : (List Int)
def QdL (a : V5) : St := { n := 140,nx := 4,env := [(7,.ptr 0 0),(8,.sl (Ql a.x8)),(9,.arr 1),(10,xi a.x10),(11,.sl (R_u8 a.x11))],heap := [(0,.box [0,112,103] [.sl (Ql a.h0.Syms),.arr 2,.arr 3]),(1,.arr false 1 (R_u8 a.r1)),(2,.arr false 12 (Qh a.h0.L)),(3,.arr false 3 (Qp a.h0.D))] }
def QdM (a : XX) : Ex × St := (.exit 2,{ n := 140,nx := 4,env := [(7,.ptr 0 0),(8,.sl (Ql a.x8)),(9,.arr 1),(10,xi a.x10),(11,.sl (R_u8 a.x11))],heap := [(0,.box [0,112,103] [.sl (Ql a.h0.Syms),.arr 2,.arr 3]),(1,.arr false 1 (R_u8 a.r1)),(2,.arr false 12 (Qh a.h0.L)),(3,.arr false 3 (Qp a.h0.D))] })
abbrev Qlb := V5 → Option XX
def QdN (a : V5) : Option (V5 ⊕ XX) := (bif (decide (0 ≤ a.x10 ∧ a.x10 < ((a.h0.L.length : Nat) : Int))) then ((a.h0.L[(Int.toNat a.x10)]?).bind fun e1 => (bif (decide ((((a.r1.length) : Nat) : Int) < e1.At)) then (bif (decide ((a.r1.length + [(0 : Int)].length) * 1 ≤ most)) then (some (.inl (V5.mk a.x8 a.x10 a.x11 a.h0 (a.r1 ++ [(0 : Int)])))) else none) else (some (.inr (XX.mk a.x8 a.x10 a.x11 a.h0 a.r1))))) else none)
noncomputable def Yl : Qlb := loopW (QdN )
theorem Yl.eq (a : V5) : Yl a = (QdN a).bind (Sum.elim Yl some) := QK _ _
noncomputable def Qq4 (a : V5) : Pn True (lw 0 49) (Sum.elim (fun a => (Ex.norm,QdL a)) QdM) := (pH E_u8 a.r1 (pG Qy a.h0.L a.x10 (pI Qy a.h0.L a.x10 fun e1 => (pA (decide ((((a.r1.length) : Nat) : Int) < e1.At)) (pZ [[xb i0]] (R_u8 [i0]) (YL [i0]) (pQ E_u8 1 a.r1 [i0] (pR (.inl (V5.mk a.x8 a.x10 a.x11 a.h0 (a.r1 ++ [i0])))))) (pR (.inr (XX.mk a.x8 a.x10 a.x11 a.h0 a.r1))))) pF))
theorem Yl.ok {a : V5} {r : XX} (h : Yl a = some r) : lw 0 49 (loopAt pp 49 19) (QdL a) = some (QdM r) := lpQ Qq4 h
noncomputable abbrev Qjl {Γ : Prop} {ρ R : Type} {en : ρ → R} (a : V5) (k0 : XX → Pn Γ (lw 0 49) en) : Pn Γ (lw 0 49) en := p1 (loopAt pp 49 19) (QdL a) (Yl a) QdM (fun _ => Yl.ok) k0
structure WC where
 x8 : (List Qk)
 x10 : Int
 h0 : Qc
 r1 : (List Int)
structure XY where
 x8 : (List Qk)
 x10 : Int
 h0 : Qc
 r1 : (List Int)
def QdO (a : WC) : St := { n := 140,nx := 4,env := [(7,.ptr 0 0),(8,.sl (Ql a.x8)),(9,.arr 1),(10,xi a.x10)],heap := [(0,.box [0,112,103] [.sl (Ql a.h0.Syms),.arr 2,.arr 3]),(1,.arr false 1 (R_u8 a.r1)),(2,.arr false 12 (Qh a.h0.L)),(3,.arr false 3 (Qp a.h0.D))] }
def QdP (a : XY) : Ex × St := (.exit 4,{ n := 140,nx := 4,env := [(7,.ptr 0 0),(8,.sl (Ql a.x8)),(9,.arr 1),(10,xi a.x10)],heap := [(0,.box [0,112,103] [.sl (Ql a.h0.Syms),.arr 2,.arr 3]),(1,.arr false 1 (R_u8 a.r1)),(2,.arr false 12 (Qh a.h0.L)),(3,.arr false 3 (Qp a.h0.D))] })
abbrev Qlc := WC → Option XY
def Qq5 (a : WC) : Option (WC ⊕ XY) := (bif (decide (0 ≤ a.x10 ∧ a.x10 < ((a.h0.L.length : Nat) : Int))) then ((a.h0.L[(Int.toNat a.x10)]?).bind fun e1 => (bif (decide (e1.Size ≠ 0)) then (bif ((Int.tmod (((a.r1.length) : Nat) : Int) e1.Size) != 0) then (bif (decide ((a.r1.length + [(0 : Int)].length) * 1 ≤ most)) then (some (.inl (WC.mk a.x8 a.x10 a.h0 (a.r1 ++ [(0 : Int)])))) else none) else (some (.inr (XY.mk a.x8 a.x10 a.h0 a.r1)))) else none)) else none)
noncomputable def FU : Qlc := loopW (Qq5 )
noncomputable def Qq6 (a : WC) : Pn True (lw 0 49) (Sum.elim (fun a => (Ex.norm,QdO a)) QdP) := (pH E_u8 a.r1 (pG Qy a.h0.L a.x10 (pI Qy a.h0.L a.x10 fun e1 => (pA (decide (e1.Size ≠ 0)) (pA ((Int.tmod (((a.r1.length) : Nat) : Int) e1.Size) != 0) (pZ [[xb i0]] (R_u8 [i0]) (YL [i0]) (pQ E_u8 1 a.r1 [i0] (pR (.inl (WC.mk a.x8 a.x10 a.h0 (a.r1 ++ [i0])))))) (pR (.inr (XY.mk a.x8 a.x10 a.h0 a.r1)))) pF)) pF))
theorem FU.ok {a : WC} {r : XY} (h : FU a = some r) : lw 0 49 (loopAt pp 49 23) (QdO a) = some (QdP r) := lpQ Qq6 h
noncomputable abbrev Qjm {Γ : Prop} {ρ R : Type} {en : ρ → R} (a : WC) (k0 : XY → Pn Γ (lw 0 49) en) : Pn Γ (lw 0 49) en := p1 (loopAt pp 49 23) (QdO a) (FU a) QdP (fun _ => FU.ok) k0
structure JK where
 x8 : (List Qk)
 x10 : Int
 h0 : Qc
 r1 : (List Int)
structure Xq where
 x8 : (List Qk)
 h0 : Qc
 r1 : (List Int)
def QdQ (a : JK) : St := { n := 140,nx := 4,env := [(7,.ptr 0 0),(8,.sl (Ql a.x8)),(9,.arr 1),(10,xi a.x10)],heap := [(0,.box [0,112,103] [.sl (Ql a.h0.Syms),.arr 2,.arr 3]),(1,.arr false 1 (R_u8 a.r1)),(2,.arr false 12 (Qh a.h0.L)),(3,.arr false 3 (Qp a.h0.D))] }
def QdR (a : Xq) : Ex × St := (.exit 0,{ n := 140,nx := 4,env := [(7,.ptr 0 0),(8,.sl (Ql a.x8)),(9,.arr 1)],heap := [(0,.box [0,112,103] [.sl (Ql a.h0.Syms),.arr 2,.arr 3]),(1,.arr false 1 (R_u8 a.r1)),(2,.arr false 12 (Qh a.h0.L)),(3,.arr false 3 (Qp a.h0.D))] })
abbrev Qld := JK → Option Xq
def SI (C0 : Qf7) (C1 : Ze) (L2 : Qlb) (L3 : Qlc) (a : JK) : Option (JK ⊕ Xq) := (bif (decide (a.x10 < (((a.h0.L.length) : Nat) : Int))) then (bif (decide (0 ≤ a.x10 ∧ a.x10 < ((a.h0.L.length : Nat) : Int))) then ((a.h0.L[(Int.toNat a.x10)]?).bind fun e1 => ((C0 e1 a.x8 a.h0).bind fun r2 => (bif (r2.2.1 != 0) then (bif (decide (0 ≤ a.x10 ∧ a.x10 < ((r2.2.2.L.length : Nat) : Int))) then ((r2.2.2.L[(Int.toNat a.x10)]?).bind fun e3 => ((r2.2.2.L[(Int.toNat a.x10)]?).bind fun e4 => ((C1 e3.Frag e4.S.Line r2.2.1 r2.2.2).bind fun r5 => ((L2 (V5.mk a.x8 a.x10 r2.1 r5 a.r1)).bind (fun (o6 : XX) => (bif (decide ((o6.r1.length + o6.x11.length) * 1 ≤ most)) then (bif (decide (0 ≤ o6.x10 ∧ o6.x10 < ((o6.h0.L.length : Nat) : Int))) then ((o6.h0.L[(Int.toNat o6.x10)]?).bind fun e7 => (bif (e7.S.Kind == 7) then ((L3 (WC.mk o6.x8 o6.x10 o6.h0 (o6.r1 ++ o6.x11))).bind (fun (o8 : XY) => (some (.inl (JK.mk o8.x8 (w64 (o8.x10 + 1)) o8.h0 o8.r1))))) else (some (.inl (JK.mk o6.x8 (w64 (o6.x10 + 1)) o6.h0 (o6.r1 ++ o6.x11)))))) else none) else none)))))) else none) else ((L2 (V5.mk a.x8 a.x10 r2.1 r2.2.2 a.r1)).bind (fun (o9 : XX) => (bif (decide ((o9.r1.length + o9.x11.length) * 1 ≤ most)) then (bif (decide (0 ≤ o9.x10 ∧ o9.x10 < ((o9.h0.L.length : Nat) : Int))) then ((o9.h0.L[(Int.toNat o9.x10)]?).bind fun e10 => (bif (e10.S.Kind == 7) then ((L3 (WC.mk o9.x8 o9.x10 o9.h0 (o9.r1 ++ o9.x11))).bind (fun (o11 : XY) => (some (.inl (JK.mk o11.x8 (w64 (o11.x10 + 1)) o11.h0 o11.r1))))) else (some (.inl (JK.mk o9.x8 (w64 (o9.x10 + 1)) o9.h0 (o9.r1 ++ o9.x11)))))) else none) else none)))))) else none) else (some (.inr (Xq.mk a.x8 a.h0 a.r1))))
noncomputable def XG : Qld := loopW (SI Wo VW Yl FU)
theorem XG.eq (a : JK) : XG a = (SI Wo VW Yl FU a).bind (Sum.elim XG some) := QK _ _
noncomputable def Qq7 (a : JK) : Pn True (lw 0 49) (Sum.elim (fun a => (Ex.norm,QdQ a)) QdR) := (pH Qy a.h0.L (pA (decide (a.x10 < (((a.h0.L.length) : Nat) : Int))) (pG Qy a.h0.L a.x10 (pI Qy a.h0.L a.x10 fun e1 => (Qmc e1 a.x8 a.h0 fun r2 => (pA (r2.2.1 != 0) (pG Qy r2.2.2.L a.x10 (pI Qy r2.2.2.L a.x10 fun e3 => (pY (in1 a.x10 (((Qh r2.2.2.L).length : Nat) : Int)) (fun g => (show (in1 a.x10 (((Qh r2.2.2.L).length : Nat) : Int)) = (in1 a.x10 ((r2.2.2.L.length : Nat) : Int)) from (by rw [JD])).trans g.2) (pI Qy r2.2.2.L a.x10 fun e4 => (VX e3.Frag e4.S.Line r2.2.1 r2.2.2 fun r5 => (Qjl (V5.mk a.x8 a.x10 r2.1 r5 a.r1) (fun o6 => (pQ E_u8 1 o6.r1 o6.x11 (pG Qy o6.h0.L o6.x10 (pI Qy o6.h0.L o6.x10 fun e7 => (pA (e7.S.Kind == 7) (Qjm (WC.mk o6.x8 o6.x10 o6.h0 (o6.r1 ++ o6.x11)) (fun o8 => (pR (.inl (JK.mk o8.x8 (w64 (o8.x10 + 1)) o8.h0 o8.r1))))) (pR (.inl (JK.mk o6.x8 (w64 (o6.x10 + 1)) o6.h0 (o6.r1 ++ o6.x11)))))) pF)))))))) pF) (Qjl (V5.mk a.x8 a.x10 r2.1 r2.2.2 a.r1) (fun o9 => (pQ E_u8 1 o9.r1 o9.x11 (pG Qy o9.h0.L o9.x10 (pI Qy o9.h0.L o9.x10 fun e10 => (pA (e10.S.Kind == 7) (Qjm (WC.mk o9.x8 o9.x10 o9.h0 (o9.r1 ++ o9.x11)) (fun o11 => (pR (.inl (JK.mk o11.x8 (w64 (o11.x10 + 1)) o11.h0 o11.r1))))) (pR (.inl (JK.mk o9.x8 (w64 (o9.x10 + 1)) o9.h0 (o9.r1 ++ o9.x11)))))) pF))))))) pF) (pR (.inr (Xq.mk a.x8 a.h0 a.r1)))))
theorem XG.ok {a : JK} {r : Xq} (h : XG a = some r) : lw 0 49 (loopAt pp 49 14) (QdQ a) = some (QdR r) := lpQ Qq7 h
noncomputable abbrev QdS {Γ : Prop} {ρ R : Type} {en : ρ → R} (a : JK) (k0 : Xq → Pn Γ (lw 0 49) en) : Pn Γ (lw 0 49) en := p1 (loopAt pp 49 14) (QdQ a) (XG a) QdR (fun _ => XG.ok) k0
def QjU (C0 : Qf0) (C1 : Qez) (C2 : QeB) (C3 : QhP) (L4 : Qld) (a0 : (List Qg)) (a1 : (List Qk)) : Option ((List Int) × (List Qk) × Qc) := ((C0 a0 (Qc.mk a1 ([] : List Qf) ([] : List Q5))).bind fun r1 => (bif ((((r1.D.length) : Nat) : Int) == 0) then ((C1 r1).bind fun r2 => (bif ((((r2.D.length) : Nat) : Int) == 0) then ((C2 r2).bind fun r3 => (bif (decide ((((r3.D.length) : Nat) : Int) > 0)) then (some (([] : List Int),([] : List Qk),r3)) else ((C3 r3).bind fun r4 => (bif (decide ((((r4.2.D.length) : Nat) : Int) > 0)) then (some (([] : List Int),([] : List Qk),r4.2)) else ((L4 (JK.mk r4.1 (0 : Int) r4.2 ([] : List Int))).bind (fun (o5 : Xq) => (some (o5.r1,o5.x8,o5.h0)))))))) else (bif (decide ((((r2.D.length) : Nat) : Int) > 0)) then (some (([] : List Int),([] : List Qk),r2)) else ((C3 r2).bind fun r6 => (bif (decide ((((r6.2.D.length) : Nat) : Int) > 0)) then (some (([] : List Int),([] : List Qk),r6.2)) else ((L4 (JK.mk r6.1 (0 : Int) r6.2 ([] : List Int))).bind (fun (o7 : Xq) => (some (o7.r1,o7.x8,o7.h0))))))))) else (bif (decide ((((r1.D.length) : Nat) : Int) > 0)) then (some (([] : List Int),([] : List Qk),r1)) else ((C3 r1).bind fun r8 => (bif (decide ((((r8.2.D.length) : Nat) : Int) > 0)) then (some (([] : List Int),([] : List Qk),r8.2)) else ((L4 (JK.mk r8.1 (0 : Int) r8.2 ([] : List Int))).bind (fun (o9 : Xq) => (some (o9.r1,o9.x8,o9.h0)))))))))
noncomputable def E4 : Qrp := QjU Xm W9 Xa XK XG
theorem E4.eq (a0 : (List Qg)) (a1 : (List Qk)) : E4 a0 a1 = QjU Xm W9 Xa XK XG a0 a1 := rfl
noncomputable def QvW (a0 : (List Qg)) (a1 : (List Qk)) : Pn True (lw 0 49) QjT := (Ql6 a0 (Qc.mk a1 ([] : List Qf) ([] : List Q5)) fun r1 => (pH Xr r1.D (let u186 := ((((r1.D.length) : Nat) : Int) == 0); pA u186 (QkZ r1 fun r2 => (pH Xr r2.D (pA ((((r2.D.length) : Nat) : Int) == 0) (Qk4 r2 fun r3 => (pH Xr r3.D (pA (decide ((((r3.D.length) : Nat) : Int) > 0)) (pR (([] : List Int),([] : List Qk),r3)) (QaS r3 fun r4 => (pH Xr r4.2.D (pA (decide ((((r4.2.D.length) : Nat) : Int) > 0)) (pR (([] : List Int),([] : List Qk),r4.2)) (QdS (JK.mk r4.1 i0 r4.2 ([] : List Int)) (fun o5 => (pR (o5.r1,o5.x8,o5.h0)))))))))) (pH Xr r2.D (pA (decide ((((r2.D.length) : Nat) : Int) > 0)) (pR (([] : List Int),([] : List Qk),r2)) (QaS r2 fun r6 => (pH Xr r6.2.D (pA (decide ((((r6.2.D.length) : Nat) : Int) > 0)) (pR (([] : List Int),([] : List Qk),r6.2)) (QdS (JK.mk r6.1 i0 r6.2 ([] : List Int)) (fun o7 => (pR (o7.r1,o7.x8,o7.h0)))))))))))) (pH Xr r1.D (pN u186 (fun g => g.2) (pH Xr r1.D (pA (decide ((((r1.D.length) : Nat) : Int) > 0)) (pR (([] : List Int),([] : List Qk),r1)) (QaS r1 fun r8 => (pH Xr r8.2.D (pA (decide ((((r8.2.D.length) : Nat) : Int) > 0)) (pR (([] : List Int),([] : List Qk),r8.2)) (QdS (JK.mk r8.1 i0 r8.2 ([] : List Int)) (fun o9 => (pR (o9.r1,o9.x8,o9.h0))))))))))))))
theorem E4.ok {a0 : (List Qg)} {a1 : (List Qk)} {r : ((List Int) × (List Qk) × Qc)} (h : E4 a0 a1 = some r) : ww 49 [.sl (QL a0),.sl (Ql a1)] [] = some (QjT r) := fnQ (QvW a0 a1) h
noncomputable abbrev QvX {Γ : Prop} {lp : Loops} {ρ R : Type} {en : ρ → R} (a0 : (List Qg)) (a1 : (List Qk)) (k : ((List Int) × (List Qk) × Qc) → Pn Γ lp en) : Pn Γ lp en := pC (ww 49 [.sl (QL a0),.sl (Ql a1)] []) (E4 a0 a1) QjT (fun _ => E4.ok) k
def QaZ (r : ((List Int) × (List Q5))) : AV × Heap := (.tup [.sl (R_u8 r.1),.sl (Qp r.2)],[])
abbrev Qh7 := (List Qg) → (List Qk) → Option ((List Int) × (List Q5))
def Qa0 (C0 : Qrp) (a0 : (List Qg)) (a1 : (List Qk)) : Option ((List Int) × (List Q5)) := ((C0 a0 a1).bind fun r1 => (bif (decide ((((r1.2.2.D.length) : Nat) : Int) > 0)) then (some (([] : List Int),r1.2.2.D)) else (some (r1.1,([] : List Q5)))))
noncomputable def XL : Qh7 := Qa0 E4
theorem XL.eq (a0 : (List Qg)) (a1 : (List Qk)) : XL a0 a1 = Qa0 E4 a0 a1 := rfl
noncomputable def Qom (a0 : (List Qg)) (a1 : (List Qk)) : Pn True (lw 0 18) QaZ := (QvX a0 a1 fun r1 => (pH Xr r1.2.2.D (pA (decide ((((r1.2.2.D.length) : Nat) : Int) > 0)) (pR (([] : List Int),r1.2.2.D)) (pR (r1.1,([] : List Q5))))))
theorem XL.ok {a0 : (List Qg)} {a1 : (List Qk)} {r : ((List Int) × (List Q5))} (h : XL a0 a1 = some r) : ww 18 [.sl (QL a0),.sl (Ql a1)] [] = some (QaZ r) := fnQ (Qom a0 a1) h
noncomputable abbrev Qon {Γ : Prop} {lp : Loops} {ρ R : Type} {en : ρ → R} (a0 : (List Qg)) (a1 : (List Qk)) (k : ((List Int) × (List Q5)) → Pn Γ lp en) : Pn Γ lp en := pC (ww 18 [.sl (QL a0),.sl (Ql a1)] []) (XL a0 a1) QaZ (fun _ => XL.ok) k
abbrev Qq8 := (List Int) → (List Int) → (List Int) → Option Bool
structure Jq where
 x7 : (List (List Int))
 x8 : Int
def PT (a : Jq) : St := { n := 57,nx := 0,env := [(7,.sl (Qoq a.x7)),(8,xi a.x8)],heap := [] }
def QcH (a : Bool) : Ex × St := (.ret,{ n := 57,nx := 0,env := [(6,xo a)],heap := [] })
def QcI (a : Unit) : Ex × St := (.exit 0,{ n := 57,nx := 0,env := [],heap := [] })
def Qdi : (Bool ⊕ Unit) → Ex × St := Sum.elim QcH QcI
abbrev QeD := Jq → Option (Bool ⊕ Unit)
def GN (C0 : QkO) (C1 : Qh7) (a : Jq) : Option (Jq ⊕ (Bool ⊕ Unit)) := (bif (decide (a.x8 < 2)) then (bif (decide (0 ≤ a.x8)) then ((a.x7[(Int.toNat a.x8)]?).bind fun e1 => ((C0 e1).bind fun r2 => (bif (decide ((((e1.length) : Nat) : Int) > 4096)) then (some (.inl (Jq.mk a.x7 (w64 (a.x8 + 1))))) else (bif (decide ((((r2.length) : Nat) : Int) > 20)) then (some (.inl (Jq.mk a.x7 (w64 (a.x8 + 1))))) else ((C1 r2 ([] : List Qk)).bind fun r3 => (bif ((((r3.2.length) : Nat) : Int) != 0) then (some (.inr (.inl false))) else ((some (listB r3.1)).bind fun e4 => ((some (listB e1)).bind fun e5 => (bif (!(eqS (⟨e4.toArray⟩ : ByteArray) (⟨e5.toArray⟩ : ByteArray))) then (some (.inr (.inl false))) else (some (.inl (Jq.mk a.x7 (w64 (a.x8 + 1)))))))))))))) else none) else (some (.inr (.inr ()))))
noncomputable def UB : QeD := loopW (GN YB XL)
theorem UB.eq (a : Jq) : UB a = (GN YB XL a).bind (Sum.elim UB some) := QK _ _
noncomputable def Qle (a : Jq) : Pn True (lw 0 3) (Sum.elim (fun a => (Ex.norm,PT a)) Qdi) := (pA (decide (a.x8 < 2)) (pA (decide (0 ≤ a.x8)) (pI Qyk a.x7 a.x8 fun e1 => (QqL e1 fun r2 => (pH E_u8 e1 (let u188 := (decide ((((e1.length) : Nat) : Int) > 4096)); pA u188 (pYN 3 u188 (fun g => g.2) (pU true rfl (pR (.inl (Jq.mk a.x7 (w64 (a.x8 + 1))))))) (pN u188 (fun g => g.2) (pH UY r2 (pNN 2 u188 (fun g => g.2) (pA (decide ((((r2.length) : Nat) : Int) > 20)) (pR (.inl (Jq.mk a.x7 (w64 (a.x8 + 1))))) (Qon r2 ([] : List Qk) fun r3 => (pH Xr r3.2 (let u187 := ((((r3.2.length) : Nat) : Int) != 0); pA u187 (pYN 5 u187 (fun g => g.2) (pU true rfl (pR (.inr (.inl false))))) (pN u187 (fun g => g.2) (pT (bytesOfRows (R_u8 r3.1)) (some (listB r3.1)) (fun _ h => (QmR _).trans h) fun e4 => (pNN 2 u187 (fun g => g.2) (pT (bytesOfRows (R_u8 e1)) (some (listB e1)) (fun _ h => (QmR _).trans h) fun e5 => (pNN 2 u187 (fun g => g.2) (pA (!(eqS (⟨e4.toArray⟩ : ByteArray) (⟨e5.toArray⟩ : ByteArray))) (pR (.inr (.inl false))) (pR (.inl (Jq.mk a.x7 (w64 (a.x8 + 1)))))))))))))))))))))) pF) (pR (.inr (.inr ()))))
theorem UB.ok {a : Jq} {r : (Bool ⊕ Unit)} (h : UB a = some r) : lw 0 3 (loopAt pp 3 7) (PT a) = some (Qdi r) := lpQ Qle h
noncomputable abbrev Qlf {Γ : Prop} {ρ R : Type} {en : ρ → R} (a : Jq) (k0 : Bool → Pn Γ (lw 0 3) en) (k1 : Unit → Pn Γ (lw 0 3) en) : Pn Γ (lw 0 3) en := p2 (loopAt pp 3 7) (PT a) (UB a) QcH QcI (fun _ => UB.ok) k0 k1
def QcJ (C0 : Qt1) (C1 : QmV) (L2 : QeD) (a0 : (List Int)) (a1 : (List Int)) (a2 : (List Int)) : Option Bool := ((C0).bind fun r1 => (bif (!r1) then (some false) else (bif (decide ((((a2.length) : Nat) : Int) > 100)) then (some true) else ((C1 a0 a1 a2).bind fun r2 => ((L2 (Jq.mk [r2,a2] (0 : Int))).bind fun x => Sum.elim (fun (o3 : Bool) => (some o3)) (fun (o4 : Unit) => (some true)) x)))))
noncomputable def Ye : Qq8 := QcJ Fk Zx UB
theorem Ye.eq (a0 : (List Int)) (a1 : (List Int)) (a2 : (List Int)) : Ye a0 a1 a2 = QcJ Fk Zx UB a0 a1 a2 := rfl
noncomputable def QpJ (a0 : (List Int)) (a1 : (List Int)) (a2 : (List Int)) : Pn True (lw 0 3) QF := (Qsx fun r1 => (pA (!r1) (pR false) (pH E_u8 a2 (pA (decide ((((a2.length) : Nat) : Int) > 100)) (pR true) (QsG a0 a1 a2 fun r2 => (pZ [[.sl (R_u8 r2)],[.sl (R_u8 a2)]] (Qoq [r2,a2]) (QmQ [r2,a2]) (Qlf (Jq.mk [r2,a2] i0) (fun o3 => (pR o3)) (fun o4 => (pR true)))))))))
theorem Ye.ok {a0 : (List Int)} {a1 : (List Int)} {a2 : (List Int)} {r : Bool} (h : Ye a0 a1 a2 = some r) : ww 3 [.sl (QS a0),.sl (QS a1),.sl (R_u8 a2)] [] = some (QF r) := fnQ (QpJ a0 a1 a2) h
theorem Ye.run (a0 : (List Int)) (a1 : (List Int)) (a2 : (List Int)) {r : Bool} (h : Ye a0 a1 a2 = some r) : ∃ k,evalFn Tryz.prog G k 3 [.sl (QS a0),.sl (QS a1),.sl (R_u8 a2)] [] = some (QF r) := runP (Ye.ok h)
abbrev QvY := Int → Option ByteArray
def Qdj (C0 : Fm) (a0 : Int) : Option ByteArray := ((C0 a0 h_20).bind fun r1 => (some r1.1.Name))
noncomputable def Qbz : QvY := Qdj Wb
theorem Qbz.eq (a0 : Int) : Qbz a0 = Qdj Wb a0 := rfl

end Go.Ab
namespace Go.Proofs.YtblfhkldljfhiaaGreatDoor
open Go Go.Ab Go.RowKit Go.Shelf
theorem gPow : Tryz.prog.globalNamed "internal/strconv.uint64pow10" = some 5 := by kernel_rfl
theorem tPow : (Tryz.prog.globals[5]?).map (·.type) = some 287 := by kernel_rfl
theorem QuK : Tryz.prog.cellsOf 255 = 1 := by kernel_rfl
theorem QuL : Tryz.prog.cellsOf 287 = 20 := by kernel_rfl
theorem datumP {H : Type} : (Rows.laid_internal_strconv_uint64pow10 : DataW H) = Lib.tabData .u64 Lib.pow10Tab := by kernel_rfl
theorem gSp : Tryz.prog.globalNamed "strings.asciiSpace" = some 0 := by kernel_rfl
theorem tSp : (Tryz.prog.globals[0]?).map (·.type) = some 234 := by kernel_rfl
theorem QvZ : Tryz.prog.cellsOf 5 = 1 := by kernel_rfl
theorem Qv0 : Tryz.prog.cellsOf 234 = 256 := by kernel_rfl
theorem datumS {H : Type} : (Rows.laid_strings_asciiSpace : DataW H) = Lib.tabData .u8 Lib.asciiSpaceTab := by kernel_rfl
def told : Ab.Told := ((told1 Tryz.prog "internal/strconv.uint64pow10" 5 (Lib.pow10Tab.map fun z => Value.int .u64 z).toArray).both (told1 Tryz.prog "strings.asciiSpace" 0 (Lib.asciiSpaceTab.map fun z => Value.int .u8 z).toArray)).both (cellT 1)
theorem Qxq {W : World} (h : laidMetH Tryz.prog [("math/bits.deBruijn32tab",Rows.laid_math_bits_deBruijn32tab),("math/bits.deBruijn64tab",Rows.laid_math_bits_deBruijn64tab),("internal/strconv.uint64pow10",Rows.laid_internal_strconv_uint64pow10),("unicode.White_Space",Rows.laid_unicode_White_Space),("strings.asciiSpace",Rows.laid_strings_asciiSpace)] W ∧ W.ShapedOpen Tryz.prog) : told.T (oldCtx W).Z W := by
 obtain ⟨h,hs⟩ := h
 rw [MakeChecks.laidMetH_plain _ _ _ (by kernel_rfl)] at h
 obtain ⟨ps,⟨g0,t0,cs0,f0,p0,q0,hg0,ht0,hv0,hd0,⟨g1,t1,cs1,f1,p1,q1,hg1,ht1,hv1,hd1,⟨g2,t2,cs2,f2,p2,q2,hg2,ht2,hv2,hd2,⟨g3,t3,cs3,f3,p3,q3,hg3,ht3,hv3,hd3,⟨g4,t4,cs4,f4,p4,q4,hg4,ht4,hv4,hd4,_⟩,_⟩,_⟩,_⟩,_⟩,_⟩ := h
 refine ⟨⟨?_,?_⟩,?_⟩
 ·obtain rfl := Option.some.inj (gPow.symm.trans hg2)
  obtain rfl := Option.some.inj (tPow.symm.trans ht2)
  rw [datumP] at hd2
  refine QoM gPow (hv2.trans ?_) (by decide)
  have := Lib.cells_of_tab Tryz.underlying287 Tryz.underlying255 QuK QuL hd2
  rw [← this]
 ·obtain rfl := Option.some.inj (gSp.symm.trans hg4)
  obtain rfl := Option.some.inj (tSp.symm.trans ht4)
  rw [datumS] at hd4
  refine QoM gSp (hv4.trans ?_) (of_decide_eq_true (by kernel_rfl))
  have := Lib.cells_of_tab Tryz.underlying234 Tryz.underlying5 QvZ Qv0 hd4
  rw [← this]
 ·exact QtY (cell_of_shapedOpen_int (P := Tryz.prog) (t := 3) (zero := #[.int .i64 0]) hs (by decide +kernel) (by kernel_rfl) rfl (by kernel_rfl) (by kernel_rfl) Tryz.underlying3)
set_option maxHeartbeats 2000000 in
set_option maxRecDepth 100000 in
theorem Qxr (n c : Nat) (w : World) : Calls Tryz.prog 81 #[.slice none n c] w fun e w' => e = .returned (.slice none 0 0) ∧ w' = w := by
 have mixed : Tryz.prog.follows .mixedOrders = true := by kernel_rfl
 have t0 := Tryz.underlying3; have a0 := Tryz.isAgg3; have z0 := Tryz.sizeOf3; have v0 := Tryz.zeroValue3; have t1 := Tryz.underlying22; have a1 := Tryz.isAgg22; have z1 := Tryz.sizeOf22; have v1 := Tryz.zeroValue22; have t2 := Tryz.underlying4; have a2 := Tryz.isAgg4; have z2 := Tryz.sizeOf4; have v2 := Tryz.zeroValue4
 have q22 : ∀ (w : World) (a : Option Addr) (n c n' c' : Nat),(binOp .eql 22 (.slice a n c) (.slice none n' c')).run Tryz.prog w = .ok (.bool a.isNone) w := fun w a n c n' c' => Lib.run_eql_slice_nil w _ _ a n c n' c' t1
 go_enter Tryz.func81,Tryz.ntmps81
 go_wp2
 go_ret
 exact ⟨rfl,rfl⟩
set_option maxHeartbeats 2000000 in
set_option maxRecDepth 100000 in
theorem Qv1 (a : Addr) (c : Nat) (w : World) : Calls Tryz.prog 81 #[.slice (some a) 0 c] w fun e w' => ∃ v',e = .returned v' ∧ w'.ownsRow w.heap.size 3 1 v' 0 [] ∧ Below w.heap.size w w' := by
 have mixed : Tryz.prog.follows .mixedOrders = true := by kernel_rfl
 have t0 := Tryz.underlying3; have a0 := Tryz.isAgg3; have z0 := Tryz.sizeOf3; have v0 := Tryz.zeroValue3; have t1 := Tryz.underlying22; have a1 := Tryz.isAgg22; have z1 := Tryz.sizeOf22; have v1 := Tryz.zeroValue22; have t2 := Tryz.underlying4; have a2 := Tryz.isAgg4; have z2 := Tryz.sizeOf4; have v2 := Tryz.zeroValue4
 have q22 : ∀ (w : World) (a : Option Addr) (n c n' c' : Nat),(binOp .eql 22 (.slice a n c) (.slice none n' c')).run Tryz.prog w = .ok (.bool a.isNone) w := fun w a n c n' c' => Lib.run_eql_slice_nil w _ _ a n c n' c' t1
 have hinfo : (Tryz.prog.info? 3).map (fun i => (i.zero,i.size,i.bytes)) = some (some (.int .i64 0),1,8) := by kernel_rfl
 obtain ⟨i0,hi,hz0,hz1,hz2⟩ := info_parts hinfo
 have u22 : ∀ w,Sem.run Tryz.prog (underlying 22) w = .ok (TypeDesc.slice 3) w := run_underlying t1
 go_enter Tryz.func81,Tryz.ntmps81
 go_wp2_with (at_builtin; refine wpList_append_own _ rfl _ _ 22 rfl w.heap.size 3 i0 (.int .i64 0) 1 8 t1 hi hz0 hz1 hz2 rfl (by decide) _ _ _ rfl (World.ownsRow_made w #[] 0 (Nat.le_refl _) (Nat.zero_le _) rfl) a 0 c [] rfl rfl (by intro j u hj; simp at hj) (by intro u hu; cases hu) (by unfold maxLen; omega) (by omega) (by simp) ?_)
 intro v' w1 hown hgrow hnil
 go_wp2
 go_ret
 refine ⟨v',rfl,by simpa using hown,?_⟩
 exact ((Below.refl _ w).alloc (Nat.le_refl _) _).grown hgrow (by simp) (by intro k hk; simp [Value.ownBlock] at hk; omega)
set_option maxHeartbeats 2000000 in
set_option maxRecDepth 100000 in
theorem Qv2 (b off c : Nat) (zs : List Value) (w : World) (hbig : zs.length * 8 ≤ 140737488355328) (hsc : zs.all scal = true) (hc : ∀ (j : Nat) z,zs[j]? = some z → w.cell? ⟨b,off + j,none⟩ = some z) :
  Calls Tryz.prog 81 #[.slice (some ⟨b,off,none⟩) zs.length c] w fun e w' => ∃ v',e = .returned v' ∧ w'.ownsRow w.heap.size 3 1 v' zs.length zs ∧ Below w.heap.size w w' := by
 have mixed : Tryz.prog.follows .mixedOrders = true := by kernel_rfl
 have t0 := Tryz.underlying3; have a0 := Tryz.isAgg3; have z0 := Tryz.sizeOf3; have v0 := Tryz.zeroValue3; have t1 := Tryz.underlying22; have a1 := Tryz.isAgg22; have z1 := Tryz.sizeOf22; have v1 := Tryz.zeroValue22; have t2 := Tryz.underlying4; have a2 := Tryz.isAgg4; have z2 := Tryz.sizeOf4; have v2 := Tryz.zeroValue4
 have q22 : ∀ (w : World) (a : Option Addr) (n c n' c' : Nat),(binOp .eql 22 (.slice a n c) (.slice none n' c')).run Tryz.prog w = .ok (.bool a.isNone) w := fun w a n c n' c' => Lib.run_eql_slice_nil w _ _ a n c n' c' t1
 have hinfo : (Tryz.prog.info? 3).map (fun i => (i.zero,i.size,i.bytes)) = some (some (.int .i64 0),1,8) := by kernel_rfl
 obtain ⟨i0,hi,hz0,hz1,hz2⟩ := info_parts hinfo
 have u22 : ∀ w,Sem.run Tryz.prog (underlying 22) w = .ok (TypeDesc.slice 3) w := run_underlying t1
 have A : Aside (∀ (j : Nat) z,zs[j]? = some z → w.cell? ⟨b,off + j,none⟩ = some z) := hc
 clear hc
 go_enter Tryz.func81,Tryz.ntmps81
 go_wp2_with (at_builtin; refine wpList_append_own _ rfl _ _ 22 rfl w.heap.size 3 i0 (.int .i64 0) 1 8 t1 hi hz0 hz1 hz2 rfl (by decide) _ _ _ rfl (World.ownsRow_made w #[] 0 (Nat.le_refl _) (Nat.zero_le _) rfl) ⟨b,off,none⟩ zs.length c zs rfl ?qc1 ?qc2 ?qc3 ?qc4 ?qc5 ?qc6 ?_)
 case qc1 => simp
 case qc2 =>
  intro j u hj
  rw [Addr.add_lit]
  exact Lib.cell?_alloc_some _ (A.out j u hj)
 case qc3 => intro u hu; exact Xk (c := oldCtx w) (w := w) (.sc u (List.all_eq_true.1 hsc u hu)) rfl
 case qc4 => unfold maxLen; omega
 case qc5 => omega
 case qc6 => simp
 intro v' w1 hown hgrow hnil
 go_wp2
 go_ret
 refine ⟨v',rfl,by simpa using hown,?_⟩
 exact ((Below.refl _ w).alloc (Nat.le_refl _) _).grown hgrow (by simp) (by intro k hk; simp [Value.ownBlock] at hk; omega)

set_option maxHeartbeats 2000000 in
set_option maxRecDepth 100000 in
theorem Qxs (n c : Nat) (w : World) : Calls Tryz.prog 51 #[.slice none n c] w fun e w' => e = .returned (.slice none 0 0) ∧ w' = w := by
 have mixed : Tryz.prog.follows .mixedOrders = true := by kernel_rfl
 have t0 := Tryz.underlying9; have a0 := Tryz.isAgg9; have z0 := Tryz.sizeOf9; have v0 := Tryz.zeroValue9; have t1 := Tryz.underlying33; have a1 := Tryz.isAgg33; have z1 := Tryz.sizeOf33; have v1 := Tryz.zeroValue33; have t2 := Tryz.underlying4; have a2 := Tryz.isAgg4; have z2 := Tryz.sizeOf4; have v2 := Tryz.zeroValue4
 have q22 : ∀ (w : World) (a : Option Addr) (n c n' c' : Nat),(binOp .eql 33 (.slice a n c) (.slice none n' c')).run Tryz.prog w = .ok (.bool a.isNone) w := fun w a n c n' c' => Lib.run_eql_slice_nil w _ _ a n c n' c' t1
 go_enter Tryz.func51,Tryz.ntmps51
 go_wp2
 go_ret
 exact ⟨rfl,rfl⟩
set_option maxHeartbeats 2000000 in
set_option maxRecDepth 100000 in
theorem Qv3 (a : Addr) (c : Nat) (w : World) : Calls Tryz.prog 51 #[.slice (some a) 0 c] w fun e w' => ∃ v',e = .returned v' ∧ w'.ownsRow w.heap.size 9 1 v' 0 [] ∧ Below w.heap.size w w' := by
 have mixed : Tryz.prog.follows .mixedOrders = true := by kernel_rfl
 have t0 := Tryz.underlying9; have a0 := Tryz.isAgg9; have z0 := Tryz.sizeOf9; have v0 := Tryz.zeroValue9; have t1 := Tryz.underlying33; have a1 := Tryz.isAgg33; have z1 := Tryz.sizeOf33; have v1 := Tryz.zeroValue33; have t2 := Tryz.underlying4; have a2 := Tryz.isAgg4; have z2 := Tryz.sizeOf4; have v2 := Tryz.zeroValue4
 have q22 : ∀ (w : World) (a : Option Addr) (n c n' c' : Nat),(binOp .eql 33 (.slice a n c) (.slice none n' c')).run Tryz.prog w = .ok (.bool a.isNone) w := fun w a n c n' c' => Lib.run_eql_slice_nil w _ _ a n c n' c' t1
 have hinfo : (Tryz.prog.info? 9).map (fun i => (i.zero,i.size,i.bytes)) = some (some (.string ByteArray.empty),1,16) := by kernel_rfl
 obtain ⟨i0,hi,hz0,hz1,hz2⟩ := info_parts hinfo
 have u22 : ∀ w,Sem.run Tryz.prog (underlying 33) w = .ok (TypeDesc.slice 9) w := run_underlying t1
 go_enter Tryz.func51,Tryz.ntmps51
 go_wp2_with (at_builtin; refine wpList_append_own _ rfl _ _ 33 rfl w.heap.size 9 i0 (.string ByteArray.empty) 1 16 t1 hi hz0 hz1 hz2 rfl (by decide) _ _ _ rfl (World.ownsRow_made w #[] 0 (Nat.le_refl _) (Nat.zero_le _) rfl) a 0 c [] rfl rfl (by intro j u hj; simp at hj) (by intro u hu; cases hu) (by unfold maxLen; omega) (by omega) (by simp) ?_)
 intro v' w1 hown hgrow hnil
 go_wp2
 go_ret
 refine ⟨v',rfl,by simpa using hown,?_⟩
 exact ((Below.refl _ w).alloc (Nat.le_refl _) _).grown hgrow (by simp) (by intro k hk; simp [Value.ownBlock] at hk; omega)
set_option maxHeartbeats 2000000 in
set_option maxRecDepth 100000 in
theorem Qv4 (b off n c : Nat) (zs : List Value) (w : World) (hl : zs.length = n * 1) (hbig : n * 16 ≤ 140737488355328) (hml : n ≤ maxLen) (hsc : zs.all scal = true) (hc : ∀ (j : Nat) z,zs[j]? = some z → w.cell? ⟨b,off + j,none⟩ = some z) :
  Calls Tryz.prog 51 #[.slice (some ⟨b,off,none⟩) n c] w fun e w' => ∃ v',e = .returned v' ∧ w'.ownsRow w.heap.size 9 1 v' n zs ∧ Below w.heap.size w w' := by
 have mixed : Tryz.prog.follows .mixedOrders = true := by kernel_rfl
 have t0 := Tryz.underlying9; have a0 := Tryz.isAgg9; have z0 := Tryz.sizeOf9; have v0 := Tryz.zeroValue9; have t1 := Tryz.underlying33; have a1 := Tryz.isAgg33; have z1 := Tryz.sizeOf33; have v1 := Tryz.zeroValue33; have t2 := Tryz.underlying4; have a2 := Tryz.isAgg4; have z2 := Tryz.sizeOf4; have v2 := Tryz.zeroValue4
 have q22 : ∀ (w : World) (a : Option Addr) (n c n' c' : Nat),(binOp .eql 33 (.slice a n c) (.slice none n' c')).run Tryz.prog w = .ok (.bool a.isNone) w := fun w a n c n' c' => Lib.run_eql_slice_nil w _ _ a n c n' c' t1
 have hinfo : (Tryz.prog.info? 9).map (fun i => (i.zero,i.size,i.bytes)) = some (some (.string ByteArray.empty),1,16) := by kernel_rfl
 obtain ⟨i0,hi,hz0,hz1,hz2⟩ := info_parts hinfo
 have u22 : ∀ w,Sem.run Tryz.prog (underlying 33) w = .ok (TypeDesc.slice 9) w := run_underlying t1
 have A : Aside (∀ (j : Nat) z,zs[j]? = some z → w.cell? ⟨b,off + j,none⟩ = some z) := hc
 clear hc
 go_enter Tryz.func51,Tryz.ntmps51
 go_wp2_with (at_builtin; refine wpList_append_own _ rfl _ _ 33 rfl w.heap.size 9 i0 (.string ByteArray.empty) 1 16 t1 hi hz0 hz1 hz2 rfl (by decide) _ _ _ rfl (World.ownsRow_made w #[] 0 (Nat.le_refl _) (Nat.zero_le _) rfl) ⟨b,off,none⟩ n c zs rfl ?qc1 ?qc2 ?qc3 ?qc4 ?qc5 ?qc6 ?_)
 case qc1 => exact hl
 case qc2 =>
  intro j u hj
  rw [Addr.add_lit]
  exact Lib.cell?_alloc_some _ (A.out j u hj)
 case qc3 => intro u hu; exact Xk (c := oldCtx w) (w := w) (.sc u (List.all_eq_true.1 hsc u hu)) rfl
 case qc4 => omega
 case qc5 => omega
 case qc6 => simp
 intro v' w1 hown hgrow hnil
 go_wp2
 go_ret
 refine ⟨v',rfl,by simpa using hown,?_⟩
 exact ((Below.refl _ w).alloc (Nat.le_refl _) _).grown hgrow (by simp) (by intro k hk; simp [Value.ownBlock] at hk; omega)

set_option maxHeartbeats 2000000 in
set_option maxRecDepth 100000 in
theorem Qxt (n c : Nat) (w : World) : Calls Tryz.prog 48 #[.slice none n c] w fun e w' => e = .returned (.slice none 0 0) ∧ w' = w := by
 have mixed : Tryz.prog.follows .mixedOrders = true := by kernel_rfl
 have t0 := Tryz.underlying76; have a0 := Tryz.isAgg76; have z0 := Tryz.sizeOf76; have v0 := Tryz.zeroValue76; have t1 := Tryz.underlying27; have a1 := Tryz.isAgg27; have z1 := Tryz.sizeOf27; have v1 := Tryz.zeroValue27; have t2 := Tryz.underlying4; have a2 := Tryz.isAgg4; have z2 := Tryz.sizeOf4; have v2 := Tryz.zeroValue4
 have q22 : ∀ (w : World) (a : Option Addr) (n c n' c' : Nat),(binOp .eql 27 (.slice a n c) (.slice none n' c')).run Tryz.prog w = .ok (.bool a.isNone) w := fun w a n c n' c' => Lib.run_eql_slice_nil w _ _ a n c n' c' t1
 go_enter Tryz.func48,Tryz.ntmps48
 go_wp2
 go_ret
 exact ⟨rfl,rfl⟩
set_option maxHeartbeats 2000000 in
set_option maxRecDepth 100000 in
theorem Qv5 (a : Addr) (c : Nat) (w : World) : Calls Tryz.prog 48 #[.slice (some a) 0 c] w fun e w' => ∃ v',e = .returned v' ∧ w'.ownsRow w.heap.size 76 2 v' 0 [] ∧ Below w.heap.size w w' := by
 have mixed : Tryz.prog.follows .mixedOrders = true := by kernel_rfl
 have t0 := Tryz.underlying76; have a0 := Tryz.isAgg76; have z0 := Tryz.sizeOf76; have v0 := Tryz.zeroValue76; have t1 := Tryz.underlying27; have a1 := Tryz.isAgg27; have z1 := Tryz.sizeOf27; have v1 := Tryz.zeroValue27; have t2 := Tryz.underlying4; have a2 := Tryz.isAgg4; have z2 := Tryz.sizeOf4; have v2 := Tryz.zeroValue4
 have q22 : ∀ (w : World) (a : Option Addr) (n c n' c' : Nat),(binOp .eql 27 (.slice a n c) (.slice none n' c')).run Tryz.prog w = .ok (.bool a.isNone) w := fun w a n c n' c' => Lib.run_eql_slice_nil w _ _ a n c n' c' t1
 have hinfo : (Tryz.prog.info? 76).map (fun i => (i.zero,i.size,i.bytes)) = some (some (.agg #[.string ByteArray.empty,.string ByteArray.empty]),2,32) := by kernel_rfl
 obtain ⟨i0,hi,hz0,hz1,hz2⟩ := info_parts hinfo
 have u22 : ∀ w,Sem.run Tryz.prog (underlying 27) w = .ok (TypeDesc.slice 76) w := run_underlying t1
 go_enter Tryz.func48,Tryz.ntmps48
 go_wp2_with (at_builtin; refine wpList_append_own _ rfl _ _ 27 rfl w.heap.size 76 i0 (.agg #[.string ByteArray.empty,.string ByteArray.empty]) 2 32 t1 hi hz0 hz1 hz2 rfl (by decide) _ _ _ rfl (World.ownsRow_made w #[] 0 (Nat.le_refl _) (Nat.zero_le _) rfl) a 0 c [] rfl rfl (by intro j u hj; simp at hj) (by intro u hu; cases hu) (by unfold maxLen; omega) (by omega) (by simp) ?_)
 intro v' w1 hown hgrow hnil
 go_wp2
 go_ret
 refine ⟨v',rfl,by simpa using hown,?_⟩
 exact ((Below.refl _ w).alloc (Nat.le_refl _) _).grown hgrow (by simp) (by intro k hk; simp [Value.ownBlock] at hk; omega)
set_option maxHeartbeats 2000000 in
set_option maxRecDepth 100000 in
theorem Qv6 (b off n c : Nat) (zs : List Value) (w : World) (hl : zs.length = n * 2) (hbig : n * 32 ≤ 140737488355328) (hml : n ≤ maxLen) (hsc : zs.all scal = true) (hc : ∀ (j : Nat) z,zs[j]? = some z → w.cell? ⟨b,off + j,none⟩ = some z) :
  Calls Tryz.prog 48 #[.slice (some ⟨b,off,none⟩) n c] w fun e w' => ∃ v',e = .returned v' ∧ w'.ownsRow w.heap.size 76 2 v' n zs ∧ Below w.heap.size w w' := by
 have mixed : Tryz.prog.follows .mixedOrders = true := by kernel_rfl
 have t0 := Tryz.underlying76; have a0 := Tryz.isAgg76; have z0 := Tryz.sizeOf76; have v0 := Tryz.zeroValue76; have t1 := Tryz.underlying27; have a1 := Tryz.isAgg27; have z1 := Tryz.sizeOf27; have v1 := Tryz.zeroValue27; have t2 := Tryz.underlying4; have a2 := Tryz.isAgg4; have z2 := Tryz.sizeOf4; have v2 := Tryz.zeroValue4
 have q22 : ∀ (w : World) (a : Option Addr) (n c n' c' : Nat),(binOp .eql 27 (.slice a n c) (.slice none n' c')).run Tryz.prog w = .ok (.bool a.isNone) w := fun w a n c n' c' => Lib.run_eql_slice_nil w _ _ a n c n' c' t1
 have hinfo : (Tryz.prog.info? 76).map (fun i => (i.zero,i.size,i.bytes)) = some (some (.agg #[.string ByteArray.empty,.string ByteArray.empty]),2,32) := by kernel_rfl
 obtain ⟨i0,hi,hz0,hz1,hz2⟩ := info_parts hinfo
 have u22 : ∀ w,Sem.run Tryz.prog (underlying 27) w = .ok (TypeDesc.slice 76) w := run_underlying t1
 have A : Aside (∀ (j : Nat) z,zs[j]? = some z → w.cell? ⟨b,off + j,none⟩ = some z) := hc
 clear hc
 go_enter Tryz.func48,Tryz.ntmps48
 go_wp2_with (at_builtin; refine wpList_append_own _ rfl _ _ 27 rfl w.heap.size 76 i0 (.agg #[.string ByteArray.empty,.string ByteArray.empty]) 2 32 t1 hi hz0 hz1 hz2 rfl (by decide) _ _ _ rfl (World.ownsRow_made w #[] 0 (Nat.le_refl _) (Nat.zero_le _) rfl) ⟨b,off,none⟩ n c zs rfl ?qc1 ?qc2 ?qc3 ?qc4 ?qc5 ?qc6 ?_)
 case qc1 => exact hl
 case qc2 =>
  intro j u hj
  rw [Addr.add_lit]
  exact Lib.cell?_alloc_some _ (A.out j u hj)
 case qc3 => intro u hu; exact Xk (c := oldCtx w) (w := w) (.sc u (List.all_eq_true.1 hsc u hu)) rfl
 case qc4 => omega
 case qc5 => omega
 case qc6 => simp
 intro v' w1 hown hgrow hnil
 go_wp2
 go_ret
 refine ⟨v',rfl,by simpa using hown,?_⟩
 exact ((Below.refl _ w).alloc (Nat.le_refl _) _).grown hgrow (by simp) (by intro k hk; simp [Value.ownBlock] at hk; omega)

structure Dr (w w' : World) : Prop where mk :: (out : ∃ n,w' = w.drewN n)
theorem Dr.refl (w : World) : Dr w w := ⟨⟨0,rfl⟩⟩
theorem Dr.step {w w' : World} (h : Dr w w') (n : Nat) : Dr w (w'.drewN n) := by
 obtain ⟨⟨k,rfl⟩⟩ := h
 exact ⟨⟨k + n,World.drewN_drewN ..⟩⟩
theorem Dr.below {w w' : World} (h : Dr w w') : Below w.heap.size w w' := by
 obtain ⟨⟨n,rfl⟩⟩ := h; exact Joins.below_draws _ _ _
open Go.Fl (ldw)
theorem fl_tobits (c : Nat) (w : World) : (callFunc 289 #[.float .f64 c]).run Tryz.prog w = .ok (.value (.int .u64 c)) w := by kernel_rfl
theorem fl_frombits (n : Int) (w : World) : (callFunc 292 #[.int .u64 n]).run Tryz.prog w = .ok (.value (.float .f64 n.toNat)) w := by kernel_rfl
theorem fl_absone : Go.bits .andNot .u64 4607182418800017408 9223372036854775808 = 4607182418800017408 := by decide +kernel
theorem QuM : ∀ n : Fin 41,FloatKind.f64.format.mul 4607182418800017408 (Go.bits .or .u64 0 (((n.val : Int) + 1023) * 4503599627370496)).toNat = some (ldw n.val) := by decide +kernel
theorem QuN (k : Int) (h0 : 0 ≤ k) (h1 : k ≤ 40) (w : World) : (binOp .mul 268 (.float .f64 4607182418800017408) (.float .f64 (Go.bits .or .u64 0 ((k + 1023) * 4503599627370496)).toNat)).run Tryz.prog w = .ok (.float .f64 (ldw k)) w := by
 have h := QuM ⟨k.toNat,by omega⟩
 simp only [Int.toNat_of_nonneg h0] at h
 simp [binOp,Op.floatArith,h]
theorem QuO : ∀ n : Fin 41,Op.negFloat .f64 (ldw n.val) = 9223372036854775808 + ldw n.val := by decide +kernel
theorem fl_neg (k : Int) (h0 : 0 ≤ k) (h1 : k ≤ 40) (w : World) : (Op.unary .neg (.float .f64 (ldw k))).run Tryz.prog w = .ok (.float .f64 (9223372036854775808 + ldw k)) w := by
 have h := QuO ⟨k.toNat,by omega⟩
 simp only [Int.toNat_of_nonneg h0] at h
 simp [Op.unary,h]
set_option maxHeartbeats 2000000 in
theorem Qv7 (k : Int) (h0 : 0 ≤ k) (h1 : k ≤ 40) (w : World) : Calls Tryz.prog 248 #[.float .f64 4607182418800017408,.int .i64 k] w fun e w' => e = .returned (.float .f64 (ldw k)) ∧ w = w' := by
 have tb := fl_tobits
 have fb := fl_frombits
 have ao := fl_absone
 have a1 : Go.bits .and .i64 1023 2047 = 1023 := by decide +kernel
 have a2 : Go.bits .andNot .u64 4607182418800017408 9218868437227405312 = 0 := by decide +kernel
 have hm := QuN k h0 h1
 go_enter Tryz.func248,Tryz.ntmps248
 go_wp2
 go_ret
 exact ⟨rfl,rfl⟩
theorem QpK (a0 a1 : Int) (h0 : 1 ≤ a1) (h1 : a1 ≤ 41) :
  ((FloatKind.f64.format.order (floatOfInt FloatKind.f64 a0) (9223372036854775808 + ldw (a1 - 1)) == some Ordering.gt || FloatKind.f64.format.order (floatOfInt FloatKind.f64 a0) (9223372036854775808 + ldw (a1 - 1)) == some Ordering.eq) && FloatKind.f64.format.order (floatOfInt FloatKind.f64 a0) (ldw (a1 - 1)) == some Ordering.lt) = decide (-(2 ^ (a1 - 1).toNat) ≤ a0 ∧ a0 < 2 ^ (a1 - 1).toNat) := by
 have h := Go.Fl.fits_is a0 (a1 - 1).toNat (by omega)
 rw [Int.toNat_of_nonneg (by omega)] at h
 exact h
theorem fl_ret {a b : Bool} (h : a = b) : Ending.returned (.bool a) = Ending.returned (.bool b) := by rw [h]
theorem fl_no {a b : Option Ordering} (h : ¬(a = some Ordering.gt ∨ a = some Ordering.eq)) : false = ((a == some Ordering.gt || a == some Ordering.eq) && b == some Ordering.lt) := by
 symm
 rw [Bool.and_eq_false_iff]
 left
 rw [Bool.or_eq_false_iff]
 constructor
 ·exact beq_eq_false_iff_ne.2 (fun e => h (.inl e))
 ·exact beq_eq_false_iff_ne.2 (fun e => h (.inr e))
set_option maxHeartbeats 2000000 in
theorem J1.calls (a0 : Int) (a1 : Int) (r : Bool) (w : World) (h : fitsS a0 a1 = some r) :
  Calls Tryz.prog 225 #[.int .i64 a0,.int .i64 a1] w fun e w' => e = .returned (.bool r) ∧ Dr w w' := by
 unfold fitsS at h
 by_cases h0 : 1 ≤ a1
 ·rw [if_pos h0] at h
  by_cases h1 : a1 ≤ 41
  ·rw [if_pos h1] at h
   obtain rfl := Option.some.inj h
   clear h
   have hneg := fl_neg (a1 - 1) (by omega) (by omega)
   go_enter Tryz.func225,Tryz.ntmps225
   go_wp2_with (go_at_call 248; refine (Qv7 _ (by omega) (by omega) _).mono ?_; rintro e w' ⟨rfl,rfl⟩)
   all_goals
    go_ret
    refine ⟨fl_ret ?_,by repeat (first | exact Dr.refl _ | apply Dr.step)⟩
    first
    | exact QpK a0 a1 h0 h1
    | exact (fl_no (by assumption)).trans (QpK a0 a1 h0 h1)
  ·rw [if_neg h1] at h; cases h
 ·rw [if_neg h0] at h; cases h
theorem Qrq : FnOK1 told Tryz.prog 225 fitsX := Qss fun v b r w h => (J1.calls v b r w h).mono fun _ _ h => ⟨h.1,h.2.below⟩

theorem ok_cli : FnOK1 told Tryz.prog 81 (cloneV 8) := QoQ (e_ := 3) Qxr Qv1 Qv2
theorem ok_cls : FnOK1 told Tryz.prog 51 (cloneK 1 16) := QgD (e_ := 9) Qxs Qv3 Qv4
theorem ok_clf : FnOK1 told Tryz.prog 48 (cloneK 2 32) := QgD (e_ := 76) Qxt Qv5 Qv6
theorem Qrr : FnOK1 told Tryz.prog 93 itoaX := by
 refine Qsr fun n Z w h0 h1 hT => ?_
 refine (Tryz.strconv_Itoa n h0 h1 w hT.1.1.2.2.1).mono ?_
 rintro e w' ⟨rfl,k,os,rfl⟩
 exact ⟨rfl,Lib.below_grow _ _ (Nat.le_refl _) _ _⟩
theorem Qnf : FnOK1 told Tryz.prog 145 fieldsX := QoO fun s Z w h1 h2 hT => Tryz.strings_Fields_laid s w h1 h2 hT.1.2.2.2.1
theorem Qjn : FnOK1 told Tryz.prog 177 containsX := QlL fun s t Z w h1 hT => by
 obtain ⟨_,m,hm⟩ := hT.2
 exact Tryz.strings_Contains s t m w h1 hm
theorem Qrs : FnOK1 told Tryz.prog 69 joinX := Qsu (fun a c sep w => Tryz.strings_Join_none a c sep w) (fun bk o c xs sep w h1 h2 h3 h4 h5 => Tryz.strings_Join bk o c xs sep w h1 h2 h3 h4 h5)
theorem Qxu (f : FuncId) (x : List AV → Heap → Option (AV × Heap)) (h : G0.ext f = some x) : FnOK1 told Tryz.prog f x := by
 have h' : Go.Ab.get f extT0 = some x := h
 simp only [extT0,Go.Ab.get] at h'
 repeat' split at h'
 all_goals first
  | cases h'; done
  | (rename_i e; subst e; cases h'; first | exact ok_cli | exact ok_cls | exact ok_clf | exact Qrq | exact Qrr | exact Qnf | exact Qjn | exact Qrs)
theorem Qv8 : FnOK1 told Tryz.prog 15 knownX := Qqs (QlE (T := told) (by kernel_rfl) Qxu 2000) Qsw
theorem ext_ok (f : FuncId) (x : List AV → Heap → Option (AV × Heap)) (h : G.ext f = some x) : FnOK1 told Tryz.prog f x := by
 have h' : Go.Ab.get f extT = some x := h
 simp only [extT,Go.Ab.get] at h'
 repeat' split at h'
 all_goals first
  | cases h'; done
  | (rename_i e; subst e; cases h'; first | exact Qv8 | exact ok_cli | exact ok_cls | exact ok_clf | exact Qrq | exact Qrr | exact Qnf | exact Qjn | exact Qrs)
end Go.Proofs.YtblfhkldljfhiaaGreatDoor
namespace Go.Ab
def s_hi : ByteArray := ⟨#[104,105]⟩
def Qh8 : ByteArray := ⟨#[97,32,35,32,98,44,32,99]⟩
def QpL : ByteArray := ⟨#[48,49,50,51,52,53,54,55,56,57]⟩
def s_tab : ByteArray := ⟨#[116,97,98]⟩
def s_k : ByteArray := ⟨#[107]⟩
def s_size : ByteArray := ⟨#[115,105,122,101]⟩
def s_x : ByteArray := ⟨#[120]⟩
end Go.Ab
namespace Go.Ab
abbrev Ui (x : Int) : Nat := (BitVec.ofInt 64 x).toNat
theorem Ui_eq (x : Int) : (Ui x : Int) = x % 18446744073709551616 := by
 show (((BitVec.ofInt 64 x).toNat : Nat) : Int) = _
 rw [BitVec.toNat_ofInt]; simp; omega
theorem QjV (x : Int) : andI .i64 x 255 = x % 256 := by
 have e : andI .i64 x 255 = w64 ((Ui x &&& Ui 255 : Nat) : Int) := by
  show IntKind.i64.wrap _ = IntKind.i64.wrap _
  rw [← BitVec.toNat_and]; rfl
 have h255 : Ui 255 = 2 ^ 8 - 1 := by decide
 rw [e,h255,Nat.and_two_pow_sub_one_eq_mod]
 have := Ui_eq x
 rw [w64_in (by omega) (by omega)]; omega
theorem Qio {x b : Int} (hx : 0 ≤ x ∧ x < 16777216) (hb : 0 ≤ b ∧ b < 256) : orI .i64 (shlI .i64 x 8) b = x * 256 + b := by
 have hs : shlI .i64 x 8 = x * 256 := by
  unfold shlI
  rw [show min (Int.toNat 8) IntKind.i64.bits = 8 from rfl,show ((2 : Int) ^ 8) = 256 from rfl]
  exact w64_in (by omega) (by omega)
 rw [hs]
 have e : orI .i64 (x * 256) b = w64 ((Ui (x * 256) ||| Ui b : Nat) : Int) := by
  show IntKind.i64.wrap _ = IntKind.i64.wrap _
  rw [← BitVec.toNat_or]; rfl
 have h1 := Ui_eq (x * 256)
 have h2 := Ui_eq b
 obtain ⟨n,rfl⟩ := Int.eq_ofNat_of_zero_le hx.1
 obtain ⟨m,rfl⟩ := Int.eq_ofNat_of_zero_le hb.1
 have e1 : Ui ((n : Int) * 256) = n <<< 8 := by rw [Nat.shiftLeft_eq]; omega
 have e2 : Ui (m : Int) = m := by omega
 rw [e,e1,e2,← Nat.shiftLeft_add_eq_or_of_lt (by omega : m < 2 ^ 8),Nat.shiftLeft_eq,w64_in (by omega) (by omega)]
 omega
def sgn32 (v : Int) : Int := if v < 2147483648 then v else v - 4294967296
theorem sign32 {v : Int} (h0 : 0 ≤ v) (h1 : v < 4294967296) : JA v 32 = some (sgn32 v) := by
 rw [JA.eq]; unfold Pv
 have e : w64 (64 - (if (64 : Int) < (if (1 : Int) > 32 then 1 else 32) then 64 else (if (1 : Int) > 32 then 1 else 32))) = 32 := by decide
 rw [e]
 have c1 : decide ((0 : Int) ≤ 32) = true := rfl
 rw [c1,cond_true]
 congr 1
 unfold shlI shrI
 rw [show min (Int.toNat 32) IntKind.i64.bits = 32 from rfl,show ((2 : Int) ^ 32) = 4294967296 from rfl,Int.fdiv_eq_ediv_of_nonneg _ (by decide)]
 have hw : IntKind.i64.wrap (v * 4294967296) = v * 4294967296 - (if v * 4294967296 ≥ 9223372036854775808 then 18446744073709551616 else 0) := by
  have e : (v * 4294967296) % 18446744073709551616 = v * 4294967296 := Int.emod_eq_of_lt (by omega) (by omega)
  unfold IntKind.wrap
  simp [IntKind.bits,IntKind.signed,e]
  split <;> omega
 rw [hw]; unfold sgn32
 split <;> split <;> omega
def pk4 (a b c d : Int) : Int := ((a * 256 + b) * 256 + c) * 256 + d
def fb (f : Bool) : Int := if f then 255 else 0
def bk (f : Bool) (s : Nat) (u : Int) : Int := pk4 (if s = 3 then u else fb f) (if s = 2 then u else fb f) (if s = 1 then u else fb f) (if s = 0 then u else fb f)
abbrev byt (x : Int) : Prop := 0 ≤ x ∧ x < 256
theorem Qdk (f : Bool) (s : Nat) {u x : Int} (hu : byt u) (hx : 0 ≤ x ∧ x < 16777216) (k : Nat) (hk : k < 4) :
  Uu ⟨if f then 1 else 0,s,u,x,k⟩ = Uu ⟨if f then 1 else 0,s,u,x * 256 + (if k = s then u else fb f),(k : Int) - 1⟩ := by
 rw [Uu.eq ⟨if f then 1 else 0,s,u,x,k⟩]; unfold Y9
 have c1 : decide ((k : Int) ≥ 0) = true := decide_eq_true (by omega)
 have e1 : w64 ((k : Int) - 1) = (k : Int) - 1 := w64_in (by omega) (by omega)
 have e2 : andI .i64 u 255 = u := by rw [QjV]; omega
 have c2 : ((k : Int) == (s : Int)) = decide (k = s) := by rw [Bool.eq_iff_iff,beq_iff_eq,decide_eq_true_iff]; omega
 simp only
 rw [c1,cond_true,e1,e2,c2,Qio hx hu,Qio hx (b := 255) (by decide),Qio hx (b := 0) (by decide)]
 cases f with
 | true =>
  rw [show ((if true = true then (1 : Int) else 0) == 1) = true from rfl,cond_true]
  by_cases h : k = s
  ·rw [decide_eq_true h,cond_true,if_pos h]; rfl
  ·rw [decide_eq_false h,cond_false,if_neg h]; rfl
 | false =>
  rw [show ((if false = true then (1 : Int) else 0) == 1) = false from rfl,cond_false]
  by_cases h : k = s
  ·rw [decide_eq_true h,cond_true,if_pos h]; rfl
  ·rw [decide_eq_false h,cond_false,if_neg h]; rfl
theorem fb_byt (f : Bool) : byt (fb f) := by cases f <;> decide
theorem Qrt (f : Bool) (s : Nat) {u : Int} (hu : byt u) : VS (if f then 1 else 0) s u = some (sgn32 (bk f s u)) := by
 have hf := fb_byt f
 have hb : ∀ k : Nat,byt (if k = s then u else fb f) := fun k => by split <;> assumption
 have h3 := hb 3
 have h2 := hb 2
 have h1 := hb 1
 have h0 := hb 0
 have e : bk f s u = pk4 (if 3 = s then u else fb f) (if 2 = s then u else fb f) (if 1 = s then u else fb f) (if 0 = s then u else fb f) := by
  unfold bk; simp only [eq_comm (a := s)]
 rw [e]
 rw [VS.eq]; unfold Z7
 have s3 := Qdk f s hu (x := 0) (by omega) 3 (by omega)
 rw [show (⟨if f then 1 else 0,(s : Int),u,0,((3 : Nat) : Int)⟩ : Ju) = ⟨if f then 1 else 0,(s : Int),u,0,3⟩ from rfl] at s3
 rw [s3]
 generalize (if 3 = s then u else fb f) = b3 at h3
 rw [show (((3 : Nat) : Int) - 1) = ((2 : Nat) : Int) from rfl,Qdk f s hu (by omega) 2 (by omega)]
 generalize (if 2 = s then u else fb f) = b2 at h2
 rw [show (((2 : Nat) : Int) - 1) = ((1 : Nat) : Int) from rfl,Qdk f s hu (by omega) 1 (by omega)]
 generalize (if 1 = s then u else fb f) = b1 at h1
 rw [show (((1 : Nat) : Int) - 1) = ((0 : Nat) : Int) from rfl,Qdk f s hu (by omega) 0 (by omega)]
 generalize (if 0 = s then u else fb f) = b0 at h0
 rw [Uu.eq]; unfold Y9
 have c1 : decide (((0 : Nat) : Int) - 1 ≥ 0) = false := rfl
 simp only
 rw [c1,cond_false]
 simp only [Option.bind_some,Sum.elim_inr]
 rw [show (((0 * 256 + b3) * 256 + b2) * 256 + b1) * 256 + b0 = pk4 b3 b2 b1 b0 from by unfold pk4; omega,sign32 (by unfold pk4; omega) (by unfold pk4; omega)]; rfl
def forms8 : List (Bool × Nat) := [(false,0),(false,1),(false,2),(false,3),(true,0),(true,1),(true,2),(true,3)]
theorem Qv9 : WF = some (forms8.map fun p => ⟨if p.1 then 1 else 0,(p.2 : Int)⟩) := by rw [WF.eq]; rfl
end Go.Ab
set_option maxRecDepth 100000
namespace Go.Ab
theorem PU (a n : Int) (hn : 0 < n) (hn2 : n ≤ 4611686018427387904) : V6 a n = some (a % n) := by
 rw [V6.eq]; exact Qkl a n hn hn2
end Go.Ab
set_option maxRecDepth 100000
namespace Go.Ab
def Tot {α : Type} (Q : α → Prop) (x : Option α) : Prop := ∃ r,x = some r ∧ Q r
theorem Tot.some {α : Type} {Q : α → Prop} {a : α} (h : Q a) : Tot Q (some a) := ⟨a,rfl,h⟩
theorem QjW (v b : Int) (h : b = 9 ∨ b = 25 ∨ b = 16 ∨ b = 20) : Tot (fun _ => True) (J1 v b) := by
 show Tot _ (fitsS v b)
 unfold fitsS
 rcases h with rfl | rfl | rfl | rfl <;> exact .some trivial
theorem andI_1 (x : Int) : andI .i64 x 1 = x % 2 := by
 have e : andI .i64 x 1 = w64 ((Ui x &&& Ui 1 : Nat) : Int) := by
  show IntKind.i64.wrap _ = IntKind.i64.wrap _
  rw [← BitVec.toNat_and]; rfl
 have h1 : Ui 1 = 2 ^ 1 - 1 := by decide
 rw [e,h1,Nat.and_two_pow_sub_one_eq_mod]
 have := Ui_eq x
 rw [w64_in (by omega) (by omega)]; omega
theorem andI_3 (x : Int) : andI .i64 x 3 = x % 4 := by
 have e : andI .i64 x 3 = w64 ((Ui x &&& Ui 3 : Nat) : Int) := by
  show IntKind.i64.wrap _ = IntKind.i64.wrap _
  rw [← BitVec.toNat_and]; rfl
 have h1 : Ui 3 = 2 ^ 2 - 1 := by decide
 rw [e,h1,Nat.and_two_pow_sub_one_eq_mod]
 have := Ui_eq x
 rw [w64_in (by omega) (by omega)]; omega
end Go.Ab
set_option maxRecDepth 100000
namespace Go.Ab
def ex (p q : Nat) : ByteArray := Qm.extract p q
abbrev zR : QD := ⟨s_,s_,s_⟩
def goS : Nat → QC → Option QC
 | 0,a => some a
 | m + 1,a => match GS a with
  | some (.inl a') => goS m a'
  | _ => none
theorem goS_eq : ∀ (m : Nat) {a a' : QC},goS m a = some a' → UZ a = UZ a'
 | 0,a,a',h => by cases h; rfl
 | m + 1,a,a',h => by
  unfold goS at h
  split at h
  ·rename_i b e
   rw [UZ.eq,e]
   exact goS_eq m h
  ·cases h
def findR (op : Int) (name : ByteArray) : List QD → Int → Option (QD × Int)
 | [],_ => none
 | r :: l,n => bif (n == op) then some (r,n) else bif (eqS r.Name name) then some (r,n) else findR op name l (n + 1)
def resF : Option (QD × Int) → QN ⊕ QD
 | some r => .inl ⟨r.2,true,r.1⟩
 | none => .inr zR
theorem glue {op n m : Int} {name : ByteArray} {r : QD} {l : List QD} {s : QC} (hm : m = n + 1) (h : UZ s = some (resF (findR op name l m))) :
  (bif (n == op) then some (Sum.inr (.inl ⟨n,true,r⟩)) else bif (eqS r.Name name) then some (.inr (.inl ⟨n,true,r⟩)) else some (.inl s)).bind (Sum.elim UZ some) = some (resF (findR op name (r :: l) n)) := by
 subst hm
 unfold findR
 cases (n == op) with
 | true => rfl
 | false =>
  rw [cond_false,cond_false]
  cases eqS r.Name name with
  | true => rfl
  | false => exact h
def bdL : List (Nat × Nat × Nat) := [(10,15,16),(25,30,31),(37,42,43),(50,55,56),(64,69,70),(77,82,84),(91,96,98),(106,111,113),(121,126,128),(137,142,144),(153,158,160),(169,174,176),(185,190,192),(201,206,208),(217,222,224),(230,235,239),(246,251,255),(264,269,273),(280,285,289),(296,301,305),(313,318,322),(330,335,340),(349,354,359),(367,372,377),(385,390,395),(401,406,410),(418,423,427),(434,439,443),(449,454,459),(468,473,478),(487,492,497),(506,511,516),(524,529,534),(542,547,552),(559,564,571),(578,583,590),(597,602,609),(616,621,628),(635,640,647),(654,659,666),(672,677,686),(691,696,699),(705,710,713),(722,731,739),(746,755,762),(769,778,785),(791,800,807),(814,823,830),(835,844,850),(856,865,873),(879,888,896),(902,911,919),(925,934,942),(948,957,965),(971,980,988),(994,1003,1011),(1015,1024,1028),(1033,1042,1046),(1051,1060,1070),(1076,1085,1095),(1099,1108,1114),(1119,1128,1134),(1140,1149,1155),(1159,1168,1174),(1177,1186,1192),(1196,1205,1211)]
def bd (n : Nat) : Nat × Nat × Nat := bdL.getD n (0,0,0)
def pBz : Nat → Nat
 | 0 => 0
 | n + 1 => (bd n).2.2 + 1
def Q (n : Nat) : QD := ⟨ex (pBz n) (bd n).1,ex ((bd n).1 + 1) (bd n).2.1,ex ((bd n).2.1 + 1) (bd n).2.2⟩
def P3 : Nat → QD
 | 0 => zR
 | n + 1 => Q n
def S (n : Nat) (o : Int) (m : ByteArray) : QC := ⟨o,m,(n : Nat),(pBz n : Nat),0,(pBz n : Nat),zR,(P3 n).Name,(P3 n).Bits,(P3 n).Kinds⟩
def Z (n : Nat) (o : Int) (m : ByteArray) : QC := ⟨o,m,(n : Nat),((bd n).2.1 + 1 : Nat),2,((bd n).2.2 : Nat),zR,(Q n).Name,(Q n).Bits,(P3 n).Kinds⟩
def stP (n : Nat) : Prop := ∀ (o : Int) (m : ByteArray),goS ((bd n).2.2 - pBz n) (S n o m) = some (Z n o m)
def brP (n : Nat) : Prop := ∀ (o : Int) (m : ByteArray),GS (Z n o m) = (bif (((n : Nat) : Int) == o) then some (Sum.inr (.inl ⟨(n : Nat),true,Q n⟩)) else bif (eqS (Q n).Name m) then some (.inr (.inl ⟨(n : Nat),true,Q n⟩)) else some (.inl (S (n + 1) o m)))
theorem s0 : stP 0 ∧ brP 0 := ⟨fun o m => by kernel_rfl,fun o m => by kernel_rfl⟩
theorem s1 : stP 1 ∧ brP 1 := ⟨fun o m => by kernel_rfl,fun o m => by kernel_rfl⟩
theorem s2 : stP 2 ∧ brP 2 := ⟨fun o m => by kernel_rfl,fun o m => by kernel_rfl⟩
theorem s3 : stP 3 ∧ brP 3 := ⟨fun o m => by kernel_rfl,fun o m => by kernel_rfl⟩
theorem s4 : stP 4 ∧ brP 4 := ⟨fun o m => by kernel_rfl,fun o m => by kernel_rfl⟩
theorem s5 : stP 5 ∧ brP 5 := ⟨fun o m => by kernel_rfl,fun o m => by kernel_rfl⟩
theorem s6 : stP 6 ∧ brP 6 := ⟨fun o m => by kernel_rfl,fun o m => by kernel_rfl⟩
theorem s7 : stP 7 ∧ brP 7 := ⟨fun o m => by kernel_rfl,fun o m => by kernel_rfl⟩
theorem s8 : stP 8 ∧ brP 8 := ⟨fun o m => by kernel_rfl,fun o m => by kernel_rfl⟩
theorem s9 : stP 9 ∧ brP 9 := ⟨fun o m => by kernel_rfl,fun o m => by kernel_rfl⟩
theorem s10 : stP 10 ∧ brP 10 := ⟨fun o m => by kernel_rfl,fun o m => by kernel_rfl⟩
theorem s11 : stP 11 ∧ brP 11 := ⟨fun o m => by kernel_rfl,fun o m => by kernel_rfl⟩
theorem s12 : stP 12 ∧ brP 12 := ⟨fun o m => by kernel_rfl,fun o m => by kernel_rfl⟩
theorem s13 : stP 13 ∧ brP 13 := ⟨fun o m => by kernel_rfl,fun o m => by kernel_rfl⟩
theorem s14 : stP 14 ∧ brP 14 := ⟨fun o m => by kernel_rfl,fun o m => by kernel_rfl⟩
theorem s15 : stP 15 ∧ brP 15 := ⟨fun o m => by kernel_rfl,fun o m => by kernel_rfl⟩
theorem s16 : stP 16 ∧ brP 16 := ⟨fun o m => by kernel_rfl,fun o m => by kernel_rfl⟩
theorem s17 : stP 17 ∧ brP 17 := ⟨fun o m => by kernel_rfl,fun o m => by kernel_rfl⟩
theorem s18 : stP 18 ∧ brP 18 := ⟨fun o m => by kernel_rfl,fun o m => by kernel_rfl⟩
theorem s19 : stP 19 ∧ brP 19 := ⟨fun o m => by kernel_rfl,fun o m => by kernel_rfl⟩
theorem s20 : stP 20 ∧ brP 20 := ⟨fun o m => by kernel_rfl,fun o m => by kernel_rfl⟩
theorem s21 : stP 21 ∧ brP 21 := ⟨fun o m => by kernel_rfl,fun o m => by kernel_rfl⟩
theorem s22 : stP 22 ∧ brP 22 := ⟨fun o m => by kernel_rfl,fun o m => by kernel_rfl⟩
theorem s23 : stP 23 ∧ brP 23 := ⟨fun o m => by kernel_rfl,fun o m => by kernel_rfl⟩
theorem s24 : stP 24 ∧ brP 24 := ⟨fun o m => by kernel_rfl,fun o m => by kernel_rfl⟩
theorem s25 : stP 25 ∧ brP 25 := ⟨fun o m => by kernel_rfl,fun o m => by kernel_rfl⟩
theorem s26 : stP 26 ∧ brP 26 := ⟨fun o m => by kernel_rfl,fun o m => by kernel_rfl⟩
theorem s27 : stP 27 ∧ brP 27 := ⟨fun o m => by kernel_rfl,fun o m => by kernel_rfl⟩
theorem s28 : stP 28 ∧ brP 28 := ⟨fun o m => by kernel_rfl,fun o m => by kernel_rfl⟩
theorem s29 : stP 29 ∧ brP 29 := ⟨fun o m => by kernel_rfl,fun o m => by kernel_rfl⟩
theorem s30 : stP 30 ∧ brP 30 := ⟨fun o m => by kernel_rfl,fun o m => by kernel_rfl⟩
theorem s31 : stP 31 ∧ brP 31 := ⟨fun o m => by kernel_rfl,fun o m => by kernel_rfl⟩
theorem s32 : stP 32 ∧ brP 32 := ⟨fun o m => by kernel_rfl,fun o m => by kernel_rfl⟩
theorem s33 : stP 33 ∧ brP 33 := ⟨fun o m => by kernel_rfl,fun o m => by kernel_rfl⟩
theorem s34 : stP 34 ∧ brP 34 := ⟨fun o m => by kernel_rfl,fun o m => by kernel_rfl⟩
theorem s35 : stP 35 ∧ brP 35 := ⟨fun o m => by kernel_rfl,fun o m => by kernel_rfl⟩
theorem s36 : stP 36 ∧ brP 36 := ⟨fun o m => by kernel_rfl,fun o m => by kernel_rfl⟩
theorem s37 : stP 37 ∧ brP 37 := ⟨fun o m => by kernel_rfl,fun o m => by kernel_rfl⟩
theorem s38 : stP 38 ∧ brP 38 := ⟨fun o m => by kernel_rfl,fun o m => by kernel_rfl⟩
theorem s39 : stP 39 ∧ brP 39 := ⟨fun o m => by kernel_rfl,fun o m => by kernel_rfl⟩
theorem s40 : stP 40 ∧ brP 40 := ⟨fun o m => by kernel_rfl,fun o m => by kernel_rfl⟩
theorem s41 : stP 41 ∧ brP 41 := ⟨fun o m => by kernel_rfl,fun o m => by kernel_rfl⟩
theorem s42 : stP 42 ∧ brP 42 := ⟨fun o m => by kernel_rfl,fun o m => by kernel_rfl⟩
theorem s43 : stP 43 ∧ brP 43 := ⟨fun o m => by kernel_rfl,fun o m => by kernel_rfl⟩
theorem s44 : stP 44 ∧ brP 44 := ⟨fun o m => by kernel_rfl,fun o m => by kernel_rfl⟩
theorem s45 : stP 45 ∧ brP 45 := ⟨fun o m => by kernel_rfl,fun o m => by kernel_rfl⟩
theorem s46 : stP 46 ∧ brP 46 := ⟨fun o m => by kernel_rfl,fun o m => by kernel_rfl⟩
theorem s47 : stP 47 ∧ brP 47 := ⟨fun o m => by kernel_rfl,fun o m => by kernel_rfl⟩
theorem s48 : stP 48 ∧ brP 48 := ⟨fun o m => by kernel_rfl,fun o m => by kernel_rfl⟩
theorem s49 : stP 49 ∧ brP 49 := ⟨fun o m => by kernel_rfl,fun o m => by kernel_rfl⟩
theorem s50 : stP 50 ∧ brP 50 := ⟨fun o m => by kernel_rfl,fun o m => by kernel_rfl⟩
theorem s51 : stP 51 ∧ brP 51 := ⟨fun o m => by kernel_rfl,fun o m => by kernel_rfl⟩
theorem s52 : stP 52 ∧ brP 52 := ⟨fun o m => by kernel_rfl,fun o m => by kernel_rfl⟩
theorem s53 : stP 53 ∧ brP 53 := ⟨fun o m => by kernel_rfl,fun o m => by kernel_rfl⟩
theorem s54 : stP 54 ∧ brP 54 := ⟨fun o m => by kernel_rfl,fun o m => by kernel_rfl⟩
theorem s55 : stP 55 ∧ brP 55 := ⟨fun o m => by kernel_rfl,fun o m => by kernel_rfl⟩
theorem s56 : stP 56 ∧ brP 56 := ⟨fun o m => by kernel_rfl,fun o m => by kernel_rfl⟩
theorem s57 : stP 57 ∧ brP 57 := ⟨fun o m => by kernel_rfl,fun o m => by kernel_rfl⟩
theorem s58 : stP 58 ∧ brP 58 := ⟨fun o m => by kernel_rfl,fun o m => by kernel_rfl⟩
theorem s59 : stP 59 ∧ brP 59 := ⟨fun o m => by kernel_rfl,fun o m => by kernel_rfl⟩
theorem s60 : stP 60 ∧ brP 60 := ⟨fun o m => by kernel_rfl,fun o m => by kernel_rfl⟩
theorem s61 : stP 61 ∧ brP 61 := ⟨fun o m => by kernel_rfl,fun o m => by kernel_rfl⟩
theorem s62 : stP 62 ∧ brP 62 := ⟨fun o m => by kernel_rfl,fun o m => by kernel_rfl⟩
theorem s63 : stP 63 ∧ brP 63 := ⟨fun o m => by kernel_rfl,fun o m => by kernel_rfl⟩
theorem s64 : stP 64 ∧ brP 64 := ⟨fun o m => by kernel_rfl,fun o m => by kernel_rfl⟩
theorem s65 : stP 65 ∧ brP 65 := ⟨fun o m => by kernel_rfl,fun o m => by kernel_rfl⟩
theorem sAll : ∀ n,n < 66 → stP n ∧ brP n
 | 0,_ => s0
 | 1,_ => s1
 | 2,_ => s2
 | 3,_ => s3
 | 4,_ => s4
 | 5,_ => s5
 | 6,_ => s6
 | 7,_ => s7
 | 8,_ => s8
 | 9,_ => s9
 | 10,_ => s10
 | 11,_ => s11
 | 12,_ => s12
 | 13,_ => s13
 | 14,_ => s14
 | 15,_ => s15
 | 16,_ => s16
 | 17,_ => s17
 | 18,_ => s18
 | 19,_ => s19
 | 20,_ => s20
 | 21,_ => s21
 | 22,_ => s22
 | 23,_ => s23
 | 24,_ => s24
 | 25,_ => s25
 | 26,_ => s26
 | 27,_ => s27
 | 28,_ => s28
 | 29,_ => s29
 | 30,_ => s30
 | 31,_ => s31
 | 32,_ => s32
 | 33,_ => s33
 | 34,_ => s34
 | 35,_ => s35
 | 36,_ => s36
 | 37,_ => s37
 | 38,_ => s38
 | 39,_ => s39
 | 40,_ => s40
 | 41,_ => s41
 | 42,_ => s42
 | 43,_ => s43
 | 44,_ => s44
 | 45,_ => s45
 | 46,_ => s46
 | 47,_ => s47
 | 48,_ => s48
 | 49,_ => s49
 | 50,_ => s50
 | 51,_ => s51
 | 52,_ => s52
 | 53,_ => s53
 | 54,_ => s54
 | 55,_ => s55
 | 56,_ => s56
 | 57,_ => s57
 | 58,_ => s58
 | 59,_ => s59
 | 60,_ => s60
 | 61,_ => s61
 | 62,_ => s62
 | 63,_ => s63
 | 64,_ => s64
 | 65,_ => s65
 | n + 66,h => absurd h (by omega)
def dl : Nat → Nat → List QD
 | 0,_ => []
 | d + 1,n => Q n :: dl d (n + 1)
def D0 : List QD := dl 66 0
theorem find_l (o : Int) (m : ByteArray) : ∀ d n,n + d = 66 → UZ (S n o m) = some (resF (findR o m (dl d n) n))
 | 0,n,h => by
  obtain rfl : n = 66 := by omega
  rw [UZ.eq]
  exact congrArg (fun x => Option.bind x _) (show GS (S 66 o m) = some (.inr (.inr zR)) by kernel_rfl)
 | d + 1,n,h => by
  have ih := find_l o m d (n + 1) (by omega)
  rw [goS_eq _ ((sAll n (by omega)).1 o m),UZ.eq,(sAll n (by omega)).2 o m]
  exact glue (by omega) ih
theorem Qfu (op : Int) (name : ByteArray) : Wb op name = some (match findR op name D0 0 with | some r => (r.1,r.2,true) | none => (zR,0,false)) := by
 rw [Wb.eq]; unfold QgJ
 have h : UZ ⟨op,name,0,0,0,0,zR,s_,s_,s_⟩ = some (resF (findR op name D0 0)) := find_l op name 66 0 rfl
 rw [h,Option.bind_some]
 cases findR op name D0 0 <;> rfl
end Go.Ab
set_option maxRecDepth 100000
namespace Go.Ab
abbrev inI (v : Int) : Prop := IntKind.i64.min ≤ v ∧ v ≤ IntKind.i64.max
def Alike (e : ByteArray) (v : Int) : Prop := ∃ m p,QV e v = some m ∧ JP e v = some p ∧ p.2 = m ∧ (m = true → ∃ q,Q0 e v = some q ∧ p.1 = IntKind.u32.wrap q)
theorem QuP (q : Int) (h0 : 0 ≤ q) (h1 : q < 128) (a : Nat) (ha : a ≤ 21) : shlI .u32 (IntKind.u32.wrap q) (a : Int) = IntKind.u32.wrap (shlI .i64 q (a : Int)) := by
 have hq : IntKind.u32.wrap q = q := by unfold IntKind.wrap; simp [IntKind.bits,IntKind.signed]; omega
 have e1 : min (Int.toNat (a : Int)) IntKind.u32.bits = a := by simp [IntKind.bits]; omega
 have e2 : min (Int.toNat (a : Int)) IntKind.i64.bits = a := by simp [IntKind.bits]; omega
 rw [hq]; unfold shlI
 rw [e1,e2]
 have hp : (2 : Int) ^ a ≤ 2097152 := by
  have : (2 : Nat) ^ a ≤ 2 ^ 21 := Nat.pow_le_pow_right (by decide) ha
  have h2 : ((2 ^ a : Nat) : Int) = (2 : Int) ^ a := by simp
  omega
 have hp0 : (0 : Int) < 2 ^ a := Int.pow_pos (by decide)
 have hm : q * 2 ^ a < 268435456 := by
  have h1 : q * 2 ^ a ≤ 127 * 2 ^ a := Int.mul_le_mul_of_nonneg_right (by omega) (by omega)
  omega
 have hm0 : 0 ≤ q * 2 ^ a := Int.mul_nonneg h0 (by omega)
 congr 1
 exact (w64_in (by omega) (by omega)).symm
theorem WD (at_ n step less : Int) (bits : Nat) (a : Nat) (v : Int) (hv : inI v) (hat : at_ = a) (ha : a ≤ 21) (hl : less = 0 ∨ less = 1) (hs : step = 1 ∨ step = 2 ∨ step = 4) (hn : 0 < n ∧ n ≤ 128) (hb : shlI .i64 step (bits : Int) = n * step) :
  ∃ m p,V1 (w64 (v - less)) n step = some m ∧ QR ⟨at_,bits,step,less⟩ v = some p ∧ p.2 = m ∧ (m = true → p.1 = IntKind.u32.wrap (shlI .i64 (w64 (Int.tdiv (w64 (v - less)) step)) a)) := by
 obtain ⟨h0,h1⟩ := hv
 have h0' : -9223372036854775808 ≤ v := h0
 have h1' : v ≤ 9223372036854775807 := h1
 have hns : w64 (n * step) = n * step := w64_in (by rcases hs with rfl | rfl | rfl <;> omega) (by rcases hs with rfl | rfl | rfl <;> omega)
 rw [V1.eq,QR.eq]; unfold Qeg GH
 simp only
 rw [hns,hb]
 have hst : decide (step ≠ 0) = true := decide_eq_true (by rcases hs with rfl | rfl | rfl <;> decide)
 rw [hst,show decide (0 ≤ (bits : Int)) = true from decide_eq_true (by omega),show decide (0 ≤ at_) = true from decide_eq_true (by omega)]
 simp only [cond_true]
 by_cases c0 : v < less
 ·rw [decide_eq_true c0,cond_true]
  refine ⟨false,_,?_,rfl,rfl,fun h => nomatch h⟩
  by_cases hm : v - less < -9223372036854775808
  ·have : w64 (v - less) = v - less + 18446744073709551616 := by
    show IntKind.i64.wrap _ = _
    unfold IntKind.wrap; simp [IntKind.bits,IntKind.signed]; omega
   rw [this,show decide (v - less + 18446744073709551616 < n * step) = false from decide_eq_false (by rcases hs with rfl | rfl | rfl <;> omega)]
   cases decide (v - less + 18446744073709551616 ≥ 0) <;> rfl
  ·rw [w64_in (by omega) (by omega),show decide (v - less ≥ 0) = false from decide_eq_false (by omega)]; rfl
 ·rw [decide_eq_false c0,cond_false,w64_in (n := v - less) (by omega) (by omega),show decide (v - less ≥ 0) = true from decide_eq_true (by omega),cond_true]
  by_cases c1 : v - less < n * step
  ·rw [decide_eq_true c1,show decide (v - less ≥ n * step) = false from decide_eq_false (by omega),cond_true,cond_false]
   cases c2 : (Int.tmod (v - less) step == 0) with
   | true =>
    rw [show (Int.tmod (v - less) step != 0) = false by rw [bne,c2]; rfl,cond_false]
    refine ⟨true,_,rfl,rfl,rfl,fun _ => ?_⟩
    have hq : 0 ≤ Int.tdiv (v - less) step ∧ Int.tdiv (v - less) step < 128 := by
     rw [Int.tdiv_eq_ediv_of_nonneg (by omega)]
     rcases hs with rfl | rfl | rfl <;> constructor <;> omega
    rw [w64_in (n := Int.tdiv (v - less) step) (by omega) (by omega),hat]
    exact QuP _ hq.1 hq.2 a ha
   | false =>
    rw [show (Int.tmod (v - less) step != 0) = true by rw [bne,c2]; rfl,cond_true]
    exact ⟨false,_,rfl,rfl,rfl,fun h => nomatch h⟩
  ·rw [decide_eq_false c1,show decide (v - less ≥ n * step) = true from decide_eq_true (by omega),cond_true,cond_false]
   exact ⟨false,_,rfl,rfl,rfl,fun h => nomatch h⟩
theorem w64_w (x : Int) : w64 (w64 x) = w64 x := by
 have h : -9223372036854775808 ≤ w64 x ∧ w64 x < 9223372036854775808 := by
  show -9223372036854775808 ≤ IntKind.i64.wrap x ∧ IntKind.i64.wrap x < 9223372036854775808
  unfold IntKind.wrap; simp [IntKind.bits,IntKind.signed]; split <;> omega
 exact w64_in (by omega) (by omega)
theorem XM {v : Int} (hv : inI v) : w64 (Int.tdiv (w64 (v - 0)) 1) = v := by
 have h0 : -9223372036854775808 ≤ v := hv.1
 have h1 : v ≤ 9223372036854775807 := hv.2
 rw [Int.sub_zero,Int.tdiv_one,w64_in (n := v) h0 (by omega),w64_in (n := v) h0 (by omega)]
theorem Wc {v : Int} (hv : inI v) : w64 (v - 0) = v := by
 have h0 : -9223372036854775808 ≤ v := hv.1
 have h1 : v ≤ 9223372036854775807 := hv.2
 rw [Int.sub_zero,w64_in (n := v) h0 (by omega)]
theorem pl_U5 : QG s_U5 = some (⟨4,5,1,0⟩,true) := Jp (QG.cv _) 5 (by kernel_rfl)
theorem may_U5 (v : Int) : QV s_U5 v = (V1 v 32 1).bind fun r => some r := (QV.eq _ _).trans (by kernel_rfl)
theorem put_U5 (v : Int) : Q0 s_U5 v = some (shlI .i64 v 4) := (Q0.eq _ _).trans (by kernel_rfl)
theorem Qwa (v : Int) (hv : inI v) : Alike s_U5 v := by
 obtain ⟨m,p,h1,h2,h3,h4⟩ := WD 4 32 1 0 5 4 v hv rfl (by decide) (.inl rfl) (.inl rfl) ⟨by decide,by decide⟩ (by decide)
 rw [Wc hv] at h1 h4
 refine ⟨m,p,by rw [may_U5,h1]; rfl,?_,h3,fun hm => ⟨_,put_U5 v,(h4 hm).trans ?_⟩⟩
 ·rw [JP.eq]; unfold UC
  rw [pl_U5,Option.bind_some,cond_true]
  have h2' : QR ⟨4,5,1,0⟩ v = some p := h2
  refine (congrArg (fun x => Option.bind x _) h2').trans rfl
 ·have hd : w64 (Int.tdiv v 1) = v := by have := XM hv; rw [Wc hv] at this; exact this
  rw [hd]; rfl
theorem pl_U7 : QG s_U7 = some (⟨4,7,1,0⟩,true) := Jp (QG.cv _) 5 (by kernel_rfl)
theorem may_U7 (v : Int) : QV s_U7 v = (V1 v 128 1).bind fun r => some r := (QV.eq _ _).trans (by kernel_rfl)
theorem put_U7 (v : Int) : Q0 s_U7 v = some (shlI .i64 v 4) := (Q0.eq _ _).trans (by kernel_rfl)
theorem Qwb (v : Int) (hv : inI v) : Alike s_U7 v := by
 obtain ⟨m,p,h1,h2,h3,h4⟩ := WD 4 128 1 0 7 4 v hv rfl (by decide) (.inl rfl) (.inl rfl) ⟨by decide,by decide⟩ (by decide)
 rw [Wc hv] at h1 h4
 refine ⟨m,p,by rw [may_U7,h1]; rfl,?_,h3,fun hm => ⟨_,put_U7 v,(h4 hm).trans ?_⟩⟩
 ·rw [JP.eq]; unfold UC
  rw [pl_U7,Option.bind_some,cond_true]
  have h2' : QR ⟨4,7,1,0⟩ v = some p := h2
  refine (congrArg (fun x => Option.bind x _) h2').trans rfl
 ·have hd : w64 (Int.tdiv v 1) = v := by have := XM hv; rw [Wc hv] at this; exact this
  rw [hd]; rfl
theorem pl_O5 : QG s_O5 = some (⟨4,5,1,1⟩,true) := Jp (QG.cv _) 5 (by kernel_rfl)
theorem may_O5 (v : Int) : QV s_O5 v = (V1 (w64 (v - 1)) 32 1).bind fun r => some r := (QV.eq _ _).trans (by kernel_rfl)
theorem put_O5 (v : Int) : Q0 s_O5 v = some (shlI .i64 (w64 (v - 1)) 4) := (Q0.eq _ _).trans (by kernel_rfl)
theorem Qwc (v : Int) (hv : inI v) : Alike s_O5 v := by
 obtain ⟨m,p,h1,h2,h3,h4⟩ := WD 4 32 1 1 5 4 v hv rfl (by decide) (.inr rfl) (.inl rfl) ⟨by decide,by decide⟩ (by decide)
 skip
 refine ⟨m,p,by rw [may_O5,h1]; rfl,?_,h3,fun hm => ⟨_,put_O5 v,(h4 hm).trans ?_⟩⟩
 ·rw [JP.eq]; unfold UC
  rw [pl_O5,Option.bind_some,cond_true]
  have h2' : QR ⟨4,5,1,1⟩ v = some p := h2
  refine (congrArg (fun x => Option.bind x _) h2').trans rfl
 ·rw [Int.tdiv_one,show w64 (w64 (v - 1)) = w64 (v - 1) from w64_w _]; rfl
theorem pl_M1 : QG s_M1 = some (⟨8,4,1,0⟩,true) := Jp (QG.cv _) 5 (by kernel_rfl)
theorem may_M1 (v : Int) : QV s_M1 v = (V1 v 16 1).bind fun r => some r := (QV.eq _ _).trans (by kernel_rfl)
theorem put_M1 (v : Int) : Q0 s_M1 v = some (shlI .i64 v 8) := (Q0.eq _ _).trans (by kernel_rfl)
theorem Qwd (v : Int) (hv : inI v) : Alike s_M1 v := by
 obtain ⟨m,p,h1,h2,h3,h4⟩ := WD 8 16 1 0 4 8 v hv rfl (by decide) (.inl rfl) (.inl rfl) ⟨by decide,by decide⟩ (by decide)
 rw [Wc hv] at h1 h4
 refine ⟨m,p,by rw [may_M1,h1]; rfl,?_,h3,fun hm => ⟨_,put_M1 v,(h4 hm).trans ?_⟩⟩
 ·rw [JP.eq]; unfold UC
  rw [pl_M1,Option.bind_some,cond_true]
  have h2' : QR ⟨8,4,1,0⟩ v = some p := h2
  refine (congrArg (fun x => Option.bind x _) h2').trans rfl
 ·have hd : w64 (Int.tdiv v 1) = v := by have := XM hv; rw [Wc hv] at this; exact this
  rw [hd]; rfl
theorem pl_M2 : QG s_M2 = some (⟨8,4,2,0⟩,true) := Jp (QG.cv _) 5 (by kernel_rfl)
theorem may_M2 (v : Int) : QV s_M2 v = (V1 v 16 2).bind fun r => some r := (QV.eq _ _).trans (by kernel_rfl)
theorem put_M2 (v : Int) : Q0 s_M2 v = some (shlI .i64 (w64 (Int.tdiv v 2)) 8) := (Q0.eq _ _).trans (by kernel_rfl)
theorem Qwe (v : Int) (hv : inI v) : Alike s_M2 v := by
 obtain ⟨m,p,h1,h2,h3,h4⟩ := WD 8 16 2 0 4 8 v hv rfl (by decide) (.inl rfl) (.inr (.inl rfl)) ⟨by decide,by decide⟩ (by decide)
 rw [Wc hv] at h1 h4
 refine ⟨m,p,by rw [may_M2,h1]; rfl,?_,h3,fun hm => ⟨_,put_M2 v,(h4 hm).trans ?_⟩⟩
 ·rw [JP.eq]; unfold UC
  rw [pl_M2,Option.bind_some,cond_true]
  have h2' : QR ⟨8,4,2,0⟩ v = some p := h2
  refine (congrArg (fun x => Option.bind x _) h2').trans rfl
 ·rfl
theorem pl_M4 : QG s_M4 = some (⟨8,4,4,0⟩,true) := Jp (QG.cv _) 5 (by kernel_rfl)
theorem may_M4 (v : Int) : QV s_M4 v = (V1 v 16 4).bind fun r => some r := (QV.eq _ _).trans (by kernel_rfl)
theorem put_M4 (v : Int) : Q0 s_M4 v = some (shlI .i64 (w64 (Int.tdiv v 4)) 8) := (Q0.eq _ _).trans (by kernel_rfl)
theorem Qwf (v : Int) (hv : inI v) : Alike s_M4 v := by
 obtain ⟨m,p,h1,h2,h3,h4⟩ := WD 8 16 4 0 4 8 v hv rfl (by decide) (.inl rfl) (.inr (.inr rfl)) ⟨by decide,by decide⟩ (by decide)
 rw [Wc hv] at h1 h4
 refine ⟨m,p,by rw [may_M4,h1]; rfl,?_,h3,fun hm => ⟨_,put_M4 v,(h4 hm).trans ?_⟩⟩
 ·rw [JP.eq]; unfold UC
  rw [pl_M4,Option.bind_some,cond_true]
  have h2' : QR ⟨8,4,4,0⟩ v = some p := h2
  refine (congrArg (fun x => Option.bind x _) h2').trans rfl
 ·rfl
theorem pl_O1 : QG s_O1 = some (⟨10,1,1,0⟩,true) := Jp (QG.cv _) 5 (by kernel_rfl)
theorem may_O1 (v : Int) : QV s_O1 v = (V1 v 2 1).bind fun r => some r := (QV.eq _ _).trans (by kernel_rfl)
theorem put_O1 (v : Int) : Q0 s_O1 v = some (shlI .i64 v 10) := (Q0.eq _ _).trans (by kernel_rfl)
theorem Qwg (v : Int) (hv : inI v) : Alike s_O1 v := by
 obtain ⟨m,p,h1,h2,h3,h4⟩ := WD 10 2 1 0 1 10 v hv rfl (by decide) (.inl rfl) (.inl rfl) ⟨by decide,by decide⟩ (by decide)
 rw [Wc hv] at h1 h4
 refine ⟨m,p,by rw [may_O1,h1]; rfl,?_,h3,fun hm => ⟨_,put_O1 v,(h4 hm).trans ?_⟩⟩
 ·rw [JP.eq]; unfold UC
  rw [pl_O1,Option.bind_some,cond_true]
  have h2' : QR ⟨10,1,1,0⟩ v = some p := h2
  refine (congrArg (fun x => Option.bind x _) h2').trans rfl
 ·have hd : w64 (Int.tdiv v 1) = v := by have := XM hv; rw [Wc hv] at this; exact this
  rw [hd]; rfl
theorem pl_I2 : QG s_I2 = some (⟨8,2,1,0⟩,true) := Jp (QG.cv _) 5 (by kernel_rfl)
theorem may_I2 (v : Int) : QV s_I2 v = (V1 v 4 1).bind fun r => some r := (QV.eq _ _).trans (by kernel_rfl)
theorem put_I2 (v : Int) : Q0 s_I2 v = some (shlI .i64 v 8) := (Q0.eq _ _).trans (by kernel_rfl)
theorem Qwh (v : Int) (hv : inI v) : Alike s_I2 v := by
 obtain ⟨m,p,h1,h2,h3,h4⟩ := WD 8 4 1 0 2 8 v hv rfl (by decide) (.inl rfl) (.inl rfl) ⟨by decide,by decide⟩ (by decide)
 rw [Wc hv] at h1 h4
 refine ⟨m,p,by rw [may_I2,h1]; rfl,?_,h3,fun hm => ⟨_,put_I2 v,(h4 hm).trans ?_⟩⟩
 ·rw [JP.eq]; unfold UC
  rw [pl_I2,Option.bind_some,cond_true]
  have h2' : QR ⟨8,2,1,0⟩ v = some p := h2
  refine (congrArg (fun x => Option.bind x _) h2').trans rfl
 ·have hd : w64 (Int.tdiv v 1) = v := by have := XM hv; rw [Wc hv] at this; exact this
  rw [hd]; rfl
theorem pl_D : QG s_D = some (⟨21,5,1,0⟩,true) := Jp (QG.cv _) 5 (by kernel_rfl)
theorem may_D (v : Int) : QV s_D v = (V1 v 32 1).bind fun r => some r := (QV.eq _ _).trans (by kernel_rfl)
theorem put_D (v : Int) : Q0 s_D v = some (shlI .i64 v 21) := by
 refine (Q0.eq _ _).trans (Eq.trans (b := (QP s_D v).bind fun r => some r) (by kernel_rfl) ?_)
 rw [show QP s_D v = some (shlI .i64 v 21) from (QP.eq _ _).trans (by kernel_rfl)]; rfl
theorem Qxv (v : Int) (hv : inI v) : Alike s_D v := by
 obtain ⟨m,p,h1,h2,h3,h4⟩ := WD 21 32 1 0 5 21 v hv rfl (by decide) (.inl rfl) (.inl rfl) ⟨by decide,by decide⟩ (by decide)
 rw [Wc hv] at h1 h4
 refine ⟨m,p,by rw [may_D,h1]; rfl,?_,h3,fun hm => ⟨_,put_D v,(h4 hm).trans ?_⟩⟩
 ·rw [JP.eq]; unfold UC
  rw [pl_D,Option.bind_some,cond_true]
  have h2' : QR ⟨21,5,1,0⟩ v = some p := h2
  refine (congrArg (fun x => Option.bind x _) h2').trans rfl
 ·have hd : w64 (Int.tdiv v 1) = v := by have := XM hv; rw [Wc hv] at this; exact this
  rw [hd]; rfl
theorem pl_A : QG s_A = some (⟨16,5,1,0⟩,true) := Jp (QG.cv _) 5 (by kernel_rfl)
theorem may_A (v : Int) : QV s_A v = (V1 v 32 1).bind fun r => some r := (QV.eq _ _).trans (by kernel_rfl)
theorem put_A (v : Int) : Q0 s_A v = some (shlI .i64 v 16) := by
 refine (Q0.eq _ _).trans (Eq.trans (b := (QP s_A v).bind fun r => some r) (by kernel_rfl) ?_)
 rw [show QP s_A v = some (shlI .i64 v 16) from (QP.eq _ _).trans (by kernel_rfl)]; rfl
theorem Qxw (v : Int) (hv : inI v) : Alike s_A v := by
 obtain ⟨m,p,h1,h2,h3,h4⟩ := WD 16 32 1 0 5 16 v hv rfl (by decide) (.inl rfl) (.inl rfl) ⟨by decide,by decide⟩ (by decide)
 rw [Wc hv] at h1 h4
 refine ⟨m,p,by rw [may_A,h1]; rfl,?_,h3,fun hm => ⟨_,put_A v,(h4 hm).trans ?_⟩⟩
 ·rw [JP.eq]; unfold UC
  rw [pl_A,Option.bind_some,cond_true]
  have h2' : QR ⟨16,5,1,0⟩ v = some p := h2
  refine (congrArg (fun x => Option.bind x _) h2').trans rfl
 ·have hd : w64 (Int.tdiv v 1) = v := by have := XM hv; rw [Wc hv] at this; exact this
  rw [hd]; rfl
theorem pl_B : QG s_B = some (⟨11,5,1,0⟩,true) := Jp (QG.cv _) 5 (by kernel_rfl)
theorem may_B (v : Int) : QV s_B v = (V1 v 32 1).bind fun r => some r := (QV.eq _ _).trans (by kernel_rfl)
theorem put_B (v : Int) : Q0 s_B v = some (shlI .i64 v 11) := by
 refine (Q0.eq _ _).trans (Eq.trans (b := (QP s_B v).bind fun r => some r) (by kernel_rfl) ?_)
 rw [show QP s_B v = some (shlI .i64 v 11) from (QP.eq _ _).trans (by kernel_rfl)]; rfl
theorem Qxx (v : Int) (hv : inI v) : Alike s_B v := by
 obtain ⟨m,p,h1,h2,h3,h4⟩ := WD 11 32 1 0 5 11 v hv rfl (by decide) (.inl rfl) (.inl rfl) ⟨by decide,by decide⟩ (by decide)
 rw [Wc hv] at h1 h4
 refine ⟨m,p,by rw [may_B,h1]; rfl,?_,h3,fun hm => ⟨_,put_B v,(h4 hm).trans ?_⟩⟩
 ·rw [JP.eq]; unfold UC
  rw [pl_B,Option.bind_some,cond_true]
  have h2' : QR ⟨11,5,1,0⟩ v = some p := h2
  refine (congrArg (fun x => Option.bind x _) h2').trans rfl
 ·have hd : w64 (Int.tdiv v 1) = v := by have := XM hv; rw [Wc hv] at this; exact this
  rw [hd]; rfl
theorem pl_O2 : QG s_O2 = some (⟨20,2,1,0⟩,true) := Jp (QG.cv _) 5 (by kernel_rfl)
theorem may_O2 (v : Int) : QV s_O2 v = (V1 v 4 1).bind fun r => some r := (QV.eq _ _).trans (by kernel_rfl)
theorem put_O2 (v : Int) : Q0 s_O2 v = some (shlI .i64 v 20) := by
 refine (Q0.eq _ _).trans (Eq.trans (b := (QP s_O2 v).bind fun r => some r) (by kernel_rfl) ?_)
 rw [show QP s_O2 v = some (shlI .i64 v 20) from (QP.eq _ _).trans (by kernel_rfl)]; rfl
theorem Qwi (v : Int) (hv : inI v) : Alike s_O2 v := by
 obtain ⟨m,p,h1,h2,h3,h4⟩ := WD 20 4 1 0 2 20 v hv rfl (by decide) (.inl rfl) (.inl rfl) ⟨by decide,by decide⟩ (by decide)
 rw [Wc hv] at h1 h4
 refine ⟨m,p,by rw [may_O2,h1]; rfl,?_,h3,fun hm => ⟨_,put_O2 v,(h4 hm).trans ?_⟩⟩
 ·rw [JP.eq]; unfold UC
  rw [pl_O2,Option.bind_some,cond_true]
  have h2' : QR ⟨20,2,1,0⟩ v = some p := h2
  refine (congrArg (fun x => Option.bind x _) h2').trans rfl
 ·have hd : w64 (Int.tdiv v 1) = v := by have := XM hv; rw [Wc hv] at this; exact this
  rw [hd]; rfl
theorem pl_I4 : QG s_I4 = some (⟨16,4,1,0⟩,true) := Jp (QG.cv _) 5 (by kernel_rfl)
theorem may_I4 (v : Int) : QV s_I4 v = (V1 v 16 1).bind fun r => some r := (QV.eq _ _).trans (by kernel_rfl)
theorem put_I4 (v : Int) : Q0 s_I4 v = some (shlI .i64 v 16) := by
 refine (Q0.eq _ _).trans (Eq.trans (b := (QP s_I4 v).bind fun r => some r) (by kernel_rfl) ?_)
 rw [show QP s_I4 v = some (shlI .i64 v 16) from (QP.eq _ _).trans (by kernel_rfl)]; rfl
theorem Qwj (v : Int) (hv : inI v) : Alike s_I4 v := by
 obtain ⟨m,p,h1,h2,h3,h4⟩ := WD 16 16 1 0 4 16 v hv rfl (by decide) (.inl rfl) (.inl rfl) ⟨by decide,by decide⟩ (by decide)
 rw [Wc hv] at h1 h4
 refine ⟨m,p,by rw [may_I4,h1]; rfl,?_,h3,fun hm => ⟨_,put_I4 v,(h4 hm).trans ?_⟩⟩
 ·rw [JP.eq]; unfold UC
  rw [pl_I4,Option.bind_some,cond_true]
  have h2' : QR ⟨16,4,1,0⟩ v = some p := h2
  refine (congrArg (fun x => Option.bind x _) h2').trans rfl
 ·have hd : w64 (Int.tdiv v 1) = v := by have := XM hv; rw [Wc hv] at this; exact this
  rw [hd]; rfl
end Go.Ab
set_option maxRecDepth 100000
namespace Go.Ab
theorem EB (v b n : Int) (hb : shlI .i64 1 (IntKind.u64.wrap (w64 (b - 1))) = n) (hn : 0 < n ∧ n < 4611686018427387904) (h1 : 0 ≤ IntKind.u64.wrap (w64 (b - 1))) (hf : fitsS v b = some (decide (-n ≤ v ∧ v < n))) : JF v b = J1 v b := by
 show JF v b = fitsS v b
 rw [JF.eq,hf]; unfold QcY
 rw [decide_eq_true h1,cond_true,hb,w64_in (n := 0 - n) (by omega) (by omega)]
 by_cases h : v ≥ 0 - n
 ·rw [decide_eq_true h,cond_true]; congr 1; rw [Bool.eq_iff_iff,decide_eq_true_iff,decide_eq_true_iff]; omega
 ·rw [decide_eq_false h,cond_false]; congr 1; rw [eq_comm,decide_eq_false_iff_not]; omega
theorem fits_9 (v : Int) : JF v 9 = J1 v 9 := EB v 9 256 (by decide) (by decide) (by decide) rfl
theorem Qru (v : Int) : JF v 16 = J1 v 16 := EB v 16 32768 (by decide) (by decide) (by decide) rfl
theorem Qxy (v : Int) : JF v 20 = J1 v 20 := EB v 20 524288 (by decide) (by decide) (by decide) rfl
theorem Qxz (v : Int) : JF v 25 = J1 v 25 := EB v 25 16777216 (by decide) (by decide) (by decide) rfl
theorem plN (e : ByteArray) (h : ∃ k p,QG.s k e = some (p,false)) : ∃ p,QG e = some (p,false) := by
 obtain ⟨k,p,h⟩ := h; exact ⟨p,Jp (QG.cv _) k h⟩
theorem EC {e : ByteArray} {p : QA} (h : QG e = some (p,false)) (v : Int) {x : Option (Int × Bool)} (hx : (UC (fun _ => some (p,false)) QR Vo VB J1 WI J0 e v) = x) : JP e v = x := by
 rw [JP.eq,← hx]; unfold UC
 rw [h]
noncomputable def aChk (e : ByteArray) (i : Nat) : Bool := match QV.s 20 e (i : Int),JP.s 20 e (i : Int),Q0.s 20 e (i : Int) with
 | some m,some p,some q => (p.2 == m) && (p.1 == IntKind.u32.wrap q || !m)
 | _,_,_ => false
theorem chk_X : ((List.range 32).all (aChk s_X)) = true := by kernel_rfl
theorem chk_Y : ((List.range 32).all (aChk s_Y)) = true := by kernel_rfl
theorem Qng {e : ByteArray} {i : Nat} (h : ((List.range 32).all (aChk e)) = true) (hi : i < 32) : Alike e i := by
 have h := List.all_eq_true.1 h i (List.mem_range.2 hi)
 unfold aChk at h
 split at h
 ·rename_i m p q e1 e2 e3
  rw [Bool.and_eq_true,beq_iff_eq,Bool.or_eq_true,beq_iff_eq] at h
  refine ⟨m,p,Jp (QV.cv _ _) _ e1,Jp (JP.cv _ _) _ e2,h.1,fun hm => ⟨q,Jp (Q0.cv _ _) _ e3,?_⟩⟩
  rcases h.2 with h | h
  ·exact h
  ·rw [hm] at h; cases h
 ·cases h
theorem Qrv (v : Int) (h : v < 0 ∨ 31 < v) : (bif (decide (v ≥ (0 : Int))) then (bif (decide (v ≤ (7 : Int))) then (some true) else (bif (decide (v ≥ (24 : Int))) then (some (decide (v ≤ (31 : Int)))) else (some false))) else (bif (decide (v ≥ (24 : Int))) then (some (decide (v ≤ (31 : Int)))) else (some false))) = some false := by
 rcases h with h | h
 ·rw [show decide (v ≥ 0) = false from decide_eq_false (by omega),show decide (v ≥ 24) = false from decide_eq_false (by omega)]; rfl
 ·rw [show decide (v ≥ 0) = true from decide_eq_true (by omega),show decide (v ≤ 7) = false from decide_eq_false (by omega),show decide (v ≥ 24) = true from decide_eq_true (by omega),show decide (v ≤ 31) = false from decide_eq_false (by omega)]; rfl
theorem may_X (v : Int) : QV s_X v = (bif (decide (v ≥ (0 : Int))) then (bif (decide (v ≤ (7 : Int))) then (some true) else (bif (decide (v ≥ (24 : Int))) then (some (decide (v ≤ (31 : Int)))) else (some false))) else (bif (decide (v ≥ (24 : Int))) then (some (decide (v ≤ (31 : Int)))) else (some false))) := (QV.eq _ _).trans (by kernel_rfl)
theorem may_Y (v : Int) : QV s_Y v = (bif (decide (v ≥ (0 : Int))) then (bif (decide (v ≤ (7 : Int))) then (some true) else (bif (decide (v ≥ (24 : Int))) then (some (decide (v ≤ (31 : Int)))) else (some false))) else (bif (decide (v ≥ (24 : Int))) then (some (decide (v ≤ (31 : Int)))) else (some false))) := (QV.eq _ _).trans (by kernel_rfl)
theorem Qrw {e : ByteArray} {p : QA} (hp : QG e = some (p,false)) (he : eqS e s_X = true ∨ (eqS e s_X = false ∧ eqS e s_Y = true)) (v : Int) (h : v < 0 ∨ 31 < v) : JP e v = some (0,false) := by
 rw [JP.eq]; unfold UC
 rw [hp,Option.bind_some,cond_false]
 have k : ∀ x : Option (Int × Bool),∀ y : Option (Int × Bool),(bif (decide (v < (0 : Int))) then (some ((0 : Int),false)) else (bif (decide (v > (7 : Int))) then (bif (decide (v < (24 : Int))) then (some ((0 : Int),false)) else (bif (decide (v > (31 : Int))) then (some ((0 : Int),false)) else x)) else y)) = some (0,false) := by
  intro x y
  rcases h with h | h
  ·rw [show decide (v < 0) = true from decide_eq_true h]; rfl
  ·rw [show decide (v < 0) = false from decide_eq_false (by omega),show decide (v > 7) = true from decide_eq_true (by omega),show decide (v < 24) = false from decide_eq_false (by omega),show decide (v > 31) = true from decide_eq_true (by omega)]; rfl
 rcases he with he | ⟨he,he'⟩
 ·rw [he,cond_true]; exact k _ _
 ·rw [he,cond_false,he',cond_true]; exact k _ _
theorem pl_X : ∃ p,QG s_X = some (p,false) := plN _ ⟨20,⟨0,0,0,0⟩,by kernel_rfl⟩
theorem pl_Y : ∃ p,QG s_Y = some (p,false) := plN _ ⟨20,⟨0,0,0,0⟩,by kernel_rfl⟩
theorem QxA (v : Int) : Alike s_X v := by
 by_cases h : 0 ≤ v ∧ v < 32
 ·obtain ⟨i,rfl⟩ := Int.eq_ofNat_of_zero_le h.1; exact Qng chk_X (by omega)
 ·obtain ⟨p,hp⟩ := pl_X
  exact ⟨false,_,(may_X v).trans (Qrv v (by omega)),Qrw hp (.inl (Xb.2 rfl)) v (by omega),rfl,fun h => nomatch h⟩
theorem QxB (v : Int) : Alike s_Y v := by
 by_cases h : 0 ≤ v ∧ v < 32
 ·obtain ⟨i,rfl⟩ := Int.eq_ofNat_of_zero_le h.1; exact Qng chk_Y (by omega)
 ·obtain ⟨p,hp⟩ := pl_Y
  exact ⟨false,_,(may_Y v).trans (Qrv v (by omega)),Qrw hp (.inr ⟨by kernel_rfl,Xb.2 rfl⟩) v (by omega),rfl,fun h => nomatch h⟩
theorem QuQ (v : Int) : Alike WK v := by
 obtain ⟨p,hp⟩ := plN WK ⟨20,⟨0,0,0,0⟩,by kernel_rfl⟩
 obtain ⟨m,hm,_⟩ := QjW v 16 (by simp)
 refine ⟨m,(IntKind.u32.wrap (andI .i64 v 65535),m),?_,?_,rfl,fun _ => ⟨andI .i64 v 65535,?_,rfl⟩⟩
 ·refine (QV.eq _ _).trans (Eq.trans (b := (QY WK v).bind fun r => some r) (by kernel_rfl) ?_)
  rw [show QY WK v = (JF v 16).bind fun r => some r from (QY.eq _ _).trans (by kernel_rfl),Qru,hm]; rfl
 ·refine EC hp v ?_
  refine Eq.trans (b := (J1 v 16).bind fun r => some (IntKind.u32.wrap (andI .i64 v 65535),r)) (by kernel_rfl) ?_
  rw [hm]; rfl
 ·refine (Q0.eq _ _).trans (Eq.trans (b := (QP WK v).bind fun r => some r) (by kernel_rfl) ?_)
  rw [show QP WK v = some (andI .i64 v 65535) from (QP.eq _ _).trans (by kernel_rfl)]; rfl
theorem QuR (v : Int) : Alike WJ v := by
 obtain ⟨p,hp⟩ := plN WJ ⟨20,⟨0,0,0,0⟩,by kernel_rfl⟩
 obtain ⟨m,hm,_⟩ := QjW v 20 (by simp)
 have hs : ∃ s,VB v = some s ∧ VR v = some s := by
  rw [VB.eq,VR.eq]; exact ⟨_,rfl,rfl⟩
 obtain ⟨s,s1,s2⟩ := hs
 refine ⟨m,(IntKind.u32.wrap (orI .i64 (orI .i64 (shlI .i64 s.1 11) (shlI .i64 s.2.1 16)) s.2.2),m),?_,?_,rfl,fun _ => ⟨orI .i64 (orI .i64 (shlI .i64 s.1 11) (shlI .i64 s.2.1 16)) s.2.2,?_,rfl⟩⟩
 ·refine (QV.eq _ _).trans (Eq.trans (b := (QY WJ v).bind fun r => some r) (by kernel_rfl) ?_)
  rw [show QY WJ v = (JF v 20).bind fun r => some r from (QY.eq _ _).trans (by kernel_rfl),Qxy,hm]; rfl
 ·refine EC hp v ?_
  refine Eq.trans (b := (VB v).bind fun r7 => (J1 v 20).bind fun r => some (IntKind.u32.wrap (orI .i64 (orI .i64 (shlI .i64 r7.1 11) (shlI .i64 r7.2.1 16)) r7.2.2),r)) (by kernel_rfl) ?_
  rw [s1,hm]; rfl
 ·refine (Q0.eq _ _).trans (Eq.trans (b := (QP WJ v).bind fun r => some r) (by kernel_rfl) ?_)
  rw [show QP WJ v = (VR v).bind fun r1 => some (orI .i64 (orI .i64 (shlI .i64 r1.1 11) (shlI .i64 r1.2.1 16)) r1.2.2) from (QP.eq _ _).trans (by kernel_rfl),s2]; rfl
end Go.Ab
set_option maxRecDepth 100000
namespace Go.Ab
theorem QxC : J0 s_T8 = some 9 := Jp (J0.cv _) 20 (by kernel_rfl)
theorem QpM : J0 WL = some 16 := Jp (J0.cv _) 20 (by kernel_rfl)
theorem QpN : J0 Uo = some 25 := Jp (J0.cv _) 20 (by kernel_rfl)
theorem Qfv {e : ByteArray} {v b q : Int} {k : Option (Int × Bool)} (hb : b = 9 ∨ b = 25 ∨ b = 16 ∨ b = 20) (hf : JF v b = J1 v b)
  (h1 : JP e v = (bif (Int.tmod v 2 != 0) then some (0,false) else (J1 v b).bind fun r12 => bif (!r12) then some (0,false) else some (IntKind.u32.wrap q,true)))
  (h2 : QV e v = UL v b) (h3 : Q0 e v = some q) : Alike e v := by
 obtain ⟨m,hm,_⟩ := QjW v b hb
 rw [hm] at h1
 rw [UL.eq] at h2; unfold Z4 at h2
 rw [hf,hm] at h2
 cases c : (Int.tmod v 2 == 0) with
 | false =>
  rw [show (Int.tmod v 2 != 0) = true by rw [bne,c]; rfl,cond_true] at h1
  rw [c,cond_false] at h2
  exact ⟨false,_,h2,h1,rfl,fun h => nomatch h⟩
 | true =>
  rw [show (Int.tmod v 2 != 0) = false by rw [bne,c]; rfl,cond_false] at h1
  rw [c,cond_true] at h2
  cases m with
  | false => exact ⟨false,_,h2,h1,rfl,fun h => nomatch h⟩
  | true => exact ⟨true,_,h2,h1,rfl,fun _ => ⟨q,h3,rfl⟩⟩
theorem Qwk (v : Int) : Alike s_T8 v := by
 obtain ⟨p,hp⟩ := plN s_T8 ⟨20,⟨0,0,0,0⟩,by kernel_rfl⟩
 refine Qfv (b := 9) (q := andI .i64 (w64 (Int.tdiv v 2)) 255) (k := none) (by simp) (fits_9 v) (EC hp v ?_) ?_ ((Q0.eq _ _).trans (by kernel_rfl))
 ·refine Eq.trans (b := bif (Int.tmod v 2 != 0) then some (0,false) else (J0 s_T8).bind fun b => (J1 v b).bind fun r12 => bif (!r12) then some (0,false) else some (IntKind.u32.wrap (andI .i64 (w64 (Int.tdiv v 2)) 255),true)) (by kernel_rfl) ?_
  rw [QxC]; rfl
 ·refine (QV.eq _ _).trans (Eq.trans (b := (QY s_T8 v).bind fun r => some r) (by kernel_rfl) ?_)
  rw [show QY s_T8 v = (UL v 9).bind fun r => some r from (QY.eq _ _).trans (by kernel_rfl)]
  cases UL v 9 <;> rfl
theorem QuS (v : Int) : Alike WL v := by
 obtain ⟨p,hp⟩ := plN WL ⟨20,⟨0,0,0,0⟩,by kernel_rfl⟩
 refine Qfv (b := 16) (q := andI .i64 v 65535) (k := none) (by simp) (Qru v) (EC hp v ?_) ?_ ?_
 ·refine Eq.trans (b := bif (Int.tmod v 2 != 0) then some (0,false) else (J0 WL).bind fun b => (J1 v b).bind fun r12 => bif (!r12) then some (0,false) else (J0 WL).bind fun r13 => bif (decide (0 ≤ r13)) then some (IntKind.u32.wrap (andI .i64 v (w64 ((shlI .i64 1 r13) - 1))),true) else none) (by kernel_rfl) ?_
  rw [QpM]; rfl
 ·refine (QV.eq _ _).trans (Eq.trans (b := (QY WL v).bind fun r => some r) (by kernel_rfl) ?_)
  rw [show QY WL v = (UL v 16).bind fun r => some r from (QY.eq _ _).trans (by kernel_rfl)]
  cases UL v 16 <;> rfl
 ·refine (Q0.eq _ _).trans (Eq.trans (b := (QP WL v).bind fun r => some r) (by kernel_rfl) ?_)
  rw [show QP WL v = some (andI .i64 v 65535) from (QP.eq _ _).trans (by kernel_rfl)]; rfl
theorem QuT (v : Int) : Alike Uo v := by
 obtain ⟨p,hp⟩ := plN Uo ⟨20,⟨0,0,0,0⟩,by kernel_rfl⟩
 refine Qfv (b := 25) (q := andI .i64 v 33554431) (k := none) (by simp) (Qxz v) (EC hp v ?_) ?_ ?_
 ·refine Eq.trans (b := bif (Int.tmod v 2 != 0) then some (0,false) else (J0 Uo).bind fun b => (J1 v b).bind fun r12 => bif (!r12) then some (0,false) else (J0 Uo).bind fun r13 => bif (decide (0 ≤ r13)) then some (IntKind.u32.wrap (andI .i64 v (w64 ((shlI .i64 1 r13) - 1))),true) else none) (by kernel_rfl) ?_
  rw [QpN]; rfl
 ·refine (QV.eq _ _).trans (Eq.trans (b := (QY Uo v).bind fun r => some r) (by kernel_rfl) ?_)
  rw [show QY Uo v = (UL v 25).bind fun r => some r from (QY.eq _ _).trans (by kernel_rfl)]
  cases UL v 25 <;> rfl
 ·refine (Q0.eq _ _).trans (Eq.trans (b := (QP Uo v).bind fun r => some r) (by kernel_rfl) ?_)
  rw [show QP Uo v = some (andI .i64 v 33554431) from (QP.eq _ _).trans (by kernel_rfl)]; rfl
end Go.Ab
set_option maxRecDepth 100000
namespace Go.Ab
def ub (v : Int) (s : Nat) : Int := v / (256 ^ s) % 256
theorem ub_byt (v : Int) (s : Nat) : byt (ub v s) := ⟨by unfold ub; omega,by unfold ub; omega⟩
theorem QcK (f : Bool) (s : Nat) {u : Int} (hu : byt u) : 0 ≤ bk f s u ∧ bk f s u < 4294967296 := by
 have hf := fb_byt f
 unfold bk pk4
 have : ∀ k : Nat,byt (if s = k then u else fb f) := fun k => by split <;> assumption
 have h3 := this 3
 have h2 := this 2
 have h1 := this 1
 have h0 := this 0
 omega
theorem ub_of (f : Bool) (s : Nat) (hs : s < 4) {u v : Int} (hu : byt u) (h : sgn32 (bk f s u) = v) : u = ub v s := by
 have hx : ∃ q,v = 4294967296 * q + bk f s u := by
  unfold sgn32 at h
  split at h
  ·exact ⟨0,by omega⟩
  ·exact ⟨-1,by omega⟩
 obtain ⟨q,hx⟩ := hx
 obtain ⟨hu0,hu1⟩ := hu
 unfold bk pk4 at hx
 unfold ub
 have : s = 0 ∨ s = 1 ∨ s = 2 ∨ s = 3 := by omega
 cases f <;> simp only [fb,if_true,Bool.false_eq_true,if_false] at hx <;> rcases this with rfl | rfl | rfl | rfl <;> simp at hx ⊢ <;> omega
def sciL (v : Int) : List (Bool × Nat) → Int × Int × Int × Bool
 | [] => (0,0,0,false)
 | p :: l => if sgn32 (bk p.1 p.2 (ub v p.2)) = v then (if p.1 then 1 else 0,(p.2 : Int),ub v p.2,true) else sciL v l
theorem Qnh (v : Int) (p : Bool × Nat) (l : List (Bool × Nat)) : sciL v (p :: l) = if sgn32 (bk p.1 p.2 (ub v p.2)) = v then (if p.1 then 1 else 0,(p.2 : Int),ub v p.2,true) else sciL v l := rfl
theorem QuU (v : Int) (f : Bool) (s : Nat) (hs : s < 4) : ∃ r,V7 v ⟨if f then 1 else 0,s⟩ = some r ∧ ((r = ub v s ∧ sgn32 (bk f s (ub v s)) = v) ∨ (r = -1 ∧ sgn32 (bk f s (ub v s)) ≠ v)) := by
 obtain ⟨r,h1,h2⟩ := QoN UV.eq (fun a => ∃ i : Nat,i ≤ 256 ∧ a = ⟨v,⟨if f then 1 else 0,s⟩,i⟩ ∧ ∀ j : Nat,j < i → sgn32 (bk f s j) ≠ v)
  (fun _ r => (∃ i : Nat,i < 256 ∧ r = .inl (i : Int) ∧ sgn32 (bk f s i) = v) ∨ (r = .inr () ∧ ∀ j : Nat,j < 256 → sgn32 (bk f s j) ≠ v)) (fun a => 256 - a.x6.toNat) (by
  rintro a ⟨i,hi,rfl,hq⟩
  unfold Xz
  simp only
  by_cases h : i < 256
  ·have c1 : decide ((i : Int) < 256) = true := decide_eq_true (by omega)
   have hb := Qrt f s (u := (i : Int)) ⟨by omega,by omega⟩
   rw [c1,cond_true,U9.eq]; unfold Yr
   simp only
   rw [hb]
   simp only [Option.bind_some]
   by_cases he : sgn32 (bk f s i) = v
   ·refine .inr ⟨.inl (i : Int),?_,.inl ⟨i,h,rfl,he⟩⟩
    rw [beq_iff_eq.2 he]; rfl
   ·refine .inl ⟨⟨v,⟨if f then 1 else 0,s⟩,(i + 1 : Nat)⟩,?_,⟨i + 1,by omega,rfl,fun j hj => ?_⟩,by simp only [Int.toNat_natCast]; omega,fun r hr => hr⟩
    ·rw [beq_eq_false_iff_ne.2 he,cond_false,w64_in (n := (i : Int) + 1) (by omega) (by omega)]; rfl
    ·rcases Nat.lt_or_ge j i with h' | h'
     ·exact hq j h'
     ·obtain rfl : j = i := by omega
      exact he
  ·have c1 : decide ((i : Int) < 256) = false := decide_eq_false (by omega)
   obtain rfl : i = 256 := by omega
   exact .inr ⟨.inr (),by rw [c1]; rfl,.inr ⟨rfl,hq⟩⟩) ⟨v,⟨if f then 1 else 0,s⟩,0⟩ ⟨0,by omega,rfl,fun j hj => by omega⟩
 rw [V7.eq]; unfold Zy
 rw [h1]
 rcases h2 with ⟨i,hi,rfl,he⟩ | ⟨rfl,hn⟩
 ·have hu := ub_of f s hs (u := (i : Int)) ⟨by omega,by omega⟩ he
  exact ⟨i,rfl,.inl ⟨hu,by rw [← hu]; exact he⟩⟩
 ·refine ⟨-1,rfl,.inr ⟨rfl,?_⟩⟩
  have hb := ub_byt v s
  obtain ⟨j,hj⟩ := Int.eq_ofNat_of_zero_le hb.1
  rw [hj]
  exact hn j (by omega)
theorem Qwl : ∀ i (h : i < forms8.length),(forms8[i]).2 < 4 := by decide
theorem Qwm (v : Int) : WI v = some (sciL v forms8) := by
 obtain ⟨r,h1,h2⟩ := QoN Va.eq (fun a => ∃ i : Nat,i ≤ 8 ∧ a = ⟨v,forms8.map fun p => ⟨if p.1 then 1 else 0,(p.2 : Int)⟩,8,i⟩)
  (fun a r => (match r with | .inl o => (o.x2,o.x3,o.x4,o.x5) | .inr _ => ((0 : Int),(0 : Int),(0 : Int),false)) = sciL v (forms8.drop a.x10.toNat)) (fun a => 8 - a.x10.toNat) (by
  rintro a ⟨i,hi,rfl⟩
  unfold X1
  simp only
  have hlen : forms8.length = 8 := rfl
  by_cases h : i < 8
  ·have c1 : decide ((i : Int) < 8) = true := decide_eq_true (by omega)
   have c2 : decide (0 ≤ (i : Int)) = true := decide_eq_true (by omega)
   have h' : i < forms8.length := by omega
   obtain ⟨r,e1,e2⟩ := QuU v forms8[i].1 forms8[i].2 (Qwl i h')
   rw [c1,cond_true,c2,cond_true,Int.toNat_natCast,List.getElem?_map,List.getElem?_eq_getElem h',Option.map_some,Option.bind_some,e1,Option.bind_some,List.drop_eq_getElem_cons h',Qnh]
   rcases e2 with ⟨rfl,e3⟩ | ⟨rfl,e3⟩
   ·rw [decide_eq_true (show ub v forms8[i].2 ≥ 0 from (ub_byt _ _).1),if_pos e3]
    exact .inr ⟨_,rfl,rfl⟩
   ·rw [if_neg e3]
    refine .inl ⟨⟨v,forms8.map fun p => ⟨if p.1 then 1 else 0,(p.2 : Int)⟩,8,(i + 1 : Nat)⟩,?_,⟨i + 1,by omega,rfl⟩,by simp only [Int.toNat_natCast]; omega,fun r hr => by simp only [Int.toNat_natCast] at hr; exact hr⟩
    rw [show decide ((-1 : Int) ≥ 0) = false from rfl,cond_false,w64_in (n := (i : Int) + 1) (by omega) (by omega)]; rfl
  ·have c1 : decide ((i : Int) < 8) = false := decide_eq_false (by omega)
   rw [Int.toNat_natCast,List.drop_of_length_le (by omega)]
   exact .inr ⟨_,by rw [c1]; rfl,rfl⟩) ⟨v,forms8.map fun p => ⟨if p.1 then 1 else 0,(p.2 : Int)⟩,8,0⟩ ⟨0,by omega,rfl⟩
 rw [WI.eq]; unfold Z8
 rw [Qv9,Option.bind_some]
 have e0 : Va ⟨v,forms8.map fun p => ⟨if p.1 then 1 else 0,(p.2 : Int)⟩,(((forms8.map fun p => (⟨if p.1 then 1 else 0,(p.2 : Int)⟩ : Qt)).length : Nat) : Int),0⟩ = some r := h1
 rw [e0,Option.bind_some]
 have h2' : (match r with | .inl o => (o.x2,o.x3,o.x4,o.x5) | .inr _ => ((0 : Int),(0 : Int),(0 : Int),false)) = sciL v forms8 := h2
 rw [← h2']
 cases r <;> rfl
end Go.Ab
set_option maxRecDepth 100000
namespace Go.Ab
theorem QxD (x : Int) : andI .i64 x 4294967295 = x % 4294967296 := by
 have e : andI .i64 x 4294967295 = w64 ((Ui x &&& Ui 4294967295 : Nat) : Int) := by
  show IntKind.i64.wrap _ = IntKind.i64.wrap _
  rw [← BitVec.toNat_and]; rfl
 have h1 : Ui 4294967295 = 2 ^ 32 - 1 := by decide
 rw [e,h1,Nat.and_two_pow_sub_one_eq_mod]
 have := Ui_eq x
 rw [w64_in (by omega) (by omega)]; omega
theorem QuV {x : Int} (h0 : 0 ≤ x) (h1 : x < 4294967296) : Jm x 32 = some (sgn32 x) := by
 rw [Jm.eq]; unfold S6
 rw [show IntKind.u64.wrap 32 = 32 from by decide,show shlI .i64 1 32 = 4294967296 from by decide,show w64 (4294967296 - 1) = 4294967295 from by decide,QxD,Int.emod_eq_of_lt h0 h1,show w64 (Int.tdiv 4294967296 2) = 2147483648 from by decide]
 rw [show decide (0 ≤ (32 : Int)) = true from rfl,cond_true]
 unfold sgn32
 by_cases h : x < 2147483648
 ·rw [show decide (x ≥ 2147483648) = false from decide_eq_false (by omega),if_pos h]; rfl
 ·rw [show decide (x ≥ 2147483648) = true from decide_eq_true (by omega),if_neg h,cond_true,w64_in (n := x - 4294967296) (by omega) (by omega)]
theorem PV (f : Bool) (s : Nat) {u x : Int} (hu : byt u) (hx : 0 ≤ x ∧ x < 16777216) (k : Nat) (hk : k < 4) :
  U0 ⟨if f then 1 else 0,s,u,x,k⟩ = U0 ⟨if f then 1 else 0,s,u,x * 256 + (if k = s then u else fb f),(k : Int) - 1⟩ := by
 rw [U0.eq ⟨if f then 1 else 0,s,u,x,k⟩]; unfold ZT
 have c1 : decide ((k : Int) ≥ 0) = true := decide_eq_true (by omega)
 have e1 : w64 ((k : Int) - 1) = (k : Int) - 1 := w64_in (by omega) (by omega)
 have c2 : ((k : Int) == (s : Int)) = decide (k = s) := by rw [Bool.eq_iff_iff,beq_iff_eq,decide_eq_true_iff]; omega
 have e3 : w64 (255 * (if f then (1 : Int) else 0)) = fb f := by cases f <;> decide
 have hf := fb_byt f
 simp only
 rw [c1,cond_true,e1,c2,e3,w64_in (n := x * 256) (by omega) (by omega),w64_in (n := x * 256 + u) (by omega) (by omega),w64_in (n := x * 256 + fb f) (by omega) (by omega)]
 by_cases h : k = s
 ·rw [decide_eq_true h,cond_true,if_pos h]; rfl
 ·rw [decide_eq_false h,cond_false,if_neg h]; rfl
theorem Qfw (f : Bool) (s : Nat) {u : Int} (hu : byt u) : Wt (if f then 1 else 0) s u = some (sgn32 (bk f s u)) := by
 have hf := fb_byt f
 have hb : ∀ k : Nat,byt (if k = s then u else fb f) := fun k => by split <;> assumption
 have h3 := hb 3
 have h2 := hb 2
 have h1 := hb 1
 have h0 := hb 0
 have e : bk f s u = pk4 (if 3 = s then u else fb f) (if 2 = s then u else fb f) (if 1 = s then u else fb f) (if 0 = s then u else fb f) := by
  unfold bk; simp only [eq_comm (a := s)]
 rw [e]
 rw [Wt.eq]; unfold GU
 have s3 := PV f s hu (x := 0) (by omega) 3 (by omega)
 rw [show (⟨if f then 1 else 0,(s : Int),u,0,((3 : Nat) : Int)⟩ : UF) = ⟨if f then 1 else 0,(s : Int),u,0,3⟩ from rfl] at s3
 rw [s3]
 generalize (if 3 = s then u else fb f) = b3 at h3
 rw [show (((3 : Nat) : Int) - 1) = ((2 : Nat) : Int) from rfl,PV f s hu (by omega) 2 (by omega)]
 generalize (if 2 = s then u else fb f) = b2 at h2
 rw [show (((2 : Nat) : Int) - 1) = ((1 : Nat) : Int) from rfl,PV f s hu (by omega) 1 (by omega)]
 generalize (if 1 = s then u else fb f) = b1 at h1
 rw [show (((1 : Nat) : Int) - 1) = ((0 : Nat) : Int) from rfl,PV f s hu (by omega) 0 (by omega)]
 generalize (if 0 = s then u else fb f) = b0 at h0
 rw [U0.eq]; unfold ZT
 have c1 : decide (((0 : Nat) : Int) - 1 ≥ 0) = false := rfl
 simp only
 rw [c1,cond_false]
 simp only [Option.bind_some,Sum.elim_inr]
 rw [show (((0 * 256 + b3) * 256 + b2) * 256 + b1) * 256 + b0 = pk4 b3 b2 b1 b0 from by unfold pk4; omega,QuV (by unfold pk4; omega) (by unfold pk4; omega)]; rfl
theorem ub_eq (v : Int) (s : Nat) (hs : s < 4) : andI .i64 (shrI .i64 v (IntKind.u64.wrap (w64 (8 * (s : Int))))) 255 = ub v s := by
 rw [QjV]
 have : s = 0 ∨ s = 1 ∨ s = 2 ∨ s = 3 := by omega
 unfold shrI ub
 rw [Int.fdiv_eq_ediv_of_nonneg _ (Int.le_of_lt (Int.pow_pos (by decide)))]
 rcases this with rfl | rfl | rfl | rfl <;> rfl
def sciO (v : Int) : List (Bool × Nat) → Option (Int × Int × Int)
 | [] => none
 | p :: l => if sgn32 (bk p.1 p.2 (ub v p.2)) = v then some (if p.1 then 1 else 0,(p.2 : Int),ub v p.2) else sciO v l
def l2O (v fi : Int) : Option (Int × Int × Int) → W4 ⊕ W5
 | some t => .inl ⟨t.1,t.2.1,t.2.2,true⟩
 | none => .inr ⟨v,fi⟩
theorem L2_end (v : Int) (f : Bool) : Uj ⟨v,if f then 1 else 0,((4 : Nat) : Int)⟩ = some (l2O v (if f then 1 else 0) (sciO v [])) := by
 rw [Uj.eq]; rfl
theorem Qip (v : Int) (f : Bool) (s : Nat) (hs : s < 4) (l : List (Bool × Nat)) (h : Uj ⟨v,if f then 1 else 0,((s + 1 : Nat) : Int)⟩ = some (l2O v (if f then 1 else 0) (sciO v l))) :
  Uj ⟨v,if f then 1 else 0,(s : Int)⟩ = some (l2O v (if f then 1 else 0) (sciO v ((f,s) :: l))) := by
 rw [Uj.eq]; unfold Yj
 simp only
 have hg : decide (0 ≤ IntKind.u64.wrap (w64 (8 * (s : Int)))) = true := by
  have : s = 0 ∨ s = 1 ∨ s = 2 ∨ s = 3 := by omega
  rcases this with rfl | rfl | rfl | rfl <;> decide
 rw [show decide ((s : Int) < 4) = true from decide_eq_true (by omega),cond_true,hg,cond_true,ub_eq v s hs,Qfw f s (ub_byt v s),Option.bind_some]
 unfold sciO
 by_cases he : sgn32 (bk f s (ub v s)) = v
 ·rw [beq_iff_eq.2 he,cond_true,if_pos he]; rfl
 ·rw [beq_eq_false_iff_ne.2 he,cond_false,if_neg he,w64_in (n := (s : Int) + 1) (by omega) (by omega)]; exact h
def fl (f : Bool) : List (Bool × Nat) := [(f,0),(f,1),(f,2),(f,3)]
theorem L2_all (v : Int) (f : Bool) : Uj ⟨v,if f then 1 else 0,0⟩ = some (l2O v (if f then 1 else 0) (sciO v (fl f))) :=
 Qip v f 0 (by omega) _ (Qip v f 1 (by omega) _ (Qip v f 2 (by omega) _ (Qip v f 3 (by omega) _ (L2_end v f))))
theorem sciL_O (v : Int) : ∀ l : List (Bool × Nat),sciL v l = match sciO v l with | some t => (t.1,t.2.1,t.2.2,true) | none => (0,0,0,false)
 | [] => rfl
 | p :: l => by
  unfold sciL sciO
  split
  ·rfl
  ·exact sciL_O v l
theorem Qni (v : Int) (p : Bool × Nat) (l : List (Bool × Nat)) : sciO v (p :: l) = if sgn32 (bk p.1 p.2 (ub v p.2)) = v then some (if p.1 then 1 else 0,(p.2 : Int),ub v p.2) else sciO v l := rfl
theorem QpO (v : Int) : ∀ l m : List (Bool × Nat),sciO v (l ++ m) = (sciO v l).or (sciO v m)
 | [],m => rfl
 | p :: l,m => by
  rw [List.cons_append,Qni,Qni]
  split
  ·rfl
  ·exact QpO v l m
theorem Qnj {v : Int} (h : v < -2147483648 ∨ 2147483647 < v) : ∀ l : List (Bool × Nat),sciO v l = none
 | [] => rfl
 | p :: l => by
  unfold sciO
  have hb := QcK p.1 p.2 (ub_byt v p.2)
  rw [if_neg (by unfold sgn32; split <;> omega)]
  exact Qnj h l
theorem QxE (v : Int) : JF v 32 = some (decide (-2147483648 ≤ v ∧ v < 2147483648)) := (EB v 32 2147483648 (by decide) (by decide) (by decide) rfl).trans rfl
theorem Qmd (v : Int) : Vy v = some (sciL v forms8) := by
 have hA : sciO v forms8 = (sciO v (fl false)).or (sciO v (fl true)) := QpO v (fl false) (fl true)
 rw [Vy.eq]; unfold GV
 rw [QxE,Option.bind_some,sciL_O]
 by_cases hr : -2147483648 ≤ v ∧ v < 2147483648
 ·rw [decide_eq_true hr,show (!true) = false from rfl,cond_false,hA]
  have k0 := L2_all v false
  have k1 := L2_all v true
  simp only [Bool.false_eq_true,if_false,if_true] at k0 k1
  rw [Vn.eq]; unfold XO
  simp only
  rw [show decide ((0 : Int) < 2) = true from rfl,cond_true,k0,Option.bind_some]
  cases sciO v (fl false) with
  | some t => rfl
  | none =>
   simp only [l2O,Sum.elim_inr,Option.bind_some,Sum.elim_inl,Option.none_or]
   rw [show w64 (0 + 1) = 1 from by decide,Vn.eq]; unfold XO
   simp only
   rw [show decide ((1 : Int) < 2) = true from rfl,cond_true,k1,Option.bind_some]
   cases sciO v (fl true) with
   | some t => rfl
   | none =>
    simp only [l2O,Sum.elim_inr,Option.bind_some,Sum.elim_inl]
    rw [show w64 (1 + 1) = 2 from by decide,Vn.eq]; rfl
 ·rw [decide_eq_false hr,Qnj (by omega)]; rfl
theorem Qwn (v : Int) : Alike s_C8 v := by
 obtain ⟨p,hp⟩ := plN s_C8 ⟨20,⟨0,0,0,0⟩,by kernel_rfl⟩
 have h1 := Qwm v
 have h2 := Qmd v
 generalize sciL v forms8 = r at h1 h2
 refine ⟨r.2.2.2,(IntKind.u32.wrap (orI .i64 (orI .i64 (shlI .i64 r.1 10) (shlI .i64 r.2.1 8)) r.2.2.1),r.2.2.2),?_,?_,rfl,fun _ => ⟨orI .i64 (orI .i64 (shlI .i64 r.1 10) (shlI .i64 r.2.1 8)) r.2.2.1,?_,rfl⟩⟩
 ·refine (QV.eq _ _).trans (Eq.trans (b := (QY s_C8 v).bind fun r => some r) (by kernel_rfl) ?_)
  rw [show QY s_C8 v = (Vy v).bind fun r => some r.2.2.2 from (QY.eq _ _).trans (by kernel_rfl),h2]; rfl
 ·refine EC hp v ?_
  refine Eq.trans (b := (WI v).bind fun r => some (IntKind.u32.wrap (orI .i64 (orI .i64 (shlI .i64 r.1 10) (shlI .i64 r.2.1 8)) r.2.2.1),r.2.2.2)) (by kernel_rfl) ?_
  rw [h1]; rfl
 ·refine (Q0.eq _ _).trans (Eq.trans (b := (QP s_C8 v).bind fun r => some r) (by kernel_rfl) ?_)
  rw [show QP s_C8 v = (Vy v).bind fun r => some (orI .i64 (orI .i64 (shlI .i64 r.1 10) (shlI .i64 r.2.1 8)) r.2.2.1) from (QP.eq _ _).trans (by kernel_rfl),h2]; rfl
end Go.Ab
set_option maxRecDepth 100000
namespace Go.Ab
def allK : List ByteArray := [s_X,s_Y,s_U5,s_U7,s_O5,s_M1,s_M2,s_M4,s_O1,s_I2,s_D,s_A,s_B,s_O2,s_I4,s_T8,WL,Uo,WK,WJ,s_C8]
theorem Qnk {e : ByteArray} (he : (allK.any fun k => eqS e k) = true) {v : Int} (hv : inI v) : Alike e v := by
 obtain ⟨k,hk,h⟩ := List.any_eq_true.1 he
 obtain rfl := Xb.1 h
 simp only [allK,List.mem_cons,List.not_mem_nil,or_false] at hk
 rcases hk with rfl | rfl | rfl | rfl | rfl | rfl | rfl | rfl | rfl | rfl | rfl | rfl | rfl | rfl | rfl | rfl | rfl | rfl | rfl | rfl | rfl
 ·exact QxA v
 ·exact QxB v
 ·exact Qwa v hv
 ·exact Qwb v hv
 ·exact Qwc v hv
 ·exact Qwd v hv
 ·exact Qwe v hv
 ·exact Qwf v hv
 ·exact Qwg v hv
 ·exact Qwh v hv
 ·exact Qxv v hv
 ·exact Qxw v hv
 ·exact Qxx v hv
 ·exact Qwi v hv
 ·exact Qwj v hv
 ·exact Qwk v
 ·exact QuS v
 ·exact QuT v
 ·exact QuQ v
 ·exact QuR v
 ·exact Qwn v
def eqL : List ByteArray → List ByteArray → Bool
 | [],[] => true
 | a :: l,b :: m => eqS a b && eqL l m
 | _,_ => false
theorem eqL_eq : ∀ {l m : List ByteArray},eqL l m = true → l = m
 | [],[],_ => rfl
 | [],_ :: _,h => nomatch h
 | _ :: _,[],h => nomatch h
 | a :: l,b :: m,h => by
  unfold eqL at h
  rw [Bool.and_eq_true] at h
  rw [Xb.1 h.1,eqL_eq h.2]
noncomputable def rowChk (k : Nat) : Bool := match Jr.s 2000 k,Xe.s 2000 k,WH.s 2000 k,WW.s 2000 k,D0[k]? with
 | some nm,some c,some ks,some sz,some q => (match JZ.s 2000 q.Kinds,ZU.s 2000 q.Bits with
  | some ws,some h => eqL ws ks && (h == c) && ((q.Bits.size : Int) == 2 * sz) && (sz == 2 || sz == 4) && (ks.all fun e => allK.any fun k => eqS e k) && decide (ks.length ≤ 8) && !eqS nm s_ && decide (0 ≤ c ∧ c < 4294967296)
  | _,_ => false)
 | _,_,_,_,_ => false
theorem row_0 : ((List.range' 0 6).all rowChk) = true := by kernel_rfl
theorem row_1 : ((List.range' 6 6).all rowChk) = true := by kernel_rfl
theorem row_2 : ((List.range' 12 6).all rowChk) = true := by kernel_rfl
theorem row_3 : ((List.range' 18 6).all rowChk) = true := by kernel_rfl
theorem row_4 : ((List.range' 24 6).all rowChk) = true := by kernel_rfl
theorem row_5 : ((List.range' 30 6).all rowChk) = true := by kernel_rfl
theorem row_6 : ((List.range' 36 6).all rowChk) = true := by kernel_rfl
theorem row_7 : ((List.range' 42 6).all rowChk) = true := by kernel_rfl
theorem row_8 : ((List.range' 48 6).all rowChk) = true := by kernel_rfl
theorem row_9 : ((List.range' 54 6).all rowChk) = true := by kernel_rfl
theorem row_10 : ((List.range' 60 6).all rowChk) = true := by kernel_rfl
theorem row_of {s n k : Nat} (h : ((List.range' s n).all rowChk) = true) (h1 : s ≤ k) (h2 : k < s + n) : rowChk k = true := List.all_eq_true.1 h k (List.mem_range'_1.2 ⟨h1,h2⟩)
theorem QxF {k : Nat} (h : k < 66) : rowChk k = true := by
 rcases Nat.lt_or_ge k 6 with h' | h'
 ·exact row_of row_0 (by omega) (by omega)
 rcases Nat.lt_or_ge k 12 with h' | h'
 ·exact row_of row_1 (by omega) (by omega)
 rcases Nat.lt_or_ge k 18 with h' | h'
 ·exact row_of row_2 (by omega) (by omega)
 rcases Nat.lt_or_ge k 24 with h' | h'
 ·exact row_of row_3 (by omega) (by omega)
 rcases Nat.lt_or_ge k 30 with h' | h'
 ·exact row_of row_4 (by omega) (by omega)
 rcases Nat.lt_or_ge k 36 with h' | h'
 ·exact row_of row_5 (by omega) (by omega)
 rcases Nat.lt_or_ge k 42 with h' | h'
 ·exact row_of row_6 (by omega) (by omega)
 rcases Nat.lt_or_ge k 48 with h' | h'
 ·exact row_of row_7 (by omega) (by omega)
 rcases Nat.lt_or_ge k 54 with h' | h'
 ·exact row_of row_8 (by omega) (by omega)
 rcases Nat.lt_or_ge k 60 with h' | h'
 ·exact row_of row_9 (by omega) (by omega)
 exact row_of row_10 (by omega) (by omega)
theorem rows {k : Nat} (h : k < 66) : ∃ nm c ks sz q,Jr k = some nm ∧ Xe k = some c ∧ WH k = some ks ∧ WW k = some sz ∧ D0[k]? = some q ∧ JZ q.Kinds = some ks ∧ ZU q.Bits = some c ∧ ((q.Bits.size : Int) = 2 * sz) ∧ (sz = 2 ∨ sz = 4) ∧ (∀ e ∈ ks,(allK.any fun k => eqS e k) = true) ∧ ks.length ≤ 8 ∧ eqS nm s_ = false ∧ 0 ≤ c ∧ c < 4294967296 := by
 have h := QxF h
 unfold rowChk at h
 split at h
 ·rename_i nm c ks sz q e1 e2 e3 e4 e5
  split at h
  ·rename_i ws hx e6 e7
   simp only [Bool.and_eq_true,beq_iff_eq,Bool.or_eq_true,decide_eq_true_eq,Bool.not_eq_true'] at h
   obtain ⟨⟨⟨⟨⟨⟨⟨h1,h2⟩,h3⟩,h4⟩,h5⟩,h6⟩,h7⟩,h8⟩ := h
   obtain rfl := eqL_eq h1
   subst h2
   exact ⟨nm,hx,ws,sz,q,Jp (Jr.cv _) _ e1,Jp (Xe.cv _) _ e2,Jp (WH.cv _) _ e3,Jp (WW.cv _) _ e4,e5,Jp (JZ.cv _) _ e6,Jp (ZU.cv _) _ e7,h3,h4,fun e he => List.all_eq_true.1 h5 e he,h6,h7,h8.1,h8.2⟩
  ·cases h
 ·cases h
end Go.Ab
set_option maxRecDepth 100000
namespace Go.Ab
theorem u32_w (z : Int) : IntKind.u32.wrap z = z % 4294967296 := by
 unfold IntKind.wrap; simp [IntKind.bits,IntKind.signed]
theorem i64_w (z : Int) : IntKind.i64.wrap z % 4294967296 = z % 4294967296 := by
 unfold IntKind.wrap; simp [IntKind.bits,IntKind.signed]; split <;> omega
theorem or_u32 (n q : Int) : orI .u32 (IntKind.u32.wrap n) (IntKind.u32.wrap q) = IntKind.u32.wrap (orI .i64 n q) := by
 have e : orI .i64 n q = IntKind.i64.wrap ((Ui n ||| Ui q : Nat) : Int) := by
  show IntKind.i64.wrap _ = IntKind.i64.wrap _
  rw [← BitVec.toNat_or]; rfl
 have e2 : orI .u32 (IntKind.u32.wrap n) (IntKind.u32.wrap q) = IntKind.u32.wrap (((BitVec.ofInt 32 (IntKind.u32.wrap n)).toNat ||| (BitVec.ofInt 32 (IntKind.u32.wrap q)).toNat : Nat) : Int) := by
  show IntKind.u32.wrap _ = IntKind.u32.wrap _
  rw [← BitVec.toNat_or]; rfl
 have h : ∀ z : Int,(BitVec.ofInt 32 (IntKind.u32.wrap z)).toNat = Ui z % 2 ^ 32 := by
  intro z
  have h1 := Ui_eq z
  rw [u32_w]
  have : ((BitVec.ofInt 32 (z % 4294967296)).toNat : Int) = (z % 4294967296) % 4294967296 := by
   rw [BitVec.toNat_ofInt]; simp; omega
  omega
 rw [e,e2,h,h,u32_w,u32_w,i64_w,← Nat.or_mod_two_pow]
 have : ((Ui n ||| Ui q) % 2 ^ 32 : Nat) = (Ui n ||| Ui q) % 4294967296 := rfl
 omega
theorem Qlg (x : Qi) (ks : List ByteArray) (hk : ks.length ≤ 8) (hl : x.F.length = ks.length) (ha : ∀ e ∈ ks,(allK.any fun k => eqS e k) = true) (hF : ∀ v ∈ x.F,inI v) :
  ∀ (m i : Nat),i + m = ks.length → ∀ n : Int,
   (∃ n',Ut ⟨ks,i,x⟩ = some (.inr ()) ∧ JI ⟨IntKind.u32.wrap n,ks,ks.length,i,x⟩ = some (.inr (IntKind.u32.wrap n')) ∧ ∀ q,UU ⟨ks,n,i,x,q⟩ = some ⟨n',q⟩) ∨
   (Ut ⟨ks,i,x⟩ = some (.inl false) ∧ JI ⟨IntKind.u32.wrap n,ks,ks.length,i,x⟩ = some (.inl ⟨0,false⟩))
 | 0,i,h,n => by
  have c : decide ((i : Int) < ks.length) = false := decide_eq_false (by omega)
  refine .inl ⟨n,?_,?_,fun q => ?_⟩
  ·rw [Ut.eq]; unfold E9; simp only; rw [c]; rfl
  ·rw [JI.eq]; unfold Za; simp only; rw [c]; rfl
  ·rw [UU.eq]; unfold Ew; simp only; rw [c]; rfl
 | m + 1,i,h,n => by
  have hi : i < ks.length := by omega
  have hi' : i < x.F.length := by omega
  have c : decide ((i : Int) < ks.length) = true := decide_eq_true (by omega)
  have c0 : decide (0 ≤ (i : Int)) = true := decide_eq_true (by omega)
  have hw : w64 ((i : Int) + 1) = ((i + 1 : Nat) : Int) := by rw [w64_in (by omega) (by omega)]; rfl
  obtain ⟨b,p,a1,a2,a3,a4⟩ := Qnk (ha ks[i] (List.getElem_mem hi)) (hF x.F[i] (List.getElem_mem hi'))
  have hR : Ut ⟨ks,i,x⟩ = if b then Ut ⟨ks,((i + 1 : Nat) : Int),x⟩ else some (.inl false) := by
   rw [Ut.eq]; unfold E9; simp only
   rw [c,cond_true,c0,cond_true,Int.toNat_natCast,List.getElem?_eq_getElem hi,Option.bind_some,List.getElem?_eq_getElem hi',Option.bind_some,a1,Option.bind_some,hw]
   cases b <;> rfl
  have hC : JI ⟨IntKind.u32.wrap n,ks,ks.length,i,x⟩ = if b then JI ⟨orI .u32 (IntKind.u32.wrap n) p.1,ks,ks.length,((i + 1 : Nat) : Int),x⟩ else some (.inl ⟨0,false⟩) := by
   rw [JI.eq]; unfold Za; simp only
   rw [c,cond_true,c0,cond_true,Int.toNat_natCast,List.getElem?_eq_getElem hi,Option.bind_some,List.getElem?_eq_getElem hi',Option.bind_some,a2,Option.bind_some,hw,a3]
   cases b <;> rfl
  cases b with
  | false => exact .inr ⟨hR,hC⟩
  | true =>
   obtain ⟨q,b1,b2⟩ := a4 rfl
   rw [if_pos rfl] at hR hC
   rw [b2,or_u32] at hC
   rw [hR,hC]
   have hE : ∀ r,UU ⟨ks,n,i,x,r⟩ = UU ⟨ks,orI .i64 n q,((i + 1 : Nat) : Int),x,r⟩ := by
    intro r
    rw [UU.eq]; unfold Ew; simp only
    rw [c,cond_true,c0,cond_true,Int.toNat_natCast,List.getElem?_eq_getElem hi,Option.bind_some,List.getElem?_eq_getElem hi',Option.bind_some,b1,Option.bind_some,hw]; rfl
   rcases Qlg x ks hk hl ha hF m (i + 1) (by omega) (orI .i64 n q) with ⟨n',d1,d2,d3⟩ | ⟨d1,d2⟩
   ·exact .inl ⟨n',d1,d2,fun r => (hE r).trans (d3 r)⟩
   ·exact .inr ⟨d1,d2⟩
end Go.Ab
