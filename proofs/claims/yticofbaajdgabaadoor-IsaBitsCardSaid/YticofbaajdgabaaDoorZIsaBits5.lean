/- IsaBits: part 5: the written functions, their contracts, and what is said of them. -/
import Derived.Test.YticofbaajdgabaaDoorZIsaBits4
import Derived.Laws.Strings
import Derived.Test.YticofbaajdgabaaDoorRows
import Derived.LaidMore
import Derived.ProofKit
import Derived.OpenShut
import Derived.Stop.Joined
set_option linter.unusedVariables false
set_option linter.unusedSimpArgs false
namespace Go.Proofs.YticofbaajdgabaaDoor.X
open Go.RowKit Go.Proofs.YticofbaajdgabaaDoorW.PrintWords Go.Proofs.YticofbaajdgabaaDoorW.PrintLast Go.Proofs.YticofbaajdgabaaDoorW.PrintMore
attribute [local go_sem] max2_int min2_int max_two min_two
set_option linter.unusedVariables false
set_option linter.unusedSimpArgs false
/-- An operation that comes up alone, in the world as it stands. -/
theorem here_ {P : Program} {ops : Array Oper} {Q : Exit → Act → World → Prop} {oi : Oper} {v : Value} {a : Act} {w : World} {K : Act → World → Prop} (hw : Region.wanted oi (yielded ops a.tmps) = true) (hrun : (execOp a.eval oi).run P w = .ok (.value v) w) (h : K (a.put oi.dst v) w) :
    if Region.wanted oi (yielded ops a.tmps) = true then Oper.wp P oi a w K Q else K (a.put oi.dst undef) w := by
  rw [if_pos hw]
  unfold Oper.wp
  rw [hrun]
  exact h
def letterpresslaw2_IsaBits.T7 : Bool × List (List Nat × List Nat) := (true, [([], []), ([0], [0]), ([], []), ([], []), ([3], [3]), ([2, 4], [2, 4]), ([1, 5], [1, 5]), ([], []), ([7, 6, 5, 0, 1, 2, 3, 4, 5, 6, 7], [6, 7])])
def letterpresslaw2_IsaBits.B7 : List Nat := [0, 1, 0, 0, 8, 28, 63, 0, 255]
theorem letterpresslaw2_IsaBits.tab7 : rtab .any (opsOf Tryd.f7 7) = letterpresslaw2_IsaBits.T7 := by kernel_rfl
theorem letterpresslaw2_IsaBits.bits7 : waitsOk letterpresslaw2_IsaBits.T7.2 letterpresslaw2_IsaBits.B7 = true := by kernel_rfl
def letterpresslaw2_IsaBits.T8 : Bool × List (List Nat × List Nat) := (true, [([], []), ([0], [0]), ([], []), ([], []), ([3], [3]), ([4], [4]), ([5, 5], [5]), ([], []), ([6, 7], [6, 7]), ([8], [8]), ([], []), ([9, 10, 6], [9, 10]), ([1, 2, 0, 1, 2, 3, 4, 5, 6, 7, 8, 9, 10, 11], [1, 2]), ([12, 11, 11, 0, 1, 2, 3, 4, 5, 6, 7, 8, 9, 10, 11], [11, 12])])
def letterpresslaw2_IsaBits.B8 : List Nat := [0, 1, 0, 0, 8, 24, 56, 0, 248, 504, 0, 2040, 4095, 8191]
theorem letterpresslaw2_IsaBits.tab8 : rtab .any (opsOf Tryd.f7 8) = letterpresslaw2_IsaBits.T8 := by kernel_rfl
theorem letterpresslaw2_IsaBits.bits8 : waitsOk letterpresslaw2_IsaBits.T8.2 letterpresslaw2_IsaBits.B8 = true := by kernel_rfl
def letterpresslaw2_IsaBits.T12 : Bool × List (List Nat × List Nat) := (true, [([], []), ([0], [0]), ([], []), ([2], [2]), ([1, 3], [1, 3]), ([4], [4]), ([5], [5]), ([5, 6], [5, 6]), ([7, 5], [7]), ([8], [8]), ([8], [8]), ([10, 8], [8, 10]), ([9, 11, 8], [8, 9, 11]), ([8, 12], [8, 12]), ([13, 8], [13]), ([14], [14]), ([14], [14]), ([15, 16, 14, 14], [14, 15, 16]), ([14, 17], [14, 17]), ([18, 17], [18]), ([19], [19]), ([20, 19], [19, 20]), ([19], [19]), ([22, 19], [19, 22]), ([21, 23, 19], [19, 21, 23]), ([19], [19]), ([25, 19], [19, 25]), ([19], [19]), ([26, 27, 19], [19, 26, 27]), ([28, 19], [19, 28]), ([19], [19]), ([30, 19], [19, 30]), ([19], [19]), ([31, 32, 19], [19, 31, 32]), ([33, 19], [19, 33]), ([29, 34, 19], [19, 29, 34]), ([24, 35, 19], [19, 24, 35]), ([19, 36], [19, 36]), ([37, 19, 0, 1, 2, 3, 4, 5, 6, 7, 8, 9, 10, 11, 12, 13, 14, 15, 16, 17, 18, 19, 20, 21, 22, 23, 24, 25, 26, 27, 28, 29, 30, 31, 32, 33, 34, 35, 36, 37], [37])])
def letterpresslaw2_IsaBits.B12 : List Nat := [0, 1, 0, 4, 15, 31, 63, 127, 255, 511, 511, 1535, 4095, 8191, 16383, 32767, 32767, 131071, 262143, 524287, 1048575, 2097151, 1048575, 5242879, 16777215, 1048575, 34603007, 1048575, 235929599, 504365055, 1048575, 1074790399, 1048575, 7517241343, 16107175935, 34327232511, 68719476735, 137438953471, 274877906943]
theorem letterpresslaw2_IsaBits.tab12 : rtab .any (opsOf Tryd.f7 12) = letterpresslaw2_IsaBits.T12 := by kernel_rfl
theorem letterpresslaw2_IsaBits.bits12 : waitsOk letterpresslaw2_IsaBits.T12.2 letterpresslaw2_IsaBits.B12 = true := by kernel_rfl
set_option maxHeartbeats 8000000 in
set_option maxRecDepth 100000 in
theorem letterpresslaw2_IsaBits.calls (k : Nat) (a0 : Int) (A1 : Option Addr) (c1 : Nat) (l1 : List Int) (a2 : Int) (a3 : Int) (r : Bool) (w : World) (hLaid_ : LaidW w) (hTrue_ : r = true) (hr1 : Kd.C (Kd.int .i64) w A1 l1.length l1) (hc1 : l1.length ≤ c1) (h : letterpresslaw2_IsaBits.f k a0 l1 a2 a3 = some r) :
    Calls Tryd.prog 7 #[.int .i64 a0, .slice A1 l1.length c1, .int .i64 a2, .int .i64 a3] w fun e w' => e = .returned (.bool r) ∧ Below w.heap.size w w' := by
  have hu28 := Tryd.underlying28
  have HR1 := Aside0.mk hr1
  have HC1 := Aside0.mk hc1
  clear hr1 hc1
  have HB := Aside0.mk (Below.refl w.heap.size w)
  have H : ((letterpresslaw2_known.f k).bind fun t658 => (if t658 = true then ((letterpresslaw2_Make.f k a0 l1).bind fun bt659 => (if (bt659.2.length : Int) = 0 then (some true) else ((letterpresslaw2_within.f a2 (bt659.2.length : Int)).bind fun t664 => ((some (([] : List Int) : List Int)).bind fun y665 => (if y665.length + bt659.2.length < 17592186044416 then ((some (y665 ++ bt659.2 : List Int)).bind fun y668 => ((letterpressref2_Kinds.f bt659.1).bind fun t672 => ((letterpressref2_Words.f k t672).bind fun t673 => (if 0 ≤ t664 then (if t664 < (t673.length : Int) then ((letterpresslaw2_Operand.f k (rdOf ByteArray.empty t673 t664) a3).bind fun t677 => (if t664 < (y668.length : Int) then ((some (y668.set (t664 : Int).toNat t677 : List Int)).bind fun y678 => ((isa_Encode.f k bt659.1 bt659.2).bind fun bt679 => ((isa_Encode.f k bt659.1 y678).bind fun bt683 => ((isa_Decode.f k bt683.1).bind fun bt687 => (if (bt679.1.length : Int) = (bt683.1.length : Int) then (if bt687.2.2.2 = true then (if bt687.2.2.1 = (bt683.1.length : Int) then ((letterpressref2_Same.f k bt687.1 bt687.2.1 bt659.1 y678).bind fun t694 => (if t694 = true then (if t664 < (bt659.2.length : Int) then (some (((strOfNums bt679.1).toList == (strOfNums bt683.1).toList) == ((rd bt659.2 t664) == (rd y678 t664)))) else (none)) else (some false))) else (some false)) else (some false)) else (some false)))))) else (none))) else (none)) else (none))))) else (none)))))) else (some false))) = some r := h
  clear h
  replace H := Option.bind_eq_some_iff.mp H
  obtain ⟨t658, A50, H⟩ := H
  replace H : (if t658 = true then ((letterpresslaw2_Make.f k a0 l1).bind fun bt659 => (if (bt659.2.length : Int) = 0 then (some true) else ((letterpresslaw2_within.f a2 (bt659.2.length : Int)).bind fun t664 => ((some (([] : List Int) : List Int)).bind fun y665 => (if y665.length + bt659.2.length < 17592186044416 then ((some (y665 ++ bt659.2 : List Int)).bind fun y668 => ((letterpressref2_Kinds.f bt659.1).bind fun t672 => ((letterpressref2_Words.f k t672).bind fun t673 => (if 0 ≤ t664 then (if t664 < (t673.length : Int) then ((letterpresslaw2_Operand.f k (rdOf ByteArray.empty t673 t664) a3).bind fun t677 => (if t664 < (y668.length : Int) then ((some (y668.set (t664 : Int).toNat t677 : List Int)).bind fun y678 => ((isa_Encode.f k bt659.1 bt659.2).bind fun bt679 => ((isa_Encode.f k bt659.1 y678).bind fun bt683 => ((isa_Decode.f k bt683.1).bind fun bt687 => (if (bt679.1.length : Int) = (bt683.1.length : Int) then (if bt687.2.2.2 = true then (if bt687.2.2.1 = (bt683.1.length : Int) then ((letterpressref2_Same.f k bt687.1 bt687.2.1 bt659.1 y678).bind fun t694 => (if t694 = true then (if t664 < (bt659.2.length : Int) then (some (((strOfNums bt679.1).toList == (strOfNums bt683.1).toList) == ((rd bt659.2 t664) == (rd y678 t664)))) else (none)) else (some false))) else (some false)) else (some false)) else (some false)))))) else (none))) else (none)) else (none))))) else (none)))))) else (some false)) = some r := H
  have A5 := Aside0.mk A50
  clear A50
  by_cases c6 : t658 = true
  · subst c6
    have H1 : ((letterpresslaw2_Make.f k a0 l1).bind fun bt659 => (if (bt659.2.length : Int) = 0 then (some true) else ((letterpresslaw2_within.f a2 (bt659.2.length : Int)).bind fun t664 => ((some (([] : List Int) : List Int)).bind fun y665 => (if y665.length + bt659.2.length < 17592186044416 then ((some (y665 ++ bt659.2 : List Int)).bind fun y668 => ((letterpressref2_Kinds.f bt659.1).bind fun t672 => ((letterpressref2_Words.f k t672).bind fun t673 => (if 0 ≤ t664 then (if t664 < (t673.length : Int) then ((letterpresslaw2_Operand.f k (rdOf ByteArray.empty t673 t664) a3).bind fun t677 => (if t664 < (y668.length : Int) then ((some (y668.set (t664 : Int).toNat t677 : List Int)).bind fun y678 => ((isa_Encode.f k bt659.1 bt659.2).bind fun bt679 => ((isa_Encode.f k bt659.1 y678).bind fun bt683 => ((isa_Decode.f k bt683.1).bind fun bt687 => (if (bt679.1.length : Int) = (bt683.1.length : Int) then (if bt687.2.2.2 = true then (if bt687.2.2.1 = (bt683.1.length : Int) then ((letterpressref2_Same.f k bt687.1 bt687.2.1 bt659.1 y678).bind fun t694 => (if t694 = true then (if t664 < (bt659.2.length : Int) then (some (((strOfNums bt679.1).toList == (strOfNums bt683.1).toList) == ((rd bt659.2 t664) == (rd y678 t664)))) else (none)) else (some false))) else (some false)) else (some false)) else (some false)))))) else (none))) else (none)) else (none))))) else (none)))))) = some r := by rw [if_pos rfl] at H; exact H
    clear H
    have H := H1
    clear H1
    replace H := Option.bind_eq_some_iff.mp H
    obtain ⟨⟨t659, t660⟩, A70, H⟩ := H
    replace H : (if (t660.length : Int) = 0 then (some true) else ((letterpresslaw2_within.f a2 (t660.length : Int)).bind fun t664 => ((some (([] : List Int) : List Int)).bind fun y665 => (if y665.length + t660.length < 17592186044416 then ((some (y665 ++ t660 : List Int)).bind fun y668 => ((letterpressref2_Kinds.f t659).bind fun t672 => ((letterpressref2_Words.f k t672).bind fun t673 => (if 0 ≤ t664 then (if t664 < (t673.length : Int) then ((letterpresslaw2_Operand.f k (rdOf ByteArray.empty t673 t664) a3).bind fun t677 => (if t664 < (y668.length : Int) then ((some (y668.set (t664 : Int).toNat t677 : List Int)).bind fun y678 => ((isa_Encode.f k t659 t660).bind fun bt679 => ((isa_Encode.f k t659 y678).bind fun bt683 => ((isa_Decode.f k bt683.1).bind fun bt687 => (if (bt679.1.length : Int) = (bt683.1.length : Int) then (if bt687.2.2.2 = true then (if bt687.2.2.1 = (bt683.1.length : Int) then ((letterpressref2_Same.f k bt687.1 bt687.2.1 t659 y678).bind fun t694 => (if t694 = true then (if t664 < (t660.length : Int) then (some (((strOfNums bt679.1).toList == (strOfNums bt683.1).toList) == ((rd t660 t664) == (rd y678 t664)))) else (none)) else (some false))) else (some false)) else (some false)) else (some false)))))) else (none))) else (none)) else (none))))) else (none))))) = some r := H
    have A7 := Aside0.mk A70
    clear A70
    by_cases c8 : (t660.length : Int) = 0
    · rw [if_pos c8] at H
      have c8b0 : ((t660.length : Int) == 0) = true := beq_iff_eq.mpr c8
      have c8b1 : ((t660.length : Int) != 0) = false := bne_eq_false_iff_eq.mpr c8
      clear c8
      obtain rfl := Option.some.inj H
      go_enter Tryd.func7, Tryd.ntmps7
      go_wp2_with (first | ((with_reducible refine gate_callee (f := 14) rfl ?_); refine goesL_ (some 19) rfl rfl Tryd.func14 (by kernel_rfl) rfl #[] rfl (by (try simp only [List.map_toArray, List.map_cons, List.map_nil]); first | done | rfl | (simp only [List.length_drop, List.length_take]; rfl)) ?_; (with_reducible refine (letterpresslaw2_known.calls k  true _ ?side1 A5.out).mono ?_); (case side1 => exact LaidW.below hLaid_ (by repeat (first | (with_reducible first | exact HB.out | apply below_alloc | apply pw_below_drewN | apply below_drew1) | exact HB.out))); rintro e w9 ⟨rfl, hb⟩; refine ⟨_, rfl, ?_⟩; have n0_ := Aside0.mk (below_step (by repeat (first | (with_reducible first | exact HB.out | apply below_alloc | apply pw_below_drewN | apply below_drew1) | exact HB.out)) hb); clear HB; have HB := n0_; clear n0_; (try clear hb); (try clear hb2); (try clear hk); (try clear hi)) | ((with_reducible refine gate_callee (f := 16) rfl ?_); refine goesL_ (some 23) rfl rfl Tryd.func16 (by kernel_rfl) rfl #[.int .i64 a0, .slice A1 l1.length c1] rfl (by (try simp only [List.map_toArray, List.map_cons, List.map_nil]); first | done | rfl | (simp only [List.length_drop, List.length_take]; rfl)) ?_; (with_reducible refine (letterpresslaw2_Make.calls k a0 _ _ l1 t659 t660 _ ?side1 ?side2 A7.out).mono ?_); (case side1 => repeat (first | exact (Kd.C_below HR1.out HB.out) | (with_reducible refine Kd.C_alloc ?_ _) | (with_reducible refine Kd.C_drewN ?_ _) | (with_reducible refine Kd.C_drew ?_))); (case side2 => exact HC1.out); rintro e w10 ⟨v661, rfl, ho0, hb⟩; refine ⟨_, rfl, ?_⟩; have n0_ := Aside0.mk (Kd.R_lower ho0 (below_size (by repeat (first | (with_reducible first | exact HB.out | apply below_alloc | apply pw_below_drewN | apply below_drew1) | exact HB.out)))); have n1_ := Aside0.mk (below_step (by repeat (first | (with_reducible first | exact HB.out | apply below_alloc | apply pw_below_drewN | apply below_drew1) | exact HB.out)) hb); clear HB; have HO662 := n0_; have HB := n1_; clear n0_ n1_; (try clear hb); (try clear hb2); (try clear hk); (try clear hi); (try clear ho0)) | ((with_reducible refine gate_dst (N := 9) rfl ?_); (try (refine gate_guard (by rfl) ?_; dsimp only)); refine box_event ?hg (N := 9) ?hd (cs := #[.int .i64 0, .slice none 0 0]) (t := 28) ?hr ?_; (case hd => rfl); (case hg => rfl); (case hr => first | (go_simp; done) | (go_simp; rfl)); intro gb663 hg w11 hbox hb; have n0_ := Aside0.mk (Kd.R_below (by (with_reducible repeat (first | apply Kd.R_alloc | apply Kd.R_drewN | apply Kd.R_drew)); exact HO662.out) hb); have n1_ := Aside0.mk (below_step (by repeat (first | (with_reducible first | exact HB.out | apply below_alloc | apply pw_below_drewN | apply below_drew1) | exact HB.out)) hb); have n2_ := Aside0.mk (hbox); have n3_ := Aside0.mk ((by rw [hg]; exact (below_size (by repeat (first | (with_reducible first | exact HB.out | apply below_alloc | apply pw_below_drewN | apply below_drew1) | exact HB.out))) : w.heap.size ≤ gb663)); have n4_ := Aside0.mk ((by rw [hg]; exact (below_size (by repeat (first | (with_reducible first | exact HB.out | apply below_alloc | apply pw_below_drewN | apply below_drew1) | exact HB.out))) : w.heap.size ≤ gb663)); clear HO662; clear HB; have HO662 := n0_; have HB := n1_; have BK663 := n2_; have GW663 := n3_; have GE663 := n4_; clear n0_ n1_ n2_ n3_ n4_; clear hb hbox hg; have hcz12_0 : w11.cell? ⟨gb663, 0, none⟩ = some (.int .i64 0) := (blk_cell BK663.out 0).trans rfl; have hcz12_1 : w11.cell? ⟨gb663, 1, none⟩ = some (.slice none 0 0) := (blk_cell BK663.out 1).trans rfl; have hfz12_0 := blk_frozen BK663.out 0; have hfz12_1 := blk_frozen BK663.out 1; obtain ⟨Ao13, co13, eo13⟩ := Kd.R_slice HO662.out; subst eo13))
      go_ret
      exact ⟨by first | rfl | (simp [errW_none, errW_some] <;> rfl) | (simp [*, errW_none, errW_some] <;> rfl), by repeat (first | (with_reducible first | exact HB.out | apply below_alloc | apply pw_below_drewN | apply below_drew1 | refine below_set ?_ GE663.out) | exact HB.out)⟩
    · rw [if_neg c8] at H
      have c8b0 : ((t660.length : Int) == 0) = false := beq_eq_false_iff_ne.mpr c8
      have c8b1 : ((t660.length : Int) != 0) = true := bne_iff_ne.mpr c8
      have c8b2 : ¬ (t660 = []) := fun h_ => c8 (by rw [h_]; rfl)
      replace H := Option.bind_eq_some_iff.mp H
      obtain ⟨t664, A140, H⟩ := H
      replace H : ((some (([] : List Int) : List Int)).bind fun y665 => (if y665.length + t660.length < 17592186044416 then ((some (y665 ++ t660 : List Int)).bind fun y668 => ((letterpressref2_Kinds.f t659).bind fun t672 => ((letterpressref2_Words.f k t672).bind fun t673 => (if 0 ≤ t664 then (if t664 < (t673.length : Int) then ((letterpresslaw2_Operand.f k (rdOf ByteArray.empty t673 t664) a3).bind fun t677 => (if t664 < (y668.length : Int) then ((some (y668.set (t664 : Int).toNat t677 : List Int)).bind fun y678 => ((isa_Encode.f k t659 t660).bind fun bt679 => ((isa_Encode.f k t659 y678).bind fun bt683 => ((isa_Decode.f k bt683.1).bind fun bt687 => (if (bt679.1.length : Int) = (bt683.1.length : Int) then (if bt687.2.2.2 = true then (if bt687.2.2.1 = (bt683.1.length : Int) then ((letterpressref2_Same.f k bt687.1 bt687.2.1 t659 y678).bind fun t694 => (if t694 = true then (if t664 < (t660.length : Int) then (some (((strOfNums bt679.1).toList == (strOfNums bt683.1).toList) == ((rd t660 t664) == (rd y678 t664)))) else (none)) else (some false))) else (some false)) else (some false)) else (some false)))))) else (none))) else (none)) else (none))))) else (none))) = some r := H
      have A14 := Aside0.mk A140
      clear A140
      obtain ⟨y665, hy665⟩ : ∃ y_ : List Int, y_ = (([] : List Int)) := ⟨_, rfl⟩
      replace H : (if y665.length + t660.length < 17592186044416 then ((some (y665 ++ t660 : List Int)).bind fun y668 => ((letterpressref2_Kinds.f t659).bind fun t672 => ((letterpressref2_Words.f k t672).bind fun t673 => (if 0 ≤ t664 then (if t664 < (t673.length : Int) then ((letterpresslaw2_Operand.f k (rdOf ByteArray.empty t673 t664) a3).bind fun t677 => (if t664 < (y668.length : Int) then ((some (y668.set (t664 : Int).toNat t677 : List Int)).bind fun y678 => ((isa_Encode.f k t659 t660).bind fun bt679 => ((isa_Encode.f k t659 y678).bind fun bt683 => ((isa_Decode.f k bt683.1).bind fun bt687 => (if (bt679.1.length : Int) = (bt683.1.length : Int) then (if bt687.2.2.2 = true then (if bt687.2.2.1 = (bt683.1.length : Int) then ((letterpressref2_Same.f k bt687.1 bt687.2.1 t659 y678).bind fun t694 => (if t694 = true then (if t664 < (t660.length : Int) then (some (((strOfNums bt679.1).toList == (strOfNums bt683.1).toList) == ((rd t660 t664) == (rd y678 t664)))) else (none)) else (some false))) else (some false)) else (some false)) else (some false)))))) else (none))) else (none)) else (none))))) else (none)) = some r := by first | (rw [hy665]; with_reducible exact H) | (have H2_ := (Option.bind_some _ _).symm.trans H; rw [hy665]; with_reducible exact H2_) | (have H2_ := (Option.bind_some _ _).symm.trans H; with_reducible exact H2_) | with_reducible exact H | (rw [hy665]; exact H) | exact H
      have Ny665 := Aside0.mk hy665
      clear hy665
      by_cases c15 : y665.length + t660.length < 17592186044416
      · rw [if_pos c15] at H
        have LMc15 := Aside0.mk c15
        clear c15
        obtain ⟨y668, hy668⟩ : ∃ y_ : List Int, y_ = (y665 ++ t660) := ⟨_, rfl⟩
        replace H : ((letterpressref2_Kinds.f t659).bind fun t672 => ((letterpressref2_Words.f k t672).bind fun t673 => (if 0 ≤ t664 then (if t664 < (t673.length : Int) then ((letterpresslaw2_Operand.f k (rdOf ByteArray.empty t673 t664) a3).bind fun t677 => (if t664 < (y668.length : Int) then ((some (y668.set (t664 : Int).toNat t677 : List Int)).bind fun y678 => ((isa_Encode.f k t659 t660).bind fun bt679 => ((isa_Encode.f k t659 y678).bind fun bt683 => ((isa_Decode.f k bt683.1).bind fun bt687 => (if (bt679.1.length : Int) = (bt683.1.length : Int) then (if bt687.2.2.2 = true then (if bt687.2.2.1 = (bt683.1.length : Int) then ((letterpressref2_Same.f k bt687.1 bt687.2.1 t659 y678).bind fun t694 => (if t694 = true then (if t664 < (t660.length : Int) then (some (((strOfNums bt679.1).toList == (strOfNums bt683.1).toList) == ((rd t660 t664) == (rd y678 t664)))) else (none)) else (some false))) else (some false)) else (some false)) else (some false)))))) else (none))) else (none)) else (none)))) = some r := by first | (rw [hy668]; with_reducible exact H) | (have H2_ := (Option.bind_some _ _).symm.trans H; rw [hy668]; with_reducible exact H2_) | (have H2_ := (Option.bind_some _ _).symm.trans H; with_reducible exact H2_) | with_reducible exact H | (rw [hy668]; exact H) | exact H
        have Ny668 := Aside0.mk hy668
        clear hy668
        replace H := Option.bind_eq_some_iff.mp H
        obtain ⟨t672, A160, H⟩ := H
        replace H : ((letterpressref2_Words.f k t672).bind fun t673 => (if 0 ≤ t664 then (if t664 < (t673.length : Int) then ((letterpresslaw2_Operand.f k (rdOf ByteArray.empty t673 t664) a3).bind fun t677 => (if t664 < (y668.length : Int) then ((some (y668.set (t664 : Int).toNat t677 : List Int)).bind fun y678 => ((isa_Encode.f k t659 t660).bind fun bt679 => ((isa_Encode.f k t659 y678).bind fun bt683 => ((isa_Decode.f k bt683.1).bind fun bt687 => (if (bt679.1.length : Int) = (bt683.1.length : Int) then (if bt687.2.2.2 = true then (if bt687.2.2.1 = (bt683.1.length : Int) then ((letterpressref2_Same.f k bt687.1 bt687.2.1 t659 y678).bind fun t694 => (if t694 = true then (if t664 < (t660.length : Int) then (some (((strOfNums bt679.1).toList == (strOfNums bt683.1).toList) == ((rd t660 t664) == (rd y678 t664)))) else (none)) else (some false))) else (some false)) else (some false)) else (some false)))))) else (none))) else (none)) else (none))) = some r := H
        have A16 := Aside0.mk A160
        clear A160
        replace H := Option.bind_eq_some_iff.mp H
        obtain ⟨t673, A170, H⟩ := H
        replace H : (if 0 ≤ t664 then (if t664 < (t673.length : Int) then ((letterpresslaw2_Operand.f k (rdOf ByteArray.empty t673 t664) a3).bind fun t677 => (if t664 < (y668.length : Int) then ((some (y668.set (t664 : Int).toNat t677 : List Int)).bind fun y678 => ((isa_Encode.f k t659 t660).bind fun bt679 => ((isa_Encode.f k t659 y678).bind fun bt683 => ((isa_Decode.f k bt683.1).bind fun bt687 => (if (bt679.1.length : Int) = (bt683.1.length : Int) then (if bt687.2.2.2 = true then (if bt687.2.2.1 = (bt683.1.length : Int) then ((letterpressref2_Same.f k bt687.1 bt687.2.1 t659 y678).bind fun t694 => (if t694 = true then (if t664 < (t660.length : Int) then (some (((strOfNums bt679.1).toList == (strOfNums bt683.1).toList) == ((rd t660 t664) == (rd y678 t664)))) else (none)) else (some false))) else (some false)) else (some false)) else (some false)))))) else (none))) else (none)) else (none)) = some r := H
        have A17 := Aside0.mk A170
        clear A170
        by_cases c18 : 0 ≤ t664
        · rw [if_pos c18] at H
          have c18b0 : decide (0 ≤ t664) = true := decide_eq_true c18
          clear c18
          by_cases c19 : t664 < (t673.length : Int)
          · rw [if_pos c19] at H
            have c19b0 : decide (t664 < (t673.length : Int)) = true := decide_eq_true c19
            clear c19
            replace H := Option.bind_eq_some_iff.mp H
            obtain ⟨t677, A200, H⟩ := H
            replace H : (if t664 < (y668.length : Int) then ((some (y668.set (t664 : Int).toNat t677 : List Int)).bind fun y678 => ((isa_Encode.f k t659 t660).bind fun bt679 => ((isa_Encode.f k t659 y678).bind fun bt683 => ((isa_Decode.f k bt683.1).bind fun bt687 => (if (bt679.1.length : Int) = (bt683.1.length : Int) then (if bt687.2.2.2 = true then (if bt687.2.2.1 = (bt683.1.length : Int) then ((letterpressref2_Same.f k bt687.1 bt687.2.1 t659 y678).bind fun t694 => (if t694 = true then (if t664 < (t660.length : Int) then (some (((strOfNums bt679.1).toList == (strOfNums bt683.1).toList) == ((rd t660 t664) == (rd y678 t664)))) else (none)) else (some false))) else (some false)) else (some false)) else (some false)))))) else (none)) = some r := H
            have A20 := Aside0.mk A200
            clear A200
            by_cases c21 : t664 < (y668.length : Int)
            · rw [if_pos c21] at H
              have c21b0 : decide (t664 < (y668.length : Int)) = true := decide_eq_true c21
              clear c21
              obtain ⟨y678, hy678⟩ : ∃ y_ : List Int, y_ = (y668.set (t664 : Int).toNat t677) := ⟨_, rfl⟩
              replace H : ((isa_Encode.f k t659 t660).bind fun bt679 => ((isa_Encode.f k t659 y678).bind fun bt683 => ((isa_Decode.f k bt683.1).bind fun bt687 => (if (bt679.1.length : Int) = (bt683.1.length : Int) then (if bt687.2.2.2 = true then (if bt687.2.2.1 = (bt683.1.length : Int) then ((letterpressref2_Same.f k bt687.1 bt687.2.1 t659 y678).bind fun t694 => (if t694 = true then (if t664 < (t660.length : Int) then (some (((strOfNums bt679.1).toList == (strOfNums bt683.1).toList) == ((rd t660 t664) == (rd y678 t664)))) else (none)) else (some false))) else (some false)) else (some false)) else (some false))))) = some r := by first | (rw [hy678]; with_reducible exact H) | (have H2_ := (Option.bind_some _ _).symm.trans H; rw [hy678]; with_reducible exact H2_) | (have H2_ := (Option.bind_some _ _).symm.trans H; with_reducible exact H2_) | with_reducible exact H | (rw [hy678]; exact H) | exact H
              have Ny678 := Aside0.mk hy678
              clear hy678
              replace H := Option.bind_eq_some_iff.mp H
              obtain ⟨⟨t679, t682⟩, A230, H⟩ := H
              replace H : ((isa_Encode.f k t659 y678).bind fun bt683 => ((isa_Decode.f k bt683.1).bind fun bt687 => (if (t679.length : Int) = (bt683.1.length : Int) then (if bt687.2.2.2 = true then (if bt687.2.2.1 = (bt683.1.length : Int) then ((letterpressref2_Same.f k bt687.1 bt687.2.1 t659 y678).bind fun t694 => (if t694 = true then (if t664 < (t660.length : Int) then (some (((strOfNums t679).toList == (strOfNums bt683.1).toList) == ((rd t660 t664) == (rd y678 t664)))) else (none)) else (some false))) else (some false)) else (some false)) else (some false)))) = some r := H
              have A23 := Aside0.mk A230
              clear A230
              replace H := Option.bind_eq_some_iff.mp H
              obtain ⟨⟨t683, t686⟩, A240, H⟩ := H
              replace H : ((isa_Decode.f k t683).bind fun bt687 => (if (t679.length : Int) = (t683.length : Int) then (if bt687.2.2.2 = true then (if bt687.2.2.1 = (t683.length : Int) then ((letterpressref2_Same.f k bt687.1 bt687.2.1 t659 y678).bind fun t694 => (if t694 = true then (if t664 < (t660.length : Int) then (some (((strOfNums t679).toList == (strOfNums t683).toList) == ((rd t660 t664) == (rd y678 t664)))) else (none)) else (some false))) else (some false)) else (some false)) else (some false))) = some r := H
              have A24 := Aside0.mk A240
              clear A240
              replace H := Option.bind_eq_some_iff.mp H
              obtain ⟨⟨t687, t688, t691, t692⟩, A250, H⟩ := H
              replace H : (if (t679.length : Int) = (t683.length : Int) then (if t692 = true then (if t691 = (t683.length : Int) then ((letterpressref2_Same.f k t687 t688 t659 y678).bind fun t694 => (if t694 = true then (if t664 < (t660.length : Int) then (some (((strOfNums t679).toList == (strOfNums t683).toList) == ((rd t660 t664) == (rd y678 t664)))) else (none)) else (some false))) else (some false)) else (some false)) else (some false)) = some r := H
              have A25 := Aside0.mk A250
              clear A250
              by_cases c26 : (t679.length : Int) = (t683.length : Int)
              · rw [if_pos c26] at H
                have c26b0 : ((t679.length : Int) == (t683.length : Int)) = true := beq_iff_eq.mpr c26
                have c26b1 : ((t679.length : Int) != (t683.length : Int)) = false := bne_eq_false_iff_eq.mpr c26
                have c26b2 : (t679.length == t683.length) = true := by first | simpa using c26 | (simp at c26 ⊢; omega)
                clear c26
                by_cases c27 : t692 = true
                · subst c27
                  have H1 : (if t691 = (t683.length : Int) then ((letterpressref2_Same.f k t687 t688 t659 y678).bind fun t694 => (if t694 = true then (if t664 < (t660.length : Int) then (some (((strOfNums t679).toList == (strOfNums t683).toList) == ((rd t660 t664) == (rd y678 t664)))) else (none)) else (some false))) else (some false)) = some r := by rw [if_pos rfl] at H; exact H
                  clear H
                  have H := H1
                  clear H1
                  by_cases c28 : t691 = (t683.length : Int)
                  · rw [if_pos c28] at H
                    have c28b0 : (t691 == (t683.length : Int)) = true := beq_iff_eq.mpr c28
                    have c28b1 : (t691 != (t683.length : Int)) = false := bne_eq_false_iff_eq.mpr c28
                    clear c28
                    replace H := Option.bind_eq_some_iff.mp H
                    obtain ⟨t694, A290, H⟩ := H
                    replace H : (if t694 = true then (if t664 < (t660.length : Int) then (some (((strOfNums t679).toList == (strOfNums t683).toList) == ((rd t660 t664) == (rd y678 t664)))) else (none)) else (some false)) = some r := H
                    have A29 := Aside0.mk A290
                    clear A290
                    by_cases c30 : t694 = true
                    · subst c30
                      have H1 : (if t664 < (t660.length : Int) then (some (((strOfNums t679).toList == (strOfNums t683).toList) == ((rd t660 t664) == (rd y678 t664)))) else (none)) = some r := by rw [if_pos rfl] at H; exact H
                      clear H
                      have H := H1
                      clear H1
                      by_cases c31 : t664 < (t660.length : Int)
                      · rw [if_pos c31] at H
                        have c31b0 : decide (t664 < (t660.length : Int)) = true := decide_eq_true c31
                        clear c31
                        obtain rfl := Option.some.inj H
                        go_enter Tryd.func7, Tryd.ntmps7
                        try go_wp2_with (first | ((with_reducible refine gate_callee (f := 14) rfl ?_); refine goesL_ (some 19) rfl rfl Tryd.func14 (by kernel_rfl) rfl #[] rfl (by (try simp only [List.map_toArray, List.map_cons, List.map_nil]); first | done | rfl | (simp only [List.length_drop, List.length_take]; rfl)) ?_; (with_reducible refine (letterpresslaw2_known.calls k  true _ ?side1 A5.out).mono ?_); (case side1 => exact LaidW.below hLaid_ (by repeat (first | (with_reducible first | exact HB.out | apply below_alloc | apply pw_below_drewN | apply below_drew1) | exact HB.out))); rintro e w32 ⟨rfl, hb⟩; refine ⟨_, rfl, ?_⟩; have n0_ := Aside0.mk (below_step (by repeat (first | (with_reducible first | exact HB.out | apply below_alloc | apply pw_below_drewN | apply below_drew1) | exact HB.out)) hb); clear HB; have HB := n0_; clear n0_; (try clear hb); (try clear hb2); (try clear hk); (try clear hi)) | ((with_reducible refine gate_callee (f := 16) rfl ?_); refine goesL_ (some 23) rfl rfl Tryd.func16 (by kernel_rfl) rfl #[.int .i64 a0, .slice A1 l1.length c1] rfl (by (try simp only [List.map_toArray, List.map_cons, List.map_nil]); first | done | rfl | (simp only [List.length_drop, List.length_take]; rfl)) ?_; (with_reducible refine (letterpresslaw2_Make.calls k a0 _ _ l1 t659 t660 _ ?side1 ?side2 A7.out).mono ?_); (case side1 => repeat (first | exact (Kd.C_below HR1.out HB.out) | (with_reducible refine Kd.C_alloc ?_ _) | (with_reducible refine Kd.C_drewN ?_ _) | (with_reducible refine Kd.C_drew ?_))); (case side2 => exact HC1.out); rintro e w33 ⟨v661, rfl, ho0, hb⟩; refine ⟨_, rfl, ?_⟩; have n0_ := Aside0.mk (Kd.R_lower ho0 (below_size (by repeat (first | (with_reducible first | exact HB.out | apply below_alloc | apply pw_below_drewN | apply below_drew1) | exact HB.out)))); have n1_ := Aside0.mk (below_step (by repeat (first | (with_reducible first | exact HB.out | apply below_alloc | apply pw_below_drewN | apply below_drew1) | exact HB.out)) hb); clear HB; have HO662 := n0_; have HB := n1_; clear n0_ n1_; (try clear hb); (try clear hb2); (try clear hk); (try clear hi); (try clear ho0)) | ((with_reducible refine gate_dst (N := 9) rfl ?_); (try (refine gate_guard (by rfl) ?_; dsimp only)); refine box_event ?hg (N := 9) ?hd (cs := #[.int .i64 0, .slice none 0 0]) (t := 28) ?hr ?_; (case hd => rfl); (case hg => rfl); (case hr => first | (go_simp; done) | (go_simp; rfl)); intro gb663 hg w34 hbox hb; have n0_ := Aside0.mk (Kd.R_below (by (with_reducible repeat (first | apply Kd.R_alloc | apply Kd.R_drewN | apply Kd.R_drew)); exact HO662.out) hb); have n1_ := Aside0.mk (below_step (by repeat (first | (with_reducible first | exact HB.out | apply below_alloc | apply pw_below_drewN | apply below_drew1) | exact HB.out)) hb); have n2_ := Aside0.mk (hbox); have n3_ := Aside0.mk ((by rw [hg]; exact (below_size (by repeat (first | (with_reducible first | exact HB.out | apply below_alloc | apply pw_below_drewN | apply below_drew1) | exact HB.out))) : w.heap.size ≤ gb663)); have n4_ := Aside0.mk ((by rw [hg]; exact (below_size (by repeat (first | (with_reducible first | exact HB.out | apply below_alloc | apply pw_below_drewN | apply below_drew1) | exact HB.out))) : w.heap.size ≤ gb663)); clear HO662; clear HB; have HO662 := n0_; have HB := n1_; have BK663 := n2_; have GW663 := n3_; have GE663 := n4_; clear n0_ n1_ n2_ n3_ n4_; clear hb hbox hg; have hcz35_0 : w34.cell? ⟨gb663, 0, none⟩ = some (.int .i64 0) := (blk_cell BK663.out 0).trans rfl; have hcz35_1 : w34.cell? ⟨gb663, 1, none⟩ = some (.slice none 0 0) := (blk_cell BK663.out 1).trans rfl; have hfz35_0 := blk_frozen BK663.out 0; have hfz35_1 := blk_frozen BK663.out 1; obtain ⟨Ao36, co36, eo36⟩ := Kd.R_slice HO662.out; subst eo36) | ((with_reducible refine gate_callee (f := 17) rfl ?_); refine goesL_ (some 32) rfl rfl Tryd.func17 (by kernel_rfl) rfl #[.int .i64 a2, .int .i64 (t660.length : Int)] rfl (by (try simp only [List.map_toArray, List.map_cons, List.map_nil]); first | done | rfl | (simp only [List.length_drop, List.length_take]; rfl)) ?_; (with_reducible refine (letterpresslaw2_within.calls a2 (t660.length : Int) t664 _ A14.out).mono ?_); rintro e w' ⟨rfl, ⟨nd, rfl⟩⟩; refine ⟨_, rfl, ?_⟩))
                        have n0_ : Aside0 (Kd.R (Kd.int .i64) 3 ((w34.setCell ⟨gb663, 0, none⟩ (.int .i64 t659)).setCell ⟨gb663, 1, none⟩ (.slice Ao36 t660.length co36)) w.heap.size (fun _ => True) (.slice Ao36 t660.length co36) t660) := ⟨by (with_reducible repeat (first | apply Kd.R_alloc | apply Kd.R_drewN | apply Kd.R_drew)); exact Kd.R_mono (Kd.R_far (p := ⟨gb663, 1, none⟩) (Kd.R_far (p := ⟨gb663, 0, none⟩) (Kd.R_types HO662.out BK663.out (by decide)) (fun _ hk => hk.2) (.int .i64 t659)) (fun _ hk => hk.2) (.slice Ao36 t660.length co36)) (fun _ hk => trivial)⟩
                        have n1_ : Aside0 (((w34.setCell ⟨gb663, 0, none⟩ (.int .i64 t659)).setCell ⟨gb663, 1, none⟩ (.slice Ao36 t660.length co36)).heap[gb663]? = some (.cells #[.int .i64 t659, .slice Ao36 t660.length co36] 28 (0, 0))) := ⟨by (with_reducible repeat (first | refine blk_drewN ?_ _ | refine blk_drew ?_ | refine blk_alloc ?_ _)); refine blk_put (cs := #[.int .i64 t659, .slice none 0 0]) ?_ 1 _ rfl; (with_reducible repeat (first | refine blk_drewN ?_ _ | refine blk_drew ?_ | refine blk_alloc ?_ _)); refine blk_put (cs := #[.int .i64 0, .slice none 0 0]) ?_ 0 _ rfl; (with_reducible repeat (first | refine blk_drewN ?_ _ | refine blk_drew ?_ | refine blk_alloc ?_ _)); exact BK663.out⟩
                        have n2_ : Aside0 (Below w.heap.size w ((w34.setCell ⟨gb663, 0, none⟩ (.int .i64 t659)).setCell ⟨gb663, 1, none⟩ (.slice Ao36 t660.length co36))) := ⟨by repeat (first | (with_reducible first | exact HB.out | apply below_alloc | apply pw_below_drewN | apply below_drew1 | refine below_set ?_ GE663.out) | exact HB.out)⟩
                        (try clear HO662)
                        (try clear BK663)
                        (try clear HB)
                        generalize ((w34.setCell ⟨gb663, 0, none⟩ (.int .i64 t659)).setCell ⟨gb663, 1, none⟩ (.slice Ao36 t660.length co36)) = w37 at n0_ n1_ n2_ ⊢
                        have HO662 := n0_
                        have BK663 := n1_
                        have HB := n2_
                        clear n0_ n1_ n2_
                        (try (rw [drewN_self w37]; generalize hq_ : World.drewN w37 _ = w37; have n0_ : Aside0 (Kd.R (Kd.int .i64) 3 w37 w.heap.size (fun _ => True) (.slice Ao36 t660.length co36) t660) := ⟨by rw [← hq_]; exact (by (with_reducible repeat (first | apply Kd.R_alloc | apply Kd.R_drewN | apply Kd.R_drew)); exact HO662.out)⟩; have n1_ : Aside0 (w37.heap[gb663]? = some (.cells #[.int .i64 t659, .slice Ao36 t660.length co36] 28 (0, 0))) := ⟨by rw [← hq_]; exact (by (with_reducible repeat (first | refine blk_drewN ?_ _ | refine blk_drew ?_ | refine blk_alloc ?_ _)); exact BK663.out)⟩; have n2_ : Aside0 (Below w.heap.size w w37) := ⟨by rw [← hq_]; exact (by repeat (first | (with_reducible first | exact HB.out | apply below_alloc | apply pw_below_drewN | apply below_drew1 | refine below_set ?_ GE663.out) | exact HB.out))⟩; clear HO662 BK663 HB hq_; have HO662 := n0_; have BK663 := n1_; have HB := n2_; clear n0_ n1_ n2_))
                        have n0_ := Aside0.mk (Kd.R_drew HO662.out)
                        have n1_ := Aside0.mk (blk_drew BK663.out)
                        have n2_ := Aside0.mk (below_drew1 HB.out)
                        clear HO662
                        clear BK663
                        clear HB
                        have HO662 := n0_
                        have BK663 := n1_
                        have HB := n2_
                        clear n0_ n1_ n2_
                        refine start_ (n := 9) (S := fun w' => w'.cell? ⟨gb663, 0, none⟩ = some (.int .i64 t659) ∧ w'.cell? ⟨gb663, 1, none⟩ = some (.slice Ao36 t660.length co36)) (ds := []) #[false, false, false, false, false, false, false, false, false] (by kernel_rfl) rfl rfl ⟨(blk_cell BK663.out 0).trans rfl, (blk_cell BK663.out 1).trans rfl⟩ (fun hHeld => ?_); refine with_tabW letterpresslaw2_IsaBits.tab7 letterpresslaw2_IsaBits.bits7 (fun HT_ HW_ => ?_)
                        generalize w37.drew = w38 at HO662 BK663 HB hHeld ⊢
                        refine pure_ (i := 0) (N := some 33) (v := ?_) (a' := ?_) #[true, false, false, false, false, false, false, false, false] rfl rfl (any_of HT_.out (by kernel_rfl)) (fun _ _ _ h => h) (Or.inl ⟨by rfl, ?_⟩) ?_ ?_
                        rotate_left
                        · intro w'
                          go_simp
                          with_reducible rfl
                        rotate_left
                        · simp only [Act.put, List.setIfInBounds_toArray, List.set_cons_zero, List.set_cons_succ, i64_w, i32_w]
                          rfl
                        refine pure_ (i := 3) (N := some 36) (v := ?_) (a' := ?_) #[true, false, false, true, false, false, false, false, false] rfl rfl (any_of HT_.out (by kernel_rfl)) (fun _ _ _ h => h) (Or.inl ⟨by rfl, ?_⟩) ?_ ?_
                        rotate_left
                        · intro w'
                          go_simp
                          with_reducible rfl
                        rotate_left
                        · simp only [Act.put, List.setIfInBounds_toArray, List.set_cons_zero, List.set_cons_succ, i64_w, i32_w]
                          rfl
                        refine take_ (i := 1) (N := some 34) (v := ?_) (a' := ?_) #[true, true, false, true, false, false, false, false, false] rfl rfl (take_ofW HT_.out HW_.out (by kernel_rfl)) (fun _ _ _ h => h) (Or.inl ⟨by rfl, ?_⟩) hHeld ?_ ?_
                        rotate_left
                        · rintro w' ⟨s0, s1⟩
                          go_simp
                          with_reducible rfl
                        rotate_left
                        · simp only [Act.put, List.setIfInBounds_toArray, List.set_cons_zero, List.set_cons_succ, i64_w, i32_w]
                          rfl
                        refine take_ (i := 4) (N := some 37) (v := ?_) (a' := ?_) #[true, true, false, true, true, false, false, false, false] rfl rfl (take_ofW HT_.out HW_.out (by kernel_rfl)) (fun _ _ _ h => h) (Or.inl ⟨by rfl, ?_⟩) hHeld ?_ ?_
                        rotate_left
                        · rintro w' ⟨s0, s1⟩
                          go_simp
                          with_reducible rfl
                        rotate_left
                        · simp only [Act.put, List.setIfInBounds_toArray, List.set_cons_zero, List.set_cons_succ, i64_w, i32_w]
                          rfl
                        refine join_ (σ := Value × Value × Nat) 1 #[true, true, true, true, true, true, true, true, false] (fun s_ => [(35, s_.1), (38, s_.2.1), (11, .pointer (some ⟨s_.2.2, 0, none⟩)), (39, .agg #[.int .i64 t659, s_.2.1])]) (fun s_ w' => (w'.cell? ⟨gb663, 0, none⟩ = some (.int .i64 t659) ∧ w'.cell? ⟨gb663, 1, none⟩ = some (.slice Ao36 t660.length co36)) ∧ (Kd.R (Kd.int .i64) 3 w' w.heap.size (fun k_ => some k_ ≠ (s_.2.1 : Value).ownBlock) (.slice Ao36 t660.length co36) t660) ∧ (Kd.R (Kd.int .i64) 3 w' w.heap.size (fun k_ => some k_ ≠ (.slice Ao36 t660.length co36 : Value).ownBlock) s_.2.1 y668) ∧ (w'.heap[gb663]? = some (.cells #[.int .i64 t659, .slice Ao36 t660.length co36] 28 (0, 0))) ∧ (w'.heap[s_.2.2]? = some (.cells #[.int .i64 0, .slice none 0 0] 28 (0, 0))) ∧ (w.heap.size ≤ s_.2.2) ∧ (w.heap.size ≤ s_.2.2) ∧ (gb663 ≠ s_.2.2) ∧ (s_.2.2 ≠ gb663) ∧ (Below w.heap.size w w')) ?_ ?_
                        rotate_left
                        · intro hCont
                          refine two_ (i := 2) (j := 7) (Ni := some 35) (Nj := some 11) #[true, true, true, true, true, false, false, false, false] #[true, true, false, true, true, false, false, true, false] rfl rfl rfl rfl (two_of HT_.out (by kernel_rfl)) (by decide) (by decide) (fun K hK => ?_) (fun K hK => ?_)
                          · skip
                            refine Kd.R_lit_step (Kd.int .i64) _ 3 ?hg (N := 35) ?hd (xs := ([] : List Int)) (inner := []) (ok := fun _ => True) (okp := fun _ => True) ?hr ?hp (fun _ hk => hk) trivial (Below.refl _ _) (Nat.le_refl _) (by simp) ?_; (case hd => rfl); (case hg => rfl); (case hr => first | (go_simp; done) | (go_simp; rfl)); (case hp => exact (Reps.none _ _))
                            intro v666 w39 ho40 hb hg_ hnew_
                            clear hg_ hnew_
                            (first | rw [← Ny665.out] at ho40 | (simp only [Int.reduceToNat] at ho40; rw [← Ny665.out] at ho40))
                            have n0_ := Aside0.mk (Kd.R_elder' (by (with_reducible repeat (first | apply Kd.R_alloc | apply Kd.R_drewN | apply Kd.R_drew)); exact HO662.out) (Kd.R_base ho40) hb)
                            have n1_ := Aside0.mk (Kd.R_lower (Kd.R_new' ho40 (Kd.R_lt (by (with_reducible repeat (first | apply Kd.R_alloc | apply Kd.R_drewN | apply Kd.R_drew)); exact HO662.out))) (below_size (by repeat (first | (with_reducible first | exact HB.out | apply below_alloc | apply pw_below_drewN | apply below_drew1 | refine below_set ?_ GE663.out) | exact HB.out))))
                            have n2_ := Aside0.mk (blk_below (g := gb663) (o := .cells #[.int .i64 t659, .slice Ao36 t660.length co36] 28 (0, 0)) (by (with_reducible repeat (first | refine blk_drewN ?_ _ | refine blk_drew ?_ | refine blk_alloc ?_ _)); exact BK663.out) hb)
                            have n3_ := Aside0.mk (below_step (by repeat (first | (with_reducible first | exact HB.out | apply below_alloc | apply pw_below_drewN | apply below_drew1 | refine below_set ?_ GE663.out) | exact HB.out)) hb)
                            clear HO662
                            clear BK663
                            clear HB
                            have HO662 := n0_
                            have HO667 := n1_
                            have BK663 := n2_
                            have HB := n3_
                            clear n0_ n1_ n2_ n3_
                            clear hb ho40
                            refine hK.out _ _ ⟨(blk_cell BK663.out 0).trans rfl, (blk_cell BK663.out 1).trans rfl⟩ (fun hHeld => ?_)
                            clear hK K
                            refine norm_ (a' := ?_) ?_ ?_
                            rotate_left
                            · show Act.put _ (some 35) _ = _
                              simp only [Act.put, List.setIfInBounds_toArray, List.set_cons_zero, List.set_cons_succ, i64_w, i32_w]
                              rfl
                            refine two_ (i := 5) (j := 7) (Ni := some 38) (Nj := some 11) #[true, true, true, true, true, true, false, false, false] #[true, true, true, true, true, false, false, true, false] rfl rfl rfl rfl (two_of HT_.out (by kernel_rfl)) (by decide) (by decide) (fun K hK => ?_) (fun K hK => ?_)
                            · skip
                              refine Kd.R_append_rows_step (Kd.int .i64) (w0 := w) w.heap.size (by rfl) (.tmp 35) (.tmp 37) 23 3 (.int .i64 0) 8 rfl Tryd.underlying23 info3 rfl (by decide) (by omega) v666 y665 t660 _ _ _ (fun k_ => some k_ ≠ (.slice Ao36 t660.length co36 : Value).ownBlock) (fun _ => False) rfl rfl ?aO ?aR (fun _ _ h => h) (fun _ h => h.elim) ?aF ?aB ?aS ?aL ?_
                              (case aR => repeat (first | exact (Kd.R_reads' HO662.out).2.2 | (with_reducible refine Kd.C_alloc ?_ _) | (with_reducible refine Kd.C_drewN ?_ _) | (with_reducible refine Kd.C_drew ?_)))
                              (case aB => exact (by repeat (first | (with_reducible first | exact HB.out | apply below_alloc | apply pw_below_drewN | apply below_drew1 | refine below_set ?_ GE663.out) | exact HB.out)))
                              (case aF => exact (fun k_ hk => Kd.fresh' (Kd.R_lt (by (with_reducible repeat (first | apply Kd.R_alloc | apply Kd.R_drewN | apply Kd.R_drew)); exact HO662.out)) k_ hk))
                              (case aO => exact (by (with_reducible repeat (first | apply Kd.R_alloc | apply Kd.R_drewN | apply Kd.R_drew)); exact Kd.R_mono HO667.out (fun _ hk => hk.2)))
                              (case aS => exact (below_size (by repeat (first | (with_reducible first | exact HB.out | apply below_alloc | apply pw_below_drewN | apply below_drew1 | refine below_set ?_ GE663.out) | exact HB.out))))
                              (case aL => have := LMc15.out; omega)
                              intro v669 w41 ho hb hg hat
                              rw [← Ny668.out] at ho
                              have n0_ := Aside0.mk (Kd.R_after (ok := (fun _ => True)) (by (with_reducible repeat (first | apply Kd.R_alloc | apply Kd.R_drewN | apply Kd.R_drew)); exact HO662.out) hg hat)
                              have n1_ := Aside0.mk (blk_grown (g := gb663) (o := .cells #[.int .i64 t659, .slice Ao36 t660.length co36] 28 (0, 0)) (by (with_reducible repeat (first | refine blk_drewN ?_ _ | refine blk_drew ?_ | refine blk_alloc ?_ _)); exact BK663.out) hg (Kd.R_ne HO667.out BK663.out (by decide)))
                              have n2_ := Aside0.mk (hb)
                              have n3_ := Aside0.mk (ho)
                              clear HO662
                              clear BK663
                              clear HB
                              clear HO667
                              have HO662 := n0_
                              have BK663 := n1_
                              have HB := n2_
                              have HO670 := n3_
                              clear n0_ n1_ n2_ n3_
                              clear ho hb hg hat
                              obtain ⟨Ao42, co42, eo42⟩ := Kd.R_slice HO670.out
                              (first | subst eo42 | (injection eo42 with f1_ f2_ f3_; have f4_ := f1_.symm; have f5_ := f3_.symm; clear f1_ f2_ f3_; subst f4_; subst f5_))
                              refine hK.out _ _ ⟨(blk_cell BK663.out 0).trans rfl, (blk_cell BK663.out 1).trans rfl⟩ (fun hHeld => ?_)
                              clear hK K
                              refine norm_ (a' := ?_) ?_ ?_
                              rotate_left
                              · show Act.put _ (some 38) _ = _
                                simp only [Act.put, List.setIfInBounds_toArray, List.set_cons_zero, List.set_cons_succ, i64_w, i32_w]
                                rfl
                              refine pure_ (i := 6) (N := some 39) (v := ?_) (a' := ?_) #[true, true, true, true, true, true, true, false, false] rfl rfl (any_of HT_.out (by kernel_rfl)) (fun _ _ _ h => h) (Or.inl ⟨by rfl, ?_⟩) ?_ ?_
                              rotate_left
                              · intro w'
                                go_simp
                                with_reducible rfl
                              rotate_left
                              · simp only [Act.put, List.setIfInBounds_toArray, List.set_cons_zero, List.set_cons_succ, i64_w, i32_w]
                                rfl
                              refine one_ (i := 7) (N := some 11) #[true, true, true, true, true, true, true, true, false] rfl rfl (one_of HT_.out (by kernel_rfl)) (by decide) (fun K hK => ?_)
                              refine box_step ?hg (N := 11) ?hd (cs := #[.int .i64 0, .slice none 0 0]) (t := 28) ?hr ?_; (case hd => rfl); (case hg => rfl); (case hr => first | (go_simp; done) | (go_simp; rfl))
                              intro gb671 hg w43 hbox hb
                              have n0_ := Aside0.mk (Kd.R_below (by (with_reducible repeat (first | apply Kd.R_alloc | apply Kd.R_drewN | apply Kd.R_drew)); exact HO662.out) hb)
                              have n1_ := Aside0.mk (Kd.R_below (by (with_reducible repeat (first | apply Kd.R_alloc | apply Kd.R_drewN | apply Kd.R_drew)); exact HO670.out) hb)
                              have n2_ := Aside0.mk (blk_below (g := gb663) (o := .cells #[.int .i64 t659, .slice Ao36 t660.length co36] 28 (0, 0)) (by (with_reducible repeat (first | refine blk_drewN ?_ _ | refine blk_drew ?_ | refine blk_alloc ?_ _)); exact BK663.out) hb)
                              have n3_ := Aside0.mk (below_step (by repeat (first | (with_reducible first | exact HB.out | apply below_alloc | apply pw_below_drewN | apply below_drew1 | refine below_set ?_ GE663.out) | exact HB.out)) hb)
                              have n4_ := Aside0.mk (hbox)
                              have n5_ := Aside0.mk ((by rw [hg]; exact (below_size (by repeat (first | (with_reducible first | exact HB.out | apply below_alloc | apply pw_below_drewN | apply below_drew1 | refine below_set ?_ GE663.out) | exact HB.out))) : w.heap.size ≤ gb671))
                              have n6_ := Aside0.mk ((by rw [hg]; exact (below_size (by repeat (first | (with_reducible first | exact HB.out | apply below_alloc | apply pw_below_drewN | apply below_drew1 | refine below_set ?_ GE663.out) | exact HB.out))) : w.heap.size ≤ gb671))
                              have n7_ := Aside0.mk ((by rw [hg]; exact Nat.ne_of_lt (blk_lt (g := gb663) (o := .cells #[.int .i64 t659, .slice Ao36 t660.length co36] 28 (0, 0)) (by (with_reducible repeat (first | refine blk_drewN ?_ _ | refine blk_drew ?_ | refine blk_alloc ?_ _)); exact BK663.out)) : gb663 ≠ gb671))
                              have n8_ := Aside0.mk ((by rw [hg]; exact Nat.ne_of_gt (blk_lt (g := gb663) (o := .cells #[.int .i64 t659, .slice Ao36 t660.length co36] 28 (0, 0)) (by (with_reducible repeat (first | refine blk_drewN ?_ _ | refine blk_drew ?_ | refine blk_alloc ?_ _)); exact BK663.out)) : gb671 ≠ gb663))
                              clear HO662
                              clear HO670
                              clear BK663
                              clear HB
                              have HO662 := n0_
                              have HO670 := n1_
                              have BK663 := n2_
                              have HB := n3_
                              have BK671 := n4_
                              have GW671 := n5_
                              have GE671 := n6_
                              have NB663_671 := n7_
                              have NB671_663 := n8_
                              clear n0_ n1_ n2_ n3_ n4_ n5_ n6_ n7_ n8_
                              clear hb hbox hg
                              refine hK.out _ _ ⟨(blk_cell BK663.out 0).trans rfl, (blk_cell BK663.out 1).trans rfl⟩ (fun hHeld => ?_)
                              clear hK K
                              refine norm_ (a' := ?_) ?_ ?_
                              rotate_left
                              · show Act.put _ (some 11) _ = _
                                simp only [Act.put, List.setIfInBounds_toArray, List.set_cons_zero, List.set_cons_succ, i64_w, i32_w]
                                rfl
                              exact norm_ (by simp only [putAll, Act.put, List.setIfInBounds_toArray, List.set_cons_zero, List.set_cons_succ]) (hCont (v666, .slice Ao42 y668.length co42, gb671) _ ⟨hHeld, (by (with_reducible repeat (first | apply Kd.R_alloc | apply Kd.R_drewN | apply Kd.R_drew)); exact Kd.R_mono HO662.out (fun _ hk => hk.2)), (by (with_reducible repeat (first | apply Kd.R_alloc | apply Kd.R_drewN | apply Kd.R_drew)); exact HO670.out), (by (with_reducible repeat (first | refine blk_drewN ?_ _ | refine blk_drew ?_ | refine blk_alloc ?_ _)); exact BK663.out), (by (with_reducible repeat (first | refine blk_drewN ?_ _ | refine blk_drew ?_ | refine blk_alloc ?_ _)); exact BK671.out), GW671.out, GE671.out, NB663_671.out, NB671_663.out, (by repeat (first | (with_reducible first | exact HB.out | apply below_alloc | apply pw_below_drewN | apply below_drew1 | refine below_set ?_ GE663.out | refine below_set ?_ GE671.out) | exact HB.out))⟩)
                            · skip
                              refine box_step ?hg (N := 11) ?hd (cs := #[.int .i64 0, .slice none 0 0]) (t := 28) ?hr ?_; (case hd => rfl); (case hg => rfl); (case hr => first | (go_simp; done) | (go_simp; rfl))
                              intro gb671 hg w41 hbox hb
                              have n0_ := Aside0.mk (Kd.R_below (by (with_reducible repeat (first | apply Kd.R_alloc | apply Kd.R_drewN | apply Kd.R_drew)); exact HO662.out) hb)
                              have n1_ := Aside0.mk (Kd.R_below (by (with_reducible repeat (first | apply Kd.R_alloc | apply Kd.R_drewN | apply Kd.R_drew)); exact HO667.out) hb)
                              have n2_ := Aside0.mk (blk_below (g := gb663) (o := .cells #[.int .i64 t659, .slice Ao36 t660.length co36] 28 (0, 0)) (by (with_reducible repeat (first | refine blk_drewN ?_ _ | refine blk_drew ?_ | refine blk_alloc ?_ _)); exact BK663.out) hb)
                              have n3_ := Aside0.mk (below_step (by repeat (first | (with_reducible first | exact HB.out | apply below_alloc | apply pw_below_drewN | apply below_drew1 | refine below_set ?_ GE663.out) | exact HB.out)) hb)
                              have n4_ := Aside0.mk (hbox)
                              have n5_ := Aside0.mk ((by rw [hg]; exact (below_size (by repeat (first | (with_reducible first | exact HB.out | apply below_alloc | apply pw_below_drewN | apply below_drew1 | refine below_set ?_ GE663.out) | exact HB.out))) : w.heap.size ≤ gb671))
                              have n6_ := Aside0.mk ((by rw [hg]; exact (below_size (by repeat (first | (with_reducible first | exact HB.out | apply below_alloc | apply pw_below_drewN | apply below_drew1 | refine below_set ?_ GE663.out) | exact HB.out))) : w.heap.size ≤ gb671))
                              have n7_ := Aside0.mk ((by rw [hg]; exact Nat.ne_of_lt (blk_lt (g := gb663) (o := .cells #[.int .i64 t659, .slice Ao36 t660.length co36] 28 (0, 0)) (by (with_reducible repeat (first | refine blk_drewN ?_ _ | refine blk_drew ?_ | refine blk_alloc ?_ _)); exact BK663.out)) : gb663 ≠ gb671))
                              have n8_ := Aside0.mk ((by rw [hg]; exact Nat.ne_of_gt (blk_lt (g := gb663) (o := .cells #[.int .i64 t659, .slice Ao36 t660.length co36] 28 (0, 0)) (by (with_reducible repeat (first | refine blk_drewN ?_ _ | refine blk_drew ?_ | refine blk_alloc ?_ _)); exact BK663.out)) : gb671 ≠ gb663))
                              clear HO662
                              clear HO667
                              clear BK663
                              clear HB
                              have HO662 := n0_
                              have HO667 := n1_
                              have BK663 := n2_
                              have HB := n3_
                              have BK671 := n4_
                              have GW671 := n5_
                              have GE671 := n6_
                              have NB663_671 := n7_
                              have NB671_663 := n8_
                              clear n0_ n1_ n2_ n3_ n4_ n5_ n6_ n7_ n8_
                              clear hb hbox hg
                              refine hK.out _ _ ⟨(blk_cell BK663.out 0).trans rfl, (blk_cell BK663.out 1).trans rfl⟩ (fun hHeld => ?_)
                              clear hK K
                              refine norm_ (a' := ?_) ?_ ?_
                              rotate_left
                              · show Act.put _ (some 11) _ = _
                                simp only [Act.put, List.setIfInBounds_toArray, List.set_cons_zero, List.set_cons_succ, i64_w, i32_w]
                                rfl
                              refine one_ (i := 5) (N := some 38) #[true, true, true, true, true, true, false, true, false] rfl rfl (one_of HT_.out (by kernel_rfl)) (by decide) (fun K hK => ?_)
                              refine Kd.R_append_rows_step (Kd.int .i64) (w0 := w) w.heap.size (by rfl) (.tmp 35) (.tmp 37) 23 3 (.int .i64 0) 8 rfl Tryd.underlying23 info3 rfl (by decide) (by omega) v666 y665 t660 _ _ _ (fun k_ => some k_ ≠ (.slice Ao36 t660.length co36 : Value).ownBlock) (fun _ => False) rfl rfl ?aO ?aR (fun _ _ h => h) (fun _ h => h.elim) ?aF ?aB ?aS ?aL ?_
                              (case aR => repeat (first | exact (Kd.R_reads' HO662.out).2.2 | (with_reducible refine Kd.C_alloc ?_ _) | (with_reducible refine Kd.C_drewN ?_ _) | (with_reducible refine Kd.C_drew ?_)))
                              (case aB => exact (by repeat (first | (with_reducible first | exact HB.out | apply below_alloc | apply pw_below_drewN | apply below_drew1 | refine below_set ?_ GE663.out | refine below_set ?_ GE671.out) | exact HB.out)))
                              (case aF => exact (fun k_ hk => Kd.fresh' (Kd.R_lt (by (with_reducible repeat (first | apply Kd.R_alloc | apply Kd.R_drewN | apply Kd.R_drew)); exact HO662.out)) k_ hk))
                              (case aO => exact (by (with_reducible repeat (first | apply Kd.R_alloc | apply Kd.R_drewN | apply Kd.R_drew)); exact Kd.R_mono HO667.out (fun _ hk => hk.2)))
                              (case aS => exact (below_size (by repeat (first | (with_reducible first | exact HB.out | apply below_alloc | apply pw_below_drewN | apply below_drew1 | refine below_set ?_ GE663.out | refine below_set ?_ GE671.out) | exact HB.out))))
                              (case aL => have := LMc15.out; omega)
                              intro v669 w42 ho hb hg hat
                              rw [← Ny668.out] at ho
                              have n0_ := Aside0.mk (Kd.R_after (ok := (fun _ => True)) (by (with_reducible repeat (first | apply Kd.R_alloc | apply Kd.R_drewN | apply Kd.R_drew)); exact HO662.out) hg hat)
                              have n1_ := Aside0.mk (blk_grown (g := gb663) (o := .cells #[.int .i64 t659, .slice Ao36 t660.length co36] 28 (0, 0)) (by (with_reducible repeat (first | refine blk_drewN ?_ _ | refine blk_drew ?_ | refine blk_alloc ?_ _)); exact BK663.out) hg (Kd.R_ne HO667.out BK663.out (by decide)))
                              have n2_ := Aside0.mk (blk_grown (g := gb671) (o := .cells #[.int .i64 0, .slice none 0 0] 28 (0, 0)) (by (with_reducible repeat (first | refine blk_drewN ?_ _ | refine blk_drew ?_ | refine blk_alloc ?_ _)); exact BK671.out) hg (Kd.R_ne HO667.out BK671.out (by decide)))
                              have n3_ := Aside0.mk (hb)
                              have n4_ := Aside0.mk (ho)
                              clear HO662
                              clear BK663
                              clear BK671
                              clear HB
                              clear HO667
                              have HO662 := n0_
                              have BK663 := n1_
                              have BK671 := n2_
                              have HB := n3_
                              have HO670 := n4_
                              clear n0_ n1_ n2_ n3_ n4_
                              clear ho hb hg hat
                              obtain ⟨Ao43, co43, eo43⟩ := Kd.R_slice HO670.out
                              (first | subst eo43 | (injection eo43 with f1_ f2_ f3_; have f4_ := f1_.symm; have f5_ := f3_.symm; clear f1_ f2_ f3_; subst f4_; subst f5_))
                              refine hK.out _ _ ⟨(blk_cell BK663.out 0).trans rfl, (blk_cell BK663.out 1).trans rfl⟩ (fun hHeld => ?_)
                              clear hK K
                              refine norm_ (a' := ?_) ?_ ?_
                              rotate_left
                              · show Act.put _ (some 38) _ = _
                                simp only [Act.put, List.setIfInBounds_toArray, List.set_cons_zero, List.set_cons_succ, i64_w, i32_w]
                                rfl
                              refine pure_ (i := 6) (N := some 39) (v := ?_) (a' := ?_) #[true, true, true, true, true, true, true, true, false] rfl rfl (any_of HT_.out (by kernel_rfl)) (fun _ _ _ h => h) (Or.inl ⟨by rfl, ?_⟩) ?_ ?_
                              rotate_left
                              · intro w'
                                go_simp
                                with_reducible rfl
                              rotate_left
                              · simp only [Act.put, List.setIfInBounds_toArray, List.set_cons_zero, List.set_cons_succ, i64_w, i32_w]
                                rfl
                              exact norm_ (by simp only [putAll, Act.put, List.setIfInBounds_toArray, List.set_cons_zero, List.set_cons_succ]) (hCont (v666, .slice Ao43 y668.length co43, gb671) _ ⟨hHeld, (by (with_reducible repeat (first | apply Kd.R_alloc | apply Kd.R_drewN | apply Kd.R_drew)); exact Kd.R_mono HO662.out (fun _ hk => hk.2)), (by (with_reducible repeat (first | apply Kd.R_alloc | apply Kd.R_drewN | apply Kd.R_drew)); exact HO670.out), (by (with_reducible repeat (first | refine blk_drewN ?_ _ | refine blk_drew ?_ | refine blk_alloc ?_ _)); exact BK663.out), (by (with_reducible repeat (first | refine blk_drewN ?_ _ | refine blk_drew ?_ | refine blk_alloc ?_ _)); exact BK671.out), GW671.out, GE671.out, NB663_671.out, NB671_663.out, (by repeat (first | (with_reducible first | exact HB.out | apply below_alloc | apply pw_below_drewN | apply below_drew1 | refine below_set ?_ GE663.out | refine below_set ?_ GE671.out) | exact HB.out))⟩)
                          · skip
                            refine box_step ?hg (N := 11) ?hd (cs := #[.int .i64 0, .slice none 0 0]) (t := 28) ?hr ?_; (case hd => rfl); (case hg => rfl); (case hr => first | (go_simp; done) | (go_simp; rfl))
                            intro gb671 hg w39 hbox hb
                            have n0_ := Aside0.mk (Kd.R_below (by (with_reducible repeat (first | apply Kd.R_alloc | apply Kd.R_drewN | apply Kd.R_drew)); exact HO662.out) hb)
                            have n1_ := Aside0.mk (blk_below (g := gb663) (o := .cells #[.int .i64 t659, .slice Ao36 t660.length co36] 28 (0, 0)) (by (with_reducible repeat (first | refine blk_drewN ?_ _ | refine blk_drew ?_ | refine blk_alloc ?_ _)); exact BK663.out) hb)
                            have n2_ := Aside0.mk (below_step (by repeat (first | (with_reducible first | exact HB.out | apply below_alloc | apply pw_below_drewN | apply below_drew1 | refine below_set ?_ GE663.out) | exact HB.out)) hb)
                            have n3_ := Aside0.mk (hbox)
                            have n4_ := Aside0.mk ((by rw [hg]; exact (below_size (by repeat (first | (with_reducible first | exact HB.out | apply below_alloc | apply pw_below_drewN | apply below_drew1 | refine below_set ?_ GE663.out) | exact HB.out))) : w.heap.size ≤ gb671))
                            have n5_ := Aside0.mk ((by rw [hg]; exact (below_size (by repeat (first | (with_reducible first | exact HB.out | apply below_alloc | apply pw_below_drewN | apply below_drew1 | refine below_set ?_ GE663.out) | exact HB.out))) : w.heap.size ≤ gb671))
                            have n6_ := Aside0.mk ((by rw [hg]; exact Nat.ne_of_lt (blk_lt (g := gb663) (o := .cells #[.int .i64 t659, .slice Ao36 t660.length co36] 28 (0, 0)) (by (with_reducible repeat (first | refine blk_drewN ?_ _ | refine blk_drew ?_ | refine blk_alloc ?_ _)); exact BK663.out)) : gb663 ≠ gb671))
                            have n7_ := Aside0.mk ((by rw [hg]; exact Nat.ne_of_gt (blk_lt (g := gb663) (o := .cells #[.int .i64 t659, .slice Ao36 t660.length co36] 28 (0, 0)) (by (with_reducible repeat (first | refine blk_drewN ?_ _ | refine blk_drew ?_ | refine blk_alloc ?_ _)); exact BK663.out)) : gb671 ≠ gb663))
                            clear HO662
                            clear BK663
                            clear HB
                            have HO662 := n0_
                            have BK663 := n1_
                            have HB := n2_
                            have BK671 := n3_
                            have GW671 := n4_
                            have GE671 := n5_
                            have NB663_671 := n6_
                            have NB671_663 := n7_
                            clear n0_ n1_ n2_ n3_ n4_ n5_ n6_ n7_
                            clear hb hbox hg
                            refine hK.out _ _ ⟨(blk_cell BK663.out 0).trans rfl, (blk_cell BK663.out 1).trans rfl⟩ (fun hHeld => ?_)
                            clear hK K
                            refine norm_ (a' := ?_) ?_ ?_
                            rotate_left
                            · show Act.put _ (some 11) _ = _
                              simp only [Act.put, List.setIfInBounds_toArray, List.set_cons_zero, List.set_cons_succ, i64_w, i32_w]
                              rfl
                            refine one_ (i := 2) (N := some 35) #[true, true, true, true, true, false, false, true, false] rfl rfl (one_of HT_.out (by kernel_rfl)) (by decide) (fun K hK => ?_)
                            refine Kd.R_lit_step (Kd.int .i64) _ 3 ?hg (N := 35) ?hd (xs := ([] : List Int)) (inner := []) (ok := fun _ => True) (okp := fun _ => True) ?hr ?hp (fun _ hk => hk) trivial (Below.refl _ _) (Nat.le_refl _) (by simp) ?_; (case hd => rfl); (case hg => rfl); (case hr => first | (go_simp; done) | (go_simp; rfl)); (case hp => exact (Reps.none _ _))
                            intro v666 w40 ho41 hb hg_ hnew_
                            clear hg_ hnew_
                            (first | rw [← Ny665.out] at ho41 | (simp only [Int.reduceToNat] at ho41; rw [← Ny665.out] at ho41))
                            have n0_ := Aside0.mk (Kd.R_elder' (by (with_reducible repeat (first | apply Kd.R_alloc | apply Kd.R_drewN | apply Kd.R_drew)); exact HO662.out) (Kd.R_base ho41) hb)
                            have n1_ := Aside0.mk (Kd.R_lower (Kd.R_new' ho41 (Kd.R_lt (by (with_reducible repeat (first | apply Kd.R_alloc | apply Kd.R_drewN | apply Kd.R_drew)); exact HO662.out))) (below_size (by repeat (first | (with_reducible first | exact HB.out | apply below_alloc | apply pw_below_drewN | apply below_drew1 | refine below_set ?_ GE663.out | refine below_set ?_ GE671.out) | exact HB.out))))
                            have n2_ := Aside0.mk (blk_below (g := gb663) (o := .cells #[.int .i64 t659, .slice Ao36 t660.length co36] 28 (0, 0)) (by (with_reducible repeat (first | refine blk_drewN ?_ _ | refine blk_drew ?_ | refine blk_alloc ?_ _)); exact BK663.out) hb)
                            have n3_ := Aside0.mk (blk_below (g := gb671) (o := .cells #[.int .i64 0, .slice none 0 0] 28 (0, 0)) (by (with_reducible repeat (first | refine blk_drewN ?_ _ | refine blk_drew ?_ | refine blk_alloc ?_ _)); exact BK671.out) hb)
                            have n4_ := Aside0.mk (below_step (by repeat (first | (with_reducible first | exact HB.out | apply below_alloc | apply pw_below_drewN | apply below_drew1 | refine below_set ?_ GE663.out | refine below_set ?_ GE671.out) | exact HB.out)) hb)
                            clear HO662
                            clear BK663
                            clear BK671
                            clear HB
                            have HO662 := n0_
                            have HO667 := n1_
                            have BK663 := n2_
                            have BK671 := n3_
                            have HB := n4_
                            clear n0_ n1_ n2_ n3_ n4_
                            clear hb ho41
                            refine hK.out _ _ ⟨(blk_cell BK663.out 0).trans rfl, (blk_cell BK663.out 1).trans rfl⟩ (fun hHeld => ?_)
                            clear hK K
                            refine norm_ (a' := ?_) ?_ ?_
                            rotate_left
                            · show Act.put _ (some 35) _ = _
                              simp only [Act.put, List.setIfInBounds_toArray, List.set_cons_zero, List.set_cons_succ, i64_w, i32_w]
                              rfl
                            refine one_ (i := 5) (N := some 38) #[true, true, true, true, true, true, false, true, false] rfl rfl (one_of HT_.out (by kernel_rfl)) (by decide) (fun K hK => ?_)
                            refine Kd.R_append_rows_step (Kd.int .i64) (w0 := w) w.heap.size (by rfl) (.tmp 35) (.tmp 37) 23 3 (.int .i64 0) 8 rfl Tryd.underlying23 info3 rfl (by decide) (by omega) v666 y665 t660 _ _ _ (fun k_ => some k_ ≠ (.slice Ao36 t660.length co36 : Value).ownBlock) (fun _ => False) rfl rfl ?aO ?aR (fun _ _ h => h) (fun _ h => h.elim) ?aF ?aB ?aS ?aL ?_
                            (case aR => repeat (first | exact (Kd.R_reads' HO662.out).2.2 | (with_reducible refine Kd.C_alloc ?_ _) | (with_reducible refine Kd.C_drewN ?_ _) | (with_reducible refine Kd.C_drew ?_)))
                            (case aB => exact (by repeat (first | (with_reducible first | exact HB.out | apply below_alloc | apply pw_below_drewN | apply below_drew1 | refine below_set ?_ GE663.out | refine below_set ?_ GE671.out) | exact HB.out)))
                            (case aF => exact (fun k_ hk => Kd.fresh' (Kd.R_lt (by (with_reducible repeat (first | apply Kd.R_alloc | apply Kd.R_drewN | apply Kd.R_drew)); exact HO662.out)) k_ hk))
                            (case aO => exact (by (with_reducible repeat (first | apply Kd.R_alloc | apply Kd.R_drewN | apply Kd.R_drew)); exact Kd.R_mono HO667.out (fun _ hk => hk.2)))
                            (case aS => exact (below_size (by repeat (first | (with_reducible first | exact HB.out | apply below_alloc | apply pw_below_drewN | apply below_drew1 | refine below_set ?_ GE663.out | refine below_set ?_ GE671.out) | exact HB.out))))
                            (case aL => have := LMc15.out; omega)
                            intro v669 w42 ho hb hg hat
                            rw [← Ny668.out] at ho
                            have n0_ := Aside0.mk (Kd.R_after (ok := (fun _ => True)) (by (with_reducible repeat (first | apply Kd.R_alloc | apply Kd.R_drewN | apply Kd.R_drew)); exact HO662.out) hg hat)
                            have n1_ := Aside0.mk (blk_grown (g := gb663) (o := .cells #[.int .i64 t659, .slice Ao36 t660.length co36] 28 (0, 0)) (by (with_reducible repeat (first | refine blk_drewN ?_ _ | refine blk_drew ?_ | refine blk_alloc ?_ _)); exact BK663.out) hg (Kd.R_ne HO667.out BK663.out (by decide)))
                            have n2_ := Aside0.mk (blk_grown (g := gb671) (o := .cells #[.int .i64 0, .slice none 0 0] 28 (0, 0)) (by (with_reducible repeat (first | refine blk_drewN ?_ _ | refine blk_drew ?_ | refine blk_alloc ?_ _)); exact BK671.out) hg (Kd.R_ne HO667.out BK671.out (by decide)))
                            have n3_ := Aside0.mk (hb)
                            have n4_ := Aside0.mk (ho)
                            clear HO662
                            clear BK663
                            clear BK671
                            clear HB
                            clear HO667
                            have HO662 := n0_
                            have BK663 := n1_
                            have BK671 := n2_
                            have HB := n3_
                            have HO670 := n4_
                            clear n0_ n1_ n2_ n3_ n4_
                            clear ho hb hg hat
                            obtain ⟨Ao43, co43, eo43⟩ := Kd.R_slice HO670.out
                            (first | subst eo43 | (injection eo43 with f1_ f2_ f3_; have f4_ := f1_.symm; have f5_ := f3_.symm; clear f1_ f2_ f3_; subst f4_; subst f5_))
                            refine hK.out _ _ ⟨(blk_cell BK663.out 0).trans rfl, (blk_cell BK663.out 1).trans rfl⟩ (fun hHeld => ?_)
                            clear hK K
                            refine norm_ (a' := ?_) ?_ ?_
                            rotate_left
                            · show Act.put _ (some 38) _ = _
                              simp only [Act.put, List.setIfInBounds_toArray, List.set_cons_zero, List.set_cons_succ, i64_w, i32_w]
                              rfl
                            refine pure_ (i := 6) (N := some 39) (v := ?_) (a' := ?_) #[true, true, true, true, true, true, true, true, false] rfl rfl (any_of HT_.out (by kernel_rfl)) (fun _ _ _ h => h) (Or.inl ⟨by rfl, ?_⟩) ?_ ?_
                            rotate_left
                            · intro w'
                              go_simp
                              with_reducible rfl
                            rotate_left
                            · simp only [Act.put, List.setIfInBounds_toArray, List.set_cons_zero, List.set_cons_succ, i64_w, i32_w]
                              rfl
                            exact norm_ (by simp only [putAll, Act.put, List.setIfInBounds_toArray, List.set_cons_zero, List.set_cons_succ]) (hCont (v666, .slice Ao43 y668.length co43, gb671) _ ⟨hHeld, (by (with_reducible repeat (first | apply Kd.R_alloc | apply Kd.R_drewN | apply Kd.R_drew)); exact Kd.R_mono HO662.out (fun _ hk => hk.2)), (by (with_reducible repeat (first | apply Kd.R_alloc | apply Kd.R_drewN | apply Kd.R_drew)); exact HO670.out), (by (with_reducible repeat (first | refine blk_drewN ?_ _ | refine blk_drew ?_ | refine blk_alloc ?_ _)); exact BK663.out), (by (with_reducible repeat (first | refine blk_drewN ?_ _ | refine blk_drew ?_ | refine blk_alloc ?_ _)); exact BK671.out), GW671.out, GE671.out, NB663_671.out, NB671_663.out, (by repeat (first | (with_reducible first | exact HB.out | apply below_alloc | apply pw_below_drewN | apply below_drew1 | refine below_set ?_ GE663.out | refine below_set ?_ GE671.out) | exact HB.out))⟩)
                        rintro ⟨v666, v669, gb671⟩ w44 ⟨hS_, h0_, h1_, h2_, h3_, h4_, h5_, h6_, h7_, h8_⟩
                        have n0_ : Aside0 (Kd.R (Kd.int .i64) 3 w44 w.heap.size (fun k_ => some k_ ≠ (v669 : Value).ownBlock) (.slice Ao36 t660.length co36) t660) := ⟨h0_⟩
                        have n1_ : Aside0 (Kd.R (Kd.int .i64) 3 w44 w.heap.size (fun k_ => some k_ ≠ (.slice Ao36 t660.length co36 : Value).ownBlock) v669 y668) := ⟨h1_⟩
                        have n2_ : Aside0 (w44.heap[gb663]? = some (.cells #[.int .i64 t659, .slice Ao36 t660.length co36] 28 (0, 0))) := ⟨h2_⟩
                        have n3_ : Aside0 (w44.heap[gb671]? = some (.cells #[.int .i64 0, .slice none 0 0] 28 (0, 0))) := ⟨h3_⟩
                        have n4_ : Aside0 (w.heap.size ≤ gb671) := ⟨h4_⟩
                        have n5_ : Aside0 (w.heap.size ≤ gb671) := ⟨h5_⟩
                        have n6_ : Aside0 (gb663 ≠ gb671) := ⟨h6_⟩
                        have n7_ : Aside0 (gb671 ≠ gb663) := ⟨h7_⟩
                        have n8_ : Aside0 (Below w.heap.size w w44) := ⟨h8_⟩
                        clear HO662
                        clear BK663
                        clear HB
                        clear h0_ h1_ h2_ h3_ h4_ h5_ h6_ h7_ h8_
                        have HO662 := n0_
                        have HO670 := n1_
                        have BK663 := n2_
                        have BK671 := n3_
                        have GW671 := n4_
                        have GE671 := n5_
                        have NB663_671 := n6_
                        have NB671_663 := n7_
                        have HB := n8_
                        clear n0_ n1_ n2_ n3_ n4_ n5_ n6_ n7_ n8_
                        have hHeld : w44.cell? ⟨gb663, 0, none⟩ = some (.int .i64 t659) ∧ w44.cell? ⟨gb663, 1, none⟩ = some (.slice Ao36 t660.length co36) := hS_
                        obtain ⟨Ao45, co45, eo45⟩ := Kd.R_slice HO670.out
                        (first | subst eo45 | (injection eo45 with f1_ f2_ f3_; have f4_ := f1_.symm; have f5_ := f3_.symm; clear f1_ f2_ f3_; subst f4_; subst f5_))
                        refine norm_ (a' := ?_) ?_ ?_
                        rotate_left
                        · simp only [putAll, Act.put, List.setIfInBounds_toArray, List.set_cons_zero, List.set_cons_succ]
                          rfl
                        refine one_ (i := 8) (N := none) #[true, true, true, true, true, true, true, true, true] rfl rfl (one_of HT_.out (by kernel_rfl)) (by decide) (fun K hK => ?_)
                        have hs46 : w44.cell? ⟨gb671, 0, none⟩ = some (.int .i64 0) := (blk_cell BK671.out 0).trans rfl
                        have hfs46 := blk_frozen BK671.out 0
                        have hns46_0 := NB663_671.out
                        have hms46_0 := NB671_663.out
                        have hs47 : w44.cell? ⟨gb671, 1, none⟩ = some (.slice none 0 0) := (blk_cell BK671.out 1).trans rfl
                        have hfs47 := blk_frozen BK671.out 1
                        have hns47_0 := NB663_671.out
                        have hms47_0 := NB671_663.out
                        refine skip_ (w1 := ?_) (by rfl) rfl ?_ ?_
                        rotate_left
                        · go_simp
                          rfl
                        refine hK.out _ _ ⟨((cell_far (p := ⟨gb671, _, none⟩) NB663_671.out _).trans (((cell_far (p := ⟨gb671, _, none⟩) NB663_671.out _).trans (hHeld.1)))), ((cell_far (p := ⟨gb671, _, none⟩) NB663_671.out _).trans (((cell_far (p := ⟨gb671, _, none⟩) NB663_671.out _).trans (hHeld.2))))⟩ (fun hHeld => ?_)
                        clear hK K
                        refine done_ (done_of HT_.out (by kernel_rfl)) ?_
                        try go_wp2
                        have n0_ : Aside0 (Kd.R (Kd.int .i64) 3 ((w44.setCell ⟨gb671, 0, none⟩ (.int .i64 t659)).setCell ⟨gb671, 1, none⟩ (.slice Ao45 y668.length co45)) w.heap.size (fun k_ => some k_ ≠ (.slice Ao45 y668.length co45 : Value).ownBlock) (.slice Ao36 t660.length co36) t660) := ⟨by (with_reducible repeat (first | apply Kd.R_alloc | apply Kd.R_drewN | apply Kd.R_drew)); exact Kd.R_mono (Kd.R_far (p := ⟨gb671, 1, none⟩) (Kd.R_far (p := ⟨gb671, 0, none⟩) (Kd.R_types HO662.out BK671.out (by decide)) (fun _ hk => hk.2) (.int .i64 t659)) (fun _ hk => hk.2) (.slice Ao45 y668.length co45)) (fun _ hk => hk.1)⟩
                        have n1_ : Aside0 (Kd.R (Kd.int .i64) 3 ((w44.setCell ⟨gb671, 0, none⟩ (.int .i64 t659)).setCell ⟨gb671, 1, none⟩ (.slice Ao45 y668.length co45)) w.heap.size (fun k_ => some k_ ≠ (.slice Ao36 t660.length co36 : Value).ownBlock) (.slice Ao45 y668.length co45) y668) := ⟨by (with_reducible repeat (first | apply Kd.R_alloc | apply Kd.R_drewN | apply Kd.R_drew)); exact Kd.R_mono (Kd.R_far (p := ⟨gb671, 1, none⟩) (Kd.R_far (p := ⟨gb671, 0, none⟩) (Kd.R_types HO670.out BK671.out (by decide)) (fun _ hk => hk.2) (.int .i64 t659)) (fun _ hk => hk.2) (.slice Ao45 y668.length co45)) (fun _ hk => hk.1)⟩
                        have n2_ : Aside0 (((w44.setCell ⟨gb671, 0, none⟩ (.int .i64 t659)).setCell ⟨gb671, 1, none⟩ (.slice Ao45 y668.length co45)).heap[gb663]? = some (.cells #[.int .i64 t659, .slice Ao36 t660.length co36] 28 (0, 0))) := ⟨by (with_reducible repeat (first | refine blk_drewN ?_ _ | refine blk_drew ?_ | refine blk_alloc ?_ _)); refine blk_far ?_ NB663_671.out _; (with_reducible repeat (first | refine blk_drewN ?_ _ | refine blk_drew ?_ | refine blk_alloc ?_ _)); refine blk_far ?_ NB663_671.out _; (with_reducible repeat (first | refine blk_drewN ?_ _ | refine blk_drew ?_ | refine blk_alloc ?_ _)); exact BK663.out⟩
                        have n3_ : Aside0 (((w44.setCell ⟨gb671, 0, none⟩ (.int .i64 t659)).setCell ⟨gb671, 1, none⟩ (.slice Ao45 y668.length co45)).heap[gb671]? = some (.cells #[.int .i64 t659, .slice Ao45 y668.length co45] 28 (0, 0))) := ⟨by (with_reducible repeat (first | refine blk_drewN ?_ _ | refine blk_drew ?_ | refine blk_alloc ?_ _)); refine blk_put (cs := #[.int .i64 t659, .slice none 0 0]) ?_ 1 _ rfl; (with_reducible repeat (first | refine blk_drewN ?_ _ | refine blk_drew ?_ | refine blk_alloc ?_ _)); refine blk_put (cs := #[.int .i64 0, .slice none 0 0]) ?_ 0 _ rfl; (with_reducible repeat (first | refine blk_drewN ?_ _ | refine blk_drew ?_ | refine blk_alloc ?_ _)); exact BK671.out⟩
                        have n4_ : Aside0 (Below w.heap.size w ((w44.setCell ⟨gb671, 0, none⟩ (.int .i64 t659)).setCell ⟨gb671, 1, none⟩ (.slice Ao45 y668.length co45))) := ⟨by repeat (first | (with_reducible first | exact HB.out | apply below_alloc | apply pw_below_drewN | apply below_drew1 | refine below_set ?_ GE663.out | refine below_set ?_ GE671.out) | exact HB.out)⟩
                        (try clear HO662)
                        (try clear HO670)
                        (try clear BK663)
                        (try clear BK671)
                        (try clear HB)
                        generalize ((w44.setCell ⟨gb671, 0, none⟩ (.int .i64 t659)).setCell ⟨gb671, 1, none⟩ (.slice Ao45 y668.length co45)) = w48 at n0_ n1_ n2_ n3_ n4_ ⊢
                        have HO662 := n0_
                        have HO670 := n1_
                        have BK663 := n2_
                        have BK671 := n3_
                        have HB := n4_
                        clear n0_ n1_ n2_ n3_ n4_
                        have n0_ := Aside0.mk (Kd.R_drew HO662.out)
                        have n1_ := Aside0.mk (Kd.R_drew HO670.out)
                        have n2_ := Aside0.mk (blk_drew BK663.out)
                        have n3_ := Aside0.mk (blk_drew BK671.out)
                        have n4_ := Aside0.mk (below_drew1 HB.out)
                        clear HO662
                        clear HO670
                        clear BK663
                        clear BK671
                        clear HB
                        have HO662 := n0_
                        have HO670 := n1_
                        have BK663 := n2_
                        have BK671 := n3_
                        have HB := n4_
                        clear n0_ n1_ n2_ n3_ n4_
                        refine start_ (n := 14) (S := fun w' => w'.cell? ⟨gb671, 0, none⟩ = some (.int .i64 t659) ∧ w'.cell? ⟨gb671, 1, none⟩ = some (.slice Ao45 y668.length co45) ∧ w'.cell? ⟨gb663, 0, none⟩ = some (.int .i64 t659) ∧ w'.cell? ⟨gb663, 1, none⟩ = some (.slice Ao36 t660.length co36)) (ds := [13]) #[false, false, false, false, false, false, false, false, false, false, false, false, false, false] (by kernel_rfl) rfl rfl ⟨(blk_cell BK671.out 0).trans rfl, (blk_cell BK671.out 1).trans rfl, (blk_cell BK663.out 0).trans rfl, (blk_cell BK663.out 1).trans rfl⟩ (fun hHeld => ?_); refine with_tabW letterpresslaw2_IsaBits.tab8 letterpresslaw2_IsaBits.bits8 (fun HT_ HW_ => ?_)
                        generalize w48.drew = w49 at HO662 HO670 BK663 BK671 HB hHeld ⊢
                        refine pure_ (i := 0) (N := some 40) (v := ?_) (a' := ?_) #[true, false, false, false, false, false, false, false, false, false, false, false, false, false] rfl rfl (any_of HT_.out (by kernel_rfl)) (fun _ _ _ h => h) (Or.inl ⟨by rfl, ?_⟩) ?_ ?_
                        rotate_left
                        · intro w'
                          go_simp
                          with_reducible rfl
                        rotate_left
                        · simp only [Act.put, List.setIfInBounds_toArray, List.set_cons_zero, List.set_cons_succ, i64_w, i32_w]
                          rfl
                        refine pure_ (i := 2) (N := some 42) (v := ?_) (a' := ?_) #[true, false, true, false, false, false, false, false, false, false, false, false, false, false] rfl rfl (any_of HT_.out (by kernel_rfl)) (fun _ _ _ h => h) (Or.inl ⟨by rfl, ?_⟩) ?_ ?_
                        rotate_left
                        · intro w'
                          go_simp
                          with_reducible rfl
                        rotate_left
                        · simp only [Act.put, List.setIfInBounds_toArray, List.set_cons_zero, List.set_cons_succ, i64_w, i32_w]
                          rfl
                        refine pure_ (i := 3) (N := some 43) (v := ?_) (a' := ?_) #[true, false, true, true, false, false, false, false, false, false, false, false, false, false] rfl rfl (any_of HT_.out (by kernel_rfl)) (fun _ _ _ h => h) (Or.inl ⟨by rfl, ?_⟩) ?_ ?_
                        rotate_left
                        · intro w'
                          go_simp
                          with_reducible rfl
                        rotate_left
                        · simp only [Act.put, List.setIfInBounds_toArray, List.set_cons_zero, List.set_cons_succ, i64_w, i32_w]
                          rfl
                        refine pure_ (i := 7) (N := some 47) (v := ?_) (a' := ?_) #[true, false, true, true, false, false, false, true, false, false, false, false, false, false] rfl rfl (any_of HT_.out (by kernel_rfl)) (fun _ _ _ h => h) (Or.inl ⟨by rfl, ?_⟩) ?_ ?_
                        rotate_left
                        · intro w'
                          go_simp
                          with_reducible rfl
                        rotate_left
                        · simp only [Act.put, List.setIfInBounds_toArray, List.set_cons_zero, List.set_cons_succ, i64_w, i32_w]
                          rfl
                        refine pure_ (i := 10) (N := some 50) (v := ?_) (a' := ?_) #[true, false, true, true, false, false, false, true, false, false, true, false, false, false] rfl rfl (any_of HT_.out (by kernel_rfl)) (fun _ _ _ h => h) (Or.inl ⟨by rfl, ?_⟩) ?_ ?_
                        rotate_left
                        · intro w'
                          go_simp
                          with_reducible rfl
                        rotate_left
                        · simp only [Act.put, List.setIfInBounds_toArray, List.set_cons_zero, List.set_cons_succ, i64_w, i32_w]
                          rfl
                        refine take_ (i := 1) (N := some 41) (v := ?_) (a' := ?_) #[true, true, true, true, false, false, false, true, false, false, true, false, false, false] rfl rfl (take_ofW HT_.out HW_.out (by kernel_rfl)) (fun _ _ _ h => h) (Or.inl ⟨by rfl, ?_⟩) hHeld ?_ ?_
                        rotate_left
                        · rintro w' ⟨s0, s1, s2, s3⟩
                          go_simp
                          with_reducible rfl
                        rotate_left
                        · simp only [Act.put, List.setIfInBounds_toArray, List.set_cons_zero, List.set_cons_succ, i64_w, i32_w]
                          rfl
                        refine take_ (i := 4) (N := some 44) (v := ?_) (a' := ?_) #[true, true, true, true, true, false, false, true, false, false, true, false, false, false] rfl rfl (take_ofW HT_.out HW_.out (by kernel_rfl)) (fun _ _ _ h => h) (Or.inl ⟨by rfl, ?_⟩) hHeld ?_ ?_
                        rotate_left
                        · rintro w' ⟨s0, s1, s2, s3⟩
                          go_simp
                          with_reducible rfl
                        rotate_left
                        · simp only [Act.put, List.setIfInBounds_toArray, List.set_cons_zero, List.set_cons_succ, i64_w, i32_w]
                          rfl
                        refine one_ (i := 5) (N := some 45) #[true, true, true, true, true, true, false, true, false, false, true, false, false, false] rfl rfl (one_of HT_.out (by kernel_rfl)) (by decide) (fun K hK => ?_)
                        refine goes_ Tryd.func25 (by kernel_rfl) rfl #[.int .i64 t659] (by rfl) rfl rfl (by (try simp only [List.map_toArray, List.map_cons, List.map_nil]); first | done | rfl | (simp only [List.length_drop, List.length_take]; rfl)) ?_
                        with_reducible refine (letterpressref2_Kinds.calls t659 t672 _ A16.out).mono ?_
                        rintro e w50 ⟨rfl, hb⟩
                        refine ⟨_, rfl, ?_⟩
                        have n0_ := Aside0.mk (Kd.R_below (by (with_reducible repeat (first | apply Kd.R_alloc | apply Kd.R_drewN | apply Kd.R_drew)); exact HO662.out) hb)
                        have n1_ := Aside0.mk (Kd.R_below (by (with_reducible repeat (first | apply Kd.R_alloc | apply Kd.R_drewN | apply Kd.R_drew)); exact HO670.out) hb)
                        have n2_ := Aside0.mk (blk_below (g := gb663) (o := .cells #[.int .i64 t659, .slice Ao36 t660.length co36] 28 (0, 0)) (by (with_reducible repeat (first | refine blk_drewN ?_ _ | refine blk_drew ?_ | refine blk_alloc ?_ _)); exact BK663.out) hb)
                        have n3_ := Aside0.mk (blk_below (g := gb671) (o := .cells #[.int .i64 t659, .slice Ao45 y668.length co45] 28 (0, 0)) (by (with_reducible repeat (first | refine blk_drewN ?_ _ | refine blk_drew ?_ | refine blk_alloc ?_ _)); exact BK671.out) hb)
                        have n4_ := Aside0.mk (below_step (by repeat (first | (with_reducible first | exact HB.out | apply below_alloc | apply pw_below_drewN | apply below_drew1 | refine below_set ?_ GE663.out | refine below_set ?_ GE671.out) | exact HB.out)) hb)
                        clear HO662
                        clear HO670
                        clear BK663
                        clear BK671
                        clear HB
                        have HO662 := n0_
                        have HO670 := n1_
                        have BK663 := n2_
                        have BK671 := n3_
                        have HB := n4_
                        clear n0_ n1_ n2_ n3_ n4_
                        (try clear hb)
                        (try clear hb2)
                        (try clear hk)
                        (try clear hi)
                        refine hK.out _ _ ⟨(blk_cell BK671.out 0).trans rfl, (blk_cell BK671.out 1).trans rfl, (blk_cell BK663.out 0).trans rfl, (blk_cell BK663.out 1).trans rfl⟩ (fun hHeld => ?_)
                        clear hK K
                        refine norm_ (a' := ?_) ?_ ?_
                        rotate_left
                        · show Act.put _ (some 45) _ = _
                          simp only [Act.put, List.setIfInBounds_toArray, List.set_cons_zero, List.set_cons_succ, i64_w, i32_w]
                          rfl
                        refine one_ (i := 6) (N := some 46) #[true, true, true, true, true, true, true, true, false, false, true, false, false, false] rfl rfl (one_of HT_.out (by kernel_rfl)) (by decide) (fun K hK => ?_)
                        refine goes_ Tryd.func24 (by kernel_rfl) rfl #[.string t672] (by rfl) rfl rfl (by (try simp only [List.map_toArray, List.map_cons, List.map_nil]); first | done | rfl | (simp only [List.length_drop, List.length_take]; rfl)) ?_
                        with_reducible refine (letterpressref2_Words.calls k t672 t673 _ A17.out).mono ?_
                        rintro e w51 ⟨v674, rfl, ho0, hb⟩
                        refine ⟨_, rfl, ?_⟩
                        have n0_ := Aside0.mk (Kd.R_below (by (with_reducible repeat (first | apply Kd.R_alloc | apply Kd.R_drewN | apply Kd.R_drew)); exact HO662.out) hb)
                        have n1_ := Aside0.mk (Kd.R_below (by (with_reducible repeat (first | apply Kd.R_alloc | apply Kd.R_drewN | apply Kd.R_drew)); exact HO670.out) hb)
                        have n2_ := Aside0.mk (Kd.R_lower ho0 (below_size (by repeat (first | (with_reducible first | exact HB.out | apply below_alloc | apply pw_below_drewN | apply below_drew1 | refine below_set ?_ GE663.out | refine below_set ?_ GE671.out) | exact HB.out))))
                        have n3_ := Aside0.mk (blk_below (g := gb663) (o := .cells #[.int .i64 t659, .slice Ao36 t660.length co36] 28 (0, 0)) (by (with_reducible repeat (first | refine blk_drewN ?_ _ | refine blk_drew ?_ | refine blk_alloc ?_ _)); exact BK663.out) hb)
                        have n4_ := Aside0.mk (blk_below (g := gb671) (o := .cells #[.int .i64 t659, .slice Ao45 y668.length co45] 28 (0, 0)) (by (with_reducible repeat (first | refine blk_drewN ?_ _ | refine blk_drew ?_ | refine blk_alloc ?_ _)); exact BK671.out) hb)
                        have n5_ := Aside0.mk (below_step (by repeat (first | (with_reducible first | exact HB.out | apply below_alloc | apply pw_below_drewN | apply below_drew1 | refine below_set ?_ GE663.out | refine below_set ?_ GE671.out) | exact HB.out)) hb)
                        clear HO662
                        clear HO670
                        clear BK663
                        clear BK671
                        clear HB
                        have HO662 := n0_
                        have HO670 := n1_
                        have HO675 := n2_
                        have BK663 := n3_
                        have BK671 := n4_
                        have HB := n5_
                        clear n0_ n1_ n2_ n3_ n4_ n5_
                        (try clear hb)
                        (try clear hb2)
                        (try clear hk)
                        (try clear hi)
                        (try clear ho0)
                        obtain ⟨Ao52, co52, eo52⟩ := Kd.R_slice HO675.out
                        (first | subst eo52 | (injection eo52 with f1_ f2_ f3_; have f4_ := f1_.symm; have f5_ := f3_.symm; clear f1_ f2_ f3_; subst f4_; subst f5_))
                        have p676 : 0 ≤ (t664 : Int) := of_decide_eq_true (by first | (with_reducible assumption) | assumption)
                        have q676 : t664 < (t673.length : Int) := of_decide_eq_true (by first | (with_reducible assumption) | assumption)
                        obtain ⟨ad676, e676, hx676_0⟩ := Kd.at_string (Kd.R_reads' HO675.out).2.2 t664 p676 q676
                        cases e676
                        replace p676 := eq_true p676
                        replace q676 := eq_true q676
                        refine hK.out _ _ ⟨(blk_cell BK671.out 0).trans rfl, (blk_cell BK671.out 1).trans rfl, (blk_cell BK663.out 0).trans rfl, (blk_cell BK663.out 1).trans rfl⟩ (fun hHeld => ?_)
                        clear hK K
                        refine norm_ (a' := ?_) ?_ ?_
                        rotate_left
                        · show Act.put _ (some 46) _ = _
                          simp only [Act.put, List.setIfInBounds_toArray, List.set_cons_zero, List.set_cons_succ, i64_w, i32_w]
                          rfl
                        refine pure_ (i := 8) (N := some 48) (v := ?_) (a' := ?_) #[true, true, true, true, true, true, true, true, true, false, true, false, false, false] rfl rfl (any_of HT_.out (by kernel_rfl)) (fun _ _ _ h => h) (Or.inl ⟨by rfl, ?_⟩) ?_ ?_
                        rotate_left
                        · intro w'
                          go_simp
                          with_reducible rfl
                        rotate_left
                        · simp only [Act.put, List.setIfInBounds_toArray, List.set_cons_zero, List.set_cons_succ, i64_w, i32_w]
                          rfl
                        refine one_ (i := 9) (N := some 49) #[true, true, true, true, true, true, true, true, true, true, true, false, false, false] rfl rfl (one_of HT_.out (by kernel_rfl)) (by decide) (fun K hK => ?_)
                        refine here_ (v := ?_) rfl ?_ ?_
                        rotate_left
                        · go_simp
                          with_reducible rfl
                        refine hK.out _ _ hHeld (fun hHeld => ?_)
                        clear hK K
                        refine norm_ (a' := ?_) ?_ ?_
                        rotate_left
                        · simp only [Act.put, List.setIfInBounds_toArray, List.set_cons_zero, List.set_cons_succ, i64_w, i32_w]
                          rfl
                        refine one_ (i := 11) (N := some 51) #[true, true, true, true, true, true, true, true, true, true, true, true, false, false] rfl rfl (one_of HT_.out (by kernel_rfl)) (by decide) (fun K hK => ?_)
                        refine goes_ Tryd.func23 (by kernel_rfl) rfl #[.string (rdOf ByteArray.empty t673 t664), .int .i64 a3] (by rfl) rfl rfl (by (try simp only [List.map_toArray, List.map_cons, List.map_nil]); first | done | rfl | (simp only [List.length_drop, List.length_take]; rfl)) ?_
                        with_reducible refine (letterpresslaw2_Operand.calls k (rdOf ByteArray.empty t673 t664) a3 t677 _ A20.out).mono ?_
                        rintro e w53 ⟨rfl, hb⟩
                        refine ⟨_, rfl, ?_⟩
                        have n0_ := Aside0.mk (Kd.R_below (by (with_reducible repeat (first | apply Kd.R_alloc | apply Kd.R_drewN | apply Kd.R_drew)); exact HO662.out) hb)
                        have n1_ := Aside0.mk (Kd.R_below (by (with_reducible repeat (first | apply Kd.R_alloc | apply Kd.R_drewN | apply Kd.R_drew)); exact HO670.out) hb)
                        have n2_ := Aside0.mk (Kd.R_below (by (with_reducible repeat (first | apply Kd.R_alloc | apply Kd.R_drewN | apply Kd.R_drew)); exact HO675.out) hb)
                        have n3_ := Aside0.mk (blk_below (g := gb663) (o := .cells #[.int .i64 t659, .slice Ao36 t660.length co36] 28 (0, 0)) (by (with_reducible repeat (first | refine blk_drewN ?_ _ | refine blk_drew ?_ | refine blk_alloc ?_ _)); exact BK663.out) hb)
                        have n4_ := Aside0.mk (blk_below (g := gb671) (o := .cells #[.int .i64 t659, .slice Ao45 y668.length co45] 28 (0, 0)) (by (with_reducible repeat (first | refine blk_drewN ?_ _ | refine blk_drew ?_ | refine blk_alloc ?_ _)); exact BK671.out) hb)
                        have n5_ := Aside0.mk (below_step (by repeat (first | (with_reducible first | exact HB.out | apply below_alloc | apply pw_below_drewN | apply below_drew1 | refine below_set ?_ GE663.out | refine below_set ?_ GE671.out) | exact HB.out)) hb)
                        clear HO662
                        clear HO670
                        clear HO675
                        clear BK663
                        clear BK671
                        clear HB
                        have HO662 := n0_
                        have HO670 := n1_
                        have HO675 := n2_
                        have BK663 := n3_
                        have BK671 := n4_
                        have HB := n5_
                        clear n0_ n1_ n2_ n3_ n4_ n5_
                        (try clear hb)
                        (try clear hb2)
                        (try clear hk)
                        (try clear hi)
                        have p22 : 0 ≤ (t664 : Int) := of_decide_eq_true (by first | (with_reducible assumption) | assumption)
                        have q22 : (t664 : Int) < ((y668.length : Int) : Int) := of_decide_eq_true (by first | (with_reducible assumption) | assumption)
                        obtain ⟨go22, co22, eo22, gb22, gl22, cl22, HG22⟩ := Kd.R_form HO670.out (by omega)
                        (first | cases eo22 | (injection eo22 with ea_ en_ ec_; (first | subst ea_ | (injection ea_ with ea_; subst ea_)); subst ec_; clear en_))
                        have GB22 := Aside0.mk gb22
                        have GG22 := Aside0.mk HG22
                        clear gb22 gl22 HG22
                        obtain ⟨hx22_0, hf22_0⟩ := Kd.R_celln 0 HO670.out (t664 : Int) p22 q22
                        replace p22 := eq_true p22
                        replace q22 := eq_true q22
                        have HP54 := Kd.R_putn HO670.out (t664 : Int) t677
                        rw [← Ny678.out] at HP54
                        have HQ54 := Aside0.mk HP54
                        clear HP54
                        refine hK.out _ _ ⟨(blk_cell BK671.out 0).trans rfl, (blk_cell BK671.out 1).trans rfl, (blk_cell BK663.out 0).trans rfl, (blk_cell BK663.out 1).trans rfl⟩ (fun hHeld => ?_)
                        clear hK K
                        refine norm_ (a' := ?_) ?_ ?_
                        rotate_left
                        · show Act.put _ (some 51) _ = _
                          simp only [Act.put, List.setIfInBounds_toArray, List.set_cons_zero, List.set_cons_succ, i64_w, i32_w]
                          rfl
                        refine pure_ (i := 12) (N := some 52) (v := ?_) (a' := ?_) #[true, true, true, true, true, true, true, true, true, true, true, true, true, false] rfl rfl (any_of HT_.out (by kernel_rfl)) (fun _ _ _ h => h) (Or.inl ⟨by rfl, ?_⟩) ?_ ?_
                        rotate_left
                        · intro w'
                          go_simp
                          with_reducible rfl
                        rotate_left
                        · simp only [Act.put, List.setIfInBounds_toArray, List.set_cons_zero, List.set_cons_succ, i64_w, i32_w]
                          rfl
                        refine last_ (i := 13) (N := none) #[true, true, true, true, true, true, true, true, true, true, true, true, true, true] rfl rfl (one_of HT_.out (by kernel_rfl)) (by decide) (fun K hK => ?_)
                        refine skip_ (w1 := ?_) (by rfl) rfl ?_ ?_
                        rotate_left
                        · go_simp
                          rfl
                        refine hK.out _ _ ?_
                        clear hK K
                        refine done_ (done_of HT_.out (by kernel_rfl)) ?_
                        have n0_ : Aside0 (Kd.R (Kd.int .i64) 3 (w53.setCell ⟨go22, (t664 : Int).toNat, none⟩ (.int .i64 t677)) w.heap.size (fun k_ => some k_ ≠ (.slice (some ⟨go22, 0, none⟩) y668.length co45 : Value).ownBlock) (.slice Ao36 t660.length co36) t660) := ⟨by (with_reducible repeat (first | apply Kd.R_alloc | apply Kd.R_drewN | apply Kd.R_drew)); exact Kd.R_mono (Kd.R_far (p := ⟨go22, (t664 : Int).toNat, none⟩) (Kd.R_mono HO662.out (fun k_ hk => (⟨hk, fun e_ => hk (by rw [e_]; rfl)⟩ : _ ∧ k_ ≠ go22))) (fun _ hk => hk.2) (.int .i64 t677)) (fun _ hk => hk.1)⟩
                        have n1_ : Aside0 (Kd.R (Kd.int .i64) 3 (w53.setCell ⟨go22, (t664 : Int).toNat, none⟩ (.int .i64 t677)) w.heap.size (fun k_ => some k_ ≠ (.slice Ao36 t660.length co36 : Value).ownBlock) (.slice (some ⟨go22, 0, none⟩) y668.length co45) y678) := ⟨by (with_reducible repeat (first | apply Kd.R_alloc | apply Kd.R_drewN | apply Kd.R_drew)); exact HQ54.out⟩
                        have n2_ : Aside0 (Kd.R Kd.string 9 (w53.setCell ⟨go22, (t664 : Int).toNat, none⟩ (.int .i64 t677)) w.heap.size (fun _ => True) (.slice (some ad676) t673.length co52) t673) := ⟨by (with_reducible repeat (first | apply Kd.R_alloc | apply Kd.R_drewN | apply Kd.R_drew)); exact Kd.R_mono (Kd.R_far (p := ⟨go22, (t664 : Int).toNat, none⟩) (Kd.R_types HO675.out GG22.out (by decide)) (fun _ hk => hk.2) (.int .i64 t677)) (fun _ hk => trivial)⟩
                        have n3_ : Aside0 ((w53.setCell ⟨go22, (t664 : Int).toNat, none⟩ (.int .i64 t677)).heap[gb663]? = some (.cells #[.int .i64 t659, .slice Ao36 t660.length co36] 28 (0, 0))) := ⟨by (with_reducible repeat (first | refine blk_drewN ?_ _ | refine blk_drew ?_ | refine blk_alloc ?_ _)); refine blk_far ?_ (by have h_ := Kd.R_ne HO670.out BK663.out (by decide); intro e_; exact h_ (by rw [e_]; rfl)) _; (with_reducible repeat (first | refine blk_drewN ?_ _ | refine blk_drew ?_ | refine blk_alloc ?_ _)); exact BK663.out⟩
                        have n4_ : Aside0 ((w53.setCell ⟨go22, (t664 : Int).toNat, none⟩ (.int .i64 t677)).heap[gb671]? = some (.cells #[.int .i64 t659, .slice (some ⟨go22, 0, none⟩) y668.length co45] 28 (0, 0))) := ⟨by (with_reducible repeat (first | refine blk_drewN ?_ _ | refine blk_drew ?_ | refine blk_alloc ?_ _)); refine blk_far ?_ (by have h_ := Kd.R_ne HO670.out BK671.out (by decide); intro e_; exact h_ (by rw [e_]; rfl)) _; (with_reducible repeat (first | refine blk_drewN ?_ _ | refine blk_drew ?_ | refine blk_alloc ?_ _)); exact BK671.out⟩
                        have n5_ : Aside0 (Below w.heap.size w (w53.setCell ⟨go22, (t664 : Int).toNat, none⟩ (.int .i64 t677))) := ⟨by repeat (first | (with_reducible first | exact HB.out | apply below_alloc | apply pw_below_drewN | apply below_drew1 | refine below_set ?_ GB22.out | refine below_set ?_ GE663.out | refine below_set ?_ GE671.out) | exact HB.out)⟩
                        (try clear HO662)
                        (try clear HO670)
                        (try clear HO675)
                        (try clear BK663)
                        (try clear BK671)
                        (try clear HB)
                        generalize (w53.setCell ⟨go22, (t664 : Int).toNat, none⟩ (.int .i64 t677)) = w55 at n0_ n1_ n2_ n3_ n4_ n5_ ⊢
                        have HO662 := n0_
                        have HO670 := n1_
                        have HO675 := n2_
                        have BK663 := n3_
                        have BK671 := n4_
                        have HB := n5_
                        clear n0_ n1_ n2_ n3_ n4_ n5_
                        have hnb56 := NB663_671.out
                        have hnc56 := NB671_663.out
                        have hcz57_0 : w55.cell? ⟨gb663, 0, none⟩ = some (.int .i64 t659) := (blk_cell BK663.out 0).trans rfl
                        have hcz57_1 : w55.cell? ⟨gb663, 1, none⟩ = some (.slice Ao36 t660.length co36) := (blk_cell BK663.out 1).trans rfl
                        have hfz57_0 := blk_frozen BK663.out 0
                        have hfz57_1 := blk_frozen BK663.out 1
                        try go_wp2_with (first | ((with_reducible refine gate_callee (f := 21) rfl ?_); refine goesL_ (some 55) rfl rfl Tryd.func21 (by kernel_rfl) rfl #[.agg #[.int .i64 t659, .slice Ao36 t660.length co36]] rfl (by (try simp only [List.map_toArray, List.map_cons, List.map_nil]); first | done | rfl | (simp only [List.length_drop, List.length_take]; rfl)) ?_; (with_reducible refine (isa_Encode.calls k t659 _ _ t660 t679 t682 _ ?side1 ?side2 ?side3 A23.out).mono ?_); (case side1 => exact LaidW.below hLaid_ (by repeat (first | (with_reducible first | exact HB.out | apply below_alloc | apply pw_below_drewN | apply below_drew1 | refine below_set ?_ GE663.out | refine below_set ?_ GE671.out) | exact HB.out))); (case side2 => repeat (first | exact (Kd.R_reads' HO662.out).2.2 | (with_reducible refine Kd.C_alloc ?_ _) | (with_reducible refine Kd.C_drewN ?_ _) | (with_reducible refine Kd.C_drew ?_))); (case side3 => exact (Kd.R_reads' HO662.out).2.1); rintro e w58 ⟨v680, rfl, ho0, hb⟩; refine ⟨_, rfl, ?_⟩; have n0_ := Aside0.mk (Kd.R_below (by (with_reducible repeat (first | apply Kd.R_alloc | apply Kd.R_drewN | apply Kd.R_drew)); exact HO662.out) hb); have n1_ := Aside0.mk (Kd.R_below (by (with_reducible repeat (first | apply Kd.R_alloc | apply Kd.R_drewN | apply Kd.R_drew)); exact HO670.out) hb); have n2_ := Aside0.mk (Kd.R_below (by (with_reducible repeat (first | apply Kd.R_alloc | apply Kd.R_drewN | apply Kd.R_drew)); exact HO675.out) hb); have n3_ := Aside0.mk (Kd.R_lower ho0 (below_size (by repeat (first | (with_reducible first | exact HB.out | apply below_alloc | apply pw_below_drewN | apply below_drew1 | refine below_set ?_ GE663.out | refine below_set ?_ GE671.out) | exact HB.out)))); have n4_ := Aside0.mk (blk_below (g := gb663) (o := .cells #[.int .i64 t659, .slice Ao36 t660.length co36] 28 (0, 0)) (by (with_reducible repeat (first | refine blk_drewN ?_ _ | refine blk_drew ?_ | refine blk_alloc ?_ _)); exact BK663.out) hb); have n5_ := Aside0.mk (blk_below (g := gb671) (o := .cells #[.int .i64 t659, .slice (some ⟨go22, 0, none⟩) y668.length co45] 28 (0, 0)) (by (with_reducible repeat (first | refine blk_drewN ?_ _ | refine blk_drew ?_ | refine blk_alloc ?_ _)); exact BK671.out) hb); have n6_ := Aside0.mk (below_step (by repeat (first | (with_reducible first | exact HB.out | apply below_alloc | apply pw_below_drewN | apply below_drew1 | refine below_set ?_ GE663.out | refine below_set ?_ GE671.out) | exact HB.out)) hb); clear HO662; clear HO670; clear HO675; clear BK663; clear BK671; clear HB; have HO662 := n0_; have HO670 := n1_; have HO675 := n2_; have HO681 := n3_; have BK663 := n4_; have BK671 := n5_; have HB := n6_; clear n0_ n1_ n2_ n3_ n4_ n5_ n6_; (try clear hb); (try clear hb2); (try clear hk); (try clear hi); (try clear ho0); have hcz59_0 : w58.cell? ⟨gb671, 0, none⟩ = some (.int .i64 t659) := (blk_cell BK671.out 0).trans rfl; have hcz59_1 : w58.cell? ⟨gb671, 1, none⟩ = some (.slice (some ⟨go22, 0, none⟩) y668.length co45) := (blk_cell BK671.out 1).trans rfl; have hfz59_0 := blk_frozen BK671.out 0; have hfz59_1 := blk_frozen BK671.out 1) | ((with_reducible refine gate_callee (f := 21) rfl ?_); refine goesL_ (some 60) rfl rfl Tryd.func21 (by kernel_rfl) rfl #[.agg #[.int .i64 t659, .slice (some ⟨go22, 0, none⟩) y678.length co45]] rfl (by (try simp only [List.map_toArray, List.map_cons, List.map_nil]); first | done | (rw [show y678.length = y668.length from (Kd.R_reads' HO670.out).1.symm] <;> rfl) | rfl | (simp only [List.length_drop, List.length_take]; rfl)) ?_; (with_reducible refine (isa_Encode.calls k t659 _ _ y678 t683 t686 _ ?side1 ?side2 ?side3 A24.out).mono ?_); (case side1 => exact LaidW.below hLaid_ (by repeat (first | (with_reducible first | exact HB.out | apply below_alloc | apply pw_below_drewN | apply below_drew1 | refine below_set ?_ GE663.out | refine below_set ?_ GE671.out) | exact HB.out))); (case side2 => repeat (first | exact (Kd.R_reads' HO670.out).2.2 | (with_reducible refine Kd.C_alloc ?_ _) | (with_reducible refine Kd.C_drewN ?_ _) | (with_reducible refine Kd.C_drew ?_))); (case side3 => rw [show y678.length = y668.length from (Kd.R_reads' HO670.out).1.symm]; exact (Kd.R_reads' HO670.out).2.1); rintro e w60 ⟨v684, rfl, ho0, hb⟩; refine ⟨_, rfl, ?_⟩; have n0_ := Aside0.mk (Kd.R_below (by (with_reducible repeat (first | apply Kd.R_alloc | apply Kd.R_drewN | apply Kd.R_drew)); exact HO662.out) hb); have n1_ := Aside0.mk (Kd.R_below (by (with_reducible repeat (first | apply Kd.R_alloc | apply Kd.R_drewN | apply Kd.R_drew)); exact HO670.out) hb); have n2_ := Aside0.mk (Kd.R_below (by (with_reducible repeat (first | apply Kd.R_alloc | apply Kd.R_drewN | apply Kd.R_drew)); exact HO675.out) hb); have n3_ := Aside0.mk (Kd.R_elder' (by (with_reducible repeat (first | apply Kd.R_alloc | apply Kd.R_drewN | apply Kd.R_drew)); exact HO681.out) (Kd.R_base ho0) hb); have n4_ := Aside0.mk (Kd.R_lower (Kd.R_new' ho0 (Kd.R_lt (by (with_reducible repeat (first | apply Kd.R_alloc | apply Kd.R_drewN | apply Kd.R_drew)); exact HO681.out))) (below_size (by repeat (first | (with_reducible first | exact HB.out | apply below_alloc | apply pw_below_drewN | apply below_drew1 | refine below_set ?_ GE663.out | refine below_set ?_ GE671.out) | exact HB.out)))); have n5_ := Aside0.mk (blk_below (g := gb663) (o := .cells #[.int .i64 t659, .slice Ao36 t660.length co36] 28 (0, 0)) (by (with_reducible repeat (first | refine blk_drewN ?_ _ | refine blk_drew ?_ | refine blk_alloc ?_ _)); exact BK663.out) hb); have n6_ := Aside0.mk (blk_below (g := gb671) (o := .cells #[.int .i64 t659, .slice (some ⟨go22, 0, none⟩) y668.length co45] 28 (0, 0)) (by (with_reducible repeat (first | refine blk_drewN ?_ _ | refine blk_drew ?_ | refine blk_alloc ?_ _)); exact BK671.out) hb); have n7_ := Aside0.mk (below_step (by repeat (first | (with_reducible first | exact HB.out | apply below_alloc | apply pw_below_drewN | apply below_drew1 | refine below_set ?_ GE663.out | refine below_set ?_ GE671.out) | exact HB.out)) hb); clear HO662; clear HO670; clear HO675; clear HO681; clear BK663; clear BK671; clear HB; have HO662 := n0_; have HO670 := n1_; have HO675 := n2_; have HO681 := n3_; have HO685 := n4_; have BK663 := n5_; have BK671 := n6_; have HB := n7_; clear n0_ n1_ n2_ n3_ n4_ n5_ n6_ n7_; (try clear hb); (try clear hb2); (try clear hk); (try clear hi); (try clear ho0); obtain ⟨Ao61, co61, eo61⟩ := Kd.R_slice HO685.out; subst eo61) | ((with_reducible refine gate_callee (f := 18) rfl ?_); refine goesL_ (some 65) rfl rfl Tryd.func18 (by kernel_rfl) rfl #[.slice Ao61 t683.length co61] rfl (by (try simp only [List.map_toArray, List.map_cons, List.map_nil]); first | done | rfl | (simp only [List.length_drop, List.length_take]; rfl)) ?_; (with_reducible refine (isa_Decode.calls k _ _ t683 t687 t688 t691 true _ ?side1 ?side2 ?side3 A25.out).mono ?_); (case side1 => exact LaidW.below hLaid_ (by repeat (first | (with_reducible first | exact HB.out | apply below_alloc | apply pw_below_drewN | apply below_drew1 | refine below_set ?_ GE663.out | refine below_set ?_ GE671.out) | exact HB.out))); (case side2 => repeat (first | exact (Kd.R_reads' HO685.out).2.2 | (with_reducible refine Kd.C_alloc ?_ _) | (with_reducible refine Kd.C_drewN ?_ _) | (with_reducible refine Kd.C_drew ?_))); (case side3 => exact (Kd.R_reads' HO685.out).2.1); rintro e w62 ⟨v689, rfl, ho0, hb⟩; refine ⟨_, rfl, ?_⟩; have n0_ := Aside0.mk (Kd.R_elder' (by (with_reducible repeat (first | apply Kd.R_alloc | apply Kd.R_drewN | apply Kd.R_drew)); exact HO662.out) (Kd.R_base ho0) hb); have n1_ := Aside0.mk (Kd.R_elder' (by (with_reducible repeat (first | apply Kd.R_alloc | apply Kd.R_drewN | apply Kd.R_drew)); exact HO670.out) (Kd.R_base ho0) hb); have n2_ := Aside0.mk (Kd.R_below (by (with_reducible repeat (first | apply Kd.R_alloc | apply Kd.R_drewN | apply Kd.R_drew)); exact HO675.out) hb); have n3_ := Aside0.mk (Kd.R_below (by (with_reducible repeat (first | apply Kd.R_alloc | apply Kd.R_drewN | apply Kd.R_drew)); exact HO681.out) hb); have n4_ := Aside0.mk (Kd.R_below (by (with_reducible repeat (first | apply Kd.R_alloc | apply Kd.R_drewN | apply Kd.R_drew)); exact HO685.out) hb); have n5_ := Aside0.mk (Kd.R_lower (Kd.R_new' (Kd.R_new' ho0 (Kd.R_lt (by (with_reducible repeat (first | apply Kd.R_alloc | apply Kd.R_drewN | apply Kd.R_drew)); exact HO662.out))) (Kd.R_lt (by (with_reducible repeat (first | apply Kd.R_alloc | apply Kd.R_drewN | apply Kd.R_drew)); exact HO670.out))) (below_size (by repeat (first | (with_reducible first | exact HB.out | apply below_alloc | apply pw_below_drewN | apply below_drew1 | refine below_set ?_ GE663.out | refine below_set ?_ GE671.out) | exact HB.out)))); have n6_ := Aside0.mk (blk_below (g := gb663) (o := .cells #[.int .i64 t659, .slice Ao36 t660.length co36] 28 (0, 0)) (by (with_reducible repeat (first | refine blk_drewN ?_ _ | refine blk_drew ?_ | refine blk_alloc ?_ _)); exact BK663.out) hb); have n7_ := Aside0.mk (blk_below (g := gb671) (o := .cells #[.int .i64 t659, .slice (some ⟨go22, 0, none⟩) y668.length co45] 28 (0, 0)) (by (with_reducible repeat (first | refine blk_drewN ?_ _ | refine blk_drew ?_ | refine blk_alloc ?_ _)); exact BK671.out) hb); have n8_ := Aside0.mk (below_step (by repeat (first | (with_reducible first | exact HB.out | apply below_alloc | apply pw_below_drewN | apply below_drew1 | refine below_set ?_ GE663.out | refine below_set ?_ GE671.out) | exact HB.out)) hb); clear HO662; clear HO670; clear HO675; clear HO681; clear HO685; clear BK663; clear BK671; clear HB; have HO662 := n0_; have HO670 := n1_; have HO675 := n2_; have HO681 := n3_; have HO685 := n4_; have HO690 := n5_; have BK663 := n6_; have BK671 := n7_; have HB := n8_; clear n0_ n1_ n2_ n3_ n4_ n5_ n6_ n7_ n8_; (try clear hb); (try clear hb2); (try clear hk); (try clear hi); (try clear ho0)) | ((with_reducible refine gate_dst (N := 16) rfl ?_); (try (refine gate_guard (by rfl) ?_; dsimp only)); refine box_event ?hg (N := 16) ?hd (cs := #[.int .i64 0, .slice none 0 0]) (t := 28) ?hr ?_; (case hd => rfl); (case hg => rfl); (case hr => first | (go_simp; done) | (go_simp; rfl)); intro gb693 hg w63 hbox hb; have n0_ := Aside0.mk (Kd.R_below (by (with_reducible repeat (first | apply Kd.R_alloc | apply Kd.R_drewN | apply Kd.R_drew)); exact HO662.out) hb); have n1_ := Aside0.mk (Kd.R_below (by (with_reducible repeat (first | apply Kd.R_alloc | apply Kd.R_drewN | apply Kd.R_drew)); exact HO670.out) hb); have n2_ := Aside0.mk (Kd.R_below (by (with_reducible repeat (first | apply Kd.R_alloc | apply Kd.R_drewN | apply Kd.R_drew)); exact HO675.out) hb); have n3_ := Aside0.mk (Kd.R_below (by (with_reducible repeat (first | apply Kd.R_alloc | apply Kd.R_drewN | apply Kd.R_drew)); exact HO681.out) hb); have n4_ := Aside0.mk (Kd.R_below (by (with_reducible repeat (first | apply Kd.R_alloc | apply Kd.R_drewN | apply Kd.R_drew)); exact HO685.out) hb); have n5_ := Aside0.mk (Kd.R_below (by (with_reducible repeat (first | apply Kd.R_alloc | apply Kd.R_drewN | apply Kd.R_drew)); exact HO690.out) hb); have n6_ := Aside0.mk (blk_below (g := gb663) (o := .cells #[.int .i64 t659, .slice Ao36 t660.length co36] 28 (0, 0)) (by (with_reducible repeat (first | refine blk_drewN ?_ _ | refine blk_drew ?_ | refine blk_alloc ?_ _)); exact BK663.out) hb); have n7_ := Aside0.mk (blk_below (g := gb671) (o := .cells #[.int .i64 t659, .slice (some ⟨go22, 0, none⟩) y668.length co45] 28 (0, 0)) (by (with_reducible repeat (first | refine blk_drewN ?_ _ | refine blk_drew ?_ | refine blk_alloc ?_ _)); exact BK671.out) hb); have n8_ := Aside0.mk (below_step (by repeat (first | (with_reducible first | exact HB.out | apply below_alloc | apply pw_below_drewN | apply below_drew1 | refine below_set ?_ GE663.out | refine below_set ?_ GE671.out) | exact HB.out)) hb); have n9_ := Aside0.mk (hbox); have n10_ := Aside0.mk ((by rw [hg]; exact (below_size (by repeat (first | (with_reducible first | exact HB.out | apply below_alloc | apply pw_below_drewN | apply below_drew1 | refine below_set ?_ GE663.out | refine below_set ?_ GE671.out) | exact HB.out))) : w.heap.size ≤ gb693)); have n11_ := Aside0.mk ((by rw [hg]; exact (below_size (by repeat (first | (with_reducible first | exact HB.out | apply below_alloc | apply pw_below_drewN | apply below_drew1 | refine below_set ?_ GE663.out | refine below_set ?_ GE671.out) | exact HB.out))) : w.heap.size ≤ gb693)); have n12_ := Aside0.mk ((by rw [hg]; exact Nat.ne_of_lt (blk_lt (g := gb663) (o := .cells #[.int .i64 t659, .slice Ao36 t660.length co36] 28 (0, 0)) (by (with_reducible repeat (first | refine blk_drewN ?_ _ | refine blk_drew ?_ | refine blk_alloc ?_ _)); exact BK663.out)) : gb663 ≠ gb693)); have n13_ := Aside0.mk ((by rw [hg]; exact Nat.ne_of_gt (blk_lt (g := gb663) (o := .cells #[.int .i64 t659, .slice Ao36 t660.length co36] 28 (0, 0)) (by (with_reducible repeat (first | refine blk_drewN ?_ _ | refine blk_drew ?_ | refine blk_alloc ?_ _)); exact BK663.out)) : gb693 ≠ gb663)); have n14_ := Aside0.mk ((by rw [hg]; exact Nat.ne_of_lt (blk_lt (g := gb671) (o := .cells #[.int .i64 t659, .slice (some ⟨go22, 0, none⟩) y668.length co45] 28 (0, 0)) (by (with_reducible repeat (first | refine blk_drewN ?_ _ | refine blk_drew ?_ | refine blk_alloc ?_ _)); exact BK671.out)) : gb671 ≠ gb693)); have n15_ := Aside0.mk ((by rw [hg]; exact Nat.ne_of_gt (blk_lt (g := gb671) (o := .cells #[.int .i64 t659, .slice (some ⟨go22, 0, none⟩) y668.length co45] 28 (0, 0)) (by (with_reducible repeat (first | refine blk_drewN ?_ _ | refine blk_drew ?_ | refine blk_alloc ?_ _)); exact BK671.out)) : gb693 ≠ gb671)); clear HO662; clear HO670; clear HO675; clear HO681; clear HO685; clear HO690; clear BK663; clear BK671; clear HB; have HO662 := n0_; have HO670 := n1_; have HO675 := n2_; have HO681 := n3_; have HO685 := n4_; have HO690 := n5_; have BK663 := n6_; have BK671 := n7_; have HB := n8_; have BK693 := n9_; have GW693 := n10_; have GE693 := n11_; have NB663_693 := n12_; have NB693_663 := n13_; have NB671_693 := n14_; have NB693_671 := n15_; clear n0_ n1_ n2_ n3_ n4_ n5_ n6_ n7_ n8_ n9_ n10_ n11_ n12_ n13_ n14_ n15_; clear hb hbox hg; have hnb64 := NB693_663.out; have hnc64 := NB663_693.out; have hnb65 := NB693_671.out; have hnc65 := NB671_693.out; have hcz66_0 : w63.cell? ⟨gb693, 0, none⟩ = some (.int .i64 0) := (blk_cell BK693.out 0).trans rfl; have hcz66_1 : w63.cell? ⟨gb693, 1, none⟩ = some (.slice none 0 0) := (blk_cell BK693.out 1).trans rfl; have hfz66_0 := blk_frozen BK693.out 0; have hfz66_1 := blk_frozen BK693.out 1; obtain ⟨Ao67, co67, eo67⟩ := Kd.R_slice HO690.out; subst eo67))
                        have n0_ : Aside0 (Kd.R (Kd.int .i64) 3 ((w63.setCell ⟨gb693, 0, none⟩ (.int .i64 t687)).setCell ⟨gb693, 1, none⟩ (.slice Ao67 t688.length co67)) w.heap.size (fun k_ => some k_ ≠ (.slice (some ⟨go22, 0, none⟩) y668.length co45 : Value).ownBlock ∧ some k_ ≠ (.slice Ao67 t688.length co67 : Value).ownBlock) (.slice Ao36 t660.length co36) t660) := ⟨by (with_reducible repeat (first | apply Kd.R_alloc | apply Kd.R_drewN | apply Kd.R_drew)); exact Kd.R_mono (Kd.R_far (p := ⟨gb693, 1, none⟩) (Kd.R_far (p := ⟨gb693, 0, none⟩) (Kd.R_types HO662.out BK693.out (by decide)) (fun _ hk => hk.2) (.int .i64 t687)) (fun _ hk => hk.2) (.slice Ao67 t688.length co67)) (fun _ hk => ⟨hk.1.1, hk.1.2⟩)⟩
                        have n1_ : Aside0 (Kd.R (Kd.int .i64) 3 ((w63.setCell ⟨gb693, 0, none⟩ (.int .i64 t687)).setCell ⟨gb693, 1, none⟩ (.slice Ao67 t688.length co67)) w.heap.size (fun k_ => some k_ ≠ (.slice Ao36 t660.length co36 : Value).ownBlock ∧ some k_ ≠ (.slice Ao67 t688.length co67 : Value).ownBlock) (.slice (some ⟨go22, 0, none⟩) y668.length co45) y678) := ⟨by (with_reducible repeat (first | apply Kd.R_alloc | apply Kd.R_drewN | apply Kd.R_drew)); exact Kd.R_mono (Kd.R_far (p := ⟨gb693, 1, none⟩) (Kd.R_far (p := ⟨gb693, 0, none⟩) (Kd.R_types HO670.out BK693.out (by decide)) (fun _ hk => hk.2) (.int .i64 t687)) (fun _ hk => hk.2) (.slice Ao67 t688.length co67)) (fun _ hk => ⟨hk.1.1, hk.1.2⟩)⟩
                        have n2_ : Aside0 (Kd.R Kd.string 9 ((w63.setCell ⟨gb693, 0, none⟩ (.int .i64 t687)).setCell ⟨gb693, 1, none⟩ (.slice Ao67 t688.length co67)) w.heap.size (fun _ => True) (.slice (some ad676) t673.length co52) t673) := ⟨by (with_reducible repeat (first | apply Kd.R_alloc | apply Kd.R_drewN | apply Kd.R_drew)); exact Kd.R_mono (Kd.R_far (p := ⟨gb693, 1, none⟩) (Kd.R_far (p := ⟨gb693, 0, none⟩) (Kd.R_types HO675.out BK693.out (by decide)) (fun _ hk => hk.2) (.int .i64 t687)) (fun _ hk => hk.2) (.slice Ao67 t688.length co67)) (fun _ hk => trivial)⟩
                        have n3_ : Aside0 (Kd.R (Kd.int .u8) 5 ((w63.setCell ⟨gb693, 0, none⟩ (.int .i64 t687)).setCell ⟨gb693, 1, none⟩ (.slice Ao67 t688.length co67)) w.heap.size (fun k_ => some k_ ≠ (.slice Ao61 t683.length co61 : Value).ownBlock) v680 t679) := ⟨by (with_reducible repeat (first | apply Kd.R_alloc | apply Kd.R_drewN | apply Kd.R_drew)); exact Kd.R_mono (Kd.R_far (p := ⟨gb693, 1, none⟩) (Kd.R_far (p := ⟨gb693, 0, none⟩) (Kd.R_types HO681.out BK693.out (by decide)) (fun _ hk => hk.2) (.int .i64 t687)) (fun _ hk => hk.2) (.slice Ao67 t688.length co67)) (fun _ hk => hk.1.2)⟩
                        have n4_ : Aside0 (Kd.R (Kd.int .u8) 5 ((w63.setCell ⟨gb693, 0, none⟩ (.int .i64 t687)).setCell ⟨gb693, 1, none⟩ (.slice Ao67 t688.length co67)) w.heap.size (fun k_ => some k_ ≠ (v680 : Value).ownBlock) (.slice Ao61 t683.length co61) t683) := ⟨by (with_reducible repeat (first | apply Kd.R_alloc | apply Kd.R_drewN | apply Kd.R_drew)); exact Kd.R_mono (Kd.R_far (p := ⟨gb693, 1, none⟩) (Kd.R_far (p := ⟨gb693, 0, none⟩) (Kd.R_types HO685.out BK693.out (by decide)) (fun _ hk => hk.2) (.int .i64 t687)) (fun _ hk => hk.2) (.slice Ao67 t688.length co67)) (fun _ hk => hk.1.2)⟩
                        have n5_ : Aside0 (Kd.R (Kd.int .i64) 3 ((w63.setCell ⟨gb693, 0, none⟩ (.int .i64 t687)).setCell ⟨gb693, 1, none⟩ (.slice Ao67 t688.length co67)) w.heap.size (fun k_ => some k_ ≠ (.slice Ao36 t660.length co36 : Value).ownBlock ∧ some k_ ≠ (.slice (some ⟨go22, 0, none⟩) y668.length co45 : Value).ownBlock) (.slice Ao67 t688.length co67) t688) := ⟨by (with_reducible repeat (first | apply Kd.R_alloc | apply Kd.R_drewN | apply Kd.R_drew)); exact Kd.R_mono (Kd.R_far (p := ⟨gb693, 1, none⟩) (Kd.R_far (p := ⟨gb693, 0, none⟩) (Kd.R_types HO690.out BK693.out (by decide)) (fun _ hk => hk.2) (.int .i64 t687)) (fun _ hk => hk.2) (.slice Ao67 t688.length co67)) (fun _ hk => ⟨hk.1.1.2, hk.1.2⟩)⟩
                        have n6_ : Aside0 (((w63.setCell ⟨gb693, 0, none⟩ (.int .i64 t687)).setCell ⟨gb693, 1, none⟩ (.slice Ao67 t688.length co67)).heap[gb663]? = some (.cells #[.int .i64 t659, .slice Ao36 t660.length co36] 28 (0, 0))) := ⟨by (with_reducible repeat (first | refine blk_drewN ?_ _ | refine blk_drew ?_ | refine blk_alloc ?_ _)); refine blk_far ?_ NB663_693.out _; (with_reducible repeat (first | refine blk_drewN ?_ _ | refine blk_drew ?_ | refine blk_alloc ?_ _)); refine blk_far ?_ NB663_693.out _; (with_reducible repeat (first | refine blk_drewN ?_ _ | refine blk_drew ?_ | refine blk_alloc ?_ _)); exact BK663.out⟩
                        have n7_ : Aside0 (((w63.setCell ⟨gb693, 0, none⟩ (.int .i64 t687)).setCell ⟨gb693, 1, none⟩ (.slice Ao67 t688.length co67)).heap[gb671]? = some (.cells #[.int .i64 t659, .slice (some ⟨go22, 0, none⟩) y668.length co45] 28 (0, 0))) := ⟨by (with_reducible repeat (first | refine blk_drewN ?_ _ | refine blk_drew ?_ | refine blk_alloc ?_ _)); refine blk_far ?_ NB671_693.out _; (with_reducible repeat (first | refine blk_drewN ?_ _ | refine blk_drew ?_ | refine blk_alloc ?_ _)); refine blk_far ?_ NB671_693.out _; (with_reducible repeat (first | refine blk_drewN ?_ _ | refine blk_drew ?_ | refine blk_alloc ?_ _)); exact BK671.out⟩
                        have n8_ : Aside0 (((w63.setCell ⟨gb693, 0, none⟩ (.int .i64 t687)).setCell ⟨gb693, 1, none⟩ (.slice Ao67 t688.length co67)).heap[gb693]? = some (.cells #[.int .i64 t687, .slice Ao67 t688.length co67] 28 (0, 0))) := ⟨by (with_reducible repeat (first | refine blk_drewN ?_ _ | refine blk_drew ?_ | refine blk_alloc ?_ _)); refine blk_put (cs := #[.int .i64 t687, .slice none 0 0]) ?_ 1 _ rfl; (with_reducible repeat (first | refine blk_drewN ?_ _ | refine blk_drew ?_ | refine blk_alloc ?_ _)); refine blk_put (cs := #[.int .i64 0, .slice none 0 0]) ?_ 0 _ rfl; (with_reducible repeat (first | refine blk_drewN ?_ _ | refine blk_drew ?_ | refine blk_alloc ?_ _)); exact BK693.out⟩
                        have n9_ : Aside0 (Below w.heap.size w ((w63.setCell ⟨gb693, 0, none⟩ (.int .i64 t687)).setCell ⟨gb693, 1, none⟩ (.slice Ao67 t688.length co67))) := ⟨by repeat (first | (with_reducible first | exact HB.out | apply below_alloc | apply pw_below_drewN | apply below_drew1 | refine below_set ?_ GE663.out | refine below_set ?_ GE671.out | refine below_set ?_ GE693.out) | exact HB.out)⟩
                        (try clear HO662)
                        (try clear HO670)
                        (try clear HO675)
                        (try clear HO681)
                        (try clear HO685)
                        (try clear HO690)
                        (try clear BK663)
                        (try clear BK671)
                        (try clear BK693)
                        (try clear HB)
                        generalize ((w63.setCell ⟨gb693, 0, none⟩ (.int .i64 t687)).setCell ⟨gb693, 1, none⟩ (.slice Ao67 t688.length co67)) = w68 at n0_ n1_ n2_ n3_ n4_ n5_ n6_ n7_ n8_ n9_ ⊢
                        have HO662 := n0_
                        have HO670 := n1_
                        have HO675 := n2_
                        have HO681 := n3_
                        have HO685 := n4_
                        have HO690 := n5_
                        have BK663 := n6_
                        have BK671 := n7_
                        have BK693 := n8_
                        have HB := n9_
                        clear n0_ n1_ n2_ n3_ n4_ n5_ n6_ n7_ n8_ n9_
                        have n0_ := Aside0.mk (Kd.R_drew HO662.out)
                        have n1_ := Aside0.mk (Kd.R_drew HO670.out)
                        have n2_ := Aside0.mk (Kd.R_drew HO675.out)
                        have n3_ := Aside0.mk (Kd.R_drew HO681.out)
                        have n4_ := Aside0.mk (Kd.R_drew HO685.out)
                        have n5_ := Aside0.mk (Kd.R_drew HO690.out)
                        have n6_ := Aside0.mk (blk_drew BK663.out)
                        have n7_ := Aside0.mk (blk_drew BK671.out)
                        have n8_ := Aside0.mk (blk_drew BK693.out)
                        have n9_ := Aside0.mk (below_drew1 HB.out)
                        clear HO662
                        clear HO670
                        clear HO675
                        clear HO681
                        clear HO685
                        clear HO690
                        clear BK663
                        clear BK671
                        clear BK693
                        clear HB
                        have HO662 := n0_
                        have HO670 := n1_
                        have HO675 := n2_
                        have HO681 := n3_
                        have HO685 := n4_
                        have HO690 := n5_
                        have BK663 := n6_
                        have BK671 := n7_
                        have BK693 := n8_
                        have HB := n9_
                        clear n0_ n1_ n2_ n3_ n4_ n5_ n6_ n7_ n8_ n9_
                        obtain ⟨Ao70, co70, eo70⟩ := Kd.R_slice HO681.out
                        (first | subst eo70 | (injection eo70 with f1_ f2_ f3_; have f4_ := f1_.symm; have f5_ := f3_.symm; clear f1_ f2_ f3_; subst f4_; subst f5_))
                        have p695 : 0 ≤ (t664 : Int) := of_decide_eq_true (by first | (with_reducible assumption) | assumption)
                        have q695 : t664 < (t660.length : Int) := of_decide_eq_true (by first | (with_reducible assumption) | assumption)
                        obtain ⟨ad695, e695, hx695_0⟩ := Kd.at_int (Kd.R_reads' HO662.out).2.2 t664 p695 q695
                        cases e695
                        replace p695 := eq_true p695
                        replace q695 := eq_true q695
                        have p696 : 0 ≤ (t664 : Int) := of_decide_eq_true (by first | (with_reducible assumption) | assumption)
                        have q696 : t664 < (y678.length : Int) := (by have h_ : (t664 : Int) < ((y668.length : Int) : Int) := of_decide_eq_true (by first | (with_reducible assumption) | assumption); first | (have e_ := (Kd.R_reads' HO670.out).1; omega) | simpa only [Ny678.out, List.length_set] using h_)
                        have ql696 : ((t664 : Int) < ((y668.length : Int) : Int)) = True := eq_true (of_decide_eq_true (by first | (with_reducible assumption) | assumption))
                        obtain ⟨ad696, e696, hx696_0⟩ := Kd.at_int (Kd.R_reads' HO670.out).2.2 t664 p696 q696
                        obtain rfl : (⟨go22, 0, none⟩ : Addr) = ad696 := (by injection e696)
                        (first | simp only [add_plain] at hx696_0 | simp only [add_at] at hx696_0 | simp only [Addr.add, Nat.zero_add] at hx696_0 | skip)
                        replace p696 := eq_true p696
                        replace q696 := eq_true q696
                        refine start_ (n := 39) (S := fun w' => w'.cell? ⟨gb693, 0, none⟩ = some (.int .i64 t687) ∧ w'.cell? ⟨gb693, 1, none⟩ = some (.slice Ao67 t688.length co67) ∧ w'.cell? ⟨gb671, 0, none⟩ = some (.int .i64 t659) ∧ w'.cell? ⟨gb671, 1, none⟩ = some (.slice (some ⟨go22, 0, none⟩) y668.length co45) ∧ w'.cell? ⟨gb663, 0, none⟩ = some (.int .i64 t659) ∧ w'.cell? ⟨gb663, 1, none⟩ = some (.slice (some ad695) t660.length co36) ∧ w'.cell? (ad695.add (t664).toNat) = some (.int .i64 (rd t660 t664)) ∧ w'.cell? ⟨go22, (t664).toNat, none⟩ = some (.int .i64 (rd y678 t664)) ∧ (convert 22 9 (.slice Ao70 t679.length co70)).run Tryd.prog w' = .ok (.string (strOfNums t679)) w' ∧ (convert 22 9 (.slice Ao61 t683.length co61)).run Tryd.prog w' = .ok (.string (strOfNums t683)) w') (ds := []) #[false, false, false, false, false, false, false, false, false, false, false, false, false, false, false, false, false, false, false, false, false, false, false, false, false, false, false, false, false, false, false, false, false, false, false, false, false, false, false] (by kernel_rfl) rfl rfl ⟨(blk_cell BK693.out 0).trans rfl, (blk_cell BK693.out 1).trans rfl, (blk_cell BK671.out 0).trans rfl, (blk_cell BK671.out 1).trans rfl, (blk_cell BK663.out 0).trans rfl, (blk_cell BK663.out 1).trans rfl, hx695_0, hx696_0, own_string (P := Tryd.prog) Tryd.underlying22 Tryd.underlying5 Tryd.underlying9 (Kd.own_of_R HO681.out), own_string (P := Tryd.prog) Tryd.underlying22 Tryd.underlying5 Tryd.underlying9 (Kd.own_of_R HO685.out)⟩ (fun hHeld => ?_); refine with_tabW letterpresslaw2_IsaBits.tab12 letterpresslaw2_IsaBits.bits12 (fun HT_ HW_ => ?_)
                        generalize w68.drew = w69 at HO662 HO670 HO675 HO681 HO685 HO690 BK663 BK671 BK693 HB hx695_0 hx696_0 hHeld ⊢
                        refine pure_ (i := 0) (N := some 69) (v := ?_) (a' := ?_) #[true, false, false, false, false, false, false, false, false, false, false, false, false, false, false, false, false, false, false, false, false, false, false, false, false, false, false, false, false, false, false, false, false, false, false, false, false, false, false] rfl rfl (any_of HT_.out (by kernel_rfl)) (fun _ _ _ h => h) (Or.inl ⟨by rfl, ?_⟩) ?_ ?_
                        rotate_left
                        · intro w'
                          go_simp
                          with_reducible rfl
                        rotate_left
                        · simp only [Act.put, List.setIfInBounds_toArray, List.set_cons_zero, List.set_cons_succ, i64_w, i32_w]
                          rfl
                        refine pure_ (i := 1) (N := some 70) (v := ?_) (a' := ?_) #[true, true, false, false, false, false, false, false, false, false, false, false, false, false, false, false, false, false, false, false, false, false, false, false, false, false, false, false, false, false, false, false, false, false, false, false, false, false, false] rfl rfl (any_of HT_.out (by kernel_rfl)) (fun _ _ _ h => h) (Or.inl ⟨by rfl, ?_⟩) ?_ ?_
                        rotate_left
                        · intro w'
                          go_simp
                          with_reducible rfl
                        rotate_left
                        · simp only [Act.put, List.setIfInBounds_toArray, List.set_cons_zero, List.set_cons_succ, i64_w, i32_w]
                          rfl
                        refine pure_ (i := 2) (N := some 71) (v := ?_) (a' := ?_) #[true, true, true, false, false, false, false, false, false, false, false, false, false, false, false, false, false, false, false, false, false, false, false, false, false, false, false, false, false, false, false, false, false, false, false, false, false, false, false] rfl rfl (any_of HT_.out (by kernel_rfl)) (fun _ _ _ h => h) (Or.inl ⟨by rfl, ?_⟩) ?_ ?_
                        rotate_left
                        · intro w'
                          go_simp
                          with_reducible rfl
                        rotate_left
                        · simp only [Act.put, List.setIfInBounds_toArray, List.set_cons_zero, List.set_cons_succ, i64_w, i32_w]
                          rfl
                        refine pure_ (i := 3) (N := some 72) (v := ?_) (a' := ?_) #[true, true, true, true, false, false, false, false, false, false, false, false, false, false, false, false, false, false, false, false, false, false, false, false, false, false, false, false, false, false, false, false, false, false, false, false, false, false, false] rfl rfl (any_of HT_.out (by kernel_rfl)) (fun _ _ _ h => h) (Or.inl ⟨by rfl, ?_⟩) ?_ ?_
                        rotate_left
                        · intro w'
                          go_simp
                          with_reducible rfl
                        rotate_left
                        · simp only [Act.put, List.setIfInBounds_toArray, List.set_cons_zero, List.set_cons_succ, i64_w, i32_w]
                          rfl
                        refine pure_ (i := 4) (N := some 73) (v := ?_) (a' := ?_) #[true, true, true, true, true, false, false, false, false, false, false, false, false, false, false, false, false, false, false, false, false, false, false, false, false, false, false, false, false, false, false, false, false, false, false, false, false, false, false] rfl rfl (any_of HT_.out (by kernel_rfl)) (fun _ _ _ h => h) (Or.inl ⟨by rfl, ?_⟩) ?_ ?_
                        rotate_left
                        · intro w'
                          go_simp
                          with_reducible rfl
                        rotate_left
                        · simp only [Act.put, List.setIfInBounds_toArray, List.set_cons_zero, List.set_cons_succ, i64_w, i32_w]
                          rfl
                        refine pure_ (i := 5) (N := some 74) (v := ?_) (a' := ?_) #[true, true, true, true, true, true, false, false, false, false, false, false, false, false, false, false, false, false, false, false, false, false, false, false, false, false, false, false, false, false, false, false, false, false, false, false, false, false, false] rfl rfl (any_of HT_.out (by kernel_rfl)) (fun _ _ _ h => h) (Or.inl ⟨by rfl, ?_⟩) ?_ ?_
                        rotate_left
                        · intro w'
                          go_simp
                          with_reducible rfl
                        rotate_left
                        · simp only [Act.put, List.setIfInBounds_toArray, List.set_cons_zero, List.set_cons_succ, i64_w, i32_w]
                          rfl
                        refine pure_ (i := 6) (N := some 75) (v := ?_) (a' := ?_) #[true, true, true, true, true, true, true, false, false, false, false, false, false, false, false, false, false, false, false, false, false, false, false, false, false, false, false, false, false, false, false, false, false, false, false, false, false, false, false] rfl rfl (any_of HT_.out (by kernel_rfl)) (fun _ _ _ h => h) (Or.inl ⟨by rfl, ?_⟩) ?_ ?_
                        rotate_left
                        · intro w'
                          go_simp
                          with_reducible rfl
                        rotate_left
                        · simp only [Act.put, List.setIfInBounds_toArray, List.set_cons_zero, List.set_cons_succ, i64_w, i32_w]
                          rfl
                        refine pure_ (i := 7) (N := some 76) (v := ?_) (a' := ?_) #[true, true, true, true, true, true, true, true, false, false, false, false, false, false, false, false, false, false, false, false, false, false, false, false, false, false, false, false, false, false, false, false, false, false, false, false, false, false, false] rfl rfl (any_of HT_.out (by kernel_rfl)) (fun _ _ _ h => h) (Or.inl ⟨by rfl, ?_⟩) ?_ ?_
                        rotate_left
                        · intro w'
                          go_simp
                          with_reducible rfl
                        rotate_left
                        · simp only [Act.put, List.setIfInBounds_toArray, List.set_cons_zero, List.set_cons_succ, i64_w, i32_w]
                          rfl
                        refine pure_ (i := 8) (N := some 77) (v := ?_) (a' := ?_) #[true, true, true, true, true, true, true, true, true, false, false, false, false, false, false, false, false, false, false, false, false, false, false, false, false, false, false, false, false, false, false, false, false, false, false, false, false, false, false] rfl rfl (any_of HT_.out (by kernel_rfl)) (fun _ _ _ h => h) (Or.inl ⟨by rfl, ?_⟩) ?_ ?_
                        rotate_left
                        · intro w'
                          go_simp
                          with_reducible rfl
                        rotate_left
                        · simp only [Act.put, List.setIfInBounds_toArray, List.set_cons_zero, List.set_cons_succ, i64_w, i32_w]
                          rfl
                        refine pure_ (i := 9) (N := some 78) (v := ?_) (a' := ?_) #[true, true, true, true, true, true, true, true, true, true, false, false, false, false, false, false, false, false, false, false, false, false, false, false, false, false, false, false, false, false, false, false, false, false, false, false, false, false, false] rfl rfl (any_of HT_.out (by kernel_rfl)) (fun _ _ _ h => h) (Or.inl ⟨by rfl, ?_⟩) ?_ ?_
                        rotate_left
                        · intro w'
                          go_simp
                          with_reducible rfl
                        rotate_left
                        · simp only [Act.put, List.setIfInBounds_toArray, List.set_cons_zero, List.set_cons_succ, i64_w, i32_w]
                          rfl
                        refine pure_ (i := 10) (N := some 79) (v := ?_) (a' := ?_) #[true, true, true, true, true, true, true, true, true, true, true, false, false, false, false, false, false, false, false, false, false, false, false, false, false, false, false, false, false, false, false, false, false, false, false, false, false, false, false] rfl rfl (any_of HT_.out (by kernel_rfl)) (fun _ _ _ h => h) (Or.inl ⟨by rfl, ?_⟩) ?_ ?_
                        rotate_left
                        · intro w'
                          go_simp
                          with_reducible rfl
                        rotate_left
                        · simp only [Act.put, List.setIfInBounds_toArray, List.set_cons_zero, List.set_cons_succ, i64_w, i32_w]
                          rfl
                        refine pure_ (i := 11) (N := some 80) (v := ?_) (a' := ?_) #[true, true, true, true, true, true, true, true, true, true, true, true, false, false, false, false, false, false, false, false, false, false, false, false, false, false, false, false, false, false, false, false, false, false, false, false, false, false, false] rfl rfl (any_of HT_.out (by kernel_rfl)) (fun _ _ _ h => h) (Or.inl ⟨by rfl, ?_⟩) ?_ ?_
                        rotate_left
                        · intro w'
                          go_simp
                          with_reducible rfl
                        rotate_left
                        · simp only [Act.put, List.setIfInBounds_toArray, List.set_cons_zero, List.set_cons_succ, i64_w, i32_w]
                          rfl
                        refine pure_ (i := 12) (N := some 81) (v := ?_) (a' := ?_) #[true, true, true, true, true, true, true, true, true, true, true, true, true, false, false, false, false, false, false, false, false, false, false, false, false, false, false, false, false, false, false, false, false, false, false, false, false, false, false] rfl rfl (any_of HT_.out (by kernel_rfl)) (fun _ _ _ h => h) (Or.inl ⟨by rfl, ?_⟩) ?_ ?_
                        rotate_left
                        · intro w'
                          go_simp
                          with_reducible rfl
                        rotate_left
                        · simp only [Act.put, List.setIfInBounds_toArray, List.set_cons_zero, List.set_cons_succ, i64_w, i32_w]
                          rfl
                        refine pure_ (i := 13) (N := some 82) (v := ?_) (a' := ?_) #[true, true, true, true, true, true, true, true, true, true, true, true, true, true, false, false, false, false, false, false, false, false, false, false, false, false, false, false, false, false, false, false, false, false, false, false, false, false, false] rfl rfl (any_of HT_.out (by kernel_rfl)) (fun _ _ _ h => h) (Or.inl ⟨by rfl, ?_⟩) ?_ ?_
                        rotate_left
                        · intro w'
                          go_simp
                          with_reducible rfl
                        rotate_left
                        · simp only [Act.put, List.setIfInBounds_toArray, List.set_cons_zero, List.set_cons_succ, i64_w, i32_w]
                          rfl
                        refine pure_ (i := 14) (N := some 83) (v := ?_) (a' := ?_) #[true, true, true, true, true, true, true, true, true, true, true, true, true, true, true, false, false, false, false, false, false, false, false, false, false, false, false, false, false, false, false, false, false, false, false, false, false, false, false] rfl rfl (any_of HT_.out (by kernel_rfl)) (fun _ _ _ h => h) (Or.inl ⟨by rfl, ?_⟩) ?_ ?_
                        rotate_left
                        · intro w'
                          go_simp
                          with_reducible rfl
                        rotate_left
                        · simp only [Act.put, List.setIfInBounds_toArray, List.set_cons_zero, List.set_cons_succ, i64_w, i32_w]
                          rfl
                        refine take_ (i := 15) (N := some 84) (v := ?_) (a' := ?_) #[true, true, true, true, true, true, true, true, true, true, true, true, true, true, true, true, false, false, false, false, false, false, false, false, false, false, false, false, false, false, false, false, false, false, false, false, false, false, false] rfl rfl (take_ofW HT_.out HW_.out (by kernel_rfl)) (fun _ _ _ h => h) (Or.inl ⟨by rfl, ?_⟩) hHeld ?_ ?_
                        rotate_left
                        · rintro w' ⟨s0, s1, s2, s3, s4, s5, s6, s7, s8, s9⟩
                          go_simp
                          with_reducible rfl
                        rotate_left
                        · simp only [Act.put, List.setIfInBounds_toArray, List.set_cons_zero, List.set_cons_succ, i64_w, i32_w]
                          rfl
                        refine take_ (i := 16) (N := some 85) (v := ?_) (a' := ?_) #[true, true, true, true, true, true, true, true, true, true, true, true, true, true, true, true, true, false, false, false, false, false, false, false, false, false, false, false, false, false, false, false, false, false, false, false, false, false, false] rfl rfl (take_ofW HT_.out HW_.out (by kernel_rfl)) (fun _ _ _ h => h) (Or.inl ⟨by rfl, ?_⟩) hHeld ?_ ?_
                        rotate_left
                        · rintro w' ⟨s0, s1, s2, s3, s4, s5, s6, s7, s8, s9⟩
                          go_simp
                          with_reducible rfl
                        rotate_left
                        · simp only [Act.put, List.setIfInBounds_toArray, List.set_cons_zero, List.set_cons_succ, i64_w, i32_w]
                          rfl
                        refine one_ (i := 17) (N := some 86) #[true, true, true, true, true, true, true, true, true, true, true, true, true, true, true, true, true, true, false, false, false, false, false, false, false, false, false, false, false, false, false, false, false, false, false, false, false, false, false] rfl rfl (one_of HT_.out (by kernel_rfl)) (by decide) (fun K hK => ?_)
                        refine goes_ Tryd.func20 (by kernel_rfl) rfl #[.agg #[.int .i64 t687, .slice Ao67 t688.length co67], .agg #[.int .i64 t659, .slice (some ⟨go22, 0, none⟩) y678.length co45]] (by rfl) rfl rfl (by (try simp only [List.map_toArray, List.map_cons, List.map_nil]); first | done | (rw [show y678.length = y668.length from (Kd.R_reads' HO670.out).1.symm] <;> rfl) | rfl | (simp only [List.length_drop, List.length_take]; rfl)) ?_
                        with_reducible refine (letterpressref2_Same.calls k t687 _ _ t688 t659 _ _ y678 true _ ?side1 ?side2 ?side3 ?side4 A29.out).mono ?_
                        (case side1 => repeat (first | exact (Kd.R_reads' HO690.out).2.2 | (with_reducible refine Kd.C_alloc ?_ _) | (with_reducible refine Kd.C_drewN ?_ _) | (with_reducible refine Kd.C_drew ?_)))
                        (case side2 => exact (Kd.R_reads' HO690.out).2.1)
                        (case side3 => repeat (first | exact (Kd.R_reads' HO670.out).2.2 | (with_reducible refine Kd.C_alloc ?_ _) | (with_reducible refine Kd.C_drewN ?_ _) | (with_reducible refine Kd.C_drew ?_)))
                        (case side4 => rw [show y678.length = y668.length from (Kd.R_reads' HO670.out).1.symm]; exact (Kd.R_reads' HO670.out).2.1)
                        rintro e w71 ⟨rfl, hb⟩
                        have HS6_ := (hb.cell (World.block_lt_of_cell? _ _ (hHeld.2.2.2.2.2.2.1))).trans (hHeld.2.2.2.2.2.2.1)
                        have HS7_ := (hb.cell (World.block_lt_of_cell? _ _ (hHeld.2.2.2.2.2.2.2.1))).trans (hHeld.2.2.2.2.2.2.2.1)
                        refine ⟨_, rfl, ?_⟩
                        have n0_ := Aside0.mk (Kd.R_below (by (with_reducible repeat (first | apply Kd.R_alloc | apply Kd.R_drewN | apply Kd.R_drew)); exact HO662.out) hb)
                        have n1_ := Aside0.mk (Kd.R_below (by (with_reducible repeat (first | apply Kd.R_alloc | apply Kd.R_drewN | apply Kd.R_drew)); exact HO670.out) hb)
                        have n2_ := Aside0.mk (Kd.R_below (by (with_reducible repeat (first | apply Kd.R_alloc | apply Kd.R_drewN | apply Kd.R_drew)); exact HO675.out) hb)
                        have n3_ := Aside0.mk (Kd.R_below (by (with_reducible repeat (first | apply Kd.R_alloc | apply Kd.R_drewN | apply Kd.R_drew)); exact HO681.out) hb)
                        have n4_ := Aside0.mk (Kd.R_below (by (with_reducible repeat (first | apply Kd.R_alloc | apply Kd.R_drewN | apply Kd.R_drew)); exact HO685.out) hb)
                        have n5_ := Aside0.mk (Kd.R_below (by (with_reducible repeat (first | apply Kd.R_alloc | apply Kd.R_drewN | apply Kd.R_drew)); exact HO690.out) hb)
                        have n6_ := Aside0.mk (blk_below (g := gb663) (o := .cells #[.int .i64 t659, .slice (some ad695) t660.length co36] 28 (0, 0)) (by (with_reducible repeat (first | refine blk_drewN ?_ _ | refine blk_drew ?_ | refine blk_alloc ?_ _)); exact BK663.out) hb)
                        have n7_ := Aside0.mk (blk_below (g := gb671) (o := .cells #[.int .i64 t659, .slice (some ⟨go22, 0, none⟩) y668.length co45] 28 (0, 0)) (by (with_reducible repeat (first | refine blk_drewN ?_ _ | refine blk_drew ?_ | refine blk_alloc ?_ _)); exact BK671.out) hb)
                        have n8_ := Aside0.mk (blk_below (g := gb693) (o := .cells #[.int .i64 t687, .slice Ao67 t688.length co67] 28 (0, 0)) (by (with_reducible repeat (first | refine blk_drewN ?_ _ | refine blk_drew ?_ | refine blk_alloc ?_ _)); exact BK693.out) hb)
                        have n9_ := Aside0.mk (below_step (by repeat (first | (with_reducible first | exact HB.out | apply below_alloc | apply pw_below_drewN | apply below_drew1 | refine below_set ?_ GE663.out | refine below_set ?_ GE671.out | refine below_set ?_ GE693.out) | exact HB.out)) hb)
                        clear HO662
                        clear HO670
                        clear HO675
                        clear HO681
                        clear HO685
                        clear HO690
                        clear BK663
                        clear BK671
                        clear BK693
                        clear HB
                        have HO662 := n0_
                        have HO670 := n1_
                        have HO675 := n2_
                        have HO681 := n3_
                        have HO685 := n4_
                        have HO690 := n5_
                        have BK663 := n6_
                        have BK671 := n7_
                        have BK693 := n8_
                        have HB := n9_
                        clear n0_ n1_ n2_ n3_ n4_ n5_ n6_ n7_ n8_ n9_
                        (try clear hb)
                        (try clear hb2)
                        (try clear hk)
                        (try clear hi)
                        have hcv72 := own_string (P := Tryd.prog) Tryd.underlying22 Tryd.underlying5 Tryd.underlying9 (Kd.own_of_R HO681.out)
                        have hcv73 := own_string (P := Tryd.prog) Tryd.underlying22 Tryd.underlying5 Tryd.underlying9 (Kd.own_of_R HO685.out)
                        refine hK.out _ _ ⟨(blk_cell BK693.out 0).trans rfl, (blk_cell BK693.out 1).trans rfl, (blk_cell BK671.out 0).trans rfl, (blk_cell BK671.out 1).trans rfl, (blk_cell BK663.out 0).trans rfl, (blk_cell BK663.out 1).trans rfl, HS6_, HS7_, hcv72, hcv73⟩ (fun hHeld => ?_)
                        clear hK K
                        refine norm_ (a' := ?_) ?_ ?_
                        rotate_left
                        · show Act.put _ (some 86) _ = _
                          simp only [Act.put, List.setIfInBounds_toArray, List.set_cons_zero, List.set_cons_succ, i64_w, i32_w]
                          rfl
                        refine pure_ (i := 18) (N := some 87) (v := ?_) (a' := ?_) #[true, true, true, true, true, true, true, true, true, true, true, true, true, true, true, true, true, true, true, false, false, false, false, false, false, false, false, false, false, false, false, false, false, false, false, false, false, false, false] rfl rfl (any_of HT_.out (by kernel_rfl)) (fun _ _ _ h => h) (Or.inl ⟨by rfl, ?_⟩) ?_ ?_
                        rotate_left
                        · intro w'
                          go_simp
                          with_reducible rfl
                        rotate_left
                        · simp only [Act.put, List.setIfInBounds_toArray, List.set_cons_zero, List.set_cons_succ, i64_w, i32_w]
                          rfl
                        refine pure_ (i := 19) (N := some 88) (v := ?_) (a' := ?_) #[true, true, true, true, true, true, true, true, true, true, true, true, true, true, true, true, true, true, true, true, false, false, false, false, false, false, false, false, false, false, false, false, false, false, false, false, false, false, false] rfl rfl (any_of HT_.out (by kernel_rfl)) (fun _ _ _ h => h) (Or.inl ⟨by rfl, ?_⟩) ?_ ?_
                        rotate_left
                        · intro w'
                          go_simp
                          with_reducible rfl
                        rotate_left
                        · simp only [Act.put, List.setIfInBounds_toArray, List.set_cons_zero, List.set_cons_succ, i64_w, i32_w]
                          rfl
                        refine pure_ (i := 20) (N := some 89) (v := ?_) (a' := ?_) #[true, true, true, true, true, true, true, true, true, true, true, true, true, true, true, true, true, true, true, true, true, false, false, false, false, false, false, false, false, false, false, false, false, false, false, false, false, false, false] rfl rfl (any_of HT_.out (by kernel_rfl)) (fun _ _ _ h => h) (Or.inl ⟨by rfl, ?_⟩) ?_ ?_
                        rotate_left
                        · intro w'
                          go_simp
                          with_reducible rfl
                        rotate_left
                        · simp only [Act.put, List.setIfInBounds_toArray, List.set_cons_zero, List.set_cons_succ, i64_w, i32_w]
                          rfl
                        refine take_ (i := 21) (N := some 90) (v := ?_) (a' := ?_) #[true, true, true, true, true, true, true, true, true, true, true, true, true, true, true, true, true, true, true, true, true, true, false, false, false, false, false, false, false, false, false, false, false, false, false, false, false, false, false] rfl rfl (take_ofW HT_.out HW_.out (by kernel_rfl)) (fun _ _ _ h => h) (Or.inl ⟨by rfl, ?_⟩) hHeld ?_ ?_
                        rotate_left
                        · rintro w' ⟨s0, s1, s2, s3, s4, s5, s6, s7, s8, s9⟩
                          go_simp
                          with_reducible rfl
                        rotate_left
                        · simp only [Act.put, List.setIfInBounds_toArray, List.set_cons_zero, List.set_cons_succ, i64_w, i32_w]
                          rfl
                        refine pure_ (i := 22) (N := some 91) (v := ?_) (a' := ?_) #[true, true, true, true, true, true, true, true, true, true, true, true, true, true, true, true, true, true, true, true, true, true, true, false, false, false, false, false, false, false, false, false, false, false, false, false, false, false, false] rfl rfl (any_of HT_.out (by kernel_rfl)) (fun _ _ _ h => h) (Or.inl ⟨by rfl, ?_⟩) ?_ ?_
                        rotate_left
                        · intro w'
                          go_simp
                          with_reducible rfl
                        rotate_left
                        · simp only [Act.put, List.setIfInBounds_toArray, List.set_cons_zero, List.set_cons_succ, i64_w, i32_w]
                          rfl
                        refine take_ (i := 23) (N := some 92) (v := ?_) (a' := ?_) #[true, true, true, true, true, true, true, true, true, true, true, true, true, true, true, true, true, true, true, true, true, true, true, true, false, false, false, false, false, false, false, false, false, false, false, false, false, false, false] rfl rfl (take_ofW HT_.out HW_.out (by kernel_rfl)) (fun _ _ _ h => h) (Or.inl ⟨by rfl, ?_⟩) hHeld ?_ ?_
                        rotate_left
                        · rintro w' ⟨s0, s1, s2, s3, s4, s5, s6, s7, s8, s9⟩
                          go_simp
                          with_reducible rfl
                        rotate_left
                        · simp only [Act.put, List.setIfInBounds_toArray, List.set_cons_zero, List.set_cons_succ, i64_w, i32_w]
                          rfl
                        refine pure_ (i := 24) (N := some 93) (v := ?_) (a' := ?_) #[true, true, true, true, true, true, true, true, true, true, true, true, true, true, true, true, true, true, true, true, true, true, true, true, true, false, false, false, false, false, false, false, false, false, false, false, false, false, false] rfl rfl (any_of HT_.out (by kernel_rfl)) (fun _ _ _ h => h) (Or.inl ⟨by rfl, ?_⟩) ?_ ?_
                        rotate_left
                        · intro w'
                          go_simp
                          with_reducible rfl
                        rotate_left
                        · simp only [Act.put, List.setIfInBounds_toArray, List.set_cons_zero, List.set_cons_succ, i64_w, i32_w]
                          rfl
                        refine pure_ (i := 25) (N := some 94) (v := ?_) (a' := ?_) #[true, true, true, true, true, true, true, true, true, true, true, true, true, true, true, true, true, true, true, true, true, true, true, true, true, true, false, false, false, false, false, false, false, false, false, false, false, false, false] rfl rfl (any_of HT_.out (by kernel_rfl)) (fun _ _ _ h => h) (Or.inl ⟨by rfl, ?_⟩) ?_ ?_
                        rotate_left
                        · intro w'
                          go_simp
                          with_reducible rfl
                        rotate_left
                        · simp only [Act.put, List.setIfInBounds_toArray, List.set_cons_zero, List.set_cons_succ, i64_w, i32_w]
                          rfl
                        refine pure_ (i := 27) (N := some 96) (v := ?_) (a' := ?_) #[true, true, true, true, true, true, true, true, true, true, true, true, true, true, true, true, true, true, true, true, true, true, true, true, true, true, false, true, false, false, false, false, false, false, false, false, false, false, false] rfl rfl (any_of HT_.out (by kernel_rfl)) (fun _ _ _ h => h) (Or.inl ⟨by rfl, ?_⟩) ?_ ?_
                        rotate_left
                        · intro w'
                          go_simp
                          with_reducible rfl
                        rotate_left
                        · simp only [Act.put, List.setIfInBounds_toArray, List.set_cons_zero, List.set_cons_succ, i64_w, i32_w]
                          rfl
                        refine pure_ (i := 30) (N := some 99) (v := ?_) (a' := ?_) #[true, true, true, true, true, true, true, true, true, true, true, true, true, true, true, true, true, true, true, true, true, true, true, true, true, true, false, true, false, false, true, false, false, false, false, false, false, false, false] rfl rfl (any_of HT_.out (by kernel_rfl)) (fun _ _ _ h => h) (Or.inl ⟨by rfl, ?_⟩) ?_ ?_
                        rotate_left
                        · intro w'
                          go_simp
                          with_reducible rfl
                        rotate_left
                        · simp only [Act.put, List.setIfInBounds_toArray, List.set_cons_zero, List.set_cons_succ, i64_w, i32_w]
                          rfl
                        refine pure_ (i := 32) (N := some 101) (v := ?_) (a' := ?_) #[true, true, true, true, true, true, true, true, true, true, true, true, true, true, true, true, true, true, true, true, true, true, true, true, true, true, false, true, false, false, true, false, true, false, false, false, false, false, false] rfl rfl (any_of HT_.out (by kernel_rfl)) (fun _ _ _ h => h) (Or.inl ⟨by rfl, ?_⟩) ?_ ?_
                        rotate_left
                        · intro w'
                          go_simp
                          with_reducible rfl
                        rotate_left
                        · simp only [Act.put, List.setIfInBounds_toArray, List.set_cons_zero, List.set_cons_succ, i64_w, i32_w]
                          rfl
                        refine take_ (i := 26) (N := some 95) (v := ?_) (a' := ?_) #[true, true, true, true, true, true, true, true, true, true, true, true, true, true, true, true, true, true, true, true, true, true, true, true, true, true, true, true, false, false, true, false, true, false, false, false, false, false, false] rfl rfl (take_ofW HT_.out HW_.out (by kernel_rfl)) (fun _ _ _ h => h) (Or.inl ⟨by rfl, ?_⟩) hHeld ?_ ?_
                        rotate_left
                        · rintro w' ⟨s0, s1, s2, s3, s4, s5, s6, s7, s8, s9⟩
                          go_simp
                          with_reducible rfl
                        rotate_left
                        · simp only [Act.put, List.setIfInBounds_toArray, List.set_cons_zero, List.set_cons_succ, i64_w, i32_w]
                          rfl
                        refine pure_ (i := 28) (N := some 97) (v := ?_) (a' := ?_) #[true, true, true, true, true, true, true, true, true, true, true, true, true, true, true, true, true, true, true, true, true, true, true, true, true, true, true, true, true, false, true, false, true, false, false, false, false, false, false] rfl rfl (any_of HT_.out (by kernel_rfl)) (fun _ _ _ h => h) (Or.inl ⟨by rfl, ?_⟩) ?_ ?_
                        rotate_left
                        · intro w'
                          go_simp
                          with_reducible rfl
                        rotate_left
                        · simp only [Act.put, List.setIfInBounds_toArray, List.set_cons_zero, List.set_cons_succ, i64_w, i32_w]
                          rfl
                        refine take_ (i := 29) (N := some 98) (v := ?_) (a' := ?_) #[true, true, true, true, true, true, true, true, true, true, true, true, true, true, true, true, true, true, true, true, true, true, true, true, true, true, true, true, true, true, true, false, true, false, false, false, false, false, false] rfl rfl (take_ofW HT_.out HW_.out (by kernel_rfl)) (fun _ _ _ h => h) (Or.inl ⟨by rfl, ?_⟩) hHeld ?_ ?_
                        rotate_left
                        · rintro w' ⟨s0, s1, s2, s3, s4, s5, s6, s7, s8, s9⟩
                          go_simp
                          with_reducible rfl
                        rotate_left
                        · simp only [Act.put, List.setIfInBounds_toArray, List.set_cons_zero, List.set_cons_succ, i64_w, i32_w]
                          rfl
                        refine take_ (i := 31) (N := some 100) (v := ?_) (a' := ?_) #[true, true, true, true, true, true, true, true, true, true, true, true, true, true, true, true, true, true, true, true, true, true, true, true, true, true, true, true, true, true, true, true, true, false, false, false, false, false, false] rfl rfl (take_ofW HT_.out HW_.out (by kernel_rfl)) (fun _ _ _ h => h) (Or.inl ⟨by rfl, ?_⟩) hHeld ?_ ?_
                        rotate_left
                        · rintro w' ⟨s0, s1, s2, s3, s4, s5, s6, s7, s8, s9⟩
                          go_simp
                          with_reducible rfl
                        rotate_left
                        · simp only [Act.put, List.setIfInBounds_toArray, List.set_cons_zero, List.set_cons_succ, i64_w, i32_w]
                          rfl
                        refine pure_ (i := 33) (N := some 102) (v := ?_) (a' := ?_) #[true, true, true, true, true, true, true, true, true, true, true, true, true, true, true, true, true, true, true, true, true, true, true, true, true, true, true, true, true, true, true, true, true, true, false, false, false, false, false] rfl rfl (any_of HT_.out (by kernel_rfl)) (fun _ _ _ h => h) (Or.inl ⟨by rfl, ?_⟩) ?_ ?_
                        rotate_left
                        · intro w'
                          go_simp
                          with_reducible rfl
                        rotate_left
                        · simp only [Act.put, List.setIfInBounds_toArray, List.set_cons_zero, List.set_cons_succ, i64_w, i32_w]
                          rfl
                        refine take_ (i := 34) (N := some 103) (v := ?_) (a' := ?_) #[true, true, true, true, true, true, true, true, true, true, true, true, true, true, true, true, true, true, true, true, true, true, true, true, true, true, true, true, true, true, true, true, true, true, true, false, false, false, false] rfl rfl (take_ofW HT_.out HW_.out (by kernel_rfl)) (fun _ _ _ h => h) (Or.inl ⟨by rfl, ?_⟩) hHeld ?_ ?_
                        rotate_left
                        · rintro w' ⟨s0, s1, s2, s3, s4, s5, s6, s7, s8, s9⟩
                          go_simp
                          with_reducible rfl
                        rotate_left
                        · simp only [Act.put, List.setIfInBounds_toArray, List.set_cons_zero, List.set_cons_succ, i64_w, i32_w]
                          rfl
                        refine pure_ (i := 35) (N := some 104) (v := ?_) (a' := ?_) #[true, true, true, true, true, true, true, true, true, true, true, true, true, true, true, true, true, true, true, true, true, true, true, true, true, true, true, true, true, true, true, true, true, true, true, true, false, false, false] rfl rfl (any_of HT_.out (by kernel_rfl)) (fun _ _ _ h => h) (Or.inl ⟨by rfl, ?_⟩) ?_ ?_
                        rotate_left
                        · intro w'
                          go_simp
                          with_reducible rfl
                        rotate_left
                        · simp only [Act.put, List.setIfInBounds_toArray, List.set_cons_zero, List.set_cons_succ, i64_w, i32_w]
                          rfl
                        refine pure_ (i := 36) (N := some 105) (v := ?_) (a' := ?_) #[true, true, true, true, true, true, true, true, true, true, true, true, true, true, true, true, true, true, true, true, true, true, true, true, true, true, true, true, true, true, true, true, true, true, true, true, true, false, false] rfl rfl (any_of HT_.out (by kernel_rfl)) (fun _ _ _ h => h) (Or.inl ⟨by rfl, ?_⟩) ?_ ?_
                        rotate_left
                        · intro w'
                          go_simp
                          with_reducible rfl
                        rotate_left
                        · simp only [Act.put, List.setIfInBounds_toArray, List.set_cons_zero, List.set_cons_succ, i64_w, i32_w]
                          rfl
                        refine pure_ (i := 37) (N := some 106) (v := ?_) (a' := ?_) #[true, true, true, true, true, true, true, true, true, true, true, true, true, true, true, true, true, true, true, true, true, true, true, true, true, true, true, true, true, true, true, true, true, true, true, true, true, true, false] rfl rfl (any_of HT_.out (by kernel_rfl)) (fun _ _ _ h => h) (Or.inl ⟨by rfl, ?_⟩) ?_ ?_
                        rotate_left
                        · intro w'
                          go_simp
                          with_reducible rfl
                        rotate_left
                        · simp only [Act.put, List.setIfInBounds_toArray, List.set_cons_zero, List.set_cons_succ, i64_w, i32_w]
                          rfl
                        refine pure_ (i := 38) (N := some 8) (v := ?_) (a' := ?_) #[true, true, true, true, true, true, true, true, true, true, true, true, true, true, true, true, true, true, true, true, true, true, true, true, true, true, true, true, true, true, true, true, true, true, true, true, true, true, true] rfl rfl (any_of HT_.out (by kernel_rfl)) (fun _ _ _ h => h) (Or.inl ⟨by rfl, ?_⟩) ?_ ?_
                        rotate_left
                        · intro w'
                          go_simp
                          with_reducible rfl
                        rotate_left
                        · simp only [Act.put, List.setIfInBounds_toArray, List.set_cons_zero, List.set_cons_succ, i64_w, i32_w]
                          rfl
                        refine done_ (done_of HT_.out (by kernel_rfl)) ?_
                        try go_wp2
                        go_ret
                        exact ⟨by first | rfl | (simp [errW_none, errW_some] <;> rfl) | (simp [*, errW_none, errW_some] <;> rfl), by repeat (first | (with_reducible first | exact HB.out | apply below_alloc | apply pw_below_drewN | apply below_drew1 | refine below_set ?_ GE663.out | refine below_set ?_ GE671.out | refine below_set ?_ GE693.out) | exact HB.out)⟩
                      · rw [if_neg c31] at H
                        exact absurd H (by simp)
                    · replace c30 := Bool.eq_false_iff.mpr c30
                      subst c30
                      have H1 : (some false) = some r := by rw [if_neg (show ¬ (false = true) by decide)] at H; exact H
                      clear H
                      have H := H1
                      clear H1
                      subst hTrue_
                      exact absurd H (by simp)
                  · rw [if_neg c28] at H
                    have c28b0 : (t691 == (t683.length : Int)) = false := beq_eq_false_iff_ne.mpr c28
                    have c28b1 : (t691 != (t683.length : Int)) = true := bne_iff_ne.mpr c28
                    subst hTrue_
                    exact absurd H (by simp)
                · replace c27 := Bool.eq_false_iff.mpr c27
                  subst c27
                  have H1 : (some false) = some r := by rw [if_neg (show ¬ (false = true) by decide)] at H; exact H
                  clear H
                  have H := H1
                  clear H1
                  subst hTrue_
                  exact absurd H (by simp)
              · rw [if_neg c26] at H
                have c26b0 : ((t679.length : Int) == (t683.length : Int)) = false := beq_eq_false_iff_ne.mpr c26
                have c26b1 : ((t679.length : Int) != (t683.length : Int)) = true := bne_iff_ne.mpr c26
                have c26b2 : (t679.length == t683.length) = false := by first | simpa using c26 | (simp at c26 ⊢; omega)
                subst hTrue_
                exact absurd H (by simp)
            · rw [if_neg c21] at H
              exact absurd H (by simp)
          · rw [if_neg c19] at H
            exact absurd H (by simp)
        · rw [if_neg c18] at H
          exact absurd H (by simp)
      · rw [if_neg c15] at H
        exact absurd H (by simp)
  · replace c6 := Bool.eq_false_iff.mpr c6
    subst c6
    have H1 : (some false) = some r := by rw [if_neg (show ¬ (false = true) by decide)] at H; exact H
    clear H
    have H := H1
    clear H1
    subst hTrue_
    exact absurd H (by simp)
theorem letterpresslaw2_IsaBits.walk (P : letterpresslaw2_IsaBits.Pure) (a0 : Int) (a1 : Option Addr) (len1 cap1 : Nat) (z1 : List Int) (a2 : Int) (a3 : Int) (w : World) (hLaid_ : LaidW w) (w0 : (Lit.int .i64 a0).wf = true) (w1 : (a1 = none ∧ len1 = 0 ∧ cap1 = 0 ∧ z1 = []) ∨ ∃ x, a1 = some x ∧ len1 ≤ cap1 ∧ cap1 ≤ maxLen ∧ z1.length = cap1 ∧ (∀ i, i < z1.length → w.cell? (x.add i) = some (.int .i64 (z1.getD i 0))) ∧ ∀ n ∈ z1, (Lit.int .i64 n).wf = true) (y1 : len1 * 8 ≤ 140737488351232) (w2 : (Lit.int .i64 a2).wf = true) (w3 : (Lit.int .i64 a3).wf = true) :
    Calls Tryd.prog 7 #[.int .i64 a0, .slice a1 len1 cap1, .int .i64 a2, .int .i64 a3] w fun e w' => e = .returned (.bool true) ∧ Below w.heap.size w w' := by
  obtain ⟨l1, rfl, hr1, hm1, hw1, hc1⟩ := ReadsInt.ofRowC w1
  obtain ⟨k, h⟩ := P a0 l1 a2 a3 w0 hm1 y1 hw1 w2 w3
  refine (letterpresslaw2_IsaBits.calls k a0 _ _ l1 a2 a3 true w hLaid_ rfl (Kd.C_of_reads (d := (0 : Int)) (h1 := fun _ => rfl) hr1) hc1 h).mono ?_
  rintro e w' ⟨rfl, hd⟩
  exact ⟨rfl, hd⟩
end Go.Proofs.YticofbaajdgabaaDoor.X

namespace Go.PA
open Go.RowKit Go.Proofs.YticofbaajdgabaaDoorW.PrintMore Go.Proofs.YticofbaajdgabaaDoorW.PrintWords
theorem wrap_u64 (n : Int) : IntKind.u64.wrap n = n % 18446744073709551616 := by simp [IntKind.wrap, IntKind.bits, IntKind.signed]
theorem wrap64_id {n : Int} (h0 : -9223372036854775808 ≤ n) (h1 : n < 9223372036854775808) : wrap64 n = n := by unfold wrap64; omega
theorem i64_wrap (n : Int) : IntKind.i64.wrap n = wrap64 n := by rw [IntKind.wrap_i64]; unfold wrap64; rfl
/-- 'a & (2^j - 1)', of any int. -/
theorem and_mask (a : Int) (j : Nat) (hj : j ≤ 62) : bits .and .i64 a (2 ^ j - 1) = a % 2 ^ j := by
  have hp : (1 : Int) ≤ 2 ^ j := by have := Nat.two_pow_pos j; exact_mod_cast this
  have hlt : (2 : Nat) ^ j ≤ 2 ^ 62 := Nat.pow_le_pow_right (by decide) hj
  have hc : ((2 : Int) ^ j - 1) = ((2 ^ j - 1 : Nat) : Int) := by rw [Int.natCast_sub (Nat.two_pow_pos j)]; simp
  have hnn : 0 ≤ a % 2 ^ j := Int.emod_nonneg _ (by omega)
  have hl : a % 2 ^ j < 2 ^ j := Int.emod_lt_of_pos _ (by omega)
  have hm : ((2 ^ j - 1 : Nat)) % 2 ^ 64 = 2 ^ j - 1 := Nat.mod_eq_of_lt (by have := Nat.two_pow_pos j; omega)
  have h64 : (2 : Int) ^ j ∣ 2 ^ 64 := ⟨2 ^ (64 - j), by rw [← Int.pow_add, show j + (64 - j) = 64 by omega]⟩
  rw [show bits .and .i64 a (2 ^ j - 1) = IntKind.i64.wrap ((BitVec.ofInt 64 a &&& BitVec.ofInt 64 (2 ^ j - 1)).toNat : Int) from rfl]
  rw [hc, BitVec.ofInt_natCast, BitVec.toNat_and, BitVec.toNat_ofNat, hm, BitVec.toNat_ofInt, Nat.and_two_pow_sub_one_eq_mod, i64_wrap]
  have e : (((a % ((2 ^ 64 : Nat) : Int)).toNat % 2 ^ j : Nat) : Int) = a % 2 ^ j := by
    rw [Int.natCast_emod, Int.toNat_of_nonneg (Int.emod_nonneg _ (by decide))]
    rw [show (((2 : Nat) ^ j : Nat) : Int) = 2 ^ j by simp, show (((2 : Nat) ^ 64 : Nat) : Int) = 2 ^ 64 by decide]
    exact Int.emod_emod_of_dvd a h64
  rw [e]
  have : (2 : Int) ^ j ≤ 2 ^ 62 := by exact_mod_cast hlt
  exact wrap64_id (by omega) (by omega)
theorem and15 (a : Int) : bits .and .i64 a 15 = a % 16 := and_mask a 4 (by decide)
theorem and31 (a : Int) : bits .and .i64 a 31 = a % 32 := and_mask a 5 (by decide)
theorem and255 (a : Int) : bits .and .i64 a 255 = a % 256 := and_mask a 8 (by decide)
theorem and2047 (a : Int) : bits .and .i64 a 2047 = a % 2048 := and_mask a 11 (by decide)
theorem wraps_i64 (n : Int) (h0 : 0 ≤ n) (h1 : n < 2 ^ 62) : IntKind.i64.wrap n = n := by rw [i64_wrap]; exact wrap64_id (by omega) (by omega)
/-- 'x | y' where y lies below x's lowest bit. -/
theorem or_join (i : Nat) (x y : Int) (hx0 : 0 ≤ x) (hx : x % 2 ^ i = 0) (hx1 : x < 4611686018427387904) (hy0 : 0 ≤ y) (hy : y < 2 ^ i) (hy1 : y < 4611686018427387904) : bits .or .i64 x y = x + y :=
  bits_join .i64 62 (by decide) wraps_i64 i x y hx0 hx (by omega) hy0 hy (by omega)
/-- The number that the lowest bits of v are, with a sign; m = 2 ^ bits. -/
def sg (v m : Int) : Int := (v + m / 2) % m - m / 2
theorem sg_of (v h : Int) (hh : 0 < h) : sg v (2 * h) = if v % (2 * h) ≥ h then v % (2 * h) - 2 * h else v % (2 * h) := by
  have hr0 : 0 ≤ v % (2 * h) := Int.emod_nonneg _ (by omega)
  have hr1 : v % (2 * h) < 2 * h := Int.emod_lt_of_pos _ (by omega)
  have hd := Int.emod_add_mul_ediv v (2 * h)
  unfold sg
  rw [show 2 * h / 2 = h by omega]
  generalize v % (2 * h) = r at *
  generalize v / (2 * h) = q at *
  subst hd
  by_cases c : r ≥ h
  · rw [if_pos c, show r + 2 * h * q + h = (r + h - 2 * h) + 2 * h * (q + 1) by rw [Int.mul_add]; omega, Int.add_mul_emod_self_left, Int.emod_eq_of_lt (by omega) (by omega)]; omega
  · rw [if_neg c, show r + 2 * h * q + h = (r + h) + 2 * h * q by omega, Int.add_mul_emod_self_left, Int.emod_eq_of_lt (by omega) (by omega)]; omega
theorem pow_half (b : Nat) (hb : 1 ≤ b) : (2 : Int) ^ b = 2 * 2 ^ (b - 1) := by
  obtain ⟨c, rfl⟩ : ∃ c, b = c + 1 := ⟨b - 1, by omega⟩
  rw [Int.pow_succ]; simp; omega
theorem pow_pos (b : Nat) : (0 : Int) < 2 ^ b := Int.pow_pos (by decide)
theorem pow_le {a b : Nat} (h : a ≤ b) : (2 : Int) ^ a ≤ 2 ^ b := by exact_mod_cast Nat.pow_le_pow_right (n := 2) (by decide) h
/-- imm.Sign's own way. -/
theorem sg_shift (v : Int) (b : Nat) (h1 : 1 ≤ b) (h2 : b ≤ 64) : wrap64 (v * 2 ^ (64 - b)) / 2 ^ (64 - b) = sg v (2 ^ b) := by
  have hc : (0 : Int) < 2 ^ (64 - b) := pow_pos _
  have hm : (2 : Int) ^ (64 - b) * 2 ^ b = 18446744073709551616 := by rw [← Int.pow_add, show 64 - b + b = 64 by omega]; decide
  have hh : (2 : Int) ^ b / 2 = 2 ^ (b - 1) := by rw [pow_half b h1]; omega
  have hm2 : (2 : Int) ^ (64 - b) * 2 ^ (b - 1) = 9223372036854775808 := by rw [← Int.pow_add, show 64 - b + (b - 1) = 63 by omega]; decide
  unfold wrap64 sg
  rw [hh, ← hm2, ← hm]
  generalize (2 : Int) ^ (64 - b) = c at *
  generalize (2 : Int) ^ b = m at *
  generalize (2 : Int) ^ (b - 1) = h at *
  rw [Int.mul_comm v c, ← Int.mul_add, Int.mul_emod_mul_of_pos _ _ hc, ← Int.mul_sub, Int.mul_ediv_cancel_left _ (by omega)]
/-- More rounds tell the same. -/
theorem more {α : Type} {g : Nat → Option α} (hm : ∀ k, LeO (g k) (g (k + 1))) {k k' : Nat} (h : k ≤ k') {r : α} (e : g k = some r) : g k' = some r := by
  obtain ⟨d, rfl⟩ : ∃ d, k' = k + d := ⟨k' - k, by omega⟩
  clear h
  induction d with
  | zero => exact e
  | succ d ih => exact hm _ _ ih
end Go.PA

namespace Go.Proofs.YticofbaajdgabaaDoor.X
set_option linter.unusedVariables false
set_option linter.unusedSimpArgs false
open Go.RowKit Go.PA Go.Proofs.YticofbaajdgabaaDoorW.PrintWords Go.Proofs.YticofbaajdgabaaDoorW.PrintLast Go.Proofs.YticofbaajdgabaaDoorW.PrintMore
/-- A byte's place: f 255 or 0 elsewhere. -/
def bk (f s u i : Int) : Int := if i = s then u else 255 * f
def val4 (f s u : Int) : Int := bk f s u 3 * 16777216 + bk f s u 2 * 65536 + bk f s u 1 * 256 + bk f s u 0
def B (f s u : Int) : Int := sg (val4 f s u) 4294967296
theorem bk_in {f s u : Int} (i : Int) (hf : f = 0 ∨ f = 1) (hu : 0 ≤ u ∧ u < 256) : 0 ≤ bk f s u i ∧ bk f s u i < 256 := by
  unfold bk; split <;> omega
theorem sign_is (v : Int) (b : Nat) (h1 : 1 ≤ b) (h2 : b ≤ 64) : imm_Sign.f v b = some (sg v (2 ^ b)) := by
  unfold imm_Sign.f
  have e : (64 - mn (mx (b : Int) 1) 64).toNat = 64 - b := by unfold mn mx; repeat' split <;> omega
  rw [e, sg_shift v b h1 h2]
theorem sign_is' {v c : Int} {b : Nat} (hc : c = b) (h1 : 1 ≤ b) (h2 : b ≤ 64) : imm_Sign.f v c = some (sg v (2 ^ b)) := by subst hc; exact sign_is v b h1 h2
theorem back_is {f s u : Int} (hf : f = 0 ∨ f = 1) (hs : 0 ≤ s ∧ s < 4) (hu : 0 ≤ u ∧ u < 256) {k : Nat} (hk : 5 ≤ k) : imm_Back.f k f s u = some (B f s u) := by
  refine more (imm_Back.mono f s u) hk ?_
  have hb3 := bk_in (s := s) 3 hf hu
  have hb2 := bk_in (s := s) 2 hf hu
  have hb1 := bk_in (s := s) 1 hf hu
  have hb0 := bk_in (s := s) 0 hf hu
  have step : ∀ (k : Nat) (v i j : Int), i - 1 = j → 0 ≤ i → i < 4 → 0 ≤ v → v < 16777216 → imm_Back.l0 (k + 1) f s u v i = imm_Back.l0 k f s u (v * 256 + bk f s u i) j := by
    intro k v i j hj h0 h1 hv0 hv1
    subst hj
    have hbi := bk_in (s := s) i hf hu
    have e1 : wrap64 (v * 256) = v * 256 := wrap64_id (by omega) (by omega)
    have e2 : wrap64 (i - 1) = i - 1 := wrap64_id (by omega) (by omega)
    have e3 : Go.bits .and .i64 u 255 = u := by rw [and255]; omega
    have e4 : ∀ y, 0 ≤ y → y < 256 → Go.bits .or .i64 (v * 256) y = v * 256 + y := fun y hy0 hy1 => or_join 8 _ _ (by omega) (by omega) (by omega) hy0 (by omega) (by omega)
    simp only [imm_Back.l0]
    rw [if_pos h0, e1, e2, e3]
    unfold bk at hbi ⊢
    rcases hf with rfl | rfl
    · rw [if_neg (by decide)]
      by_cases c : i = s
      · rw [if_pos c, if_pos c, e4 u hu.1 hu.2]
      · rw [if_neg c, if_neg c, e4 0 (by decide) (by decide)]; simp
    · rw [if_pos rfl]
      by_cases c : i = s
      · rw [if_pos c, if_pos c, e4 u hu.1 hu.2]
      · rw [if_neg c, if_neg c, e4 255 (by decide) (by decide)]; simp
  unfold imm_Back.f
  rw [step 4 0 3 2 rfl (by omega) (by omega) (by omega) (by omega), step 3 _ 2 1 rfl (by omega) (by omega) (by omega) (by omega), step 2 _ 1 0 rfl (by omega) (by omega) (by omega) (by omega), step 1 _ 0 (-1) rfl (by omega) (by omega) (by omega) (by omega)]
  simp only [imm_Back.l0]
  rw [if_neg (by decide), sign_is' (c := 32) (b := 32) rfl (by decide) (by decide)]
  simp only [Option.bind_some, B, val4]
  congr 2
  omega
theorem rsign_is (v : Int) (b : Nat) (h1 : 1 ≤ b) (h2 : b ≤ 61) : letterpressref1_Sign.f v b = some (sg v (2 ^ b)) := by
  unfold letterpressref1_Sign.f
  have hp := pow_pos (b - 1)
  have hle : (2 : Int) ^ (b - 1) ≤ 2 ^ 60 := pow_le (by omega)
  have e0 : IntKind.u64.wrap (b : Int) = b := by rw [wrap_u64]; omega
  have e1 : shl .i64 1 (b : Int) = 2 ^ b := by
    unfold shl
    rw [show min ((b : Int).toNat) IntKind.i64.bits = b by simp [IntKind.bits]; omega, i64_wrap, Int.one_mul]
    have := pow_half b h1
    exact wrap64_id (by omega) (by omega)
  rw [e0, e1, if_pos (by omega)]
  have e2 : wrap64 ((2 : Int) ^ b - 1) = 2 ^ b - 1 := by have := pow_half b h1; exact wrap64_id (by omega) (by omega)
  have e3 : wrap64 (Int.tdiv ((2 : Int) ^ b) 2) = 2 ^ (b - 1) := by
    rw [pow_half b h1, Int.tdiv_eq_ediv_of_nonneg (by omega), show 2 * (2 : Int) ^ (b - 1) / 2 = 2 ^ (b - 1) by omega]
    exact wrap64_id (by omega) (by omega)
  rw [e2, e3, and_mask v b (by omega), pow_half b h1, sg_of v _ hp]
  have hr0 : 0 ≤ v % (2 * 2 ^ (b - 1)) := Int.emod_nonneg _ (by omega)
  have hr1 : v % (2 * 2 ^ (b - 1)) < 2 * 2 ^ (b - 1) := Int.emod_lt_of_pos _ (by omega)
  split
  · rw [wrap64_id (by omega) (by omega)]
  · rfl
theorem rsign_is' {v c : Int} {b : Nat} (hc : c = b) (h1 : 1 ≤ b) (h2 : b ≤ 61) : letterpressref1_Sign.f v c = some (sg v (2 ^ b)) := by subst hc; exact rsign_is v b h1 h2
theorem rback_is {f s u : Int} (hf : f = 0 ∨ f = 1) (hs : 0 ≤ s ∧ s < 4) (hu : 0 ≤ u ∧ u < 256) {k : Nat} (hk : 5 ≤ k) : letterpressref1_Back.f k f s u = some (B f s u) := by
  refine more (letterpressref1_Back.mono f s u) hk ?_
  have step : ∀ (k : Nat) (v i j : Int), i - 1 = j → 0 ≤ i → i < 4 → 0 ≤ v → v < 16777216 → letterpressref1_Back.l0 (k + 1) f s u v i = letterpressref1_Back.l0 k f s u (v * 256 + bk f s u i) j := by
    intro k v i j hj h0 h1 hv0 hv1
    subst hj
    have hbi := bk_in (s := s) i hf hu
    have e1 : wrap64 (v * 256) = v * 256 := wrap64_id (by omega) (by omega)
    have e2 : wrap64 (i - 1) = i - 1 := wrap64_id (by omega) (by omega)
    have e3 : wrap64 (255 * f) = 255 * f := wrap64_id (by omega) (by omega)
    have e4 : wrap64 (f * 255) = 255 * f := by rw [Int.mul_comm]; exact e3
    simp only [letterpressref1_Back.l0]
    rw [if_pos h0, e1, e2]
    unfold bk at hbi ⊢
    by_cases c : i = s
    · rw [if_pos c, if_pos c, wrap64_id (by omega) (by omega)]
    · rw [if_neg c, if_neg c]
      first | rw [e3] | rw [e4]
      rw [wrap64_id (by omega) (by omega)]
  have hb3 := bk_in (s := s) 3 hf hu
  have hb2 := bk_in (s := s) 2 hf hu
  have hb1 := bk_in (s := s) 1 hf hu
  have hb0 := bk_in (s := s) 0 hf hu
  unfold letterpressref1_Back.f
  rw [step 4 0 3 2 rfl (by omega) (by omega) (by omega) (by omega), step 3 _ 2 1 rfl (by omega) (by omega) (by omega) (by omega), step 2 _ 1 0 rfl (by omega) (by omega) (by omega) (by omega), step 1 _ 0 (-1) rfl (by omega) (by omega) (by omega) (by omega)]
  simp only [letterpressref1_Back.l0]
  rw [if_neg (by decide), rsign_is' (c := 32) (b := 32) rfl (by decide) (by decide)]
  simp only [Option.bind_some, B, val4]
  congr 2
  omega
/-- The byte of v that could stand at place s. -/
def u0 (v s : Int) : Int := v / 2 ^ (8 * s).toNat % 256
theorem u0_in (v s : Int) : 0 ≤ u0 v s ∧ u0 v s < 256 := by unfold u0; omega
theorem B_inj {f s u v : Int} (hf : f = 0 ∨ f = 1) (hs : 0 ≤ s ∧ s < 4) (hu : 0 ≤ u ∧ u < 256) (h : B f s u = v) : u = u0 v s := by
  have hs' : s = 0 ∨ s = 1 ∨ s = 2 ∨ s = 3 := by omega
  unfold B val4 bk sg at h
  unfold u0
  rcases hs' with rfl | rfl | rfl | rfl <;> rcases hf with rfl | rfl <;> simp at h ⊢ <;> omega
theorem B_wide {f s u : Int} : -2147483648 ≤ B f s u ∧ B f s u < 2147483648 := by unfold B sg; omega
/-- A byte for v by this way of standing; -1: none. -/
def fnd (v f s : Int) : Int := if B f s (u0 v s) = v then u0 v s else -1
theorem found_l (v : Int) {f s : Int} (hf : f = 0 ∨ f = 1) (hs : 0 ≤ s ∧ s < 4) : ∀ (d k : Nat) (x : Int), 0 ≤ x → x + d = 256 → d + 6 ≤ k →
    imm_found__imm_form_of.l0 k v x f s = some (if B f s (u0 v s) = v ∧ x ≤ u0 v s then u0 v s else -1) := by
  have hin := u0_in v s
  intro d
  induction d with
  | zero =>
    intro k x h0 hx hk
    obtain ⟨k, rfl⟩ : ∃ m, k = m + 1 := ⟨k - 1, by omega⟩
    simp only [imm_found__imm_form_of.l0]
    rw [if_neg (by omega), if_neg (by omega)]
  | succ d ih =>
    intro k x h0 hx hk
    obtain ⟨k, rfl⟩ : ∃ m, k = m + 1 := ⟨k - 1, by omega⟩
    simp only [imm_found__imm_form_of.l0, imm_form_of.f]
    rw [if_pos (by omega), back_is hf hs ⟨h0, by omega⟩ (by omega)]
    simp only [Option.bind_some]
    by_cases c : B f s x = v
    · have := B_inj hf hs ⟨h0, by omega⟩ c
      rw [if_pos c, ← this, if_pos ⟨c, Int.le_refl _⟩]
    · rw [if_neg c, wrap64_id (by omega) (by omega), ih k (x + 1) (by omega) (by omega) (by omega)]
      congr 1
      by_cases c2 : B f s (u0 v s) = v ∧ x + 1 ≤ u0 v s
      · rw [if_pos c2, if_pos ⟨c2.1, by omega⟩]
      · rw [if_neg c2, if_neg]
        rintro ⟨a, b⟩
        by_cases e : x = u0 v s
        · rw [← e] at a; exact c a
        · exact c2 ⟨a, by omega⟩
theorem found_is (v : Int) {f s : Int} (hf : f = 0 ∨ f = 1) (hs : 0 ≤ s ∧ s < 4) {k : Nat} (hk : 262 ≤ k) : imm_found__imm_form_of.f k v f s = some (fnd v f s) := by
  unfold imm_found__imm_form_of.f fnd
  rw [found_l v hf hs 256 k 0 (by decide) (by decide) (by omega)]
  have := u0_in v s
  congr 1
  by_cases c : B f s (u0 v s) = v
  · rw [if_pos ⟨c, this.1⟩, if_pos c]
  · rw [if_neg (fun h => c h.1), if_neg c]
/-- The ways, the first first. -/
def ways : List (Int × Int) := [(0, 0), (0, 1), (0, 2), (0, 3), (1, 0), (1, 1), (1, 2), (1, 3)]
def firstOf (v : Int) : List (Int × Int) → Int × Int × Int × Bool
  | [] => (0, 0, 0, false)
  | (f, s) :: l => if B f s (u0 v s) = v then (f, s, u0 v s, true) else firstOf v l
/-- What Sci8 tells. -/
def sci8 (v : Int) : Int × Int × Int × Bool := firstOf v ways
theorem sci8_is (v : Int) {k : Nat} (hk : 300 ≤ k) : imm_Sci8.f k v = some (sci8 v) := by
  refine more (imm_Sci8.mono v) hk ?_
  have step : ∀ (k : Nat) (i : Nat) (f s : Int) (rest : List (Int × Int)), 262 ≤ k → i < 8 → (f = 0 ∨ f = 1) → (0 ≤ s ∧ s < 4) →
      (rd_T110 [⟨0, 0⟩, ⟨0, 1⟩, ⟨0, 2⟩, ⟨0, 3⟩, ⟨1, 0⟩, ⟨1, 1⟩, ⟨1, 2⟩, ⟨1, 3⟩] (i : Int)).f0 = f → (rd_T110 [⟨0, 0⟩, ⟨0, 1⟩, ⟨0, 2⟩, ⟨0, 3⟩, ⟨1, 0⟩, ⟨1, 1⟩, ⟨1, 2⟩, ⟨1, 3⟩] (i : Int)).f1 = s →
      imm_Sci8.l0 k v [⟨0, 0⟩, ⟨0, 1⟩, ⟨0, 2⟩, ⟨0, 3⟩, ⟨1, 0⟩, ⟨1, 1⟩, ⟨1, 2⟩, ⟨1, 3⟩] 8 ((i : Int) + 1) = some (firstOf v rest) →
      imm_Sci8.l0 (k + 1) v [⟨0, 0⟩, ⟨0, 1⟩, ⟨0, 2⟩, ⟨0, 3⟩, ⟨1, 0⟩, ⟨1, 1⟩, ⟨1, 2⟩, ⟨1, 3⟩] 8 (i : Int) = some (firstOf v ((f, s) :: rest)) := by
    intro k i f s rest hk hi hf hs e1 e2 ih
    simp only [imm_Sci8.l0]
    rw [if_pos (by omega), if_pos (by omega), if_pos (by simp; omega), e1, e2, found_is v hf hs hk]
    simp only [Option.bind_some]
    have hin := u0_in v s
    unfold fnd
    simp only [firstOf]
    by_cases c : B f s (u0 v s) = v
    · rw [if_pos c, if_pos hin.1, if_pos c]
    · rw [if_neg c, if_neg (by decide), if_neg c, wrap64_id (by omega) (by omega), ih]
  have hend : ∀ k : Nat, imm_Sci8.l0 (k + 1) v [⟨0, 0⟩, ⟨0, 1⟩, ⟨0, 2⟩, ⟨0, 3⟩, ⟨1, 0⟩, ⟨1, 1⟩, ⟨1, 2⟩, ⟨1, 3⟩] 8 (((7 : Nat) : Int) + 1) = some (firstOf v []) := by
    intro k
    simp only [imm_Sci8.l0]
    rw [if_neg (by decide)]
    rfl
  unfold imm_Sci8.f imm_forms.f
  simp only [Option.bind_some]
  refine step 299 0 0 0 _ (by decide) (by decide) (.inl rfl) (by decide) rfl rfl ?_
  refine step 298 1 0 1 _ (by decide) (by decide) (.inl rfl) (by decide) rfl rfl ?_
  refine step 297 2 0 2 _ (by decide) (by decide) (.inl rfl) (by decide) rfl rfl ?_
  refine step 296 3 0 3 _ (by decide) (by decide) (.inl rfl) (by decide) rfl rfl ?_
  refine step 295 4 1 0 _ (by decide) (by decide) (.inr rfl) (by decide) rfl rfl ?_
  refine step 294 5 1 1 _ (by decide) (by decide) (.inr rfl) (by decide) rfl rfl ?_
  refine step 293 6 1 2 _ (by decide) (by decide) (.inr rfl) (by decide) rfl rfl ?_
  refine step 292 7 1 3 [] (by decide) (by decide) (.inr rfl) (by decide) rfl rfl ?_
  exact hend 291
theorem fits_is (v c : Int) (b : Nat) (hc : c = b) (h1 : 1 ≤ b) (h2 : b ≤ 41) : imm_Fits.f v c = some (decide (-(2 ^ (b - 1)) ≤ v ∧ v < 2 ^ (b - 1))) := by
  subst hc
  unfold imm_Fits.f
  rw [if_pos (by omega), if_pos (by omega), show ((b : Int) - 1).toNat = b - 1 by omega]
theorem joined_is {h m l : Int} (h0 : 0 ≤ h ∧ h < 16) (h1 : 0 ≤ m ∧ m < 32) (h2 : 0 ≤ l ∧ l < 2048) : imm_Joined.f h m l = some (sg (h * 65536 + m * 2048 + l) 1048576) := by
  unfold imm_Joined.f
  rw [wrap64_id (by omega) (by omega), wrap64_id (by omega) (by omega), or_join 16 (h * 65536) (m * 2048) (by omega) (by omega) (by omega) (by omega) (by omega) (by omega), or_join 11 (h * 65536 + m * 2048) l (by omega) (by omega) (by omega) (by omega) (by omega) (by omega), sign_is' (c := 20) (b := 20) rfl (by decide) (by decide)]
  rfl
end Go.Proofs.YticofbaajdgabaaDoor.X

namespace Go.Proofs.YticofbaajdgabaaDoor.X
set_option linter.unusedVariables false
set_option linter.unusedSimpArgs false
open Go.RowKit Go.PA Go.Proofs.YticofbaajdgabaaDoorW.PrintWords Go.Proofs.YticofbaajdgabaaDoorW.PrintLast Go.Proofs.YticofbaajdgabaaDoorW.PrintMore
/-- What Sci8 tells comes back. -/
theorem firstOf_back (v : Int) : ∀ l : List (Int × Int), (∀ p ∈ l, (p.1 = 0 ∨ p.1 = 1) ∧ 0 ≤ p.2 ∧ p.2 < 4) → (firstOf v l).2.2.2 = true →
    ((firstOf v l).1 = 0 ∨ (firstOf v l).1 = 1) ∧ (0 ≤ (firstOf v l).2.1 ∧ (firstOf v l).2.1 < 4) ∧ (0 ≤ (firstOf v l).2.2.1 ∧ (firstOf v l).2.2.1 < 256) ∧ B (firstOf v l).1 (firstOf v l).2.1 (firstOf v l).2.2.1 = v := by
  intro l
  induction l with
  | nil => intro _ h; cases h
  | cons p l ih =>
    intro hl h
    obtain ⟨f, s⟩ := p
    have hp := hl (f, s) (by simp)
    simp only [firstOf] at h ⊢
    by_cases c : B f s (u0 v s) = v
    · rw [if_pos c]
      exact ⟨hp.1, hp.2, u0_in v s, c⟩
    · rw [if_neg c] at h ⊢
      exact ih (fun p hp => hl p (by simp [hp])) h
theorem sci8_back (v : Int) (h : (sci8 v).2.2.2 = true) : ((sci8 v).1 = 0 ∨ (sci8 v).1 = 1) ∧ (0 ≤ (sci8 v).2.1 ∧ (sci8 v).2.1 < 4) ∧ (0 ≤ (sci8 v).2.2.1 ∧ (sci8 v).2.2.1 < 256) ∧ B (sci8 v).1 (sci8 v).2.1 (sci8 v).2.2.1 = v :=
  firstOf_back v ways (by decide) h
end Go.Proofs.YticofbaajdgabaaDoor.X

namespace Go.Proofs.YticofbaajdgabaaDoor.X
set_option linter.unusedVariables false
set_option linter.unusedSimpArgs false
open Go.RowKit Go.PA Go.Proofs.YticofbaajdgabaaDoorW.PrintWords Go.Proofs.YticofbaajdgabaaDoorW.PrintLast Go.Proofs.YticofbaajdgabaaDoorW.PrintMore
inductive Kn where
  | X | Y | U5 | U7 | O5 | M1 | M2 | M4 | O1 | I2 | T8 | D | A | B | S16 | L20 | C8 | O2 | I4 | T15 | T24
  deriving DecidableEq, Repr
def Kn.str : Kn → ByteArray
  | X => ⟨#[88]⟩ | Y => ⟨#[89]⟩ | U5 => ⟨#[85, 53]⟩ | U7 => ⟨#[85, 55]⟩ | O5 => ⟨#[79, 53]⟩ | M1 => ⟨#[77, 49]⟩ | M2 => ⟨#[77, 50]⟩ | M4 => ⟨#[77, 52]⟩ | O1 => ⟨#[79, 49]⟩ | I2 => ⟨#[73, 50]⟩ | T8 => ⟨#[84, 56]⟩
  | D => ⟨#[68]⟩ | A => ⟨#[65]⟩ | B => ⟨#[66]⟩ | S16 => ⟨#[83, 49, 54]⟩ | L20 => ⟨#[76, 50, 48]⟩ | C8 => ⟨#[67, 56]⟩ | O2 => ⟨#[79, 50]⟩ | I4 => ⟨#[73, 52]⟩ | T15 => ⟨#[84, 49, 53]⟩ | T24 => ⟨#[84, 50, 52]⟩
/-- What may be. -/
def Kn.ok : Kn → Int → Bool
  | X, v | Y, v => decide (0 ≤ v ∧ v ≤ 7 ∨ 24 ≤ v ∧ v ≤ 31)
  | U5, v | D, v | A, v | B, v => decide (0 ≤ v ∧ v < 32)
  | U7, v => decide (0 ≤ v ∧ v < 128)
  | O5, v => decide (1 ≤ v ∧ v < 33)
  | M1, v | I4, v => decide (0 ≤ v ∧ v < 16)
  | M2, v => decide (0 ≤ v ∧ v < 32 ∧ v % 2 = 0)
  | M4, v => decide (0 ≤ v ∧ v < 64 ∧ v % 4 = 0)
  | O1, v => decide (0 ≤ v ∧ v < 2)
  | I2, v | O2, v => decide (0 ≤ v ∧ v < 4)
  | T8, v => decide (v % 2 = 0 ∧ -256 ≤ v ∧ v < 256)
  | S16, v => decide (-32768 ≤ v ∧ v < 32768)
  | L20, v => decide (-524288 ≤ v ∧ v < 524288)
  | C8, v => (sci8 v).2.2.2
  | T15, v => decide (v % 2 = 0 ∧ -32768 ≤ v ∧ v < 32768)
  | T24, v => decide (v % 2 = 0 ∧ -16777216 ≤ v ∧ v < 16777216)
/-- Its bits. -/
def Kn.bit : Kn → Int → Int
  | X, v => v - v / 24 * 16
  | Y, v => (v - v / 24 * 16) * 16
  | U5, v | U7, v => v * 16
  | O5, v => (v - 1) * 16
  | M1, v | I2, v => v * 256
  | M2, v => v / 2 * 256
  | M4, v => v / 4 * 256
  | O1, v => v * 1024
  | T8, v => v / 2 % 256
  | D, v => v * 2097152
  | A, v | I4, v => v * 65536
  | B, v => v * 2048
  | S16, v | T15, v => v % 65536
  | T24, v => v % 33554432
  | O2, v => v * 1048576
  | L20, v => v / 65536 % 16 * 2048 + v / 2048 % 32 * 65536 + v % 2048
  | C8, v => (sci8 v).1 * 1024 + (sci8 v).2.1 * 256 + (sci8 v).2.2.1
/-- The operand that bits have. -/
def Kn.val : Kn → Int → Int
  | X, n => n % 16 + n % 16 / 8 * 16
  | Y, n => n / 16 % 16 + n / 16 % 16 / 8 * 16
  | U5, n => n / 16 % 32
  | U7, n => n / 16 % 128
  | O5, n => n / 16 % 32 + 1
  | M1, n => n / 256 % 16
  | M2, n => n / 256 % 16 * 2
  | M4, n => n / 256 % 16 * 4
  | O1, n => n / 1024 % 2
  | I2, n => n / 256 % 4
  | T8, n => 2 * sg n 256
  | D, n => n / 2097152 % 32
  | A, n => n / 65536 % 32
  | B, n => n / 2048 % 32
  | S16, n => sg n 65536
  | L20, n => sg (n / 2048 % 16 * 65536 + n / 65536 % 32 * 2048 + n % 2048) 1048576
  | C8, n => Go.Proofs.YticofbaajdgabaaDoor.X.B (n / 1024 % 2) (n / 256 % 4) (n % 256)
  | O2, n => n / 1048576 % 4
  | I4, n => n / 65536 % 16
  | T15, n => sg (n / 2 * 2) 65536
  | T24, n => sg (n / 2 * 2) 33554432
theorem l20_back (v : Int) (h : -524288 ≤ v ∧ v < 524288) (n : Int) (hn : n = v / 65536 % 16 * 2048 + v / 2048 % 32 * 65536 + v % 2048) :
    n / 2048 % 16 = v / 65536 % 16 ∧ n / 65536 % 32 = v / 2048 % 32 ∧ n % 2048 = v % 2048 := by
  have h0 : 0 ≤ v / 65536 % 16 ∧ v / 65536 % 16 < 16 := by omega
  have h1 : 0 ≤ v / 2048 % 32 ∧ v / 2048 % 32 < 32 := by omega
  have h2 : 0 ≤ v % 2048 ∧ v % 2048 < 2048 := by omega
  generalize v / 65536 % 16 = a at *
  generalize v / 2048 % 32 = b at *
  generalize v % 2048 = c at *
  omega
/-- What was put is got. -/
theorem Kn.val_bit (K : Kn) (v : Int) (h : K.ok v = true) : K.val (K.bit v) = v := by
  cases K
  case C8 =>
    obtain ⟨h1, h2, h3, h4⟩ := sci8_back v h
    simp only [Kn.val, Kn.bit]
    have e1 : ((sci8 v).1 * 1024 + (sci8 v).2.1 * 256 + (sci8 v).2.2.1) / 1024 % 2 = (sci8 v).1 := by omega
    have e2 : ((sci8 v).1 * 1024 + (sci8 v).2.1 * 256 + (sci8 v).2.2.1) / 256 % 4 = (sci8 v).2.1 := by omega
    have e3 : ((sci8 v).1 * 1024 + (sci8 v).2.1 * 256 + (sci8 v).2.2.1) % 256 = (sci8 v).2.2.1 := by omega
    rw [e1, e2, e3]; exact h4
  case L20 =>
    simp only [Kn.ok, decide_eq_true_eq] at h
    simp only [Kn.val, Kn.bit]
    obtain ⟨e1, e2, e3⟩ := l20_back v h _ rfl
    rw [e1, e2, e3]; unfold sg; omega
  all_goals
    simp only [Kn.ok, decide_eq_true_eq] at h
    simp only [Kn.val, Kn.bit, sg]
    omega
theorem shl_u32 {x : Int} {n : Int} {m : Nat} (hm : n = m) (h2 : m ≤ 31) : shl .u32 x n = x * 2 ^ m % 4294967296 := by
  subst hm
  unfold shl
  rw [show min ((m : Int).toNat) IntKind.u32.bits = m by simp [IntKind.bits]; omega, IntKind.wrap_u32]
theorem shl_i64 {x : Int} {n : Int} {m : Nat} (hm : n = m) (h2 : m ≤ 63) : shl .i64 x n = wrap64 (x * 2 ^ m) := by
  subst hm
  unfold shl
  rw [show min ((m : Int).toNat) IntKind.i64.bits = m by simp [IntKind.bits]; omega, i64_wrap]
theorem shr_u32 {x : Int} {n : Int} {m : Nat} (hm : n = m) (h2 : m ≤ 31) : shr .u32 x n = x / 2 ^ m := by
  subst hm
  unfold shr
  rw [show min ((m : Int).toNat) IntKind.u32.bits = m by simp [IntKind.bits]; omega]
theorem and_mask_u32 (a : Int) (j : Nat) (hj : j ≤ 31) (h0 : 0 ≤ a) (h1 : a < 4294967296) : Go.bits .and .u32 a (2 ^ j - 1) = a % 2 ^ j :=
  bits_mask .u32 32 (by decide) (fun n h0 h1 => by rw [IntKind.wrap_u32]; omega) j (by omega) a h0 (by omega)
/-- A plain field's way. -/
theorem plain_put {at_ bits less : Nat} {step v : Int} {ha bb ll : Int} (e1 : ha = at_) (e2 : bb = bits) (e3 : ll = less) (hs : step = 1 ∨ step = 2 ∨ step = 4) (hb : 1 ≤ bits ∧ bits ≤ 7) (hab : at_ + bits ≤ 26) (hl : less ≤ 1) (w0 : -9223372036854775808 ≤ v ∧ v < 9223372036854775808) :
    isa_plain_put.f ha bb step ll v = some (if (less : Int) ≤ v ∧ v - less < step * 2 ^ bits ∧ (v - less) % step = 0 then ((v - less) / step * 2 ^ at_, true) else (0, false)) := by
  subst e1 e2 e3
  have hp : (1 : Int) ≤ 2 ^ bits ∧ (2 : Int) ^ bits ≤ 128 := ⟨by have := pow_pos bits; omega, by have := pow_le (a := bits) (b := 7) (by omega); omega⟩
  have hq : (1 : Int) ≤ 2 ^ at_ := by have := pow_pos at_; omega
  have hpq : (2 : Int) ^ bits * 2 ^ at_ ≤ 67108864 := by rw [← Int.pow_add]; have := pow_le (a := bits + at_) (b := 26) (by omega); omega
  unfold isa_plain_put.f
  by_cases c1 : v < less
  · rw [if_pos c1, if_neg (by omega)]
  · rw [if_neg c1, if_pos (by omega), wrap64_id (n := v - less) (by omega) (by omega), shl_i64 rfl (by omega)]
    have es : wrap64 (step * 2 ^ bits) = step * 2 ^ bits := by
      rcases hs with rfl | rfl | rfl <;> exact wrap64_id (by omega) (by omega)
    rw [es]
    have hn : 0 ≤ v - less := by omega
    generalize v - less = u at *
    have et : Int.tmod u step = u % step := Int.tmod_eq_emod_of_nonneg hn
    have ed : Int.tdiv u step = u / step := Int.tdiv_eq_ediv_of_nonneg hn
    by_cases c2 : u ≥ step * 2 ^ bits
    · rw [if_pos c2, if_neg (by omega)]
    · rw [if_neg c2, if_neg (by omega), et, ed]
      by_cases c3 : u % step = 0
      · have hu : 0 ≤ u / step ∧ u / step < 2 ^ bits := by
          have hst : 0 < step := by omega
          exact ⟨Int.ediv_nonneg hn (by omega), Int.ediv_lt_of_lt_mul hst (by rw [Int.mul_comm]; omega)⟩
        rw [if_pos c3, if_pos (by omega), if_pos ⟨by omega, by omega, c3⟩, shl_u32 rfl (by omega), wrap64_id (by omega) (by omega)]
        have e4 : u / step % 4294967296 = u / step := Int.emod_eq_of_lt hu.1 (by omega)
        have hm : u / step * 2 ^ at_ < 2 ^ bits * 2 ^ at_ := Int.mul_lt_mul_of_pos_right hu.2 (by omega)
        have hm0 : 0 ≤ u / step * 2 ^ at_ := Int.mul_nonneg hu.1 (by omega)
        rw [e4, Int.emod_eq_of_lt hm0 (by omega)]
      · rw [if_neg c3, if_neg (fun h => c3 h.2.2)]
theorem plain_get {at_ bits less : Nat} {step n : Int} {ha bb ll : Int} (e1 : ha = at_) (e2 : bb = bits) (e3 : ll = less) (hs : step = 1 ∨ step = 2 ∨ step = 4) (hb : 1 ≤ bits ∧ bits ≤ 7) (hab : at_ + bits ≤ 26) (hl : less ≤ 1) (w0 : 0 ≤ n ∧ n < 4294967296) :
    isa_plain_get.f ha bb step ll n = some (n / 2 ^ at_ % 2 ^ bits * step + less) := by
  subst e1 e2 e3
  have hp : (1 : Int) ≤ 2 ^ bits ∧ (2 : Int) ^ bits ≤ 128 := ⟨by have := pow_pos bits; omega, by have := pow_le (a := bits) (b := 7) (by omega); omega⟩
  have hq : (0 : Int) < 2 ^ at_ := pow_pos at_
  unfold isa_plain_get.f
  rw [if_pos (by omega), if_pos (by omega), shr_u32 rfl (by omega), shl_u32 rfl (by omega), Int.one_mul]
  have e4 : ((2 : Int) ^ bits % 4294967296 - 1) % 4294967296 = 2 ^ bits - 1 := by omega
  have h5 : 0 ≤ n / 2 ^ at_ := Int.ediv_nonneg w0.1 (by omega)
  have h6 : n / 2 ^ at_ ≤ n := Int.ediv_le_self _ w0.1
  rw [e4, and_mask_u32 _ bits (by omega) h5 (by omega)]
  have h7 : 0 ≤ n / 2 ^ at_ % 2 ^ bits := Int.emod_nonneg _ (by omega)
  have h8 : n / 2 ^ at_ % 2 ^ bits < 2 ^ bits := Int.emod_lt_of_pos _ (by omega)
  generalize n / 2 ^ at_ % 2 ^ bits = u at *
  rw [wrap64_id (n := u) (by omega) (by omega)]
  rcases hs with rfl | rfl | rfl
  · rw [wrap64_id (n := u * 1) (by omega) (by omega), wrap64_id (n := u * 1 + less) (by omega) (by omega)]
  · rw [wrap64_id (n := u * 2) (by omega) (by omega), wrap64_id (n := u * 2 + less) (by omega) (by omega)]
  · rw [wrap64_id (n := u * 4) (by omega) (by omega), wrap64_id (n := u * 4 + less) (by omega) (by omega)]
theorem put_plain (K : Kn) (at_ bits less : Nat) (step v : Int) (hpl : isa_plains.f K.str = some ((at_ : Int), (bits : Int), step, (less : Int), true)) (hs : step = 1 ∨ step = 2 ∨ step = 4) (hb : 1 ≤ bits ∧ bits ≤ 7) (hab : at_ + bits ≤ 26) (hl : less ≤ 1)
    (hok : K.ok v = true ↔ ((less : Int) ≤ v ∧ v - less < step * 2 ^ bits ∧ (v - less) % step = 0)) (hbit : K.ok v = true → (v - less) / step * 2 ^ at_ = K.bit v) (w0 : -9223372036854775808 ≤ v ∧ v < 9223372036854775808) (k : Nat) :
    ∃ g, isa_put.f k K.str v = some (g, K.ok v) ∧ (K.ok v = true → g = K.bit v) := by
  unfold isa_put.f
  rw [hpl]
  simp only [Option.bind_some, if_true]
  rw [plain_put rfl rfl rfl hs hb hab hl w0]
  by_cases c : (less : Int) ≤ v ∧ v - less < step * 2 ^ bits ∧ (v - less) % step = 0
  · rw [if_pos c]
    exact ⟨_, by rw [hok.2 c]; rfl, hbit⟩
  · rw [if_neg c]
    have e : K.ok v = false := Bool.eq_false_iff.2 (fun h => c (hok.1 h))
    exact ⟨0, by rw [e]; rfl, fun h => by rw [e] at h; cases h⟩
theorem get_plain (K : Kn) (at_ bits less : Nat) (step n : Int) (hpl : isa_plains.f K.str = some ((at_ : Int), (bits : Int), step, (less : Int), true)) (hs : step = 1 ∨ step = 2 ∨ step = 4) (hb : 1 ≤ bits ∧ bits ≤ 7) (hab : at_ + bits ≤ 26) (hl : less ≤ 1)
    (hv : n / 2 ^ at_ % 2 ^ bits * step + less = K.val n) (w0 : 0 ≤ n ∧ n < 4294967296) (k : Nat) : isa_get.f k K.str n = some (K.val n) := by
  unfold isa_get.f
  rw [hpl]
  simp only [Option.bind_some, if_true]
  rw [plain_get rfl rfl rfl hs hb hab hl w0, Option.bind_some, hv]
theorem or3 (a b c : Int) (ha : 0 ≤ a ∧ a < 16) (hb : 0 ≤ b ∧ b < 32) (hc : 0 ≤ c ∧ c < 2048) : Go.bits .or .i64 (Go.bits .or .i64 (a * 2048) (b * 65536)) c = a * 2048 + b * 65536 + c := by
  have e1 : Go.bits .or .i64 (a * 2048) (b * 65536) = b * 65536 + a * 2048 := by
    have h := or_join 16 (b * 65536) (a * 2048) (by omega) (by omega) (by omega) (by omega) (by omega) (by omega)
    have hx : Go.bits .or .i64 (a * 2048) (b * 65536) = Go.bits .or .i64 (b * 65536) (a * 2048) := by
      unfold Go.bits; simp only [BitVec.or_comm]
    rw [hx, h]
  rw [e1, or_join 11 _ _ (by omega) (by omega) (by omega) (by omega) (by omega) (by omega)]
  omega
theorem or3c (f s u : Int) (hf : f = 0 ∨ f = 1) (hs : 0 ≤ s ∧ s < 4) (hu : 0 ≤ u ∧ u < 256) : Go.bits .or .i64 (Go.bits .or .i64 (f * 1024) (s * 256)) u = f * 1024 + s * 256 + u := by
  rw [or_join 10 (f * 1024) (s * 256) (by omega) (by omega) (by omega) (by omega) (by omega) (by omega), or_join 8 _ _ (by omega) (by omega) (by omega) (by omega) (by omega) (by omega)]
theorem tmod2 (v : Int) : Int.tmod v 2 = 0 ↔ v % 2 = 0 := by
  rw [Int.tmod_eq_emod]; split <;> omega
/-- An even number's way. -/
theorem put_even (K : Kn) (w : Nat) (v : Int) (hpl : isa_plains.f K.str = some ((0 : Int), (0 : Int), 0, (0 : Int), false))
    (hn : K.str.toList ≠ [88] ∧ K.str.toList ≠ [89] ∧ K.str.toList ≠ [76, 50, 48] ∧ K.str.toList ≠ [67, 56] ∧ K.str.toList ≠ [83, 49, 54])
    (hw : isa_wide.f K.str = some (w : Int)) (h1 : 1 ≤ w) (h2 : w ≤ 32) (hok : K.ok v = decide (v % 2 = 0 ∧ -(2 ^ (w - 1)) ≤ v ∧ v < 2 ^ (w - 1)))
    (hg : K.ok v = true → ∀ k, isa_put.j1 (k + 1) K.str v false = some (K.bit v, true)) (k : Nat) (hk : 310 ≤ k) :
    ∃ g, isa_put.f k K.str v = some (g, K.ok v) ∧ (K.ok v = true → g = K.bit v) := by
  obtain ⟨k, rfl⟩ : ∃ m, k = m + 2 := ⟨k - 2, by omega⟩
  obtain ⟨n1, n2, n3, n4, n5⟩ := hn
  have e89 : (K.str.toList == ([89] : List UInt8)) = false := by simp [n2]
  unfold isa_put.f
  rw [hpl, Option.bind_some, if_neg (by decide), if_neg n1, e89]
  simp only [isa_put.j0]
  rw [if_neg (by decide), if_neg n3, if_neg n4, if_neg n5]
  by_cases c : v % 2 = 0
  · rw [if_pos ((tmod2 v).2 c), hw, Option.bind_some, fits_is v w w rfl h1 (by omega), Option.bind_some]
    by_cases d : -(2 ^ (w - 1)) ≤ v ∧ v < 2 ^ (w - 1)
    · have e : K.ok v = true := by rw [hok]; exact decide_eq_true ⟨c, d⟩
      rw [decide_eq_true d, e]
      exact ⟨_, hg e k, fun _ => rfl⟩
    · have e : K.ok v = false := by rw [hok]; exact decide_eq_false (fun h => d h.2)
      rw [decide_eq_false d, e]
      exact ⟨0, by simp only [Bool.not_false, isa_put.j1, if_true], fun h => by cases h⟩
  · have e : K.ok v = false := by rw [hok]; exact decide_eq_false (fun h => c h.1)
    rw [if_neg (fun h => c ((tmod2 v).1 h)), e]
    exact ⟨0, by simp only [isa_put.j1, if_true], fun h => by cases h⟩
/-- An operand's bits, and whether it may be, by the program. -/
theorem put_is (K : Kn) (v : Int) (w0 : -9223372036854775808 ≤ v ∧ v < 9223372036854775808) {k : Nat} (hk : 310 ≤ k) :
    ∃ g, isa_put.f k K.str v = some (g, K.ok v) ∧ (K.ok v = true → g = K.bit v) := by
  cases K
  case U5 => exact put_plain .U5 4 5 0 1 v (by decide +kernel) (by decide) (by decide) (by decide) (by decide) (by simp only [Kn.ok, decide_eq_true_eq]; omega) (by simp only [Kn.ok, Kn.bit, decide_eq_true_eq]; omega) w0 k
  case U7 => exact put_plain .U7 4 7 0 1 v (by decide +kernel) (by decide) (by decide) (by decide) (by decide) (by simp only [Kn.ok, decide_eq_true_eq]; omega) (by simp only [Kn.ok, Kn.bit, decide_eq_true_eq]; omega) w0 k
  case O5 => exact put_plain .O5 4 5 1 1 v (by decide +kernel) (by decide) (by decide) (by decide) (by decide) (by simp only [Kn.ok, decide_eq_true_eq]; omega) (by simp only [Kn.ok, Kn.bit, decide_eq_true_eq]; omega) w0 k
  case M1 => exact put_plain .M1 8 4 0 1 v (by decide +kernel) (by decide) (by decide) (by decide) (by decide) (by simp only [Kn.ok, decide_eq_true_eq]; omega) (by simp only [Kn.ok, Kn.bit, decide_eq_true_eq]; omega) w0 k
  case M2 => exact put_plain .M2 8 4 0 2 v (by decide +kernel) (by decide) (by decide) (by decide) (by decide) (by simp only [Kn.ok, decide_eq_true_eq]; omega) (by simp only [Kn.ok, Kn.bit, decide_eq_true_eq]; omega) w0 k
  case M4 => exact put_plain .M4 8 4 0 4 v (by decide +kernel) (by decide) (by decide) (by decide) (by decide) (by simp only [Kn.ok, decide_eq_true_eq]; omega) (by simp only [Kn.ok, Kn.bit, decide_eq_true_eq]; omega) w0 k
  case O1 => exact put_plain .O1 10 1 0 1 v (by decide +kernel) (by decide) (by decide) (by decide) (by decide) (by simp only [Kn.ok, decide_eq_true_eq]; omega) (by simp only [Kn.ok, Kn.bit, decide_eq_true_eq]; omega) w0 k
  case I2 => exact put_plain .I2 8 2 0 1 v (by decide +kernel) (by decide) (by decide) (by decide) (by decide) (by simp only [Kn.ok, decide_eq_true_eq]; omega) (by simp only [Kn.ok, Kn.bit, decide_eq_true_eq]; omega) w0 k
  case D => exact put_plain .D 21 5 0 1 v (by decide +kernel) (by decide) (by decide) (by decide) (by decide) (by simp only [Kn.ok, decide_eq_true_eq]; omega) (by simp only [Kn.ok, Kn.bit, decide_eq_true_eq]; omega) w0 k
  case A => exact put_plain .A 16 5 0 1 v (by decide +kernel) (by decide) (by decide) (by decide) (by decide) (by simp only [Kn.ok, decide_eq_true_eq]; omega) (by simp only [Kn.ok, Kn.bit, decide_eq_true_eq]; omega) w0 k
  case B => exact put_plain .B 11 5 0 1 v (by decide +kernel) (by decide) (by decide) (by decide) (by decide) (by simp only [Kn.ok, decide_eq_true_eq]; omega) (by simp only [Kn.ok, Kn.bit, decide_eq_true_eq]; omega) w0 k
  case O2 => exact put_plain .O2 20 2 0 1 v (by decide +kernel) (by decide) (by decide) (by decide) (by decide) (by simp only [Kn.ok, decide_eq_true_eq]; omega) (by simp only [Kn.ok, Kn.bit, decide_eq_true_eq]; omega) w0 k
  case I4 => exact put_plain .I4 16 4 0 1 v (by decide +kernel) (by decide) (by decide) (by decide) (by decide) (by simp only [Kn.ok, decide_eq_true_eq]; omega) (by simp only [Kn.ok, Kn.bit, decide_eq_true_eq]; omega) w0 k
  case X =>
    obtain ⟨k, rfl⟩ : ∃ m, k = m + 2 := ⟨k - 2, by omega⟩
    unfold isa_put.f
    rw [show isa_plains.f Kn.X.str = some (0, 0, 0, 0, false) by decide +kernel, Option.bind_some, if_neg (by decide), if_pos (by decide +kernel), show (Kn.X.str.toList == ([88] : List UInt8)) = true by decide +kernel]
    simp only [isa_put.j0, if_true]
    rw [show isa_place.f Kn.X.str = some 0 by decide +kernel]
    simp only [Option.bind_some]
    have et : 0 ≤ v → Int.tdiv v 24 = v / 24 := fun h => Int.tdiv_eq_ediv_of_nonneg h
    by_cases c : Kn.X.ok v = true
    · have c' := c
      simp only [Kn.ok, decide_eq_true_eq] at c'
      have ew : wrap64 (v - wrap64 (wrap64 (Int.tdiv v 24) * 16)) = v - v / 24 * 16 := by
        rw [et (by omega), wrap64_id (n := v / 24) (by omega) (by omega), wrap64_id (n := v / 24 * 16) (by omega) (by omega), wrap64_id (by omega) (by omega)]
      refine ⟨Kn.X.bit v, ?_, fun _ => rfl⟩
      rw [c, ew, shl_u32 (n := 0) (m := 0) rfl (by decide)]
      have e2 : (v - v / 24 * 16) % 4294967296 * 2 ^ 0 % 4294967296 = v - v / 24 * 16 := by omega
      simp only [Kn.bit, e2]
      rw [if_neg (by omega)]
      by_cases c2 : v > 7
      · rw [if_pos c2, if_neg (by omega), if_neg (by omega), if_pos (by decide)]
      · rw [if_neg c2, if_neg (by omega), if_pos (by decide)]
    · have e : Kn.X.ok v = false := Bool.eq_false_iff.2 c
      simp only [Kn.ok, decide_eq_true_eq] at c
      refine ⟨0, ?_, fun h => by rw [e] at h; cases h⟩
      rw [e]
      by_cases c0 : v < 0
      · rw [if_pos c0]
      · rw [if_neg c0]
        by_cases c1 : v > 7
        · rw [if_pos c1]
          by_cases c2 : v < 24
          · rw [if_pos c2]
          · rw [if_neg c2, if_pos (by omega)]
        · exfalso; omega
  case Y =>
    obtain ⟨k, rfl⟩ : ∃ m, k = m + 2 := ⟨k - 2, by omega⟩
    unfold isa_put.f
    rw [show isa_plains.f Kn.Y.str = some (0, 0, 0, 0, false) by decide +kernel, Option.bind_some, if_neg (by decide), if_neg (by decide +kernel), show (Kn.Y.str.toList == ([89] : List UInt8)) = true by decide +kernel]
    simp only [isa_put.j0, if_true]
    rw [show isa_place.f Kn.Y.str = some 4 by decide +kernel]
    simp only [Option.bind_some]
    have et : 0 ≤ v → Int.tdiv v 24 = v / 24 := fun h => Int.tdiv_eq_ediv_of_nonneg h
    by_cases c : Kn.Y.ok v = true
    · have c' := c
      simp only [Kn.ok, decide_eq_true_eq] at c'
      have ew : wrap64 (v - wrap64 (wrap64 (Int.tdiv v 24) * 16)) = v - v / 24 * 16 := by
        rw [et (by omega), wrap64_id (n := v / 24) (by omega) (by omega), wrap64_id (n := v / 24 * 16) (by omega) (by omega), wrap64_id (by omega) (by omega)]
      refine ⟨Kn.Y.bit v, ?_, fun _ => rfl⟩
      rw [c, ew, shl_u32 (n := 4) (m := 4) rfl (by decide)]
      have e2 : (v - v / 24 * 16) % 4294967296 * 2 ^ 4 % 4294967296 = (v - v / 24 * 16) * 16 := by omega
      simp only [Kn.bit, e2]
      rw [if_neg (by omega)]
      by_cases c2 : v > 7
      · rw [if_pos c2, if_neg (by omega), if_neg (by omega), if_pos (by decide)]
      · rw [if_neg c2, if_neg (by omega), if_pos (by decide)]
    · have e : Kn.Y.ok v = false := Bool.eq_false_iff.2 c
      simp only [Kn.ok, decide_eq_true_eq] at c
      refine ⟨0, ?_, fun h => by rw [e] at h; cases h⟩
      rw [e]
      by_cases c0 : v < 0
      · rw [if_pos c0]
      · rw [if_neg c0]
        by_cases c1 : v > 7
        · rw [if_pos c1]
          by_cases c2 : v < 24
          · rw [if_pos c2]
          · rw [if_neg c2, if_pos (by omega)]
        · exfalso; omega
  case L20 =>
    obtain ⟨k, rfl⟩ : ∃ m, k = m + 2 := ⟨k - 2, by omega⟩
    unfold isa_put.f
    rw [show isa_plains.f Kn.L20.str = some (0, 0, 0, 0, false) by decide +kernel, Option.bind_some, if_neg (by decide), if_neg (by decide +kernel), show (Kn.L20.str.toList == ([89] : List UInt8)) = false by decide +kernel]
    simp only [isa_put.j0]
    rw [if_neg (by decide), if_pos (by decide +kernel)]
    unfold imm_Split.f
    rw [fits_is v 20 20 rfl (by decide) (by decide)]
    simp only [Option.bind_some, and15, and31, and2047]
    rw [wrap64_id (by omega) (by omega), wrap64_id (by omega) (by omega), or3 _ _ _ (by omega) (by omega) (by omega)]
    exact ⟨_, by congr 2, fun _ => by simp only [Kn.bit]; omega⟩
  case C8 =>
    obtain ⟨k, rfl⟩ : ∃ m, k = m + 2 := ⟨k - 2, by omega⟩
    unfold isa_put.f
    rw [show isa_plains.f Kn.C8.str = some (0, 0, 0, 0, false) by decide +kernel, Option.bind_some, if_neg (by decide), if_neg (by decide +kernel), show (Kn.C8.str.toList == ([89] : List UInt8)) = false by decide +kernel]
    simp only [isa_put.j0]
    rw [if_neg (by decide), if_neg (by decide +kernel), if_pos (by decide +kernel), sci8_is v (by omega)]
    simp only [Option.bind_some]
    refine ⟨_, rfl, fun h => ?_⟩
    obtain ⟨h1, h2, h3, _⟩ := sci8_back v h
    simp only [Kn.bit]
    generalize (sci8 v).1 = a at *
    generalize (sci8 v).2.1 = b at *
    generalize (sci8 v).2.2.1 = c at *
    rw [wrap64_id (n := a * 1024) (by omega) (by omega), wrap64_id (n := b * 256) (by omega) (by omega), or3c _ _ _ h1 h2 h3]
    omega
  case S16 =>
    obtain ⟨k, rfl⟩ : ∃ m, k = m + 2 := ⟨k - 2, by omega⟩
    unfold isa_put.f
    rw [show isa_plains.f Kn.S16.str = some (0, 0, 0, 0, false) by decide +kernel, Option.bind_some, if_neg (by decide), if_neg (by decide +kernel), show (Kn.S16.str.toList == ([89] : List UInt8)) = false by decide +kernel]
    simp only [isa_put.j0]
    rw [if_neg (by decide), if_neg (by decide +kernel), if_neg (by decide +kernel), if_pos (by decide +kernel), fits_is v 16 16 rfl (by decide) (by decide)]
    simp only [Option.bind_some]
    rw [show Go.bits .and .i64 v 65535 = v % 65536 from and_mask v 16 (by decide)]
    exact ⟨_, by congr 2, fun _ => by simp only [Kn.bit]; omega⟩
  case T8 =>
    refine put_even .T8 9 v (by decide +kernel) (by decide +kernel) (by decide +kernel) (by decide) (by decide) rfl (fun h k => ?_) k hk
    simp only [Kn.ok, decide_eq_true_eq] at h
    have et : Int.tdiv v 2 = v / 2 := by rw [Int.tdiv_eq_ediv]; split <;> omega
    simp only [isa_put.j1]
    rw [if_neg (by decide), if_pos (by decide +kernel), et, wrap64_id (n := v / 2) (by omega) (by omega), show Go.bits .and .i64 (v / 2) 255 = v / 2 % 256 from and_mask (v / 2) 8 (by decide)]
    simp only [Kn.bit]
    congr 2; omega
  case T15 =>
    refine put_even .T15 16 v (by decide +kernel) (by decide +kernel) (by decide +kernel) (by decide) (by decide) rfl (fun h k => ?_) k hk
    simp only [isa_put.j1]
    rw [if_neg (by decide), if_neg (by decide +kernel), show isa_wide.f Kn.T15.str = some 16 by decide +kernel, Option.bind_some, if_pos (by decide), shl_i64 (n := 16) (m := 16) rfl (by decide), show wrap64 (wrap64 (1 * 2 ^ 16) - 1) = 65535 by (rw [wrap64_id (n := 1 * 2 ^ 16) (by decide) (by decide)]; exact wrap64_id (by decide) (by decide)), show Go.bits .and .i64 v 65535 = v % 65536 from and_mask v 16 (by decide)]
    simp only [Kn.bit]
    congr 2; omega
  case T24 =>
    refine put_even .T24 25 v (by decide +kernel) (by decide +kernel) (by decide +kernel) (by decide) (by decide) rfl (fun h k => ?_) k hk
    simp only [isa_put.j1]
    rw [if_neg (by decide), if_neg (by decide +kernel), show isa_wide.f Kn.T24.str = some 25 by decide +kernel, Option.bind_some, if_pos (by decide), shl_i64 (n := 25) (m := 25) rfl (by decide), show wrap64 (wrap64 (1 * 2 ^ 25) - 1) = 33554431 by (rw [wrap64_id (n := 1 * 2 ^ 25) (by decide) (by decide)]; exact wrap64_id (by decide) (by decide)), show Go.bits .and .i64 v 33554431 = v % 33554432 from and_mask v 25 (by decide)]
    simp only [Kn.bit]
    congr 2; omega
end Go.Proofs.YticofbaajdgabaaDoor.X

namespace Go.Proofs.YticofbaajdgabaaDoor.X
set_option linter.unusedVariables false
set_option linter.unusedSimpArgs false
open Go.RowKit Go.PA Go.Proofs.YticofbaajdgabaaDoorW.PrintWords Go.Proofs.YticofbaajdgabaaDoorW.PrintLast Go.Proofs.YticofbaajdgabaaDoorW.PrintMore
def Kn.lst : Kn → List UInt8
  | X => [88] | Y => [89] | U5 => [85, 53] | U7 => [85, 55] | O5 => [79, 53] | M1 => [77, 49] | M2 => [77, 50] | M4 => [77, 52] | O1 => [79, 49] | I2 => [73, 50] | T8 => [84, 56]
  | D => [68] | A => [65] | B => [66] | S16 => [83, 49, 54] | L20 => [76, 50, 48] | C8 => [67, 56] | O2 => [79, 50] | I4 => [73, 52] | T15 => [84, 49, 53] | T24 => [84, 50, 52]
theorem Kn.toL (K : Kn) : K.str.toList = K.lst := by cases K <;> decide +kernel
theorem shr_i64 {x : Int} {n : Int} {m : Nat} (hm : n = m) (h2 : m ≤ 63) : shr .i64 x n = x / 2 ^ m := by
  subst hm
  unfold shr
  rw [show min ((m : Int).toNat) IntKind.i64.bits = m by simp [IntKind.bits]; omega]
theorem nat_but1 (a j : Nat) : a &&& (2 ^ (j + 1) - 2) = a % 2 ^ (j + 1) / 2 * 2 := by
  have hp := Nat.two_pow_pos j
  have e2 : 2 ^ (j + 1) = 2 * 2 ^ j := by rw [Nat.pow_succ]; omega
  have h1 : (a &&& (2 ^ (j + 1) - 2)) / 2 = a / 2 % 2 ^ j := by
    rw [Nat.and_div_two, show (2 ^ (j + 1) - 2) / 2 = 2 ^ j - 1 by omega, Nat.and_two_pow_sub_one_eq_mod]
  have h2 : (a &&& (2 ^ (j + 1) - 2)) % 2 = 0 := by
    have := Nat.and_mod_two_pow (a := a) (b := 2 ^ (j + 1) - 2) (n := 1)
    rw [Nat.pow_one] at this
    rw [this, show (2 ^ (j + 1) - 2) % 2 = 0 by omega, Nat.and_zero]
  have h3 : a % 2 ^ (j + 1) / 2 = a / 2 % 2 ^ j := by
    rw [e2, Nat.mod_mul_right_div_self]
  omega
/-- All bits but the lowest. -/
theorem and_but1 (a : Int) (j : Nat) (hj : j ≤ 31) (h0 : 0 ≤ a) (h1 : a < 4294967296) {c : Int} (hc : c = (2 ^ (j + 1) - 2 : Nat)) : Go.bits .and .i64 a c = a % 2 ^ (j + 1) / 2 * 2 := by
  obtain ⟨n, rfl⟩ := Int.eq_ofNat_of_zero_le h0
  have hn : n % 2 ^ 64 = n := Nat.mod_eq_of_lt (by omega)
  have hp : (2 : Nat) ^ (j + 1) ≤ 2 ^ 32 := Nat.pow_le_pow_right (by decide) (by omega)
  have hm : (2 ^ (j + 1) - 2) % 2 ^ 64 = 2 ^ (j + 1) - 2 := Nat.mod_eq_of_lt (by omega)
  rw [hc, show Go.bits .and .i64 (n : Int) ((2 ^ (j + 1) - 2 : Nat) : Int) = IntKind.i64.wrap ((BitVec.ofInt 64 (n : Int) &&& BitVec.ofInt 64 ((2 ^ (j + 1) - 2 : Nat) : Int)).toNat : Int) from rfl]
  rw [BitVec.ofInt_natCast, BitVec.ofInt_natCast, BitVec.toNat_and, BitVec.toNat_ofNat, BitVec.toNat_ofNat, hn, hm, nat_but1, i64_wrap]
  have hl : n % 2 ^ (j + 1) ≤ n := Nat.mod_le _ _
  have e : (((n % 2 ^ (j + 1) / 2 * 2 : Nat)) : Int) = (n : Int) % 2 ^ (j + 1) / 2 * 2 := by simp
  rw [← e]
  exact wrap64_id (by omega) (by omega)
theorem andnot1 (a : Int) (h0 : 0 ≤ a) (h1 : a < 4294967296) : Go.bits .andNot .i64 a 1 = a / 2 * 2 := by
  obtain ⟨n, rfl⟩ := Int.eq_ofNat_of_zero_le h0
  have hn : n % 2 ^ 64 = n := Nat.mod_eq_of_lt (by omega)
  rw [show Go.bits .andNot .i64 (n : Int) 1 = IntKind.i64.wrap ((BitVec.ofInt 64 (n : Int) &&& ~~~ (BitVec.ofInt 64 1)).toNat : Int) from rfl]
  rw [BitVec.ofInt_natCast, show ~~~ (BitVec.ofInt 64 1) = BitVec.ofNat 64 (2 ^ (63 + 1) - 2) by decide, BitVec.toNat_and, BitVec.toNat_ofNat, BitVec.toNat_ofNat, hn, show (2 ^ (63 + 1) - 2) % 2 ^ 64 = 2 ^ (63 + 1) - 2 by decide, nat_but1, hn, i64_wrap]
  have e : (((n / 2 * 2 : Nat)) : Int) = (n : Int) / 2 * 2 := by simp
  rw [← e]
  exact wrap64_id (by omega) (by omega)
theorem rjoined_is {h m l : Int} (h0 : 0 ≤ h ∧ h < 16) (h1 : 0 ≤ m ∧ m < 32) (h2 : 0 ≤ l ∧ l < 2048) : letterpressref1_Joined.f h m l = some (sg (h * 65536 + m * 2048 + l) 1048576) := by
  unfold letterpressref1_Joined.f
  rw [wrap64_id (n := h * 65536) (by omega) (by omega), wrap64_id (n := m * 2048) (by omega) (by omega), or_join 16 (h * 65536) (m * 2048) (by omega) (by omega) (by omega) (by omega) (by omega) (by omega), or_join 11 _ _ (by omega) (by omega) (by omega) (by omega) (by omega) (by omega), rsign_is' (c := 20) (b := 20) rfl (by decide) (by decide)]
  rfl
/-- The operand that bits have, of the reference. -/
theorem take_is (K : Kn) (n : Int) (w0 : 0 ≤ n ∧ n < 4294967296) {k : Nat} (hk : 10 ≤ k) : letterpressref2_take.f k K.str n = some (K.val n) := by
  have m1 : ∀ a, Go.bits .and .i64 a 1 = a % 2 := fun a => and_mask a 1 (by decide)
  have m3 : ∀ a, Go.bits .and .i64 a 3 = a % 4 := fun a => and_mask a 2 (by decide)
  have m15 : ∀ a, Go.bits .and .i64 a 15 = a % 16 := fun a => and_mask a 4 (by decide)
  have m31 : ∀ a, Go.bits .and .i64 a 31 = a % 32 := fun a => and_mask a 5 (by decide)
  have m127 : ∀ a, Go.bits .and .i64 a 127 = a % 128 := fun a => and_mask a 7 (by decide)
  have m255 : ∀ a, Go.bits .and .i64 a 255 = a % 256 := fun a => and_mask a 8 (by decide)
  have m2047 : ∀ a, Go.bits .and .i64 a 2047 = a % 2048 := fun a => and_mask a 11 (by decide)
  cases K
  case X | Y =>
    simp (decide := true) only [letterpressref2_take.f, letterpressref2_eight.f, Kn.toL, Kn.lst, if_true, if_false, Kn.val, m15]
    split
    · simp only [Option.bind_some]; congr 1; rw [wrap64_id (by omega) (by omega)]; omega
    · simp only [Option.bind_some]; congr 1; omega
  case T8 =>
    simp (decide := true) only [letterpressref2_take.f, Kn.toL, Kn.lst, if_true, if_false, Kn.val]
    rw [rsign_is' (v := n) (c := 8) (b := 8) rfl (by decide) (by decide)]
    simp only [Option.bind_some]; congr 1
    exact wrap64_id (by unfold sg; omega) (by unfold sg; omega)
  case S16 =>
    simp (decide := true) only [letterpressref2_take.f, letterpressref2_takes.f, Kn.toL, Kn.lst, if_true, if_false, Kn.val]
    rw [rsign_is' (v := n) (c := 16) (b := 16) rfl (by decide) (by decide)]; rfl
  case T15 =>
    simp (decide := true) only [letterpressref2_take.f, letterpressref2_takes.f, Kn.toL, Kn.lst, if_true, if_false, Kn.val]
    rw [rsign_is' (c := 16) (b := 16) rfl (by decide) (by decide), and_but1 n 15 (c := 65534) (by decide) w0.1 w0.2 rfl]
    simp only [Option.bind_some]; congr 1; unfold sg; omega
  case T24 =>
    simp (decide := true) only [letterpressref2_take.f, letterpressref2_takes.f, Kn.toL, Kn.lst, if_true, if_false, Kn.val]
    rw [rsign_is' (c := 25) (b := 25) rfl (by decide) (by decide), and_but1 n 24 (c := 33554430) (by decide) w0.1 w0.2 rfl]
    simp only [Option.bind_some]; congr 1; unfold sg; omega
  case C8 =>
    simp (decide := true) only [letterpressref2_take.f, letterpressref2_takes.f, Kn.toL, Kn.lst, if_true, if_false, Kn.val, m1, m3, m255]
    rw [rback_is (by omega) (by omega) (by omega) (by omega)]; rfl
  case L20 =>
    simp (decide := true) only [letterpressref2_take.f, letterpressref2_takes.f, Kn.toL, Kn.lst, if_true, if_false, Kn.val, m15, m31, m2047]
    rw [rjoined_is (by omega) (by omega) (by omega)]; rfl
  all_goals
    simp (decide := true) only [letterpressref2_take.f, letterpressref2_takes.f, Kn.toL, Kn.lst, if_true, if_false, Kn.val, m1, m3, m15, m31, m127, m255, m2047, Option.bind_some]
  all_goals (try (refine congrArg some ((wrap64_id (by omega) (by omega)).trans ?_); omega))
/-- The operand that bits have, of the program. -/
theorem get_is (K : Kn) (n : Int) (w0 : 0 ≤ n ∧ n < 4294967296) {k : Nat} (hk : 10 ≤ k) : isa_get.f k K.str n = some (K.val n) := by
  have m1 : ∀ a, Go.bits .and .i64 a 1 = a % 2 := fun a => and_mask a 1 (by decide)
  have m3 : ∀ a, Go.bits .and .i64 a 3 = a % 4 := fun a => and_mask a 2 (by decide)
  have m15 : ∀ a, Go.bits .and .i64 a 15 = a % 16 := fun a => and_mask a 4 (by decide)
  have m31 : ∀ a, Go.bits .and .i64 a 31 = a % 32 := fun a => and_mask a 5 (by decide)
  have m255 : ∀ a, Go.bits .and .i64 a 255 = a % 256 := fun a => and_mask a 8 (by decide)
  have m2047 : ∀ a, Go.bits .and .i64 a 2047 = a % 2048 := fun a => and_mask a 11 (by decide)
  have ww : wrap64 n = n := wrap64_id (by omega) (by omega)
  cases K
  case U5 => exact get_plain .U5 4 5 0 1 n (by decide +kernel) (by decide) (by decide) (by decide) (by decide) (by simp only [Kn.val]; omega) w0 k
  case U7 => exact get_plain .U7 4 7 0 1 n (by decide +kernel) (by decide) (by decide) (by decide) (by decide) (by simp only [Kn.val]; omega) w0 k
  case O5 => exact get_plain .O5 4 5 1 1 n (by decide +kernel) (by decide) (by decide) (by decide) (by decide) (by simp only [Kn.val]; omega) w0 k
  case M1 => exact get_plain .M1 8 4 0 1 n (by decide +kernel) (by decide) (by decide) (by decide) (by decide) (by simp only [Kn.val]; omega) w0 k
  case M2 => exact get_plain .M2 8 4 0 2 n (by decide +kernel) (by decide) (by decide) (by decide) (by decide) (by simp only [Kn.val]; omega) w0 k
  case M4 => exact get_plain .M4 8 4 0 4 n (by decide +kernel) (by decide) (by decide) (by decide) (by decide) (by simp only [Kn.val]; omega) w0 k
  case O1 => exact get_plain .O1 10 1 0 1 n (by decide +kernel) (by decide) (by decide) (by decide) (by decide) (by simp only [Kn.val]; omega) w0 k
  case I2 => exact get_plain .I2 8 2 0 1 n (by decide +kernel) (by decide) (by decide) (by decide) (by decide) (by simp only [Kn.val]; omega) w0 k
  case D => exact get_plain .D 21 5 0 1 n (by decide +kernel) (by decide) (by decide) (by decide) (by decide) (by simp only [Kn.val]; omega) w0 k
  case A => exact get_plain .A 16 5 0 1 n (by decide +kernel) (by decide) (by decide) (by decide) (by decide) (by simp only [Kn.val]; omega) w0 k
  case B => exact get_plain .B 11 5 0 1 n (by decide +kernel) (by decide) (by decide) (by decide) (by decide) (by simp only [Kn.val]; omega) w0 k
  case O2 => exact get_plain .O2 20 2 0 1 n (by decide +kernel) (by decide) (by decide) (by decide) (by decide) (by simp only [Kn.val]; omega) w0 k
  case I4 => exact get_plain .I4 16 4 0 1 n (by decide +kernel) (by decide) (by decide) (by decide) (by decide) (by simp only [Kn.val]; omega) w0 k
  all_goals
    obtain ⟨k, rfl⟩ : ∃ m, k = m + 2 := ⟨k - 2, by omega⟩
    unfold isa_get.f
  case X =>
    rw [show isa_plains.f Kn.X.str = some (0, 0, 0, 0, false) by decide +kernel]
    simp (decide := true) only [Option.bind_some, isa_get.j0, Kn.toL, Kn.lst, isa_place.f, if_true, if_false, Bool.true_eq_false, Bool.false_eq_true, ww, Kn.val]
    rw [show shr .i64 n 0 = n from shr_i64 (n := 0) (m := 0) rfl (by decide) |>.trans (by omega), m15, Int.tdiv_eq_ediv_of_nonneg (by omega), wrap64_id (n := n % 16 / 8) (by omega) (by omega), wrap64_id (n := n % 16 / 8 * 16) (by omega) (by omega), wrap64_id (by omega) (by omega)]
  case Y =>
    rw [show isa_plains.f Kn.Y.str = some (0, 0, 0, 0, false) by decide +kernel]
    simp (decide := true) only [Option.bind_some, isa_get.j0, Kn.toL, Kn.lst, isa_place.f, if_true, if_false, Bool.true_eq_false, Bool.false_eq_true, ww, Kn.val]
    rw [show shr .i64 n 4 = n / 16 from shr_i64 (n := 4) (m := 4) rfl (by decide), m15, Int.tdiv_eq_ediv_of_nonneg (by omega), wrap64_id (n := n / 16 % 16 / 8) (by omega) (by omega), wrap64_id (n := n / 16 % 16 / 8 * 16) (by omega) (by omega), wrap64_id (by omega) (by omega)]
  case T8 =>
    rw [show isa_plains.f Kn.T8.str = some (0, 0, 0, 0, false) by decide +kernel]
    simp (decide := true) only [Option.bind_some, isa_get.j0, Kn.toL, Kn.lst, isa_place.f, if_true, if_false, Bool.true_eq_false, Bool.false_eq_true, ww, Kn.val]
    rw [sign_is' (v := n) (c := 8) (b := 8) rfl (by decide) (by decide)]
    simp only [Option.bind_some]; congr 1
    exact wrap64_id (by unfold sg; omega) (by unfold sg; omega)
  case S16 =>
    rw [show isa_plains.f Kn.S16.str = some (0, 0, 0, 0, false) by decide +kernel]
    simp (decide := true) only [Option.bind_some, isa_get.j0, Kn.toL, Kn.lst, isa_place.f, if_true, if_false, Bool.true_eq_false, Bool.false_eq_true, ww, Kn.val]
    rw [sign_is' (v := n) (c := 16) (b := 16) rfl (by decide) (by decide)]; rfl
  case L20 =>
    rw [show isa_plains.f Kn.L20.str = some (0, 0, 0, 0, false) by decide +kernel]
    simp (decide := true) only [Option.bind_some, isa_get.j0, Kn.toL, Kn.lst, isa_place.f, if_true, if_false, Bool.true_eq_false, Bool.false_eq_true, ww, Kn.val, m15, m31, m2047]
    rw [joined_is (by omega) (by omega) (by omega)]; rfl
  case C8 =>
    rw [show isa_plains.f Kn.C8.str = some (0, 0, 0, 0, false) by decide +kernel]
    simp (decide := true) only [Option.bind_some, isa_get.j0, Kn.toL, Kn.lst, isa_place.f, if_true, if_false, Bool.true_eq_false, Bool.false_eq_true, ww, Kn.val, m1, m3, m255]
    rw [back_is (by omega) (by omega) (by omega) (by omega)]; rfl
  case T15 =>
    rw [show isa_plains.f Kn.T15.str = some (0, 0, 0, 0, false) by decide +kernel]
    simp (decide := true) only [Option.bind_some, isa_get.j0, Kn.toL, Kn.lst, isa_place.f, isa_wide.f, if_true, if_false, Bool.true_eq_false, Bool.false_eq_true, ww, Kn.val]
    rw [andnot1 n w0.1 w0.2, sign_is' (c := 16) (b := 16) rfl (by decide) (by decide)]; rfl
  case T24 =>
    rw [show isa_plains.f Kn.T24.str = some (0, 0, 0, 0, false) by decide +kernel]
    simp (decide := true) only [Option.bind_some, isa_get.j0, Kn.toL, Kn.lst, isa_place.f, isa_wide.f, if_true, if_false, Bool.true_eq_false, Bool.false_eq_true, ww, Kn.val]
    rw [andnot1 n w0.1 w0.2, sign_is' (c := 25) (b := 25) rfl (by decide) (by decide)]; rfl
end Go.Proofs.YticofbaajdgabaaDoor.X

namespace Go.Proofs.YticofbaajdgabaaDoor.X
set_option linter.unusedVariables false
set_option linter.unusedSimpArgs false
open Go.RowKit Go.PA Go.Proofs.YticofbaajdgabaaDoorW.PrintWords Go.Proofs.YticofbaajdgabaaDoorW.PrintLast Go.Proofs.YticofbaajdgabaaDoorW.PrintMore
/-- Each instruction's kinds; its bits. -/
def ksL : List (List Kn) := [[], [], [], [], [], [.X], [.X], [.X], [.X], [.X], [.X], [.X], [.X], [.X], [.X], [.X, .Y], [.X, .Y], [.X, .Y], [.X, .Y], [.X, .Y], [.X, .Y], [.X, .O5], [.X, .O5], [.X, .O5], [.X, .U5], [.X, .Y], [.X, .Y], [.X, .Y], [.X, .U7], [.X, .U5], [.X, .U5], [.X, .U5], [.X, .U5], [.X, .U5], [.Y, .M1, .X], [.Y, .M1, .X], [.Y, .M2, .X], [.Y, .M2, .X], [.Y, .M4, .X], [.Y, .M4, .X], [.O1, .I2, .T8], [.T8], [.T8], [.D, .A, .S16], [.D, .A, .C8], [.A, .D, .C8], [.A, .D, .C8], [.A, .D, .C8], [.D, .L20], [.D, .S16, .A], [.D, .S16, .A], [.D, .S16, .A], [.D, .S16, .A], [.D, .S16, .A], [.D, .S16, .A], [.D, .S16, .A], [.T24], [.T24], [.O2, .I4, .T15], [.O2, .I4, .T15], [.D, .A, .B], [.D, .A, .B], [.D, .A, .B], [.A, .D, .B], [.A, .D, .B], [.A, .D, .B]]
def bsL : List Nat := [0, 1, 2, 4, 6, 32, 48, 128, 144, 160, 176, 192, 208, 224, 240, 256, 1024, 1280, 1536, 3072, 3328, 8192, 8704, 9216, 10752, 17408, 17664, 17920, 18432, 24576, 25600, 26112, 26624, 27648, 32768, 36864, 40960, 45056, 49152, 53248, 57344, 59392, 59648, 469762048, 402685952, 402702336, 402706432, 402710528, 1879048192, 805306368, 872415232, 939524096, 1342177280, 1409286144, 1476395008, 1543503872, 2013265920, 2013265921, 2046820352, 2046820353, 2080375316, 2080374864, 2080375254, 2080374840, 2080375672, 2080375416]
def ks (i : Nat) : List Kn := ksL.getD i []
def bs (i : Nat) : Nat := bsL.getD i 0
def nm (i : Nat) : ByteArray := (rows2.getD i (⟨#[]⟩, ⟨#[]⟩, ⟨#[]⟩)).1
def kd (i : Nat) : ByteArray := (rows2.getD i (⟨#[]⟩, ⟨#[]⟩, ⟨#[]⟩)).2.2
def hx (i : Nat) : ByteArray := (rows2.getD i (⟨#[]⟩, ⟨#[]⟩, ⟨#[]⟩)).2.1
def sz (i : Nat) : Int := if i < 43 then 2 else 4
theorem p_list : ∀ i : Fin 66, isa_of_string_40__isa_row_list.f ((i.val : Nat) : Int) = some ((ks i.val).map Kn.str) := by decide +kernel
theorem p_bits : ∀ i : Fin 66, isa_of_uint32__isa_code_1.f ((i.val : Nat) : Int) = some ((bs i.val : Nat) : Int) := by decide +kernel
theorem p_name : ∀ i : Fin 66, isa_Name.f ((i.val : Nat) : Int) = some (nm i.val) := by decide +kernel
theorem p_size : ∀ i : Fin 66, isa_Size.f ((i.val : Nat) : Int) = some (sz i.val) := by decide +kernel
theorem p_full : ∀ i : Fin 66, (nm i.val).toList ≠ [] := by decide +kernel
theorem r_words : ∀ i : Fin 66, letterpressref2_Words.f 24 (kd i.val) = some ((ks i.val).map Kn.str) := by decide +kernel
theorem r_find : ∀ i : Fin 66, letterpressref2_find.f ((i.val : Nat) : Int) (⟨#[32]⟩ : ByteArray) = some (nm i.val, hx i.val, kd i.val, ((i.val : Nat) : Int), true) := by decide +kernel
theorem p_len : (tableL.length : Int) = 66 := by decide +kernel
theorem p_out (op : Int) (h : ¬ (0 ≤ op ∧ op < 66)) : isa_Name.f op = some (⟨#[]⟩ : ByteArray) ∧ isa_Kinds.f op = some (⟨#[]⟩ : ByteArray) ∧ isa_Size.f op = some 0 := by
  have e1 : isa_Name.f op = some (⟨#[]⟩ : ByteArray) := by
    unfold isa_Name.f isa_of_string_48__isa_row_title.f isa_table.f
    simp only [Option.bind_some, p_len]
    by_cases c : op ≥ 0
    · rw [if_pos c, if_neg (by omega)]; rfl
    · rw [if_neg c]; rfl
  refine ⟨e1, ?_, ?_⟩
  · unfold isa_Kinds.f isa_of_string_48__isa_row_operands.f isa_table.f
    simp only [Option.bind_some, p_len]
    by_cases c : op ≥ 0
    · rw [if_pos c, if_neg (by omega)]; rfl
    · rw [if_neg c]; rfl
  · unfold isa_Size.f
    rw [e1, Option.bind_some, if_pos (by decide +kernel)]
theorem words_up {k : Nat} (hk : 24 ≤ k) {s : ByteArray} {r : List ByteArray} (h : letterpressref2_Words.f 24 s = some r) : letterpressref2_Words.f k s = some r := by
  induction hk with
  | refl => exact h
  | step _ ih => exact letterpressref2_Words.mono _ _ _ ih
/-- A kind's field: from a bit on, so many bits. -/
def Kn.at_ : Kn → Nat × Nat
  | X => (0, 4) | Y => (4, 4) | U5 => (4, 5) | U7 => (4, 7) | O5 => (4, 5) | M1 => (8, 4) | M2 => (8, 4) | M4 => (8, 4) | O1 => (10, 1) | I2 => (8, 2) | T8 => (0, 8)
  | D => (21, 5) | A => (16, 5) | B => (11, 5) | S16 => (0, 16) | L20 => (0, 21) | C8 => (0, 11) | O2 => (20, 2) | I4 => (16, 4) | T15 => (1, 15) | T24 => (1, 24)
def Kn.fm (K : Kn) : Nat := (2 ^ K.at_.2 - 1) * 2 ^ K.at_.1
theorem nat_field (n a b : Nat) : n &&& ((2 ^ b - 1) * 2 ^ a) = n / 2 ^ a % 2 ^ b * 2 ^ a := by
  have e : n &&& ((2 ^ b - 1) * 2 ^ a) = ((n / 2 ^ a) &&& (2 ^ b - 1)) * 2 ^ a := by
    apply Nat.eq_of_testBit_eq
    intro i
    rw [Nat.testBit_and, Nat.testBit_mul_two_pow, Nat.testBit_mul_two_pow, Nat.testBit_and, Nat.testBit_div_two_pow]
    by_cases h : a ≤ i
    · simp [h]
    · simp [h]
  rw [e, Nat.and_two_pow_sub_one_eq_mod]
/-- An operand is told by its field alone. -/
theorem Kn.val_fm (K : Kn) (n : Nat) : K.val ((n &&& K.fm : Nat) : Int) = K.val (n : Int) := by
  unfold Kn.fm
  rw [nat_field]
  cases K
  case C8 =>
    simp only [Kn.val, Kn.at_]
    have e1 : (((n / 2 ^ 0 % 2 ^ 11 * 2 ^ 0 : Nat)) : Int) / 1024 % 2 = (n : Int) / 1024 % 2 := by omega
    have e2 : (((n / 2 ^ 0 % 2 ^ 11 * 2 ^ 0 : Nat)) : Int) / 256 % 4 = (n : Int) / 256 % 4 := by omega
    have e3 : (((n / 2 ^ 0 % 2 ^ 11 * 2 ^ 0 : Nat)) : Int) % 256 = (n : Int) % 256 := by omega
    rw [e1, e2, e3]
  case L20 =>
    simp only [Kn.val, Kn.at_]
    have e1 : (((n / 2 ^ 0 % 2 ^ 21 * 2 ^ 0 : Nat)) : Int) / 2048 % 16 = (n : Int) / 2048 % 16 := by omega
    have e2 : (((n / 2 ^ 0 % 2 ^ 21 * 2 ^ 0 : Nat)) : Int) / 65536 % 32 = (n : Int) / 65536 % 32 := by omega
    have e3 : (((n / 2 ^ 0 % 2 ^ 21 * 2 ^ 0 : Nat)) : Int) % 2048 = (n : Int) % 2048 := by omega
    rw [e1, e2, e3]
  all_goals
    simp only [Kn.val, Kn.at_, sg]
    omega
/-- An operand's bits lie in its field. -/
theorem Kn.bit_in (K : Kn) (v : Int) (h : K.ok v = true) : 0 ≤ K.bit v ∧ (K.bit v).toNat &&& K.fm = (K.bit v).toNat := by
  unfold Kn.fm
  rw [nat_field]
  cases K
  case C8 =>
    obtain ⟨h1, h2, h3, _⟩ := sci8_back v h
    simp only [Kn.bit, Kn.at_]
    omega
  all_goals
    simp only [Kn.ok, decide_eq_true_eq] at h
    simp only [Kn.bit, Kn.at_]
    omega
end Go.Proofs.YticofbaajdgabaaDoor.X

namespace Go.Proofs.YticofbaajdgabaaDoor.X
set_option linter.unusedVariables false
set_option linter.unusedSimpArgs false
open Go.RowKit Go.PA Go.Proofs.YticofbaajdgabaaDoorW.PrintWords Go.Proofs.YticofbaajdgabaaDoorW.PrintLast Go.Proofs.YticofbaajdgabaaDoorW.PrintMore
/-- Each operand may be. -/
def okA : List Kn → List Int → Bool
  | [], [] => true
  | K :: Ks, v :: l => K.ok v && okA Ks l
  | _, _ => false
/-- All bits. -/
def orA : Nat → List Kn → List Int → Nat
  | n, K :: Ks, v :: l => orA (n ||| (K.bit v).toNat) Ks l
  | n, _, _ => n
def I64 (l : List Int) : Prop := ∀ x ∈ l, -9223372036854775808 ≤ x ∧ x < 9223372036854775808
theorem okA_len : ∀ {Ks : List Kn} {l : List Int}, okA Ks l = true → l.length = Ks.length
  | [], [], _ => rfl
  | K :: Ks, v :: l, h => by
    simp only [okA, Bool.and_eq_true] at h
    simp [okA_len h.2]
  | [], _ :: _, h => by simp [okA] at h
  | _ :: _, [], h => by simp [okA] at h
theorem fm_lt (K : Kn) : K.fm < 4294967296 := by cases K <;> decide
theorem and_le {a b : Nat} (h : a &&& b = a) : a ≤ b := by rw [← h]; exact Nat.and_le_right
theorem bit_lt (K : Kn) (v : Int) (h : K.ok v = true) : 0 ≤ K.bit v ∧ K.bit v < 4294967296 := by
  obtain ⟨h0, h1⟩ := K.bit_in v h
  have := and_le h1
  have := fm_lt K
  omega
theorem or_u32 (a b : Nat) (ha : a < 4294967296) (hb : b < 4294967296) : Go.bits .or .u32 (a : Int) (b : Int) = ((a ||| b : Nat) : Int) := by
  have hl : a ||| b < 2 ^ 32 := Nat.or_lt_two_pow (n := 32) ha hb
  rw [show Go.bits .or .u32 (a : Int) (b : Int) = IntKind.u32.wrap ((BitVec.ofInt 32 (a : Int) ||| BitVec.ofInt 32 (b : Int)).toNat : Int) from rfl]
  rw [BitVec.ofInt_natCast, BitVec.ofInt_natCast, BitVec.toNat_or, BitVec.toNat_ofNat, BitVec.toNat_ofNat, Nat.mod_eq_of_lt (by omega), Nat.mod_eq_of_lt (by omega), IntKind.wrap_u32]
  omega
theorem orA_lt : ∀ {Ks : List Kn} {l : List Int} {n : Nat}, n < 4294967296 → okA Ks l = true → orA n Ks l < 4294967296
  | [], [], n, h, _ => h
  | K :: Ks, v :: l, n, h, ho => by
    simp only [okA, Bool.and_eq_true] at ho
    have := bit_lt K v ho.1
    show orA (n ||| (K.bit v).toNat) Ks l < 4294967296
    exact orA_lt (Nat.or_lt_two_pow (n := 32) h (by omega : (K.bit v).toNat < 2 ^ 32)) ho.2
  | [], _ :: _, n, h, _ => h
  | _ :: _, [], n, h, _ => h
theorem rd_at {l : List Int} {i : Nat} (h : i < l.length) : rd l (i : Int) = l[i] := by
  unfold rd; simp [h]
theorem str_at {K : List Kn} {i : Nat} (h : i < K.length) : rdOf ByteArray.empty (K.map Kn.str) (i : Int) = (K[i]).str := by
  unfold rdOf; simp [h]
theorem succ_w {i : Nat} (h : i < 1000000) : wrap64 ((i : Int) + 1) = ((i + 1 : Nat) : Int) := by
  rw [wrap64_id (by omega) (by omega)]; omega
theorem ks_len (i : Nat) : (ks i).length ≤ 3 := by
  have h : ∀ i : Fin 66, (ks i.val).length ≤ 3 := by decide +kernel
  by_cases c : i < 66
  · exact h ⟨i, c⟩
  · have hn : ksL.length ≤ i := by rw [show ksL.length = 66 by decide +kernel]; omega
    unfold ks; rw [List.getD_eq_getElem?_getD, List.getElem?_eq_none hn]; simp
theorem bs_lt (i : Nat) : bs i < 4294967296 := by
  have h : ∀ i : Fin 66, bs i.val < 4294967296 := by decide +kernel
  by_cases c : i < 66
  · exact h ⟨i, c⟩
  · have hn : bsL.length ≤ i := by rw [show bsL.length = 66 by decide +kernel]; omega
    unfold bs; rw [List.getD_eq_getElem?_getD, List.getElem?_eq_none hn]; decide
theorem code_l0 (K : List Kn) (op : Int) (l : List Int) (hl : l.length = K.length) (hw : I64 l) (hK : K.length ≤ 10) : ∀ (d i k acc : Nat), i + d = K.length → d + 320 ≤ k → acc < 4294967296 →
    ∃ g, isa_code.l0 k (acc : Int) (K.map Kn.str) (K.length : Int) (i : Int) op l = some (g, okA (K.drop i) (l.drop i)) ∧ (okA (K.drop i) (l.drop i) = true → g = ((orA acc (K.drop i) (l.drop i) : Nat) : Int))
  | 0, i, k, acc, hd, hk, ha => by
    obtain ⟨k, rfl⟩ : ∃ m, k = m + 1 := ⟨k - 1, by omega⟩
    unfold isa_code.l0
    rw [if_neg (by omega), List.drop_eq_nil_of_le (by omega), List.drop_eq_nil_of_le (by omega)]
    exact ⟨_, rfl, fun _ => rfl⟩
  | d + 1, i, k, acc, hd, hk, ha => by
    obtain ⟨k, rfl⟩ : ∃ m, k = m + 1 := ⟨k - 1, by omega⟩
    have hi : i < K.length := by omega
    have hi2 : i < l.length := by omega
    unfold isa_code.l0
    rw [if_pos (by omega), if_pos (by omega), if_pos (by rw [List.length_map]; omega), if_pos (by omega), str_at hi, rd_at hi2, List.drop_eq_getElem_cons hi, List.drop_eq_getElem_cons hi2]
    obtain ⟨g, e, hg⟩ := put_is (K[i]) (l[i]) (hw _ (List.getElem_mem hi2)) (k := k) (by omega)
    rw [e, Option.bind_some]
    by_cases c : (K[i]).ok (l[i]) = true
    · rw [if_pos c, hg c]
      have hb := bit_lt _ _ c
      have eb : (K[i]).bit (l[i]) = (((K[i]).bit (l[i])).toNat : Int) := by omega
      rw [eb, or_u32 _ _ ha (by omega), succ_w (by omega)]
      obtain ⟨g', e', hg'⟩ := code_l0 K op l hl hw hK d (i + 1) k _ (by omega) (by omega) (Nat.or_lt_two_pow (n := 32) ha (by omega : ((K[i]).bit (l[i])).toNat < 2 ^ 32))
      refine ⟨g', ?_, ?_⟩
      · rw [e']; simp only [okA, c, Bool.true_and]
      · intro h; simp only [okA, c, Bool.true_and] at h; rw [hg' h]; rfl
    · rw [if_neg c]
      have c' : (K[i]).ok (l[i]) = false := Bool.eq_false_iff.2 c
      refine ⟨0, ?_, ?_⟩
      · simp only [okA, c', Bool.false_and]
      · intro h; simp only [okA, c', Bool.false_and] at h; cases h
/-- An instruction's bits, if it may be. -/
def enc (op : Int) (l : List Int) : Option Nat := if (0 ≤ op ∧ op < 66) ∧ okA (ks op.toNat) l = true then some (orA (bs op.toNat) (ks op.toNat) l) else none
theorem enc_lt {op : Int} {l : List Int} {n : Nat} (h : enc op l = some n) : n < 4294967296 := by
  unfold enc at h
  split at h
  · rename_i c; cases h; exact orA_lt (bs_lt _) c.2
  · cases h
theorem fin_of {op : Int} (h : 0 ≤ op ∧ op < 66) : ∃ i : Fin 66, op = ((i.val : Nat) : Int) := ⟨⟨op.toNat, by omega⟩, by simp; omega⟩
theorem code_is (op : Int) (l : List Int) (hw : I64 l) {k : Nat} (hk : 400 ≤ k) : ∃ g, isa_code.f k op l = some (g, (enc op l).isSome) ∧ ∀ n, enc op l = some n → g = (n : Int) := by
  unfold isa_code.f
  by_cases c : 0 ≤ op ∧ op < 66
  · obtain ⟨i, rfl⟩ := fin_of c
    rw [p_name i, Option.bind_some, if_neg (p_full i), p_bits i, Option.bind_some, p_list i, Option.bind_some, List.length_map]
    unfold enc
    rw [Int.toNat_natCast]
    by_cases c2 : l.length = (ks i.val).length
    · rw [if_pos (by omega)]
      obtain ⟨g, e, hg⟩ := code_l0 (ks i.val) ((i.val : Nat) : Int) l c2 hw (by have := ks_len i.val; omega) (ks i.val).length 0 k (bs i.val) (by omega) (by have := ks_len i.val; omega) (bs_lt _)
      rw [List.drop_zero, List.drop_zero] at e hg
      refine ⟨g, ?_, ?_⟩
      · rw [show ((0 : Nat) : Int) = 0 from rfl] at e
        rw [e]
        by_cases c3 : okA (ks i.val) l = true
        · rw [if_pos ⟨c, c3⟩, c3]; rfl
        · rw [if_neg (fun h => c3 h.2), Bool.eq_false_iff.2 c3]; rfl
      · intro n h
        split at h
        · rename_i c4; cases h; exact hg c4.2
        · cases h
    · rw [if_neg (by omega), if_neg (fun h => c2 (okA_len h.2))]
      exact ⟨0, rfl, fun n h => by cases h⟩
  · rw [(p_out op c).1, Option.bind_some, if_pos (by decide +kernel)]
    unfold enc
    rw [if_neg (fun h => c h.1)]
    exact ⟨0, rfl, fun n h => by cases h⟩
/-- The bytes of bits. -/
def byts (op : Int) (n : Nat) : List Int := if op < 43 then [(n : Int) / 256 % 256, (n : Int) % 256] else [(n : Int) / 16777216 % 256, (n : Int) / 65536 % 256, (n : Int) / 256 % 256, (n : Int) % 256]
def encB (op : Int) (l : List Int) : List Int × Bool := match enc op l with
  | some n => (byts op n, true)
  | none => ([], false)
theorem encode_is (op : Int) (l : List Int) (hw : I64 l) {k : Nat} (hk : 400 ≤ k) : isa_Encode.f k op l = some (encB op l) := by
  unfold isa_Encode.f encB
  obtain ⟨g, e, hg⟩ := code_is op l hw hk
  rw [e, Option.bind_some]
  cases h : enc op l with
  | none => rfl
  | some n =>
    have hop : 0 ≤ op ∧ op < 66 := by
      unfold enc at h
      split at h
      · rename_i c; exact c.1
      · cases h
    obtain ⟨i, rfl⟩ := fin_of hop
    rw [hg n h]
    simp only [Option.isSome_some, if_true, Option.bind_some]
    rw [p_size i, Option.bind_some]
    unfold sz byts
    by_cases c : i.val < 43
    · rw [if_pos c, if_pos (by omega : ((i.val : Nat) : Int) < 43), show wrap64 (4 - 2) = 2 from wrap64_id (by decide) (by decide)]
      rfl
    · rw [if_neg c, if_neg (by omega : ¬ ((i.val : Nat) : Int) < 43), show wrap64 (4 - 4) = 0 from wrap64_id (by decide) (by decide)]
      rfl
end Go.Proofs.YticofbaajdgabaaDoor.X

namespace Go.Proofs.YticofbaajdgabaaDoor.X
set_option linter.unusedVariables false
set_option linter.unusedSimpArgs false
open Go.RowKit Go.PA Go.Proofs.YticofbaajdgabaaDoorW.PrintWords Go.Proofs.YticofbaajdgabaaDoorW.PrintLast Go.Proofs.YticofbaajdgabaaDoorW.PrintMore
theorem within_is (a n : Int) (hn : 0 < n ∧ n < 4611686018427387904) : letterpresslaw2_within.f a n = some (a % n) := by
  unfold letterpresslaw2_within.f
  rw [if_neg (by omega)]
  have hm0 : 0 ≤ a % n := Int.emod_nonneg _ (by omega)
  have hm1 : a % n < n := Int.emod_lt_of_pos _ hn.1
  have ht : Int.tmod a n = if 0 ≤ a then a % n else if a % n = 0 then 0 else a % n - n := by
    rw [Int.tmod_eq_emod]
    by_cases h0 : 0 ≤ a
    · simp [h0]
    · by_cases hd : n ∣ a
      · rw [if_pos (Or.inr hd), if_neg h0, Int.emod_eq_zero_of_dvd hd]; simp
      · have : a % n ≠ 0 := fun h => hd (Int.dvd_of_emod_eq_zero h)
        rw [if_neg (by rintro (h | h); exact h0 h; exact hd h), if_neg h0, if_neg this]
        omega
  rw [ht]
  by_cases h0 : 0 ≤ a
  · rw [if_pos h0, if_neg (by omega)]
  · rw [if_neg h0]
    by_cases h1 : a % n = 0
    · rw [if_pos h1, if_neg (by omega), h1]
    · rw [if_neg h1, if_pos (by omega), wrap64_id (by omega) (by omega)]
      congr 1; omega
theorem pick9 {l : List Int} (hl : l.length = 9) {K : Kn} {g : Int → Int} (h : ∀ t : Fin 9, K.ok (g (rd l ((t.val : Nat) : Int))) = true ∧ -9223372036854775808 ≤ g (rd l ((t.val : Nat) : Int)) ∧ g (rd l ((t.val : Nat) : Int)) < 9223372036854775808) (n : Int) :
    ∃ v, (if 0 ≤ n % 9 then (if n % 9 < (l.length : Int) then (some (g (rd l (n % 9)))) else none) else none) = some v ∧ K.ok v = true ∧ -9223372036854775808 ≤ v ∧ v < 9223372036854775808 := by
  have h0 : 0 ≤ n % 9 ∧ n % 9 < 9 := by omega
  rw [if_pos h0.1, if_pos (by rw [hl]; omega)]
  have e : n % 9 = (((⟨(n % 9).toNat, by omega⟩ : Fin 9).val : Nat) : Int) := by simp; omega
  refine ⟨_, rfl, ?_⟩
  rw [e]
  exact h _
/-- An operand of the law may be. -/
theorem operand_is (K : Kn) (n : Int) {k : Nat} (hk : 10 ≤ k) : ∃ v, letterpresslaw2_Operand.f k K.str n = some v ∧ K.ok v = true ∧ -9223372036854775808 ≤ v ∧ v < 9223372036854775808 := by
  obtain ⟨k, rfl⟩ : ∃ m, k = m + 10 := ⟨k - 10, by omega⟩
  cases K
  all_goals
    simp (decide := true) only [letterpresslaw2_Operand.f, letterpresslaw2_Operand.j0, letterpresslaw2_Operand.j1, letterpresslaw2_Operand.j2, letterpresslaw2_Operand.j3, Kn.toL, Kn.lst, if_true, if_false, Bool.true_eq_false, Bool.false_eq_true, within_is, (Option.bind_some : ∀ {α β} (a : α) (f : α → Option β), (some a).bind f = f a)]
  case O1 => exact ⟨_, rfl, by simp only [Kn.ok, decide_eq_true_eq]; omega, by omega, by omega⟩
  case I2 | O2 => exact ⟨_, rfl, by simp only [Kn.ok, decide_eq_true_eq]; omega, by omega, by omega⟩
  case T8 =>
    rw [wrap64_id (n := n % 256 - 128) (by omega) (by omega), wrap64_id (n := 2 * (n % 256 - 128)) (by omega) (by omega)]
    exact ⟨_, rfl, by simp only [Kn.ok, decide_eq_true_eq]; omega, by omega, by omega⟩
  case L20 =>
    rw [wrap64_id (by omega) (by omega)]
    exact ⟨_, rfl, by simp only [Kn.ok, decide_eq_true_eq]; omega, by omega, by omega⟩
  case T15 =>
    rw [wrap64_id (n := n % 32768 - 16384) (by omega) (by omega), wrap64_id (n := 2 * (n % 32768 - 16384)) (by omega) (by omega)]
    exact ⟨_, rfl, by simp only [Kn.ok, decide_eq_true_eq]; omega, by omega, by omega⟩
  case T24 =>
    rw [wrap64_id (n := n % 16777216 - 8388608) (by omega) (by omega), wrap64_id (n := 2 * (n % 16777216 - 8388608)) (by omega) (by omega)]
    exact ⟨_, rfl, by simp only [Kn.ok, decide_eq_true_eq]; omega, by omega, by omega⟩
  case M2 => exact pick9 rfl (g := fun x => wrap64 (2 * x)) (by decide +kernel) n
  case M4 => exact pick9 rfl (g := fun x => wrap64 (4 * x)) (by decide +kernel) n
  all_goals exact pick9 rfl (g := fun x => x) (by decide +kernel) n
theorem make_l0 (K : List Kn) (ns : List Int) (hK : K.length ≤ 10) : ∀ (d i k : Nat) (op : Int) (acc : List Int), i + d = K.length → d + 20 ≤ k → acc.length = i → I64 acc →
    ∃ l, letterpresslaw2_Make.l0 k ns (K.map Kn.str) (i : Int) op acc = some (op, acc ++ l) ∧ okA (K.drop i) l = true ∧ I64 (acc ++ l)
  | 0, i, k, op, acc, hd, hk, ha, hw => by
    obtain ⟨k, rfl⟩ : ∃ m, k = m + 1 := ⟨k - 1, by omega⟩
    rw [letterpresslaw2_Make.l0, if_neg (by rw [List.length_map]; omega), List.drop_eq_nil_of_le (by omega)]
    exact ⟨[], by simp, rfl, by simpa using hw⟩
  | d + 1, i, k, op, acc, hd, hk, ha, hw => by
    obtain ⟨k, rfl⟩ : ∃ m, k = m + 1 := ⟨k - 1, by omega⟩
    have hi : i < K.length := by omega
    have key : ∀ n : Int, ∃ l, ((letterpresslaw2_Operand.f k (K[i]).str n).bind fun t => (if acc.length < 17592186044416 then (letterpresslaw2_Make.l0 k ns (K.map Kn.str) (wrap64 ((i : Int) + 1)) op (acc ++ [t])) else none)) = some (op, acc ++ l) ∧ okA (K.drop i) l = true ∧ I64 (acc ++ l) := by
      intro n
      obtain ⟨v, e, hv, hb⟩ := operand_is (K[i]) n (k := k) (by omega)
      rw [e, Option.bind_some, if_pos (by omega), succ_w (by omega)]
      obtain ⟨l, e2, ho, hw2⟩ := make_l0 K ns hK d (i + 1) k op (acc ++ [v]) (by omega) (by omega) (by simp [ha]) (by
        intro x hx
        rcases List.mem_append.1 hx with h | h
        · exact hw x h
        · rw [List.mem_singleton.1 h]; exact hb)
      refine ⟨v :: l, ?_, ?_, ?_⟩
      · rw [e2]; simp
      · rw [List.drop_eq_getElem_cons hi]; simp only [okA, hv, ho, Bool.and_self]
      · simpa using hw2
    rw [letterpresslaw2_Make.l0, if_pos (by rw [List.length_map]; omega)]
    by_cases c : (i : Int) < (ns.length : Int)
    · rw [if_pos c, if_pos (by omega), str_at hi]; exact key _
    · rw [if_neg c, if_pos (by omega), str_at hi]; exact key _
/-- An instruction of the law's: one that may be. -/
theorem make_is (op : Int) (ns : List Int) {k : Nat} (hk : 100 ≤ k) : ∃ l, letterpresslaw2_Make.f k op ns = some (op % 66, l) ∧ (0 ≤ op % 66 ∧ op % 66 < 66) ∧ okA (ks (op % 66).toNat) l = true ∧ I64 l := by
  have hr : 0 ≤ op % 66 ∧ op % 66 < 66 := by omega
  unfold letterpresslaw2_Make.f letterpressref2_Kinds.f
  rw [within_is op 66 (by decide), Option.bind_some]
  generalize op % 66 = o at *
  obtain ⟨i, rfl⟩ := fin_of hr
  rw [r_find i, Option.bind_some]
  simp only [Option.bind_some]
  rw [words_up (by omega) (r_words i), Option.bind_some, Int.toNat_natCast]
  obtain ⟨l, e, ho, hw⟩ := make_l0 (ks i.val) ns (by have := ks_len i.val; omega) (ks i.val).length 0 k ((i.val : Nat) : Int) [] (by omega) (by have := ks_len i.val; omega) rfl (fun x hx => by cases hx)
  rw [show ((0 : Nat) : Int) = 0 from rfl] at e
  exact ⟨l, by rw [e]; rfl, hr, ho, by simpa using hw⟩
theorem make_enc {o : Int} {l : List Int} (h : 0 ≤ o ∧ o < 66) (ho : okA (ks o.toNat) l = true) : enc o l = some (orA (bs o.toNat) (ks o.toNat) l) := by
  unfold enc; rw [if_pos ⟨h, ho⟩]
/-- Are two instructions the same? -/
theorem same_l0 (a b : List Int) (o p : Int) (hl : a.length = b.length) (hs : a.length ≤ 1000) : ∀ (d i k : Nat), i + d = a.length → d + 2 ≤ k → letterpressref2_Same.l0 k (i : Int) o a p b = some (decide (a.drop i = b.drop i))
  | 0, i, k, hd, hk => by
    obtain ⟨k, rfl⟩ : ∃ m, k = m + 1 := ⟨k - 1, by omega⟩
    rw [letterpressref2_Same.l0, if_neg (by omega), List.drop_eq_nil_of_le (by omega), List.drop_eq_nil_of_le (by omega)]
    simp
  | d + 1, i, k, hd, hk => by
    obtain ⟨k, rfl⟩ : ∃ m, k = m + 1 := ⟨k - 1, by omega⟩
    have hi : i < a.length := by omega
    have hi2 : i < b.length := by omega
    rw [letterpressref2_Same.l0, if_pos (by omega), if_pos (by omega), if_pos (by omega), rd_at hi, rd_at hi2, List.drop_eq_getElem_cons hi, List.drop_eq_getElem_cons hi2]
    by_cases c : a[i] = b[i]
    · rw [if_pos c, succ_w (by omega), same_l0 a b o p hl hs d (i + 1) k (by omega) (by omega)]
      exact congrArg some (decide_eq_decide.2 (by rw [c]; simp only [List.cons.injEq, true_and]))
    · rw [if_neg c]; congr 1; symm; exact decide_eq_false (fun h => c (List.cons.inj h).1)
theorem same_is (o p : Int) (a b : List Int) (hs : a.length ≤ 1000) {k : Nat} (hk : 1010 ≤ k) : letterpressref2_Same.f k o a p b = some (decide (o = p ∧ a = b)) := by
  obtain ⟨k, rfl⟩ : ∃ m, k = m + 1 := ⟨k - 1, by omega⟩
  unfold letterpressref2_Same.f
  by_cases c : o = p
  · rw [if_pos c]
    by_cases d : a.length = b.length
    · have e := same_l0 a b o p d hs a.length 0 k (by omega) (by omega)
      rw [List.drop_zero, List.drop_zero, show ((0 : Nat) : Int) = 0 from rfl] at e
      rw [letterpressref2_Same.j0, show ((a.length : Int) != (b.length : Int)) = false by simp [d], if_neg (by decide), e]
      simp [c]
    · rw [letterpressref2_Same.j0, show ((a.length : Int) != (b.length : Int)) = true by simp; omega, if_pos rfl]
      congr 1; symm; apply decide_eq_false; rintro ⟨_, h⟩; exact d (by rw [h])
  · rw [if_neg c, letterpressref2_Same.j0, if_pos rfl]
    simp [c]
end Go.Proofs.YticofbaajdgabaaDoor.X

namespace Go.Proofs.YticofbaajdgabaaDoor.X
set_option linter.unusedVariables false
set_option linter.unusedSimpArgs false
open Go.RowKit Go.PA Go.Proofs.YticofbaajdgabaaDoorW.PrintWords Go.Proofs.YticofbaajdgabaaDoorW.PrintLast Go.Proofs.YticofbaajdgabaaDoorW.PrintMore
def U8 (l : List Int) : Prop := ∀ x ∈ l, 0 ≤ x ∧ x < 256
theorem u8_num (x : Int) (h : 0 ≤ x ∧ x < 256) : ((UInt8.ofNat x.toNat).toNat : Int) = x := by
  rw [UInt8.toNat_ofNat', Nat.mod_eq_of_lt (by omega)]; omega
theorem str_inj : ∀ {a b : List Int}, U8 a → U8 b → (a.map fun n => UInt8.ofNat n.toNat) = (b.map fun n => UInt8.ofNat n.toNat) → a = b
  | [], [], _, _, _ => rfl
  | [], _ :: _, _, _, h => by simp at h
  | _ :: _, [], _, _, h => by simp at h
  | x :: a, y :: b, ha, hb, h => by
    simp only [List.map_cons, List.cons.injEq] at h
    have e : x = y := by rw [← u8_num x (ha x (List.mem_cons_self ..)), ← u8_num y (hb y (List.mem_cons_self ..)), h.1]
    rw [e, str_inj (fun z hz => ha z (List.mem_cons_of_mem _ hz)) (fun z hz => hb z (List.mem_cons_of_mem _ hz)) h.2]
theorem strOf_iff {a b : List Int} (ha : U8 a) (hb : U8 b) : (strOfNums a).toList = (strOfNums b).toList ↔ a = b := by
  rw [Go.ByteArray.toList_eq, Go.ByteArray.toList_eq, strOfNums_data, strOfNums_data]
  exact ⟨str_inj ha hb, fun h => by rw [h]⟩
/-- The word that bytes are. -/
def wd : Nat → List Int → Nat
  | n, [] => n
  | n, x :: l => wd (n * 256 + x.toNat) l
def szOf (b : Int) : Int := if b / 16 < 8 ∧ b / 16 % 2 = 1 then 4 else 2
theorem and1_u8 (b : Int) (h : 0 ≤ b ∧ b < 256) : Go.bits .and .u8 (b / 16) 1 = b / 16 % 2 := by
  have h : ∀ c : Fin 16, Go.bits .and .u8 ((c.val : Nat) : Int) 1 = ((c.val : Nat) : Int) % 2 := by decide +kernel
  have e : b / 16 = (((⟨(b / 16).toNat, by omega⟩ : Fin 16).val : Nat) : Int) := by simp; omega
  rw [e]; exact h _
theorem size_is (b : Int) (h : 0 ≤ b ∧ b < 256) : isa_size.f b = some (szOf b) := by
  unfold isa_size.f szOf
  have e := and1_u8 b h
  rw [e]
  by_cases c : b / 16 < 8
  · rw [if_pos c]
    by_cases d : b / 16 % 2 = 1
    · rw [if_pos d, if_pos ⟨c, d⟩]
    · rw [if_neg d, if_neg (fun h => d h.2)]
  · rw [if_neg c, if_neg (fun h => c h.1)]
def vals (i : Nat) (n : Nat) : List Int := (ks i).map (fun K => K.val (n : Int))
def dgo (n : Nat) (s : Int) : Nat → Nat → Option Nat
  | 0, _ => none
  | d + 1, i => if sz i = s ∧ enc (i : Int) (vals i n) = some n then some i else dgo n s d (i + 1)
def decW (n : Nat) (s : Int) : Int × List Int × Int × Bool := match dgo n s 66 0 with
  | some i => ((i : Int), vals i n, s, true)
  | none => (0, [], 0, false)
/-- What bytes are. -/
def dec (b : List Int) : Int × List Int × Int × Bool :=
  if 2 ≤ b.length ∧ szOf (rd b 0) ≤ b.length then decW (wd 0 (b.take (szOf (rd b 0)).toNat)) (szOf (rd b 0)) else (0, [], 0, false)
theorem val_wide (K : Kn) (n : Nat) (h : n < 4294967296) : -9223372036854775808 ≤ K.val (n : Int) ∧ K.val (n : Int) < 9223372036854775808 := by
  cases K
  case C8 => simp only [Kn.val]; have := @B_wide ((n : Int) / 1024 % 2) ((n : Int) / 256 % 4) ((n : Int) % 256); omega
  all_goals
    simp only [Kn.val, sg]
    omega
theorem vals_wide (i n : Nat) (h : n < 4294967296) : I64 (vals i n) := by
  intro x hx
  obtain ⟨K, _, rfl⟩ := List.mem_map.1 hx
  exact val_wide K n h
theorem wd_lt : ∀ (l : List Int) (n m : Nat), U8 l → n < 256 ^ m → wd n l < 256 ^ (m + l.length)
  | [], n, m, _, h => by simpa [wd] using h
  | x :: l, n, m, hl, h => by
    have hx := hl x (List.mem_cons_self ..)
    have e : 256 ^ (m + 1) = 256 * 256 ^ m := by rw [Nat.pow_succ, Nat.mul_comm]
    have := wd_lt l (n * 256 + x.toNat) (m + 1) (fun z hz => hl z (List.mem_cons_of_mem _ hz)) (by omega)
    simp only [wd, List.length_cons]
    rw [show m + (l.length + 1) = m + 1 + l.length by omega]
    exact this
theorem dl0 (s : Int) (b : List Int) (hb : U8 b) (hl : b.length ≤ 4) : ∀ (d i k acc : Nat), i + d = b.length → d + 2 ≤ k → acc < 256 ^ i →
    isa_Decode.l0 k s (acc : Int) b (b.length : Int) (i : Int) = isa_Decode.l0 (k - d) s ((wd acc (b.drop i) : Nat) : Int) b (b.length : Int) (b.length : Int)
  | 0, i, k, acc, hd, hk, ha => by
    rw [List.drop_eq_nil_of_le (by omega), show i = b.length by omega]; rfl
  | d + 1, i, k, acc, hd, hk, ha => by
    obtain ⟨k, rfl⟩ : ∃ m, k = m + 1 := ⟨k - 1, by omega⟩
    have hi : i < b.length := by omega
    have hx := hb _ (List.getElem_mem hi)
    have hp : (256 : Nat) ^ i ≤ 256 ^ 3 := Nat.pow_le_pow_right (by decide) (by omega)
    have ho : Go.bits .or .u32 (((acc : Int) * 256) % 4294967296) (b[i] % 4294967296) = ((acc * 256 + (b[i]).toNat : Nat) : Int) := by
      have e1 : (acc : Int) * 256 % 4294967296 = ((acc * 256 : Nat) : Int) := by omega
      have e2 : b[i] % 4294967296 = (((b[i]).toNat : Nat) : Int) := by omega
      rw [e1, e2, or_u32 _ _ (by omega) (by omega)]
      congr 1
      rw [show acc * 256 = 2 ^ 8 * acc by omega, Nat.two_pow_add_eq_or_of_lt (by omega)]
    rw [isa_Decode.l0, if_pos (by omega), if_pos (by omega), if_pos (by omega), rd_at hi, ho, succ_w (by omega), dl0 s b hb hl d (i + 1) k _ (by omega) (by omega) (by rw [Nat.pow_succ]; omega), show k + 1 - (d + 1) = k - d by omega, List.drop_eq_getElem_cons hi]
    rfl
theorem dl2 (s : Int) (n : Nat) (hn : n < 4294967296) (i : Nat) (K : List Kn) (hK : K.length ≤ 10) : ∀ (d j k : Nat), j + d = K.length → d + 20 ≤ k →
    isa_Decode.l2 k s (n : Int) 66 (i : Int) (K.map Kn.str) (K.length : Int) (j : Int) (i : Int) ((K.map (fun K => K.val (n : Int))).take j) = isa_Decode.l2 (k - d) s (n : Int) 66 (i : Int) (K.map Kn.str) (K.length : Int) (K.length : Int) (i : Int) (K.map (fun K => K.val (n : Int)))
  | 0, j, k, hd, hk => by
    rw [List.take_of_length_le (by rw [List.length_map]; omega), show j = K.length by omega]; rfl
  | d + 1, j, k, hd, hk => by
    obtain ⟨k, rfl⟩ : ∃ m, k = m + 1 := ⟨k - 1, by omega⟩
    have hj : j < K.length := by omega
    rw [isa_Decode.l2, if_pos (by omega), if_pos (by omega), if_pos (by rw [List.length_map]; omega), str_at hj, get_is _ _ (by omega) (by omega), Option.bind_some, if_pos (by rw [List.length_take]; omega), succ_w (by omega)]
    have e : (K.map (fun K => K.val (n : Int))).take j ++ [(K[j]).val (n : Int)] = (K.map (fun K => K.val (n : Int))).take (j + 1) := by
      rw [List.take_succ_eq_append_getElem (by rw [List.length_map]; omega), List.getElem_map]
    rw [e, dl2 s n hn i K hK d (j + 1) k (by omega) (by omega), show k + 1 - (d + 1) = k - d by omega]
theorem dl1 (s : Int) (n : Nat) (hn : n < 4294967296) : ∀ (d i k : Nat), i + d = 66 → 6 * d + 500 ≤ k →
    isa_Decode.l1 k s (n : Int) 66 (i : Int) = some (match dgo n s d i with | some i => ((i : Int), vals i n, s, true) | none => (0, [], 0, false))
  | 0, i, k, hd, hk => by
    obtain ⟨k, rfl⟩ : ∃ m, k = m + 1 := ⟨k - 1, by omega⟩
    rw [isa_Decode.l1, if_neg (by omega)]; rfl
  | d + 1, i, k, hd, hk => by
    obtain ⟨k, rfl⟩ : ∃ m, k = m + 1 := ⟨k - 1, by omega⟩
    have hi : i < 66 := by omega
    rw [isa_Decode.l1, if_pos (by omega), p_size ⟨i, hi⟩, Option.bind_some]
    by_cases c : sz i = s
    · rw [if_pos c, p_list ⟨i, hi⟩, Option.bind_some, List.length_map]
      have hk3 := ks_len i
      have e := dl2 s n hn i (ks i) (by omega) (ks i).length 0 k (by omega) (by omega)
      rw [List.take_zero, show ((0 : Nat) : Int) = 0 from rfl] at e
      rw [e]
      obtain ⟨m, hm⟩ : ∃ m, k - (ks i).length = m + 1 := ⟨k - (ks i).length - 1, by omega⟩
      obtain ⟨g, eg, hg⟩ := code_is (i : Int) (vals i n) (vals_wide i n hn) (k := m) (by omega)
      rw [hm, isa_Decode.l2, if_neg (by omega), show (ks i).map (fun K => K.val (n : Int)) = vals i n from rfl, eg, Option.bind_some]
      have ih := dl1 s n hn d (i + 1) m (by omega) (by omega)
      simp only []
      unfold dgo
      cases h : enc (i : Int) (vals i n) with
      | none =>
        rw [if_neg (by simp), if_neg (by simp), succ_w (by omega), ih]
      | some p =>
        rw [if_pos (by simp), hg p h]
        by_cases c2 : p = n
        · subst c2
          rw [if_pos rfl, if_pos ⟨c, rfl⟩]
          unfold slices_Clone_int_int.f
          simp only [Option.bind_some]
          rw [if_pos (by simp [vals]; omega), Option.bind_some]; rfl
        · rw [if_neg (by omega), if_neg (fun h => c2 (Option.some.inj h.2)), succ_w (by omega), ih]
    · rw [if_neg c, succ_w (by omega), dl1 s n hn d (i + 1) k (by omega) (by omega), show dgo n s (d + 1) i = dgo n s d (i + 1) from if_neg (fun h => c h.1)]
theorem szOf_two (b : Int) : szOf b = 2 ∨ szOf b = 4 := by unfold szOf; split <;> simp
theorem decode_is (b : List Int) (hb : U8 b) (hl : b.length < 1000000) {k : Nat} (hk : 1000 ≤ k) : isa_Decode.f k b = some (dec b) := by
  obtain ⟨k, rfl⟩ : ∃ m, k = m + 1 := ⟨k - 1, by omega⟩
  unfold isa_Decode.f dec
  by_cases c : (b.length : Int) < 2
  · rw [if_pos c, isa_Decode.j0, if_pos rfl, if_neg (by omega)]
  · have h0 : 0 < b.length := by omega
    have hx := hb _ (List.getElem_mem h0)
    have er : rd b 0 = b[0] := rd_at h0
    rw [if_neg c, if_pos (by omega), er, size_is _ hx, Option.bind_some]
    have hs := szOf_two (b[0])
    generalize hs0 : szOf (b[0]) = s at *
    by_cases d : (b.length : Int) < s
    · rw [isa_Decode.j0, if_pos (decide_eq_true d), if_neg (by omega)]
    · rw [isa_Decode.j0, if_neg (by rw [decide_eq_false d]; decide), if_pos (by omega), er, size_is _ hx, hs0, Option.bind_some, if_pos (by omega), if_pos (by omega), if_pos (by omega)]
      have hbt : U8 (b.take s.toNat) := fun x hx => hb x (List.mem_of_mem_take hx)
      have hlt : (b.take s.toNat).length = s.toNat := by rw [List.length_take]; omega
      have e := dl0 s (b.take s.toNat) hbt (by omega) (b.take s.toNat).length 0 k 0 (by omega) (by omega) (by decide)
      rw [List.drop_zero, show ((0 : Nat) : Int) = 0 from rfl] at e
      rw [e]
      obtain ⟨m, hm⟩ : ∃ m, k - (b.take s.toNat).length = m + 1 := ⟨k - (b.take s.toNat).length - 1, by omega⟩
      have hw : wd 0 (b.take s.toNat) < 4294967296 := by
        have h1 := wd_lt (b.take s.toNat) 0 0 hbt (by decide)
        rw [hlt] at h1
        have h2 : (256 : Nat) ^ (0 + s.toNat) ≤ 256 ^ 4 := Nat.pow_le_pow_right (by decide) (by omega)
        omega
      rw [hm, isa_Decode.l0, if_neg (by omega), show isa_table.f = some tableL from rfl, Option.bind_some, p_len, show (0 : Int) = ((0 : Nat) : Int) from rfl, dl1 s _ hw 66 0 m (by omega) (by omega)]
      rfl
theorem short_lt : ∀ i : Fin 66, i.val < 43 → bs i.val < 65536 ∧ ∀ K ∈ ks i.val, K.fm < 65536 := by decide +kernel
theorem orA_lt16 : ∀ {Ks : List Kn} {l : List Int} {n : Nat}, n < 65536 → (∀ K ∈ Ks, K.fm < 65536) → okA Ks l = true → orA n Ks l < 65536
  | [], [], n, h, _, _ => h
  | K :: Ks, v :: l, n, h, hm, ho => by
    simp only [okA, Bool.and_eq_true] at ho
    have h1 := and_le (K.bit_in v ho.1).2
    have h2 := hm K (List.mem_cons_self ..)
    show orA (n ||| (K.bit v).toNat) Ks l < 65536
    exact orA_lt16 (Nat.or_lt_two_pow (n := 16) h (by omega : (K.bit v).toNat < 2 ^ 16)) (fun K hK => hm K (List.mem_cons_of_mem _ hK)) ho.2
  | [], _ :: _, n, h, _, _ => h
  | _ :: _, [], n, h, _, _ => h
theorem enc_some {op : Int} {l : List Int} {n : Nat} (h : enc op l = some n) : (0 ≤ op ∧ op < 66) ∧ okA (ks op.toNat) l = true ∧ n = orA (bs op.toNat) (ks op.toNat) l := by
  unfold enc at h
  split at h
  · rename_i c; cases h; exact ⟨c.1, c.2, rfl⟩
  · cases h
theorem enc_lt16 {i : Nat} {l : List Int} {n : Nat} (h : enc (i : Int) l = some n) (hi : i < 43) : n < 65536 := by
  obtain ⟨h1, h2, h3⟩ := enc_some h
  rw [Int.toNat_natCast] at h2 h3
  obtain ⟨a, b⟩ := short_lt ⟨i, by omega⟩ hi
  rw [h3]; exact orA_lt16 a b h2
theorem byts_len (i n : Nat) : ((byts (i : Int) n).length : Int) = sz i := by
  unfold byts sz
  by_cases c : i < 43
  · rw [if_pos (by omega), if_pos c]; rfl
  · rw [if_neg (by omega), if_neg c]; rfl
theorem byts_u8 (op : Int) (n : Nat) : U8 (byts op n) := by
  unfold byts
  intro x hx
  split at hx
  · simp only [List.mem_cons, List.not_mem_nil, or_false] at hx
    rcases hx with rfl | rfl <;> omega
  · simp only [List.mem_cons, List.not_mem_nil, or_false] at hx
    rcases hx with rfl | rfl | rfl | rfl <;> omega
/-- The word of an instruction's bytes is its bits. -/
theorem wd_byts {i : Nat} {l : List Int} {n : Nat} (h : enc (i : Int) l = some n) : wd 0 (byts (i : Int) n) = n := by
  unfold byts
  have h32 := enc_lt h
  by_cases c : i < 43
  · have := enc_lt16 h c
    rw [if_pos (by omega)]
    simp only [wd]; omega
  · rw [if_neg (by omega)]
    simp only [wd]; omega
theorem r_kinds : ∀ i : Fin 66, letterpressref2_Kinds.f ((i.val : Nat) : Int) = some (kd i.val) := by
  intro i; unfold letterpressref2_Kinds.f; rw [r_find i]; rfl
end Go.Proofs.YticofbaajdgabaaDoor.X

namespace Go.Proofs.YticofbaajdgabaaDoor.X
set_option linter.unusedVariables false
set_option linter.unusedSimpArgs false
open Go.RowKit Go.PA Go.Proofs.YticofbaajdgabaaDoorW.PrintWords Go.Proofs.YticofbaajdgabaaDoorW.PrintLast Go.Proofs.YticofbaajdgabaaDoorW.PrintMore
def fmA : List Kn → Nat
  | [] => 0
  | K :: Ks => K.fm ||| fmA Ks
def disj : List Kn → Bool
  | [] => true
  | K :: Ks => K.fm &&& fmA Ks == 0 && disj Ks
theorem orA_or : ∀ (Ks : List Kn) (l : List Int) (n : Nat), orA n Ks l = n ||| orA 0 Ks l
  | [], l, n => by simp [orA]
  | K :: Ks, [], n => by simp [orA]
  | K :: Ks, v :: l, n => by
    simp only [orA]
    rw [orA_or Ks l (n ||| (K.bit v).toNat), orA_or Ks l (0 ||| (K.bit v).toNat), Nat.zero_or, Nat.or_assoc]
/-- The operands' bits lie in the fields. -/
theorem orA_in : ∀ {Ks : List Kn} {l : List Int}, okA Ks l = true → orA 0 Ks l &&& fmA Ks = orA 0 Ks l
  | [], [], _ => rfl
  | K :: Ks, v :: l, ho => by
    simp only [okA, Bool.and_eq_true] at ho
    simp only [orA, fmA]
    rw [orA_or, Nat.zero_or, Nat.and_or_distrib_right, Nat.and_or_distrib_left, Nat.and_or_distrib_left, (K.bit_in v ho.1).2, orA_in ho.2]
    apply Nat.eq_of_testBit_eq
    intro i
    simp only [Nat.testBit_or, Nat.testBit_and]
    cases (K.bit v).toNat.testBit i <;> cases (orA 0 Ks l).testBit i <;> cases K.fm.testBit i <;> cases (fmA Ks).testBit i <;> rfl
  | [], _ :: _, h => by simp [okA] at h
  | _ :: _, [], h => by simp [okA] at h
/-- What lies in a field lies nowhere else. -/
theorem in_zero {x m c : Nat} (h : x &&& m = x) (hc : m &&& c = 0) : x &&& c = 0 := by
  rw [← h, Nat.and_assoc, hc, Nat.and_zero]
theorem vals_back : ∀ (Ks : List Kn) (l : List Int) (b : Nat), b &&& fmA Ks = 0 → disj Ks = true → okA Ks l = true → Ks.map (fun K => K.val ((orA b Ks l : Nat) : Int)) = l
  | [], [], b, _, _, _ => rfl
  | K :: Ks, v :: l, b, hb, hd, ho => by
    simp only [okA, Bool.and_eq_true] at ho
    simp only [disj, Bool.and_eq_true, beq_iff_eq] at hd
    simp only [fmA, Nat.and_or_distrib_left] at hb
    have hb1 : b &&& K.fm = 0 := by have := Nat.left_le_or (n := b &&& K.fm) (m := b &&& fmA Ks); omega
    have hb2 : b &&& fmA Ks = 0 := by have := Nat.right_le_or (n := b &&& K.fm) (m := b &&& fmA Ks); omega
    have hv := K.bit_in v ho.1
    have h1 : (b ||| (K.bit v).toNat) &&& fmA Ks = 0 := by
      rw [Nat.and_or_distrib_right, hb2, in_zero hv.2 hd.1]; rfl
    have ih := vals_back Ks l (b ||| (K.bit v).toNat) h1 hd.2 ho.2
    have hT : orA (b ||| (K.bit v).toNat) Ks l &&& K.fm = (K.bit v).toNat := by
      rw [orA_or, Nat.and_or_distrib_right, Nat.and_or_distrib_right, hb1, hv.2, in_zero (orA_in ho.2) (by rw [Nat.and_comm]; exact hd.1)]
      simp
    have hval : K.val ((orA (b ||| (K.bit v).toNat) Ks l : Nat) : Int) = v := by
      rw [← K.val_fm, hT, show (((K.bit v).toNat : Nat) : Int) = K.bit v by omega]
      exact K.val_bit v ho.1
    simp only [List.map_cons, orA, hval, ih]
  | [], _ :: _, b, _, _, h => by simp [okA] at h
  | _ :: _, [], b, _, _, h => by simp [okA] at h
theorem rows_disj : ∀ i : Fin 66, disj (ks i.val) = true ∧ bs i.val &&& fmA (ks i.val) = 0 := by decide +kernel
/-- Bits that no field of either has. -/
def cm (i j : Nat) : Nat := 4294967295 ^^^ (fmA (ks i) ||| fmA (ks j))
theorem rows_apart : ∀ i : Fin 66, ∀ j : Fin 66, (fmA (ks i.val) &&& cm i.val j.val = 0 ∧ fmA (ks j.val) &&& cm i.val j.val = 0) ∧ (i.val = j.val ∨ sz i.val ≠ sz j.val ∨ bs i.val &&& cm i.val j.val ≠ bs j.val &&& cm i.val j.val) := by decide +kernel
theorem vals_enc {i : Nat} {l : List Int} {n : Nat} (h : enc (i : Int) l = some n) : vals i n = l := by
  obtain ⟨h1, h2, h3⟩ := enc_some h
  rw [Int.toNat_natCast] at h2 h3
  obtain ⟨a, b⟩ := rows_disj ⟨i, by omega⟩
  rw [h3]
  exact vals_back _ _ _ b a h2
theorem enc_apart {i j : Nat} {l m : List Int} {n : Nat} (h : enc (i : Int) l = some n) (h' : enc (j : Int) m = some n) (hs : sz i = sz j) : i = j := by
  obtain ⟨h1, h2, h3⟩ := enc_some h
  obtain ⟨g1, g2, g3⟩ := enc_some h'
  rw [Int.toNat_natCast] at h2 h3 g2 g3
  obtain ⟨⟨a, b⟩, c⟩ := rows_apart ⟨i, by omega⟩ ⟨j, by omega⟩
  rcases c with c | c | c
  · exact c
  · exact absurd hs c
  · exfalso
    apply c
    have e1 : n &&& cm i j = bs i &&& cm i j := by
      rw [h3, orA_or, Nat.and_or_distrib_right, in_zero (orA_in h2) a, Nat.or_zero]
    have e2 : n &&& cm i j = bs j &&& cm i j := by
      rw [g3, orA_or, Nat.and_or_distrib_right, in_zero (orA_in g2) b, Nat.or_zero]
    exact e1.symm.trans e2
theorem dgo_enc {o : Nat} {l : List Int} {n : Nat} (h : enc (o : Int) l = some n) : ∀ d i : Nat, i + d = 66 → i ≤ o → dgo n (sz o) d i = some o
  | 0, i, hd, hi => by have := (enc_some h).1; omega
  | d + 1, i, hd, hi => by
    unfold dgo
    by_cases c : i = o
    · subst c
      rw [if_pos ⟨rfl, by rw [vals_enc h]; exact h⟩]
    · rw [if_neg (fun hh => c (enc_apart hh.2 h hh.1))]
      exact dgo_enc h d (i + 1) (by omega) (by omega)
/-- The highest four bits of a first byte. -/
theorem rows_top : ∀ i : Fin 66, if i.val < 43 then fmA (ks i.val) &&& ((2 ^ 4 - 1) * 2 ^ 12) = 0 ∧ ¬ (bs i.val / 2 ^ 12 % 2 ^ 4 < 8 ∧ bs i.val / 2 ^ 12 % 2 ^ 4 % 2 = 1) else fmA (ks i.val) &&& ((2 ^ 4 - 1) * 2 ^ 28) = 0 ∧ (bs i.val / 2 ^ 28 % 2 ^ 4 < 8 ∧ bs i.val / 2 ^ 28 % 2 ^ 4 % 2 = 1) := by decide +kernel
theorem top_is {i a : Nat} {l : List Int} {n : Nat} (h : enc (i : Int) l = some n) (hf : fmA (ks i) &&& ((2 ^ 4 - 1) * 2 ^ a) = 0) : n / 2 ^ a % 2 ^ 4 = bs i / 2 ^ a % 2 ^ 4 := by
  obtain ⟨h1, h2, h3⟩ := enc_some h
  rw [Int.toNat_natCast] at h2 h3
  have e : n &&& ((2 ^ 4 - 1) * 2 ^ a) = bs i &&& ((2 ^ 4 - 1) * 2 ^ a) := by
    rw [h3, orA_or, Nat.and_or_distrib_right, in_zero (orA_in h2) hf, Nat.or_zero]
  rw [nat_field, nat_field] at e
  exact Nat.eq_of_mul_eq_mul_right (Nat.two_pow_pos a) e
theorem first_is {i : Nat} {l : List Int} {n : Nat} (h : enc (i : Int) l = some n) (more : List Int) : szOf (rd (byts (i : Int) n ++ more) 0) = sz i := by
  have hi := (enc_some h).1
  have ht := rows_top ⟨i, by omega⟩
  have h32 := enc_lt h
  unfold byts sz
  by_cases c : i < 43
  · have h16 := enc_lt16 h c
    simp only [c, if_true] at ht
    have e := top_is h ht.1
    rw [if_pos (by omega), if_pos c]
    show szOf ((n : Int) / 256 % 256) = 2
    unfold szOf
    exact if_neg (by have h2 := ht.2; rw [← e] at h2; omega)
  · simp only [c, if_false] at ht
    have e := top_is h ht.1
    rw [if_neg (by omega), if_neg c]
    show szOf ((n : Int) / 16777216 % 256) = 4
    unfold szOf
    exact if_pos (by have h2 := ht.2; rw [← e] at h2; omega)
/-- What was encoded is decoded as it was, whatever is behind. -/
theorem dec_enc {i : Nat} {l : List Int} {n : Nat} (h : enc (i : Int) l = some n) (more : List Int) : dec (byts (i : Int) n ++ more) = ((i : Int), l, sz i, true) := by
  have hs : sz i = 2 ∨ sz i = 4 := by unfold sz; split <;> simp
  have hl := byts_len i n
  unfold dec
  rw [first_is h more, if_pos ⟨by rw [List.length_append]; omega, by rw [List.length_append]; omega⟩, List.take_append_of_le_length (by omega), List.take_of_length_le (by omega), wd_byts h]
  unfold decW
  rw [dgo_enc h 66 0 (by omega) (by omega)]
  simp only [vals_enc h]
end Go.Proofs.YticofbaajdgabaaDoor.X

namespace Go.Proofs.YticofbaajdgabaaDoor.X
set_option linter.unusedVariables false
set_option linter.unusedSimpArgs false
open Go.RowKit Go.PA Go.Proofs.YticofbaajdgabaaDoorW.PrintWords Go.Proofs.YticofbaajdgabaaDoorW.PrintLast Go.Proofs.YticofbaajdgabaaDoorW.PrintMore
theorem known_is {k : Nat} (hk : 1100 ≤ k) : letterpresslaw2_known.f k = some true := by
  unfold letterpresslaw2_known.f
  rw [encode_is 3 [] (fun x hx => by cases hx) (by omega), Option.bind_some, decode_is [0, 4, 9] (by unfold U8; decide) (by decide) (by omega), Option.bind_some]
  rw [show encB 3 [] = ([0, 4], true) by decide +kernel, show dec [0, 4, 9] = (3, [], 2, true) by decide +kernel]
  decide +kernel
/-- The law's instruction, all that is known of it. -/
theorem made (op : Int) (ns : List Int) : ∃ (i : Fin 66) (l : List Int) (n : Nat), (∀ k, 100 ≤ k → letterpresslaw2_Make.f k op ns = some (((i.val : Nat) : Int), l)) ∧ enc ((i.val : Nat) : Int) l = some n ∧ I64 l ∧ l.length = (ks i.val).length := by
  obtain ⟨l, e, hr, ho, hw⟩ := make_is op ns (k := 100) (by decide)
  have hup : ∀ k, 100 ≤ k → letterpresslaw2_Make.f k op ns = some (op % 66, l) := by
    intro k hk
    induction hk with
    | refl => exact e
    | step _ ih => exact letterpresslaw2_Make.mono _ _ _ _ ih
  have he := make_enc hr ho
  have hl := okA_len ho
  generalize op % 66 = o at *
  obtain ⟨i, rfl⟩ := fin_of hr
  rw [Int.toNat_natCast] at hl
  exact ⟨i, l, _, hup, he, hw, hl⟩
theorem encB_of {op : Int} {l : List Int} {n : Nat} (h : enc op l = some n) : encB op l = (byts op n, true) := by unfold encB; rw [h]
end Go.Proofs.YticofbaajdgabaaDoor.X

namespace Go.Proofs.YticofbaajdgabaaDoor.Pure
set_option linter.unusedVariables false
set_option linter.unusedSimpArgs false
open Go.RowKit Go.PA Go.Proofs.YticofbaajdgabaaDoor.X Go.Proofs.YticofbaajdgabaaDoorW.PrintWords Go.Proofs.YticofbaajdgabaaDoorW.PrintLast Go.Proofs.YticofbaajdgabaaDoorW.PrintMore
theorem okA_set : ∀ (Ks : List Kn) (l : List Int) (j : Nat) (v : Int) (h : j < Ks.length), okA Ks l = true → (Ks[j]).ok v = true → okA Ks (l.set j v) = true
  | K :: Ks, x :: l, 0, v, _, ho, hv => by
    simp only [okA, Bool.and_eq_true] at ho
    simp only [List.set_cons_zero, okA, Bool.and_eq_true]
    exact ⟨hv, ho.2⟩
  | K :: Ks, x :: l, j + 1, v, h, ho, hv => by
    simp only [okA, Bool.and_eq_true] at ho
    simp only [List.set_cons_succ, okA, Bool.and_eq_true]
    exact ⟨ho.1, okA_set Ks l j v (by simpa using h) ho.2 hv⟩
  | [], _, j, v, h, _, _ => by simp at h
  | _ :: _, [], j, v, h, ho, _ => by simp [okA] at ho
theorem byts_eq {i : Nat} {l m : List Int} {a b : Nat} (h : enc (i : Int) l = some a) (h' : enc (i : Int) m = some b) : (strOfNums (byts (i : Int) a)).toList = (strOfNums (byts (i : Int) b)).toList ↔ l = m := by
  rw [strOf_iff (byts_u8 _ _) (byts_u8 _ _)]
  constructor
  · intro e
    have e2 : a = b := by rw [← wd_byts h, ← wd_byts h', e]
    rw [← vals_enc h, ← vals_enc h', e2]
  · intro e
    subst e
    rw [h] at h'
    cases h'; rfl
theorem IsaBits : letterpresslaw2_IsaBits.Pure := by
  intro a0 l1 a2 a3 w0 _ _ w1 w2 w3
  refine ⟨1200, ?_⟩
  unfold letterpresslaw2_IsaBits.f
  obtain ⟨i, l, n, hm, he, hw, hl⟩ := made a0 l1
  have hk := ks_len i.val
  rw [known_is (by decide), Option.bind_some, if_pos rfl, hm 1200 (by decide), Option.bind_some]
  simp only []
  by_cases c : (l.length : Int) = 0
  · rw [if_pos c]
  · rw [if_neg c, within_is a2 _ (by omega), Option.bind_some]
    have h0 : 0 ≤ a2 % (l.length : Int) := Int.emod_nonneg _ (by omega)
    have h1 : a2 % (l.length : Int) < (l.length : Int) := Int.emod_lt_of_pos _ (by omega)
    generalize a2 % (l.length : Int) = t at *
    obtain ⟨j, rfl⟩ : ∃ j : Nat, t = (j : Int) := ⟨t.toNat, by omega⟩
    have hj : j < l.length := by omega
    have hj2 : j < (ks i.val).length := by omega
    simp only [Option.bind_some, List.nil_append]
    rw [if_pos (by simp only [List.length_nil]; omega), r_kinds i, Option.bind_some, words_up (by decide) (r_words i), Option.bind_some, if_pos h0, if_pos (by rw [List.length_map]; omega), str_at hj2]
    obtain ⟨v, e, hv, hb⟩ := operand_is ((ks i.val)[j]) a3 (k := 1200) (by decide)
    rw [e, Option.bind_some, if_pos h1]
    obtain ⟨g1, g2, g3⟩ := enc_some he
    rw [Int.toNat_natCast] at g2
    have ho := okA_set _ _ j v hj2 g2 hv
    have hw2 : I64 (l.set j v) := fun x hx => by
      rcases List.mem_or_eq_of_mem_set hx with h | h
      · exact hw x h
      · rw [h]; exact hb
    have he2 : enc ((i.val : Nat) : Int) (l.set j v) = some (orA (bs i.val) (ks i.val) (l.set j v)) := by
      unfold enc; rw [if_pos ⟨g1, by rw [Int.toNat_natCast]; exact ho⟩, Int.toNat_natCast]
    generalize orA (bs i.val) (ks i.val) (l.set j v) = n2 at *
    have hx := byts_eq he he2
    have hb1 := byts_len i.val n
    have hb2 := byts_len i.val n2
    have hd := dec_enc he2 []
    rw [List.append_nil] at hd
    rw [Int.toNat_natCast, encode_is _ l hw (by decide), Option.bind_some, encB_of he, encode_is _ _ hw2 (by decide), Option.bind_some, encB_of he2]
    simp only []
    have hs : sz i.val = 2 ∨ sz i.val = 4 := by unfold sz; split <;> simp
    rw [decode_is _ (byts_u8 _ _) (by omega) (by decide), Option.bind_some, hd]
    simp only []
    rw [if_pos (by omega), if_pos trivial, if_pos hb2.symm, same_is _ _ _ _ (by rw [List.length_set]; omega) (by decide), Option.bind_some, if_pos (by simp), if_pos h1]
    rw [rd_at hj, rd_at (by rw [List.length_set]; exact hj), List.getElem_set_self]
    have key : l = l.set j v ↔ l[j] = v := by
      constructor
      · intro h
        have : (l.set j v)[j]'(by rw [List.length_set]; exact hj) = v := List.getElem_set_self _
        rw [← this]
        congr 1
      · intro h
        rw [← h]; simp
    congr 1
    rw [Bool.beq_eq_decide_eq]
    apply decide_eq_true
    rw [Bool.eq_iff_iff, beq_iff_eq, beq_iff_eq, hx, key]
end Go.Proofs.YticofbaajdgabaaDoor.Pure

namespace Go.Proofs.YticofbaajdgabaaDoor.X
open Go.RowKit
theorem tSpace : (Tryd.prog.globals[0]?).map (·.type) = some 96 := by kernel_rfl
theorem cells_u8 : Tryd.prog.cellsOf 5 = 1 := by kernel_rfl
theorem cells_tab : Tryd.prog.cellsOf 96 = 256 := by kernel_rfl
theorem datum {H : Type} : (Rows.laid_strings_asciiSpace : DataW H) = Lib.tabData .u8 Lib.asciiSpaceTab := by kernel_rfl
theorem LaidW.of {W : World} (h : laidMetH Tryd.prog [("unicode.White_Space", Rows.laid_unicode_White_Space), ("strings.asciiSpace", Rows.laid_strings_asciiSpace)] W) : LaidW W := by
  rw [MakeChecks.laidMetH_plain _ _ _ (by kernel_rfl)] at h
  obtain ⟨ps, ⟨g0, t0, cs0, f0, p0, q0, hg0, ht0, hv0, hd0, ⟨g1, t1, cs1, f1, p1, q1, hg1, ht1, hv1, hd1, _, _⟩, _⟩, _, _⟩ := h
  obtain rfl := Option.some.inj (gSpace.symm.trans hg1)
  obtain rfl := Option.some.inj (tSpace.symm.trans ht1)
  rw [datum] at hd1
  unfold LaidW Lib.TabIs
  rw [hv1, ← Lib.cells_of_tab Tryd.underlying96 Tryd.underlying5 cells_u8 cells_tab hd1]
/-- The door's own heap meets the condition. -/
theorem door_met (os : Os) (args : Array Value) : laidMetH Tryd.prog [("unicode.White_Space", Rows.laid_unicode_White_Space), ("strings.asciiSpace", Rows.laid_strings_asciiSpace)] ((World.doorLaid Tryd.prog 33 os).forCall (fun _ _ => 0) ⟨#[], args, []⟩).memory :=
  laidMetH_of_parts3 (fuel := 8) (laidMet_of_run' 8 (by kernel_rfl) (by kernel_rfl)) (by kernel_rfl) (by kernel_rfl)
end Go.Proofs.YticofbaajdgabaaDoor.X
