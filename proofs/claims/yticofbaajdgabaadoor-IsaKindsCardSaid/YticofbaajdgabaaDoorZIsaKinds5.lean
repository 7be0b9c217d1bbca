/- IsaKinds: part 5: the written functions, their contracts, and what is said of them. -/
import Derived.Test.YticofbaajdgabaaDoorZIsaKinds4
set_option linter.unusedVariables false
set_option linter.unusedSimpArgs false
namespace Go.Proofs.YticofbaajdgabaaDoor.X
open Go.RowKit Go.Proofs.YticofbaajdgabaaDoorW.PrintWords Go.Proofs.YticofbaajdgabaaDoorW.PrintLast Go.Proofs.YticofbaajdgabaaDoorW.PrintMore
attribute [local go_sem] max2_int min2_int max_two min_two
set_option linter.unusedVariables false
set_option linter.unusedSimpArgs false
def letterpresslaw2_IsaKinds.T7 : Bool × List (List Nat × List Nat) := (true, [([], []), ([0], [0]), ([], []), ([], []), ([3], [3]), ([2, 4], [2, 4]), ([], []), ([5, 6, 5], [5, 6]), ([1, 7], [1, 7]), ([], []), ([9, 8, 7, 0, 1, 2, 3, 4, 5, 6, 7, 8, 9], [8, 9])])
def letterpresslaw2_IsaKinds.B7 : List Nat := [0, 1, 0, 0, 8, 28, 0, 124, 255, 0, 1023]
theorem letterpresslaw2_IsaKinds.tab7 : rtab .any (opsOf Tryd.f11 7) = letterpresslaw2_IsaKinds.T7 := by kernel_rfl
theorem letterpresslaw2_IsaKinds.bits7 : waitsOk letterpresslaw2_IsaKinds.T7.2 letterpresslaw2_IsaKinds.B7 = true := by kernel_rfl
def letterpresslaw2_IsaKinds.T10 : Bool × List (List Nat × List Nat) := (true, [([], []), ([0], [0]), ([1], [1]), ([2], [2]), ([3], [3]), ([4], [4]), ([5, 4], [4, 5]), ([4], [4]), ([7, 4], [4, 7]), ([8, 4], [4, 8]), ([6, 9, 4], [4, 6, 9]), ([10, 4, 4], [4, 10]), ([11, 4], [4, 11]), ([4, 12], [4, 12]), ([13, 11, 0, 1, 2, 3, 4, 5, 6, 7, 8, 9, 10, 11, 12, 13], [13])])
def letterpresslaw2_IsaKinds.B10 : List Nat := [0, 1, 3, 7, 15, 31, 63, 31, 159, 415, 1023, 2047, 4095, 8191, 16383]
theorem letterpresslaw2_IsaKinds.tab10 : rtab .any (opsOf Tryd.f11 10) = letterpresslaw2_IsaKinds.T10 := by kernel_rfl
theorem letterpresslaw2_IsaKinds.bits10 : waitsOk letterpresslaw2_IsaKinds.T10.2 letterpresslaw2_IsaKinds.B10 = true := by kernel_rfl
set_option maxHeartbeats 8000000 in
set_option maxRecDepth 100000 in
theorem letterpresslaw2_IsaKinds.calls (k : Nat) (a0 : Int) (A1 : Option Addr) (c1 : Nat) (l1 : List Int) (r : Bool) (w : World) (hLaid_ : LaidW w) (hTrue_ : r = true) (hr1 : Kd.C (Kd.int .i64) w A1 l1.length l1) (hc1 : l1.length ≤ c1) (h : letterpresslaw2_IsaKinds.f k a0 l1 = some r) :
    Calls Tryd.prog 11 #[.int .i64 a0, .slice A1 l1.length c1] w fun e w' => e = .returned (.bool r) ∧ Below w.heap.size w w' := by
  have hu28 := Tryd.underlying28
  have HR1 := Aside0.mk hr1
  have HC1 := Aside0.mk hc1
  clear hr1 hc1
  have HB := Aside0.mk (Below.refl w.heap.size w)
  have H : ((letterpresslaw2_known.f k).bind fun t870 => (if t870 = true then ((letterpresslaw2_Make.f k a0 l1).bind fun bt871 => ((isa_Kinds.f bt871.1).bind fun t876 => ((letterpressref2_Words.f k t876).bind fun t877 => (if (t877.length : Int) = (bt871.2.length : Int) then ((isa_Right.f k bt871.1 bt871.2).bind fun t880 => (letterpresslaw2_IsaKinds.j0 k (!t880) bt871.1 bt871.2)) else (letterpresslaw2_IsaKinds.j0 k true bt871.1 bt871.2))))) else (some false))) = some r := h
  clear h
  replace H := Option.bind_eq_some_iff.mp H
  obtain ⟨t870, A30, H⟩ := H
  replace H : (if t870 = true then ((letterpresslaw2_Make.f k a0 l1).bind fun bt871 => ((isa_Kinds.f bt871.1).bind fun t876 => ((letterpressref2_Words.f k t876).bind fun t877 => (if (t877.length : Int) = (bt871.2.length : Int) then ((isa_Right.f k bt871.1 bt871.2).bind fun t880 => (letterpresslaw2_IsaKinds.j0 k (!t880) bt871.1 bt871.2)) else (letterpresslaw2_IsaKinds.j0 k true bt871.1 bt871.2))))) else (some false)) = some r := H
  have A3 := Aside0.mk A30
  clear A30
  by_cases c4 : t870 = true
  · subst c4
    have H1 : ((letterpresslaw2_Make.f k a0 l1).bind fun bt871 => ((isa_Kinds.f bt871.1).bind fun t876 => ((letterpressref2_Words.f k t876).bind fun t877 => (if (t877.length : Int) = (bt871.2.length : Int) then ((isa_Right.f k bt871.1 bt871.2).bind fun t880 => (letterpresslaw2_IsaKinds.j0 k (!t880) bt871.1 bt871.2)) else (letterpresslaw2_IsaKinds.j0 k true bt871.1 bt871.2))))) = some r := by rw [if_pos rfl] at H; exact H
    clear H
    have H := H1
    clear H1
    replace H := Option.bind_eq_some_iff.mp H
    obtain ⟨⟨t871, t872⟩, A50, H⟩ := H
    replace H : ((isa_Kinds.f t871).bind fun t876 => ((letterpressref2_Words.f k t876).bind fun t877 => (if (t877.length : Int) = (t872.length : Int) then ((isa_Right.f k t871 t872).bind fun t880 => (letterpresslaw2_IsaKinds.j0 k (!t880) t871 t872)) else (letterpresslaw2_IsaKinds.j0 k true t871 t872)))) = some r := H
    have A5 := Aside0.mk A50
    clear A50
    replace H := Option.bind_eq_some_iff.mp H
    obtain ⟨t876, A60, H⟩ := H
    replace H : ((letterpressref2_Words.f k t876).bind fun t877 => (if (t877.length : Int) = (t872.length : Int) then ((isa_Right.f k t871 t872).bind fun t880 => (letterpresslaw2_IsaKinds.j0 k (!t880) t871 t872)) else (letterpresslaw2_IsaKinds.j0 k true t871 t872))) = some r := H
    have A6 := Aside0.mk A60
    clear A60
    replace H := Option.bind_eq_some_iff.mp H
    obtain ⟨t877, A70, H⟩ := H
    replace H : (if (t877.length : Int) = (t872.length : Int) then ((isa_Right.f k t871 t872).bind fun t880 => (letterpresslaw2_IsaKinds.j0 k (!t880) t871 t872)) else (letterpresslaw2_IsaKinds.j0 k true t871 t872)) = some r := H
    have A7 := Aside0.mk A70
    clear A70
    have HC8 := Aside0.mk H
    clear H
    go_enter Tryd.func11, Tryd.ntmps11
    go_upto_region 5 with (first | ((with_reducible refine gate_callee (f := 14) rfl ?_); refine goesL_ (some 8) rfl rfl Tryd.func14 (by kernel_rfl) rfl #[] rfl (by (try simp only [List.map_toArray, List.map_cons, List.map_nil]); first | done | rfl | (simp only [List.length_drop, List.length_take]; rfl)) ?_; (with_reducible refine (letterpresslaw2_known.calls k  true _ ?side1 A3.out).mono ?_); (case side1 => exact LaidW.below hLaid_ (by repeat (first | (with_reducible first | exact HB.out | apply below_alloc | apply pw_below_drewN | apply below_drew1) | exact HB.out))); rintro e w9 ⟨rfl, hb⟩; refine ⟨_, rfl, ?_⟩; have n0_ := Aside0.mk (below_step (by repeat (first | (with_reducible first | exact HB.out | apply below_alloc | apply pw_below_drewN | apply below_drew1) | exact HB.out)) hb); clear HB; have HB := n0_; clear n0_; (try clear hb); (try clear hb2); (try clear hk); (try clear hi)) | ((with_reducible refine gate_callee (f := 16) rfl ?_); refine goesL_ (some 12) rfl rfl Tryd.func16 (by kernel_rfl) rfl #[.int .i64 a0, .slice A1 l1.length c1] rfl (by (try simp only [List.map_toArray, List.map_cons, List.map_nil]); first | done | rfl | (simp only [List.length_drop, List.length_take]; rfl)) ?_; (with_reducible refine (letterpresslaw2_Make.calls k a0 _ _ l1 t871 t872 _ ?side1 ?side2 A5.out).mono ?_); (case side1 => repeat (first | exact (Kd.C_below HR1.out HB.out) | (with_reducible refine Kd.C_alloc ?_ _) | (with_reducible refine Kd.C_drewN ?_ _) | (with_reducible refine Kd.C_drew ?_))); (case side2 => exact HC1.out); rintro e w10 ⟨v873, rfl, ho0, hb⟩; refine ⟨_, rfl, ?_⟩; have n0_ := Aside0.mk (Kd.R_lower ho0 (below_size (by repeat (first | (with_reducible first | exact HB.out | apply below_alloc | apply pw_below_drewN | apply below_drew1) | exact HB.out)))); have n1_ := Aside0.mk (below_step (by repeat (first | (with_reducible first | exact HB.out | apply below_alloc | apply pw_below_drewN | apply below_drew1) | exact HB.out)) hb); clear HB; have HO874 := n0_; have HB := n1_; clear n0_ n1_; (try clear hb); (try clear hb2); (try clear hk); (try clear hi); (try clear ho0)) | ((with_reducible refine gate_dst (N := 5) rfl ?_); refine box_event ?hg (N := 5) ?hd (cs := #[.int .i64 0, .slice none 0 0]) (t := 28) ?hr ?_; (case hd => rfl); (case hg => rfl); (case hr => first | (go_simp; done) | (go_simp; rfl)); intro gb875 hg w11 hbox hb; have n0_ := Aside0.mk (Kd.R_below (by (with_reducible repeat (first | apply Kd.R_alloc | apply Kd.R_drewN | apply Kd.R_drew)); exact HO874.out) hb); have n1_ := Aside0.mk (below_step (by repeat (first | (with_reducible first | exact HB.out | apply below_alloc | apply pw_below_drewN | apply below_drew1) | exact HB.out)) hb); have n2_ := Aside0.mk (hbox); have n3_ := Aside0.mk ((by rw [hg]; exact (below_size (by repeat (first | (with_reducible first | exact HB.out | apply below_alloc | apply pw_below_drewN | apply below_drew1) | exact HB.out))) : w.heap.size ≤ gb875)); have n4_ := Aside0.mk ((by rw [hg]; exact (below_size (by repeat (first | (with_reducible first | exact HB.out | apply below_alloc | apply pw_below_drewN | apply below_drew1) | exact HB.out))) : w.heap.size ≤ gb875)); clear HO874; clear HB; have HO874 := n0_; have HB := n1_; have BK875 := n2_; have GW875 := n3_; have GE875 := n4_; clear n0_ n1_ n2_ n3_ n4_; clear hb hbox hg; have hcz12_0 : w11.cell? ⟨gb875, 0, none⟩ = some (.int .i64 0) := (blk_cell BK875.out 0).trans rfl; have hcz12_1 : w11.cell? ⟨gb875, 1, none⟩ = some (.slice none 0 0) := (blk_cell BK875.out 1).trans rfl; have hfz12_0 := blk_frozen BK875.out 0; have hfz12_1 := blk_frozen BK875.out 1; obtain ⟨Ao13, co13, eo13⟩ := Kd.R_slice HO874.out; subst eo13) | ((with_reducible refine gate_callee (f := 28) rfl ?_); refine goesL_ (some 15) rfl rfl Tryd.func28 (by kernel_rfl) rfl #[.int .i64 t871] rfl (by (try simp only [List.map_toArray, List.map_cons, List.map_nil]); first | done | rfl | (simp only [List.length_drop, List.length_take]; rfl)) ?_; (with_reducible refine (isa_Kinds.calls t871 t876 _ A6.out).mono ?_); rintro e w14 ⟨rfl, hb⟩; refine ⟨_, rfl, ?_⟩; have n0_ := Aside0.mk (Kd.R_below (by (with_reducible repeat (first | apply Kd.R_alloc | apply Kd.R_drewN | apply Kd.R_drew)); exact (Kd.R_mono (Kd.R_far (p := ⟨gb875, 1, none⟩) (Kd.R_far (p := ⟨gb875, 0, none⟩) (Kd.R_types HO874.out BK875.out (by decide)) (fun _ hk => hk.2) (.int .i64 t871)) (fun _ hk => hk.2) (.slice Ao13 t872.length co13)) (fun _ h_ => h_.1))) hb); have n1_ := Aside0.mk (blk_below (g := gb875) (o := .cells #[.int .i64 t871, .slice Ao13 t872.length co13] 28 (0, 0)) (by (with_reducible repeat (first | refine blk_drewN ?_ _ | refine blk_drew ?_ | refine blk_alloc ?_ _)); refine blk_put (cs := #[.int .i64 t871, .slice none 0 0]) ?_ 1 _ rfl; (with_reducible repeat (first | refine blk_drewN ?_ _ | refine blk_drew ?_ | refine blk_alloc ?_ _)); refine blk_put (cs := #[.int .i64 0, .slice none 0 0]) ?_ 0 _ rfl; (with_reducible repeat (first | refine blk_drewN ?_ _ | refine blk_drew ?_ | refine blk_alloc ?_ _)); exact BK875.out) hb); have n2_ := Aside0.mk (below_step (by repeat (first | (with_reducible first | exact HB.out | apply below_alloc | apply pw_below_drewN | apply below_drew1 | refine below_set ?_ GE875.out) | exact HB.out)) hb); clear HO874; clear BK875; clear HB; have HO874 := n0_; have BK875 := n1_; have HB := n2_; clear n0_ n1_ n2_; (try clear hb); (try clear hb2); (try clear hk); (try clear hi)) | ((with_reducible refine gate_callee (f := 24) rfl ?_); refine goesL_ (some 16) rfl rfl Tryd.func24 (by kernel_rfl) rfl #[.string t876] rfl (by (try simp only [List.map_toArray, List.map_cons, List.map_nil]); first | done | rfl | (simp only [List.length_drop, List.length_take]; rfl)) ?_; (with_reducible refine (letterpressref2_Words.calls k t876 t877 _ A7.out).mono ?_); rintro e w15 ⟨v878, rfl, ho0, hb⟩; refine ⟨_, rfl, ?_⟩; have n0_ := Aside0.mk (Kd.R_below (by (with_reducible repeat (first | apply Kd.R_alloc | apply Kd.R_drewN | apply Kd.R_drew)); exact HO874.out) hb); have n1_ := Aside0.mk (Kd.R_lower ho0 (below_size (by repeat (first | (with_reducible first | exact HB.out | apply below_alloc | apply pw_below_drewN | apply below_drew1 | refine below_set ?_ GE875.out) | exact HB.out)))); have n2_ := Aside0.mk (blk_below (g := gb875) (o := .cells #[.int .i64 t871, .slice Ao13 t872.length co13] 28 (0, 0)) (by (with_reducible repeat (first | refine blk_drewN ?_ _ | refine blk_drew ?_ | refine blk_alloc ?_ _)); exact BK875.out) hb); have n3_ := Aside0.mk (below_step (by repeat (first | (with_reducible first | exact HB.out | apply below_alloc | apply pw_below_drewN | apply below_drew1 | refine below_set ?_ GE875.out) | exact HB.out)) hb); clear HO874; clear BK875; clear HB; have HO874 := n0_; have HO879 := n1_; have BK875 := n2_; have HB := n3_; clear n0_ n1_ n2_ n3_; (try clear hb); (try clear hb2); (try clear hk); (try clear hi); (try clear ho0)))
    (try simp only [Act.put, List.setIfInBounds_toArray, List.set_cons_zero, List.set_cons_succ])
    go_cut [27] (fun v27 wc => ∃ (kq : Nat) (x27_7 : Bool), v27 = .bool x27_7 ∧ Aside0 (letterpresslaw2_IsaKinds.j0 kq x27_7 t871 t872 = some r) ∧ Aside0 (kq ≤ k) ∧ Aside0 (Kd.R (Kd.int .i64) 3 wc w.heap.size (fun _ => True) (.slice Ao13 t872.length co13) t872) ∧ Aside0 (wc.heap[gb875]? = some (.cells #[.int .i64 t871, (.slice Ao13 t872.length co13)] 28 (0, 0))) ∧ Aside0 (Below w.heap.size w wc))
    case first =>
      have H := HC8.out
      clear HC8
      by_cases c16 : (t877.length : Int) = (t872.length : Int)
      · rw [if_pos c16] at H
        have c16b0 : ((t877.length : Int) == (t872.length : Int)) = true := beq_iff_eq.mpr c16
        have c16b1 : ((t877.length : Int) != (t872.length : Int)) = false := bne_eq_false_iff_eq.mpr c16
        have c16b2 : (t877.length == t872.length) = true := by first | simpa using c16 | (simp at c16 ⊢; omega)
        clear c16
        (first | rw [c16b0] | (simp only [i64_w, i32_w]; rw [c16b0]) | skip)
        replace H := Option.bind_eq_some_iff.mp H
        obtain ⟨t880, A170, H⟩ := H
        replace H : (letterpresslaw2_IsaKinds.j0 k (!t880) t871 t872) = some r := H
        have A17 := Aside0.mk A170
        clear A170
        have H' := Aside0.mk H
        clear H
        obtain ⟨Ao18, co18, eo18⟩ := Kd.R_slice HO879.out
        subst eo18
        have hcz19_0 : w15.cell? ⟨gb875, 0, none⟩ = some (.int .i64 t871) := (blk_cell BK875.out 0).trans rfl
        have hcz19_1 : w15.cell? ⟨gb875, 1, none⟩ = some (.slice Ao13 t872.length co13) := (blk_cell BK875.out 1).trans rfl
        have hfz19_0 := blk_frozen BK875.out 0
        have hfz19_1 := blk_frozen BK875.out 1
        go_wp2_with (first | (go_at_call 26; (with_reducible refine (isa_Right.calls k t871 _ _ t872 t880 _ ?side1 ?side2 ?side3 A17.out).mono ?_); (case side1 => exact LaidW.below hLaid_ (by repeat (first | (with_reducible first | exact HB.out | apply below_alloc | apply pw_below_drewN | apply below_drew1 | refine below_set ?_ GE875.out) | exact HB.out))); (case side2 => repeat (first | exact (Kd.R_reads' HO874.out).2.2 | (with_reducible refine Kd.C_alloc ?_ _) | (with_reducible refine Kd.C_drewN ?_ _) | (with_reducible refine Kd.C_drew ?_))); (case side3 => exact (Kd.R_reads' HO874.out).2.1); rintro e w20 ⟨rfl, hb⟩; have n0_ := Aside0.mk (Kd.R_below (by (with_reducible repeat (first | apply Kd.R_alloc | apply Kd.R_drewN | apply Kd.R_drew)); exact HO874.out) hb); have n1_ := Aside0.mk (Kd.R_below (by (with_reducible repeat (first | apply Kd.R_alloc | apply Kd.R_drewN | apply Kd.R_drew)); exact HO879.out) hb); have n2_ := Aside0.mk (blk_below (g := gb875) (o := .cells #[.int .i64 t871, .slice Ao13 t872.length co13] 28 (0, 0)) (by (with_reducible repeat (first | refine blk_drewN ?_ _ | refine blk_drew ?_ | refine blk_alloc ?_ _)); exact BK875.out) hb); have n3_ := Aside0.mk (below_step (by repeat (first | (with_reducible first | exact HB.out | apply below_alloc | apply pw_below_drewN | apply below_drew1 | refine below_set ?_ GE875.out) | exact HB.out)) hb); clear HO874; clear HO879; clear BK875; clear HB; have HO874 := n0_; have HO879 := n1_; have BK875 := n2_; have HB := n3_; clear n0_ n1_ n2_ n3_; (try clear hb); (try clear hb2); (try clear hk); (try clear hi)))
        go_meet
        case rel => exact ⟨_, (!t880), (by first | rfl | (simp; done) | (simp [*]; done)), H', ⟨by first | omega | exact Nat.le_refl _⟩, ⟨by (with_reducible repeat (first | apply Kd.R_alloc | apply Kd.R_drewN | apply Kd.R_drew)); exact HO874.out⟩, ⟨by (with_reducible repeat (first | refine blk_drewN ?_ _ | refine blk_drew ?_ | refine blk_alloc ?_ _)); exact BK875.out⟩, ⟨by repeat (first | (with_reducible first | exact HB.out | apply below_alloc | apply pw_below_drewN | apply below_drew1 | refine below_set ?_ GE875.out) | exact HB.out)⟩⟩
      · rw [if_neg c16] at H
        have c16b0 : ((t877.length : Int) == (t872.length : Int)) = false := beq_eq_false_iff_ne.mpr c16
        have c16b1 : ((t877.length : Int) != (t872.length : Int)) = true := bne_iff_ne.mpr c16
        have c16b2 : (t877.length == t872.length) = false := by first | simpa using c16 | (simp at c16 ⊢; omega)
        (first | rw [c16b0] | (simp only [i64_w, i32_w]; rw [c16b0]) | skip)
        have H' := Aside0.mk H
        clear H
        obtain ⟨Ao21, co21, eo21⟩ := Kd.R_slice HO879.out
        subst eo21
        have hcz22_0 : w15.cell? ⟨gb875, 0, none⟩ = some (.int .i64 t871) := (blk_cell BK875.out 0).trans rfl
        have hcz22_1 : w15.cell? ⟨gb875, 1, none⟩ = some (.slice Ao13 t872.length co13) := (blk_cell BK875.out 1).trans rfl
        have hfz22_0 := blk_frozen BK875.out 0
        have hfz22_1 := blk_frozen BK875.out 1
        go_wp2
        go_meet
        case rel => exact ⟨_, (true), (by first | rfl | (simp; done) | (simp [*]; done)), H', ⟨by first | omega | exact Nat.le_refl _⟩, ⟨by (with_reducible repeat (first | apply Kd.R_alloc | apply Kd.R_drewN | apply Kd.R_drew)); exact HO874.out⟩, ⟨by (with_reducible repeat (first | refine blk_drewN ?_ _ | refine blk_drew ?_ | refine blk_alloc ?_ _)); exact BK875.out⟩, ⟨by repeat (first | (with_reducible first | exact HB.out | apply below_alloc | apply pw_below_drewN | apply below_drew1 | refine below_set ?_ GE875.out) | exact HB.out)⟩⟩
    case rest =>
      clear HC8
      try clear c1
      try clear c2
      try clear p2
      try clear c4
      try clear c11
      try clear c14
      try clear c16
      try clear c16b0
      try clear c16b1
      try clear c16b2
      try clear hcz12_0
      try clear hcz12_1
      try clear hcz19_0
      try clear hcz19_1
      try clear hcz22_0
      try clear hcz22_1
      try clear hfz12_0
      try clear hfz12_1
      try clear hfz19_0
      try clear hfz19_1
      try clear hfz22_0
      try clear hfz22_1
      obtain ⟨kq, x27_7, rfl, HA, HJ7, HO_876001, BK875, HB⟩ := hcut
      cases kq with
      | zero => exact absurd HA.out (by simp [letterpresslaw2_IsaKinds.j0])
      | succ kj7 =>
        have H := HA.out
        clear HA
        simp only [letterpresslaw2_IsaKinds.j0] at H
        by_cases c23 : x27_7 = true
        · subst c23
          have H1 : (some false) = some r := by rw [if_pos rfl] at H; exact H
          clear H
          have H := H1
          clear H1
          subst hTrue_
          exact absurd H (by simp)
        · replace c23 := Bool.eq_false_iff.mpr c23
          subst c23
          have H1 : ((some (([] : List Int) : List Int)).bind fun y881 => (if y881.length + t872.length < 17592186044416 then ((some (y881 ++ t872 : List Int)).bind fun y884 => ((some (([0] : List Int) : List Int)).bind fun y887 => (if y884.length + y887.length < 17592186044416 then ((isa_Right.f kj7 t871 (y884 ++ y887)).bind fun t894 => (if t894 = true then (some false) else (if (t872.length : Int) = 0 then (some true) else (if 1 ≤ (t872.length : Int) then ((isa_Right.f kj7 t871 (t872.drop 1)).bind fun t899 => (some (!t899))) else (none))))) else (none)))) else (none))) = some r := by rw [if_neg (show ¬ (false = true) by decide)] at H; exact H
          clear H
          have H := H1
          clear H1
          obtain ⟨y881, hy881⟩ : ∃ y_ : List Int, y_ = (([] : List Int)) := ⟨_, rfl⟩
          replace H : (if y881.length + t872.length < 17592186044416 then ((some (y881 ++ t872 : List Int)).bind fun y884 => ((some (([0] : List Int) : List Int)).bind fun y887 => (if y884.length + y887.length < 17592186044416 then ((isa_Right.f kj7 t871 (y884 ++ y887)).bind fun t894 => (if t894 = true then (some false) else (if (t872.length : Int) = 0 then (some true) else (if 1 ≤ (t872.length : Int) then ((isa_Right.f kj7 t871 (t872.drop 1)).bind fun t899 => (some (!t899))) else (none))))) else (none)))) else (none)) = some r := by first | (rw [hy881]; with_reducible exact H) | (have H2_ := (Option.bind_some _ _).symm.trans H; rw [hy881]; with_reducible exact H2_) | (have H2_ := (Option.bind_some _ _).symm.trans H; with_reducible exact H2_) | with_reducible exact H | (rw [hy881]; exact H) | exact H
          have Ny881 := Aside0.mk hy881
          clear hy881
          by_cases c24 : y881.length + t872.length < 17592186044416
          · rw [if_pos c24] at H
            have LMc24 := Aside0.mk c24
            clear c24
            obtain ⟨y884, hy884⟩ : ∃ y_ : List Int, y_ = (y881 ++ t872) := ⟨_, rfl⟩
            replace H : ((some (([0] : List Int) : List Int)).bind fun y887 => (if y884.length + y887.length < 17592186044416 then ((isa_Right.f kj7 t871 (y884 ++ y887)).bind fun t894 => (if t894 = true then (some false) else (if (t872.length : Int) = 0 then (some true) else (if 1 ≤ (t872.length : Int) then ((isa_Right.f kj7 t871 (t872.drop 1)).bind fun t899 => (some (!t899))) else (none))))) else (none))) = some r := by first | (rw [hy884]; with_reducible exact H) | (have H2_ := (Option.bind_some _ _).symm.trans H; rw [hy884]; with_reducible exact H2_) | (have H2_ := (Option.bind_some _ _).symm.trans H; with_reducible exact H2_) | with_reducible exact H | (rw [hy884]; exact H) | exact H
            have Ny884 := Aside0.mk hy884
            clear hy884
            obtain ⟨y887, hy887⟩ : ∃ y_ : List Int, y_ = (([0] : List Int)) := ⟨_, rfl⟩
            replace H : (if y884.length + y887.length < 17592186044416 then ((isa_Right.f kj7 t871 (y884 ++ y887)).bind fun t894 => (if t894 = true then (some false) else (if (t872.length : Int) = 0 then (some true) else (if 1 ≤ (t872.length : Int) then ((isa_Right.f kj7 t871 (t872.drop 1)).bind fun t899 => (some (!t899))) else (none))))) else (none)) = some r := by first | (rw [hy887]; with_reducible exact H) | (have H2_ := (Option.bind_some _ _).symm.trans H; rw [hy887]; with_reducible exact H2_) | (have H2_ := (Option.bind_some _ _).symm.trans H; with_reducible exact H2_) | with_reducible exact H | (rw [hy887]; exact H) | exact H
            have Ny887 := Aside0.mk hy887
            clear hy887
            by_cases c25 : y884.length + y887.length < 17592186044416
            · rw [if_pos c25] at H
              have LMc25 := Aside0.mk c25
              clear c25
              obtain ⟨y890, hy890⟩ : ∃ y_ : List Int, y_ = (y884 ++ y887) := ⟨_, rfl⟩
              replace H : ((isa_Right.f kj7 t871 y890).bind fun t894 => (if t894 = true then (some false) else (if (t872.length : Int) = 0 then (some true) else (if 1 ≤ (t872.length : Int) then ((isa_Right.f kj7 t871 (t872.drop 1)).bind fun t899 => (some (!t899))) else (none))))) = some r := by first | (rw [hy890]; with_reducible exact H) | (have H2_ := (Option.bind_some _ _).symm.trans H; rw [hy890]; with_reducible exact H2_) | (have H2_ := (Option.bind_some _ _).symm.trans H; with_reducible exact H2_) | with_reducible exact H | (rw [hy890]; exact H) | exact H
              have Ny890 := Aside0.mk hy890
              clear hy890
              replace H := Option.bind_eq_some_iff.mp H
              obtain ⟨t894, A260, H⟩ := H
              replace H : (if t894 = true then (some false) else (if (t872.length : Int) = 0 then (some true) else (if 1 ≤ (t872.length : Int) then ((isa_Right.f kj7 t871 (t872.drop 1)).bind fun t899 => (some (!t899))) else (none)))) = some r := H
              have A26 := Aside0.mk A260
              clear A260
              by_cases c27 : t894 = true
              · subst c27
                have H1 : (some false) = some r := by rw [if_pos rfl] at H; exact H
                clear H
                have H := H1
                clear H1
                subst hTrue_
                exact absurd H (by simp)
              · replace c27 := Bool.eq_false_iff.mpr c27
                subst c27
                have H1 : (if (t872.length : Int) = 0 then (some true) else (if 1 ≤ (t872.length : Int) then ((isa_Right.f kj7 t871 (t872.drop 1)).bind fun t899 => (some (!t899))) else (none))) = some r := by rw [if_neg (show ¬ (false = true) by decide)] at H; exact H
                clear H
                have H := H1
                clear H1
                have Hh_ := Aside0.mk H
                clear H
                try go_wp2
                have n0_ := Aside0.mk (Kd.R_drew HO_876001.out)
                have n1_ := Aside0.mk (blk_drew BK875.out)
                have n2_ := Aside0.mk (below_drew1 HB.out)
                clear HO_876001
                clear BK875
                clear HB
                have HO_876001 := n0_
                have BK875 := n1_
                have HB := n2_
                clear n0_ n1_ n2_
                refine start_ (n := 11) (S := fun w' => w'.cell? ⟨gb875, 0, none⟩ = some (.int .i64 t871) ∧ w'.cell? ⟨gb875, 1, none⟩ = some (.slice Ao13 t872.length co13)) (ds := []) #[false, false, false, false, false, false, false, false, false, false, false] (by kernel_rfl) rfl rfl ⟨(blk_cell BK875.out 0).trans rfl, (blk_cell BK875.out 1).trans rfl⟩ (fun hHeld => ?_); refine with_tabW letterpresslaw2_IsaKinds.tab7 letterpresslaw2_IsaKinds.bits7 (fun HT_ HW_ => ?_)
                generalize wc.drew = w29 at HO_876001 BK875 HB hHeld ⊢
                refine pure_ (i := 0) (N := some 28) (v := ?_) (a' := ?_) #[true, false, false, false, false, false, false, false, false, false, false] rfl rfl (any_of HT_.out (by kernel_rfl)) (fun _ _ _ h => h) (Or.inl ⟨by rfl, ?_⟩) ?_ ?_
                rotate_left
                · intro w'
                  go_simp
                  with_reducible rfl
                rotate_left
                · simp only [Act.put, List.setIfInBounds_toArray, List.set_cons_zero, List.set_cons_succ, i64_w, i32_w]
                  rfl
                refine pure_ (i := 3) (N := some 31) (v := ?_) (a' := ?_) #[true, false, false, true, false, false, false, false, false, false, false] rfl rfl (any_of HT_.out (by kernel_rfl)) (fun _ _ _ h => h) (Or.inl ⟨by rfl, ?_⟩) ?_ ?_
                rotate_left
                · intro w'
                  go_simp
                  with_reducible rfl
                rotate_left
                · simp only [Act.put, List.setIfInBounds_toArray, List.set_cons_zero, List.set_cons_succ, i64_w, i32_w]
                  rfl
                refine take_ (i := 1) (N := some 29) (v := ?_) (a' := ?_) #[true, true, false, true, false, false, false, false, false, false, false] rfl rfl (take_ofW HT_.out HW_.out (by kernel_rfl)) (fun _ _ _ h => h) (Or.inl ⟨by rfl, ?_⟩) hHeld ?_ ?_
                rotate_left
                · rintro w' ⟨s0, s1⟩
                  go_simp
                  with_reducible rfl
                rotate_left
                · simp only [Act.put, List.setIfInBounds_toArray, List.set_cons_zero, List.set_cons_succ, i64_w, i32_w]
                  rfl
                refine take_ (i := 4) (N := some 32) (v := ?_) (a' := ?_) #[true, true, false, true, true, false, false, false, false, false, false] rfl rfl (take_ofW HT_.out HW_.out (by kernel_rfl)) (fun _ _ _ h => h) (Or.inl ⟨by rfl, ?_⟩) hHeld ?_ ?_
                rotate_left
                · rintro w' ⟨s0, s1⟩
                  go_simp
                  with_reducible rfl
                rotate_left
                · simp only [Act.put, List.setIfInBounds_toArray, List.set_cons_zero, List.set_cons_succ, i64_w, i32_w]
                  rfl
                refine join_ (σ := Value × Value × Value × Value × Nat) 1 #[true, true, true, true, true, true, true, true, true, true, false] (fun s_ => [(30, s_.1), (33, s_.2.1), (34, s_.2.2.1), (35, s_.2.2.2.1), (7, .pointer (some ⟨s_.2.2.2.2, 0, none⟩)), (36, .agg #[.int .i64 t871, s_.2.2.2.1])]) (fun s_ w' => (w'.cell? ⟨gb875, 0, none⟩ = some (.int .i64 t871) ∧ w'.cell? ⟨gb875, 1, none⟩ = some (.slice Ao13 t872.length co13)) ∧ (Kd.R (Kd.int .i64) 3 w' w.heap.size (fun k_ => some k_ ≠ (s_.2.2.2.1 : Value).ownBlock ∧ some k_ ≠ (.slice Ao13 t872.length co13 : Value).ownBlock) s_.2.2.1 y887) ∧ (Kd.R (Kd.int .i64) 3 w' w.heap.size (fun k_ => some k_ ≠ (s_.2.2.1 : Value).ownBlock ∧ some k_ ≠ (.slice Ao13 t872.length co13 : Value).ownBlock) s_.2.2.2.1 y890) ∧ (Kd.R (Kd.int .i64) 3 w' w.heap.size (fun k_ => some k_ ≠ (s_.2.2.1 : Value).ownBlock ∧ some k_ ≠ (s_.2.2.2.1 : Value).ownBlock) (.slice Ao13 t872.length co13) t872) ∧ (w'.heap[gb875]? = some (.cells #[.int .i64 t871, .slice Ao13 t872.length co13] 28 (0, 0))) ∧ (w'.heap[s_.2.2.2.2]? = some (.cells #[.int .i64 0, .slice none 0 0] 28 (0, 0))) ∧ (w.heap.size ≤ s_.2.2.2.2) ∧ (w.heap.size ≤ s_.2.2.2.2) ∧ (gb875 ≠ s_.2.2.2.2) ∧ (s_.2.2.2.2 ≠ gb875) ∧ (Below w.heap.size w w')) ?_ ?_
                rotate_left
                · intro hJ2_5_6_7_9
                  refine join_ (σ := Value × Value × Value × Value) 2 #[true, true, true, true, true, true, true, true, true, false, false] (fun s_ => [(30, s_.1), (33, s_.2.1), (34, s_.2.2.1), (35, s_.2.2.2), (36, .agg #[.int .i64 t871, s_.2.2.2])]) (fun s_ w' => (w'.cell? ⟨gb875, 0, none⟩ = some (.int .i64 t871) ∧ w'.cell? ⟨gb875, 1, none⟩ = some (.slice Ao13 t872.length co13)) ∧ (Kd.R (Kd.int .i64) 3 w' w.heap.size (fun k_ => some k_ ≠ (s_.2.2.2 : Value).ownBlock ∧ some k_ ≠ (.slice Ao13 t872.length co13 : Value).ownBlock) s_.2.2.1 y887) ∧ (Kd.R (Kd.int .i64) 3 w' w.heap.size (fun k_ => some k_ ≠ (s_.2.2.1 : Value).ownBlock ∧ some k_ ≠ (.slice Ao13 t872.length co13 : Value).ownBlock) s_.2.2.2 y890) ∧ (Kd.R (Kd.int .i64) 3 w' w.heap.size (fun k_ => some k_ ≠ (s_.2.2.1 : Value).ownBlock ∧ some k_ ≠ (s_.2.2.2 : Value).ownBlock) (.slice Ao13 t872.length co13) t872) ∧ (w'.heap[gb875]? = some (.cells #[.int .i64 t871, .slice Ao13 t872.length co13] 28 (0, 0))) ∧ (Below w.heap.size w w')) ?_ ?_
                  rotate_left
                  · intro hJ2_5_6_7
                    refine join_ (σ := Value × Value × Value × Nat) 3 #[true, true, true, true, true, true, true, false, false, true, false] (fun s_ => [(30, s_.1), (33, s_.2.1), (34, s_.2.2.1), (7, .pointer (some ⟨s_.2.2.2, 0, none⟩))]) (fun s_ w' => (w'.cell? ⟨gb875, 0, none⟩ = some (.int .i64 t871) ∧ w'.cell? ⟨gb875, 1, none⟩ = some (.slice Ao13 t872.length co13)) ∧ (Kd.R (Kd.int .i64) 3 w' w.heap.size (fun k_ => some k_ ≠ (s_.2.2.1 : Value).ownBlock ∧ some k_ ≠ (.slice Ao13 t872.length co13 : Value).ownBlock) s_.2.1 y884) ∧ (Kd.R (Kd.int .i64) 3 w' w.heap.size (fun k_ => some k_ ≠ (s_.2.1 : Value).ownBlock ∧ some k_ ≠ (.slice Ao13 t872.length co13 : Value).ownBlock) s_.2.2.1 y887) ∧ (Kd.R (Kd.int .i64) 3 w' w.heap.size (fun k_ => some k_ ≠ (s_.2.1 : Value).ownBlock ∧ some k_ ≠ (s_.2.2.1 : Value).ownBlock) (.slice Ao13 t872.length co13) t872) ∧ (w'.heap[gb875]? = some (.cells #[.int .i64 t871, .slice Ao13 t872.length co13] 28 (0, 0))) ∧ (w'.heap[s_.2.2.2]? = some (.cells #[.int .i64 0, .slice none 0 0] 28 (0, 0))) ∧ (w.heap.size ≤ s_.2.2.2) ∧ (w.heap.size ≤ s_.2.2.2) ∧ (gb875 ≠ s_.2.2.2) ∧ (s_.2.2.2 ≠ gb875) ∧ (Below w.heap.size w w')) ?_ ?_
                    rotate_left
                    · intro hJ2_5_6_9
                      refine join_ (σ := Value × Value × Value) 4 #[true, true, true, true, true, true, true, false, false, false, false] (fun s_ => [(30, s_.1), (33, s_.2.1), (34, s_.2.2)]) (fun s_ w' => (w'.cell? ⟨gb875, 0, none⟩ = some (.int .i64 t871) ∧ w'.cell? ⟨gb875, 1, none⟩ = some (.slice Ao13 t872.length co13)) ∧ (Kd.R (Kd.int .i64) 3 w' w.heap.size (fun k_ => some k_ ≠ (s_.2.2 : Value).ownBlock ∧ some k_ ≠ (.slice Ao13 t872.length co13 : Value).ownBlock) s_.2.1 y884) ∧ (Kd.R (Kd.int .i64) 3 w' w.heap.size (fun k_ => some k_ ≠ (s_.2.1 : Value).ownBlock ∧ some k_ ≠ (.slice Ao13 t872.length co13 : Value).ownBlock) s_.2.2 y887) ∧ (Kd.R (Kd.int .i64) 3 w' w.heap.size (fun k_ => some k_ ≠ (s_.2.1 : Value).ownBlock ∧ some k_ ≠ (s_.2.2 : Value).ownBlock) (.slice Ao13 t872.length co13) t872) ∧ (w'.heap[gb875]? = some (.cells #[.int .i64 t871, .slice Ao13 t872.length co13] 28 (0, 0))) ∧ (Below w.heap.size w w')) ?_ ?_
                      rotate_left
                      · intro hJ2_5_6
                        refine join_ (σ := Value × Value × Nat) 4 #[true, true, true, true, true, true, false, false, false, true, false] (fun s_ => [(30, s_.1), (33, s_.2.1), (7, .pointer (some ⟨s_.2.2, 0, none⟩))]) (fun s_ w' => (w'.cell? ⟨gb875, 0, none⟩ = some (.int .i64 t871) ∧ w'.cell? ⟨gb875, 1, none⟩ = some (.slice Ao13 t872.length co13)) ∧ (Kd.R (Kd.int .i64) 3 w' w.heap.size (fun k_ => some k_ ≠ (.slice Ao13 t872.length co13 : Value).ownBlock) s_.2.1 y884) ∧ (Kd.R (Kd.int .i64) 3 w' w.heap.size (fun k_ => some k_ ≠ (s_.2.1 : Value).ownBlock) (.slice Ao13 t872.length co13) t872) ∧ (w'.heap[gb875]? = some (.cells #[.int .i64 t871, .slice Ao13 t872.length co13] 28 (0, 0))) ∧ (w'.heap[s_.2.2]? = some (.cells #[.int .i64 0, .slice none 0 0] 28 (0, 0))) ∧ (w.heap.size ≤ s_.2.2) ∧ (w.heap.size ≤ s_.2.2) ∧ (gb875 ≠ s_.2.2) ∧ (s_.2.2 ≠ gb875) ∧ (Below w.heap.size w w')) ?_ ?_
                        rotate_left
                        · intro hJ2_5_9
                          refine join_ (σ := Value × Value × Nat) 4 #[true, true, true, true, true, false, true, false, false, true, false] (fun s_ => [(30, s_.1), (34, s_.2.1), (7, .pointer (some ⟨s_.2.2, 0, none⟩))]) (fun s_ w' => (w'.cell? ⟨gb875, 0, none⟩ = some (.int .i64 t871) ∧ w'.cell? ⟨gb875, 1, none⟩ = some (.slice Ao13 t872.length co13)) ∧ (Kd.R (Kd.int .i64) 3 w' w.heap.size (fun k_ => some k_ ≠ (s_.2.1 : Value).ownBlock ∧ some k_ ≠ (.slice Ao13 t872.length co13 : Value).ownBlock) s_.1 y881) ∧ (Kd.R (Kd.int .i64) 3 w' w.heap.size (fun k_ => some k_ ≠ (s_.1 : Value).ownBlock ∧ some k_ ≠ (.slice Ao13 t872.length co13 : Value).ownBlock) s_.2.1 y887) ∧ (Kd.R (Kd.int .i64) 3 w' w.heap.size (fun k_ => some k_ ≠ (s_.1 : Value).ownBlock ∧ some k_ ≠ (s_.2.1 : Value).ownBlock) (.slice Ao13 t872.length co13) t872) ∧ (w'.heap[gb875]? = some (.cells #[.int .i64 t871, .slice Ao13 t872.length co13] 28 (0, 0))) ∧ (w'.heap[s_.2.2]? = some (.cells #[.int .i64 0, .slice none 0 0] 28 (0, 0))) ∧ (w.heap.size ≤ s_.2.2) ∧ (w.heap.size ≤ s_.2.2) ∧ (gb875 ≠ s_.2.2) ∧ (s_.2.2 ≠ gb875) ∧ (Below w.heap.size w w')) ?_ ?_
                          rotate_left
                          · intro hJ2_6_9
                            refine join_ (σ := Value × Value) 5 #[true, true, true, true, true, true, false, false, false, false, false] (fun s_ => [(30, s_.1), (33, s_.2)]) (fun s_ w' => (w'.cell? ⟨gb875, 0, none⟩ = some (.int .i64 t871) ∧ w'.cell? ⟨gb875, 1, none⟩ = some (.slice Ao13 t872.length co13)) ∧ (Kd.R (Kd.int .i64) 3 w' w.heap.size (fun k_ => some k_ ≠ (.slice Ao13 t872.length co13 : Value).ownBlock) s_.2 y884) ∧ (Kd.R (Kd.int .i64) 3 w' w.heap.size (fun k_ => some k_ ≠ (s_.2 : Value).ownBlock) (.slice Ao13 t872.length co13) t872) ∧ (w'.heap[gb875]? = some (.cells #[.int .i64 t871, .slice Ao13 t872.length co13] 28 (0, 0))) ∧ (Below w.heap.size w w')) ?_ ?_
                            rotate_left
                            · intro hJ2_5
                              refine join_ (σ := Value × Value) 5 #[true, true, true, true, true, false, true, false, false, false, false] (fun s_ => [(30, s_.1), (34, s_.2)]) (fun s_ w' => (w'.cell? ⟨gb875, 0, none⟩ = some (.int .i64 t871) ∧ w'.cell? ⟨gb875, 1, none⟩ = some (.slice Ao13 t872.length co13)) ∧ (Kd.R (Kd.int .i64) 3 w' w.heap.size (fun k_ => some k_ ≠ (s_.2 : Value).ownBlock ∧ some k_ ≠ (.slice Ao13 t872.length co13 : Value).ownBlock) s_.1 y881) ∧ (Kd.R (Kd.int .i64) 3 w' w.heap.size (fun k_ => some k_ ≠ (s_.1 : Value).ownBlock ∧ some k_ ≠ (.slice Ao13 t872.length co13 : Value).ownBlock) s_.2 y887) ∧ (Kd.R (Kd.int .i64) 3 w' w.heap.size (fun k_ => some k_ ≠ (s_.1 : Value).ownBlock ∧ some k_ ≠ (s_.2 : Value).ownBlock) (.slice Ao13 t872.length co13) t872) ∧ (w'.heap[gb875]? = some (.cells #[.int .i64 t871, .slice Ao13 t872.length co13] 28 (0, 0))) ∧ (Below w.heap.size w w')) ?_ ?_
                              rotate_left
                              · intro hJ2_6
                                refine join_ (σ := Value × Nat) 5 #[true, true, true, true, true, false, false, false, false, true, false] (fun s_ => [(30, s_.1), (7, .pointer (some ⟨s_.2, 0, none⟩))]) (fun s_ w' => (w'.cell? ⟨gb875, 0, none⟩ = some (.int .i64 t871) ∧ w'.cell? ⟨gb875, 1, none⟩ = some (.slice Ao13 t872.length co13)) ∧ (Kd.R (Kd.int .i64) 3 w' w.heap.size (fun k_ => some k_ ≠ (.slice Ao13 t872.length co13 : Value).ownBlock) s_.1 y881) ∧ (Kd.R (Kd.int .i64) 3 w' w.heap.size (fun k_ => some k_ ≠ (s_.1 : Value).ownBlock) (.slice Ao13 t872.length co13) t872) ∧ (w'.heap[gb875]? = some (.cells #[.int .i64 t871, .slice Ao13 t872.length co13] 28 (0, 0))) ∧ (w'.heap[s_.2]? = some (.cells #[.int .i64 0, .slice none 0 0] 28 (0, 0))) ∧ (w.heap.size ≤ s_.2) ∧ (w.heap.size ≤ s_.2) ∧ (gb875 ≠ s_.2) ∧ (s_.2 ≠ gb875) ∧ (Below w.heap.size w w')) ?_ ?_
                                rotate_left
                                · intro hJ2_9
                                  refine join_ (σ := Value × Nat) 5 #[true, true, false, true, true, false, true, false, false, true, false] (fun s_ => [(34, s_.1), (7, .pointer (some ⟨s_.2, 0, none⟩))]) (fun s_ w' => (w'.cell? ⟨gb875, 0, none⟩ = some (.int .i64 t871) ∧ w'.cell? ⟨gb875, 1, none⟩ = some (.slice Ao13 t872.length co13)) ∧ (Kd.R (Kd.int .i64) 3 w' w.heap.size (fun k_ => some k_ ≠ (.slice Ao13 t872.length co13 : Value).ownBlock) s_.1 y887) ∧ (Kd.R (Kd.int .i64) 3 w' w.heap.size (fun k_ => some k_ ≠ (s_.1 : Value).ownBlock) (.slice Ao13 t872.length co13) t872) ∧ (w'.heap[gb875]? = some (.cells #[.int .i64 t871, .slice Ao13 t872.length co13] 28 (0, 0))) ∧ (w'.heap[s_.2]? = some (.cells #[.int .i64 0, .slice none 0 0] 28 (0, 0))) ∧ (w.heap.size ≤ s_.2) ∧ (w.heap.size ≤ s_.2) ∧ (gb875 ≠ s_.2) ∧ (s_.2 ≠ gb875) ∧ (Below w.heap.size w w')) ?_ ?_
                                  rotate_left
                                  · intro hJ6_9
                                    refine join_ (σ := Value) 6 #[true, true, true, true, true, false, false, false, false, false, false] (fun s_ => [(30, s_)]) (fun s_ w' => (w'.cell? ⟨gb875, 0, none⟩ = some (.int .i64 t871) ∧ w'.cell? ⟨gb875, 1, none⟩ = some (.slice Ao13 t872.length co13)) ∧ (Kd.R (Kd.int .i64) 3 w' w.heap.size (fun k_ => some k_ ≠ (.slice Ao13 t872.length co13 : Value).ownBlock) s_ y881) ∧ (Kd.R (Kd.int .i64) 3 w' w.heap.size (fun k_ => some k_ ≠ (s_ : Value).ownBlock) (.slice Ao13 t872.length co13) t872) ∧ (w'.heap[gb875]? = some (.cells #[.int .i64 t871, .slice Ao13 t872.length co13] 28 (0, 0))) ∧ (Below w.heap.size w w')) ?_ ?_
                                    rotate_left
                                    · intro hJ2
                                      refine join_ (σ := Value) 6 #[true, true, false, true, true, false, true, false, false, false, false] (fun s_ => [(34, s_)]) (fun s_ w' => (w'.cell? ⟨gb875, 0, none⟩ = some (.int .i64 t871) ∧ w'.cell? ⟨gb875, 1, none⟩ = some (.slice Ao13 t872.length co13)) ∧ (Kd.R (Kd.int .i64) 3 w' w.heap.size (fun k_ => some k_ ≠ (.slice Ao13 t872.length co13 : Value).ownBlock) s_ y887) ∧ (Kd.R (Kd.int .i64) 3 w' w.heap.size (fun k_ => some k_ ≠ (s_ : Value).ownBlock) (.slice Ao13 t872.length co13) t872) ∧ (w'.heap[gb875]? = some (.cells #[.int .i64 t871, .slice Ao13 t872.length co13] 28 (0, 0))) ∧ (Below w.heap.size w w')) ?_ ?_
                                      rotate_left
                                      · intro hJ6
                                        refine join_ (σ := Nat) 6 #[true, true, false, true, true, false, false, false, false, true, false] (fun s_ => [(7, .pointer (some ⟨s_, 0, none⟩))]) (fun s_ w' => (w'.cell? ⟨gb875, 0, none⟩ = some (.int .i64 t871) ∧ w'.cell? ⟨gb875, 1, none⟩ = some (.slice Ao13 t872.length co13)) ∧ (Kd.R (Kd.int .i64) 3 w' w.heap.size (fun _ => True) (.slice Ao13 t872.length co13) t872) ∧ (w'.heap[gb875]? = some (.cells #[.int .i64 t871, .slice Ao13 t872.length co13] 28 (0, 0))) ∧ (w'.heap[s_]? = some (.cells #[.int .i64 0, .slice none 0 0] 28 (0, 0))) ∧ (w.heap.size ≤ s_) ∧ (w.heap.size ≤ s_) ∧ (gb875 ≠ s_) ∧ (s_ ≠ gb875) ∧ (Below w.heap.size w w')) ?_ ?_
                                        rotate_left
                                        · intro hJ9
                                          refine three_ (i := 2) (j := 6) (k := 9) (Ni := some 30) (Nj := some 34) (Nk := some 7) #[true, true, true, true, true, false, false, false, false, false, false] #[true, true, false, true, true, false, true, false, false, false, false] #[true, true, false, true, true, false, false, false, false, true, false] rfl rfl rfl rfl rfl rfl (three_of HT_.out (by kernel_rfl)) (by decide) (by decide) (by decide) (fun K hK => ?_) (fun K hK => ?_) (fun K hK => ?_)
                                          · skip
                                            refine Kd.R_lit_step (Kd.int .i64) _ 3 ?hg (N := 30) ?hd (xs := ([] : List Int)) (inner := []) (ok := fun _ => True) (okp := fun _ => True) ?hr ?hp (fun _ hk => hk) trivial (Below.refl _ _) (Nat.le_refl _) (by simp) ?_; (case hd => rfl); (case hg => rfl); (case hr => first | (go_simp; done) | (go_simp; rfl)); (case hp => exact (Reps.none _ _))
                                            intro v882 w30 ho31 hb hg_ hnew_
                                            clear hg_ hnew_
                                            (first | rw [← Ny881.out] at ho31 | (simp only [Int.reduceToNat] at ho31; rw [← Ny881.out] at ho31))
                                            have n0_ := Aside0.mk (Kd.R_elder' (by (with_reducible repeat (first | apply Kd.R_alloc | apply Kd.R_drewN | apply Kd.R_drew)); exact HO_876001.out) (Kd.R_base ho31) hb)
                                            have n1_ := Aside0.mk (Kd.R_lower (Kd.R_new' ho31 (Kd.R_lt (by (with_reducible repeat (first | apply Kd.R_alloc | apply Kd.R_drewN | apply Kd.R_drew)); exact HO_876001.out))) (below_size (by repeat (first | (with_reducible first | exact HB.out | apply below_alloc | apply pw_below_drewN | apply below_drew1 | refine below_set ?_ GE875.out) | exact HB.out))))
                                            have n2_ := Aside0.mk (blk_below (g := gb875) (o := .cells #[.int .i64 t871, .slice Ao13 t872.length co13] 28 (0, 0)) (by (with_reducible repeat (first | refine blk_drewN ?_ _ | refine blk_drew ?_ | refine blk_alloc ?_ _)); exact BK875.out) hb)
                                            have n3_ := Aside0.mk (below_step (by repeat (first | (with_reducible first | exact HB.out | apply below_alloc | apply pw_below_drewN | apply below_drew1 | refine below_set ?_ GE875.out) | exact HB.out)) hb)
                                            clear HO_876001
                                            clear BK875
                                            clear HB
                                            have HO_876001 := n0_
                                            have HO883 := n1_
                                            have BK875 := n2_
                                            have HB := n3_
                                            clear n0_ n1_ n2_ n3_
                                            clear hb ho31
                                            refine hK.out _ _ ⟨(blk_cell BK875.out 0).trans rfl, (blk_cell BK875.out 1).trans rfl⟩ (fun hHeld => ?_)
                                            clear hK K
                                            refine norm_ (a' := ?_) ?_ ?_
                                            rotate_left
                                            · show Act.put _ (some 30) _ = _
                                              simp only [Act.put, List.setIfInBounds_toArray, List.set_cons_zero, List.set_cons_succ, i64_w, i32_w]
                                              rfl
                                            exact norm_ (by first | (simp only [putAll, Act.put, List.setIfInBounds_toArray, List.set_cons_zero, List.set_cons_succ]; done) | (simp only [putAll, Act.put, List.setIfInBounds_toArray, List.set_cons_zero, List.set_cons_succ]; rfl)) (hJ2 (v882) _ ⟨hHeld, (by (with_reducible repeat (first | apply Kd.R_alloc | apply Kd.R_drewN | apply Kd.R_drew)); exact Kd.R_mono HO883.out (fun _ hk => hk.2)), (by (with_reducible repeat (first | apply Kd.R_alloc | apply Kd.R_drewN | apply Kd.R_drew)); exact Kd.R_mono HO_876001.out (fun _ hk => hk.2)), (by (with_reducible repeat (first | refine blk_drewN ?_ _ | refine blk_drew ?_ | refine blk_alloc ?_ _)); exact BK875.out), (by repeat (first | (with_reducible first | exact HB.out | apply below_alloc | apply pw_below_drewN | apply below_drew1 | refine below_set ?_ GE875.out) | exact HB.out))⟩)
                                          · skip
                                            refine Kd.R_lit_step (Kd.int .i64) _ 3 ?hg (N := 34) ?hd (xs := ([0] : List Int)) (inner := [.int .i64 0]) (ok := fun _ => True) (okp := fun _ => True) ?hr ?hp (fun _ hk => hk) trivial (Below.refl _ _) (Nat.le_refl _) (by simp) ?_; (case hd => rfl); (case hg => rfl); (case hr => first | (go_simp; done) | (go_simp; rfl)); (case hp => exact (Reps.one (show Kd.M (Kd.int .i64) _ _ _ 0 [.int .i64 0] from rfl) (Reps.none _ _)))
                                            intro v888 w30 ho31 hb hg_ hnew_
                                            clear hg_ hnew_
                                            (first | rw [← Ny887.out] at ho31 | (simp only [Int.reduceToNat] at ho31; rw [← Ny887.out] at ho31))
                                            have n0_ := Aside0.mk (Kd.R_elder' (by (with_reducible repeat (first | apply Kd.R_alloc | apply Kd.R_drewN | apply Kd.R_drew)); exact HO_876001.out) (Kd.R_base ho31) hb)
                                            have n1_ := Aside0.mk (Kd.R_lower (Kd.R_new' ho31 (Kd.R_lt (by (with_reducible repeat (first | apply Kd.R_alloc | apply Kd.R_drewN | apply Kd.R_drew)); exact HO_876001.out))) (below_size (by repeat (first | (with_reducible first | exact HB.out | apply below_alloc | apply pw_below_drewN | apply below_drew1 | refine below_set ?_ GE875.out) | exact HB.out))))
                                            have n2_ := Aside0.mk (blk_below (g := gb875) (o := .cells #[.int .i64 t871, .slice Ao13 t872.length co13] 28 (0, 0)) (by (with_reducible repeat (first | refine blk_drewN ?_ _ | refine blk_drew ?_ | refine blk_alloc ?_ _)); exact BK875.out) hb)
                                            have n3_ := Aside0.mk (below_step (by repeat (first | (with_reducible first | exact HB.out | apply below_alloc | apply pw_below_drewN | apply below_drew1 | refine below_set ?_ GE875.out) | exact HB.out)) hb)
                                            clear HO_876001
                                            clear BK875
                                            clear HB
                                            have HO_876001 := n0_
                                            have HO889 := n1_
                                            have BK875 := n2_
                                            have HB := n3_
                                            clear n0_ n1_ n2_ n3_
                                            clear hb ho31
                                            refine hK.out _ _ ⟨(blk_cell BK875.out 0).trans rfl, (blk_cell BK875.out 1).trans rfl⟩ (fun hHeld => ?_)
                                            clear hK K
                                            refine norm_ (a' := ?_) ?_ ?_
                                            rotate_left
                                            · show Act.put _ (some 34) _ = _
                                              simp only [Act.put, List.setIfInBounds_toArray, List.set_cons_zero, List.set_cons_succ, i64_w, i32_w]
                                              rfl
                                            exact norm_ (by first | (simp only [putAll, Act.put, List.setIfInBounds_toArray, List.set_cons_zero, List.set_cons_succ]; done) | (simp only [putAll, Act.put, List.setIfInBounds_toArray, List.set_cons_zero, List.set_cons_succ]; rfl)) (hJ6 (v888) _ ⟨hHeld, (by (with_reducible repeat (first | apply Kd.R_alloc | apply Kd.R_drewN | apply Kd.R_drew)); exact Kd.R_mono HO889.out (fun _ hk => hk.2)), (by (with_reducible repeat (first | apply Kd.R_alloc | apply Kd.R_drewN | apply Kd.R_drew)); exact Kd.R_mono HO_876001.out (fun _ hk => hk.2)), (by (with_reducible repeat (first | refine blk_drewN ?_ _ | refine blk_drew ?_ | refine blk_alloc ?_ _)); exact BK875.out), (by repeat (first | (with_reducible first | exact HB.out | apply below_alloc | apply pw_below_drewN | apply below_drew1 | refine below_set ?_ GE875.out) | exact HB.out))⟩)
                                          · skip
                                            refine box_step ?hg (N := 7) ?hd (cs := #[.int .i64 0, .slice none 0 0]) (t := 28) ?hr ?_; (case hd => rfl); (case hg => rfl); (case hr => first | (go_simp; done) | (go_simp; rfl))
                                            intro gb893 hg w30 hbox hb
                                            have n0_ := Aside0.mk (Kd.R_below (by (with_reducible repeat (first | apply Kd.R_alloc | apply Kd.R_drewN | apply Kd.R_drew)); exact HO_876001.out) hb)
                                            have n1_ := Aside0.mk (blk_below (g := gb875) (o := .cells #[.int .i64 t871, .slice Ao13 t872.length co13] 28 (0, 0)) (by (with_reducible repeat (first | refine blk_drewN ?_ _ | refine blk_drew ?_ | refine blk_alloc ?_ _)); exact BK875.out) hb)
                                            have n2_ := Aside0.mk (below_step (by repeat (first | (with_reducible first | exact HB.out | apply below_alloc | apply pw_below_drewN | apply below_drew1 | refine below_set ?_ GE875.out) | exact HB.out)) hb)
                                            have n3_ := Aside0.mk (hbox)
                                            have n4_ := Aside0.mk ((by rw [hg]; exact (below_size (by repeat (first | (with_reducible first | exact HB.out | apply below_alloc | apply pw_below_drewN | apply below_drew1 | refine below_set ?_ GE875.out) | exact HB.out))) : w.heap.size ≤ gb893))
                                            have n5_ := Aside0.mk ((by rw [hg]; exact (below_size (by repeat (first | (with_reducible first | exact HB.out | apply below_alloc | apply pw_below_drewN | apply below_drew1 | refine below_set ?_ GE875.out) | exact HB.out))) : w.heap.size ≤ gb893))
                                            have n6_ := Aside0.mk ((by rw [hg]; exact Nat.ne_of_lt (blk_lt (g := gb875) (o := .cells #[.int .i64 t871, .slice Ao13 t872.length co13] 28 (0, 0)) (by (with_reducible repeat (first | refine blk_drewN ?_ _ | refine blk_drew ?_ | refine blk_alloc ?_ _)); exact BK875.out)) : gb875 ≠ gb893))
                                            have n7_ := Aside0.mk ((by rw [hg]; exact Nat.ne_of_gt (blk_lt (g := gb875) (o := .cells #[.int .i64 t871, .slice Ao13 t872.length co13] 28 (0, 0)) (by (with_reducible repeat (first | refine blk_drewN ?_ _ | refine blk_drew ?_ | refine blk_alloc ?_ _)); exact BK875.out)) : gb893 ≠ gb875))
                                            clear HO_876001
                                            clear BK875
                                            clear HB
                                            have HO_876001 := n0_
                                            have BK875 := n1_
                                            have HB := n2_
                                            have BK893 := n3_
                                            have GW893 := n4_
                                            have GE893 := n5_
                                            have NB875_893 := n6_
                                            have NB893_875 := n7_
                                            clear n0_ n1_ n2_ n3_ n4_ n5_ n6_ n7_
                                            clear hb hbox hg
                                            refine hK.out _ _ ⟨(blk_cell BK875.out 0).trans rfl, (blk_cell BK875.out 1).trans rfl⟩ (fun hHeld => ?_)
                                            clear hK K
                                            refine norm_ (a' := ?_) ?_ ?_
                                            rotate_left
                                            · show Act.put _ (some 7) _ = _
                                              simp only [Act.put, List.setIfInBounds_toArray, List.set_cons_zero, List.set_cons_succ, i64_w, i32_w]
                                              rfl
                                            exact norm_ (by first | (simp only [putAll, Act.put, List.setIfInBounds_toArray, List.set_cons_zero, List.set_cons_succ]; done) | (simp only [putAll, Act.put, List.setIfInBounds_toArray, List.set_cons_zero, List.set_cons_succ]; rfl)) (hJ9 (gb893) _ ⟨hHeld, (by (with_reducible repeat (first | apply Kd.R_alloc | apply Kd.R_drewN | apply Kd.R_drew)); exact HO_876001.out), (by (with_reducible repeat (first | refine blk_drewN ?_ _ | refine blk_drew ?_ | refine blk_alloc ?_ _)); exact BK875.out), (by (with_reducible repeat (first | refine blk_drewN ?_ _ | refine blk_drew ?_ | refine blk_alloc ?_ _)); exact BK893.out), GW893.out, GE893.out, NB875_893.out, NB893_875.out, (by repeat (first | (with_reducible first | exact HB.out | apply below_alloc | apply pw_below_drewN | apply below_drew1 | refine below_set ?_ GE875.out | refine below_set ?_ GE893.out) | exact HB.out))⟩)
                                        · skip
                                          rintro gb893 w31 ⟨hS_, h0_, h1_, h2_, h3_, h4_, h5_, h6_, h7_⟩
                                          have n0_ : Aside0 (Kd.R (Kd.int .i64) 3 w31 w.heap.size (fun _ => True) (.slice Ao13 t872.length co13) t872) := ⟨h0_⟩
                                          have n1_ : Aside0 (w31.heap[gb875]? = some (.cells #[.int .i64 t871, .slice Ao13 t872.length co13] 28 (0, 0))) := ⟨h1_⟩
                                          have n2_ : Aside0 (w31.heap[gb893]? = some (.cells #[.int .i64 0, .slice none 0 0] 28 (0, 0))) := ⟨h2_⟩
                                          have n3_ : Aside0 (w.heap.size ≤ gb893) := ⟨h3_⟩
                                          have n4_ : Aside0 (w.heap.size ≤ gb893) := ⟨h4_⟩
                                          have n5_ : Aside0 (gb875 ≠ gb893) := ⟨h5_⟩
                                          have n6_ : Aside0 (gb893 ≠ gb875) := ⟨h6_⟩
                                          have n7_ : Aside0 (Below w.heap.size w w31) := ⟨h7_⟩
                                          clear HO_876001
                                          clear BK875
                                          clear HB
                                          clear h0_ h1_ h2_ h3_ h4_ h5_ h6_ h7_
                                          have HO_876001 := n0_
                                          have BK875 := n1_
                                          have BK893 := n2_
                                          have GW893 := n3_
                                          have GE893 := n4_
                                          have NB875_893 := n5_
                                          have NB893_875 := n6_
                                          have HB := n7_
                                          clear n0_ n1_ n2_ n3_ n4_ n5_ n6_ n7_
                                          have hHeld : w31.cell? ⟨gb875, 0, none⟩ = some (.int .i64 t871) ∧ w31.cell? ⟨gb875, 1, none⟩ = some (.slice Ao13 t872.length co13) := hS_
                                          refine norm_ (a' := ?_) ?_ ?_
                                          rotate_left
                                          · simp only [putAll, Act.put, List.setIfInBounds_toArray, List.set_cons_zero, List.set_cons_succ]
                                            rfl
                                          refine two_ (i := 2) (j := 6) (Ni := some 30) (Nj := some 34) #[true, true, true, true, true, false, false, false, false, true, false] #[true, true, false, true, true, false, true, false, false, true, false] rfl rfl rfl rfl (two_of HT_.out (by kernel_rfl)) (by decide) (by decide) (fun K hK => ?_) (fun K hK => ?_)
                                          · skip
                                            refine Kd.R_lit_step (Kd.int .i64) _ 3 ?hg (N := 30) ?hd (xs := ([] : List Int)) (inner := []) (ok := fun _ => True) (okp := fun _ => True) ?hr ?hp (fun _ hk => hk) trivial (Below.refl _ _) (Nat.le_refl _) (by simp) ?_; (case hd => rfl); (case hg => rfl); (case hr => first | (go_simp; done) | (go_simp; rfl)); (case hp => exact (Reps.none _ _))
                                            intro v882 w32 ho33 hb hg_ hnew_
                                            clear hg_ hnew_
                                            (first | rw [← Ny881.out] at ho33 | (simp only [Int.reduceToNat] at ho33; rw [← Ny881.out] at ho33))
                                            have n0_ := Aside0.mk (Kd.R_elder' (by (with_reducible repeat (first | apply Kd.R_alloc | apply Kd.R_drewN | apply Kd.R_drew)); exact HO_876001.out) (Kd.R_base ho33) hb)
                                            have n1_ := Aside0.mk (Kd.R_lower (Kd.R_new' ho33 (Kd.R_lt (by (with_reducible repeat (first | apply Kd.R_alloc | apply Kd.R_drewN | apply Kd.R_drew)); exact HO_876001.out))) (below_size (by repeat (first | (with_reducible first | exact HB.out | apply below_alloc | apply pw_below_drewN | apply below_drew1 | refine below_set ?_ GE875.out | refine below_set ?_ GE893.out) | exact HB.out))))
                                            have n2_ := Aside0.mk (blk_below (g := gb875) (o := .cells #[.int .i64 t871, .slice Ao13 t872.length co13] 28 (0, 0)) (by (with_reducible repeat (first | refine blk_drewN ?_ _ | refine blk_drew ?_ | refine blk_alloc ?_ _)); exact BK875.out) hb)
                                            have n3_ := Aside0.mk (blk_below (g := gb893) (o := .cells #[.int .i64 0, .slice none 0 0] 28 (0, 0)) (by (with_reducible repeat (first | refine blk_drewN ?_ _ | refine blk_drew ?_ | refine blk_alloc ?_ _)); exact BK893.out) hb)
                                            have n4_ := Aside0.mk (below_step (by repeat (first | (with_reducible first | exact HB.out | apply below_alloc | apply pw_below_drewN | apply below_drew1 | refine below_set ?_ GE875.out | refine below_set ?_ GE893.out) | exact HB.out)) hb)
                                            clear HO_876001
                                            clear BK875
                                            clear BK893
                                            clear HB
                                            have HO_876001 := n0_
                                            have HO883 := n1_
                                            have BK875 := n2_
                                            have BK893 := n3_
                                            have HB := n4_
                                            clear n0_ n1_ n2_ n3_ n4_
                                            clear hb ho33
                                            refine hK.out _ _ ⟨(blk_cell BK875.out 0).trans rfl, (blk_cell BK875.out 1).trans rfl⟩ (fun hHeld => ?_)
                                            clear hK K
                                            refine norm_ (a' := ?_) ?_ ?_
                                            rotate_left
                                            · show Act.put _ (some 30) _ = _
                                              simp only [Act.put, List.setIfInBounds_toArray, List.set_cons_zero, List.set_cons_succ, i64_w, i32_w]
                                              rfl
                                            exact norm_ (by first | (simp only [putAll, Act.put, List.setIfInBounds_toArray, List.set_cons_zero, List.set_cons_succ]; done) | (simp only [putAll, Act.put, List.setIfInBounds_toArray, List.set_cons_zero, List.set_cons_succ]; rfl)) (hJ2_9 (v882, gb893) _ ⟨hHeld, (by (with_reducible repeat (first | apply Kd.R_alloc | apply Kd.R_drewN | apply Kd.R_drew)); exact Kd.R_mono HO883.out (fun _ hk => hk.2)), (by (with_reducible repeat (first | apply Kd.R_alloc | apply Kd.R_drewN | apply Kd.R_drew)); exact Kd.R_mono HO_876001.out (fun _ hk => hk.2)), (by (with_reducible repeat (first | refine blk_drewN ?_ _ | refine blk_drew ?_ | refine blk_alloc ?_ _)); exact BK875.out), (by (with_reducible repeat (first | refine blk_drewN ?_ _ | refine blk_drew ?_ | refine blk_alloc ?_ _)); exact BK893.out), GW893.out, GE893.out, NB875_893.out, NB893_875.out, (by repeat (first | (with_reducible first | exact HB.out | apply below_alloc | apply pw_below_drewN | apply below_drew1 | refine below_set ?_ GE875.out | refine below_set ?_ GE893.out) | exact HB.out))⟩)
                                          · skip
                                            refine Kd.R_lit_step (Kd.int .i64) _ 3 ?hg (N := 34) ?hd (xs := ([0] : List Int)) (inner := [.int .i64 0]) (ok := fun _ => True) (okp := fun _ => True) ?hr ?hp (fun _ hk => hk) trivial (Below.refl _ _) (Nat.le_refl _) (by simp) ?_; (case hd => rfl); (case hg => rfl); (case hr => first | (go_simp; done) | (go_simp; rfl)); (case hp => exact (Reps.one (show Kd.M (Kd.int .i64) _ _ _ 0 [.int .i64 0] from rfl) (Reps.none _ _)))
                                            intro v888 w32 ho33 hb hg_ hnew_
                                            clear hg_ hnew_
                                            (first | rw [← Ny887.out] at ho33 | (simp only [Int.reduceToNat] at ho33; rw [← Ny887.out] at ho33))
                                            have n0_ := Aside0.mk (Kd.R_elder' (by (with_reducible repeat (first | apply Kd.R_alloc | apply Kd.R_drewN | apply Kd.R_drew)); exact HO_876001.out) (Kd.R_base ho33) hb)
                                            have n1_ := Aside0.mk (Kd.R_lower (Kd.R_new' ho33 (Kd.R_lt (by (with_reducible repeat (first | apply Kd.R_alloc | apply Kd.R_drewN | apply Kd.R_drew)); exact HO_876001.out))) (below_size (by repeat (first | (with_reducible first | exact HB.out | apply below_alloc | apply pw_below_drewN | apply below_drew1 | refine below_set ?_ GE875.out | refine below_set ?_ GE893.out) | exact HB.out))))
                                            have n2_ := Aside0.mk (blk_below (g := gb875) (o := .cells #[.int .i64 t871, .slice Ao13 t872.length co13] 28 (0, 0)) (by (with_reducible repeat (first | refine blk_drewN ?_ _ | refine blk_drew ?_ | refine blk_alloc ?_ _)); exact BK875.out) hb)
                                            have n3_ := Aside0.mk (blk_below (g := gb893) (o := .cells #[.int .i64 0, .slice none 0 0] 28 (0, 0)) (by (with_reducible repeat (first | refine blk_drewN ?_ _ | refine blk_drew ?_ | refine blk_alloc ?_ _)); exact BK893.out) hb)
                                            have n4_ := Aside0.mk (below_step (by repeat (first | (with_reducible first | exact HB.out | apply below_alloc | apply pw_below_drewN | apply below_drew1 | refine below_set ?_ GE875.out | refine below_set ?_ GE893.out) | exact HB.out)) hb)
                                            clear HO_876001
                                            clear BK875
                                            clear BK893
                                            clear HB
                                            have HO_876001 := n0_
                                            have HO889 := n1_
                                            have BK875 := n2_
                                            have BK893 := n3_
                                            have HB := n4_
                                            clear n0_ n1_ n2_ n3_ n4_
                                            clear hb ho33
                                            refine hK.out _ _ ⟨(blk_cell BK875.out 0).trans rfl, (blk_cell BK875.out 1).trans rfl⟩ (fun hHeld => ?_)
                                            clear hK K
                                            refine norm_ (a' := ?_) ?_ ?_
                                            rotate_left
                                            · show Act.put _ (some 34) _ = _
                                              simp only [Act.put, List.setIfInBounds_toArray, List.set_cons_zero, List.set_cons_succ, i64_w, i32_w]
                                              rfl
                                            exact norm_ (by first | (simp only [putAll, Act.put, List.setIfInBounds_toArray, List.set_cons_zero, List.set_cons_succ]; done) | (simp only [putAll, Act.put, List.setIfInBounds_toArray, List.set_cons_zero, List.set_cons_succ]; rfl)) (hJ6_9 (v888, gb893) _ ⟨hHeld, (by (with_reducible repeat (first | apply Kd.R_alloc | apply Kd.R_drewN | apply Kd.R_drew)); exact Kd.R_mono HO889.out (fun _ hk => hk.2)), (by (with_reducible repeat (first | apply Kd.R_alloc | apply Kd.R_drewN | apply Kd.R_drew)); exact Kd.R_mono HO_876001.out (fun _ hk => hk.2)), (by (with_reducible repeat (first | refine blk_drewN ?_ _ | refine blk_drew ?_ | refine blk_alloc ?_ _)); exact BK875.out), (by (with_reducible repeat (first | refine blk_drewN ?_ _ | refine blk_drew ?_ | refine blk_alloc ?_ _)); exact BK893.out), GW893.out, GE893.out, NB875_893.out, NB893_875.out, (by repeat (first | (with_reducible first | exact HB.out | apply below_alloc | apply pw_below_drewN | apply below_drew1 | refine below_set ?_ GE875.out | refine below_set ?_ GE893.out) | exact HB.out))⟩)
                                      · skip
                                        rintro v888 w32 ⟨hS_, h0_, h1_, h2_, h3_⟩
                                        have n0_ : Aside0 (Kd.R (Kd.int .i64) 3 w32 w.heap.size (fun k_ => some k_ ≠ (.slice Ao13 t872.length co13 : Value).ownBlock) v888 y887) := ⟨h0_⟩
                                        have n1_ : Aside0 (Kd.R (Kd.int .i64) 3 w32 w.heap.size (fun k_ => some k_ ≠ (v888 : Value).ownBlock) (.slice Ao13 t872.length co13) t872) := ⟨h1_⟩
                                        have n2_ : Aside0 (w32.heap[gb875]? = some (.cells #[.int .i64 t871, .slice Ao13 t872.length co13] 28 (0, 0))) := ⟨h2_⟩
                                        have n3_ : Aside0 (Below w.heap.size w w32) := ⟨h3_⟩
                                        clear HO_876001
                                        clear BK875
                                        clear HB
                                        clear h0_ h1_ h2_ h3_
                                        have HO889 := n0_
                                        have HO_876001 := n1_
                                        have BK875 := n2_
                                        have HB := n3_
                                        clear n0_ n1_ n2_ n3_
                                        have hHeld : w32.cell? ⟨gb875, 0, none⟩ = some (.int .i64 t871) ∧ w32.cell? ⟨gb875, 1, none⟩ = some (.slice Ao13 t872.length co13) := hS_
                                        refine norm_ (a' := ?_) ?_ ?_
                                        rotate_left
                                        · simp only [putAll, Act.put, List.setIfInBounds_toArray, List.set_cons_zero, List.set_cons_succ]
                                          rfl
                                        refine two_ (i := 2) (j := 9) (Ni := some 30) (Nj := some 7) #[true, true, true, true, true, false, true, false, false, false, false] #[true, true, false, true, true, false, true, false, false, true, false] rfl rfl rfl rfl (two_of HT_.out (by kernel_rfl)) (by decide) (by decide) (fun K hK => ?_) (fun K hK => ?_)
                                        · skip
                                          refine Kd.R_lit_step (Kd.int .i64) _ 3 ?hg (N := 30) ?hd (xs := ([] : List Int)) (inner := []) (ok := fun _ => True) (okp := fun _ => True) ?hr ?hp (fun _ hk => hk) trivial (Below.refl _ _) (Nat.le_refl _) (by simp) ?_; (case hd => rfl); (case hg => rfl); (case hr => first | (go_simp; done) | (go_simp; rfl)); (case hp => exact (Reps.none _ _))
                                          intro v882 w33 ho34 hb hg_ hnew_
                                          clear hg_ hnew_
                                          (first | rw [← Ny881.out] at ho34 | (simp only [Int.reduceToNat] at ho34; rw [← Ny881.out] at ho34))
                                          have n0_ := Aside0.mk (Kd.R_elder' (by (with_reducible repeat (first | apply Kd.R_alloc | apply Kd.R_drewN | apply Kd.R_drew)); exact HO_876001.out) (Kd.R_base ho34) hb)
                                          have n1_ := Aside0.mk (Kd.R_elder' (by (with_reducible repeat (first | apply Kd.R_alloc | apply Kd.R_drewN | apply Kd.R_drew)); exact HO889.out) (Kd.R_base ho34) hb)
                                          have n2_ := Aside0.mk (Kd.R_lower (Kd.R_new' (Kd.R_new' ho34 (Kd.R_lt (by (with_reducible repeat (first | apply Kd.R_alloc | apply Kd.R_drewN | apply Kd.R_drew)); exact HO_876001.out))) (Kd.R_lt (by (with_reducible repeat (first | apply Kd.R_alloc | apply Kd.R_drewN | apply Kd.R_drew)); exact HO889.out))) (below_size (by repeat (first | (with_reducible first | exact HB.out | apply below_alloc | apply pw_below_drewN | apply below_drew1 | refine below_set ?_ GE875.out) | exact HB.out))))
                                          have n3_ := Aside0.mk (blk_below (g := gb875) (o := .cells #[.int .i64 t871, .slice Ao13 t872.length co13] 28 (0, 0)) (by (with_reducible repeat (first | refine blk_drewN ?_ _ | refine blk_drew ?_ | refine blk_alloc ?_ _)); exact BK875.out) hb)
                                          have n4_ := Aside0.mk (below_step (by repeat (first | (with_reducible first | exact HB.out | apply below_alloc | apply pw_below_drewN | apply below_drew1 | refine below_set ?_ GE875.out) | exact HB.out)) hb)
                                          clear HO_876001
                                          clear HO889
                                          clear BK875
                                          clear HB
                                          have HO_876001 := n0_
                                          have HO889 := n1_
                                          have HO883 := n2_
                                          have BK875 := n3_
                                          have HB := n4_
                                          clear n0_ n1_ n2_ n3_ n4_
                                          clear hb ho34
                                          refine hK.out _ _ ⟨(blk_cell BK875.out 0).trans rfl, (blk_cell BK875.out 1).trans rfl⟩ (fun hHeld => ?_)
                                          clear hK K
                                          refine norm_ (a' := ?_) ?_ ?_
                                          rotate_left
                                          · show Act.put _ (some 30) _ = _
                                            simp only [Act.put, List.setIfInBounds_toArray, List.set_cons_zero, List.set_cons_succ, i64_w, i32_w]
                                            rfl
                                          exact norm_ (by first | (simp only [putAll, Act.put, List.setIfInBounds_toArray, List.set_cons_zero, List.set_cons_succ]; done) | (simp only [putAll, Act.put, List.setIfInBounds_toArray, List.set_cons_zero, List.set_cons_succ]; rfl)) (hJ2_6 (v882, v888) _ ⟨hHeld, (by (with_reducible repeat (first | apply Kd.R_alloc | apply Kd.R_drewN | apply Kd.R_drew)); exact Kd.R_mono HO883.out (fun _ hk => ⟨hk.2, hk.1.2⟩)), (by (with_reducible repeat (first | apply Kd.R_alloc | apply Kd.R_drewN | apply Kd.R_drew)); exact Kd.R_mono HO889.out (fun _ hk => ⟨hk.2, hk.1⟩)), (by (with_reducible repeat (first | apply Kd.R_alloc | apply Kd.R_drewN | apply Kd.R_drew)); exact Kd.R_mono HO_876001.out (fun _ hk => ⟨hk.2, hk.1⟩)), (by (with_reducible repeat (first | refine blk_drewN ?_ _ | refine blk_drew ?_ | refine blk_alloc ?_ _)); exact BK875.out), (by repeat (first | (with_reducible first | exact HB.out | apply below_alloc | apply pw_below_drewN | apply below_drew1 | refine below_set ?_ GE875.out) | exact HB.out))⟩)
                                        · skip
                                          refine box_step ?hg (N := 7) ?hd (cs := #[.int .i64 0, .slice none 0 0]) (t := 28) ?hr ?_; (case hd => rfl); (case hg => rfl); (case hr => first | (go_simp; done) | (go_simp; rfl))
                                          intro gb893 hg w33 hbox hb
                                          have n0_ := Aside0.mk (Kd.R_below (by (with_reducible repeat (first | apply Kd.R_alloc | apply Kd.R_drewN | apply Kd.R_drew)); exact HO_876001.out) hb)
                                          have n1_ := Aside0.mk (Kd.R_below (by (with_reducible repeat (first | apply Kd.R_alloc | apply Kd.R_drewN | apply Kd.R_drew)); exact HO889.out) hb)
                                          have n2_ := Aside0.mk (blk_below (g := gb875) (o := .cells #[.int .i64 t871, .slice Ao13 t872.length co13] 28 (0, 0)) (by (with_reducible repeat (first | refine blk_drewN ?_ _ | refine blk_drew ?_ | refine blk_alloc ?_ _)); exact BK875.out) hb)
                                          have n3_ := Aside0.mk (below_step (by repeat (first | (with_reducible first | exact HB.out | apply below_alloc | apply pw_below_drewN | apply below_drew1 | refine below_set ?_ GE875.out) | exact HB.out)) hb)
                                          have n4_ := Aside0.mk (hbox)
                                          have n5_ := Aside0.mk ((by rw [hg]; exact (below_size (by repeat (first | (with_reducible first | exact HB.out | apply below_alloc | apply pw_below_drewN | apply below_drew1 | refine below_set ?_ GE875.out) | exact HB.out))) : w.heap.size ≤ gb893))
                                          have n6_ := Aside0.mk ((by rw [hg]; exact (below_size (by repeat (first | (with_reducible first | exact HB.out | apply below_alloc | apply pw_below_drewN | apply below_drew1 | refine below_set ?_ GE875.out) | exact HB.out))) : w.heap.size ≤ gb893))
                                          have n7_ := Aside0.mk ((by rw [hg]; exact Nat.ne_of_lt (blk_lt (g := gb875) (o := .cells #[.int .i64 t871, .slice Ao13 t872.length co13] 28 (0, 0)) (by (with_reducible repeat (first | refine blk_drewN ?_ _ | refine blk_drew ?_ | refine blk_alloc ?_ _)); exact BK875.out)) : gb875 ≠ gb893))
                                          have n8_ := Aside0.mk ((by rw [hg]; exact Nat.ne_of_gt (blk_lt (g := gb875) (o := .cells #[.int .i64 t871, .slice Ao13 t872.length co13] 28 (0, 0)) (by (with_reducible repeat (first | refine blk_drewN ?_ _ | refine blk_drew ?_ | refine blk_alloc ?_ _)); exact BK875.out)) : gb893 ≠ gb875))
                                          clear HO_876001
                                          clear HO889
                                          clear BK875
                                          clear HB
                                          have HO_876001 := n0_
                                          have HO889 := n1_
                                          have BK875 := n2_
                                          have HB := n3_
                                          have BK893 := n4_
                                          have GW893 := n5_
                                          have GE893 := n6_
                                          have NB875_893 := n7_
                                          have NB893_875 := n8_
                                          clear n0_ n1_ n2_ n3_ n4_ n5_ n6_ n7_ n8_
                                          clear hb hbox hg
                                          refine hK.out _ _ ⟨(blk_cell BK875.out 0).trans rfl, (blk_cell BK875.out 1).trans rfl⟩ (fun hHeld => ?_)
                                          clear hK K
                                          refine norm_ (a' := ?_) ?_ ?_
                                          rotate_left
                                          · show Act.put _ (some 7) _ = _
                                            simp only [Act.put, List.setIfInBounds_toArray, List.set_cons_zero, List.set_cons_succ, i64_w, i32_w]
                                            rfl
                                          exact norm_ (by first | (simp only [putAll, Act.put, List.setIfInBounds_toArray, List.set_cons_zero, List.set_cons_succ]; done) | (simp only [putAll, Act.put, List.setIfInBounds_toArray, List.set_cons_zero, List.set_cons_succ]; rfl)) (hJ6_9 (v888, gb893) _ ⟨hHeld, (by (with_reducible repeat (first | apply Kd.R_alloc | apply Kd.R_drewN | apply Kd.R_drew)); exact HO889.out), (by (with_reducible repeat (first | apply Kd.R_alloc | apply Kd.R_drewN | apply Kd.R_drew)); exact HO_876001.out), (by (with_reducible repeat (first | refine blk_drewN ?_ _ | refine blk_drew ?_ | refine blk_alloc ?_ _)); exact BK875.out), (by (with_reducible repeat (first | refine blk_drewN ?_ _ | refine blk_drew ?_ | refine blk_alloc ?_ _)); exact BK893.out), GW893.out, GE893.out, NB875_893.out, NB893_875.out, (by repeat (first | (with_reducible first | exact HB.out | apply below_alloc | apply pw_below_drewN | apply below_drew1 | refine below_set ?_ GE875.out | refine below_set ?_ GE893.out) | exact HB.out))⟩)
                                    · skip
                                      rintro v882 w32 ⟨hS_, h0_, h1_, h2_, h3_⟩
                                      have n0_ : Aside0 (Kd.R (Kd.int .i64) 3 w32 w.heap.size (fun k_ => some k_ ≠ (.slice Ao13 t872.length co13 : Value).ownBlock) v882 y881) := ⟨h0_⟩
                                      have n1_ : Aside0 (Kd.R (Kd.int .i64) 3 w32 w.heap.size (fun k_ => some k_ ≠ (v882 : Value).ownBlock) (.slice Ao13 t872.length co13) t872) := ⟨h1_⟩
                                      have n2_ : Aside0 (w32.heap[gb875]? = some (.cells #[.int .i64 t871, .slice Ao13 t872.length co13] 28 (0, 0))) := ⟨h2_⟩
                                      have n3_ : Aside0 (Below w.heap.size w w32) := ⟨h3_⟩
                                      clear HO_876001
                                      clear BK875
                                      clear HB
                                      clear h0_ h1_ h2_ h3_
                                      have HO883 := n0_
                                      have HO_876001 := n1_
                                      have BK875 := n2_
                                      have HB := n3_
                                      clear n0_ n1_ n2_ n3_
                                      have hHeld : w32.cell? ⟨gb875, 0, none⟩ = some (.int .i64 t871) ∧ w32.cell? ⟨gb875, 1, none⟩ = some (.slice Ao13 t872.length co13) := hS_
                                      refine norm_ (a' := ?_) ?_ ?_
                                      rotate_left
                                      · simp only [putAll, Act.put, List.setIfInBounds_toArray, List.set_cons_zero, List.set_cons_succ]
                                        rfl
                                      refine three_ (i := 5) (j := 6) (k := 9) (Ni := some 33) (Nj := some 34) (Nk := some 7) #[true, true, true, true, true, true, false, false, false, false, false] #[true, true, true, true, true, false, true, false, false, false, false] #[true, true, true, true, true, false, false, false, false, true, false] rfl rfl rfl rfl rfl rfl (three_of HT_.out (by kernel_rfl)) (by decide) (by decide) (by decide) (fun K hK => ?_) (fun K hK => ?_) (fun K hK => ?_)
                                      · skip
                                        refine Kd.R_append_rows_step (Kd.int .i64) (w0 := w) w.heap.size (by rfl) (.tmp 30) (.tmp 32) 23 3 (.int .i64 0) 8 rfl Tryd.underlying23 info3 rfl (by decide) (by omega) v882 y881 t872 _ _ _ (fun k_ => some k_ ≠ (.slice Ao13 t872.length co13 : Value).ownBlock) (fun _ => False) rfl rfl ?aO ?aR (fun _ _ h => h) (fun _ h => h.elim) ?aF ?aB ?aS ?aL ?_
                                        (case aR => repeat (first | exact (Kd.R_reads' HO_876001.out).2.2 | (with_reducible refine Kd.C_alloc ?_ _) | (with_reducible refine Kd.C_drewN ?_ _) | (with_reducible refine Kd.C_drew ?_)))
                                        (case aB => exact (by repeat (first | (with_reducible first | exact HB.out | apply below_alloc | apply pw_below_drewN | apply below_drew1 | refine below_set ?_ GE875.out) | exact HB.out)))
                                        (case aF => exact (fun k_ hk => Kd.fresh' (Kd.R_lt (by (with_reducible repeat (first | apply Kd.R_alloc | apply Kd.R_drewN | apply Kd.R_drew)); exact HO_876001.out)) k_ hk))
                                        (case aO => exact (by (with_reducible repeat (first | apply Kd.R_alloc | apply Kd.R_drewN | apply Kd.R_drew)); exact HO883.out))
                                        (case aS => exact (below_size (by repeat (first | (with_reducible first | exact HB.out | apply below_alloc | apply pw_below_drewN | apply below_drew1 | refine below_set ?_ GE875.out) | exact HB.out))))
                                        (case aL => have := LMc24.out; omega)
                                        intro v885 w33 ho hb hg hat
                                        rw [← Ny884.out] at ho
                                        have n0_ := Aside0.mk (Kd.R_after (ok := (fun _ => True)) (by (with_reducible repeat (first | apply Kd.R_alloc | apply Kd.R_drewN | apply Kd.R_drew)); exact Kd.R_mono HO_876001.out (fun _ hk => ⟨trivial, hk⟩)) hg hat)
                                        have n1_ := Aside0.mk (blk_grown (g := gb875) (o := .cells #[.int .i64 t871, .slice Ao13 t872.length co13] 28 (0, 0)) (by (with_reducible repeat (first | refine blk_drewN ?_ _ | refine blk_drew ?_ | refine blk_alloc ?_ _)); exact BK875.out) hg (Kd.R_ne HO883.out BK875.out (by decide)))
                                        have n2_ := Aside0.mk (hb)
                                        have n3_ := Aside0.mk (ho)
                                        clear HO_876001
                                        clear BK875
                                        clear HB
                                        clear HO883
                                        have HO_876001 := n0_
                                        have BK875 := n1_
                                        have HB := n2_
                                        have HO886 := n3_
                                        clear n0_ n1_ n2_ n3_
                                        clear ho hb hg hat
                                        refine hK.out _ _ ⟨(blk_cell BK875.out 0).trans rfl, (blk_cell BK875.out 1).trans rfl⟩ (fun hHeld => ?_)
                                        clear hK K
                                        refine norm_ (a' := ?_) ?_ ?_
                                        rotate_left
                                        · show Act.put _ (some 33) _ = _
                                          simp only [Act.put, List.setIfInBounds_toArray, List.set_cons_zero, List.set_cons_succ, i64_w, i32_w]
                                          rfl
                                        exact norm_ (by first | (simp only [putAll, Act.put, List.setIfInBounds_toArray, List.set_cons_zero, List.set_cons_succ]; done) | (simp only [putAll, Act.put, List.setIfInBounds_toArray, List.set_cons_zero, List.set_cons_succ]; rfl)) (hJ2_5 (v882, v885) _ ⟨hHeld, (by (with_reducible repeat (first | apply Kd.R_alloc | apply Kd.R_drewN | apply Kd.R_drew)); exact HO886.out), (by (with_reducible repeat (first | apply Kd.R_alloc | apply Kd.R_drewN | apply Kd.R_drew)); exact Kd.R_mono HO_876001.out (fun _ hk => hk.2)), (by (with_reducible repeat (first | refine blk_drewN ?_ _ | refine blk_drew ?_ | refine blk_alloc ?_ _)); exact BK875.out), (by repeat (first | (with_reducible first | exact HB.out | apply below_alloc | apply pw_below_drewN | apply below_drew1 | refine below_set ?_ GE875.out) | exact HB.out))⟩)
                                      · skip
                                        refine Kd.R_lit_step (Kd.int .i64) _ 3 ?hg (N := 34) ?hd (xs := ([0] : List Int)) (inner := [.int .i64 0]) (ok := fun _ => True) (okp := fun _ => True) ?hr ?hp (fun _ hk => hk) trivial (Below.refl _ _) (Nat.le_refl _) (by simp) ?_; (case hd => rfl); (case hg => rfl); (case hr => first | (go_simp; done) | (go_simp; rfl)); (case hp => exact (Reps.one (show Kd.M (Kd.int .i64) _ _ _ 0 [.int .i64 0] from rfl) (Reps.none _ _)))
                                        intro v888 w33 ho34 hb hg_ hnew_
                                        clear hg_ hnew_
                                        (first | rw [← Ny887.out] at ho34 | (simp only [Int.reduceToNat] at ho34; rw [← Ny887.out] at ho34))
                                        have n0_ := Aside0.mk (Kd.R_elder' (by (with_reducible repeat (first | apply Kd.R_alloc | apply Kd.R_drewN | apply Kd.R_drew)); exact HO_876001.out) (Kd.R_base ho34) hb)
                                        have n1_ := Aside0.mk (Kd.R_elder' (by (with_reducible repeat (first | apply Kd.R_alloc | apply Kd.R_drewN | apply Kd.R_drew)); exact HO883.out) (Kd.R_base ho34) hb)
                                        have n2_ := Aside0.mk (Kd.R_lower (Kd.R_new' (Kd.R_new' ho34 (Kd.R_lt (by (with_reducible repeat (first | apply Kd.R_alloc | apply Kd.R_drewN | apply Kd.R_drew)); exact HO_876001.out))) (Kd.R_lt (by (with_reducible repeat (first | apply Kd.R_alloc | apply Kd.R_drewN | apply Kd.R_drew)); exact HO883.out))) (below_size (by repeat (first | (with_reducible first | exact HB.out | apply below_alloc | apply pw_below_drewN | apply below_drew1 | refine below_set ?_ GE875.out) | exact HB.out))))
                                        have n3_ := Aside0.mk (blk_below (g := gb875) (o := .cells #[.int .i64 t871, .slice Ao13 t872.length co13] 28 (0, 0)) (by (with_reducible repeat (first | refine blk_drewN ?_ _ | refine blk_drew ?_ | refine blk_alloc ?_ _)); exact BK875.out) hb)
                                        have n4_ := Aside0.mk (below_step (by repeat (first | (with_reducible first | exact HB.out | apply below_alloc | apply pw_below_drewN | apply below_drew1 | refine below_set ?_ GE875.out) | exact HB.out)) hb)
                                        clear HO_876001
                                        clear HO883
                                        clear BK875
                                        clear HB
                                        have HO_876001 := n0_
                                        have HO883 := n1_
                                        have HO889 := n2_
                                        have BK875 := n3_
                                        have HB := n4_
                                        clear n0_ n1_ n2_ n3_ n4_
                                        clear hb ho34
                                        refine hK.out _ _ ⟨(blk_cell BK875.out 0).trans rfl, (blk_cell BK875.out 1).trans rfl⟩ (fun hHeld => ?_)
                                        clear hK K
                                        refine norm_ (a' := ?_) ?_ ?_
                                        rotate_left
                                        · show Act.put _ (some 34) _ = _
                                          simp only [Act.put, List.setIfInBounds_toArray, List.set_cons_zero, List.set_cons_succ, i64_w, i32_w]
                                          rfl
                                        exact norm_ (by first | (simp only [putAll, Act.put, List.setIfInBounds_toArray, List.set_cons_zero, List.set_cons_succ]; done) | (simp only [putAll, Act.put, List.setIfInBounds_toArray, List.set_cons_zero, List.set_cons_succ]; rfl)) (hJ2_6 (v882, v888) _ ⟨hHeld, (by (with_reducible repeat (first | apply Kd.R_alloc | apply Kd.R_drewN | apply Kd.R_drew)); exact Kd.R_mono HO883.out (fun _ hk => ⟨hk.2, hk.1⟩)), (by (with_reducible repeat (first | apply Kd.R_alloc | apply Kd.R_drewN | apply Kd.R_drew)); exact Kd.R_mono HO889.out (fun _ hk => ⟨hk.2, hk.1.2⟩)), (by (with_reducible repeat (first | apply Kd.R_alloc | apply Kd.R_drewN | apply Kd.R_drew)); exact HO_876001.out), (by (with_reducible repeat (first | refine blk_drewN ?_ _ | refine blk_drew ?_ | refine blk_alloc ?_ _)); exact BK875.out), (by repeat (first | (with_reducible first | exact HB.out | apply below_alloc | apply pw_below_drewN | apply below_drew1 | refine below_set ?_ GE875.out) | exact HB.out))⟩)
                                      · skip
                                        refine box_step ?hg (N := 7) ?hd (cs := #[.int .i64 0, .slice none 0 0]) (t := 28) ?hr ?_; (case hd => rfl); (case hg => rfl); (case hr => first | (go_simp; done) | (go_simp; rfl))
                                        intro gb893 hg w33 hbox hb
                                        have n0_ := Aside0.mk (Kd.R_below (by (with_reducible repeat (first | apply Kd.R_alloc | apply Kd.R_drewN | apply Kd.R_drew)); exact HO_876001.out) hb)
                                        have n1_ := Aside0.mk (Kd.R_below (by (with_reducible repeat (first | apply Kd.R_alloc | apply Kd.R_drewN | apply Kd.R_drew)); exact HO883.out) hb)
                                        have n2_ := Aside0.mk (blk_below (g := gb875) (o := .cells #[.int .i64 t871, .slice Ao13 t872.length co13] 28 (0, 0)) (by (with_reducible repeat (first | refine blk_drewN ?_ _ | refine blk_drew ?_ | refine blk_alloc ?_ _)); exact BK875.out) hb)
                                        have n3_ := Aside0.mk (below_step (by repeat (first | (with_reducible first | exact HB.out | apply below_alloc | apply pw_below_drewN | apply below_drew1 | refine below_set ?_ GE875.out) | exact HB.out)) hb)
                                        have n4_ := Aside0.mk (hbox)
                                        have n5_ := Aside0.mk ((by rw [hg]; exact (below_size (by repeat (first | (with_reducible first | exact HB.out | apply below_alloc | apply pw_below_drewN | apply below_drew1 | refine below_set ?_ GE875.out) | exact HB.out))) : w.heap.size ≤ gb893))
                                        have n6_ := Aside0.mk ((by rw [hg]; exact (below_size (by repeat (first | (with_reducible first | exact HB.out | apply below_alloc | apply pw_below_drewN | apply below_drew1 | refine below_set ?_ GE875.out) | exact HB.out))) : w.heap.size ≤ gb893))
                                        have n7_ := Aside0.mk ((by rw [hg]; exact Nat.ne_of_lt (blk_lt (g := gb875) (o := .cells #[.int .i64 t871, .slice Ao13 t872.length co13] 28 (0, 0)) (by (with_reducible repeat (first | refine blk_drewN ?_ _ | refine blk_drew ?_ | refine blk_alloc ?_ _)); exact BK875.out)) : gb875 ≠ gb893))
                                        have n8_ := Aside0.mk ((by rw [hg]; exact Nat.ne_of_gt (blk_lt (g := gb875) (o := .cells #[.int .i64 t871, .slice Ao13 t872.length co13] 28 (0, 0)) (by (with_reducible repeat (first | refine blk_drewN ?_ _ | refine blk_drew ?_ | refine blk_alloc ?_ _)); exact BK875.out)) : gb893 ≠ gb875))
                                        clear HO_876001
                                        clear HO883
                                        clear BK875
                                        clear HB
                                        have HO_876001 := n0_
                                        have HO883 := n1_
                                        have BK875 := n2_
                                        have HB := n3_
                                        have BK893 := n4_
                                        have GW893 := n5_
                                        have GE893 := n6_
                                        have NB875_893 := n7_
                                        have NB893_875 := n8_
                                        clear n0_ n1_ n2_ n3_ n4_ n5_ n6_ n7_ n8_
                                        clear hb hbox hg
                                        refine hK.out _ _ ⟨(blk_cell BK875.out 0).trans rfl, (blk_cell BK875.out 1).trans rfl⟩ (fun hHeld => ?_)
                                        clear hK K
                                        refine norm_ (a' := ?_) ?_ ?_
                                        rotate_left
                                        · show Act.put _ (some 7) _ = _
                                          simp only [Act.put, List.setIfInBounds_toArray, List.set_cons_zero, List.set_cons_succ, i64_w, i32_w]
                                          rfl
                                        exact norm_ (by first | (simp only [putAll, Act.put, List.setIfInBounds_toArray, List.set_cons_zero, List.set_cons_succ]; done) | (simp only [putAll, Act.put, List.setIfInBounds_toArray, List.set_cons_zero, List.set_cons_succ]; rfl)) (hJ2_9 (v882, gb893) _ ⟨hHeld, (by (with_reducible repeat (first | apply Kd.R_alloc | apply Kd.R_drewN | apply Kd.R_drew)); exact HO883.out), (by (with_reducible repeat (first | apply Kd.R_alloc | apply Kd.R_drewN | apply Kd.R_drew)); exact HO_876001.out), (by (with_reducible repeat (first | refine blk_drewN ?_ _ | refine blk_drew ?_ | refine blk_alloc ?_ _)); exact BK875.out), (by (with_reducible repeat (first | refine blk_drewN ?_ _ | refine blk_drew ?_ | refine blk_alloc ?_ _)); exact BK893.out), GW893.out, GE893.out, NB875_893.out, NB893_875.out, (by repeat (first | (with_reducible first | exact HB.out | apply below_alloc | apply pw_below_drewN | apply below_drew1 | refine below_set ?_ GE875.out | refine below_set ?_ GE893.out) | exact HB.out))⟩)
                                  · skip
                                    rintro ⟨v888, gb893⟩ w33 ⟨hS_, h0_, h1_, h2_, h3_, h4_, h5_, h6_, h7_, h8_⟩
                                    have n0_ : Aside0 (Kd.R (Kd.int .i64) 3 w33 w.heap.size (fun k_ => some k_ ≠ (.slice Ao13 t872.length co13 : Value).ownBlock) v888 y887) := ⟨h0_⟩
                                    have n1_ : Aside0 (Kd.R (Kd.int .i64) 3 w33 w.heap.size (fun k_ => some k_ ≠ (v888 : Value).ownBlock) (.slice Ao13 t872.length co13) t872) := ⟨h1_⟩
                                    have n2_ : Aside0 (w33.heap[gb875]? = some (.cells #[.int .i64 t871, .slice Ao13 t872.length co13] 28 (0, 0))) := ⟨h2_⟩
                                    have n3_ : Aside0 (w33.heap[gb893]? = some (.cells #[.int .i64 0, .slice none 0 0] 28 (0, 0))) := ⟨h3_⟩
                                    have n4_ : Aside0 (w.heap.size ≤ gb893) := ⟨h4_⟩
                                    have n5_ : Aside0 (w.heap.size ≤ gb893) := ⟨h5_⟩
                                    have n6_ : Aside0 (gb875 ≠ gb893) := ⟨h6_⟩
                                    have n7_ : Aside0 (gb893 ≠ gb875) := ⟨h7_⟩
                                    have n8_ : Aside0 (Below w.heap.size w w33) := ⟨h8_⟩
                                    clear HO_876001
                                    clear BK875
                                    clear HB
                                    clear h0_ h1_ h2_ h3_ h4_ h5_ h6_ h7_ h8_
                                    have HO889 := n0_
                                    have HO_876001 := n1_
                                    have BK875 := n2_
                                    have BK893 := n3_
                                    have GW893 := n4_
                                    have GE893 := n5_
                                    have NB875_893 := n6_
                                    have NB893_875 := n7_
                                    have HB := n8_
                                    clear n0_ n1_ n2_ n3_ n4_ n5_ n6_ n7_ n8_
                                    have hHeld : w33.cell? ⟨gb875, 0, none⟩ = some (.int .i64 t871) ∧ w33.cell? ⟨gb875, 1, none⟩ = some (.slice Ao13 t872.length co13) := hS_
                                    refine norm_ (a' := ?_) ?_ ?_
                                    rotate_left
                                    · simp only [putAll, Act.put, List.setIfInBounds_toArray, List.set_cons_zero, List.set_cons_succ]
                                      rfl
                                    refine one_ (i := 2) (N := some 30) #[true, true, true, true, true, false, true, false, false, true, false] rfl rfl (one_of HT_.out (by kernel_rfl)) (by decide) (fun K hK => ?_)
                                    refine Kd.R_lit_step (Kd.int .i64) _ 3 ?hg (N := 30) ?hd (xs := ([] : List Int)) (inner := []) (ok := fun _ => True) (okp := fun _ => True) ?hr ?hp (fun _ hk => hk) trivial (Below.refl _ _) (Nat.le_refl _) (by simp) ?_; (case hd => rfl); (case hg => rfl); (case hr => first | (go_simp; done) | (go_simp; rfl)); (case hp => exact (Reps.none _ _))
                                    intro v882 w34 ho35 hb hg_ hnew_
                                    clear hg_ hnew_
                                    (first | rw [← Ny881.out] at ho35 | (simp only [Int.reduceToNat] at ho35; rw [← Ny881.out] at ho35))
                                    have n0_ := Aside0.mk (Kd.R_elder' (by (with_reducible repeat (first | apply Kd.R_alloc | apply Kd.R_drewN | apply Kd.R_drew)); exact HO_876001.out) (Kd.R_base ho35) hb)
                                    have n1_ := Aside0.mk (Kd.R_elder' (by (with_reducible repeat (first | apply Kd.R_alloc | apply Kd.R_drewN | apply Kd.R_drew)); exact HO889.out) (Kd.R_base ho35) hb)
                                    have n2_ := Aside0.mk (Kd.R_lower (Kd.R_new' (Kd.R_new' ho35 (Kd.R_lt (by (with_reducible repeat (first | apply Kd.R_alloc | apply Kd.R_drewN | apply Kd.R_drew)); exact HO_876001.out))) (Kd.R_lt (by (with_reducible repeat (first | apply Kd.R_alloc | apply Kd.R_drewN | apply Kd.R_drew)); exact HO889.out))) (below_size (by repeat (first | (with_reducible first | exact HB.out | apply below_alloc | apply pw_below_drewN | apply below_drew1 | refine below_set ?_ GE875.out | refine below_set ?_ GE893.out) | exact HB.out))))
                                    have n3_ := Aside0.mk (blk_below (g := gb875) (o := .cells #[.int .i64 t871, .slice Ao13 t872.length co13] 28 (0, 0)) (by (with_reducible repeat (first | refine blk_drewN ?_ _ | refine blk_drew ?_ | refine blk_alloc ?_ _)); exact BK875.out) hb)
                                    have n4_ := Aside0.mk (blk_below (g := gb893) (o := .cells #[.int .i64 0, .slice none 0 0] 28 (0, 0)) (by (with_reducible repeat (first | refine blk_drewN ?_ _ | refine blk_drew ?_ | refine blk_alloc ?_ _)); exact BK893.out) hb)
                                    have n5_ := Aside0.mk (below_step (by repeat (first | (with_reducible first | exact HB.out | apply below_alloc | apply pw_below_drewN | apply below_drew1 | refine below_set ?_ GE875.out | refine below_set ?_ GE893.out) | exact HB.out)) hb)
                                    clear HO_876001
                                    clear HO889
                                    clear BK875
                                    clear BK893
                                    clear HB
                                    have HO_876001 := n0_
                                    have HO889 := n1_
                                    have HO883 := n2_
                                    have BK875 := n3_
                                    have BK893 := n4_
                                    have HB := n5_
                                    clear n0_ n1_ n2_ n3_ n4_ n5_
                                    clear hb ho35
                                    refine hK.out _ _ ⟨(blk_cell BK875.out 0).trans rfl, (blk_cell BK875.out 1).trans rfl⟩ (fun hHeld => ?_)
                                    clear hK K
                                    refine norm_ (a' := ?_) ?_ ?_
                                    rotate_left
                                    · show Act.put _ (some 30) _ = _
                                      simp only [Act.put, List.setIfInBounds_toArray, List.set_cons_zero, List.set_cons_succ, i64_w, i32_w]
                                      rfl
                                    exact norm_ (by first | (simp only [putAll, Act.put, List.setIfInBounds_toArray, List.set_cons_zero, List.set_cons_succ]; done) | (simp only [putAll, Act.put, List.setIfInBounds_toArray, List.set_cons_zero, List.set_cons_succ]; rfl)) (hJ2_6_9 (v882, v888, gb893) _ ⟨hHeld, (by (with_reducible repeat (first | apply Kd.R_alloc | apply Kd.R_drewN | apply Kd.R_drew)); exact Kd.R_mono HO883.out (fun _ hk => ⟨hk.2, hk.1.2⟩)), (by (with_reducible repeat (first | apply Kd.R_alloc | apply Kd.R_drewN | apply Kd.R_drew)); exact Kd.R_mono HO889.out (fun _ hk => ⟨hk.2, hk.1⟩)), (by (with_reducible repeat (first | apply Kd.R_alloc | apply Kd.R_drewN | apply Kd.R_drew)); exact Kd.R_mono HO_876001.out (fun _ hk => ⟨hk.2, hk.1⟩)), (by (with_reducible repeat (first | refine blk_drewN ?_ _ | refine blk_drew ?_ | refine blk_alloc ?_ _)); exact BK875.out), (by (with_reducible repeat (first | refine blk_drewN ?_ _ | refine blk_drew ?_ | refine blk_alloc ?_ _)); exact BK893.out), GW893.out, GE893.out, NB875_893.out, NB893_875.out, (by repeat (first | (with_reducible first | exact HB.out | apply below_alloc | apply pw_below_drewN | apply below_drew1 | refine below_set ?_ GE875.out | refine below_set ?_ GE893.out) | exact HB.out))⟩)
                                · skip
                                  rintro ⟨v882, gb893⟩ w33 ⟨hS_, h0_, h1_, h2_, h3_, h4_, h5_, h6_, h7_, h8_⟩
                                  have n0_ : Aside0 (Kd.R (Kd.int .i64) 3 w33 w.heap.size (fun k_ => some k_ ≠ (.slice Ao13 t872.length co13 : Value).ownBlock) v882 y881) := ⟨h0_⟩
                                  have n1_ : Aside0 (Kd.R (Kd.int .i64) 3 w33 w.heap.size (fun k_ => some k_ ≠ (v882 : Value).ownBlock) (.slice Ao13 t872.length co13) t872) := ⟨h1_⟩
                                  have n2_ : Aside0 (w33.heap[gb875]? = some (.cells #[.int .i64 t871, .slice Ao13 t872.length co13] 28 (0, 0))) := ⟨h2_⟩
                                  have n3_ : Aside0 (w33.heap[gb893]? = some (.cells #[.int .i64 0, .slice none 0 0] 28 (0, 0))) := ⟨h3_⟩
                                  have n4_ : Aside0 (w.heap.size ≤ gb893) := ⟨h4_⟩
                                  have n5_ : Aside0 (w.heap.size ≤ gb893) := ⟨h5_⟩
                                  have n6_ : Aside0 (gb875 ≠ gb893) := ⟨h6_⟩
                                  have n7_ : Aside0 (gb893 ≠ gb875) := ⟨h7_⟩
                                  have n8_ : Aside0 (Below w.heap.size w w33) := ⟨h8_⟩
                                  clear HO_876001
                                  clear BK875
                                  clear HB
                                  clear h0_ h1_ h2_ h3_ h4_ h5_ h6_ h7_ h8_
                                  have HO883 := n0_
                                  have HO_876001 := n1_
                                  have BK875 := n2_
                                  have BK893 := n3_
                                  have GW893 := n4_
                                  have GE893 := n5_
                                  have NB875_893 := n6_
                                  have NB893_875 := n7_
                                  have HB := n8_
                                  clear n0_ n1_ n2_ n3_ n4_ n5_ n6_ n7_ n8_
                                  have hHeld : w33.cell? ⟨gb875, 0, none⟩ = some (.int .i64 t871) ∧ w33.cell? ⟨gb875, 1, none⟩ = some (.slice Ao13 t872.length co13) := hS_
                                  refine norm_ (a' := ?_) ?_ ?_
                                  rotate_left
                                  · simp only [putAll, Act.put, List.setIfInBounds_toArray, List.set_cons_zero, List.set_cons_succ]
                                    rfl
                                  refine two_ (i := 5) (j := 6) (Ni := some 33) (Nj := some 34) #[true, true, true, true, true, true, false, false, false, true, false] #[true, true, true, true, true, false, true, false, false, true, false] rfl rfl rfl rfl (two_of HT_.out (by kernel_rfl)) (by decide) (by decide) (fun K hK => ?_) (fun K hK => ?_)
                                  · skip
                                    refine Kd.R_append_rows_step (Kd.int .i64) (w0 := w) w.heap.size (by rfl) (.tmp 30) (.tmp 32) 23 3 (.int .i64 0) 8 rfl Tryd.underlying23 info3 rfl (by decide) (by omega) v882 y881 t872 _ _ _ (fun k_ => some k_ ≠ (.slice Ao13 t872.length co13 : Value).ownBlock) (fun _ => False) rfl rfl ?aO ?aR (fun _ _ h => h) (fun _ h => h.elim) ?aF ?aB ?aS ?aL ?_
                                    (case aR => repeat (first | exact (Kd.R_reads' HO_876001.out).2.2 | (with_reducible refine Kd.C_alloc ?_ _) | (with_reducible refine Kd.C_drewN ?_ _) | (with_reducible refine Kd.C_drew ?_)))
                                    (case aB => exact (by repeat (first | (with_reducible first | exact HB.out | apply below_alloc | apply pw_below_drewN | apply below_drew1 | refine below_set ?_ GE875.out | refine below_set ?_ GE893.out) | exact HB.out)))
                                    (case aF => exact (fun k_ hk => Kd.fresh' (Kd.R_lt (by (with_reducible repeat (first | apply Kd.R_alloc | apply Kd.R_drewN | apply Kd.R_drew)); exact HO_876001.out)) k_ hk))
                                    (case aO => exact (by (with_reducible repeat (first | apply Kd.R_alloc | apply Kd.R_drewN | apply Kd.R_drew)); exact HO883.out))
                                    (case aS => exact (below_size (by repeat (first | (with_reducible first | exact HB.out | apply below_alloc | apply pw_below_drewN | apply below_drew1 | refine below_set ?_ GE875.out | refine below_set ?_ GE893.out) | exact HB.out))))
                                    (case aL => have := LMc24.out; omega)
                                    intro v885 w34 ho hb hg hat
                                    rw [← Ny884.out] at ho
                                    have n0_ := Aside0.mk (Kd.R_after (ok := (fun _ => True)) (by (with_reducible repeat (first | apply Kd.R_alloc | apply Kd.R_drewN | apply Kd.R_drew)); exact Kd.R_mono HO_876001.out (fun _ hk => ⟨trivial, hk⟩)) hg hat)
                                    have n1_ := Aside0.mk (blk_grown (g := gb875) (o := .cells #[.int .i64 t871, .slice Ao13 t872.length co13] 28 (0, 0)) (by (with_reducible repeat (first | refine blk_drewN ?_ _ | refine blk_drew ?_ | refine blk_alloc ?_ _)); exact BK875.out) hg (Kd.R_ne HO883.out BK875.out (by decide)))
                                    have n2_ := Aside0.mk (blk_grown (g := gb893) (o := .cells #[.int .i64 0, .slice none 0 0] 28 (0, 0)) (by (with_reducible repeat (first | refine blk_drewN ?_ _ | refine blk_drew ?_ | refine blk_alloc ?_ _)); exact BK893.out) hg (Kd.R_ne HO883.out BK893.out (by decide)))
                                    have n3_ := Aside0.mk (hb)
                                    have n4_ := Aside0.mk (ho)
                                    clear HO_876001
                                    clear BK875
                                    clear BK893
                                    clear HB
                                    clear HO883
                                    have HO_876001 := n0_
                                    have BK875 := n1_
                                    have BK893 := n2_
                                    have HB := n3_
                                    have HO886 := n4_
                                    clear n0_ n1_ n2_ n3_ n4_
                                    clear ho hb hg hat
                                    refine hK.out _ _ ⟨(blk_cell BK875.out 0).trans rfl, (blk_cell BK875.out 1).trans rfl⟩ (fun hHeld => ?_)
                                    clear hK K
                                    refine norm_ (a' := ?_) ?_ ?_
                                    rotate_left
                                    · show Act.put _ (some 33) _ = _
                                      simp only [Act.put, List.setIfInBounds_toArray, List.set_cons_zero, List.set_cons_succ, i64_w, i32_w]
                                      rfl
                                    exact norm_ (by first | (simp only [putAll, Act.put, List.setIfInBounds_toArray, List.set_cons_zero, List.set_cons_succ]; done) | (simp only [putAll, Act.put, List.setIfInBounds_toArray, List.set_cons_zero, List.set_cons_succ]; rfl)) (hJ2_5_9 (v882, v885, gb893) _ ⟨hHeld, (by (with_reducible repeat (first | apply Kd.R_alloc | apply Kd.R_drewN | apply Kd.R_drew)); exact HO886.out), (by (with_reducible repeat (first | apply Kd.R_alloc | apply Kd.R_drewN | apply Kd.R_drew)); exact Kd.R_mono HO_876001.out (fun _ hk => hk.2)), (by (with_reducible repeat (first | refine blk_drewN ?_ _ | refine blk_drew ?_ | refine blk_alloc ?_ _)); exact BK875.out), (by (with_reducible repeat (first | refine blk_drewN ?_ _ | refine blk_drew ?_ | refine blk_alloc ?_ _)); exact BK893.out), GW893.out, GE893.out, NB875_893.out, NB893_875.out, (by repeat (first | (with_reducible first | exact HB.out | apply below_alloc | apply pw_below_drewN | apply below_drew1 | refine below_set ?_ GE875.out | refine below_set ?_ GE893.out) | exact HB.out))⟩)
                                  · skip
                                    refine Kd.R_lit_step (Kd.int .i64) _ 3 ?hg (N := 34) ?hd (xs := ([0] : List Int)) (inner := [.int .i64 0]) (ok := fun _ => True) (okp := fun _ => True) ?hr ?hp (fun _ hk => hk) trivial (Below.refl _ _) (Nat.le_refl _) (by simp) ?_; (case hd => rfl); (case hg => rfl); (case hr => first | (go_simp; done) | (go_simp; rfl)); (case hp => exact (Reps.one (show Kd.M (Kd.int .i64) _ _ _ 0 [.int .i64 0] from rfl) (Reps.none _ _)))
                                    intro v888 w34 ho35 hb hg_ hnew_
                                    clear hg_ hnew_
                                    (first | rw [← Ny887.out] at ho35 | (simp only [Int.reduceToNat] at ho35; rw [← Ny887.out] at ho35))
                                    have n0_ := Aside0.mk (Kd.R_elder' (by (with_reducible repeat (first | apply Kd.R_alloc | apply Kd.R_drewN | apply Kd.R_drew)); exact HO_876001.out) (Kd.R_base ho35) hb)
                                    have n1_ := Aside0.mk (Kd.R_elder' (by (with_reducible repeat (first | apply Kd.R_alloc | apply Kd.R_drewN | apply Kd.R_drew)); exact HO883.out) (Kd.R_base ho35) hb)
                                    have n2_ := Aside0.mk (Kd.R_lower (Kd.R_new' (Kd.R_new' ho35 (Kd.R_lt (by (with_reducible repeat (first | apply Kd.R_alloc | apply Kd.R_drewN | apply Kd.R_drew)); exact HO_876001.out))) (Kd.R_lt (by (with_reducible repeat (first | apply Kd.R_alloc | apply Kd.R_drewN | apply Kd.R_drew)); exact HO883.out))) (below_size (by repeat (first | (with_reducible first | exact HB.out | apply below_alloc | apply pw_below_drewN | apply below_drew1 | refine below_set ?_ GE875.out | refine below_set ?_ GE893.out) | exact HB.out))))
                                    have n3_ := Aside0.mk (blk_below (g := gb875) (o := .cells #[.int .i64 t871, .slice Ao13 t872.length co13] 28 (0, 0)) (by (with_reducible repeat (first | refine blk_drewN ?_ _ | refine blk_drew ?_ | refine blk_alloc ?_ _)); exact BK875.out) hb)
                                    have n4_ := Aside0.mk (blk_below (g := gb893) (o := .cells #[.int .i64 0, .slice none 0 0] 28 (0, 0)) (by (with_reducible repeat (first | refine blk_drewN ?_ _ | refine blk_drew ?_ | refine blk_alloc ?_ _)); exact BK893.out) hb)
                                    have n5_ := Aside0.mk (below_step (by repeat (first | (with_reducible first | exact HB.out | apply below_alloc | apply pw_below_drewN | apply below_drew1 | refine below_set ?_ GE875.out | refine below_set ?_ GE893.out) | exact HB.out)) hb)
                                    clear HO_876001
                                    clear HO883
                                    clear BK875
                                    clear BK893
                                    clear HB
                                    have HO_876001 := n0_
                                    have HO883 := n1_
                                    have HO889 := n2_
                                    have BK875 := n3_
                                    have BK893 := n4_
                                    have HB := n5_
                                    clear n0_ n1_ n2_ n3_ n4_ n5_
                                    clear hb ho35
                                    refine hK.out _ _ ⟨(blk_cell BK875.out 0).trans rfl, (blk_cell BK875.out 1).trans rfl⟩ (fun hHeld => ?_)
                                    clear hK K
                                    refine norm_ (a' := ?_) ?_ ?_
                                    rotate_left
                                    · show Act.put _ (some 34) _ = _
                                      simp only [Act.put, List.setIfInBounds_toArray, List.set_cons_zero, List.set_cons_succ, i64_w, i32_w]
                                      rfl
                                    exact norm_ (by first | (simp only [putAll, Act.put, List.setIfInBounds_toArray, List.set_cons_zero, List.set_cons_succ]; done) | (simp only [putAll, Act.put, List.setIfInBounds_toArray, List.set_cons_zero, List.set_cons_succ]; rfl)) (hJ2_6_9 (v882, v888, gb893) _ ⟨hHeld, (by (with_reducible repeat (first | apply Kd.R_alloc | apply Kd.R_drewN | apply Kd.R_drew)); exact Kd.R_mono HO883.out (fun _ hk => ⟨hk.2, hk.1⟩)), (by (with_reducible repeat (first | apply Kd.R_alloc | apply Kd.R_drewN | apply Kd.R_drew)); exact Kd.R_mono HO889.out (fun _ hk => ⟨hk.2, hk.1.2⟩)), (by (with_reducible repeat (first | apply Kd.R_alloc | apply Kd.R_drewN | apply Kd.R_drew)); exact HO_876001.out), (by (with_reducible repeat (first | refine blk_drewN ?_ _ | refine blk_drew ?_ | refine blk_alloc ?_ _)); exact BK875.out), (by (with_reducible repeat (first | refine blk_drewN ?_ _ | refine blk_drew ?_ | refine blk_alloc ?_ _)); exact BK893.out), GW893.out, GE893.out, NB875_893.out, NB893_875.out, (by repeat (first | (with_reducible first | exact HB.out | apply below_alloc | apply pw_below_drewN | apply below_drew1 | refine below_set ?_ GE875.out | refine below_set ?_ GE893.out) | exact HB.out))⟩)
                              · skip
                                rintro ⟨v882, v888⟩ w34 ⟨hS_, h0_, h1_, h2_, h3_, h4_⟩
                                have n0_ : Aside0 (Kd.R (Kd.int .i64) 3 w34 w.heap.size (fun k_ => some k_ ≠ (v888 : Value).ownBlock ∧ some k_ ≠ (.slice Ao13 t872.length co13 : Value).ownBlock) v882 y881) := ⟨h0_⟩
                                have n1_ : Aside0 (Kd.R (Kd.int .i64) 3 w34 w.heap.size (fun k_ => some k_ ≠ (v882 : Value).ownBlock ∧ some k_ ≠ (.slice Ao13 t872.length co13 : Value).ownBlock) v888 y887) := ⟨h1_⟩
                                have n2_ : Aside0 (Kd.R (Kd.int .i64) 3 w34 w.heap.size (fun k_ => some k_ ≠ (v882 : Value).ownBlock ∧ some k_ ≠ (v888 : Value).ownBlock) (.slice Ao13 t872.length co13) t872) := ⟨h2_⟩
                                have n3_ : Aside0 (w34.heap[gb875]? = some (.cells #[.int .i64 t871, .slice Ao13 t872.length co13] 28 (0, 0))) := ⟨h3_⟩
                                have n4_ : Aside0 (Below w.heap.size w w34) := ⟨h4_⟩
                                clear HO_876001
                                clear BK875
                                clear HB
                                clear h0_ h1_ h2_ h3_ h4_
                                have HO883 := n0_
                                have HO889 := n1_
                                have HO_876001 := n2_
                                have BK875 := n3_
                                have HB := n4_
                                clear n0_ n1_ n2_ n3_ n4_
                                have hHeld : w34.cell? ⟨gb875, 0, none⟩ = some (.int .i64 t871) ∧ w34.cell? ⟨gb875, 1, none⟩ = some (.slice Ao13 t872.length co13) := hS_
                                refine norm_ (a' := ?_) ?_ ?_
                                rotate_left
                                · simp only [putAll, Act.put, List.setIfInBounds_toArray, List.set_cons_zero, List.set_cons_succ]
                                  rfl
                                refine two_ (i := 5) (j := 9) (Ni := some 33) (Nj := some 7) #[true, true, true, true, true, true, true, false, false, false, false] #[true, true, true, true, true, false, true, false, false, true, false] rfl rfl rfl rfl (two_of HT_.out (by kernel_rfl)) (by decide) (by decide) (fun K hK => ?_) (fun K hK => ?_)
                                · skip
                                  refine Kd.R_append_rows_step (Kd.int .i64) (w0 := w) w.heap.size (by rfl) (.tmp 30) (.tmp 32) 23 3 (.int .i64 0) 8 rfl Tryd.underlying23 info3 rfl (by decide) (by omega) v882 y881 t872 _ _ _ (fun k_ => some k_ ≠ (.slice Ao13 t872.length co13 : Value).ownBlock ∧ some k_ ≠ (v888 : Value).ownBlock) (fun _ => False) rfl rfl ?aO ?aR (fun _ _ h => h) (fun _ h => h.elim) ?aF ?aB ?aS ?aL ?_
                                  (case aR => repeat (first | exact (Kd.R_reads' HO_876001.out).2.2 | (with_reducible refine Kd.C_alloc ?_ _) | (with_reducible refine Kd.C_drewN ?_ _) | (with_reducible refine Kd.C_drew ?_)))
                                  (case aB => exact (by repeat (first | (with_reducible first | exact HB.out | apply below_alloc | apply pw_below_drewN | apply below_drew1 | refine below_set ?_ GE875.out) | exact HB.out)))
                                  (case aF => exact (fun k_ hk => ⟨Kd.fresh' (Kd.R_lt (by (with_reducible repeat (first | apply Kd.R_alloc | apply Kd.R_drewN | apply Kd.R_drew)); exact HO_876001.out)) k_ hk, Kd.fresh' (Kd.R_lt (by (with_reducible repeat (first | apply Kd.R_alloc | apply Kd.R_drewN | apply Kd.R_drew)); exact HO889.out)) k_ hk⟩))
                                  (case aO => exact (by (with_reducible repeat (first | apply Kd.R_alloc | apply Kd.R_drewN | apply Kd.R_drew)); exact Kd.R_mono HO883.out (fun _ hk => ⟨hk.2, hk.1⟩)))
                                  (case aS => exact (below_size (by repeat (first | (with_reducible first | exact HB.out | apply below_alloc | apply pw_below_drewN | apply below_drew1 | refine below_set ?_ GE875.out) | exact HB.out))))
                                  (case aL => have := LMc24.out; omega)
                                  intro v885 w35 ho hb hg hat
                                  rw [← Ny884.out] at ho
                                  have n0_ := Aside0.mk (Kd.R_after (ok := (fun k_ => some k_ ≠ (v888 : Value).ownBlock)) (by (with_reducible repeat (first | apply Kd.R_alloc | apply Kd.R_drewN | apply Kd.R_drew)); exact Kd.R_mono HO_876001.out (fun _ hk => ⟨hk.2, hk.1⟩)) hg hat)
                                  have n1_ := Aside0.mk (blk_grown (g := gb875) (o := .cells #[.int .i64 t871, .slice Ao13 t872.length co13] 28 (0, 0)) (by (with_reducible repeat (first | refine blk_drewN ?_ _ | refine blk_drew ?_ | refine blk_alloc ?_ _)); exact BK875.out) hg (Kd.R_ne HO883.out BK875.out (by decide)))
                                  have n2_ := Aside0.mk (Kd.R_after (ok := (fun k_ => some k_ ≠ (.slice Ao13 t872.length co13 : Value).ownBlock)) (by (with_reducible repeat (first | apply Kd.R_alloc | apply Kd.R_drewN | apply Kd.R_drew)); exact Kd.R_mono HO889.out (fun _ hk => ⟨hk.2, hk.1⟩)) hg hat)
                                  have n3_ := Aside0.mk (hb)
                                  have n4_ := Aside0.mk (ho)
                                  clear HO_876001
                                  clear BK875
                                  clear HO889
                                  clear HB
                                  clear HO883
                                  have HO_876001 := n0_
                                  have BK875 := n1_
                                  have HO889 := n2_
                                  have HB := n3_
                                  have HO886 := n4_
                                  clear n0_ n1_ n2_ n3_ n4_
                                  clear ho hb hg hat
                                  refine hK.out _ _ ⟨(blk_cell BK875.out 0).trans rfl, (blk_cell BK875.out 1).trans rfl⟩ (fun hHeld => ?_)
                                  clear hK K
                                  refine norm_ (a' := ?_) ?_ ?_
                                  rotate_left
                                  · show Act.put _ (some 33) _ = _
                                    simp only [Act.put, List.setIfInBounds_toArray, List.set_cons_zero, List.set_cons_succ, i64_w, i32_w]
                                    rfl
                                  exact norm_ (by first | (simp only [putAll, Act.put, List.setIfInBounds_toArray, List.set_cons_zero, List.set_cons_succ]; done) | (simp only [putAll, Act.put, List.setIfInBounds_toArray, List.set_cons_zero, List.set_cons_succ]; rfl)) (hJ2_5_6 (v882, v885, v888) _ ⟨hHeld, (by (with_reducible repeat (first | apply Kd.R_alloc | apply Kd.R_drewN | apply Kd.R_drew)); exact Kd.R_mono HO886.out (fun _ hk => ⟨hk.2, hk.1⟩)), (by (with_reducible repeat (first | apply Kd.R_alloc | apply Kd.R_drewN | apply Kd.R_drew)); exact Kd.R_mono HO889.out (fun _ hk => ⟨hk.2, hk.1⟩)), (by (with_reducible repeat (first | apply Kd.R_alloc | apply Kd.R_drewN | apply Kd.R_drew)); exact Kd.R_mono HO_876001.out (fun _ hk => ⟨hk.2, hk.1⟩)), (by (with_reducible repeat (first | refine blk_drewN ?_ _ | refine blk_drew ?_ | refine blk_alloc ?_ _)); exact BK875.out), (by repeat (first | (with_reducible first | exact HB.out | apply below_alloc | apply pw_below_drewN | apply below_drew1 | refine below_set ?_ GE875.out) | exact HB.out))⟩)
                                · skip
                                  refine box_step ?hg (N := 7) ?hd (cs := #[.int .i64 0, .slice none 0 0]) (t := 28) ?hr ?_; (case hd => rfl); (case hg => rfl); (case hr => first | (go_simp; done) | (go_simp; rfl))
                                  intro gb893 hg w35 hbox hb
                                  have n0_ := Aside0.mk (Kd.R_below (by (with_reducible repeat (first | apply Kd.R_alloc | apply Kd.R_drewN | apply Kd.R_drew)); exact HO_876001.out) hb)
                                  have n1_ := Aside0.mk (Kd.R_below (by (with_reducible repeat (first | apply Kd.R_alloc | apply Kd.R_drewN | apply Kd.R_drew)); exact HO883.out) hb)
                                  have n2_ := Aside0.mk (Kd.R_below (by (with_reducible repeat (first | apply Kd.R_alloc | apply Kd.R_drewN | apply Kd.R_drew)); exact HO889.out) hb)
                                  have n3_ := Aside0.mk (blk_below (g := gb875) (o := .cells #[.int .i64 t871, .slice Ao13 t872.length co13] 28 (0, 0)) (by (with_reducible repeat (first | refine blk_drewN ?_ _ | refine blk_drew ?_ | refine blk_alloc ?_ _)); exact BK875.out) hb)
                                  have n4_ := Aside0.mk (below_step (by repeat (first | (with_reducible first | exact HB.out | apply below_alloc | apply pw_below_drewN | apply below_drew1 | refine below_set ?_ GE875.out) | exact HB.out)) hb)
                                  have n5_ := Aside0.mk (hbox)
                                  have n6_ := Aside0.mk ((by rw [hg]; exact (below_size (by repeat (first | (with_reducible first | exact HB.out | apply below_alloc | apply pw_below_drewN | apply below_drew1 | refine below_set ?_ GE875.out) | exact HB.out))) : w.heap.size ≤ gb893))
                                  have n7_ := Aside0.mk ((by rw [hg]; exact (below_size (by repeat (first | (with_reducible first | exact HB.out | apply below_alloc | apply pw_below_drewN | apply below_drew1 | refine below_set ?_ GE875.out) | exact HB.out))) : w.heap.size ≤ gb893))
                                  have n8_ := Aside0.mk ((by rw [hg]; exact Nat.ne_of_lt (blk_lt (g := gb875) (o := .cells #[.int .i64 t871, .slice Ao13 t872.length co13] 28 (0, 0)) (by (with_reducible repeat (first | refine blk_drewN ?_ _ | refine blk_drew ?_ | refine blk_alloc ?_ _)); exact BK875.out)) : gb875 ≠ gb893))
                                  have n9_ := Aside0.mk ((by rw [hg]; exact Nat.ne_of_gt (blk_lt (g := gb875) (o := .cells #[.int .i64 t871, .slice Ao13 t872.length co13] 28 (0, 0)) (by (with_reducible repeat (first | refine blk_drewN ?_ _ | refine blk_drew ?_ | refine blk_alloc ?_ _)); exact BK875.out)) : gb893 ≠ gb875))
                                  clear HO_876001
                                  clear HO883
                                  clear HO889
                                  clear BK875
                                  clear HB
                                  have HO_876001 := n0_
                                  have HO883 := n1_
                                  have HO889 := n2_
                                  have BK875 := n3_
                                  have HB := n4_
                                  have BK893 := n5_
                                  have GW893 := n6_
                                  have GE893 := n7_
                                  have NB875_893 := n8_
                                  have NB893_875 := n9_
                                  clear n0_ n1_ n2_ n3_ n4_ n5_ n6_ n7_ n8_ n9_
                                  clear hb hbox hg
                                  refine hK.out _ _ ⟨(blk_cell BK875.out 0).trans rfl, (blk_cell BK875.out 1).trans rfl⟩ (fun hHeld => ?_)
                                  clear hK K
                                  refine norm_ (a' := ?_) ?_ ?_
                                  rotate_left
                                  · show Act.put _ (some 7) _ = _
                                    simp only [Act.put, List.setIfInBounds_toArray, List.set_cons_zero, List.set_cons_succ, i64_w, i32_w]
                                    rfl
                                  exact norm_ (by first | (simp only [putAll, Act.put, List.setIfInBounds_toArray, List.set_cons_zero, List.set_cons_succ]; done) | (simp only [putAll, Act.put, List.setIfInBounds_toArray, List.set_cons_zero, List.set_cons_succ]; rfl)) (hJ2_6_9 (v882, v888, gb893) _ ⟨hHeld, (by (with_reducible repeat (first | apply Kd.R_alloc | apply Kd.R_drewN | apply Kd.R_drew)); exact HO883.out), (by (with_reducible repeat (first | apply Kd.R_alloc | apply Kd.R_drewN | apply Kd.R_drew)); exact HO889.out), (by (with_reducible repeat (first | apply Kd.R_alloc | apply Kd.R_drewN | apply Kd.R_drew)); exact HO_876001.out), (by (with_reducible repeat (first | refine blk_drewN ?_ _ | refine blk_drew ?_ | refine blk_alloc ?_ _)); exact BK875.out), (by (with_reducible repeat (first | refine blk_drewN ?_ _ | refine blk_drew ?_ | refine blk_alloc ?_ _)); exact BK893.out), GW893.out, GE893.out, NB875_893.out, NB893_875.out, (by repeat (first | (with_reducible first | exact HB.out | apply below_alloc | apply pw_below_drewN | apply below_drew1 | refine below_set ?_ GE875.out | refine below_set ?_ GE893.out) | exact HB.out))⟩)
                            · skip
                              rintro ⟨v882, v885⟩ w33 ⟨hS_, h0_, h1_, h2_, h3_⟩
                              have n0_ : Aside0 (Kd.R (Kd.int .i64) 3 w33 w.heap.size (fun k_ => some k_ ≠ (.slice Ao13 t872.length co13 : Value).ownBlock) v885 y884) := ⟨h0_⟩
                              have n1_ : Aside0 (Kd.R (Kd.int .i64) 3 w33 w.heap.size (fun k_ => some k_ ≠ (v885 : Value).ownBlock) (.slice Ao13 t872.length co13) t872) := ⟨h1_⟩
                              have n2_ : Aside0 (w33.heap[gb875]? = some (.cells #[.int .i64 t871, .slice Ao13 t872.length co13] 28 (0, 0))) := ⟨h2_⟩
                              have n3_ : Aside0 (Below w.heap.size w w33) := ⟨h3_⟩
                              clear HO_876001
                              clear BK875
                              clear HB
                              clear h0_ h1_ h2_ h3_
                              have HO886 := n0_
                              have HO_876001 := n1_
                              have BK875 := n2_
                              have HB := n3_
                              clear n0_ n1_ n2_ n3_
                              have hHeld : w33.cell? ⟨gb875, 0, none⟩ = some (.int .i64 t871) ∧ w33.cell? ⟨gb875, 1, none⟩ = some (.slice Ao13 t872.length co13) := hS_
                              refine norm_ (a' := ?_) ?_ ?_
                              rotate_left
                              · simp only [putAll, Act.put, List.setIfInBounds_toArray, List.set_cons_zero, List.set_cons_succ]
                                rfl
                              refine two_ (i := 6) (j := 9) (Ni := some 34) (Nj := some 7) #[true, true, true, true, true, true, true, false, false, false, false] #[true, true, true, true, true, true, false, false, false, true, false] rfl rfl rfl rfl (two_of HT_.out (by kernel_rfl)) (by decide) (by decide) (fun K hK => ?_) (fun K hK => ?_)
                              · skip
                                refine Kd.R_lit_step (Kd.int .i64) _ 3 ?hg (N := 34) ?hd (xs := ([0] : List Int)) (inner := [.int .i64 0]) (ok := fun _ => True) (okp := fun _ => True) ?hr ?hp (fun _ hk => hk) trivial (Below.refl _ _) (Nat.le_refl _) (by simp) ?_; (case hd => rfl); (case hg => rfl); (case hr => first | (go_simp; done) | (go_simp; rfl)); (case hp => exact (Reps.one (show Kd.M (Kd.int .i64) _ _ _ 0 [.int .i64 0] from rfl) (Reps.none _ _)))
                                intro v888 w34 ho35 hb hg_ hnew_
                                clear hg_ hnew_
                                (first | rw [← Ny887.out] at ho35 | (simp only [Int.reduceToNat] at ho35; rw [← Ny887.out] at ho35))
                                have n0_ := Aside0.mk (Kd.R_elder' (by (with_reducible repeat (first | apply Kd.R_alloc | apply Kd.R_drewN | apply Kd.R_drew)); exact HO_876001.out) (Kd.R_base ho35) hb)
                                have n1_ := Aside0.mk (Kd.R_elder' (by (with_reducible repeat (first | apply Kd.R_alloc | apply Kd.R_drewN | apply Kd.R_drew)); exact HO886.out) (Kd.R_base ho35) hb)
                                have n2_ := Aside0.mk (Kd.R_lower (Kd.R_new' (Kd.R_new' ho35 (Kd.R_lt (by (with_reducible repeat (first | apply Kd.R_alloc | apply Kd.R_drewN | apply Kd.R_drew)); exact HO_876001.out))) (Kd.R_lt (by (with_reducible repeat (first | apply Kd.R_alloc | apply Kd.R_drewN | apply Kd.R_drew)); exact HO886.out))) (below_size (by repeat (first | (with_reducible first | exact HB.out | apply below_alloc | apply pw_below_drewN | apply below_drew1 | refine below_set ?_ GE875.out) | exact HB.out))))
                                have n3_ := Aside0.mk (blk_below (g := gb875) (o := .cells #[.int .i64 t871, .slice Ao13 t872.length co13] 28 (0, 0)) (by (with_reducible repeat (first | refine blk_drewN ?_ _ | refine blk_drew ?_ | refine blk_alloc ?_ _)); exact BK875.out) hb)
                                have n4_ := Aside0.mk (below_step (by repeat (first | (with_reducible first | exact HB.out | apply below_alloc | apply pw_below_drewN | apply below_drew1 | refine below_set ?_ GE875.out) | exact HB.out)) hb)
                                clear HO_876001
                                clear HO886
                                clear BK875
                                clear HB
                                have HO_876001 := n0_
                                have HO886 := n1_
                                have HO889 := n2_
                                have BK875 := n3_
                                have HB := n4_
                                clear n0_ n1_ n2_ n3_ n4_
                                clear hb ho35
                                refine hK.out _ _ ⟨(blk_cell BK875.out 0).trans rfl, (blk_cell BK875.out 1).trans rfl⟩ (fun hHeld => ?_)
                                clear hK K
                                refine norm_ (a' := ?_) ?_ ?_
                                rotate_left
                                · show Act.put _ (some 34) _ = _
                                  simp only [Act.put, List.setIfInBounds_toArray, List.set_cons_zero, List.set_cons_succ, i64_w, i32_w]
                                  rfl
                                exact norm_ (by first | (simp only [putAll, Act.put, List.setIfInBounds_toArray, List.set_cons_zero, List.set_cons_succ]; done) | (simp only [putAll, Act.put, List.setIfInBounds_toArray, List.set_cons_zero, List.set_cons_succ]; rfl)) (hJ2_5_6 (v882, v885, v888) _ ⟨hHeld, (by (with_reducible repeat (first | apply Kd.R_alloc | apply Kd.R_drewN | apply Kd.R_drew)); exact Kd.R_mono HO886.out (fun _ hk => ⟨hk.2, hk.1⟩)), (by (with_reducible repeat (first | apply Kd.R_alloc | apply Kd.R_drewN | apply Kd.R_drew)); exact Kd.R_mono HO889.out (fun _ hk => ⟨hk.2, hk.1.2⟩)), (by (with_reducible repeat (first | apply Kd.R_alloc | apply Kd.R_drewN | apply Kd.R_drew)); exact HO_876001.out), (by (with_reducible repeat (first | refine blk_drewN ?_ _ | refine blk_drew ?_ | refine blk_alloc ?_ _)); exact BK875.out), (by repeat (first | (with_reducible first | exact HB.out | apply below_alloc | apply pw_below_drewN | apply below_drew1 | refine below_set ?_ GE875.out) | exact HB.out))⟩)
                              · skip
                                refine box_step ?hg (N := 7) ?hd (cs := #[.int .i64 0, .slice none 0 0]) (t := 28) ?hr ?_; (case hd => rfl); (case hg => rfl); (case hr => first | (go_simp; done) | (go_simp; rfl))
                                intro gb893 hg w34 hbox hb
                                have n0_ := Aside0.mk (Kd.R_below (by (with_reducible repeat (first | apply Kd.R_alloc | apply Kd.R_drewN | apply Kd.R_drew)); exact HO_876001.out) hb)
                                have n1_ := Aside0.mk (Kd.R_below (by (with_reducible repeat (first | apply Kd.R_alloc | apply Kd.R_drewN | apply Kd.R_drew)); exact HO886.out) hb)
                                have n2_ := Aside0.mk (blk_below (g := gb875) (o := .cells #[.int .i64 t871, .slice Ao13 t872.length co13] 28 (0, 0)) (by (with_reducible repeat (first | refine blk_drewN ?_ _ | refine blk_drew ?_ | refine blk_alloc ?_ _)); exact BK875.out) hb)
                                have n3_ := Aside0.mk (below_step (by repeat (first | (with_reducible first | exact HB.out | apply below_alloc | apply pw_below_drewN | apply below_drew1 | refine below_set ?_ GE875.out) | exact HB.out)) hb)
                                have n4_ := Aside0.mk (hbox)
                                have n5_ := Aside0.mk ((by rw [hg]; exact (below_size (by repeat (first | (with_reducible first | exact HB.out | apply below_alloc | apply pw_below_drewN | apply below_drew1 | refine below_set ?_ GE875.out) | exact HB.out))) : w.heap.size ≤ gb893))
                                have n6_ := Aside0.mk ((by rw [hg]; exact (below_size (by repeat (first | (with_reducible first | exact HB.out | apply below_alloc | apply pw_below_drewN | apply below_drew1 | refine below_set ?_ GE875.out) | exact HB.out))) : w.heap.size ≤ gb893))
                                have n7_ := Aside0.mk ((by rw [hg]; exact Nat.ne_of_lt (blk_lt (g := gb875) (o := .cells #[.int .i64 t871, .slice Ao13 t872.length co13] 28 (0, 0)) (by (with_reducible repeat (first | refine blk_drewN ?_ _ | refine blk_drew ?_ | refine blk_alloc ?_ _)); exact BK875.out)) : gb875 ≠ gb893))
                                have n8_ := Aside0.mk ((by rw [hg]; exact Nat.ne_of_gt (blk_lt (g := gb875) (o := .cells #[.int .i64 t871, .slice Ao13 t872.length co13] 28 (0, 0)) (by (with_reducible repeat (first | refine blk_drewN ?_ _ | refine blk_drew ?_ | refine blk_alloc ?_ _)); exact BK875.out)) : gb893 ≠ gb875))
                                clear HO_876001
                                clear HO886
                                clear BK875
                                clear HB
                                have HO_876001 := n0_
                                have HO886 := n1_
                                have BK875 := n2_
                                have HB := n3_
                                have BK893 := n4_
                                have GW893 := n5_
                                have GE893 := n6_
                                have NB875_893 := n7_
                                have NB893_875 := n8_
                                clear n0_ n1_ n2_ n3_ n4_ n5_ n6_ n7_ n8_
                                clear hb hbox hg
                                refine hK.out _ _ ⟨(blk_cell BK875.out 0).trans rfl, (blk_cell BK875.out 1).trans rfl⟩ (fun hHeld => ?_)
                                clear hK K
                                refine norm_ (a' := ?_) ?_ ?_
                                rotate_left
                                · show Act.put _ (some 7) _ = _
                                  simp only [Act.put, List.setIfInBounds_toArray, List.set_cons_zero, List.set_cons_succ, i64_w, i32_w]
                                  rfl
                                exact norm_ (by first | (simp only [putAll, Act.put, List.setIfInBounds_toArray, List.set_cons_zero, List.set_cons_succ]; done) | (simp only [putAll, Act.put, List.setIfInBounds_toArray, List.set_cons_zero, List.set_cons_succ]; rfl)) (hJ2_5_9 (v882, v885, gb893) _ ⟨hHeld, (by (with_reducible repeat (first | apply Kd.R_alloc | apply Kd.R_drewN | apply Kd.R_drew)); exact HO886.out), (by (with_reducible repeat (first | apply Kd.R_alloc | apply Kd.R_drewN | apply Kd.R_drew)); exact HO_876001.out), (by (with_reducible repeat (first | refine blk_drewN ?_ _ | refine blk_drew ?_ | refine blk_alloc ?_ _)); exact BK875.out), (by (with_reducible repeat (first | refine blk_drewN ?_ _ | refine blk_drew ?_ | refine blk_alloc ?_ _)); exact BK893.out), GW893.out, GE893.out, NB875_893.out, NB893_875.out, (by repeat (first | (with_reducible first | exact HB.out | apply below_alloc | apply pw_below_drewN | apply below_drew1 | refine below_set ?_ GE875.out | refine below_set ?_ GE893.out) | exact HB.out))⟩)
                          · skip
                            rintro ⟨v882, v888, gb893⟩ w35 ⟨hS_, h0_, h1_, h2_, h3_, h4_, h5_, h6_, h7_, h8_, h9_⟩
                            have n0_ : Aside0 (Kd.R (Kd.int .i64) 3 w35 w.heap.size (fun k_ => some k_ ≠ (v888 : Value).ownBlock ∧ some k_ ≠ (.slice Ao13 t872.length co13 : Value).ownBlock) v882 y881) := ⟨h0_⟩
                            have n1_ : Aside0 (Kd.R (Kd.int .i64) 3 w35 w.heap.size (fun k_ => some k_ ≠ (v882 : Value).ownBlock ∧ some k_ ≠ (.slice Ao13 t872.length co13 : Value).ownBlock) v888 y887) := ⟨h1_⟩
                            have n2_ : Aside0 (Kd.R (Kd.int .i64) 3 w35 w.heap.size (fun k_ => some k_ ≠ (v882 : Value).ownBlock ∧ some k_ ≠ (v888 : Value).ownBlock) (.slice Ao13 t872.length co13) t872) := ⟨h2_⟩
                            have n3_ : Aside0 (w35.heap[gb875]? = some (.cells #[.int .i64 t871, .slice Ao13 t872.length co13] 28 (0, 0))) := ⟨h3_⟩
                            have n4_ : Aside0 (w35.heap[gb893]? = some (.cells #[.int .i64 0, .slice none 0 0] 28 (0, 0))) := ⟨h4_⟩
                            have n5_ : Aside0 (w.heap.size ≤ gb893) := ⟨h5_⟩
                            have n6_ : Aside0 (w.heap.size ≤ gb893) := ⟨h6_⟩
                            have n7_ : Aside0 (gb875 ≠ gb893) := ⟨h7_⟩
                            have n8_ : Aside0 (gb893 ≠ gb875) := ⟨h8_⟩
                            have n9_ : Aside0 (Below w.heap.size w w35) := ⟨h9_⟩
                            clear HO_876001
                            clear BK875
                            clear HB
                            clear h0_ h1_ h2_ h3_ h4_ h5_ h6_ h7_ h8_ h9_
                            have HO883 := n0_
                            have HO889 := n1_
                            have HO_876001 := n2_
                            have BK875 := n3_
                            have BK893 := n4_
                            have GW893 := n5_
                            have GE893 := n6_
                            have NB875_893 := n7_
                            have NB893_875 := n8_
                            have HB := n9_
                            clear n0_ n1_ n2_ n3_ n4_ n5_ n6_ n7_ n8_ n9_
                            have hHeld : w35.cell? ⟨gb875, 0, none⟩ = some (.int .i64 t871) ∧ w35.cell? ⟨gb875, 1, none⟩ = some (.slice Ao13 t872.length co13) := hS_
                            refine norm_ (a' := ?_) ?_ ?_
                            rotate_left
                            · simp only [putAll, Act.put, List.setIfInBounds_toArray, List.set_cons_zero, List.set_cons_succ]
                              rfl
                            refine one_ (i := 5) (N := some 33) #[true, true, true, true, true, true, true, false, false, true, false] rfl rfl (one_of HT_.out (by kernel_rfl)) (by decide) (fun K hK => ?_)
                            refine Kd.R_append_rows_step (Kd.int .i64) (w0 := w) w.heap.size (by rfl) (.tmp 30) (.tmp 32) 23 3 (.int .i64 0) 8 rfl Tryd.underlying23 info3 rfl (by decide) (by omega) v882 y881 t872 _ _ _ (fun k_ => some k_ ≠ (.slice Ao13 t872.length co13 : Value).ownBlock ∧ some k_ ≠ (v888 : Value).ownBlock) (fun _ => False) rfl rfl ?aO ?aR (fun _ _ h => h) (fun _ h => h.elim) ?aF ?aB ?aS ?aL ?_
                            (case aR => repeat (first | exact (Kd.R_reads' HO_876001.out).2.2 | (with_reducible refine Kd.C_alloc ?_ _) | (with_reducible refine Kd.C_drewN ?_ _) | (with_reducible refine Kd.C_drew ?_)))
                            (case aB => exact (by repeat (first | (with_reducible first | exact HB.out | apply below_alloc | apply pw_below_drewN | apply below_drew1 | refine below_set ?_ GE875.out | refine below_set ?_ GE893.out) | exact HB.out)))
                            (case aF => exact (fun k_ hk => ⟨Kd.fresh' (Kd.R_lt (by (with_reducible repeat (first | apply Kd.R_alloc | apply Kd.R_drewN | apply Kd.R_drew)); exact HO_876001.out)) k_ hk, Kd.fresh' (Kd.R_lt (by (with_reducible repeat (first | apply Kd.R_alloc | apply Kd.R_drewN | apply Kd.R_drew)); exact HO889.out)) k_ hk⟩))
                            (case aO => exact (by (with_reducible repeat (first | apply Kd.R_alloc | apply Kd.R_drewN | apply Kd.R_drew)); exact Kd.R_mono HO883.out (fun _ hk => ⟨hk.2, hk.1⟩)))
                            (case aS => exact (below_size (by repeat (first | (with_reducible first | exact HB.out | apply below_alloc | apply pw_below_drewN | apply below_drew1 | refine below_set ?_ GE875.out | refine below_set ?_ GE893.out) | exact HB.out))))
                            (case aL => have := LMc24.out; omega)
                            intro v885 w36 ho hb hg hat
                            rw [← Ny884.out] at ho
                            have n0_ := Aside0.mk (Kd.R_after (ok := (fun k_ => some k_ ≠ (v888 : Value).ownBlock)) (by (with_reducible repeat (first | apply Kd.R_alloc | apply Kd.R_drewN | apply Kd.R_drew)); exact Kd.R_mono HO_876001.out (fun _ hk => ⟨hk.2, hk.1⟩)) hg hat)
                            have n1_ := Aside0.mk (blk_grown (g := gb875) (o := .cells #[.int .i64 t871, .slice Ao13 t872.length co13] 28 (0, 0)) (by (with_reducible repeat (first | refine blk_drewN ?_ _ | refine blk_drew ?_ | refine blk_alloc ?_ _)); exact BK875.out) hg (Kd.R_ne HO883.out BK875.out (by decide)))
                            have n2_ := Aside0.mk (Kd.R_after (ok := (fun k_ => some k_ ≠ (.slice Ao13 t872.length co13 : Value).ownBlock)) (by (with_reducible repeat (first | apply Kd.R_alloc | apply Kd.R_drewN | apply Kd.R_drew)); exact Kd.R_mono HO889.out (fun _ hk => ⟨hk.2, hk.1⟩)) hg hat)
                            have n3_ := Aside0.mk (blk_grown (g := gb893) (o := .cells #[.int .i64 0, .slice none 0 0] 28 (0, 0)) (by (with_reducible repeat (first | refine blk_drewN ?_ _ | refine blk_drew ?_ | refine blk_alloc ?_ _)); exact BK893.out) hg (Kd.R_ne HO883.out BK893.out (by decide)))
                            have n4_ := Aside0.mk (hb)
                            have n5_ := Aside0.mk (ho)
                            clear HO_876001
                            clear BK875
                            clear HO889
                            clear BK893
                            clear HB
                            clear HO883
                            have HO_876001 := n0_
                            have BK875 := n1_
                            have HO889 := n2_
                            have BK893 := n3_
                            have HB := n4_
                            have HO886 := n5_
                            clear n0_ n1_ n2_ n3_ n4_ n5_
                            clear ho hb hg hat
                            refine hK.out _ _ ⟨(blk_cell BK875.out 0).trans rfl, (blk_cell BK875.out 1).trans rfl⟩ (fun hHeld => ?_)
                            clear hK K
                            refine norm_ (a' := ?_) ?_ ?_
                            rotate_left
                            · show Act.put _ (some 33) _ = _
                              simp only [Act.put, List.setIfInBounds_toArray, List.set_cons_zero, List.set_cons_succ, i64_w, i32_w]
                              rfl
                            exact norm_ (by first | (simp only [putAll, Act.put, List.setIfInBounds_toArray, List.set_cons_zero, List.set_cons_succ]; done) | (simp only [putAll, Act.put, List.setIfInBounds_toArray, List.set_cons_zero, List.set_cons_succ]; rfl)) (hJ2_5_6_9 (v882, v885, v888, gb893) _ ⟨hHeld, (by (with_reducible repeat (first | apply Kd.R_alloc | apply Kd.R_drewN | apply Kd.R_drew)); exact Kd.R_mono HO886.out (fun _ hk => ⟨hk.2, hk.1⟩)), (by (with_reducible repeat (first | apply Kd.R_alloc | apply Kd.R_drewN | apply Kd.R_drew)); exact Kd.R_mono HO889.out (fun _ hk => ⟨hk.2, hk.1⟩)), (by (with_reducible repeat (first | apply Kd.R_alloc | apply Kd.R_drewN | apply Kd.R_drew)); exact Kd.R_mono HO_876001.out (fun _ hk => ⟨hk.2, hk.1⟩)), (by (with_reducible repeat (first | refine blk_drewN ?_ _ | refine blk_drew ?_ | refine blk_alloc ?_ _)); exact BK875.out), (by (with_reducible repeat (first | refine blk_drewN ?_ _ | refine blk_drew ?_ | refine blk_alloc ?_ _)); exact BK893.out), GW893.out, GE893.out, NB875_893.out, NB893_875.out, (by repeat (first | (with_reducible first | exact HB.out | apply below_alloc | apply pw_below_drewN | apply below_drew1 | refine below_set ?_ GE875.out | refine below_set ?_ GE893.out) | exact HB.out))⟩)
                        · skip
                          rintro ⟨v882, v885, gb893⟩ w34 ⟨hS_, h0_, h1_, h2_, h3_, h4_, h5_, h6_, h7_, h8_⟩
                          have n0_ : Aside0 (Kd.R (Kd.int .i64) 3 w34 w.heap.size (fun k_ => some k_ ≠ (.slice Ao13 t872.length co13 : Value).ownBlock) v885 y884) := ⟨h0_⟩
                          have n1_ : Aside0 (Kd.R (Kd.int .i64) 3 w34 w.heap.size (fun k_ => some k_ ≠ (v885 : Value).ownBlock) (.slice Ao13 t872.length co13) t872) := ⟨h1_⟩
                          have n2_ : Aside0 (w34.heap[gb875]? = some (.cells #[.int .i64 t871, .slice Ao13 t872.length co13] 28 (0, 0))) := ⟨h2_⟩
                          have n3_ : Aside0 (w34.heap[gb893]? = some (.cells #[.int .i64 0, .slice none 0 0] 28 (0, 0))) := ⟨h3_⟩
                          have n4_ : Aside0 (w.heap.size ≤ gb893) := ⟨h4_⟩
                          have n5_ : Aside0 (w.heap.size ≤ gb893) := ⟨h5_⟩
                          have n6_ : Aside0 (gb875 ≠ gb893) := ⟨h6_⟩
                          have n7_ : Aside0 (gb893 ≠ gb875) := ⟨h7_⟩
                          have n8_ : Aside0 (Below w.heap.size w w34) := ⟨h8_⟩
                          clear HO_876001
                          clear BK875
                          clear HB
                          clear h0_ h1_ h2_ h3_ h4_ h5_ h6_ h7_ h8_
                          have HO886 := n0_
                          have HO_876001 := n1_
                          have BK875 := n2_
                          have BK893 := n3_
                          have GW893 := n4_
                          have GE893 := n5_
                          have NB875_893 := n6_
                          have NB893_875 := n7_
                          have HB := n8_
                          clear n0_ n1_ n2_ n3_ n4_ n5_ n6_ n7_ n8_
                          have hHeld : w34.cell? ⟨gb875, 0, none⟩ = some (.int .i64 t871) ∧ w34.cell? ⟨gb875, 1, none⟩ = some (.slice Ao13 t872.length co13) := hS_
                          refine norm_ (a' := ?_) ?_ ?_
                          rotate_left
                          · simp only [putAll, Act.put, List.setIfInBounds_toArray, List.set_cons_zero, List.set_cons_succ]
                            rfl
                          refine one_ (i := 6) (N := some 34) #[true, true, true, true, true, true, true, false, false, true, false] rfl rfl (one_of HT_.out (by kernel_rfl)) (by decide) (fun K hK => ?_)
                          refine Kd.R_lit_step (Kd.int .i64) _ 3 ?hg (N := 34) ?hd (xs := ([0] : List Int)) (inner := [.int .i64 0]) (ok := fun _ => True) (okp := fun _ => True) ?hr ?hp (fun _ hk => hk) trivial (Below.refl _ _) (Nat.le_refl _) (by simp) ?_; (case hd => rfl); (case hg => rfl); (case hr => first | (go_simp; done) | (go_simp; rfl)); (case hp => exact (Reps.one (show Kd.M (Kd.int .i64) _ _ _ 0 [.int .i64 0] from rfl) (Reps.none _ _)))
                          intro v888 w35 ho36 hb hg_ hnew_
                          clear hg_ hnew_
                          (first | rw [← Ny887.out] at ho36 | (simp only [Int.reduceToNat] at ho36; rw [← Ny887.out] at ho36))
                          have n0_ := Aside0.mk (Kd.R_elder' (by (with_reducible repeat (first | apply Kd.R_alloc | apply Kd.R_drewN | apply Kd.R_drew)); exact HO_876001.out) (Kd.R_base ho36) hb)
                          have n1_ := Aside0.mk (Kd.R_elder' (by (with_reducible repeat (first | apply Kd.R_alloc | apply Kd.R_drewN | apply Kd.R_drew)); exact HO886.out) (Kd.R_base ho36) hb)
                          have n2_ := Aside0.mk (Kd.R_lower (Kd.R_new' (Kd.R_new' ho36 (Kd.R_lt (by (with_reducible repeat (first | apply Kd.R_alloc | apply Kd.R_drewN | apply Kd.R_drew)); exact HO_876001.out))) (Kd.R_lt (by (with_reducible repeat (first | apply Kd.R_alloc | apply Kd.R_drewN | apply Kd.R_drew)); exact HO886.out))) (below_size (by repeat (first | (with_reducible first | exact HB.out | apply below_alloc | apply pw_below_drewN | apply below_drew1 | refine below_set ?_ GE875.out | refine below_set ?_ GE893.out) | exact HB.out))))
                          have n3_ := Aside0.mk (blk_below (g := gb875) (o := .cells #[.int .i64 t871, .slice Ao13 t872.length co13] 28 (0, 0)) (by (with_reducible repeat (first | refine blk_drewN ?_ _ | refine blk_drew ?_ | refine blk_alloc ?_ _)); exact BK875.out) hb)
                          have n4_ := Aside0.mk (blk_below (g := gb893) (o := .cells #[.int .i64 0, .slice none 0 0] 28 (0, 0)) (by (with_reducible repeat (first | refine blk_drewN ?_ _ | refine blk_drew ?_ | refine blk_alloc ?_ _)); exact BK893.out) hb)
                          have n5_ := Aside0.mk (below_step (by repeat (first | (with_reducible first | exact HB.out | apply below_alloc | apply pw_below_drewN | apply below_drew1 | refine below_set ?_ GE875.out | refine below_set ?_ GE893.out) | exact HB.out)) hb)
                          clear HO_876001
                          clear HO886
                          clear BK875
                          clear BK893
                          clear HB
                          have HO_876001 := n0_
                          have HO886 := n1_
                          have HO889 := n2_
                          have BK875 := n3_
                          have BK893 := n4_
                          have HB := n5_
                          clear n0_ n1_ n2_ n3_ n4_ n5_
                          clear hb ho36
                          refine hK.out _ _ ⟨(blk_cell BK875.out 0).trans rfl, (blk_cell BK875.out 1).trans rfl⟩ (fun hHeld => ?_)
                          clear hK K
                          refine norm_ (a' := ?_) ?_ ?_
                          rotate_left
                          · show Act.put _ (some 34) _ = _
                            simp only [Act.put, List.setIfInBounds_toArray, List.set_cons_zero, List.set_cons_succ, i64_w, i32_w]
                            rfl
                          exact norm_ (by first | (simp only [putAll, Act.put, List.setIfInBounds_toArray, List.set_cons_zero, List.set_cons_succ]; done) | (simp only [putAll, Act.put, List.setIfInBounds_toArray, List.set_cons_zero, List.set_cons_succ]; rfl)) (hJ2_5_6_9 (v882, v885, v888, gb893) _ ⟨hHeld, (by (with_reducible repeat (first | apply Kd.R_alloc | apply Kd.R_drewN | apply Kd.R_drew)); exact Kd.R_mono HO886.out (fun _ hk => ⟨hk.2, hk.1⟩)), (by (with_reducible repeat (first | apply Kd.R_alloc | apply Kd.R_drewN | apply Kd.R_drew)); exact Kd.R_mono HO889.out (fun _ hk => ⟨hk.2, hk.1.2⟩)), (by (with_reducible repeat (first | apply Kd.R_alloc | apply Kd.R_drewN | apply Kd.R_drew)); exact HO_876001.out), (by (with_reducible repeat (first | refine blk_drewN ?_ _ | refine blk_drew ?_ | refine blk_alloc ?_ _)); exact BK875.out), (by (with_reducible repeat (first | refine blk_drewN ?_ _ | refine blk_drew ?_ | refine blk_alloc ?_ _)); exact BK893.out), GW893.out, GE893.out, NB875_893.out, NB893_875.out, (by repeat (first | (with_reducible first | exact HB.out | apply below_alloc | apply pw_below_drewN | apply below_drew1 | refine below_set ?_ GE875.out | refine below_set ?_ GE893.out) | exact HB.out))⟩)
                      · skip
                        rintro ⟨v882, v885, v888⟩ w35 ⟨hS_, h0_, h1_, h2_, h3_, h4_⟩
                        have n0_ : Aside0 (Kd.R (Kd.int .i64) 3 w35 w.heap.size (fun k_ => some k_ ≠ (v888 : Value).ownBlock ∧ some k_ ≠ (.slice Ao13 t872.length co13 : Value).ownBlock) v885 y884) := ⟨h0_⟩
                        have n1_ : Aside0 (Kd.R (Kd.int .i64) 3 w35 w.heap.size (fun k_ => some k_ ≠ (v885 : Value).ownBlock ∧ some k_ ≠ (.slice Ao13 t872.length co13 : Value).ownBlock) v888 y887) := ⟨h1_⟩
                        have n2_ : Aside0 (Kd.R (Kd.int .i64) 3 w35 w.heap.size (fun k_ => some k_ ≠ (v885 : Value).ownBlock ∧ some k_ ≠ (v888 : Value).ownBlock) (.slice Ao13 t872.length co13) t872) := ⟨h2_⟩
                        have n3_ : Aside0 (w35.heap[gb875]? = some (.cells #[.int .i64 t871, .slice Ao13 t872.length co13] 28 (0, 0))) := ⟨h3_⟩
                        have n4_ : Aside0 (Below w.heap.size w w35) := ⟨h4_⟩
                        clear HO_876001
                        clear BK875
                        clear HB
                        clear h0_ h1_ h2_ h3_ h4_
                        have HO886 := n0_
                        have HO889 := n1_
                        have HO_876001 := n2_
                        have BK875 := n3_
                        have HB := n4_
                        clear n0_ n1_ n2_ n3_ n4_
                        have hHeld : w35.cell? ⟨gb875, 0, none⟩ = some (.int .i64 t871) ∧ w35.cell? ⟨gb875, 1, none⟩ = some (.slice Ao13 t872.length co13) := hS_
                        obtain ⟨Ao37, co37, eo37⟩ := Kd.R_slice HO889.out
                        (first | subst eo37 | (injection eo37 with f1_ f2_ f3_; have f4_ := f1_.symm; have f5_ := f3_.symm; clear f1_ f2_ f3_; subst f4_; subst f5_))
                        refine norm_ (a' := ?_) ?_ ?_
                        rotate_left
                        · simp only [putAll, Act.put, List.setIfInBounds_toArray, List.set_cons_zero, List.set_cons_succ]
                          rfl
                        refine two_ (i := 7) (j := 9) (Ni := some 35) (Nj := some 7) #[true, true, true, true, true, true, true, true, false, false, false] #[true, true, true, true, true, true, true, false, false, true, false] rfl rfl rfl rfl (two_of HT_.out (by kernel_rfl)) (by decide) (by decide) (fun K hK => ?_) (fun K hK => ?_)
                        · skip
                          refine Kd.R_append_rows_step (Kd.int .i64) (w0 := w) w.heap.size (by rfl) (.tmp 33) (.tmp 34) 23 3 (.int .i64 0) 8 rfl Tryd.underlying23 info3 rfl (by decide) (by omega) v885 y884 y887 _ _ _ (fun k_ => some k_ ≠ (.slice Ao13 t872.length co13 : Value).ownBlock ∧ some k_ ≠ (.slice Ao37 y887.length co37 : Value).ownBlock) (fun _ => False) rfl rfl ?aO ?aR (fun _ _ h => h) (fun _ h => h.elim) ?aF ?aB ?aS ?aL ?_
                          (case aR => repeat (first | exact (Kd.R_reads' HO889.out).2.2 | (with_reducible refine Kd.C_alloc ?_ _) | (with_reducible refine Kd.C_drewN ?_ _) | (with_reducible refine Kd.C_drew ?_)))
                          (case aB => exact (by repeat (first | (with_reducible first | exact HB.out | apply below_alloc | apply pw_below_drewN | apply below_drew1 | refine below_set ?_ GE875.out) | exact HB.out)))
                          (case aF => exact (fun k_ hk => ⟨Kd.fresh' (Kd.R_lt (by (with_reducible repeat (first | apply Kd.R_alloc | apply Kd.R_drewN | apply Kd.R_drew)); exact HO_876001.out)) k_ hk, Kd.fresh' (Kd.R_lt (by (with_reducible repeat (first | apply Kd.R_alloc | apply Kd.R_drewN | apply Kd.R_drew)); exact HO889.out)) k_ hk⟩))
                          (case aO => exact (by (with_reducible repeat (first | apply Kd.R_alloc | apply Kd.R_drewN | apply Kd.R_drew)); exact Kd.R_mono HO886.out (fun _ hk => ⟨hk.2, hk.1⟩)))
                          (case aS => exact (below_size (by repeat (first | (with_reducible first | exact HB.out | apply below_alloc | apply pw_below_drewN | apply below_drew1 | refine below_set ?_ GE875.out) | exact HB.out))))
                          (case aL => have := LMc25.out; omega)
                          intro v891 w36 ho hb hg hat
                          rw [← Ny890.out] at ho
                          have n0_ := Aside0.mk (Kd.R_after (ok := (fun k_ => some k_ ≠ (.slice Ao37 y887.length co37 : Value).ownBlock)) (by (with_reducible repeat (first | apply Kd.R_alloc | apply Kd.R_drewN | apply Kd.R_drew)); exact Kd.R_mono HO_876001.out (fun _ hk => ⟨hk.2, hk.1⟩)) hg hat)
                          have n1_ := Aside0.mk (blk_grown (g := gb875) (o := .cells #[.int .i64 t871, .slice Ao13 t872.length co13] 28 (0, 0)) (by (with_reducible repeat (first | refine blk_drewN ?_ _ | refine blk_drew ?_ | refine blk_alloc ?_ _)); exact BK875.out) hg (Kd.R_ne HO886.out BK875.out (by decide)))
                          have n2_ := Aside0.mk (Kd.R_after (ok := (fun k_ => some k_ ≠ (.slice Ao13 t872.length co13 : Value).ownBlock)) (by (with_reducible repeat (first | apply Kd.R_alloc | apply Kd.R_drewN | apply Kd.R_drew)); exact Kd.R_mono HO889.out (fun _ hk => ⟨hk.2, hk.1⟩)) hg hat)
                          have n3_ := Aside0.mk (hb)
                          have n4_ := Aside0.mk (ho)
                          clear HO_876001
                          clear BK875
                          clear HO889
                          clear HB
                          clear HO886
                          have HO_876001 := n0_
                          have BK875 := n1_
                          have HO889 := n2_
                          have HB := n3_
                          have HO892 := n4_
                          clear n0_ n1_ n2_ n3_ n4_
                          clear ho hb hg hat
                          obtain ⟨Ao38, co38, eo38⟩ := Kd.R_slice HO892.out
                          (first | subst eo38 | (injection eo38 with f1_ f2_ f3_; have f4_ := f1_.symm; have f5_ := f3_.symm; clear f1_ f2_ f3_; subst f4_; subst f5_))
                          refine hK.out _ _ ⟨(blk_cell BK875.out 0).trans rfl, (blk_cell BK875.out 1).trans rfl⟩ (fun hHeld => ?_)
                          clear hK K
                          refine norm_ (a' := ?_) ?_ ?_
                          rotate_left
                          · show Act.put _ (some 35) _ = _
                            simp only [Act.put, List.setIfInBounds_toArray, List.set_cons_zero, List.set_cons_succ, i64_w, i32_w]
                            rfl
                          refine pure_ (i := 8) (N := some 36) (v := ?_) (a' := ?_) #[true, true, true, true, true, true, true, true, true, false, false] rfl rfl (any_of HT_.out (by kernel_rfl)) (fun _ _ _ h => h) (Or.inl ⟨by rfl, ?_⟩) ?_ ?_
                          rotate_left
                          · intro w'
                            go_simp
                            with_reducible rfl
                          rotate_left
                          · simp only [Act.put, List.setIfInBounds_toArray, List.set_cons_zero, List.set_cons_succ, i64_w, i32_w]
                            rfl
                          exact norm_ (by first | (simp only [putAll, Act.put, List.setIfInBounds_toArray, List.set_cons_zero, List.set_cons_succ]; done) | (simp only [putAll, Act.put, List.setIfInBounds_toArray, List.set_cons_zero, List.set_cons_succ]; rfl)) (hJ2_5_6_7 (v882, v885, .slice Ao37 y887.length co37, .slice Ao38 y890.length co38) _ ⟨hHeld, (by (with_reducible repeat (first | apply Kd.R_alloc | apply Kd.R_drewN | apply Kd.R_drew)); exact Kd.R_mono HO889.out (fun _ hk => ⟨hk.2, hk.1⟩)), (by (with_reducible repeat (first | apply Kd.R_alloc | apply Kd.R_drewN | apply Kd.R_drew)); exact Kd.R_mono HO892.out (fun _ hk => ⟨hk.2, hk.1⟩)), (by (with_reducible repeat (first | apply Kd.R_alloc | apply Kd.R_drewN | apply Kd.R_drew)); exact HO_876001.out), (by (with_reducible repeat (first | refine blk_drewN ?_ _ | refine blk_drew ?_ | refine blk_alloc ?_ _)); exact BK875.out), (by repeat (first | (with_reducible first | exact HB.out | apply below_alloc | apply pw_below_drewN | apply below_drew1 | refine below_set ?_ GE875.out) | exact HB.out))⟩)
                        · skip
                          refine box_step ?hg (N := 7) ?hd (cs := #[.int .i64 0, .slice none 0 0]) (t := 28) ?hr ?_; (case hd => rfl); (case hg => rfl); (case hr => first | (go_simp; done) | (go_simp; rfl))
                          intro gb893 hg w36 hbox hb
                          have n0_ := Aside0.mk (Kd.R_below (by (with_reducible repeat (first | apply Kd.R_alloc | apply Kd.R_drewN | apply Kd.R_drew)); exact HO_876001.out) hb)
                          have n1_ := Aside0.mk (Kd.R_below (by (with_reducible repeat (first | apply Kd.R_alloc | apply Kd.R_drewN | apply Kd.R_drew)); exact HO886.out) hb)
                          have n2_ := Aside0.mk (Kd.R_below (by (with_reducible repeat (first | apply Kd.R_alloc | apply Kd.R_drewN | apply Kd.R_drew)); exact HO889.out) hb)
                          have n3_ := Aside0.mk (blk_below (g := gb875) (o := .cells #[.int .i64 t871, .slice Ao13 t872.length co13] 28 (0, 0)) (by (with_reducible repeat (first | refine blk_drewN ?_ _ | refine blk_drew ?_ | refine blk_alloc ?_ _)); exact BK875.out) hb)
                          have n4_ := Aside0.mk (below_step (by repeat (first | (with_reducible first | exact HB.out | apply below_alloc | apply pw_below_drewN | apply below_drew1 | refine below_set ?_ GE875.out) | exact HB.out)) hb)
                          have n5_ := Aside0.mk (hbox)
                          have n6_ := Aside0.mk ((by rw [hg]; exact (below_size (by repeat (first | (with_reducible first | exact HB.out | apply below_alloc | apply pw_below_drewN | apply below_drew1 | refine below_set ?_ GE875.out) | exact HB.out))) : w.heap.size ≤ gb893))
                          have n7_ := Aside0.mk ((by rw [hg]; exact (below_size (by repeat (first | (with_reducible first | exact HB.out | apply below_alloc | apply pw_below_drewN | apply below_drew1 | refine below_set ?_ GE875.out) | exact HB.out))) : w.heap.size ≤ gb893))
                          have n8_ := Aside0.mk ((by rw [hg]; exact Nat.ne_of_lt (blk_lt (g := gb875) (o := .cells #[.int .i64 t871, .slice Ao13 t872.length co13] 28 (0, 0)) (by (with_reducible repeat (first | refine blk_drewN ?_ _ | refine blk_drew ?_ | refine blk_alloc ?_ _)); exact BK875.out)) : gb875 ≠ gb893))
                          have n9_ := Aside0.mk ((by rw [hg]; exact Nat.ne_of_gt (blk_lt (g := gb875) (o := .cells #[.int .i64 t871, .slice Ao13 t872.length co13] 28 (0, 0)) (by (with_reducible repeat (first | refine blk_drewN ?_ _ | refine blk_drew ?_ | refine blk_alloc ?_ _)); exact BK875.out)) : gb893 ≠ gb875))
                          clear HO_876001
                          clear HO886
                          clear HO889
                          clear BK875
                          clear HB
                          have HO_876001 := n0_
                          have HO886 := n1_
                          have HO889 := n2_
                          have BK875 := n3_
                          have HB := n4_
                          have BK893 := n5_
                          have GW893 := n6_
                          have GE893 := n7_
                          have NB875_893 := n8_
                          have NB893_875 := n9_
                          clear n0_ n1_ n2_ n3_ n4_ n5_ n6_ n7_ n8_ n9_
                          clear hb hbox hg
                          refine hK.out _ _ ⟨(blk_cell BK875.out 0).trans rfl, (blk_cell BK875.out 1).trans rfl⟩ (fun hHeld => ?_)
                          clear hK K
                          refine norm_ (a' := ?_) ?_ ?_
                          rotate_left
                          · show Act.put _ (some 7) _ = _
                            simp only [Act.put, List.setIfInBounds_toArray, List.set_cons_zero, List.set_cons_succ, i64_w, i32_w]
                            rfl
                          exact norm_ (by first | (simp only [putAll, Act.put, List.setIfInBounds_toArray, List.set_cons_zero, List.set_cons_succ]; done) | (simp only [putAll, Act.put, List.setIfInBounds_toArray, List.set_cons_zero, List.set_cons_succ]; rfl)) (hJ2_5_6_9 (v882, v885, .slice Ao37 y887.length co37, gb893) _ ⟨hHeld, (by (with_reducible repeat (first | apply Kd.R_alloc | apply Kd.R_drewN | apply Kd.R_drew)); exact HO886.out), (by (with_reducible repeat (first | apply Kd.R_alloc | apply Kd.R_drewN | apply Kd.R_drew)); exact HO889.out), (by (with_reducible repeat (first | apply Kd.R_alloc | apply Kd.R_drewN | apply Kd.R_drew)); exact HO_876001.out), (by (with_reducible repeat (first | refine blk_drewN ?_ _ | refine blk_drew ?_ | refine blk_alloc ?_ _)); exact BK875.out), (by (with_reducible repeat (first | refine blk_drewN ?_ _ | refine blk_drew ?_ | refine blk_alloc ?_ _)); exact BK893.out), GW893.out, GE893.out, NB875_893.out, NB893_875.out, (by repeat (first | (with_reducible first | exact HB.out | apply below_alloc | apply pw_below_drewN | apply below_drew1 | refine below_set ?_ GE875.out | refine below_set ?_ GE893.out) | exact HB.out))⟩)
                    · skip
                      rintro ⟨v882, v885, v888, gb893⟩ w36 ⟨hS_, h0_, h1_, h2_, h3_, h4_, h5_, h6_, h7_, h8_, h9_⟩
                      have n0_ : Aside0 (Kd.R (Kd.int .i64) 3 w36 w.heap.size (fun k_ => some k_ ≠ (v888 : Value).ownBlock ∧ some k_ ≠ (.slice Ao13 t872.length co13 : Value).ownBlock) v885 y884) := ⟨h0_⟩
                      have n1_ : Aside0 (Kd.R (Kd.int .i64) 3 w36 w.heap.size (fun k_ => some k_ ≠ (v885 : Value).ownBlock ∧ some k_ ≠ (.slice Ao13 t872.length co13 : Value).ownBlock) v888 y887) := ⟨h1_⟩
                      have n2_ : Aside0 (Kd.R (Kd.int .i64) 3 w36 w.heap.size (fun k_ => some k_ ≠ (v885 : Value).ownBlock ∧ some k_ ≠ (v888 : Value).ownBlock) (.slice Ao13 t872.length co13) t872) := ⟨h2_⟩
                      have n3_ : Aside0 (w36.heap[gb875]? = some (.cells #[.int .i64 t871, .slice Ao13 t872.length co13] 28 (0, 0))) := ⟨h3_⟩
                      have n4_ : Aside0 (w36.heap[gb893]? = some (.cells #[.int .i64 0, .slice none 0 0] 28 (0, 0))) := ⟨h4_⟩
                      have n5_ : Aside0 (w.heap.size ≤ gb893) := ⟨h5_⟩
                      have n6_ : Aside0 (w.heap.size ≤ gb893) := ⟨h6_⟩
                      have n7_ : Aside0 (gb875 ≠ gb893) := ⟨h7_⟩
                      have n8_ : Aside0 (gb893 ≠ gb875) := ⟨h8_⟩
                      have n9_ : Aside0 (Below w.heap.size w w36) := ⟨h9_⟩
                      clear HO_876001
                      clear BK875
                      clear HB
                      clear h0_ h1_ h2_ h3_ h4_ h5_ h6_ h7_ h8_ h9_
                      have HO886 := n0_
                      have HO889 := n1_
                      have HO_876001 := n2_
                      have BK875 := n3_
                      have BK893 := n4_
                      have GW893 := n5_
                      have GE893 := n6_
                      have NB875_893 := n7_
                      have NB893_875 := n8_
                      have HB := n9_
                      clear n0_ n1_ n2_ n3_ n4_ n5_ n6_ n7_ n8_ n9_
                      have hHeld : w36.cell? ⟨gb875, 0, none⟩ = some (.int .i64 t871) ∧ w36.cell? ⟨gb875, 1, none⟩ = some (.slice Ao13 t872.length co13) := hS_
                      obtain ⟨Ao38, co38, eo38⟩ := Kd.R_slice HO889.out
                      (first | subst eo38 | (injection eo38 with f1_ f2_ f3_; have f4_ := f1_.symm; have f5_ := f3_.symm; clear f1_ f2_ f3_; subst f4_; subst f5_))
                      refine norm_ (a' := ?_) ?_ ?_
                      rotate_left
                      · simp only [putAll, Act.put, List.setIfInBounds_toArray, List.set_cons_zero, List.set_cons_succ]
                        rfl
                      refine one_ (i := 7) (N := some 35) #[true, true, true, true, true, true, true, true, false, true, false] rfl rfl (one_of HT_.out (by kernel_rfl)) (by decide) (fun K hK => ?_)
                      refine Kd.R_append_rows_step (Kd.int .i64) (w0 := w) w.heap.size (by rfl) (.tmp 33) (.tmp 34) 23 3 (.int .i64 0) 8 rfl Tryd.underlying23 info3 rfl (by decide) (by omega) v885 y884 y887 _ _ _ (fun k_ => some k_ ≠ (.slice Ao13 t872.length co13 : Value).ownBlock ∧ some k_ ≠ (.slice Ao38 y887.length co38 : Value).ownBlock) (fun _ => False) rfl rfl ?aO ?aR (fun _ _ h => h) (fun _ h => h.elim) ?aF ?aB ?aS ?aL ?_
                      (case aR => repeat (first | exact (Kd.R_reads' HO889.out).2.2 | (with_reducible refine Kd.C_alloc ?_ _) | (with_reducible refine Kd.C_drewN ?_ _) | (with_reducible refine Kd.C_drew ?_)))
                      (case aB => exact (by repeat (first | (with_reducible first | exact HB.out | apply below_alloc | apply pw_below_drewN | apply below_drew1 | refine below_set ?_ GE875.out | refine below_set ?_ GE893.out) | exact HB.out)))
                      (case aF => exact (fun k_ hk => ⟨Kd.fresh' (Kd.R_lt (by (with_reducible repeat (first | apply Kd.R_alloc | apply Kd.R_drewN | apply Kd.R_drew)); exact HO_876001.out)) k_ hk, Kd.fresh' (Kd.R_lt (by (with_reducible repeat (first | apply Kd.R_alloc | apply Kd.R_drewN | apply Kd.R_drew)); exact HO889.out)) k_ hk⟩))
                      (case aO => exact (by (with_reducible repeat (first | apply Kd.R_alloc | apply Kd.R_drewN | apply Kd.R_drew)); exact Kd.R_mono HO886.out (fun _ hk => ⟨hk.2, hk.1⟩)))
                      (case aS => exact (below_size (by repeat (first | (with_reducible first | exact HB.out | apply below_alloc | apply pw_below_drewN | apply below_drew1 | refine below_set ?_ GE875.out | refine below_set ?_ GE893.out) | exact HB.out))))
                      (case aL => have := LMc25.out; omega)
                      intro v891 w37 ho hb hg hat
                      rw [← Ny890.out] at ho
                      have n0_ := Aside0.mk (Kd.R_after (ok := (fun k_ => some k_ ≠ (.slice Ao38 y887.length co38 : Value).ownBlock)) (by (with_reducible repeat (first | apply Kd.R_alloc | apply Kd.R_drewN | apply Kd.R_drew)); exact Kd.R_mono HO_876001.out (fun _ hk => ⟨hk.2, hk.1⟩)) hg hat)
                      have n1_ := Aside0.mk (blk_grown (g := gb875) (o := .cells #[.int .i64 t871, .slice Ao13 t872.length co13] 28 (0, 0)) (by (with_reducible repeat (first | refine blk_drewN ?_ _ | refine blk_drew ?_ | refine blk_alloc ?_ _)); exact BK875.out) hg (Kd.R_ne HO886.out BK875.out (by decide)))
                      have n2_ := Aside0.mk (Kd.R_after (ok := (fun k_ => some k_ ≠ (.slice Ao13 t872.length co13 : Value).ownBlock)) (by (with_reducible repeat (first | apply Kd.R_alloc | apply Kd.R_drewN | apply Kd.R_drew)); exact Kd.R_mono HO889.out (fun _ hk => ⟨hk.2, hk.1⟩)) hg hat)
                      have n3_ := Aside0.mk (blk_grown (g := gb893) (o := .cells #[.int .i64 0, .slice none 0 0] 28 (0, 0)) (by (with_reducible repeat (first | refine blk_drewN ?_ _ | refine blk_drew ?_ | refine blk_alloc ?_ _)); exact BK893.out) hg (Kd.R_ne HO886.out BK893.out (by decide)))
                      have n4_ := Aside0.mk (hb)
                      have n5_ := Aside0.mk (ho)
                      clear HO_876001
                      clear BK875
                      clear HO889
                      clear BK893
                      clear HB
                      clear HO886
                      have HO_876001 := n0_
                      have BK875 := n1_
                      have HO889 := n2_
                      have BK893 := n3_
                      have HB := n4_
                      have HO892 := n5_
                      clear n0_ n1_ n2_ n3_ n4_ n5_
                      clear ho hb hg hat
                      obtain ⟨Ao39, co39, eo39⟩ := Kd.R_slice HO892.out
                      (first | subst eo39 | (injection eo39 with f1_ f2_ f3_; have f4_ := f1_.symm; have f5_ := f3_.symm; clear f1_ f2_ f3_; subst f4_; subst f5_))
                      refine hK.out _ _ ⟨(blk_cell BK875.out 0).trans rfl, (blk_cell BK875.out 1).trans rfl⟩ (fun hHeld => ?_)
                      clear hK K
                      refine norm_ (a' := ?_) ?_ ?_
                      rotate_left
                      · show Act.put _ (some 35) _ = _
                        simp only [Act.put, List.setIfInBounds_toArray, List.set_cons_zero, List.set_cons_succ, i64_w, i32_w]
                        rfl
                      refine pure_ (i := 8) (N := some 36) (v := ?_) (a' := ?_) #[true, true, true, true, true, true, true, true, true, true, false] rfl rfl (any_of HT_.out (by kernel_rfl)) (fun _ _ _ h => h) (Or.inl ⟨by rfl, ?_⟩) ?_ ?_
                      rotate_left
                      · intro w'
                        go_simp
                        with_reducible rfl
                      rotate_left
                      · simp only [Act.put, List.setIfInBounds_toArray, List.set_cons_zero, List.set_cons_succ, i64_w, i32_w]
                        rfl
                      exact norm_ (by first | (simp only [putAll, Act.put, List.setIfInBounds_toArray, List.set_cons_zero, List.set_cons_succ]; done) | (simp only [putAll, Act.put, List.setIfInBounds_toArray, List.set_cons_zero, List.set_cons_succ]; rfl)) (hJ2_5_6_7_9 (v882, v885, .slice Ao38 y887.length co38, .slice Ao39 y890.length co39, gb893) _ ⟨hHeld, (by (with_reducible repeat (first | apply Kd.R_alloc | apply Kd.R_drewN | apply Kd.R_drew)); exact Kd.R_mono HO889.out (fun _ hk => ⟨hk.2, hk.1⟩)), (by (with_reducible repeat (first | apply Kd.R_alloc | apply Kd.R_drewN | apply Kd.R_drew)); exact Kd.R_mono HO892.out (fun _ hk => ⟨hk.2, hk.1⟩)), (by (with_reducible repeat (first | apply Kd.R_alloc | apply Kd.R_drewN | apply Kd.R_drew)); exact HO_876001.out), (by (with_reducible repeat (first | refine blk_drewN ?_ _ | refine blk_drew ?_ | refine blk_alloc ?_ _)); exact BK875.out), (by (with_reducible repeat (first | refine blk_drewN ?_ _ | refine blk_drew ?_ | refine blk_alloc ?_ _)); exact BK893.out), GW893.out, GE893.out, NB875_893.out, NB893_875.out, (by repeat (first | (with_reducible first | exact HB.out | apply below_alloc | apply pw_below_drewN | apply below_drew1 | refine below_set ?_ GE875.out | refine below_set ?_ GE893.out) | exact HB.out))⟩)
                  · skip
                    rintro ⟨v882, v885, v888, v891⟩ w38 ⟨hS_, h0_, h1_, h2_, h3_, h4_⟩
                    have n0_ : Aside0 (Kd.R (Kd.int .i64) 3 w38 w.heap.size (fun k_ => some k_ ≠ (v891 : Value).ownBlock ∧ some k_ ≠ (.slice Ao13 t872.length co13 : Value).ownBlock) v888 y887) := ⟨h0_⟩
                    have n1_ : Aside0 (Kd.R (Kd.int .i64) 3 w38 w.heap.size (fun k_ => some k_ ≠ (v888 : Value).ownBlock ∧ some k_ ≠ (.slice Ao13 t872.length co13 : Value).ownBlock) v891 y890) := ⟨h1_⟩
                    have n2_ : Aside0 (Kd.R (Kd.int .i64) 3 w38 w.heap.size (fun k_ => some k_ ≠ (v888 : Value).ownBlock ∧ some k_ ≠ (v891 : Value).ownBlock) (.slice Ao13 t872.length co13) t872) := ⟨h2_⟩
                    have n3_ : Aside0 (w38.heap[gb875]? = some (.cells #[.int .i64 t871, .slice Ao13 t872.length co13] 28 (0, 0))) := ⟨h3_⟩
                    have n4_ : Aside0 (Below w.heap.size w w38) := ⟨h4_⟩
                    clear HO_876001
                    clear BK875
                    clear HB
                    clear h0_ h1_ h2_ h3_ h4_
                    have HO889 := n0_
                    have HO892 := n1_
                    have HO_876001 := n2_
                    have BK875 := n3_
                    have HB := n4_
                    clear n0_ n1_ n2_ n3_ n4_
                    have hHeld : w38.cell? ⟨gb875, 0, none⟩ = some (.int .i64 t871) ∧ w38.cell? ⟨gb875, 1, none⟩ = some (.slice Ao13 t872.length co13) := hS_
                    obtain ⟨Ao39, co39, eo39⟩ := Kd.R_slice HO892.out
                    (first | subst eo39 | (injection eo39 with f1_ f2_ f3_; have f4_ := f1_.symm; have f5_ := f3_.symm; clear f1_ f2_ f3_; subst f4_; subst f5_))
                    refine norm_ (a' := ?_) ?_ ?_
                    rotate_left
                    · simp only [putAll, Act.put, List.setIfInBounds_toArray, List.set_cons_zero, List.set_cons_succ]
                      rfl
                    refine one_ (i := 9) (N := some 7) #[true, true, true, true, true, true, true, true, true, true, false] rfl rfl (one_of HT_.out (by kernel_rfl)) (by decide) (fun K hK => ?_)
                    refine box_step ?hg (N := 7) ?hd (cs := #[.int .i64 0, .slice none 0 0]) (t := 28) ?hr ?_; (case hd => rfl); (case hg => rfl); (case hr => first | (go_simp; done) | (go_simp; rfl))
                    intro gb893 hg w40 hbox hb
                    have n0_ := Aside0.mk (Kd.R_below (by (with_reducible repeat (first | apply Kd.R_alloc | apply Kd.R_drewN | apply Kd.R_drew)); exact HO_876001.out) hb)
                    have n1_ := Aside0.mk (Kd.R_below (by (with_reducible repeat (first | apply Kd.R_alloc | apply Kd.R_drewN | apply Kd.R_drew)); exact HO889.out) hb)
                    have n2_ := Aside0.mk (Kd.R_below (by (with_reducible repeat (first | apply Kd.R_alloc | apply Kd.R_drewN | apply Kd.R_drew)); exact HO892.out) hb)
                    have n3_ := Aside0.mk (blk_below (g := gb875) (o := .cells #[.int .i64 t871, .slice Ao13 t872.length co13] 28 (0, 0)) (by (with_reducible repeat (first | refine blk_drewN ?_ _ | refine blk_drew ?_ | refine blk_alloc ?_ _)); exact BK875.out) hb)
                    have n4_ := Aside0.mk (below_step (by repeat (first | (with_reducible first | exact HB.out | apply below_alloc | apply pw_below_drewN | apply below_drew1 | refine below_set ?_ GE875.out) | exact HB.out)) hb)
                    have n5_ := Aside0.mk (hbox)
                    have n6_ := Aside0.mk ((by rw [hg]; exact (below_size (by repeat (first | (with_reducible first | exact HB.out | apply below_alloc | apply pw_below_drewN | apply below_drew1 | refine below_set ?_ GE875.out) | exact HB.out))) : w.heap.size ≤ gb893))
                    have n7_ := Aside0.mk ((by rw [hg]; exact (below_size (by repeat (first | (with_reducible first | exact HB.out | apply below_alloc | apply pw_below_drewN | apply below_drew1 | refine below_set ?_ GE875.out) | exact HB.out))) : w.heap.size ≤ gb893))
                    have n8_ := Aside0.mk ((by rw [hg]; exact Nat.ne_of_lt (blk_lt (g := gb875) (o := .cells #[.int .i64 t871, .slice Ao13 t872.length co13] 28 (0, 0)) (by (with_reducible repeat (first | refine blk_drewN ?_ _ | refine blk_drew ?_ | refine blk_alloc ?_ _)); exact BK875.out)) : gb875 ≠ gb893))
                    have n9_ := Aside0.mk ((by rw [hg]; exact Nat.ne_of_gt (blk_lt (g := gb875) (o := .cells #[.int .i64 t871, .slice Ao13 t872.length co13] 28 (0, 0)) (by (with_reducible repeat (first | refine blk_drewN ?_ _ | refine blk_drew ?_ | refine blk_alloc ?_ _)); exact BK875.out)) : gb893 ≠ gb875))
                    clear HO_876001
                    clear HO889
                    clear HO892
                    clear BK875
                    clear HB
                    have HO_876001 := n0_
                    have HO889 := n1_
                    have HO892 := n2_
                    have BK875 := n3_
                    have HB := n4_
                    have BK893 := n5_
                    have GW893 := n6_
                    have GE893 := n7_
                    have NB875_893 := n8_
                    have NB893_875 := n9_
                    clear n0_ n1_ n2_ n3_ n4_ n5_ n6_ n7_ n8_ n9_
                    clear hb hbox hg
                    refine hK.out _ _ ⟨(blk_cell BK875.out 0).trans rfl, (blk_cell BK875.out 1).trans rfl⟩ (fun hHeld => ?_)
                    clear hK K
                    refine norm_ (a' := ?_) ?_ ?_
                    rotate_left
                    · show Act.put _ (some 7) _ = _
                      simp only [Act.put, List.setIfInBounds_toArray, List.set_cons_zero, List.set_cons_succ, i64_w, i32_w]
                      rfl
                    exact norm_ (by first | (simp only [putAll, Act.put, List.setIfInBounds_toArray, List.set_cons_zero, List.set_cons_succ]; done) | (simp only [putAll, Act.put, List.setIfInBounds_toArray, List.set_cons_zero, List.set_cons_succ]; rfl)) (hJ2_5_6_7_9 (v882, v885, v888, .slice Ao39 y890.length co39, gb893) _ ⟨hHeld, (by (with_reducible repeat (first | apply Kd.R_alloc | apply Kd.R_drewN | apply Kd.R_drew)); exact HO889.out), (by (with_reducible repeat (first | apply Kd.R_alloc | apply Kd.R_drewN | apply Kd.R_drew)); exact HO892.out), (by (with_reducible repeat (first | apply Kd.R_alloc | apply Kd.R_drewN | apply Kd.R_drew)); exact HO_876001.out), (by (with_reducible repeat (first | refine blk_drewN ?_ _ | refine blk_drew ?_ | refine blk_alloc ?_ _)); exact BK875.out), (by (with_reducible repeat (first | refine blk_drewN ?_ _ | refine blk_drew ?_ | refine blk_alloc ?_ _)); exact BK893.out), GW893.out, GE893.out, NB875_893.out, NB893_875.out, (by repeat (first | (with_reducible first | exact HB.out | apply below_alloc | apply pw_below_drewN | apply below_drew1 | refine below_set ?_ GE875.out | refine below_set ?_ GE893.out) | exact HB.out))⟩)
                rintro ⟨v882, v885, v888, v891, gb893⟩ w39 ⟨hS_, h0_, h1_, h2_, h3_, h4_, h5_, h6_, h7_, h8_, h9_⟩
                have n0_ : Aside0 (Kd.R (Kd.int .i64) 3 w39 w.heap.size (fun k_ => some k_ ≠ (v891 : Value).ownBlock ∧ some k_ ≠ (.slice Ao13 t872.length co13 : Value).ownBlock) v888 y887) := ⟨h0_⟩
                have n1_ : Aside0 (Kd.R (Kd.int .i64) 3 w39 w.heap.size (fun k_ => some k_ ≠ (v888 : Value).ownBlock ∧ some k_ ≠ (.slice Ao13 t872.length co13 : Value).ownBlock) v891 y890) := ⟨h1_⟩
                have n2_ : Aside0 (Kd.R (Kd.int .i64) 3 w39 w.heap.size (fun k_ => some k_ ≠ (v888 : Value).ownBlock ∧ some k_ ≠ (v891 : Value).ownBlock) (.slice Ao13 t872.length co13) t872) := ⟨h2_⟩
                have n3_ : Aside0 (w39.heap[gb875]? = some (.cells #[.int .i64 t871, .slice Ao13 t872.length co13] 28 (0, 0))) := ⟨h3_⟩
                have n4_ : Aside0 (w39.heap[gb893]? = some (.cells #[.int .i64 0, .slice none 0 0] 28 (0, 0))) := ⟨h4_⟩
                have n5_ : Aside0 (w.heap.size ≤ gb893) := ⟨h5_⟩
                have n6_ : Aside0 (w.heap.size ≤ gb893) := ⟨h6_⟩
                have n7_ : Aside0 (gb875 ≠ gb893) := ⟨h7_⟩
                have n8_ : Aside0 (gb893 ≠ gb875) := ⟨h8_⟩
                have n9_ : Aside0 (Below w.heap.size w w39) := ⟨h9_⟩
                clear HO_876001
                clear BK875
                clear HB
                clear h0_ h1_ h2_ h3_ h4_ h5_ h6_ h7_ h8_ h9_
                have HO889 := n0_
                have HO892 := n1_
                have HO_876001 := n2_
                have BK875 := n3_
                have BK893 := n4_
                have GW893 := n5_
                have GE893 := n6_
                have NB875_893 := n7_
                have NB893_875 := n8_
                have HB := n9_
                clear n0_ n1_ n2_ n3_ n4_ n5_ n6_ n7_ n8_ n9_
                have hHeld : w39.cell? ⟨gb875, 0, none⟩ = some (.int .i64 t871) ∧ w39.cell? ⟨gb875, 1, none⟩ = some (.slice Ao13 t872.length co13) := hS_
                obtain ⟨Ao40, co40, eo40⟩ := Kd.R_slice HO892.out
                (first | subst eo40 | (injection eo40 with f1_ f2_ f3_; have f4_ := f1_.symm; have f5_ := f3_.symm; clear f1_ f2_ f3_; subst f4_; subst f5_))
                refine norm_ (a' := ?_) ?_ ?_
                rotate_left
                · simp only [putAll, Act.put, List.setIfInBounds_toArray, List.set_cons_zero, List.set_cons_succ]
                  rfl
                refine one_ (i := 10) (N := none) #[true, true, true, true, true, true, true, true, true, true, true] rfl rfl (one_of HT_.out (by kernel_rfl)) (by decide) (fun K hK => ?_)
                have hs41 : w39.cell? ⟨gb893, 0, none⟩ = some (.int .i64 0) := (blk_cell BK893.out 0).trans rfl
                have hfs41 := blk_frozen BK893.out 0
                have hns41_0 := NB875_893.out
                have hms41_0 := NB893_875.out
                have hs42 : w39.cell? ⟨gb893, 1, none⟩ = some (.slice none 0 0) := (blk_cell BK893.out 1).trans rfl
                have hfs42 := blk_frozen BK893.out 1
                have hns42_0 := NB875_893.out
                have hms42_0 := NB893_875.out
                refine skip_ (w1 := ?_) (by rfl) rfl ?_ ?_
                rotate_left
                · go_simp
                  rfl
                refine hK.out _ _ ⟨((cell_far (p := ⟨gb893, _, none⟩) NB875_893.out _).trans (((cell_far (p := ⟨gb893, _, none⟩) NB875_893.out _).trans (hHeld.1)))), ((cell_far (p := ⟨gb893, _, none⟩) NB875_893.out _).trans (((cell_far (p := ⟨gb893, _, none⟩) NB875_893.out _).trans (hHeld.2))))⟩ (fun hHeld => ?_)
                clear hK K
                refine done_ (done_of HT_.out (by kernel_rfl)) ?_
                have hnb43 := NB893_875.out
                have hnc43 := NB875_893.out
                have hcz44_0 : w39.cell? ⟨gb893, 0, none⟩ = some (.int .i64 0) := (blk_cell BK893.out 0).trans rfl
                have hcz44_1 : w39.cell? ⟨gb893, 1, none⟩ = some (.slice none 0 0) := (blk_cell BK893.out 1).trans rfl
                have hfz44_0 := blk_frozen BK893.out 0
                have hfz44_1 := blk_frozen BK893.out 1
                have H := Hh_.out
                clear Hh_
                by_cases c28 : (t872.length : Int) = 0
                · rw [if_pos c28] at H
                  have c28b0 : ((t872.length : Int) == 0) = true := beq_iff_eq.mpr c28
                  have c28b1 : ((t872.length : Int) != 0) = false := bne_eq_false_iff_eq.mpr c28
                  clear c28
                  obtain rfl := Option.some.inj H
                  try go_wp2_with (first | ((with_reducible refine gate_callee (f := 26) rfl ?_); refine goesL_ (some 38) rfl rfl Tryd.func26 (by kernel_rfl) rfl #[.agg #[.int .i64 t871, .slice Ao40 y890.length co40]] rfl (by (try simp only [List.map_toArray, List.map_cons, List.map_nil]); first | done | rfl | (simp only [List.length_drop, List.length_take]; rfl)) ?_; (with_reducible refine (isa_Right.calls kj7 t871 _ _ y890 false _ ?side1 ?side2 ?side3 A26.out).mono ?_); (case side1 => exact LaidW.below hLaid_ (by repeat (first | (with_reducible first | exact HB.out | apply below_alloc | apply pw_below_drewN | apply below_drew1 | refine below_set ?_ GE875.out | refine below_set ?_ GE893.out) | exact HB.out))); (case side2 => refine (Kd.R_reads' (e := 3) (base := w.heap.size) (ok := fun k_ => (some k_ ≠ (v888 : Value).ownBlock ∧ some k_ ≠ (.slice Ao13 t872.length co13 : Value).ownBlock)) (n := y890.length) (c := co40) ?_).2.2; exact (by (with_reducible repeat (first | apply Kd.R_alloc | apply Kd.R_drewN | apply Kd.R_drew)); exact (Kd.R_mono (Kd.R_far (p := ⟨gb893, 1, none⟩) (Kd.R_far (p := ⟨gb893, 0, none⟩) (Kd.R_types HO892.out BK893.out (by decide)) (fun _ hk => hk.2) (.int .i64 t871)) (fun _ hk => hk.2) (.slice Ao40 y890.length co40)) (fun _ h_ => h_.1)))); (case side3 => exact (Kd.R_reads' HO892.out).2.1); rintro e w45 ⟨rfl, hb⟩; refine ⟨_, rfl, ?_⟩; have n0_ := Aside0.mk (Kd.R_below (by (with_reducible repeat (first | apply Kd.R_alloc | apply Kd.R_drewN | apply Kd.R_drew)); exact (Kd.R_mono (Kd.R_far (p := ⟨gb893, 1, none⟩) (Kd.R_far (p := ⟨gb893, 0, none⟩) (Kd.R_types HO_876001.out BK893.out (by decide)) (fun _ hk => hk.2) (.int .i64 t871)) (fun _ hk => hk.2) (.slice Ao40 y890.length co40)) (fun _ h_ => h_.1))) hb); have n1_ := Aside0.mk (Kd.R_below (by (with_reducible repeat (first | apply Kd.R_alloc | apply Kd.R_drewN | apply Kd.R_drew)); exact (Kd.R_mono (Kd.R_far (p := ⟨gb893, 1, none⟩) (Kd.R_far (p := ⟨gb893, 0, none⟩) (Kd.R_types HO889.out BK893.out (by decide)) (fun _ hk => hk.2) (.int .i64 t871)) (fun _ hk => hk.2) (.slice Ao40 y890.length co40)) (fun _ h_ => h_.1))) hb); have n2_ := Aside0.mk (Kd.R_below (by (with_reducible repeat (first | apply Kd.R_alloc | apply Kd.R_drewN | apply Kd.R_drew)); exact (Kd.R_mono (Kd.R_far (p := ⟨gb893, 1, none⟩) (Kd.R_far (p := ⟨gb893, 0, none⟩) (Kd.R_types HO892.out BK893.out (by decide)) (fun _ hk => hk.2) (.int .i64 t871)) (fun _ hk => hk.2) (.slice Ao40 y890.length co40)) (fun _ h_ => h_.1))) hb); have n3_ := Aside0.mk (blk_below (g := gb875) (o := .cells #[.int .i64 t871, .slice Ao13 t872.length co13] 28 (0, 0)) (by (with_reducible repeat (first | refine blk_drewN ?_ _ | refine blk_drew ?_ | refine blk_alloc ?_ _)); refine blk_far ?_ NB875_893.out _; (with_reducible repeat (first | refine blk_drewN ?_ _ | refine blk_drew ?_ | refine blk_alloc ?_ _)); refine blk_far ?_ NB875_893.out _; (with_reducible repeat (first | refine blk_drewN ?_ _ | refine blk_drew ?_ | refine blk_alloc ?_ _)); exact BK875.out) hb); have n4_ := Aside0.mk (blk_below (g := gb893) (o := .cells #[.int .i64 t871, .slice Ao40 y890.length co40] 28 (0, 0)) (by (with_reducible repeat (first | refine blk_drewN ?_ _ | refine blk_drew ?_ | refine blk_alloc ?_ _)); refine blk_put (cs := #[.int .i64 t871, .slice none 0 0]) ?_ 1 _ rfl; (with_reducible repeat (first | refine blk_drewN ?_ _ | refine blk_drew ?_ | refine blk_alloc ?_ _)); refine blk_put (cs := #[.int .i64 0, .slice none 0 0]) ?_ 0 _ rfl; (with_reducible repeat (first | refine blk_drewN ?_ _ | refine blk_drew ?_ | refine blk_alloc ?_ _)); exact BK893.out) hb); have n5_ := Aside0.mk (below_step (by repeat (first | (with_reducible first | exact HB.out | apply below_alloc | apply pw_below_drewN | apply below_drew1 | refine below_set ?_ GE875.out | refine below_set ?_ GE893.out) | exact HB.out)) hb); clear HO_876001; clear HO889; clear HO892; clear BK875; clear BK893; clear HB; have HO_876001 := n0_; have HO889 := n1_; have HO892 := n2_; have BK875 := n3_; have BK893 := n4_; have HB := n5_; clear n0_ n1_ n2_ n3_ n4_ n5_; (try clear hb); (try clear hb2); (try clear hk); (try clear hi)))
                  have n0_ := Aside0.mk (Kd.R_drew HO_876001.out)
                  have n1_ := Aside0.mk (Kd.R_drew HO889.out)
                  have n2_ := Aside0.mk (Kd.R_drew HO892.out)
                  have n3_ := Aside0.mk (blk_drew BK875.out)
                  have n4_ := Aside0.mk (blk_drew BK893.out)
                  have n5_ := Aside0.mk (below_drew1 HB.out)
                  clear HO_876001
                  clear HO889
                  clear HO892
                  clear BK875
                  clear BK893
                  clear HB
                  have HO_876001 := n0_
                  have HO889 := n1_
                  have HO892 := n2_
                  have BK875 := n3_
                  have BK893 := n4_
                  have HB := n5_
                  clear n0_ n1_ n2_ n3_ n4_ n5_
                  refine start_ (n := 15) (S := fun w' => w'.cell? ⟨gb875, 0, none⟩ = some (.int .i64 t871) ∧ w'.cell? ⟨gb875, 1, none⟩ = some (.slice Ao13 t872.length co13)) (ds := []) #[false, false, false, false, false, false, false, false, false, false, false, false, false, false, false] (by kernel_rfl) rfl rfl ⟨(blk_cell BK875.out 0).trans rfl, (blk_cell BK875.out 1).trans rfl⟩ (fun hHeld => ?_); refine with_tabW letterpresslaw2_IsaKinds.tab10 letterpresslaw2_IsaKinds.bits10 (fun HT_ HW_ => ?_)
                  generalize w45.drew = w46 at HO_876001 HO889 HO892 BK875 BK893 HB hHeld ⊢
                  refine pure_ (i := 0) (N := some 39) (v := ?_) (a' := ?_) #[true, false, false, false, false, false, false, false, false, false, false, false, false, false, false] rfl rfl (any_of HT_.out (by kernel_rfl)) (fun _ _ _ h => h) (Or.inl ⟨by rfl, ?_⟩) ?_ ?_
                  rotate_left
                  · intro w'
                    go_simp
                    with_reducible rfl
                  rotate_left
                  · simp only [Act.put, List.setIfInBounds_toArray, List.set_cons_zero, List.set_cons_succ, i64_w, i32_w]
                    rfl
                  refine take_ (i := 1) (N := some 40) (v := ?_) (a' := ?_) #[true, true, false, false, false, false, false, false, false, false, false, false, false, false, false] rfl rfl (take_ofW HT_.out HW_.out (by kernel_rfl)) (fun _ _ _ h => h) (Or.inl ⟨by rfl, ?_⟩) hHeld ?_ ?_
                  rotate_left
                  · rintro w' ⟨s0, s1⟩
                    go_simp
                    with_reducible rfl
                  rotate_left
                  · simp only [Act.put, List.setIfInBounds_toArray, List.set_cons_zero, List.set_cons_succ, i64_w, i32_w]
                    rfl
                  refine pure_ (i := 2) (N := some 41) (v := ?_) (a' := ?_) #[true, true, true, false, false, false, false, false, false, false, false, false, false, false, false] rfl rfl (any_of HT_.out (by kernel_rfl)) (fun _ _ _ h => h) (Or.inl ⟨by rfl, ?_⟩) ?_ ?_
                  rotate_left
                  · intro w'
                    go_simp
                    with_reducible rfl
                  rotate_left
                  · simp only [Act.put, List.setIfInBounds_toArray, List.set_cons_zero, List.set_cons_succ, i64_w, i32_w]
                    rfl
                  refine pure_ (i := 3) (N := some 42) (v := ?_) (a' := ?_) #[true, true, true, true, false, false, false, false, false, false, false, false, false, false, false] rfl rfl (any_of HT_.out (by kernel_rfl)) (fun _ _ _ h => h) (Or.inl ⟨by rfl, ?_⟩) ?_ ?_
                  rotate_left
                  · intro w'
                    go_simp
                    with_reducible rfl
                  rotate_left
                  · simp only [Act.put, List.setIfInBounds_toArray, List.set_cons_zero, List.set_cons_succ, i64_w, i32_w]
                    rfl
                  refine pure_ (i := 4) (N := some 43) (v := ?_) (a' := ?_) #[true, true, true, true, true, false, false, false, false, false, false, false, false, false, false] rfl rfl (any_of HT_.out (by kernel_rfl)) (fun _ _ _ h => h) (Or.inl ⟨by rfl, ?_⟩) ?_ ?_
                  rotate_left
                  · intro w'
                    go_simp
                    with_reducible rfl
                  rotate_left
                  · simp only [Act.put, List.setIfInBounds_toArray, List.set_cons_zero, List.set_cons_succ, i64_w, i32_w]
                    rfl
                  refine pure_ (i := 5) (N := some 44) (v := undef) (a' := ?_) #[true, true, true, true, true, true, false, false, false, false, false, false, false, false, false] rfl rfl (any_of HT_.out (by kernel_rfl)) (fun _ _ _ h => h) (Or.inr ⟨by rfl, rfl⟩) ?_ ?_
                  rotate_left
                  · simp only [Act.put, List.setIfInBounds_toArray, List.set_cons_zero, List.set_cons_succ, i64_w, i32_w]
                    rfl
                  refine pure_ (i := 6) (N := some 45) (v := undef) (a' := ?_) #[true, true, true, true, true, true, true, false, false, false, false, false, false, false, false] rfl rfl (any_of HT_.out (by kernel_rfl)) (fun _ _ _ h => h) (Or.inr ⟨by rfl, rfl⟩) ?_ ?_
                  rotate_left
                  · simp only [Act.put, List.setIfInBounds_toArray, List.set_cons_zero, List.set_cons_succ, i64_w, i32_w]
                    rfl
                  refine pure_ (i := 7) (N := some 46) (v := undef) (a' := ?_) #[true, true, true, true, true, true, true, true, false, false, false, false, false, false, false] rfl rfl (any_of HT_.out (by kernel_rfl)) (fun _ _ _ h => h) (Or.inr ⟨by rfl, rfl⟩) ?_ ?_
                  rotate_left
                  · simp only [Act.put, List.setIfInBounds_toArray, List.set_cons_zero, List.set_cons_succ, i64_w, i32_w]
                    rfl
                  refine pure_ (i := 8) (N := some 47) (v := undef) (a' := ?_) #[true, true, true, true, true, true, true, true, true, false, false, false, false, false, false] rfl rfl (any_of HT_.out (by kernel_rfl)) (fun _ _ _ h => h) (Or.inr ⟨by rfl, rfl⟩) ?_ ?_
                  rotate_left
                  · simp only [Act.put, List.setIfInBounds_toArray, List.set_cons_zero, List.set_cons_succ, i64_w, i32_w]
                    rfl
                  refine pure_ (i := 9) (N := some 48) (v := undef) (a' := ?_) #[true, true, true, true, true, true, true, true, true, true, false, false, false, false, false] rfl rfl (any_of HT_.out (by kernel_rfl)) (fun _ _ _ h => h) (Or.inr ⟨by rfl, rfl⟩) ?_ ?_
                  rotate_left
                  · simp only [Act.put, List.setIfInBounds_toArray, List.set_cons_zero, List.set_cons_succ, i64_w, i32_w]
                    rfl
                  refine pure_ (i := 10) (N := some 49) (v := undef) (a' := ?_) #[true, true, true, true, true, true, true, true, true, true, true, false, false, false, false] rfl rfl (any_of HT_.out (by kernel_rfl)) (fun _ _ _ h => h) (Or.inr ⟨by rfl, rfl⟩) ?_ ?_
                  rotate_left
                  · simp only [Act.put, List.setIfInBounds_toArray, List.set_cons_zero, List.set_cons_succ, i64_w, i32_w]
                    rfl
                  refine pure_ (i := 11) (N := some 50) (v := undef) (a' := ?_) #[true, true, true, true, true, true, true, true, true, true, true, true, false, false, false] rfl rfl (any_of HT_.out (by kernel_rfl)) (fun _ _ _ h => h) (Or.inr ⟨by rfl, rfl⟩) ?_ ?_
                  rotate_left
                  · simp only [Act.put, List.setIfInBounds_toArray, List.set_cons_zero, List.set_cons_succ, i64_w, i32_w]
                    rfl
                  refine pure_ (i := 12) (N := some 51) (v := undef) (a' := ?_) #[true, true, true, true, true, true, true, true, true, true, true, true, true, false, false] rfl rfl (any_of HT_.out (by kernel_rfl)) (fun _ _ _ h => h) (Or.inr ⟨by rfl, rfl⟩) ?_ ?_
                  rotate_left
                  · simp only [Act.put, List.setIfInBounds_toArray, List.set_cons_zero, List.set_cons_succ, i64_w, i32_w]
                    rfl
                  refine pure_ (i := 13) (N := some 52) (v := ?_) (a' := ?_) #[true, true, true, true, true, true, true, true, true, true, true, true, true, true, false] rfl rfl (any_of HT_.out (by kernel_rfl)) (fun _ _ _ h => h) (Or.inl ⟨by rfl, ?_⟩) ?_ ?_
                  rotate_left
                  · intro w'
                    go_simp
                    with_reducible rfl
                  rotate_left
                  · simp only [Act.put, List.setIfInBounds_toArray, List.set_cons_zero, List.set_cons_succ, i64_w, i32_w]
                    rfl
                  refine pure_ (i := 14) (N := some 4) (v := ?_) (a' := ?_) #[true, true, true, true, true, true, true, true, true, true, true, true, true, true, true] rfl rfl (any_of HT_.out (by kernel_rfl)) (fun _ _ _ h => h) (Or.inl ⟨by rfl, ?_⟩) ?_ ?_
                  rotate_left
                  · intro w'
                    go_simp
                    with_reducible rfl
                  rotate_left
                  · simp only [Act.put, List.setIfInBounds_toArray, List.set_cons_zero, List.set_cons_succ, i64_w, i32_w]
                    rfl
                  refine done_ (done_of HT_.out (by kernel_rfl)) ?_
                  try go_wp2
                  go_ret
                  exact ⟨by first | rfl | (simp [errW_none, errW_some] <;> rfl) | (simp [*, errW_none, errW_some] <;> rfl), by repeat (first | (with_reducible first | exact HB.out | apply below_alloc | apply pw_below_drewN | apply below_drew1 | refine below_set ?_ GE875.out | refine below_set ?_ GE893.out) | exact HB.out)⟩
                · rw [if_neg c28] at H
                  have c28b0 : ((t872.length : Int) == 0) = false := beq_eq_false_iff_ne.mpr c28
                  have c28b1 : ((t872.length : Int) != 0) = true := bne_iff_ne.mpr c28
                  have c28b2 : ¬ (t872 = []) := fun h_ => c28 (by rw [h_]; rfl)
                  by_cases c47 : 1 ≤ (t872.length : Int)
                  · rw [if_pos c47] at H
                    have c47b0 := eq_true c47
                    have c47b1 : decide (1 ≤ (t872.length : Int)) = true := decide_eq_true c47
                    clear c47
                    obtain ⟨y895, hy895⟩ : ∃ y_ : List Int, y_ = (t872.drop 1) := ⟨_, rfl⟩
                    replace H : ((isa_Right.f kj7 t871 y895).bind fun t899 => (some (!t899))) = some r := by first | (rw [hy895]; with_reducible exact H) | (have H2_ := (Option.bind_some _ _).symm.trans H; rw [hy895]; with_reducible exact H2_) | (have H2_ := (Option.bind_some _ _).symm.trans H; with_reducible exact H2_) | with_reducible exact H | (rw [hy895]; exact H) | exact H
                    have Ny895 := Aside0.mk hy895
                    clear hy895
                    replace H := Option.bind_eq_some_iff.mp H
                    obtain ⟨t899, A480, H⟩ := H
                    replace H : (some (!t899)) = some r := H
                    have A48 := Aside0.mk A480
                    clear A480
                    obtain rfl := Option.some.inj H
                    try go_wp2_with (first | ((with_reducible refine gate_callee (f := 26) rfl ?_); refine goesL_ (some 38) rfl rfl Tryd.func26 (by kernel_rfl) rfl #[.agg #[.int .i64 t871, .slice Ao40 y890.length co40]] rfl (by (try simp only [List.map_toArray, List.map_cons, List.map_nil]); first | done | rfl | (simp only [List.length_drop, List.length_take]; rfl)) ?_; (with_reducible refine (isa_Right.calls kj7 t871 _ _ y890 false _ ?side1 ?side2 ?side3 A26.out).mono ?_); (case side1 => exact LaidW.below hLaid_ (by repeat (first | (with_reducible first | exact HB.out | apply below_alloc | apply pw_below_drewN | apply below_drew1 | refine below_set ?_ GE875.out | refine below_set ?_ GE893.out) | exact HB.out))); (case side2 => refine (Kd.R_reads' (e := 3) (base := w.heap.size) (ok := fun k_ => (some k_ ≠ (v888 : Value).ownBlock ∧ some k_ ≠ (.slice Ao13 t872.length co13 : Value).ownBlock)) (n := y890.length) (c := co40) ?_).2.2; exact (by (with_reducible repeat (first | apply Kd.R_alloc | apply Kd.R_drewN | apply Kd.R_drew)); exact (Kd.R_mono (Kd.R_far (p := ⟨gb893, 1, none⟩) (Kd.R_far (p := ⟨gb893, 0, none⟩) (Kd.R_types HO892.out BK893.out (by decide)) (fun _ hk => hk.2) (.int .i64 t871)) (fun _ hk => hk.2) (.slice Ao40 y890.length co40)) (fun _ h_ => h_.1)))); (case side3 => exact (Kd.R_reads' HO892.out).2.1); rintro e w65 ⟨rfl, hb⟩; refine ⟨_, rfl, ?_⟩; have n0_ := Aside0.mk (Kd.R_below (by (with_reducible repeat (first | apply Kd.R_alloc | apply Kd.R_drewN | apply Kd.R_drew)); exact (Kd.R_mono (Kd.R_far (p := ⟨gb893, 1, none⟩) (Kd.R_far (p := ⟨gb893, 0, none⟩) (Kd.R_types HO_876001.out BK893.out (by decide)) (fun _ hk => hk.2) (.int .i64 t871)) (fun _ hk => hk.2) (.slice Ao40 y890.length co40)) (fun _ h_ => h_.1))) hb); have n1_ := Aside0.mk (Kd.R_below (by (with_reducible repeat (first | apply Kd.R_alloc | apply Kd.R_drewN | apply Kd.R_drew)); exact (Kd.R_mono (Kd.R_far (p := ⟨gb893, 1, none⟩) (Kd.R_far (p := ⟨gb893, 0, none⟩) (Kd.R_types HO889.out BK893.out (by decide)) (fun _ hk => hk.2) (.int .i64 t871)) (fun _ hk => hk.2) (.slice Ao40 y890.length co40)) (fun _ h_ => h_.1))) hb); have n2_ := Aside0.mk (Kd.R_below (by (with_reducible repeat (first | apply Kd.R_alloc | apply Kd.R_drewN | apply Kd.R_drew)); exact (Kd.R_mono (Kd.R_far (p := ⟨gb893, 1, none⟩) (Kd.R_far (p := ⟨gb893, 0, none⟩) (Kd.R_types HO892.out BK893.out (by decide)) (fun _ hk => hk.2) (.int .i64 t871)) (fun _ hk => hk.2) (.slice Ao40 y890.length co40)) (fun _ h_ => h_.1))) hb); have n3_ := Aside0.mk (blk_below (g := gb875) (o := .cells #[.int .i64 t871, .slice Ao13 t872.length co13] 28 (0, 0)) (by (with_reducible repeat (first | refine blk_drewN ?_ _ | refine blk_drew ?_ | refine blk_alloc ?_ _)); refine blk_far ?_ NB875_893.out _; (with_reducible repeat (first | refine blk_drewN ?_ _ | refine blk_drew ?_ | refine blk_alloc ?_ _)); refine blk_far ?_ NB875_893.out _; (with_reducible repeat (first | refine blk_drewN ?_ _ | refine blk_drew ?_ | refine blk_alloc ?_ _)); exact BK875.out) hb); have n4_ := Aside0.mk (blk_below (g := gb893) (o := .cells #[.int .i64 t871, .slice Ao40 y890.length co40] 28 (0, 0)) (by (with_reducible repeat (first | refine blk_drewN ?_ _ | refine blk_drew ?_ | refine blk_alloc ?_ _)); refine blk_put (cs := #[.int .i64 t871, .slice none 0 0]) ?_ 1 _ rfl; (with_reducible repeat (first | refine blk_drewN ?_ _ | refine blk_drew ?_ | refine blk_alloc ?_ _)); refine blk_put (cs := #[.int .i64 0, .slice none 0 0]) ?_ 0 _ rfl; (with_reducible repeat (first | refine blk_drewN ?_ _ | refine blk_drew ?_ | refine blk_alloc ?_ _)); exact BK893.out) hb); have n5_ := Aside0.mk (below_step (by repeat (first | (with_reducible first | exact HB.out | apply below_alloc | apply pw_below_drewN | apply below_drew1 | refine below_set ?_ GE875.out | refine below_set ?_ GE893.out) | exact HB.out)) hb); clear HO_876001; clear HO889; clear HO892; clear BK875; clear BK893; clear HB; have HO_876001 := n0_; have HO889 := n1_; have HO892 := n2_; have BK875 := n3_; have BK893 := n4_; have HB := n5_; clear n0_ n1_ n2_ n3_ n4_ n5_; (try clear hb); (try clear hb2); (try clear hk); (try clear hi)))
                    have n0_ := Aside0.mk (Kd.R_drew HO_876001.out)
                    have n1_ := Aside0.mk (Kd.R_drew HO889.out)
                    have n2_ := Aside0.mk (Kd.R_drew HO892.out)
                    have n3_ := Aside0.mk (blk_drew BK875.out)
                    have n4_ := Aside0.mk (blk_drew BK893.out)
                    have n5_ := Aside0.mk (below_drew1 HB.out)
                    clear HO_876001
                    clear HO889
                    clear HO892
                    clear BK875
                    clear BK893
                    clear HB
                    have HO_876001 := n0_
                    have HO889 := n1_
                    have HO892 := n2_
                    have BK875 := n3_
                    have BK893 := n4_
                    have HB := n5_
                    clear n0_ n1_ n2_ n3_ n4_ n5_
                    have q67 : (1 : Int) ≤ ((t872.length : Int) : Int) := of_decide_eq_true (by first | (with_reducible assumption) | assumption)
                    obtain ⟨i067, hi067, _, hsz67, _⟩ := info_parts info3
                    have hroom67 : t872.length ≤ co13 := (Kd.R_reads' HO_876001.out).2.1
                    have hC67 : Kd.C (Kd.int .i64) _ Ao13 t872.length t872 := (Kd.R_reads' HO_876001.out).2.2
                    have hcut67 := cut_from (P := Tryd.prog) 23 3 .i64 Tryd.underlying23 hi067 1 hsz67 Ao13 t872.length co13 1 (by omega) q67
                    have hr67 := Kd.C_drop (m := (1 : Int).toNat) (c := co13) hC67 (by omega) hroom67
                    obtain ⟨A67, hA67⟩ : ∃ A1, A1 = (if co13 = (1 : Int).toNat then Ao13 else (Ao13 : Option Addr).map (·.add ((1 : Int).toNat * 1))) := ⟨_, rfl⟩
                    obtain ⟨c67, hc67⟩ : ∃ c1, c1 = co13 - (1 : Int).toNat := ⟨_, rfl⟩
                    have hy67 : y895.length = t872.length - (1 : Int).toNat := (by rw [Ny895.out, List.length_drop] <;> omega)
                    rw [show (t872).drop (1 : Int).toNat = y895 from Ny895.out.symm] at hr67
                    replace hr67 : Kd.C (Kd.int .i64) _ A67 y895.length y895 := (by rw [hA67]; exact hr67)
                    rw [← hy67, ← hA67, ← hc67] at hcut67
                    have HR898 := Aside0.mk hr67
                    have HC898 := Aside0.mk (show y895.length ≤ c67 from by rw [hy67, hc67]; exact Nat.sub_le_sub_right hroom67 _)
                    clear hr67 hC67 hroom67 hi067 hsz67 hc67
                    have KY67 := Aside0.mk hy67
                    have KA67 := Aside0.mk hA67
                    clear hy67 hA67
                    have KL67 := Aside0.mk (show 1 ≤ t872.length from by omega)
                    replace q67 := eq_true q67
                    refine start_ (n := 15) (S := fun w' => w'.cell? ⟨gb875, 0, none⟩ = some (.int .i64 t871) ∧ w'.cell? ⟨gb875, 1, none⟩ = some (.slice Ao13 t872.length co13)) (ds := []) #[false, false, false, false, false, false, false, false, false, false, false, false, false, false, false] (by kernel_rfl) rfl rfl ⟨(blk_cell BK875.out 0).trans rfl, (blk_cell BK875.out 1).trans rfl⟩ (fun hHeld => ?_); refine with_tabW letterpresslaw2_IsaKinds.tab10 letterpresslaw2_IsaKinds.bits10 (fun HT_ HW_ => ?_)
                    generalize w65.drew = w66 at HO_876001 HO889 HO892 BK875 BK893 HB HR898 hHeld ⊢
                    refine pure_ (i := 0) (N := some 39) (v := ?_) (a' := ?_) #[true, false, false, false, false, false, false, false, false, false, false, false, false, false, false] rfl rfl (any_of HT_.out (by kernel_rfl)) (fun _ _ _ h => h) (Or.inl ⟨by rfl, ?_⟩) ?_ ?_
                    rotate_left
                    · intro w'
                      go_simp
                      with_reducible rfl
                    rotate_left
                    · simp only [Act.put, List.setIfInBounds_toArray, List.set_cons_zero, List.set_cons_succ, i64_w, i32_w]
                      rfl
                    refine take_ (i := 1) (N := some 40) (v := ?_) (a' := ?_) #[true, true, false, false, false, false, false, false, false, false, false, false, false, false, false] rfl rfl (take_ofW HT_.out HW_.out (by kernel_rfl)) (fun _ _ _ h => h) (Or.inl ⟨by rfl, ?_⟩) hHeld ?_ ?_
                    rotate_left
                    · rintro w' ⟨s0, s1⟩
                      go_simp
                      with_reducible rfl
                    rotate_left
                    · simp only [Act.put, List.setIfInBounds_toArray, List.set_cons_zero, List.set_cons_succ, i64_w, i32_w]
                      rfl
                    refine pure_ (i := 2) (N := some 41) (v := ?_) (a' := ?_) #[true, true, true, false, false, false, false, false, false, false, false, false, false, false, false] rfl rfl (any_of HT_.out (by kernel_rfl)) (fun _ _ _ h => h) (Or.inl ⟨by rfl, ?_⟩) ?_ ?_
                    rotate_left
                    · intro w'
                      go_simp
                      with_reducible rfl
                    rotate_left
                    · simp only [Act.put, List.setIfInBounds_toArray, List.set_cons_zero, List.set_cons_succ, i64_w, i32_w]
                      rfl
                    refine pure_ (i := 3) (N := some 42) (v := ?_) (a' := ?_) #[true, true, true, true, false, false, false, false, false, false, false, false, false, false, false] rfl rfl (any_of HT_.out (by kernel_rfl)) (fun _ _ _ h => h) (Or.inl ⟨by rfl, ?_⟩) ?_ ?_
                    rotate_left
                    · intro w'
                      go_simp
                      with_reducible rfl
                    rotate_left
                    · simp only [Act.put, List.setIfInBounds_toArray, List.set_cons_zero, List.set_cons_succ, i64_w, i32_w]
                      rfl
                    refine pure_ (i := 4) (N := some 43) (v := ?_) (a' := ?_) #[true, true, true, true, true, false, false, false, false, false, false, false, false, false, false] rfl rfl (any_of HT_.out (by kernel_rfl)) (fun _ _ _ h => h) (Or.inl ⟨by rfl, ?_⟩) ?_ ?_
                    rotate_left
                    · intro w'
                      go_simp
                      with_reducible rfl
                    rotate_left
                    · simp only [Act.put, List.setIfInBounds_toArray, List.set_cons_zero, List.set_cons_succ, i64_w, i32_w]
                      rfl
                    refine pure_ (i := 5) (N := some 44) (v := ?_) (a' := ?_) #[true, true, true, true, true, true, false, false, false, false, false, false, false, false, false] rfl rfl (any_of HT_.out (by kernel_rfl)) (fun _ _ _ h => h) (Or.inl ⟨by rfl, ?_⟩) ?_ ?_
                    rotate_left
                    · intro w'
                      go_simp
                      with_reducible rfl
                    rotate_left
                    · simp only [Act.put, List.setIfInBounds_toArray, List.set_cons_zero, List.set_cons_succ, i64_w, i32_w]
                      rfl
                    refine pure_ (i := 7) (N := some 46) (v := ?_) (a' := ?_) #[true, true, true, true, true, true, false, true, false, false, false, false, false, false, false] rfl rfl (any_of HT_.out (by kernel_rfl)) (fun _ _ _ h => h) (Or.inl ⟨by rfl, ?_⟩) ?_ ?_
                    rotate_left
                    · intro w'
                      go_simp
                      with_reducible rfl
                    rotate_left
                    · simp only [Act.put, List.setIfInBounds_toArray, List.set_cons_zero, List.set_cons_succ, i64_w, i32_w]
                      rfl
                    refine take_ (i := 6) (N := some 45) (v := ?_) (a' := ?_) #[true, true, true, true, true, true, true, true, false, false, false, false, false, false, false] rfl rfl (take_ofW HT_.out HW_.out (by kernel_rfl)) (fun _ _ _ h => h) (Or.inl ⟨by rfl, ?_⟩) hHeld ?_ ?_
                    rotate_left
                    · rintro w' ⟨s0, s1⟩
                      go_simp
                      with_reducible rfl
                    rotate_left
                    · simp only [Act.put, List.setIfInBounds_toArray, List.set_cons_zero, List.set_cons_succ, i64_w, i32_w]
                      rfl
                    refine take_ (i := 8) (N := some 47) (v := ?_) (a' := ?_) #[true, true, true, true, true, true, true, true, true, false, false, false, false, false, false] rfl rfl (take_ofW HT_.out HW_.out (by kernel_rfl)) (fun _ _ _ h => h) (Or.inl ⟨by rfl, ?_⟩) hHeld ?_ ?_
                    rotate_left
                    · rintro w' ⟨s0, s1⟩
                      go_simp
                      with_reducible rfl
                    rotate_left
                    · simp only [Act.put, List.setIfInBounds_toArray, List.set_cons_zero, List.set_cons_succ, i64_w, i32_w]
                      rfl
                    refine pure_ (i := 9) (N := some 48) (v := ?_) (a' := ?_) #[true, true, true, true, true, true, true, true, true, true, false, false, false, false, false] rfl rfl (any_of HT_.out (by kernel_rfl)) (fun _ _ _ h => h) (Or.inl ⟨by rfl, ?_⟩) ?_ ?_
                    rotate_left
                    · intro w'
                      go_simp
                      with_reducible rfl
                    rotate_left
                    · simp only [Act.put, List.setIfInBounds_toArray, List.set_cons_zero, List.set_cons_succ, i64_w, i32_w]
                      rfl
                    refine pure_ (i := 10) (N := some 49) (v := ?_) (a' := ?_) #[true, true, true, true, true, true, true, true, true, true, true, false, false, false, false] rfl rfl (any_of HT_.out (by kernel_rfl)) (fun _ _ _ h => h) (Or.inl ⟨by rfl, ?_⟩) ?_ ?_
                    rotate_left
                    · intro w'
                      go_simp
                      with_reducible rfl
                    rotate_left
                    · simp only [Act.put, List.setIfInBounds_toArray, List.set_cons_zero, List.set_cons_succ, i64_w, i32_w]
                      rfl
                    refine one_ (i := 11) (N := some 50) #[true, true, true, true, true, true, true, true, true, true, true, true, false, false, false] rfl rfl (one_of HT_.out (by kernel_rfl)) (by decide) (fun K hK => ?_)
                    refine goes_ Tryd.func26 (by kernel_rfl) rfl #[.agg #[.int .i64 t871, .slice A67 y895.length c67]] (by rfl) rfl rfl (by (try simp only [List.map_toArray, List.map_cons, List.map_nil]); first | done | rfl | (simp only [List.length_drop, List.length_take]; rfl)) ?_
                    with_reducible refine (isa_Right.calls kj7 t871 _ _ y895 t899 _ ?side1 ?side2 ?side3 A48.out).mono ?_
                    (case side1 => exact LaidW.below hLaid_ (by repeat (first | (with_reducible first | exact HB.out | apply below_alloc | apply pw_below_drewN | apply below_drew1 | refine below_set ?_ GE875.out | refine below_set ?_ GE893.out) | exact HB.out)))
                    (case side2 => repeat (first | exact (by repeat (first | (with_reducible exact HR898.out) | (with_reducible refine Kd.C_alloc ?_ _) | (with_reducible refine Kd.C_drewN ?_ _) | (with_reducible refine Kd.C_drew ?_) | exact HR898.out)) | (with_reducible refine Kd.C_alloc ?_ _) | (with_reducible refine Kd.C_drewN ?_ _) | (with_reducible refine Kd.C_drew ?_)))
                    (case side3 => exact HC898.out)
                    rintro e w68 ⟨rfl, hb⟩
                    refine ⟨_, rfl, ?_⟩
                    have n0_ := Aside0.mk (Kd.R_below (by (with_reducible repeat (first | apply Kd.R_alloc | apply Kd.R_drewN | apply Kd.R_drew)); exact HO_876001.out) hb)
                    have n1_ := Aside0.mk (Kd.R_below (by (with_reducible repeat (first | apply Kd.R_alloc | apply Kd.R_drewN | apply Kd.R_drew)); exact HO889.out) hb)
                    have n2_ := Aside0.mk (Kd.R_below (by (with_reducible repeat (first | apply Kd.R_alloc | apply Kd.R_drewN | apply Kd.R_drew)); exact HO892.out) hb)
                    have n3_ := Aside0.mk (blk_below (g := gb875) (o := .cells #[.int .i64 t871, .slice Ao13 t872.length co13] 28 (0, 0)) (by (with_reducible repeat (first | refine blk_drewN ?_ _ | refine blk_drew ?_ | refine blk_alloc ?_ _)); exact BK875.out) hb)
                    have n4_ := Aside0.mk (blk_below (g := gb893) (o := .cells #[.int .i64 t871, .slice Ao40 y890.length co40] 28 (0, 0)) (by (with_reducible repeat (first | refine blk_drewN ?_ _ | refine blk_drew ?_ | refine blk_alloc ?_ _)); exact BK893.out) hb)
                    have n5_ := Aside0.mk (Kd.C_below (by repeat (first | (with_reducible exact HR898.out) | (with_reducible refine Kd.C_alloc ?_ _) | (with_reducible refine Kd.C_drewN ?_ _) | (with_reducible refine Kd.C_drew ?_) | exact HR898.out)) hb)
                    have n6_ := Aside0.mk (below_step (by repeat (first | (with_reducible first | exact HB.out | apply below_alloc | apply pw_below_drewN | apply below_drew1 | refine below_set ?_ GE875.out | refine below_set ?_ GE893.out) | exact HB.out)) hb)
                    clear HO_876001
                    clear HO889
                    clear HO892
                    clear BK875
                    clear BK893
                    clear HR898
                    clear HB
                    have HO_876001 := n0_
                    have HO889 := n1_
                    have HO892 := n2_
                    have BK875 := n3_
                    have BK893 := n4_
                    have HR898 := n5_
                    have HB := n6_
                    clear n0_ n1_ n2_ n3_ n4_ n5_ n6_
                    (try clear hb)
                    (try clear hb2)
                    (try clear hk)
                    (try clear hi)
                    refine hK.out _ _ ⟨(blk_cell BK875.out 0).trans rfl, (blk_cell BK875.out 1).trans rfl⟩ (fun hHeld => ?_)
                    clear hK K
                    refine norm_ (a' := ?_) ?_ ?_
                    rotate_left
                    · show Act.put _ (some 50) _ = _
                      simp only [Act.put, List.setIfInBounds_toArray, List.set_cons_zero, List.set_cons_succ, i64_w, i32_w]
                      rfl
                    refine pure_ (i := 12) (N := some 51) (v := ?_) (a' := ?_) #[true, true, true, true, true, true, true, true, true, true, true, true, true, false, false] rfl rfl (any_of HT_.out (by kernel_rfl)) (fun _ _ _ h => h) (Or.inl ⟨by rfl, ?_⟩) ?_ ?_
                    rotate_left
                    · intro w'
                      go_simp
                      with_reducible rfl
                    rotate_left
                    · simp only [Act.put, List.setIfInBounds_toArray, List.set_cons_zero, List.set_cons_succ, i64_w, i32_w]
                      rfl
                    refine pure_ (i := 13) (N := some 52) (v := ?_) (a' := ?_) #[true, true, true, true, true, true, true, true, true, true, true, true, true, true, false] rfl rfl (any_of HT_.out (by kernel_rfl)) (fun _ _ _ h => h) (Or.inl ⟨by rfl, ?_⟩) ?_ ?_
                    rotate_left
                    · intro w'
                      go_simp
                      with_reducible rfl
                    rotate_left
                    · simp only [Act.put, List.setIfInBounds_toArray, List.set_cons_zero, List.set_cons_succ, i64_w, i32_w]
                      rfl
                    refine pure_ (i := 14) (N := some 4) (v := ?_) (a' := ?_) #[true, true, true, true, true, true, true, true, true, true, true, true, true, true, true] rfl rfl (any_of HT_.out (by kernel_rfl)) (fun _ _ _ h => h) (Or.inl ⟨by rfl, ?_⟩) ?_ ?_
                    rotate_left
                    · intro w'
                      go_simp
                      with_reducible rfl
                    rotate_left
                    · simp only [Act.put, List.setIfInBounds_toArray, List.set_cons_zero, List.set_cons_succ, i64_w, i32_w]
                      rfl
                    refine done_ (done_of HT_.out (by kernel_rfl)) ?_
                    try go_wp2
                    go_ret
                    exact ⟨by first | rfl | (simp [errW_none, errW_some] <;> rfl) | (simp [*, errW_none, errW_some] <;> rfl), by repeat (first | (with_reducible first | exact HB.out | apply below_alloc | apply pw_below_drewN | apply below_drew1 | refine below_set ?_ GE875.out | refine below_set ?_ GE893.out) | exact HB.out)⟩
                  · rw [if_neg c47] at H
                    exact absurd H (by simp)
            · rw [if_neg c25] at H
              exact absurd H (by simp)
          · rw [if_neg c24] at H
            exact absurd H (by simp)
  · replace c4 := Bool.eq_false_iff.mpr c4
    subst c4
    have H1 : (some false) = some r := by rw [if_neg (show ¬ (false = true) by decide)] at H; exact H
    clear H
    have H := H1
    clear H1
    subst hTrue_
    exact absurd H (by simp)
theorem letterpresslaw2_IsaKinds.walk (P : letterpresslaw2_IsaKinds.Pure) (a0 : Int) (a1 : Option Addr) (len1 cap1 : Nat) (z1 : List Int) (w : World) (hLaid_ : LaidW w) (w0 : (Lit.int .i64 a0).wf = true) (w1 : (a1 = none ∧ len1 = 0 ∧ cap1 = 0 ∧ z1 = []) ∨ ∃ x, a1 = some x ∧ len1 ≤ cap1 ∧ cap1 ≤ maxLen ∧ z1.length = cap1 ∧ (∀ i, i < z1.length → w.cell? (x.add i) = some (.int .i64 (z1.getD i 0))) ∧ ∀ n ∈ z1, (Lit.int .i64 n).wf = true) (y1 : len1 * 8 ≤ 140737488351232) :
    Calls Tryd.prog 11 #[.int .i64 a0, .slice a1 len1 cap1] w fun e w' => e = .returned (.bool true) ∧ Below w.heap.size w w' := by
  obtain ⟨l1, rfl, hr1, hm1, hw1, hc1⟩ := ReadsInt.ofRowC w1
  obtain ⟨k, h⟩ := P a0 l1 w0 hm1 y1 hw1
  refine (letterpresslaw2_IsaKinds.calls k a0 _ _ l1 true w hLaid_ rfl (Kd.C_of_reads (d := (0 : Int)) (h1 := fun _ => rfl) hr1) hc1 h).mono ?_
  rintro e w' ⟨rfl, hd⟩
  exact ⟨rfl, hd⟩
end Go.Proofs.YticofbaajdgabaaDoor.X

namespace Go.PA
open Go.RowKit Go.Proofs.YticofbaajdgabaaDoorW.PrintMore Go.Proofs.YticofbaajdgabaaDoorW.PrintWords
theorem wrap_u64 (n : Int) : IntKind.u64.wrap n = n % 18446744073709551616 := by simp [IntKind.wrap, IntKind.bits, IntKind.signed]
theorem wrap64_id {n : Int} (h0 : -9223372036854775808 ≤ n) (h1 : n < 9223372036854775808) : wrap64 n = n := by unfold wrap64; omega
theorem i64_wrap (n : Int) : IntKind.i64.wrap n = wrap64 n := by rw [IntKind.wrap_i64]; unfold wrap64; rfl
/-- 'a & (2^j - 1)', of any int. -/
theorem and_mask (a : Int) (j : Nat) (hj : j ≤ 62) : bits .and .i64 a (2 ^ j - 1) = a % 2 ^ j := by
  have hp : (1 : Int) ≤ 2 ^ j := by have := Nat.two_pow_pos j; exact_mod_cast this
  have hlt : (2 : Nat) ^ j ≤ 2 ^ 62 := Nat.pow_le_pow_right (by decide) hj
  have hc : ((2 : Int) ^ j - 1) = ((2 ^ j - 1 : Nat) : Int) := by rw [Int.natCast_sub (Nat.two_pow_pos j)]; simp
  have hnn : 0 ≤ a % 2 ^ j := Int.emod_nonneg _ (by omega)
  have hl : a % 2 ^ j < 2 ^ j := Int.emod_lt_of_pos _ (by omega)
  have hm : ((2 ^ j - 1 : Nat)) % 2 ^ 64 = 2 ^ j - 1 := Nat.mod_eq_of_lt (by have := Nat.two_pow_pos j; omega)
  have h64 : (2 : Int) ^ j ∣ 2 ^ 64 := ⟨2 ^ (64 - j), by rw [← Int.pow_add, show j + (64 - j) = 64 by omega]⟩
  rw [show bits .and .i64 a (2 ^ j - 1) = IntKind.i64.wrap ((BitVec.ofInt 64 a &&& BitVec.ofInt 64 (2 ^ j - 1)).toNat : Int) from rfl]
  rw [hc, BitVec.ofInt_natCast, BitVec.toNat_and, BitVec.toNat_ofNat, hm, BitVec.toNat_ofInt, Nat.and_two_pow_sub_one_eq_mod, i64_wrap]
  have e : (((a % ((2 ^ 64 : Nat) : Int)).toNat % 2 ^ j : Nat) : Int) = a % 2 ^ j := by
    rw [Int.natCast_emod, Int.toNat_of_nonneg (Int.emod_nonneg _ (by decide))]
    rw [show (((2 : Nat) ^ j : Nat) : Int) = 2 ^ j by simp, show (((2 : Nat) ^ 64 : Nat) : Int) = 2 ^ 64 by decide]
    exact Int.emod_emod_of_dvd a h64
  rw [e]
  have : (2 : Int) ^ j ≤ 2 ^ 62 := by exact_mod_cast hlt
  exact wrap64_id (by omega) (by omega)
theorem and15 (a : Int) : bits .and .i64 a 15 = a % 16 := and_mask a 4 (by decide)
theorem and31 (a : Int) : bits .and .i64 a 31 = a % 32 := and_mask a 5 (by decide)
theorem and255 (a : Int) : bits .and .i64 a 255 = a % 256 := and_mask a 8 (by decide)
theorem and2047 (a : Int) : bits .and .i64 a 2047 = a % 2048 := and_mask a 11 (by decide)
theorem wraps_i64 (n : Int) (h0 : 0 ≤ n) (h1 : n < 2 ^ 62) : IntKind.i64.wrap n = n := by rw [i64_wrap]; exact wrap64_id (by omega) (by omega)
/-- 'x | y' where y lies below x's lowest bit. -/
theorem or_join (i : Nat) (x y : Int) (hx0 : 0 ≤ x) (hx : x % 2 ^ i = 0) (hx1 : x < 4611686018427387904) (hy0 : 0 ≤ y) (hy : y < 2 ^ i) (hy1 : y < 4611686018427387904) : bits .or .i64 x y = x + y :=
  bits_join .i64 62 (by decide) wraps_i64 i x y hx0 hx (by omega) hy0 hy (by omega)
/-- The number that the lowest bits of v are, with a sign; m = 2 ^ bits. -/
def sg (v m : Int) : Int := (v + m / 2) % m - m / 2
theorem sg_of (v h : Int) (hh : 0 < h) : sg v (2 * h) = if v % (2 * h) ≥ h then v % (2 * h) - 2 * h else v % (2 * h) := by
  have hr0 : 0 ≤ v % (2 * h) := Int.emod_nonneg _ (by omega)
  have hr1 : v % (2 * h) < 2 * h := Int.emod_lt_of_pos _ (by omega)
  have hd := Int.emod_add_mul_ediv v (2 * h)
  unfold sg
  rw [show 2 * h / 2 = h by omega]
  generalize v % (2 * h) = r at *
  generalize v / (2 * h) = q at *
  subst hd
  by_cases c : r ≥ h
  · rw [if_pos c, show r + 2 * h * q + h = (r + h - 2 * h) + 2 * h * (q + 1) by rw [Int.mul_add]; omega, Int.add_mul_emod_self_left, Int.emod_eq_of_lt (by omega) (by omega)]; omega
  · rw [if_neg c, show r + 2 * h * q + h = (r + h) + 2 * h * q by omega, Int.add_mul_emod_self_left, Int.emod_eq_of_lt (by omega) (by omega)]; omega
theorem pow_half (b : Nat) (hb : 1 ≤ b) : (2 : Int) ^ b = 2 * 2 ^ (b - 1) := by
  obtain ⟨c, rfl⟩ : ∃ c, b = c + 1 := ⟨b - 1, by omega⟩
  rw [Int.pow_succ]; simp; omega
theorem pow_pos (b : Nat) : (0 : Int) < 2 ^ b := Int.pow_pos (by decide)
theorem pow_le {a b : Nat} (h : a ≤ b) : (2 : Int) ^ a ≤ 2 ^ b := by exact_mod_cast Nat.pow_le_pow_right (n := 2) (by decide) h
/-- imm.Sign's own way. -/
theorem sg_shift (v : Int) (b : Nat) (h1 : 1 ≤ b) (h2 : b ≤ 64) : wrap64 (v * 2 ^ (64 - b)) / 2 ^ (64 - b) = sg v (2 ^ b) := by
  have hc : (0 : Int) < 2 ^ (64 - b) := pow_pos _
  have hm : (2 : Int) ^ (64 - b) * 2 ^ b = 18446744073709551616 := by rw [← Int.pow_add, show 64 - b + b = 64 by omega]; decide
  have hh : (2 : Int) ^ b / 2 = 2 ^ (b - 1) := by rw [pow_half b h1]; omega
  have hm2 : (2 : Int) ^ (64 - b) * 2 ^ (b - 1) = 9223372036854775808 := by rw [← Int.pow_add, show 64 - b + (b - 1) = 63 by omega]; decide
  unfold wrap64 sg
  rw [hh, ← hm2, ← hm]
  generalize (2 : Int) ^ (64 - b) = c at *
  generalize (2 : Int) ^ b = m at *
  generalize (2 : Int) ^ (b - 1) = h at *
  rw [Int.mul_comm v c, ← Int.mul_add, Int.mul_emod_mul_of_pos _ _ hc, ← Int.mul_sub, Int.mul_ediv_cancel_left _ (by omega)]
/-- More rounds tell the same. -/
theorem more {α : Type} {g : Nat → Option α} (hm : ∀ k, LeO (g k) (g (k + 1))) {k k' : Nat} (h : k ≤ k') {r : α} (e : g k = some r) : g k' = some r := by
  obtain ⟨d, rfl⟩ : ∃ d, k' = k + d := ⟨k' - k, by omega⟩
  clear h
  induction d with
  | zero => exact e
  | succ d ih => exact hm _ _ ih
end Go.PA

namespace Go.Proofs.YticofbaajdgabaaDoor.X
set_option linter.unusedVariables false
set_option linter.unusedSimpArgs false
open Go.RowKit Go.PA Go.Proofs.YticofbaajdgabaaDoorW.PrintWords Go.Proofs.YticofbaajdgabaaDoorW.PrintLast Go.Proofs.YticofbaajdgabaaDoorW.PrintMore
/-- A byte's place: f 255 or 0 elsewhere. -/
def bk (f s u i : Int) : Int := if i = s then u else 255 * f
def val4 (f s u : Int) : Int := bk f s u 3 * 16777216 + bk f s u 2 * 65536 + bk f s u 1 * 256 + bk f s u 0
def B (f s u : Int) : Int := sg (val4 f s u) 4294967296
theorem bk_in {f s u : Int} (i : Int) (hf : f = 0 ∨ f = 1) (hu : 0 ≤ u ∧ u < 256) : 0 ≤ bk f s u i ∧ bk f s u i < 256 := by
  unfold bk; split <;> omega
theorem sign_is (v : Int) (b : Nat) (h1 : 1 ≤ b) (h2 : b ≤ 64) : imm_Sign.f v b = some (sg v (2 ^ b)) := by
  unfold imm_Sign.f
  have e : (64 - mn (mx (b : Int) 1) 64).toNat = 64 - b := by unfold mn mx; repeat' split <;> omega
  rw [e, sg_shift v b h1 h2]
theorem sign_is' {v c : Int} {b : Nat} (hc : c = b) (h1 : 1 ≤ b) (h2 : b ≤ 64) : imm_Sign.f v c = some (sg v (2 ^ b)) := by subst hc; exact sign_is v b h1 h2
theorem back_is {f s u : Int} (hf : f = 0 ∨ f = 1) (hs : 0 ≤ s ∧ s < 4) (hu : 0 ≤ u ∧ u < 256) {k : Nat} (hk : 5 ≤ k) : imm_Back.f k f s u = some (B f s u) := by
  refine more (imm_Back.mono f s u) hk ?_
  have hb3 := bk_in (s := s) 3 hf hu
  have hb2 := bk_in (s := s) 2 hf hu
  have hb1 := bk_in (s := s) 1 hf hu
  have hb0 := bk_in (s := s) 0 hf hu
  have step : ∀ (k : Nat) (v i j : Int), i - 1 = j → 0 ≤ i → i < 4 → 0 ≤ v → v < 16777216 → imm_Back.l0 (k + 1) f s u v i = imm_Back.l0 k f s u (v * 256 + bk f s u i) j := by
    intro k v i j hj h0 h1 hv0 hv1
    subst hj
    have hbi := bk_in (s := s) i hf hu
    have e1 : wrap64 (v * 256) = v * 256 := wrap64_id (by omega) (by omega)
    have e2 : wrap64 (i - 1) = i - 1 := wrap64_id (by omega) (by omega)
    have e3 : Go.bits .and .i64 u 255 = u := by rw [and255]; omega
    have e4 : ∀ y, 0 ≤ y → y < 256 → Go.bits .or .i64 (v * 256) y = v * 256 + y := fun y hy0 hy1 => or_join 8 _ _ (by omega) (by omega) (by omega) hy0 (by omega) (by omega)
    simp only [imm_Back.l0]
    rw [if_pos h0, e1, e2, e3]
    unfold bk at hbi ⊢
    rcases hf with rfl | rfl
    · rw [if_neg (by decide)]
      by_cases c : i = s
      · rw [if_pos c, if_pos c, e4 u hu.1 hu.2]
      · rw [if_neg c, if_neg c, e4 0 (by decide) (by decide)]; simp
    · rw [if_pos rfl]
      by_cases c : i = s
      · rw [if_pos c, if_pos c, e4 u hu.1 hu.2]
      · rw [if_neg c, if_neg c, e4 255 (by decide) (by decide)]; simp
  unfold imm_Back.f
  rw [step 4 0 3 2 rfl (by omega) (by omega) (by omega) (by omega), step 3 _ 2 1 rfl (by omega) (by omega) (by omega) (by omega), step 2 _ 1 0 rfl (by omega) (by omega) (by omega) (by omega), step 1 _ 0 (-1) rfl (by omega) (by omega) (by omega) (by omega)]
  simp only [imm_Back.l0]
  rw [if_neg (by decide), sign_is' (c := 32) (b := 32) rfl (by decide) (by decide)]
  simp only [Option.bind_some, B, val4]
  congr 2
  omega
theorem rsign_is (v : Int) (b : Nat) (h1 : 1 ≤ b) (h2 : b ≤ 61) : letterpressref1_Sign.f v b = some (sg v (2 ^ b)) := by
  unfold letterpressref1_Sign.f
  have hp := pow_pos (b - 1)
  have hle : (2 : Int) ^ (b - 1) ≤ 2 ^ 60 := pow_le (by omega)
  have e0 : IntKind.u64.wrap (b : Int) = b := by rw [wrap_u64]; omega
  have e1 : shl .i64 1 (b : Int) = 2 ^ b := by
    unfold shl
    rw [show min ((b : Int).toNat) IntKind.i64.bits = b by simp [IntKind.bits]; omega, i64_wrap, Int.one_mul]
    have := pow_half b h1
    exact wrap64_id (by omega) (by omega)
  rw [e0, e1, if_pos (by omega)]
  have e2 : wrap64 ((2 : Int) ^ b - 1) = 2 ^ b - 1 := by have := pow_half b h1; exact wrap64_id (by omega) (by omega)
  have e3 : wrap64 (Int.tdiv ((2 : Int) ^ b) 2) = 2 ^ (b - 1) := by
    rw [pow_half b h1, Int.tdiv_eq_ediv_of_nonneg (by omega), show 2 * (2 : Int) ^ (b - 1) / 2 = 2 ^ (b - 1) by omega]
    exact wrap64_id (by omega) (by omega)
  rw [e2, e3, and_mask v b (by omega), pow_half b h1, sg_of v _ hp]
  have hr0 : 0 ≤ v % (2 * 2 ^ (b - 1)) := Int.emod_nonneg _ (by omega)
  have hr1 : v % (2 * 2 ^ (b - 1)) < 2 * 2 ^ (b - 1) := Int.emod_lt_of_pos _ (by omega)
  split
  · rw [wrap64_id (by omega) (by omega)]
  · rfl
theorem rsign_is' {v c : Int} {b : Nat} (hc : c = b) (h1 : 1 ≤ b) (h2 : b ≤ 61) : letterpressref1_Sign.f v c = some (sg v (2 ^ b)) := by subst hc; exact rsign_is v b h1 h2
theorem rback_is {f s u : Int} (hf : f = 0 ∨ f = 1) (hs : 0 ≤ s ∧ s < 4) (hu : 0 ≤ u ∧ u < 256) {k : Nat} (hk : 5 ≤ k) : letterpressref1_Back.f k f s u = some (B f s u) := by
  refine more (letterpressref1_Back.mono f s u) hk ?_
  have step : ∀ (k : Nat) (v i j : Int), i - 1 = j → 0 ≤ i → i < 4 → 0 ≤ v → v < 16777216 → letterpressref1_Back.l0 (k + 1) f s u v i = letterpressref1_Back.l0 k f s u (v * 256 + bk f s u i) j := by
    intro k v i j hj h0 h1 hv0 hv1
    subst hj
    have hbi := bk_in (s := s) i hf hu
    have e1 : wrap64 (v * 256) = v * 256 := wrap64_id (by omega) (by omega)
    have e2 : wrap64 (i - 1) = i - 1 := wrap64_id (by omega) (by omega)
    have e3 : wrap64 (255 * f) = 255 * f := wrap64_id (by omega) (by omega)
    have e4 : wrap64 (f * 255) = 255 * f := by rw [Int.mul_comm]; exact e3
    simp only [letterpressref1_Back.l0]
    rw [if_pos h0, e1, e2]
    unfold bk at hbi ⊢
    by_cases c : i = s
    · rw [if_pos c, if_pos c, wrap64_id (by omega) (by omega)]
    · rw [if_neg c, if_neg c]
      first | rw [e3] | rw [e4]
      rw [wrap64_id (by omega) (by omega)]
  have hb3 := bk_in (s := s) 3 hf hu
  have hb2 := bk_in (s := s) 2 hf hu
  have hb1 := bk_in (s := s) 1 hf hu
  have hb0 := bk_in (s := s) 0 hf hu
  unfold letterpressref1_Back.f
  rw [step 4 0 3 2 rfl (by omega) (by omega) (by omega) (by omega), step 3 _ 2 1 rfl (by omega) (by omega) (by omega) (by omega), step 2 _ 1 0 rfl (by omega) (by omega) (by omega) (by omega), step 1 _ 0 (-1) rfl (by omega) (by omega) (by omega) (by omega)]
  simp only [letterpressref1_Back.l0]
  rw [if_neg (by decide), rsign_is' (c := 32) (b := 32) rfl (by decide) (by decide)]
  simp only [Option.bind_some, B, val4]
  congr 2
  omega
/-- The byte of v that could stand at place s. -/
def u0 (v s : Int) : Int := v / 2 ^ (8 * s).toNat % 256
theorem u0_in (v s : Int) : 0 ≤ u0 v s ∧ u0 v s < 256 := by unfold u0; omega
theorem B_inj {f s u v : Int} (hf : f = 0 ∨ f = 1) (hs : 0 ≤ s ∧ s < 4) (hu : 0 ≤ u ∧ u < 256) (h : B f s u = v) : u = u0 v s := by
  have hs' : s = 0 ∨ s = 1 ∨ s = 2 ∨ s = 3 := by omega
  unfold B val4 bk sg at h
  unfold u0
  rcases hs' with rfl | rfl | rfl | rfl <;> rcases hf with rfl | rfl <;> simp at h ⊢ <;> omega
theorem B_wide {f s u : Int} : -2147483648 ≤ B f s u ∧ B f s u < 2147483648 := by unfold B sg; omega
/-- A byte for v by this way of standing; -1: none. -/
def fnd (v f s : Int) : Int := if B f s (u0 v s) = v then u0 v s else -1
theorem found_l (v : Int) {f s : Int} (hf : f = 0 ∨ f = 1) (hs : 0 ≤ s ∧ s < 4) : ∀ (d k : Nat) (x : Int), 0 ≤ x → x + d = 256 → d + 6 ≤ k →
    imm_found__imm_form_of.l0 k v x f s = some (if B f s (u0 v s) = v ∧ x ≤ u0 v s then u0 v s else -1) := by
  have hin := u0_in v s
  intro d
  induction d with
  | zero =>
    intro k x h0 hx hk
    obtain ⟨k, rfl⟩ : ∃ m, k = m + 1 := ⟨k - 1, by omega⟩
    simp only [imm_found__imm_form_of.l0]
    rw [if_neg (by omega), if_neg (by omega)]
  | succ d ih =>
    intro k x h0 hx hk
    obtain ⟨k, rfl⟩ : ∃ m, k = m + 1 := ⟨k - 1, by omega⟩
    simp only [imm_found__imm_form_of.l0, imm_form_of.f]
    rw [if_pos (by omega), back_is hf hs ⟨h0, by omega⟩ (by omega)]
    simp only [Option.bind_some]
    by_cases c : B f s x = v
    · have := B_inj hf hs ⟨h0, by omega⟩ c
      rw [if_pos c, ← this, if_pos ⟨c, Int.le_refl _⟩]
    · rw [if_neg c, wrap64_id (by omega) (by omega), ih k (x + 1) (by omega) (by omega) (by omega)]
      congr 1
      by_cases c2 : B f s (u0 v s) = v ∧ x + 1 ≤ u0 v s
      · rw [if_pos c2, if_pos ⟨c2.1, by omega⟩]
      · rw [if_neg c2, if_neg]
        rintro ⟨a, b⟩
        by_cases e : x = u0 v s
        · rw [← e] at a; exact c a
        · exact c2 ⟨a, by omega⟩
theorem found_is (v : Int) {f s : Int} (hf : f = 0 ∨ f = 1) (hs : 0 ≤ s ∧ s < 4) {k : Nat} (hk : 262 ≤ k) : imm_found__imm_form_of.f k v f s = some (fnd v f s) := by
  unfold imm_found__imm_form_of.f fnd
  rw [found_l v hf hs 256 k 0 (by decide) (by decide) (by omega)]
  have := u0_in v s
  congr 1
  by_cases c : B f s (u0 v s) = v
  · rw [if_pos ⟨c, this.1⟩, if_pos c]
  · rw [if_neg (fun h => c h.1), if_neg c]
/-- The ways, the first first. -/
def ways : List (Int × Int) := [(0, 0), (0, 1), (0, 2), (0, 3), (1, 0), (1, 1), (1, 2), (1, 3)]
def firstOf (v : Int) : List (Int × Int) → Int × Int × Int × Bool
  | [] => (0, 0, 0, false)
  | (f, s) :: l => if B f s (u0 v s) = v then (f, s, u0 v s, true) else firstOf v l
/-- What Sci8 tells. -/
def sci8 (v : Int) : Int × Int × Int × Bool := firstOf v ways
theorem sci8_is (v : Int) {k : Nat} (hk : 300 ≤ k) : imm_Sci8.f k v = some (sci8 v) := by
  refine more (imm_Sci8.mono v) hk ?_
  have step : ∀ (k : Nat) (i : Nat) (f s : Int) (rest : List (Int × Int)), 262 ≤ k → i < 8 → (f = 0 ∨ f = 1) → (0 ≤ s ∧ s < 4) →
      (rd_T110 [⟨0, 0⟩, ⟨0, 1⟩, ⟨0, 2⟩, ⟨0, 3⟩, ⟨1, 0⟩, ⟨1, 1⟩, ⟨1, 2⟩, ⟨1, 3⟩] (i : Int)).f0 = f → (rd_T110 [⟨0, 0⟩, ⟨0, 1⟩, ⟨0, 2⟩, ⟨0, 3⟩, ⟨1, 0⟩, ⟨1, 1⟩, ⟨1, 2⟩, ⟨1, 3⟩] (i : Int)).f1 = s →
      imm_Sci8.l0 k v [⟨0, 0⟩, ⟨0, 1⟩, ⟨0, 2⟩, ⟨0, 3⟩, ⟨1, 0⟩, ⟨1, 1⟩, ⟨1, 2⟩, ⟨1, 3⟩] 8 ((i : Int) + 1) = some (firstOf v rest) →
      imm_Sci8.l0 (k + 1) v [⟨0, 0⟩, ⟨0, 1⟩, ⟨0, 2⟩, ⟨0, 3⟩, ⟨1, 0⟩, ⟨1, 1⟩, ⟨1, 2⟩, ⟨1, 3⟩] 8 (i : Int) = some (firstOf v ((f, s) :: rest)) := by
    intro k i f s rest hk hi hf hs e1 e2 ih
    simp only [imm_Sci8.l0]
    rw [if_pos (by omega), if_pos (by omega), if_pos (by simp; omega), e1, e2, found_is v hf hs hk]
    simp only [Option.bind_some]
    have hin := u0_in v s
    unfold fnd
    simp only [firstOf]
    by_cases c : B f s (u0 v s) = v
    · rw [if_pos c, if_pos hin.1, if_pos c]
    · rw [if_neg c, if_neg (by decide), if_neg c, wrap64_id (by omega) (by omega), ih]
  have hend : ∀ k : Nat, imm_Sci8.l0 (k + 1) v [⟨0, 0⟩, ⟨0, 1⟩, ⟨0, 2⟩, ⟨0, 3⟩, ⟨1, 0⟩, ⟨1, 1⟩, ⟨1, 2⟩, ⟨1, 3⟩] 8 (((7 : Nat) : Int) + 1) = some (firstOf v []) := by
    intro k
    simp only [imm_Sci8.l0]
    rw [if_neg (by decide)]
    rfl
  unfold imm_Sci8.f imm_forms.f
  simp only [Option.bind_some]
  refine step 299 0 0 0 _ (by decide) (by decide) (.inl rfl) (by decide) rfl rfl ?_
  refine step 298 1 0 1 _ (by decide) (by decide) (.inl rfl) (by decide) rfl rfl ?_
  refine step 297 2 0 2 _ (by decide) (by decide) (.inl rfl) (by decide) rfl rfl ?_
  refine step 296 3 0 3 _ (by decide) (by decide) (.inl rfl) (by decide) rfl rfl ?_
  refine step 295 4 1 0 _ (by decide) (by decide) (.inr rfl) (by decide) rfl rfl ?_
  refine step 294 5 1 1 _ (by decide) (by decide) (.inr rfl) (by decide) rfl rfl ?_
  refine step 293 6 1 2 _ (by decide) (by decide) (.inr rfl) (by decide) rfl rfl ?_
  refine step 292 7 1 3 [] (by decide) (by decide) (.inr rfl) (by decide) rfl rfl ?_
  exact hend 291
theorem fits_is (v c : Int) (b : Nat) (hc : c = b) (h1 : 1 ≤ b) (h2 : b ≤ 41) : imm_Fits.f v c = some (decide (-(2 ^ (b - 1)) ≤ v ∧ v < 2 ^ (b - 1))) := by
  subst hc
  unfold imm_Fits.f
  rw [if_pos (by omega), if_pos (by omega), show ((b : Int) - 1).toNat = b - 1 by omega]
theorem joined_is {h m l : Int} (h0 : 0 ≤ h ∧ h < 16) (h1 : 0 ≤ m ∧ m < 32) (h2 : 0 ≤ l ∧ l < 2048) : imm_Joined.f h m l = some (sg (h * 65536 + m * 2048 + l) 1048576) := by
  unfold imm_Joined.f
  rw [wrap64_id (by omega) (by omega), wrap64_id (by omega) (by omega), or_join 16 (h * 65536) (m * 2048) (by omega) (by omega) (by omega) (by omega) (by omega) (by omega), or_join 11 (h * 65536 + m * 2048) l (by omega) (by omega) (by omega) (by omega) (by omega) (by omega), sign_is' (c := 20) (b := 20) rfl (by decide) (by decide)]
  rfl
end Go.Proofs.YticofbaajdgabaaDoor.X

namespace Go.Proofs.YticofbaajdgabaaDoor.X
set_option linter.unusedVariables false
set_option linter.unusedSimpArgs false
open Go.RowKit Go.PA Go.Proofs.YticofbaajdgabaaDoorW.PrintWords Go.Proofs.YticofbaajdgabaaDoorW.PrintLast Go.Proofs.YticofbaajdgabaaDoorW.PrintMore
/-- What Sci8 tells comes back. -/
theorem firstOf_back (v : Int) : ∀ l : List (Int × Int), (∀ p ∈ l, (p.1 = 0 ∨ p.1 = 1) ∧ 0 ≤ p.2 ∧ p.2 < 4) → (firstOf v l).2.2.2 = true →
    ((firstOf v l).1 = 0 ∨ (firstOf v l).1 = 1) ∧ (0 ≤ (firstOf v l).2.1 ∧ (firstOf v l).2.1 < 4) ∧ (0 ≤ (firstOf v l).2.2.1 ∧ (firstOf v l).2.2.1 < 256) ∧ B (firstOf v l).1 (firstOf v l).2.1 (firstOf v l).2.2.1 = v := by
  intro l
  induction l with
  | nil => intro _ h; cases h
  | cons p l ih =>
    intro hl h
    obtain ⟨f, s⟩ := p
    have hp := hl (f, s) (by simp)
    simp only [firstOf] at h ⊢
    by_cases c : B f s (u0 v s) = v
    · rw [if_pos c]
      exact ⟨hp.1, hp.2, u0_in v s, c⟩
    · rw [if_neg c] at h ⊢
      exact ih (fun p hp => hl p (by simp [hp])) h
theorem sci8_back (v : Int) (h : (sci8 v).2.2.2 = true) : ((sci8 v).1 = 0 ∨ (sci8 v).1 = 1) ∧ (0 ≤ (sci8 v).2.1 ∧ (sci8 v).2.1 < 4) ∧ (0 ≤ (sci8 v).2.2.1 ∧ (sci8 v).2.2.1 < 256) ∧ B (sci8 v).1 (sci8 v).2.1 (sci8 v).2.2.1 = v :=
  firstOf_back v ways (by decide) h
end Go.Proofs.YticofbaajdgabaaDoor.X

namespace Go.Proofs.YticofbaajdgabaaDoor.X
set_option linter.unusedVariables false
set_option linter.unusedSimpArgs false
open Go.RowKit Go.PA Go.Proofs.YticofbaajdgabaaDoorW.PrintWords Go.Proofs.YticofbaajdgabaaDoorW.PrintLast Go.Proofs.YticofbaajdgabaaDoorW.PrintMore
inductive Kn where
  | X | Y | U5 | U7 | O5 | M1 | M2 | M4 | O1 | I2 | T8 | D | A | B | S16 | L20 | C8 | O2 | I4 | T15 | T24
  deriving DecidableEq, Repr
def Kn.str : Kn → ByteArray
  | X => ⟨#[88]⟩ | Y => ⟨#[89]⟩ | U5 => ⟨#[85, 53]⟩ | U7 => ⟨#[85, 55]⟩ | O5 => ⟨#[79, 53]⟩ | M1 => ⟨#[77, 49]⟩ | M2 => ⟨#[77, 50]⟩ | M4 => ⟨#[77, 52]⟩ | O1 => ⟨#[79, 49]⟩ | I2 => ⟨#[73, 50]⟩ | T8 => ⟨#[84, 56]⟩
  | D => ⟨#[68]⟩ | A => ⟨#[65]⟩ | B => ⟨#[66]⟩ | S16 => ⟨#[83, 49, 54]⟩ | L20 => ⟨#[76, 50, 48]⟩ | C8 => ⟨#[67, 56]⟩ | O2 => ⟨#[79, 50]⟩ | I4 => ⟨#[73, 52]⟩ | T15 => ⟨#[84, 49, 53]⟩ | T24 => ⟨#[84, 50, 52]⟩
/-- What may be. -/
def Kn.ok : Kn → Int → Bool
  | X, v | Y, v => decide (0 ≤ v ∧ v ≤ 7 ∨ 24 ≤ v ∧ v ≤ 31)
  | U5, v | D, v | A, v | B, v => decide (0 ≤ v ∧ v < 32)
  | U7, v => decide (0 ≤ v ∧ v < 128)
  | O5, v => decide (1 ≤ v ∧ v < 33)
  | M1, v | I4, v => decide (0 ≤ v ∧ v < 16)
  | M2, v => decide (0 ≤ v ∧ v < 32 ∧ v % 2 = 0)
  | M4, v => decide (0 ≤ v ∧ v < 64 ∧ v % 4 = 0)
  | O1, v => decide (0 ≤ v ∧ v < 2)
  | I2, v | O2, v => decide (0 ≤ v ∧ v < 4)
  | T8, v => decide (v % 2 = 0 ∧ -256 ≤ v ∧ v < 256)
  | S16, v => decide (-32768 ≤ v ∧ v < 32768)
  | L20, v => decide (-524288 ≤ v ∧ v < 524288)
  | C8, v => (sci8 v).2.2.2
  | T15, v => decide (v % 2 = 0 ∧ -32768 ≤ v ∧ v < 32768)
  | T24, v => decide (v % 2 = 0 ∧ -16777216 ≤ v ∧ v < 16777216)
/-- Its bits. -/
def Kn.bit : Kn → Int → Int
  | X, v => v - v / 24 * 16
  | Y, v => (v - v / 24 * 16) * 16
  | U5, v | U7, v => v * 16
  | O5, v => (v - 1) * 16
  | M1, v | I2, v => v * 256
  | M2, v => v / 2 * 256
  | M4, v => v / 4 * 256
  | O1, v => v * 1024
  | T8, v => v / 2 % 256
  | D, v => v * 2097152
  | A, v | I4, v => v * 65536
  | B, v => v * 2048
  | S16, v | T15, v => v % 65536
  | T24, v => v % 33554432
  | O2, v => v * 1048576
  | L20, v => v / 65536 % 16 * 2048 + v / 2048 % 32 * 65536 + v % 2048
  | C8, v => (sci8 v).1 * 1024 + (sci8 v).2.1 * 256 + (sci8 v).2.2.1
/-- The operand that bits have. -/
def Kn.val : Kn → Int → Int
  | X, n => n % 16 + n % 16 / 8 * 16
  | Y, n => n / 16 % 16 + n / 16 % 16 / 8 * 16
  | U5, n => n / 16 % 32
  | U7, n => n / 16 % 128
  | O5, n => n / 16 % 32 + 1
  | M1, n => n / 256 % 16
  | M2, n => n / 256 % 16 * 2
  | M4, n => n / 256 % 16 * 4
  | O1, n => n / 1024 % 2
  | I2, n => n / 256 % 4
  | T8, n => 2 * sg n 256
  | D, n => n / 2097152 % 32
  | A, n => n / 65536 % 32
  | B, n => n / 2048 % 32
  | S16, n => sg n 65536
  | L20, n => sg (n / 2048 % 16 * 65536 + n / 65536 % 32 * 2048 + n % 2048) 1048576
  | C8, n => Go.Proofs.YticofbaajdgabaaDoor.X.B (n / 1024 % 2) (n / 256 % 4) (n % 256)
  | O2, n => n / 1048576 % 4
  | I4, n => n / 65536 % 16
  | T15, n => sg (n / 2 * 2) 65536
  | T24, n => sg (n / 2 * 2) 33554432
theorem shl_u32 {x : Int} {n : Int} {m : Nat} (hm : n = m) (h2 : m ≤ 31) : shl .u32 x n = x * 2 ^ m % 4294967296 := by
  subst hm
  unfold shl
  rw [show min ((m : Int).toNat) IntKind.u32.bits = m by simp [IntKind.bits]; omega, IntKind.wrap_u32]
theorem shl_i64 {x : Int} {n : Int} {m : Nat} (hm : n = m) (h2 : m ≤ 63) : shl .i64 x n = wrap64 (x * 2 ^ m) := by
  subst hm
  unfold shl
  rw [show min ((m : Int).toNat) IntKind.i64.bits = m by simp [IntKind.bits]; omega, i64_wrap]
theorem shr_u32 {x : Int} {n : Int} {m : Nat} (hm : n = m) (h2 : m ≤ 31) : shr .u32 x n = x / 2 ^ m := by
  subst hm
  unfold shr
  rw [show min ((m : Int).toNat) IntKind.u32.bits = m by simp [IntKind.bits]; omega]
theorem and_mask_u32 (a : Int) (j : Nat) (hj : j ≤ 31) (h0 : 0 ≤ a) (h1 : a < 4294967296) : Go.bits .and .u32 a (2 ^ j - 1) = a % 2 ^ j :=
  bits_mask .u32 32 (by decide) (fun n h0 h1 => by rw [IntKind.wrap_u32]; omega) j (by omega) a h0 (by omega)
/-- A plain field's way. -/
theorem plain_put {at_ bits less : Nat} {step v : Int} {ha bb ll : Int} (e1 : ha = at_) (e2 : bb = bits) (e3 : ll = less) (hs : step = 1 ∨ step = 2 ∨ step = 4) (hb : 1 ≤ bits ∧ bits ≤ 7) (hab : at_ + bits ≤ 26) (hl : less ≤ 1) (w0 : -9223372036854775808 ≤ v ∧ v < 9223372036854775808) :
    isa_plain_put.f ha bb step ll v = some (if (less : Int) ≤ v ∧ v - less < step * 2 ^ bits ∧ (v - less) % step = 0 then ((v - less) / step * 2 ^ at_, true) else (0, false)) := by
  subst e1 e2 e3
  have hp : (1 : Int) ≤ 2 ^ bits ∧ (2 : Int) ^ bits ≤ 128 := ⟨by have := pow_pos bits; omega, by have := pow_le (a := bits) (b := 7) (by omega); omega⟩
  have hq : (1 : Int) ≤ 2 ^ at_ := by have := pow_pos at_; omega
  have hpq : (2 : Int) ^ bits * 2 ^ at_ ≤ 67108864 := by rw [← Int.pow_add]; have := pow_le (a := bits + at_) (b := 26) (by omega); omega
  unfold isa_plain_put.f
  by_cases c1 : v < less
  · rw [if_pos c1, if_neg (by omega)]
  · rw [if_neg c1, if_pos (by omega), wrap64_id (n := v - less) (by omega) (by omega), shl_i64 rfl (by omega)]
    have es : wrap64 (step * 2 ^ bits) = step * 2 ^ bits := by
      rcases hs with rfl | rfl | rfl <;> exact wrap64_id (by omega) (by omega)
    rw [es]
    have hn : 0 ≤ v - less := by omega
    generalize v - less = u at *
    have et : Int.tmod u step = u % step := Int.tmod_eq_emod_of_nonneg hn
    have ed : Int.tdiv u step = u / step := Int.tdiv_eq_ediv_of_nonneg hn
    by_cases c2 : u ≥ step * 2 ^ bits
    · rw [if_pos c2, if_neg (by omega)]
    · rw [if_neg c2, if_neg (by omega), et, ed]
      by_cases c3 : u % step = 0
      · have hu : 0 ≤ u / step ∧ u / step < 2 ^ bits := by
          have hst : 0 < step := by omega
          exact ⟨Int.ediv_nonneg hn (by omega), Int.ediv_lt_of_lt_mul hst (by rw [Int.mul_comm]; omega)⟩
        rw [if_pos c3, if_pos (by omega), if_pos ⟨by omega, by omega, c3⟩, shl_u32 rfl (by omega), wrap64_id (by omega) (by omega)]
        have e4 : u / step % 4294967296 = u / step := Int.emod_eq_of_lt hu.1 (by omega)
        have hm : u / step * 2 ^ at_ < 2 ^ bits * 2 ^ at_ := Int.mul_lt_mul_of_pos_right hu.2 (by omega)
        have hm0 : 0 ≤ u / step * 2 ^ at_ := Int.mul_nonneg hu.1 (by omega)
        rw [e4, Int.emod_eq_of_lt hm0 (by omega)]
      · rw [if_neg c3, if_neg (fun h => c3 h.2.2)]
theorem plain_get {at_ bits less : Nat} {step n : Int} {ha bb ll : Int} (e1 : ha = at_) (e2 : bb = bits) (e3 : ll = less) (hs : step = 1 ∨ step = 2 ∨ step = 4) (hb : 1 ≤ bits ∧ bits ≤ 7) (hab : at_ + bits ≤ 26) (hl : less ≤ 1) (w0 : 0 ≤ n ∧ n < 4294967296) :
    isa_plain_get.f ha bb step ll n = some (n / 2 ^ at_ % 2 ^ bits * step + less) := by
  subst e1 e2 e3
  have hp : (1 : Int) ≤ 2 ^ bits ∧ (2 : Int) ^ bits ≤ 128 := ⟨by have := pow_pos bits; omega, by have := pow_le (a := bits) (b := 7) (by omega); omega⟩
  have hq : (0 : Int) < 2 ^ at_ := pow_pos at_
  unfold isa_plain_get.f
  rw [if_pos (by omega), if_pos (by omega), shr_u32 rfl (by omega), shl_u32 rfl (by omega), Int.one_mul]
  have e4 : ((2 : Int) ^ bits % 4294967296 - 1) % 4294967296 = 2 ^ bits - 1 := by omega
  have h5 : 0 ≤ n / 2 ^ at_ := Int.ediv_nonneg w0.1 (by omega)
  have h6 : n / 2 ^ at_ ≤ n := Int.ediv_le_self _ w0.1
  rw [e4, and_mask_u32 _ bits (by omega) h5 (by omega)]
  have h7 : 0 ≤ n / 2 ^ at_ % 2 ^ bits := Int.emod_nonneg _ (by omega)
  have h8 : n / 2 ^ at_ % 2 ^ bits < 2 ^ bits := Int.emod_lt_of_pos _ (by omega)
  generalize n / 2 ^ at_ % 2 ^ bits = u at *
  rw [wrap64_id (n := u) (by omega) (by omega)]
  rcases hs with rfl | rfl | rfl
  · rw [wrap64_id (n := u * 1) (by omega) (by omega), wrap64_id (n := u * 1 + less) (by omega) (by omega)]
  · rw [wrap64_id (n := u * 2) (by omega) (by omega), wrap64_id (n := u * 2 + less) (by omega) (by omega)]
  · rw [wrap64_id (n := u * 4) (by omega) (by omega), wrap64_id (n := u * 4 + less) (by omega) (by omega)]
theorem put_plain (K : Kn) (at_ bits less : Nat) (step v : Int) (hpl : isa_plains.f K.str = some ((at_ : Int), (bits : Int), step, (less : Int), true)) (hs : step = 1 ∨ step = 2 ∨ step = 4) (hb : 1 ≤ bits ∧ bits ≤ 7) (hab : at_ + bits ≤ 26) (hl : less ≤ 1)
    (hok : K.ok v = true ↔ ((less : Int) ≤ v ∧ v - less < step * 2 ^ bits ∧ (v - less) % step = 0)) (hbit : K.ok v = true → (v - less) / step * 2 ^ at_ = K.bit v) (w0 : -9223372036854775808 ≤ v ∧ v < 9223372036854775808) (k : Nat) :
    ∃ g, isa_put.f k K.str v = some (g, K.ok v) ∧ (K.ok v = true → g = K.bit v) := by
  unfold isa_put.f
  rw [hpl]
  simp only [Option.bind_some, if_true]
  rw [plain_put rfl rfl rfl hs hb hab hl w0]
  by_cases c : (less : Int) ≤ v ∧ v - less < step * 2 ^ bits ∧ (v - less) % step = 0
  · rw [if_pos c]
    exact ⟨_, by rw [hok.2 c]; rfl, hbit⟩
  · rw [if_neg c]
    have e : K.ok v = false := Bool.eq_false_iff.2 (fun h => c (hok.1 h))
    exact ⟨0, by rw [e]; rfl, fun h => by rw [e] at h; cases h⟩
theorem get_plain (K : Kn) (at_ bits less : Nat) (step n : Int) (hpl : isa_plains.f K.str = some ((at_ : Int), (bits : Int), step, (less : Int), true)) (hs : step = 1 ∨ step = 2 ∨ step = 4) (hb : 1 ≤ bits ∧ bits ≤ 7) (hab : at_ + bits ≤ 26) (hl : less ≤ 1)
    (hv : n / 2 ^ at_ % 2 ^ bits * step + less = K.val n) (w0 : 0 ≤ n ∧ n < 4294967296) (k : Nat) : isa_get.f k K.str n = some (K.val n) := by
  unfold isa_get.f
  rw [hpl]
  simp only [Option.bind_some, if_true]
  rw [plain_get rfl rfl rfl hs hb hab hl w0, Option.bind_some, hv]
theorem or3 (a b c : Int) (ha : 0 ≤ a ∧ a < 16) (hb : 0 ≤ b ∧ b < 32) (hc : 0 ≤ c ∧ c < 2048) : Go.bits .or .i64 (Go.bits .or .i64 (a * 2048) (b * 65536)) c = a * 2048 + b * 65536 + c := by
  have e1 : Go.bits .or .i64 (a * 2048) (b * 65536) = b * 65536 + a * 2048 := by
    have h := or_join 16 (b * 65536) (a * 2048) (by omega) (by omega) (by omega) (by omega) (by omega) (by omega)
    have hx : Go.bits .or .i64 (a * 2048) (b * 65536) = Go.bits .or .i64 (b * 65536) (a * 2048) := by
      unfold Go.bits; simp only [BitVec.or_comm]
    rw [hx, h]
  rw [e1, or_join 11 _ _ (by omega) (by omega) (by omega) (by omega) (by omega) (by omega)]
  omega
theorem or3c (f s u : Int) (hf : f = 0 ∨ f = 1) (hs : 0 ≤ s ∧ s < 4) (hu : 0 ≤ u ∧ u < 256) : Go.bits .or .i64 (Go.bits .or .i64 (f * 1024) (s * 256)) u = f * 1024 + s * 256 + u := by
  rw [or_join 10 (f * 1024) (s * 256) (by omega) (by omega) (by omega) (by omega) (by omega) (by omega), or_join 8 _ _ (by omega) (by omega) (by omega) (by omega) (by omega) (by omega)]
theorem tmod2 (v : Int) : Int.tmod v 2 = 0 ↔ v % 2 = 0 := by
  rw [Int.tmod_eq_emod]; split <;> omega
/-- An even number's way. -/
theorem put_even (K : Kn) (w : Nat) (v : Int) (hpl : isa_plains.f K.str = some ((0 : Int), (0 : Int), 0, (0 : Int), false))
    (hn : K.str.toList ≠ [88] ∧ K.str.toList ≠ [89] ∧ K.str.toList ≠ [76, 50, 48] ∧ K.str.toList ≠ [67, 56] ∧ K.str.toList ≠ [83, 49, 54])
    (hw : isa_wide.f K.str = some (w : Int)) (h1 : 1 ≤ w) (h2 : w ≤ 32) (hok : K.ok v = decide (v % 2 = 0 ∧ -(2 ^ (w - 1)) ≤ v ∧ v < 2 ^ (w - 1)))
    (hg : K.ok v = true → ∀ k, isa_put.j1 (k + 1) K.str v false = some (K.bit v, true)) (k : Nat) (hk : 310 ≤ k) :
    ∃ g, isa_put.f k K.str v = some (g, K.ok v) ∧ (K.ok v = true → g = K.bit v) := by
  obtain ⟨k, rfl⟩ : ∃ m, k = m + 2 := ⟨k - 2, by omega⟩
  obtain ⟨n1, n2, n3, n4, n5⟩ := hn
  have e89 : (K.str.toList == ([89] : List UInt8)) = false := by simp [n2]
  unfold isa_put.f
  rw [hpl, Option.bind_some, if_neg (by decide), if_neg n1, e89]
  simp only [isa_put.j0]
  rw [if_neg (by decide), if_neg n3, if_neg n4, if_neg n5]
  by_cases c : v % 2 = 0
  · rw [if_pos ((tmod2 v).2 c), hw, Option.bind_some, fits_is v w w rfl h1 (by omega), Option.bind_some]
    by_cases d : -(2 ^ (w - 1)) ≤ v ∧ v < 2 ^ (w - 1)
    · have e : K.ok v = true := by rw [hok]; exact decide_eq_true ⟨c, d⟩
      rw [decide_eq_true d, e]
      exact ⟨_, hg e k, fun _ => rfl⟩
    · have e : K.ok v = false := by rw [hok]; exact decide_eq_false (fun h => d h.2)
      rw [decide_eq_false d, e]
      exact ⟨0, by simp only [Bool.not_false, isa_put.j1, if_true], fun h => by cases h⟩
  · have e : K.ok v = false := by rw [hok]; exact decide_eq_false (fun h => c h.1)
    rw [if_neg (fun h => c ((tmod2 v).1 h)), e]
    exact ⟨0, by simp only [isa_put.j1, if_true], fun h => by cases h⟩
/-- An operand's bits, and whether it may be, by the program. -/
theorem put_is (K : Kn) (v : Int) (w0 : -9223372036854775808 ≤ v ∧ v < 9223372036854775808) {k : Nat} (hk : 310 ≤ k) :
    ∃ g, isa_put.f k K.str v = some (g, K.ok v) ∧ (K.ok v = true → g = K.bit v) := by
  cases K
  case U5 => exact put_plain .U5 4 5 0 1 v (by decide +kernel) (by decide) (by decide) (by decide) (by decide) (by simp only [Kn.ok, decide_eq_true_eq]; omega) (by simp only [Kn.ok, Kn.bit, decide_eq_true_eq]; omega) w0 k
  case U7 => exact put_plain .U7 4 7 0 1 v (by decide +kernel) (by decide) (by decide) (by decide) (by decide) (by simp only [Kn.ok, decide_eq_true_eq]; omega) (by simp only [Kn.ok, Kn.bit, decide_eq_true_eq]; omega) w0 k
  case O5 => exact put_plain .O5 4 5 1 1 v (by decide +kernel) (by decide) (by decide) (by decide) (by decide) (by simp only [Kn.ok, decide_eq_true_eq]; omega) (by simp only [Kn.ok, Kn.bit, decide_eq_true_eq]; omega) w0 k
  case M1 => exact put_plain .M1 8 4 0 1 v (by decide +kernel) (by decide) (by decide) (by decide) (by decide) (by simp only [Kn.ok, decide_eq_true_eq]; omega) (by simp only [Kn.ok, Kn.bit, decide_eq_true_eq]; omega) w0 k
  case M2 => exact put_plain .M2 8 4 0 2 v (by decide +kernel) (by decide) (by decide) (by decide) (by decide) (by simp only [Kn.ok, decide_eq_true_eq]; omega) (by simp only [Kn.ok, Kn.bit, decide_eq_true_eq]; omega) w0 k
  case M4 => exact put_plain .M4 8 4 0 4 v (by decide +kernel) (by decide) (by decide) (by decide) (by decide) (by simp only [Kn.ok, decide_eq_true_eq]; omega) (by simp only [Kn.ok, Kn.bit, decide_eq_true_eq]; omega) w0 k
  case O1 => exact put_plain .O1 10 1 0 1 v (by decide +kernel) (by decide) (by decide) (by decide) (by decide) (by simp only [Kn.ok, decide_eq_true_eq]; omega) (by simp only [Kn.ok, Kn.bit, decide_eq_true_eq]; omega) w0 k
  case I2 => exact put_plain .I2 8 2 0 1 v (by decide +kernel) (by decide) (by decide) (by decide) (by decide) (by simp only [Kn.ok, decide_eq_true_eq]; omega) (by simp only [Kn.ok, Kn.bit, decide_eq_true_eq]; omega) w0 k
  case D => exact put_plain .D 21 5 0 1 v (by decide +kernel) (by decide) (by decide) (by decide) (by decide) (by simp only [Kn.ok, decide_eq_true_eq]; omega) (by simp only [Kn.ok, Kn.bit, decide_eq_true_eq]; omega) w0 k
  case A => exact put_plain .A 16 5 0 1 v (by decide +kernel) (by decide) (by decide) (by decide) (by decide) (by simp only [Kn.ok, decide_eq_true_eq]; omega) (by simp only [Kn.ok, Kn.bit, decide_eq_true_eq]; omega) w0 k
  case B => exact put_plain .B 11 5 0 1 v (by decide +kernel) (by decide) (by decide) (by decide) (by decide) (by simp only [Kn.ok, decide_eq_true_eq]; omega) (by simp only [Kn.ok, Kn.bit, decide_eq_true_eq]; omega) w0 k
  case O2 => exact put_plain .O2 20 2 0 1 v (by decide +kernel) (by decide) (by decide) (by decide) (by decide) (by simp only [Kn.ok, decide_eq_true_eq]; omega) (by simp only [Kn.ok, Kn.bit, decide_eq_true_eq]; omega) w0 k
  case I4 => exact put_plain .I4 16 4 0 1 v (by decide +kernel) (by decide) (by decide) (by decide) (by decide) (by simp only [Kn.ok, decide_eq_true_eq]; omega) (by simp only [Kn.ok, Kn.bit, decide_eq_true_eq]; omega) w0 k
  case X =>
    obtain ⟨k, rfl⟩ : ∃ m, k = m + 2 := ⟨k - 2, by omega⟩
    unfold isa_put.f
    rw [show isa_plains.f Kn.X.str = some (0, 0, 0, 0, false) by decide +kernel, Option.bind_some, if_neg (by decide), if_pos (by decide +kernel), show (Kn.X.str.toList == ([88] : List UInt8)) = true by decide +kernel]
    simp only [isa_put.j0, if_true]
    rw [show isa_place.f Kn.X.str = some 0 by decide +kernel]
    simp only [Option.bind_some]
    have et : 0 ≤ v → Int.tdiv v 24 = v / 24 := fun h => Int.tdiv_eq_ediv_of_nonneg h
    by_cases c : Kn.X.ok v = true
    · have c' := c
      simp only [Kn.ok, decide_eq_true_eq] at c'
      have ew : wrap64 (v - wrap64 (wrap64 (Int.tdiv v 24) * 16)) = v - v / 24 * 16 := by
        rw [et (by omega), wrap64_id (n := v / 24) (by omega) (by omega), wrap64_id (n := v / 24 * 16) (by omega) (by omega), wrap64_id (by omega) (by omega)]
      refine ⟨Kn.X.bit v, ?_, fun _ => rfl⟩
      rw [c, ew, shl_u32 (n := 0) (m := 0) rfl (by decide)]
      have e2 : (v - v / 24 * 16) % 4294967296 * 2 ^ 0 % 4294967296 = v - v / 24 * 16 := by omega
      simp only [Kn.bit, e2]
      rw [if_neg (by omega)]
      by_cases c2 : v > 7
      · rw [if_pos c2, if_neg (by omega), if_neg (by omega), if_pos (by decide)]
      · rw [if_neg c2, if_neg (by omega), if_pos (by decide)]
    · have e : Kn.X.ok v = false := Bool.eq_false_iff.2 c
      simp only [Kn.ok, decide_eq_true_eq] at c
      refine ⟨0, ?_, fun h => by rw [e] at h; cases h⟩
      rw [e]
      by_cases c0 : v < 0
      · rw [if_pos c0]
      · rw [if_neg c0]
        by_cases c1 : v > 7
        · rw [if_pos c1]
          by_cases c2 : v < 24
          · rw [if_pos c2]
          · rw [if_neg c2, if_pos (by omega)]
        · exfalso; omega
  case Y =>
    obtain ⟨k, rfl⟩ : ∃ m, k = m + 2 := ⟨k - 2, by omega⟩
    unfold isa_put.f
    rw [show isa_plains.f Kn.Y.str = some (0, 0, 0, 0, false) by decide +kernel, Option.bind_some, if_neg (by decide), if_neg (by decide +kernel), show (Kn.Y.str.toList == ([89] : List UInt8)) = true by decide +kernel]
    simp only [isa_put.j0, if_true]
    rw [show isa_place.f Kn.Y.str = some 4 by decide +kernel]
    simp only [Option.bind_some]
    have et : 0 ≤ v → Int.tdiv v 24 = v / 24 := fun h => Int.tdiv_eq_ediv_of_nonneg h
    by_cases c : Kn.Y.ok v = true
    · have c' := c
      simp only [Kn.ok, decide_eq_true_eq] at c'
      have ew : wrap64 (v - wrap64 (wrap64 (Int.tdiv v 24) * 16)) = v - v / 24 * 16 := by
        rw [et (by omega), wrap64_id (n := v / 24) (by omega) (by omega), wrap64_id (n := v / 24 * 16) (by omega) (by omega), wrap64_id (by omega) (by omega)]
      refine ⟨Kn.Y.bit v, ?_, fun _ => rfl⟩
      rw [c, ew, shl_u32 (n := 4) (m := 4) rfl (by decide)]
      have e2 : (v - v / 24 * 16) % 4294967296 * 2 ^ 4 % 4294967296 = (v - v / 24 * 16) * 16 := by omega
      simp only [Kn.bit, e2]
      rw [if_neg (by omega)]
      by_cases c2 : v > 7
      · rw [if_pos c2, if_neg (by omega), if_neg (by omega), if_pos (by decide)]
      · rw [if_neg c2, if_neg (by omega), if_pos (by decide)]
    · have e : Kn.Y.ok v = false := Bool.eq_false_iff.2 c
      simp only [Kn.ok, decide_eq_true_eq] at c
      refine ⟨0, ?_, fun h => by rw [e] at h; cases h⟩
      rw [e]
      by_cases c0 : v < 0
      · rw [if_pos c0]
      · rw [if_neg c0]
        by_cases c1 : v > 7
        · rw [if_pos c1]
          by_cases c2 : v < 24
          · rw [if_pos c2]
          · rw [if_neg c2, if_pos (by omega)]
        · exfalso; omega
  case L20 =>
    obtain ⟨k, rfl⟩ : ∃ m, k = m + 2 := ⟨k - 2, by omega⟩
    unfold isa_put.f
    rw [show isa_plains.f Kn.L20.str = some (0, 0, 0, 0, false) by decide +kernel, Option.bind_some, if_neg (by decide), if_neg (by decide +kernel), show (Kn.L20.str.toList == ([89] : List UInt8)) = false by decide +kernel]
    simp only [isa_put.j0]
    rw [if_neg (by decide), if_pos (by decide +kernel)]
    unfold imm_Split.f
    rw [fits_is v 20 20 rfl (by decide) (by decide)]
    simp only [Option.bind_some, and15, and31, and2047]
    rw [wrap64_id (by omega) (by omega), wrap64_id (by omega) (by omega), or3 _ _ _ (by omega) (by omega) (by omega)]
    exact ⟨_, by congr 2, fun _ => by simp only [Kn.bit]; omega⟩
  case C8 =>
    obtain ⟨k, rfl⟩ : ∃ m, k = m + 2 := ⟨k - 2, by omega⟩
    unfold isa_put.f
    rw [show isa_plains.f Kn.C8.str = some (0, 0, 0, 0, false) by decide +kernel, Option.bind_some, if_neg (by decide), if_neg (by decide +kernel), show (Kn.C8.str.toList == ([89] : List UInt8)) = false by decide +kernel]
    simp only [isa_put.j0]
    rw [if_neg (by decide), if_neg (by decide +kernel), if_pos (by decide +kernel), sci8_is v (by omega)]
    simp only [Option.bind_some]
    refine ⟨_, rfl, fun h => ?_⟩
    obtain ⟨h1, h2, h3, _⟩ := sci8_back v h
    simp only [Kn.bit]
    generalize (sci8 v).1 = a at *
    generalize (sci8 v).2.1 = b at *
    generalize (sci8 v).2.2.1 = c at *
    rw [wrap64_id (n := a * 1024) (by omega) (by omega), wrap64_id (n := b * 256) (by omega) (by omega), or3c _ _ _ h1 h2 h3]
    omega
  case S16 =>
    obtain ⟨k, rfl⟩ : ∃ m, k = m + 2 := ⟨k - 2, by omega⟩
    unfold isa_put.f
    rw [show isa_plains.f Kn.S16.str = some (0, 0, 0, 0, false) by decide +kernel, Option.bind_some, if_neg (by decide), if_neg (by decide +kernel), show (Kn.S16.str.toList == ([89] : List UInt8)) = false by decide +kernel]
    simp only [isa_put.j0]
    rw [if_neg (by decide), if_neg (by decide +kernel), if_neg (by decide +kernel), if_pos (by decide +kernel), fits_is v 16 16 rfl (by decide) (by decide)]
    simp only [Option.bind_some]
    rw [show Go.bits .and .i64 v 65535 = v % 65536 from and_mask v 16 (by decide)]
    exact ⟨_, by congr 2, fun _ => by simp only [Kn.bit]; omega⟩
  case T8 =>
    refine put_even .T8 9 v (by decide +kernel) (by decide +kernel) (by decide +kernel) (by decide) (by decide) rfl (fun h k => ?_) k hk
    simp only [Kn.ok, decide_eq_true_eq] at h
    have et : Int.tdiv v 2 = v / 2 := by rw [Int.tdiv_eq_ediv]; split <;> omega
    simp only [isa_put.j1]
    rw [if_neg (by decide), if_pos (by decide +kernel), et, wrap64_id (n := v / 2) (by omega) (by omega), show Go.bits .and .i64 (v / 2) 255 = v / 2 % 256 from and_mask (v / 2) 8 (by decide)]
    simp only [Kn.bit]
    congr 2; omega
  case T15 =>
    refine put_even .T15 16 v (by decide +kernel) (by decide +kernel) (by decide +kernel) (by decide) (by decide) rfl (fun h k => ?_) k hk
    simp only [isa_put.j1]
    rw [if_neg (by decide), if_neg (by decide +kernel), show isa_wide.f Kn.T15.str = some 16 by decide +kernel, Option.bind_some, if_pos (by decide), shl_i64 (n := 16) (m := 16) rfl (by decide), show wrap64 (wrap64 (1 * 2 ^ 16) - 1) = 65535 by (rw [wrap64_id (n := 1 * 2 ^ 16) (by decide) (by decide)]; exact wrap64_id (by decide) (by decide)), show Go.bits .and .i64 v 65535 = v % 65536 from and_mask v 16 (by decide)]
    simp only [Kn.bit]
    congr 2; omega
  case T24 =>
    refine put_even .T24 25 v (by decide +kernel) (by decide +kernel) (by decide +kernel) (by decide) (by decide) rfl (fun h k => ?_) k hk
    simp only [isa_put.j1]
    rw [if_neg (by decide), if_neg (by decide +kernel), show isa_wide.f Kn.T24.str = some 25 by decide +kernel, Option.bind_some, if_pos (by decide), shl_i64 (n := 25) (m := 25) rfl (by decide), show wrap64 (wrap64 (1 * 2 ^ 25) - 1) = 33554431 by (rw [wrap64_id (n := 1 * 2 ^ 25) (by decide) (by decide)]; exact wrap64_id (by decide) (by decide)), show Go.bits .and .i64 v 33554431 = v % 33554432 from and_mask v 25 (by decide)]
    simp only [Kn.bit]
    congr 2; omega
end Go.Proofs.YticofbaajdgabaaDoor.X

namespace Go.Proofs.YticofbaajdgabaaDoor.X
set_option linter.unusedVariables false
set_option linter.unusedSimpArgs false
open Go.RowKit Go.PA Go.Proofs.YticofbaajdgabaaDoorW.PrintWords Go.Proofs.YticofbaajdgabaaDoorW.PrintLast Go.Proofs.YticofbaajdgabaaDoorW.PrintMore
def Kn.lst : Kn → List UInt8
  | X => [88] | Y => [89] | U5 => [85, 53] | U7 => [85, 55] | O5 => [79, 53] | M1 => [77, 49] | M2 => [77, 50] | M4 => [77, 52] | O1 => [79, 49] | I2 => [73, 50] | T8 => [84, 56]
  | D => [68] | A => [65] | B => [66] | S16 => [83, 49, 54] | L20 => [76, 50, 48] | C8 => [67, 56] | O2 => [79, 50] | I4 => [73, 52] | T15 => [84, 49, 53] | T24 => [84, 50, 52]
theorem Kn.toL (K : Kn) : K.str.toList = K.lst := by cases K <;> decide +kernel
theorem shr_i64 {x : Int} {n : Int} {m : Nat} (hm : n = m) (h2 : m ≤ 63) : shr .i64 x n = x / 2 ^ m := by
  subst hm
  unfold shr
  rw [show min ((m : Int).toNat) IntKind.i64.bits = m by simp [IntKind.bits]; omega]
theorem nat_but1 (a j : Nat) : a &&& (2 ^ (j + 1) - 2) = a % 2 ^ (j + 1) / 2 * 2 := by
  have hp := Nat.two_pow_pos j
  have e2 : 2 ^ (j + 1) = 2 * 2 ^ j := by rw [Nat.pow_succ]; omega
  have h1 : (a &&& (2 ^ (j + 1) - 2)) / 2 = a / 2 % 2 ^ j := by
    rw [Nat.and_div_two, show (2 ^ (j + 1) - 2) / 2 = 2 ^ j - 1 by omega, Nat.and_two_pow_sub_one_eq_mod]
  have h2 : (a &&& (2 ^ (j + 1) - 2)) % 2 = 0 := by
    have := Nat.and_mod_two_pow (a := a) (b := 2 ^ (j + 1) - 2) (n := 1)
    rw [Nat.pow_one] at this
    rw [this, show (2 ^ (j + 1) - 2) % 2 = 0 by omega, Nat.and_zero]
  have h3 : a % 2 ^ (j + 1) / 2 = a / 2 % 2 ^ j := by
    rw [e2, Nat.mod_mul_right_div_self]
  omega
/-- All bits but the lowest. -/
theorem and_but1 (a : Int) (j : Nat) (hj : j ≤ 31) (h0 : 0 ≤ a) (h1 : a < 4294967296) {c : Int} (hc : c = (2 ^ (j + 1) - 2 : Nat)) : Go.bits .and .i64 a c = a % 2 ^ (j + 1) / 2 * 2 := by
  obtain ⟨n, rfl⟩ := Int.eq_ofNat_of_zero_le h0
  have hn : n % 2 ^ 64 = n := Nat.mod_eq_of_lt (by omega)
  have hp : (2 : Nat) ^ (j + 1) ≤ 2 ^ 32 := Nat.pow_le_pow_right (by decide) (by omega)
  have hm : (2 ^ (j + 1) - 2) % 2 ^ 64 = 2 ^ (j + 1) - 2 := Nat.mod_eq_of_lt (by omega)
  rw [hc, show Go.bits .and .i64 (n : Int) ((2 ^ (j + 1) - 2 : Nat) : Int) = IntKind.i64.wrap ((BitVec.ofInt 64 (n : Int) &&& BitVec.ofInt 64 ((2 ^ (j + 1) - 2 : Nat) : Int)).toNat : Int) from rfl]
  rw [BitVec.ofInt_natCast, BitVec.ofInt_natCast, BitVec.toNat_and, BitVec.toNat_ofNat, BitVec.toNat_ofNat, hn, hm, nat_but1, i64_wrap]
  have hl : n % 2 ^ (j + 1) ≤ n := Nat.mod_le _ _
  have e : (((n % 2 ^ (j + 1) / 2 * 2 : Nat)) : Int) = (n : Int) % 2 ^ (j + 1) / 2 * 2 := by simp
  rw [← e]
  exact wrap64_id (by omega) (by omega)
theorem andnot1 (a : Int) (h0 : 0 ≤ a) (h1 : a < 4294967296) : Go.bits .andNot .i64 a 1 = a / 2 * 2 := by
  obtain ⟨n, rfl⟩ := Int.eq_ofNat_of_zero_le h0
  have hn : n % 2 ^ 64 = n := Nat.mod_eq_of_lt (by omega)
  rw [show Go.bits .andNot .i64 (n : Int) 1 = IntKind.i64.wrap ((BitVec.ofInt 64 (n : Int) &&& ~~~ (BitVec.ofInt 64 1)).toNat : Int) from rfl]
  rw [BitVec.ofInt_natCast, show ~~~ (BitVec.ofInt 64 1) = BitVec.ofNat 64 (2 ^ (63 + 1) - 2) by decide, BitVec.toNat_and, BitVec.toNat_ofNat, BitVec.toNat_ofNat, hn, show (2 ^ (63 + 1) - 2) % 2 ^ 64 = 2 ^ (63 + 1) - 2 by decide, nat_but1, hn, i64_wrap]
  have e : (((n / 2 * 2 : Nat)) : Int) = (n : Int) / 2 * 2 := by simp
  rw [← e]
  exact wrap64_id (by omega) (by omega)
theorem rjoined_is {h m l : Int} (h0 : 0 ≤ h ∧ h < 16) (h1 : 0 ≤ m ∧ m < 32) (h2 : 0 ≤ l ∧ l < 2048) : letterpressref1_Joined.f h m l = some (sg (h * 65536 + m * 2048 + l) 1048576) := by
  unfold letterpressref1_Joined.f
  rw [wrap64_id (n := h * 65536) (by omega) (by omega), wrap64_id (n := m * 2048) (by omega) (by omega), or_join 16 (h * 65536) (m * 2048) (by omega) (by omega) (by omega) (by omega) (by omega) (by omega), or_join 11 _ _ (by omega) (by omega) (by omega) (by omega) (by omega) (by omega), rsign_is' (c := 20) (b := 20) rfl (by decide) (by decide)]
  rfl
/-- The operand that bits have, of the reference. -/
theorem take_is (K : Kn) (n : Int) (w0 : 0 ≤ n ∧ n < 4294967296) {k : Nat} (hk : 10 ≤ k) : letterpressref2_take.f k K.str n = some (K.val n) := by
  have m1 : ∀ a, Go.bits .and .i64 a 1 = a % 2 := fun a => and_mask a 1 (by decide)
  have m3 : ∀ a, Go.bits .and .i64 a 3 = a % 4 := fun a => and_mask a 2 (by decide)
  have m15 : ∀ a, Go.bits .and .i64 a 15 = a % 16 := fun a => and_mask a 4 (by decide)
  have m31 : ∀ a, Go.bits .and .i64 a 31 = a % 32 := fun a => and_mask a 5 (by decide)
  have m127 : ∀ a, Go.bits .and .i64 a 127 = a % 128 := fun a => and_mask a 7 (by decide)
  have m255 : ∀ a, Go.bits .and .i64 a 255 = a % 256 := fun a => and_mask a 8 (by decide)
  have m2047 : ∀ a, Go.bits .and .i64 a 2047 = a % 2048 := fun a => and_mask a 11 (by decide)
  cases K
  case X | Y =>
    simp (decide := true) only [letterpressref2_take.f, letterpressref2_eight.f, Kn.toL, Kn.lst, if_true, if_false, Kn.val, m15]
    split
    · simp only [Option.bind_some]; congr 1; rw [wrap64_id (by omega) (by omega)]; omega
    · simp only [Option.bind_some]; congr 1; omega
  case T8 =>
    simp (decide := true) only [letterpressref2_take.f, Kn.toL, Kn.lst, if_true, if_false, Kn.val]
    rw [rsign_is' (v := n) (c := 8) (b := 8) rfl (by decide) (by decide)]
    simp only [Option.bind_some]; congr 1
    exact wrap64_id (by unfold sg; omega) (by unfold sg; omega)
  case S16 =>
    simp (decide := true) only [letterpressref2_take.f, letterpressref2_takes.f, Kn.toL, Kn.lst, if_true, if_false, Kn.val]
    rw [rsign_is' (v := n) (c := 16) (b := 16) rfl (by decide) (by decide)]; rfl
  case T15 =>
    simp (decide := true) only [letterpressref2_take.f, letterpressref2_takes.f, Kn.toL, Kn.lst, if_true, if_false, Kn.val]
    rw [rsign_is' (c := 16) (b := 16) rfl (by decide) (by decide), and_but1 n 15 (c := 65534) (by decide) w0.1 w0.2 rfl]
    simp only [Option.bind_some]; congr 1; unfold sg; omega
  case T24 =>
    simp (decide := true) only [letterpressref2_take.f, letterpressref2_takes.f, Kn.toL, Kn.lst, if_true, if_false, Kn.val]
    rw [rsign_is' (c := 25) (b := 25) rfl (by decide) (by decide), and_but1 n 24 (c := 33554430) (by decide) w0.1 w0.2 rfl]
    simp only [Option.bind_some]; congr 1; unfold sg; omega
  case C8 =>
    simp (decide := true) only [letterpressref2_take.f, letterpressref2_takes.f, Kn.toL, Kn.lst, if_true, if_false, Kn.val, m1, m3, m255]
    rw [rback_is (by omega) (by omega) (by omega) (by omega)]; rfl
  case L20 =>
    simp (decide := true) only [letterpressref2_take.f, letterpressref2_takes.f, Kn.toL, Kn.lst, if_true, if_false, Kn.val, m15, m31, m2047]
    rw [rjoined_is (by omega) (by omega) (by omega)]; rfl
  all_goals
    simp (decide := true) only [letterpressref2_take.f, letterpressref2_takes.f, Kn.toL, Kn.lst, if_true, if_false, Kn.val, m1, m3, m15, m31, m127, m255, m2047, Option.bind_some]
  all_goals (try (refine congrArg some ((wrap64_id (by omega) (by omega)).trans ?_); omega))
/-- The operand that bits have, of the program. -/
theorem get_is (K : Kn) (n : Int) (w0 : 0 ≤ n ∧ n < 4294967296) {k : Nat} (hk : 10 ≤ k) : isa_get.f k K.str n = some (K.val n) := by
  have m1 : ∀ a, Go.bits .and .i64 a 1 = a % 2 := fun a => and_mask a 1 (by decide)
  have m3 : ∀ a, Go.bits .and .i64 a 3 = a % 4 := fun a => and_mask a 2 (by decide)
  have m15 : ∀ a, Go.bits .and .i64 a 15 = a % 16 := fun a => and_mask a 4 (by decide)
  have m31 : ∀ a, Go.bits .and .i64 a 31 = a % 32 := fun a => and_mask a 5 (by decide)
  have m255 : ∀ a, Go.bits .and .i64 a 255 = a % 256 := fun a => and_mask a 8 (by decide)
  have m2047 : ∀ a, Go.bits .and .i64 a 2047 = a % 2048 := fun a => and_mask a 11 (by decide)
  have ww : wrap64 n = n := wrap64_id (by omega) (by omega)
  cases K
  case U5 => exact get_plain .U5 4 5 0 1 n (by decide +kernel) (by decide) (by decide) (by decide) (by decide) (by simp only [Kn.val]; omega) w0 k
  case U7 => exact get_plain .U7 4 7 0 1 n (by decide +kernel) (by decide) (by decide) (by decide) (by decide) (by simp only [Kn.val]; omega) w0 k
  case O5 => exact get_plain .O5 4 5 1 1 n (by decide +kernel) (by decide) (by decide) (by decide) (by decide) (by simp only [Kn.val]; omega) w0 k
  case M1 => exact get_plain .M1 8 4 0 1 n (by decide +kernel) (by decide) (by decide) (by decide) (by decide) (by simp only [Kn.val]; omega) w0 k
  case M2 => exact get_plain .M2 8 4 0 2 n (by decide +kernel) (by decide) (by decide) (by decide) (by decide) (by simp only [Kn.val]; omega) w0 k
  case M4 => exact get_plain .M4 8 4 0 4 n (by decide +kernel) (by decide) (by decide) (by decide) (by decide) (by simp only [Kn.val]; omega) w0 k
  case O1 => exact get_plain .O1 10 1 0 1 n (by decide +kernel) (by decide) (by decide) (by decide) (by decide) (by simp only [Kn.val]; omega) w0 k
  case I2 => exact get_plain .I2 8 2 0 1 n (by decide +kernel) (by decide) (by decide) (by decide) (by decide) (by simp only [Kn.val]; omega) w0 k
  case D => exact get_plain .D 21 5 0 1 n (by decide +kernel) (by decide) (by decide) (by decide) (by decide) (by simp only [Kn.val]; omega) w0 k
  case A => exact get_plain .A 16 5 0 1 n (by decide +kernel) (by decide) (by decide) (by decide) (by decide) (by simp only [Kn.val]; omega) w0 k
  case B => exact get_plain .B 11 5 0 1 n (by decide +kernel) (by decide) (by decide) (by decide) (by decide) (by simp only [Kn.val]; omega) w0 k
  case O2 => exact get_plain .O2 20 2 0 1 n (by decide +kernel) (by decide) (by decide) (by decide) (by decide) (by simp only [Kn.val]; omega) w0 k
  case I4 => exact get_plain .I4 16 4 0 1 n (by decide +kernel) (by decide) (by decide) (by decide) (by decide) (by simp only [Kn.val]; omega) w0 k
  all_goals
    obtain ⟨k, rfl⟩ : ∃ m, k = m + 2 := ⟨k - 2, by omega⟩
    unfold isa_get.f
  case X =>
    rw [show isa_plains.f Kn.X.str = some (0, 0, 0, 0, false) by decide +kernel]
    simp (decide := true) only [Option.bind_some, isa_get.j0, Kn.toL, Kn.lst, isa_place.f, if_true, if_false, Bool.true_eq_false, Bool.false_eq_true, ww, Kn.val]
    rw [show shr .i64 n 0 = n from shr_i64 (n := 0) (m := 0) rfl (by decide) |>.trans (by omega), m15, Int.tdiv_eq_ediv_of_nonneg (by omega), wrap64_id (n := n % 16 / 8) (by omega) (by omega), wrap64_id (n := n % 16 / 8 * 16) (by omega) (by omega), wrap64_id (by omega) (by omega)]
  case Y =>
    rw [show isa_plains.f Kn.Y.str = some (0, 0, 0, 0, false) by decide +kernel]
    simp (decide := true) only [Option.bind_some, isa_get.j0, Kn.toL, Kn.lst, isa_place.f, if_true, if_false, Bool.true_eq_false, Bool.false_eq_true, ww, Kn.val]
    rw [show shr .i64 n 4 = n / 16 from shr_i64 (n := 4) (m := 4) rfl (by decide), m15, Int.tdiv_eq_ediv_of_nonneg (by omega), wrap64_id (n := n / 16 % 16 / 8) (by omega) (by omega), wrap64_id (n := n / 16 % 16 / 8 * 16) (by omega) (by omega), wrap64_id (by omega) (by omega)]
  case T8 =>
    rw [show isa_plains.f Kn.T8.str = some (0, 0, 0, 0, false) by decide +kernel]
    simp (decide := true) only [Option.bind_some, isa_get.j0, Kn.toL, Kn.lst, isa_place.f, if_true, if_false, Bool.true_eq_false, Bool.false_eq_true, ww, Kn.val]
    rw [sign_is' (v := n) (c := 8) (b := 8) rfl (by decide) (by decide)]
    simp only [Option.bind_some]; congr 1
    exact wrap64_id (by unfold sg; omega) (by unfold sg; omega)
  case S16 =>
    rw [show isa_plains.f Kn.S16.str = some (0, 0, 0, 0, false) by decide +kernel]
    simp (decide := true) only [Option.bind_some, isa_get.j0, Kn.toL, Kn.lst, isa_place.f, if_true, if_false, Bool.true_eq_false, Bool.false_eq_true, ww, Kn.val]
    rw [sign_is' (v := n) (c := 16) (b := 16) rfl (by decide) (by decide)]; rfl
  case L20 =>
    rw [show isa_plains.f Kn.L20.str = some (0, 0, 0, 0, false) by decide +kernel]
    simp (decide := true) only [Option.bind_some, isa_get.j0, Kn.toL, Kn.lst, isa_place.f, if_true, if_false, Bool.true_eq_false, Bool.false_eq_true, ww, Kn.val, m15, m31, m2047]
    rw [joined_is (by omega) (by omega) (by omega)]; rfl
  case C8 =>
    rw [show isa_plains.f Kn.C8.str = some (0, 0, 0, 0, false) by decide +kernel]
    simp (decide := true) only [Option.bind_some, isa_get.j0, Kn.toL, Kn.lst, isa_place.f, if_true, if_false, Bool.true_eq_false, Bool.false_eq_true, ww, Kn.val, m1, m3, m255]
    rw [back_is (by omega) (by omega) (by omega) (by omega)]; rfl
  case T15 =>
    rw [show isa_plains.f Kn.T15.str = some (0, 0, 0, 0, false) by decide +kernel]
    simp (decide := true) only [Option.bind_some, isa_get.j0, Kn.toL, Kn.lst, isa_place.f, isa_wide.f, if_true, if_false, Bool.true_eq_false, Bool.false_eq_true, ww, Kn.val]
    rw [andnot1 n w0.1 w0.2, sign_is' (c := 16) (b := 16) rfl (by decide) (by decide)]; rfl
  case T24 =>
    rw [show isa_plains.f Kn.T24.str = some (0, 0, 0, 0, false) by decide +kernel]
    simp (decide := true) only [Option.bind_some, isa_get.j0, Kn.toL, Kn.lst, isa_place.f, isa_wide.f, if_true, if_false, Bool.true_eq_false, Bool.false_eq_true, ww, Kn.val]
    rw [andnot1 n w0.1 w0.2, sign_is' (c := 25) (b := 25) rfl (by decide) (by decide)]; rfl
end Go.Proofs.YticofbaajdgabaaDoor.X
