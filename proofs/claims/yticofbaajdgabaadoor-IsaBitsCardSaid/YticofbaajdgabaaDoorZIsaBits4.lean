/- IsaBits: part 4: the written functions, their contracts, and what is said of them. -/
import Derived.Test.YticofbaajdgabaaDoorZIsaBits3
set_option linter.unusedVariables false
set_option linter.unusedSimpArgs false
namespace Go.Proofs.YticofbaajdgabaaDoor.X
open Go.RowKit Go.Proofs.YticofbaajdgabaaDoorW.PrintWords Go.Proofs.YticofbaajdgabaaDoorW.PrintLast Go.Proofs.YticofbaajdgabaaDoorW.PrintMore
attribute [local go_sem] max2_int min2_int max_two min_two
set_option linter.unusedVariables false
set_option linter.unusedSimpArgs false
set_option maxHeartbeats 8000000 in
set_option maxRecDepth 100000 in
theorem letterpresslaw2_Operand.calls (k : Nat) (a0 : ByteArray) (a1 : Int) (r : Int) (w : World) (h : letterpresslaw2_Operand.f k a0 a1 = some r) :
    Calls Tryd.prog 23 #[.string a0, .int .i64 a1] w fun e w' => e = .returned (.int .i64 r) ∧ Below w.heap.size w w' := by
  have HB := Aside0.mk (Below.refl w.heap.size w)
  have H : ((letterpresslaw2_within.f a1 9).bind fun t337 => (if a0.toList = ([88] : List UInt8) then (letterpresslaw2_Operand.j0 k a1 t337 a0 (a0.toList == ([88] : List UInt8))) else (letterpresslaw2_Operand.j0 k a1 t337 a0 (a0.toList == ([89] : List UInt8))))) = some r := h
  clear h
  replace H := Option.bind_eq_some_iff.mp H
  obtain ⟨t337, A30, H⟩ := H
  replace H : (if a0.toList = ([88] : List UInt8) then (letterpresslaw2_Operand.j0 k a1 t337 a0 (a0.toList == ([88] : List UInt8))) else (letterpresslaw2_Operand.j0 k a1 t337 a0 (a0.toList == ([89] : List UInt8)))) = some r := H
  have A3 := Aside0.mk A30
  clear A30
  have HC4 := Aside0.mk H
  clear H
  go_enter Tryd.func23, Tryd.ntmps23
  go_upto_if 9 with (first | ((with_reducible refine gate_callee (f := 17) rfl ?_); refine goesL_ (some 7) rfl rfl Tryd.func17 (by kernel_rfl) rfl #[.int .i64 a1, .int .i64 9] rfl (by (try simp only [List.map_toArray, List.map_cons, List.map_nil]); first | done | rfl | (simp only [List.length_drop, List.length_take]; rfl)) ?_; (with_reducible refine (letterpresslaw2_within.calls a1 9 t337 _ A3.out).mono ?_); rintro e w' ⟨rfl, ⟨nd, rfl⟩⟩; refine ⟨_, rfl, ?_⟩))
  (try simp only [Act.put, List.setIfInBounds_toArray, List.set_cons_zero, List.set_cons_succ])
  go_cut [9] (fun v9 wc => ∃ (kq : Nat) (x9_3 : Bool), v9 = .bool x9_3 ∧ Aside0 (letterpresslaw2_Operand.j0 kq a1 t337 a0 x9_3 = some r) ∧ Aside0 (kq ≤ k) ∧ Aside0 (Below w.heap.size w wc))
  case first =>
    have H := HC4.out
    clear HC4
    by_cases c5 : a0.toList = ([88] : List UInt8)
    · rw [if_pos c5] at H
      have c5b0 : (a0.toList == ([88] : List UInt8)) = true := beq_iff_eq.mpr c5
      have c5b1 : (a0.toList != ([88] : List UInt8)) = false := bne_eq_false_iff_eq.mpr c5
      clear c5
      (first | rw [c5b0] | (simp only [i64_w, i32_w]; rw [c5b0]) | skip)
      have H' := Aside0.mk H
      clear H
      go_wp2
      go_meet
      case rel => exact ⟨_, ((a0.toList == ([88] : List UInt8))), (by first | rfl | (simp; done) | (simp [*]; done)), H', ⟨by first | omega | exact Nat.le_refl _⟩, ⟨by repeat (first | (with_reducible first | exact HB.out | apply below_alloc | apply pw_below_drewN | apply below_drew1) | exact HB.out)⟩⟩
    · rw [if_neg c5] at H
      have c5b0 : (a0.toList == ([88] : List UInt8)) = false := beq_eq_false_iff_ne.mpr c5
      have c5b1 : (a0.toList != ([88] : List UInt8)) = true := bne_iff_ne.mpr c5
      (first | rw [c5b0] | (simp only [i64_w, i32_w]; rw [c5b0]) | skip)
      have H' := Aside0.mk H
      clear H
      go_wp2
      go_meet
      case rel => exact ⟨_, ((a0.toList == ([89] : List UInt8))), (by first | rfl | (simp; done) | (simp [*]; done)), H', ⟨by first | omega | exact Nat.le_refl _⟩, ⟨by repeat (first | (with_reducible first | exact HB.out | apply below_alloc | apply pw_below_drewN | apply below_drew1) | exact HB.out)⟩⟩
  case rest =>
    clear HC4
    try clear c1
    try clear c2
    try clear p2
    try clear c5
    try clear c5b0
    try clear c5b1
    obtain ⟨kq, x9_3, rfl, HA, HJ3, HB⟩ := hcut
    cases kq with
    | zero => exact absurd HA.out (by simp [letterpresslaw2_Operand.j0])
    | succ kj3 =>
      have H := HA.out
      clear HA
      simp only [letterpresslaw2_Operand.j0] at H
      by_cases c6 : x9_3 = true
      · subst c6
        have H1 : ((some (([0, 1, 7, 24, 31, 5, 28, 3, 30] : List Int) : List Int)).bind fun y338 => (if 0 ≤ t337 then (if t337 < (y338.length : Int) then (some (rd y338 t337)) else (none)) else (none))) = some r := by rw [if_pos rfl] at H; exact H
        clear H
        have H := H1
        clear H1
        obtain ⟨y338, hy338⟩ : ∃ y_ : List Int, y_ = (([0, 1, 7, 24, 31, 5, 28, 3, 30] : List Int)) := ⟨_, rfl⟩
        replace H : (if 0 ≤ t337 then (if t337 < (y338.length : Int) then (some (rd y338 t337)) else (none)) else (none)) = some r := by first | (rw [hy338]; with_reducible exact H) | (have H2_ := (Option.bind_some _ _).symm.trans H; rw [hy338]; with_reducible exact H2_) | (have H2_ := (Option.bind_some _ _).symm.trans H; with_reducible exact H2_) | with_reducible exact H | (rw [hy338]; exact H) | exact H
        have Ny338 := Aside0.mk hy338
        clear hy338
        by_cases c7 : 0 ≤ t337
        · rw [if_pos c7] at H
          have c7b0 : decide (0 ≤ t337) = true := decide_eq_true c7
          clear c7
          by_cases c8 : t337 < (y338.length : Int)
          · rw [if_pos c8] at H
            have c8b0 : decide (t337 < (y338.length : Int)) = true := decide_eq_true c8
            clear c8
            obtain rfl := Option.some.inj H
            go_wp2_with (first | ((with_reducible refine gate_dst (N := 12) rfl ?_); refine Kd.R_lit (Kd.int .i64) _ 3 ?hg (N := 12) ?hd (xs := ([0, 1, 7, 24, 31, 5, 28, 3, 30] : List Int)) (inner := [.int .i64 0, .int .i64 1, .int .i64 7, .int .i64 24, .int .i64 31, .int .i64 5, .int .i64 28, .int .i64 3, .int .i64 30]) (ok := fun _ => True) (okp := fun _ => True) ?hr ?hp (fun _ hk => hk) trivial (Below.refl _ _) (Nat.le_refl _) (by simp) ?_; (case hd => rfl); (case hg => rfl); (case hr => first | (go_simp; done) | (go_simp; rfl)); (case hp => exact (Reps.one (show Kd.M (Kd.int .i64) _ _ _ 0 [.int .i64 0] from rfl) (Reps.one (show Kd.M (Kd.int .i64) _ _ _ 1 [.int .i64 1] from rfl) (Reps.one (show Kd.M (Kd.int .i64) _ _ _ 7 [.int .i64 7] from rfl) (Reps.one (show Kd.M (Kd.int .i64) _ _ _ 24 [.int .i64 24] from rfl) (Reps.one (show Kd.M (Kd.int .i64) _ _ _ 31 [.int .i64 31] from rfl) (Reps.one (show Kd.M (Kd.int .i64) _ _ _ 5 [.int .i64 5] from rfl) (Reps.one (show Kd.M (Kd.int .i64) _ _ _ 28 [.int .i64 28] from rfl) (Reps.one (show Kd.M (Kd.int .i64) _ _ _ 3 [.int .i64 3] from rfl) (Reps.one (show Kd.M (Kd.int .i64) _ _ _ 30 [.int .i64 30] from rfl) (Reps.none _ _))))))))))); intro v339 w9 ho10 hb hg_ hnew_; clear hg_ hnew_; (first | rw [← Ny338.out] at ho10 | (simp only [Int.reduceToNat] at ho10; rw [← Ny338.out] at ho10)); have n0_ := Aside0.mk (Kd.R_lower ho10 (below_size (by repeat (first | (with_reducible first | exact HB.out | apply below_alloc | apply pw_below_drewN | apply below_drew1) | exact HB.out)))); have n1_ := Aside0.mk (below_step (by repeat (first | (with_reducible first | exact HB.out | apply below_alloc | apply pw_below_drewN | apply below_drew1) | exact HB.out)) hb); clear HB; have HO340 := n0_; have HB := n1_; clear n0_ n1_; clear hb ho10; obtain ⟨Ao11, co11, eo11⟩ := Kd.R_slice HO340.out; subst eo11; have p341 : 0 ≤ (t337 : Int) := of_decide_eq_true (by first | (with_reducible assumption) | assumption); have q341 : t337 < (y338.length : Int) := of_decide_eq_true (by first | (with_reducible assumption) | assumption); obtain ⟨ad341, e341, hx341_0⟩ := Kd.at_int (Kd.R_reads' HO340.out).2.2 t337 p341 q341; cases e341; replace p341 := eq_true p341; replace q341 := eq_true q341))
            go_ret
            exact ⟨by first | rfl | (simp [errW_none, errW_some] <;> rfl) | (simp [*, errW_none, errW_some] <;> rfl), by repeat (first | (with_reducible first | exact HB.out | apply below_alloc | apply pw_below_drewN | apply below_drew1) | exact HB.out)⟩
          · rw [if_neg c8] at H
            exact absurd H (by simp)
        · rw [if_neg c7] at H
          exact absurd H (by simp)
      · replace c6 := Bool.eq_false_iff.mpr c6
        subst c6
        have H1 : (if a0.toList = ([68] : List UInt8) then (letterpresslaw2_Operand.j1 kj3 a1 t337 a0 (a0.toList == ([68] : List UInt8))) else (if a0.toList = ([65] : List UInt8) then (letterpresslaw2_Operand.j1 kj3 a1 t337 a0 (a0.toList == ([65] : List UInt8))) else (if a0.toList = ([66] : List UInt8) then (letterpresslaw2_Operand.j1 kj3 a1 t337 a0 (a0.toList == ([66] : List UInt8))) else (letterpresslaw2_Operand.j1 kj3 a1 t337 a0 (a0.toList == ([85, 53] : List UInt8)))))) = some r := by rw [if_neg (show ¬ (false = true) by decide)] at H; exact H
        clear H
        have H := H1
        clear H1
        have HC12 := Aside0.mk H
        clear H
        go_upto_if 16 with (fail)
        go_cut [16] (fun v16 wc => ∃ (kq : Nat) (x16_11 : Bool), v16 = .bool x16_11 ∧ Aside0 (letterpresslaw2_Operand.j1 kq a1 t337 a0 x16_11 = some r) ∧ Aside0 (kq ≤ kj3) ∧ Aside0 (Below w.heap.size w wc))
        case first =>
          have H := HC12.out
          clear HC12
          by_cases c13 : a0.toList = ([68] : List UInt8)
          · rw [if_pos c13] at H
            have c13b0 : (a0.toList == ([68] : List UInt8)) = true := beq_iff_eq.mpr c13
            have c13b1 : (a0.toList != ([68] : List UInt8)) = false := bne_eq_false_iff_eq.mpr c13
            clear c13
            (first | rw [c13b0] | (simp only [i64_w, i32_w]; rw [c13b0]) | skip)
            have H' := Aside0.mk H
            clear H
            go_wp2
            go_meet
            case rel => exact ⟨_, ((a0.toList == ([68] : List UInt8))), (by first | rfl | (simp; done) | (simp [*]; done)), H', ⟨by have := HJ3.out; first | omega | exact Nat.le_refl _⟩, ⟨by repeat (first | (with_reducible first | exact HB.out | apply below_alloc | apply pw_below_drewN | apply below_drew1) | exact HB.out)⟩⟩
          · rw [if_neg c13] at H
            have c13b0 : (a0.toList == ([68] : List UInt8)) = false := beq_eq_false_iff_ne.mpr c13
            have c13b1 : (a0.toList != ([68] : List UInt8)) = true := bne_iff_ne.mpr c13
            (first | rw [c13b0] | (simp only [i64_w, i32_w]; rw [c13b0]) | skip)
            by_cases c14 : a0.toList = ([65] : List UInt8)
            · rw [if_pos c14] at H
              have c14b0 : (a0.toList == ([65] : List UInt8)) = true := beq_iff_eq.mpr c14
              have c14b1 : (a0.toList != ([65] : List UInt8)) = false := bne_eq_false_iff_eq.mpr c14
              clear c14
              have H' := Aside0.mk H
              clear H
              go_wp2
              go_meet
              case rel => exact ⟨_, ((a0.toList == ([65] : List UInt8))), (by first | rfl | (simp; done) | (simp [*]; done)), H', ⟨by have := HJ3.out; first | omega | exact Nat.le_refl _⟩, ⟨by repeat (first | (with_reducible first | exact HB.out | apply below_alloc | apply pw_below_drewN | apply below_drew1) | exact HB.out)⟩⟩
            · rw [if_neg c14] at H
              have c14b0 : (a0.toList == ([65] : List UInt8)) = false := beq_eq_false_iff_ne.mpr c14
              have c14b1 : (a0.toList != ([65] : List UInt8)) = true := bne_iff_ne.mpr c14
              by_cases c15 : a0.toList = ([66] : List UInt8)
              · rw [if_pos c15] at H
                have c15b0 : (a0.toList == ([66] : List UInt8)) = true := beq_iff_eq.mpr c15
                have c15b1 : (a0.toList != ([66] : List UInt8)) = false := bne_eq_false_iff_eq.mpr c15
                clear c15
                have H' := Aside0.mk H
                clear H
                go_wp2
                go_meet
                case rel => exact ⟨_, ((a0.toList == ([66] : List UInt8))), (by first | rfl | (simp; done) | (simp [*]; done)), H', ⟨by have := HJ3.out; first | omega | exact Nat.le_refl _⟩, ⟨by repeat (first | (with_reducible first | exact HB.out | apply below_alloc | apply pw_below_drewN | apply below_drew1) | exact HB.out)⟩⟩
              · rw [if_neg c15] at H
                have c15b0 : (a0.toList == ([66] : List UInt8)) = false := beq_eq_false_iff_ne.mpr c15
                have c15b1 : (a0.toList != ([66] : List UInt8)) = true := bne_iff_ne.mpr c15
                have H' := Aside0.mk H
                clear H
                go_wp2
                go_meet
                case rel => exact ⟨_, ((a0.toList == ([85, 53] : List UInt8))), (by first | rfl | (simp; done) | (simp [*]; done)), H', ⟨by have := HJ3.out; first | omega | exact Nat.le_refl _⟩, ⟨by repeat (first | (with_reducible first | exact HB.out | apply below_alloc | apply pw_below_drewN | apply below_drew1) | exact HB.out)⟩⟩
        case rest =>
          clear HC12
          try clear c1
          try clear c2
          try clear p2
          try clear p3
          try clear q3
          try clear hx3
          try clear c5
          try clear c5b0
          try clear c5b1
          try clear c6
          try clear c7
          try clear c7b0
          try clear c8
          try clear c8b0
          try clear c13
          try clear c13b0
          try clear c13b1
          try clear c14
          try clear c14b0
          try clear c14b1
          try clear c15
          try clear c15b0
          try clear c15b1
          try clear hx341_0
          try clear p2
          try clear p341
          try clear q341
          obtain ⟨kq, x16_11, rfl, HA, HJ11, HB⟩ := hcut
          cases kq with
          | zero => exact absurd HA.out (by simp [letterpresslaw2_Operand.j1])
          | succ kj11 =>
            have H := HA.out
            clear HA
            simp only [letterpresslaw2_Operand.j1] at H
            by_cases c16 : x16_11 = true
            · subst c16
              have H1 : ((some (([0, 31, 1, 15, 16, 7, 30, 12, 3] : List Int) : List Int)).bind fun y342 => (if 0 ≤ t337 then (if t337 < (y342.length : Int) then (some (rd y342 t337)) else (none)) else (none))) = some r := by rw [if_pos rfl] at H; exact H
              clear H
              have H := H1
              clear H1
              obtain ⟨y342, hy342⟩ : ∃ y_ : List Int, y_ = (([0, 31, 1, 15, 16, 7, 30, 12, 3] : List Int)) := ⟨_, rfl⟩
              replace H : (if 0 ≤ t337 then (if t337 < (y342.length : Int) then (some (rd y342 t337)) else (none)) else (none)) = some r := by first | (rw [hy342]; with_reducible exact H) | (have H2_ := (Option.bind_some _ _).symm.trans H; rw [hy342]; with_reducible exact H2_) | (have H2_ := (Option.bind_some _ _).symm.trans H; with_reducible exact H2_) | with_reducible exact H | (rw [hy342]; exact H) | exact H
              have Ny342 := Aside0.mk hy342
              clear hy342
              by_cases c17 : 0 ≤ t337
              · rw [if_pos c17] at H
                have c17b0 : decide (0 ≤ t337) = true := decide_eq_true c17
                clear c17
                by_cases c18 : t337 < (y342.length : Int)
                · rw [if_pos c18] at H
                  have c18b0 : decide (t337 < (y342.length : Int)) = true := decide_eq_true c18
                  clear c18
                  obtain rfl := Option.some.inj H
                  go_wp2_with (first | ((with_reducible refine gate_dst (N := 21) rfl ?_); refine Kd.R_lit (Kd.int .i64) _ 3 ?hg (N := 21) ?hd (xs := ([0, 31, 1, 15, 16, 7, 30, 12, 3] : List Int)) (inner := [.int .i64 0, .int .i64 31, .int .i64 1, .int .i64 15, .int .i64 16, .int .i64 7, .int .i64 30, .int .i64 12, .int .i64 3]) (ok := fun _ => True) (okp := fun _ => True) ?hr ?hp (fun _ hk => hk) trivial (Below.refl _ _) (Nat.le_refl _) (by simp) ?_; (case hd => rfl); (case hg => rfl); (case hr => first | (go_simp; done) | (go_simp; rfl)); (case hp => exact (Reps.one (show Kd.M (Kd.int .i64) _ _ _ 0 [.int .i64 0] from rfl) (Reps.one (show Kd.M (Kd.int .i64) _ _ _ 31 [.int .i64 31] from rfl) (Reps.one (show Kd.M (Kd.int .i64) _ _ _ 1 [.int .i64 1] from rfl) (Reps.one (show Kd.M (Kd.int .i64) _ _ _ 15 [.int .i64 15] from rfl) (Reps.one (show Kd.M (Kd.int .i64) _ _ _ 16 [.int .i64 16] from rfl) (Reps.one (show Kd.M (Kd.int .i64) _ _ _ 7 [.int .i64 7] from rfl) (Reps.one (show Kd.M (Kd.int .i64) _ _ _ 30 [.int .i64 30] from rfl) (Reps.one (show Kd.M (Kd.int .i64) _ _ _ 12 [.int .i64 12] from rfl) (Reps.one (show Kd.M (Kd.int .i64) _ _ _ 3 [.int .i64 3] from rfl) (Reps.none _ _))))))))))); intro v343 w19 ho20 hb hg_ hnew_; clear hg_ hnew_; (first | rw [← Ny342.out] at ho20 | (simp only [Int.reduceToNat] at ho20; rw [← Ny342.out] at ho20)); have n0_ := Aside0.mk (Kd.R_lower ho20 (below_size (by repeat (first | (with_reducible first | exact HB.out | apply below_alloc | apply pw_below_drewN | apply below_drew1) | exact HB.out)))); have n1_ := Aside0.mk (below_step (by repeat (first | (with_reducible first | exact HB.out | apply below_alloc | apply pw_below_drewN | apply below_drew1) | exact HB.out)) hb); clear HB; have HO344 := n0_; have HB := n1_; clear n0_ n1_; clear hb ho20; obtain ⟨Ao21, co21, eo21⟩ := Kd.R_slice HO344.out; subst eo21; have p345 : 0 ≤ (t337 : Int) := of_decide_eq_true (by first | (with_reducible assumption) | assumption); have q345 : t337 < (y342.length : Int) := of_decide_eq_true (by first | (with_reducible assumption) | assumption); obtain ⟨ad345, e345, hx345_0⟩ := Kd.at_int (Kd.R_reads' HO344.out).2.2 t337 p345 q345; cases e345; replace p345 := eq_true p345; replace q345 := eq_true q345))
                  go_ret
                  exact ⟨by first | rfl | (simp [errW_none, errW_some] <;> rfl) | (simp [*, errW_none, errW_some] <;> rfl), by repeat (first | (with_reducible first | exact HB.out | apply below_alloc | apply pw_below_drewN | apply below_drew1) | exact HB.out)⟩
                · rw [if_neg c18] at H
                  exact absurd H (by simp)
              · rw [if_neg c17] at H
                exact absurd H (by simp)
            · replace c16 := Bool.eq_false_iff.mpr c16
              subst c16
              have H1 : (if a0.toList = ([85, 55] : List UInt8) then ((some (([0, 127, 64, 1, 63, 100, 7, 15, 16] : List Int) : List Int)).bind fun y346 => (if 0 ≤ t337 then (if t337 < (y346.length : Int) then (some (rd y346 t337)) else (none)) else (none))) else (if a0.toList = ([79, 53] : List UInt8) then ((some (([1, 32, 2, 16, 31, 17, 8, 5, 30] : List Int) : List Int)).bind fun y350 => (if 0 ≤ t337 then (if t337 < (y350.length : Int) then (some (rd y350 t337)) else (none)) else (none))) else (if a0.toList = ([77, 49] : List UInt8) then (letterpresslaw2_Operand.j2 kj11 a1 t337 a0 (a0.toList == ([77, 49] : List UInt8))) else (letterpresslaw2_Operand.j2 kj11 a1 t337 a0 (a0.toList == ([73, 52] : List UInt8)))))) = some r := by rw [if_neg (show ¬ (false = true) by decide)] at H; exact H
              clear H
              have H := H1
              clear H1
              by_cases c22 : a0.toList = ([85, 55] : List UInt8)
              · rw [if_pos c22] at H
                have c22b0 : (a0.toList == ([85, 55] : List UInt8)) = true := beq_iff_eq.mpr c22
                have c22b1 : (a0.toList != ([85, 55] : List UInt8)) = false := bne_eq_false_iff_eq.mpr c22
                clear c22
                obtain ⟨y346, hy346⟩ : ∃ y_ : List Int, y_ = (([0, 127, 64, 1, 63, 100, 7, 15, 16] : List Int)) := ⟨_, rfl⟩
                replace H : (if 0 ≤ t337 then (if t337 < (y346.length : Int) then (some (rd y346 t337)) else (none)) else (none)) = some r := by first | (rw [hy346]; with_reducible exact H) | (have H2_ := (Option.bind_some _ _).symm.trans H; rw [hy346]; with_reducible exact H2_) | (have H2_ := (Option.bind_some _ _).symm.trans H; with_reducible exact H2_) | with_reducible exact H | (rw [hy346]; exact H) | exact H
                have Ny346 := Aside0.mk hy346
                clear hy346
                by_cases c23 : 0 ≤ t337
                · rw [if_pos c23] at H
                  have c23b0 : decide (0 ≤ t337) = true := decide_eq_true c23
                  clear c23
                  by_cases c24 : t337 < (y346.length : Int)
                  · rw [if_pos c24] at H
                    have c24b0 : decide (t337 < (y346.length : Int)) = true := decide_eq_true c24
                    clear c24
                    obtain rfl := Option.some.inj H
                    go_wp2_with (first | ((with_reducible refine gate_dst (N := 27) rfl ?_); refine Kd.R_lit (Kd.int .i64) _ 3 ?hg (N := 27) ?hd (xs := ([0, 127, 64, 1, 63, 100, 7, 15, 16] : List Int)) (inner := [.int .i64 0, .int .i64 127, .int .i64 64, .int .i64 1, .int .i64 63, .int .i64 100, .int .i64 7, .int .i64 15, .int .i64 16]) (ok := fun _ => True) (okp := fun _ => True) ?hr ?hp (fun _ hk => hk) trivial (Below.refl _ _) (Nat.le_refl _) (by simp) ?_; (case hd => rfl); (case hg => rfl); (case hr => first | (go_simp; done) | (go_simp; rfl)); (case hp => exact (Reps.one (show Kd.M (Kd.int .i64) _ _ _ 0 [.int .i64 0] from rfl) (Reps.one (show Kd.M (Kd.int .i64) _ _ _ 127 [.int .i64 127] from rfl) (Reps.one (show Kd.M (Kd.int .i64) _ _ _ 64 [.int .i64 64] from rfl) (Reps.one (show Kd.M (Kd.int .i64) _ _ _ 1 [.int .i64 1] from rfl) (Reps.one (show Kd.M (Kd.int .i64) _ _ _ 63 [.int .i64 63] from rfl) (Reps.one (show Kd.M (Kd.int .i64) _ _ _ 100 [.int .i64 100] from rfl) (Reps.one (show Kd.M (Kd.int .i64) _ _ _ 7 [.int .i64 7] from rfl) (Reps.one (show Kd.M (Kd.int .i64) _ _ _ 15 [.int .i64 15] from rfl) (Reps.one (show Kd.M (Kd.int .i64) _ _ _ 16 [.int .i64 16] from rfl) (Reps.none _ _))))))))))); intro v347 w25 ho26 hb hg_ hnew_; clear hg_ hnew_; (first | rw [← Ny346.out] at ho26 | (simp only [Int.reduceToNat] at ho26; rw [← Ny346.out] at ho26)); have n0_ := Aside0.mk (Kd.R_lower ho26 (below_size (by repeat (first | (with_reducible first | exact HB.out | apply below_alloc | apply pw_below_drewN | apply below_drew1) | exact HB.out)))); have n1_ := Aside0.mk (below_step (by repeat (first | (with_reducible first | exact HB.out | apply below_alloc | apply pw_below_drewN | apply below_drew1) | exact HB.out)) hb); clear HB; have HO348 := n0_; have HB := n1_; clear n0_ n1_; clear hb ho26; obtain ⟨Ao27, co27, eo27⟩ := Kd.R_slice HO348.out; subst eo27; have p349 : 0 ≤ (t337 : Int) := of_decide_eq_true (by first | (with_reducible assumption) | assumption); have q349 : t337 < (y346.length : Int) := of_decide_eq_true (by first | (with_reducible assumption) | assumption); obtain ⟨ad349, e349, hx349_0⟩ := Kd.at_int (Kd.R_reads' HO348.out).2.2 t337 p349 q349; cases e349; replace p349 := eq_true p349; replace q349 := eq_true q349))
                    go_ret
                    exact ⟨by first | rfl | (simp [errW_none, errW_some] <;> rfl) | (simp [*, errW_none, errW_some] <;> rfl), by repeat (first | (with_reducible first | exact HB.out | apply below_alloc | apply pw_below_drewN | apply below_drew1) | exact HB.out)⟩
                  · rw [if_neg c24] at H
                    exact absurd H (by simp)
                · rw [if_neg c23] at H
                  exact absurd H (by simp)
              · rw [if_neg c22] at H
                have c22b0 : (a0.toList == ([85, 55] : List UInt8)) = false := beq_eq_false_iff_ne.mpr c22
                have c22b1 : (a0.toList != ([85, 55] : List UInt8)) = true := bne_iff_ne.mpr c22
                by_cases c28 : a0.toList = ([79, 53] : List UInt8)
                · rw [if_pos c28] at H
                  have c28b0 : (a0.toList == ([79, 53] : List UInt8)) = true := beq_iff_eq.mpr c28
                  have c28b1 : (a0.toList != ([79, 53] : List UInt8)) = false := bne_eq_false_iff_eq.mpr c28
                  clear c28
                  obtain ⟨y350, hy350⟩ : ∃ y_ : List Int, y_ = (([1, 32, 2, 16, 31, 17, 8, 5, 30] : List Int)) := ⟨_, rfl⟩
                  replace H : (if 0 ≤ t337 then (if t337 < (y350.length : Int) then (some (rd y350 t337)) else (none)) else (none)) = some r := by first | (rw [hy350]; with_reducible exact H) | (have H2_ := (Option.bind_some _ _).symm.trans H; rw [hy350]; with_reducible exact H2_) | (have H2_ := (Option.bind_some _ _).symm.trans H; with_reducible exact H2_) | with_reducible exact H | (rw [hy350]; exact H) | exact H
                  have Ny350 := Aside0.mk hy350
                  clear hy350
                  by_cases c29 : 0 ≤ t337
                  · rw [if_pos c29] at H
                    have c29b0 : decide (0 ≤ t337) = true := decide_eq_true c29
                    clear c29
                    by_cases c30 : t337 < (y350.length : Int)
                    · rw [if_pos c30] at H
                      have c30b0 : decide (t337 < (y350.length : Int)) = true := decide_eq_true c30
                      clear c30
                      obtain rfl := Option.some.inj H
                      go_wp2_with (first | ((with_reducible refine gate_dst (N := 33) rfl ?_); refine Kd.R_lit (Kd.int .i64) _ 3 ?hg (N := 33) ?hd (xs := ([1, 32, 2, 16, 31, 17, 8, 5, 30] : List Int)) (inner := [.int .i64 1, .int .i64 32, .int .i64 2, .int .i64 16, .int .i64 31, .int .i64 17, .int .i64 8, .int .i64 5, .int .i64 30]) (ok := fun _ => True) (okp := fun _ => True) ?hr ?hp (fun _ hk => hk) trivial (Below.refl _ _) (Nat.le_refl _) (by simp) ?_; (case hd => rfl); (case hg => rfl); (case hr => first | (go_simp; done) | (go_simp; rfl)); (case hp => exact (Reps.one (show Kd.M (Kd.int .i64) _ _ _ 1 [.int .i64 1] from rfl) (Reps.one (show Kd.M (Kd.int .i64) _ _ _ 32 [.int .i64 32] from rfl) (Reps.one (show Kd.M (Kd.int .i64) _ _ _ 2 [.int .i64 2] from rfl) (Reps.one (show Kd.M (Kd.int .i64) _ _ _ 16 [.int .i64 16] from rfl) (Reps.one (show Kd.M (Kd.int .i64) _ _ _ 31 [.int .i64 31] from rfl) (Reps.one (show Kd.M (Kd.int .i64) _ _ _ 17 [.int .i64 17] from rfl) (Reps.one (show Kd.M (Kd.int .i64) _ _ _ 8 [.int .i64 8] from rfl) (Reps.one (show Kd.M (Kd.int .i64) _ _ _ 5 [.int .i64 5] from rfl) (Reps.one (show Kd.M (Kd.int .i64) _ _ _ 30 [.int .i64 30] from rfl) (Reps.none _ _))))))))))); intro v351 w31 ho32 hb hg_ hnew_; clear hg_ hnew_; (first | rw [← Ny350.out] at ho32 | (simp only [Int.reduceToNat] at ho32; rw [← Ny350.out] at ho32)); have n0_ := Aside0.mk (Kd.R_lower ho32 (below_size (by repeat (first | (with_reducible first | exact HB.out | apply below_alloc | apply pw_below_drewN | apply below_drew1) | exact HB.out)))); have n1_ := Aside0.mk (below_step (by repeat (first | (with_reducible first | exact HB.out | apply below_alloc | apply pw_below_drewN | apply below_drew1) | exact HB.out)) hb); clear HB; have HO352 := n0_; have HB := n1_; clear n0_ n1_; clear hb ho32; obtain ⟨Ao33, co33, eo33⟩ := Kd.R_slice HO352.out; subst eo33; have p353 : 0 ≤ (t337 : Int) := of_decide_eq_true (by first | (with_reducible assumption) | assumption); have q353 : t337 < (y350.length : Int) := of_decide_eq_true (by first | (with_reducible assumption) | assumption); obtain ⟨ad353, e353, hx353_0⟩ := Kd.at_int (Kd.R_reads' HO352.out).2.2 t337 p353 q353; cases e353; replace p353 := eq_true p353; replace q353 := eq_true q353))
                      go_ret
                      exact ⟨by first | rfl | (simp [errW_none, errW_some] <;> rfl) | (simp [*, errW_none, errW_some] <;> rfl), by repeat (first | (with_reducible first | exact HB.out | apply below_alloc | apply pw_below_drewN | apply below_drew1) | exact HB.out)⟩
                    · rw [if_neg c30] at H
                      exact absurd H (by simp)
                  · rw [if_neg c29] at H
                    exact absurd H (by simp)
                · rw [if_neg c28] at H
                  have c28b0 : (a0.toList == ([79, 53] : List UInt8)) = false := beq_eq_false_iff_ne.mpr c28
                  have c28b1 : (a0.toList != ([79, 53] : List UInt8)) = true := bne_iff_ne.mpr c28
                  have HC34 := Aside0.mk H
                  clear H
                  go_upto_if 37 with (fail)
                  go_cut [37] (fun v37 wc => ∃ (kq : Nat) (x37_33 : Bool), v37 = .bool x37_33 ∧ Aside0 (letterpresslaw2_Operand.j2 kq a1 t337 a0 x37_33 = some r) ∧ Aside0 (kq ≤ kj11) ∧ Aside0 (Below w.heap.size w wc))
                  case first =>
                    have H := HC34.out
                    clear HC34
                    by_cases c35 : a0.toList = ([77, 49] : List UInt8)
                    · rw [if_pos c35] at H
                      have c35b0 : (a0.toList == ([77, 49] : List UInt8)) = true := beq_iff_eq.mpr c35
                      have c35b1 : (a0.toList != ([77, 49] : List UInt8)) = false := bne_eq_false_iff_eq.mpr c35
                      clear c35
                      (first | rw [c35b0] | (simp only [i64_w, i32_w]; rw [c35b0]) | skip)
                      have H' := Aside0.mk H
                      clear H
                      go_wp2
                      go_meet
                      case rel => exact ⟨_, ((a0.toList == ([77, 49] : List UInt8))), (by first | rfl | (simp; done) | (simp [*]; done)), H', ⟨by have := HJ3.out; have := HJ11.out; first | omega | exact Nat.le_refl _⟩, ⟨by repeat (first | (with_reducible first | exact HB.out | apply below_alloc | apply pw_below_drewN | apply below_drew1) | exact HB.out)⟩⟩
                    · rw [if_neg c35] at H
                      have c35b0 : (a0.toList == ([77, 49] : List UInt8)) = false := beq_eq_false_iff_ne.mpr c35
                      have c35b1 : (a0.toList != ([77, 49] : List UInt8)) = true := bne_iff_ne.mpr c35
                      (first | rw [c35b0] | (simp only [i64_w, i32_w]; rw [c35b0]) | skip)
                      have H' := Aside0.mk H
                      clear H
                      go_wp2
                      go_meet
                      case rel => exact ⟨_, ((a0.toList == ([73, 52] : List UInt8))), (by first | rfl | (simp; done) | (simp [*]; done)), H', ⟨by have := HJ3.out; have := HJ11.out; first | omega | exact Nat.le_refl _⟩, ⟨by repeat (first | (with_reducible first | exact HB.out | apply below_alloc | apply pw_below_drewN | apply below_drew1) | exact HB.out)⟩⟩
                  case rest =>
                    clear HC34
                    try clear c1
                    try clear c2
                    try clear p2
                    try clear c3
                    try clear p3
                    try clear q3
                    try clear hx3
                    try clear c5
                    try clear c5b0
                    try clear c5b1
                    try clear c6
                    try clear c7
                    try clear c7b0
                    try clear c8
                    try clear c8b0
                    try clear c13
                    try clear c13b0
                    try clear c13b1
                    try clear c14
                    try clear c14b0
                    try clear c14b1
                    try clear c15
                    try clear c15b0
                    try clear c15b1
                    try clear c16
                    try clear c17
                    try clear c17b0
                    try clear c18
                    try clear c18b0
                    try clear c22
                    try clear c22b0
                    try clear c22b1
                    try clear c23
                    try clear c23b0
                    try clear c24
                    try clear c24b0
                    try clear c28
                    try clear c28b0
                    try clear c28b1
                    try clear c29
                    try clear c29b0
                    try clear c30
                    try clear c30b0
                    try clear p34
                    try clear q34
                    try clear hx34
                    try clear c35
                    try clear c35b0
                    try clear c35b1
                    try clear p35
                    try clear q35
                    try clear hx35
                    try clear hx341_0
                    try clear hx345_0
                    try clear hx349_0
                    try clear hx353_0
                    try clear p2
                    try clear p3
                    try clear p341
                    try clear p345
                    try clear p349
                    try clear p353
                    try clear q3
                    try clear q341
                    try clear q345
                    try clear q349
                    try clear q353
                    obtain ⟨kq, x37_33, rfl, HA, HJ33, HB⟩ := hcut
                    cases kq with
                    | zero => exact absurd HA.out (by simp [letterpresslaw2_Operand.j2])
                    | succ kj33 =>
                      have H := HA.out
                      clear HA
                      simp only [letterpresslaw2_Operand.j2] at H
                      by_cases c36 : x37_33 = true
                      · subst c36
                        have H1 : ((some (([0, 15, 1, 7, 8, 4, 12, 3, 14] : List Int) : List Int)).bind fun y354 => (if 0 ≤ t337 then (if t337 < (y354.length : Int) then (some (rd y354 t337)) else (none)) else (none))) = some r := by rw [if_pos rfl] at H; exact H
                        clear H
                        have H := H1
                        clear H1
                        obtain ⟨y354, hy354⟩ : ∃ y_ : List Int, y_ = (([0, 15, 1, 7, 8, 4, 12, 3, 14] : List Int)) := ⟨_, rfl⟩
                        replace H : (if 0 ≤ t337 then (if t337 < (y354.length : Int) then (some (rd y354 t337)) else (none)) else (none)) = some r := by first | (rw [hy354]; with_reducible exact H) | (have H2_ := (Option.bind_some _ _).symm.trans H; rw [hy354]; with_reducible exact H2_) | (have H2_ := (Option.bind_some _ _).symm.trans H; with_reducible exact H2_) | with_reducible exact H | (rw [hy354]; exact H) | exact H
                        have Ny354 := Aside0.mk hy354
                        clear hy354
                        by_cases c37 : 0 ≤ t337
                        · rw [if_pos c37] at H
                          have c37b0 : decide (0 ≤ t337) = true := decide_eq_true c37
                          clear c37
                          by_cases c38 : t337 < (y354.length : Int)
                          · rw [if_pos c38] at H
                            have c38b0 : decide (t337 < (y354.length : Int)) = true := decide_eq_true c38
                            clear c38
                            obtain rfl := Option.some.inj H
                            go_wp2_with (first | ((with_reducible refine gate_dst (N := 40) rfl ?_); refine Kd.R_lit (Kd.int .i64) _ 3 ?hg (N := 40) ?hd (xs := ([0, 15, 1, 7, 8, 4, 12, 3, 14] : List Int)) (inner := [.int .i64 0, .int .i64 15, .int .i64 1, .int .i64 7, .int .i64 8, .int .i64 4, .int .i64 12, .int .i64 3, .int .i64 14]) (ok := fun _ => True) (okp := fun _ => True) ?hr ?hp (fun _ hk => hk) trivial (Below.refl _ _) (Nat.le_refl _) (by simp) ?_; (case hd => rfl); (case hg => rfl); (case hr => first | (go_simp; done) | (go_simp; rfl)); (case hp => exact (Reps.one (show Kd.M (Kd.int .i64) _ _ _ 0 [.int .i64 0] from rfl) (Reps.one (show Kd.M (Kd.int .i64) _ _ _ 15 [.int .i64 15] from rfl) (Reps.one (show Kd.M (Kd.int .i64) _ _ _ 1 [.int .i64 1] from rfl) (Reps.one (show Kd.M (Kd.int .i64) _ _ _ 7 [.int .i64 7] from rfl) (Reps.one (show Kd.M (Kd.int .i64) _ _ _ 8 [.int .i64 8] from rfl) (Reps.one (show Kd.M (Kd.int .i64) _ _ _ 4 [.int .i64 4] from rfl) (Reps.one (show Kd.M (Kd.int .i64) _ _ _ 12 [.int .i64 12] from rfl) (Reps.one (show Kd.M (Kd.int .i64) _ _ _ 3 [.int .i64 3] from rfl) (Reps.one (show Kd.M (Kd.int .i64) _ _ _ 14 [.int .i64 14] from rfl) (Reps.none _ _))))))))))); intro v355 w39 ho40 hb hg_ hnew_; clear hg_ hnew_; (first | rw [← Ny354.out] at ho40 | (simp only [Int.reduceToNat] at ho40; rw [← Ny354.out] at ho40)); have n0_ := Aside0.mk (Kd.R_lower ho40 (below_size (by repeat (first | (with_reducible first | exact HB.out | apply below_alloc | apply pw_below_drewN | apply below_drew1) | exact HB.out)))); have n1_ := Aside0.mk (below_step (by repeat (first | (with_reducible first | exact HB.out | apply below_alloc | apply pw_below_drewN | apply below_drew1) | exact HB.out)) hb); clear HB; have HO356 := n0_; have HB := n1_; clear n0_ n1_; clear hb ho40; obtain ⟨Ao41, co41, eo41⟩ := Kd.R_slice HO356.out; subst eo41; have p357 : 0 ≤ (t337 : Int) := of_decide_eq_true (by first | (with_reducible assumption) | assumption); have q357 : t337 < (y354.length : Int) := of_decide_eq_true (by first | (with_reducible assumption) | assumption); obtain ⟨ad357, e357, hx357_0⟩ := Kd.at_int (Kd.R_reads' HO356.out).2.2 t337 p357 q357; cases e357; replace p357 := eq_true p357; replace q357 := eq_true q357))
                            go_ret
                            exact ⟨by first | rfl | (simp [errW_none, errW_some] <;> rfl) | (simp [*, errW_none, errW_some] <;> rfl), by repeat (first | (with_reducible first | exact HB.out | apply below_alloc | apply pw_below_drewN | apply below_drew1) | exact HB.out)⟩
                          · rw [if_neg c38] at H
                            exact absurd H (by simp)
                        · rw [if_neg c37] at H
                          exact absurd H (by simp)
                      · replace c36 := Bool.eq_false_iff.mpr c36
                        subst c36
                        have H1 : (if a0.toList = ([77, 50] : List UInt8) then ((some (([0, 15, 1, 7, 8, 4, 12, 3, 14] : List Int) : List Int)).bind fun y358 => (if 0 ≤ t337 then (if t337 < (y358.length : Int) then (some (wrap64 (2 * (rd y358 t337)))) else (none)) else (none))) else (if a0.toList = ([77, 52] : List UInt8) then ((some (([0, 15, 1, 7, 8, 4, 12, 3, 14] : List Int) : List Int)).bind fun y362 => (if 0 ≤ t337 then (if t337 < (y362.length : Int) then (some (wrap64 (4 * (rd y362 t337)))) else (none)) else (none))) else (if a0.toList = ([79, 49] : List UInt8) then ((letterpresslaw2_within.f a1 2).bind fun t366 => (some t366)) else (if a0.toList = ([73, 50] : List UInt8) then (letterpresslaw2_Operand.j3 kj33 a1 t337 a0 (a0.toList == ([73, 50] : List UInt8))) else (letterpresslaw2_Operand.j3 kj33 a1 t337 a0 (a0.toList == ([79, 50] : List UInt8))))))) = some r := by rw [if_neg (show ¬ (false = true) by decide)] at H; exact H
                        clear H
                        have H := H1
                        clear H1
                        by_cases c42 : a0.toList = ([77, 50] : List UInt8)
                        · rw [if_pos c42] at H
                          have c42b0 : (a0.toList == ([77, 50] : List UInt8)) = true := beq_iff_eq.mpr c42
                          have c42b1 : (a0.toList != ([77, 50] : List UInt8)) = false := bne_eq_false_iff_eq.mpr c42
                          clear c42
                          obtain ⟨y358, hy358⟩ : ∃ y_ : List Int, y_ = (([0, 15, 1, 7, 8, 4, 12, 3, 14] : List Int)) := ⟨_, rfl⟩
                          replace H : (if 0 ≤ t337 then (if t337 < (y358.length : Int) then (some (wrap64 (2 * (rd y358 t337)))) else (none)) else (none)) = some r := by first | (rw [hy358]; with_reducible exact H) | (have H2_ := (Option.bind_some _ _).symm.trans H; rw [hy358]; with_reducible exact H2_) | (have H2_ := (Option.bind_some _ _).symm.trans H; with_reducible exact H2_) | with_reducible exact H | (rw [hy358]; exact H) | exact H
                          have Ny358 := Aside0.mk hy358
                          clear hy358
                          by_cases c43 : 0 ≤ t337
                          · rw [if_pos c43] at H
                            have c43b0 : decide (0 ≤ t337) = true := decide_eq_true c43
                            clear c43
                            by_cases c44 : t337 < (y358.length : Int)
                            · rw [if_pos c44] at H
                              have c44b0 : decide (t337 < (y358.length : Int)) = true := decide_eq_true c44
                              clear c44
                              obtain rfl := Option.some.inj H
                              go_wp2_with (first | ((with_reducible refine gate_dst (N := 46) rfl ?_); refine Kd.R_lit (Kd.int .i64) _ 3 ?hg (N := 46) ?hd (xs := ([0, 15, 1, 7, 8, 4, 12, 3, 14] : List Int)) (inner := [.int .i64 0, .int .i64 15, .int .i64 1, .int .i64 7, .int .i64 8, .int .i64 4, .int .i64 12, .int .i64 3, .int .i64 14]) (ok := fun _ => True) (okp := fun _ => True) ?hr ?hp (fun _ hk => hk) trivial (Below.refl _ _) (Nat.le_refl _) (by simp) ?_; (case hd => rfl); (case hg => rfl); (case hr => first | (go_simp; done) | (go_simp; rfl)); (case hp => exact (Reps.one (show Kd.M (Kd.int .i64) _ _ _ 0 [.int .i64 0] from rfl) (Reps.one (show Kd.M (Kd.int .i64) _ _ _ 15 [.int .i64 15] from rfl) (Reps.one (show Kd.M (Kd.int .i64) _ _ _ 1 [.int .i64 1] from rfl) (Reps.one (show Kd.M (Kd.int .i64) _ _ _ 7 [.int .i64 7] from rfl) (Reps.one (show Kd.M (Kd.int .i64) _ _ _ 8 [.int .i64 8] from rfl) (Reps.one (show Kd.M (Kd.int .i64) _ _ _ 4 [.int .i64 4] from rfl) (Reps.one (show Kd.M (Kd.int .i64) _ _ _ 12 [.int .i64 12] from rfl) (Reps.one (show Kd.M (Kd.int .i64) _ _ _ 3 [.int .i64 3] from rfl) (Reps.one (show Kd.M (Kd.int .i64) _ _ _ 14 [.int .i64 14] from rfl) (Reps.none _ _))))))))))); intro v359 w45 ho46 hb hg_ hnew_; clear hg_ hnew_; (first | rw [← Ny358.out] at ho46 | (simp only [Int.reduceToNat] at ho46; rw [← Ny358.out] at ho46)); have n0_ := Aside0.mk (Kd.R_lower ho46 (below_size (by repeat (first | (with_reducible first | exact HB.out | apply below_alloc | apply pw_below_drewN | apply below_drew1) | exact HB.out)))); have n1_ := Aside0.mk (below_step (by repeat (first | (with_reducible first | exact HB.out | apply below_alloc | apply pw_below_drewN | apply below_drew1) | exact HB.out)) hb); clear HB; have HO360 := n0_; have HB := n1_; clear n0_ n1_; clear hb ho46; obtain ⟨Ao47, co47, eo47⟩ := Kd.R_slice HO360.out; subst eo47; have p361 : 0 ≤ (t337 : Int) := of_decide_eq_true (by first | (with_reducible assumption) | assumption); have q361 : t337 < (y358.length : Int) := of_decide_eq_true (by first | (with_reducible assumption) | assumption); obtain ⟨ad361, e361, hx361_0⟩ := Kd.at_int (Kd.R_reads' HO360.out).2.2 t337 p361 q361; cases e361; replace p361 := eq_true p361; replace q361 := eq_true q361))
                              go_ret
                              exact ⟨by first | rfl | (simp [errW_none, errW_some] <;> rfl) | (simp [*, errW_none, errW_some] <;> rfl), by repeat (first | (with_reducible first | exact HB.out | apply below_alloc | apply pw_below_drewN | apply below_drew1) | exact HB.out)⟩
                            · rw [if_neg c44] at H
                              exact absurd H (by simp)
                          · rw [if_neg c43] at H
                            exact absurd H (by simp)
                        · rw [if_neg c42] at H
                          have c42b0 : (a0.toList == ([77, 50] : List UInt8)) = false := beq_eq_false_iff_ne.mpr c42
                          have c42b1 : (a0.toList != ([77, 50] : List UInt8)) = true := bne_iff_ne.mpr c42
                          by_cases c48 : a0.toList = ([77, 52] : List UInt8)
                          · rw [if_pos c48] at H
                            have c48b0 : (a0.toList == ([77, 52] : List UInt8)) = true := beq_iff_eq.mpr c48
                            have c48b1 : (a0.toList != ([77, 52] : List UInt8)) = false := bne_eq_false_iff_eq.mpr c48
                            clear c48
                            obtain ⟨y362, hy362⟩ : ∃ y_ : List Int, y_ = (([0, 15, 1, 7, 8, 4, 12, 3, 14] : List Int)) := ⟨_, rfl⟩
                            replace H : (if 0 ≤ t337 then (if t337 < (y362.length : Int) then (some (wrap64 (4 * (rd y362 t337)))) else (none)) else (none)) = some r := by first | (rw [hy362]; with_reducible exact H) | (have H2_ := (Option.bind_some _ _).symm.trans H; rw [hy362]; with_reducible exact H2_) | (have H2_ := (Option.bind_some _ _).symm.trans H; with_reducible exact H2_) | with_reducible exact H | (rw [hy362]; exact H) | exact H
                            have Ny362 := Aside0.mk hy362
                            clear hy362
                            by_cases c49 : 0 ≤ t337
                            · rw [if_pos c49] at H
                              have c49b0 : decide (0 ≤ t337) = true := decide_eq_true c49
                              clear c49
                              by_cases c50 : t337 < (y362.length : Int)
                              · rw [if_pos c50] at H
                                have c50b0 : decide (t337 < (y362.length : Int)) = true := decide_eq_true c50
                                clear c50
                                obtain rfl := Option.some.inj H
                                go_wp2_with (first | ((with_reducible refine gate_dst (N := 53) rfl ?_); refine Kd.R_lit (Kd.int .i64) _ 3 ?hg (N := 53) ?hd (xs := ([0, 15, 1, 7, 8, 4, 12, 3, 14] : List Int)) (inner := [.int .i64 0, .int .i64 15, .int .i64 1, .int .i64 7, .int .i64 8, .int .i64 4, .int .i64 12, .int .i64 3, .int .i64 14]) (ok := fun _ => True) (okp := fun _ => True) ?hr ?hp (fun _ hk => hk) trivial (Below.refl _ _) (Nat.le_refl _) (by simp) ?_; (case hd => rfl); (case hg => rfl); (case hr => first | (go_simp; done) | (go_simp; rfl)); (case hp => exact (Reps.one (show Kd.M (Kd.int .i64) _ _ _ 0 [.int .i64 0] from rfl) (Reps.one (show Kd.M (Kd.int .i64) _ _ _ 15 [.int .i64 15] from rfl) (Reps.one (show Kd.M (Kd.int .i64) _ _ _ 1 [.int .i64 1] from rfl) (Reps.one (show Kd.M (Kd.int .i64) _ _ _ 7 [.int .i64 7] from rfl) (Reps.one (show Kd.M (Kd.int .i64) _ _ _ 8 [.int .i64 8] from rfl) (Reps.one (show Kd.M (Kd.int .i64) _ _ _ 4 [.int .i64 4] from rfl) (Reps.one (show Kd.M (Kd.int .i64) _ _ _ 12 [.int .i64 12] from rfl) (Reps.one (show Kd.M (Kd.int .i64) _ _ _ 3 [.int .i64 3] from rfl) (Reps.one (show Kd.M (Kd.int .i64) _ _ _ 14 [.int .i64 14] from rfl) (Reps.none _ _))))))))))); intro v363 w51 ho52 hb hg_ hnew_; clear hg_ hnew_; (first | rw [← Ny362.out] at ho52 | (simp only [Int.reduceToNat] at ho52; rw [← Ny362.out] at ho52)); have n0_ := Aside0.mk (Kd.R_lower ho52 (below_size (by repeat (first | (with_reducible first | exact HB.out | apply below_alloc | apply pw_below_drewN | apply below_drew1) | exact HB.out)))); have n1_ := Aside0.mk (below_step (by repeat (first | (with_reducible first | exact HB.out | apply below_alloc | apply pw_below_drewN | apply below_drew1) | exact HB.out)) hb); clear HB; have HO364 := n0_; have HB := n1_; clear n0_ n1_; clear hb ho52; obtain ⟨Ao53, co53, eo53⟩ := Kd.R_slice HO364.out; subst eo53; have p365 : 0 ≤ (t337 : Int) := of_decide_eq_true (by first | (with_reducible assumption) | assumption); have q365 : t337 < (y362.length : Int) := of_decide_eq_true (by first | (with_reducible assumption) | assumption); obtain ⟨ad365, e365, hx365_0⟩ := Kd.at_int (Kd.R_reads' HO364.out).2.2 t337 p365 q365; cases e365; replace p365 := eq_true p365; replace q365 := eq_true q365))
                                go_ret
                                exact ⟨by first | rfl | (simp [errW_none, errW_some] <;> rfl) | (simp [*, errW_none, errW_some] <;> rfl), by repeat (first | (with_reducible first | exact HB.out | apply below_alloc | apply pw_below_drewN | apply below_drew1) | exact HB.out)⟩
                              · rw [if_neg c50] at H
                                exact absurd H (by simp)
                            · rw [if_neg c49] at H
                              exact absurd H (by simp)
                          · rw [if_neg c48] at H
                            have c48b0 : (a0.toList == ([77, 52] : List UInt8)) = false := beq_eq_false_iff_ne.mpr c48
                            have c48b1 : (a0.toList != ([77, 52] : List UInt8)) = true := bne_iff_ne.mpr c48
                            by_cases c54 : a0.toList = ([79, 49] : List UInt8)
                            · rw [if_pos c54] at H
                              have c54b0 : (a0.toList == ([79, 49] : List UInt8)) = true := beq_iff_eq.mpr c54
                              have c54b1 : (a0.toList != ([79, 49] : List UInt8)) = false := bne_eq_false_iff_eq.mpr c54
                              clear c54
                              replace H := Option.bind_eq_some_iff.mp H
                              obtain ⟨t366, A550, H⟩ := H
                              replace H : (some t366) = some r := H
                              have A55 := Aside0.mk A550
                              clear A550
                              obtain rfl := Option.some.inj H
                              go_wp2_with (first | ((with_reducible refine gate_callee (f := 17) rfl ?_); refine goesL_ (some 61) rfl rfl Tryd.func17 (by kernel_rfl) rfl #[.int .i64 a1, .int .i64 2] rfl (by (try simp only [List.map_toArray, List.map_cons, List.map_nil]); first | done | rfl | (simp only [List.length_drop, List.length_take]; rfl)) ?_; (with_reducible refine (letterpresslaw2_within.calls a1 2 t366 _ A55.out).mono ?_); rintro e w' ⟨rfl, ⟨nd, rfl⟩⟩; refine ⟨_, rfl, ?_⟩))
                              go_ret
                              exact ⟨by first | rfl | (simp [errW_none, errW_some] <;> rfl) | (simp [*, errW_none, errW_some] <;> rfl), by repeat (first | (with_reducible first | exact HB.out | apply below_alloc | apply pw_below_drewN | apply below_drew1) | exact HB.out)⟩
                            · rw [if_neg c54] at H
                              have c54b0 : (a0.toList == ([79, 49] : List UInt8)) = false := beq_eq_false_iff_ne.mpr c54
                              have c54b1 : (a0.toList != ([79, 49] : List UInt8)) = true := bne_iff_ne.mpr c54
                              have HC56 := Aside0.mk H
                              clear H
                              go_upto_if 62 with (fail)
                              go_cut [62] (fun v62 wc => ∃ (kq : Nat) (x62_55 : Bool), v62 = .bool x62_55 ∧ Aside0 (letterpresslaw2_Operand.j3 kq a1 t337 a0 x62_55 = some r) ∧ Aside0 (kq ≤ kj33) ∧ Aside0 (Below w.heap.size w wc))
                              case first =>
                                have H := HC56.out
                                clear HC56
                                by_cases c57 : a0.toList = ([73, 50] : List UInt8)
                                · rw [if_pos c57] at H
                                  have c57b0 : (a0.toList == ([73, 50] : List UInt8)) = true := beq_iff_eq.mpr c57
                                  have c57b1 : (a0.toList != ([73, 50] : List UInt8)) = false := bne_eq_false_iff_eq.mpr c57
                                  clear c57
                                  (first | rw [c57b0] | (simp only [i64_w, i32_w]; rw [c57b0]) | skip)
                                  have H' := Aside0.mk H
                                  clear H
                                  go_wp2
                                  go_meet
                                  case rel => exact ⟨_, ((a0.toList == ([73, 50] : List UInt8))), (by first | rfl | (simp; done) | (simp [*]; done)), H', ⟨by have := HJ3.out; have := HJ11.out; have := HJ33.out; first | omega | exact Nat.le_refl _⟩, ⟨by repeat (first | (with_reducible first | exact HB.out | apply below_alloc | apply pw_below_drewN | apply below_drew1) | exact HB.out)⟩⟩
                                · rw [if_neg c57] at H
                                  have c57b0 : (a0.toList == ([73, 50] : List UInt8)) = false := beq_eq_false_iff_ne.mpr c57
                                  have c57b1 : (a0.toList != ([73, 50] : List UInt8)) = true := bne_iff_ne.mpr c57
                                  (first | rw [c57b0] | (simp only [i64_w, i32_w]; rw [c57b0]) | skip)
                                  have H' := Aside0.mk H
                                  clear H
                                  go_wp2
                                  go_meet
                                  case rel => exact ⟨_, ((a0.toList == ([79, 50] : List UInt8))), (by first | rfl | (simp; done) | (simp [*]; done)), H', ⟨by have := HJ3.out; have := HJ11.out; have := HJ33.out; first | omega | exact Nat.le_refl _⟩, ⟨by repeat (first | (with_reducible first | exact HB.out | apply below_alloc | apply pw_below_drewN | apply below_drew1) | exact HB.out)⟩⟩
                              case rest =>
                                clear HC56
                                try clear c1
                                try clear c2
                                try clear p2
                                try clear c3
                                try clear p3
                                try clear q3
                                try clear hx3
                                try clear c4
                                try clear c5
                                try clear c5b0
                                try clear c5b1
                                try clear c6
                                try clear p6
                                try clear c7
                                try clear c7b0
                                try clear c8
                                try clear c8b0
                                try clear c13
                                try clear c13b0
                                try clear c13b1
                                try clear c14
                                try clear c14b0
                                try clear c14b1
                                try clear c15
                                try clear c15b0
                                try clear c15b1
                                try clear c16
                                try clear c17
                                try clear c17b0
                                try clear c18
                                try clear c18b0
                                try clear c22
                                try clear c22b0
                                try clear c22b1
                                try clear c23
                                try clear c23b0
                                try clear c24
                                try clear c24b0
                                try clear c28
                                try clear c28b0
                                try clear c28b1
                                try clear c29
                                try clear c29b0
                                try clear c30
                                try clear c30b0
                                try clear p34
                                try clear q34
                                try clear hx34
                                try clear c35
                                try clear c35b0
                                try clear c35b1
                                try clear p35
                                try clear q35
                                try clear hx35
                                try clear c36
                                try clear p36
                                try clear q36
                                try clear hx36
                                try clear c37
                                try clear c37b0
                                try clear c38
                                try clear c38b0
                                try clear c42
                                try clear c42b0
                                try clear c42b1
                                try clear c43
                                try clear c43b0
                                try clear c44
                                try clear c44b0
                                try clear c48
                                try clear c48b0
                                try clear c48b1
                                try clear c49
                                try clear c49b0
                                try clear c50
                                try clear c50b0
                                try clear c54
                                try clear c54b0
                                try clear c54b1
                                try clear c57
                                try clear c57b0
                                try clear c57b1
                                try clear hx341_0
                                try clear hx345_0
                                try clear hx349_0
                                try clear hx353_0
                                try clear hx357_0
                                try clear hx361_0
                                try clear hx365_0
                                try clear p2
                                try clear p3
                                try clear p34
                                try clear p341
                                try clear p345
                                try clear p349
                                try clear p35
                                try clear p353
                                try clear p357
                                try clear p361
                                try clear p365
                                try clear q3
                                try clear q34
                                try clear q341
                                try clear q345
                                try clear q349
                                try clear q35
                                try clear q353
                                try clear q357
                                try clear q361
                                try clear q365
                                obtain ⟨kq, x62_55, rfl, HA, HJ55, HB⟩ := hcut
                                cases kq with
                                | zero => exact absurd HA.out (by simp [letterpresslaw2_Operand.j3])
                                | succ kj55 =>
                                  have H := HA.out
                                  clear HA
                                  simp only [letterpresslaw2_Operand.j3] at H
                                  by_cases c58 : x62_55 = true
                                  · subst c58
                                    have H1 : ((letterpresslaw2_within.f a1 4).bind fun t367 => (some t367)) = some r := by rw [if_pos rfl] at H; exact H
                                    clear H
                                    have H := H1
                                    clear H1
                                    replace H := Option.bind_eq_some_iff.mp H
                                    obtain ⟨t367, A590, H⟩ := H
                                    replace H : (some t367) = some r := H
                                    have A59 := Aside0.mk A590
                                    clear A590
                                    obtain rfl := Option.some.inj H
                                    go_wp2_with (first | ((with_reducible refine gate_callee (f := 17) rfl ?_); refine goesL_ (some 66) rfl rfl Tryd.func17 (by kernel_rfl) rfl #[.int .i64 a1, .int .i64 4] rfl (by (try simp only [List.map_toArray, List.map_cons, List.map_nil]); first | done | rfl | (simp only [List.length_drop, List.length_take]; rfl)) ?_; (with_reducible refine (letterpresslaw2_within.calls a1 4 t367 _ A59.out).mono ?_); rintro e w' ⟨rfl, ⟨nd, rfl⟩⟩; refine ⟨_, rfl, ?_⟩))
                                    go_ret
                                    exact ⟨by first | rfl | (simp [errW_none, errW_some] <;> rfl) | (simp [*, errW_none, errW_some] <;> rfl), by repeat (first | (with_reducible first | exact HB.out | apply below_alloc | apply pw_below_drewN | apply below_drew1) | exact HB.out)⟩
                                  · replace c58 := Bool.eq_false_iff.mpr c58
                                    subst c58
                                    have H1 : (if a0.toList = ([84, 56] : List UInt8) then ((letterpresslaw2_within.f a1 256).bind fun t368 => (some (wrap64 (2 * (wrap64 (t368 - 128)))))) else (if a0.toList = ([83, 49, 54] : List UInt8) then ((some (([0, 32767, (-32768), (-1), 1, 255, (-256), 4660, (-4660)] : List Int) : List Int)).bind fun y369 => (if 0 ≤ t337 then (if t337 < (y369.length : Int) then (some (rd y369 t337)) else (none)) else (none))) else (if a0.toList = ([76, 50, 48] : List UInt8) then ((letterpresslaw2_within.f a1 1048576).bind fun t373 => (some (wrap64 (t373 - 524288)))) else (if a0.toList = ([84, 49, 53] : List UInt8) then ((letterpresslaw2_within.f a1 32768).bind fun t374 => (some (wrap64 (2 * (wrap64 (t374 - 16384)))))) else (if a0.toList = ([84, 50, 52] : List UInt8) then ((letterpresslaw2_within.f a1 16777216).bind fun t375 => (some (wrap64 (2 * (wrap64 (t375 - 8388608)))))) else ((some (([0, 255, 256, 65280, (-1), (-2), 16711680, (-256), 2130706432] : List Int) : List Int)).bind fun y376 => (if 0 ≤ t337 then (if t337 < (y376.length : Int) then (some (rd y376 t337)) else (none)) else (none)))))))) = some r := by rw [if_neg (show ¬ (false = true) by decide)] at H; exact H
                                    clear H
                                    have H := H1
                                    clear H1
                                    by_cases c60 : a0.toList = ([84, 56] : List UInt8)
                                    · rw [if_pos c60] at H
                                      have c60b0 : (a0.toList == ([84, 56] : List UInt8)) = true := beq_iff_eq.mpr c60
                                      have c60b1 : (a0.toList != ([84, 56] : List UInt8)) = false := bne_eq_false_iff_eq.mpr c60
                                      clear c60
                                      replace H := Option.bind_eq_some_iff.mp H
                                      obtain ⟨t368, A610, H⟩ := H
                                      replace H : (some (wrap64 (2 * (wrap64 (t368 - 128))))) = some r := H
                                      have A61 := Aside0.mk A610
                                      clear A610
                                      obtain rfl := Option.some.inj H
                                      go_wp2_with (first | ((with_reducible refine gate_callee (f := 17) rfl ?_); refine goesL_ (some 70) rfl rfl Tryd.func17 (by kernel_rfl) rfl #[.int .i64 a1, .int .i64 256] rfl (by (try simp only [List.map_toArray, List.map_cons, List.map_nil]); first | done | rfl | (simp only [List.length_drop, List.length_take]; rfl)) ?_; (with_reducible refine (letterpresslaw2_within.calls a1 256 t368 _ A61.out).mono ?_); rintro e w' ⟨rfl, ⟨nd, rfl⟩⟩; refine ⟨_, rfl, ?_⟩))
                                      go_ret
                                      exact ⟨by first | rfl | (simp [errW_none, errW_some] <;> rfl) | (simp [*, errW_none, errW_some] <;> rfl), by repeat (first | (with_reducible first | exact HB.out | apply below_alloc | apply pw_below_drewN | apply below_drew1) | exact HB.out)⟩
                                    · rw [if_neg c60] at H
                                      have c60b0 : (a0.toList == ([84, 56] : List UInt8)) = false := beq_eq_false_iff_ne.mpr c60
                                      have c60b1 : (a0.toList != ([84, 56] : List UInt8)) = true := bne_iff_ne.mpr c60
                                      by_cases c62 : a0.toList = ([83, 49, 54] : List UInt8)
                                      · rw [if_pos c62] at H
                                        have c62b0 : (a0.toList == ([83, 49, 54] : List UInt8)) = true := beq_iff_eq.mpr c62
                                        have c62b1 : (a0.toList != ([83, 49, 54] : List UInt8)) = false := bne_eq_false_iff_eq.mpr c62
                                        clear c62
                                        obtain ⟨y369, hy369⟩ : ∃ y_ : List Int, y_ = (([0, 32767, (-32768), (-1), 1, 255, (-256), 4660, (-4660)] : List Int)) := ⟨_, rfl⟩
                                        replace H : (if 0 ≤ t337 then (if t337 < (y369.length : Int) then (some (rd y369 t337)) else (none)) else (none)) = some r := by first | (rw [hy369]; with_reducible exact H) | (have H2_ := (Option.bind_some _ _).symm.trans H; rw [hy369]; with_reducible exact H2_) | (have H2_ := (Option.bind_some _ _).symm.trans H; with_reducible exact H2_) | with_reducible exact H | (rw [hy369]; exact H) | exact H
                                        have Ny369 := Aside0.mk hy369
                                        clear hy369
                                        by_cases c63 : 0 ≤ t337
                                        · rw [if_pos c63] at H
                                          have c63b0 : decide (0 ≤ t337) = true := decide_eq_true c63
                                          clear c63
                                          by_cases c64 : t337 < (y369.length : Int)
                                          · rw [if_pos c64] at H
                                            have c64b0 : decide (t337 < (y369.length : Int)) = true := decide_eq_true c64
                                            clear c64
                                            obtain rfl := Option.some.inj H
                                            go_wp2_with (first | ((with_reducible refine gate_dst (N := 75) rfl ?_); refine Kd.R_lit (Kd.int .i64) _ 3 ?hg (N := 75) ?hd (xs := ([0, 32767, (-32768), (-1), 1, 255, (-256), 4660, (-4660)] : List Int)) (inner := [.int .i64 0, .int .i64 32767, .int .i64 (-32768), .int .i64 (-1), .int .i64 1, .int .i64 255, .int .i64 (-256), .int .i64 4660, .int .i64 (-4660)]) (ok := fun _ => True) (okp := fun _ => True) ?hr ?hp (fun _ hk => hk) trivial (Below.refl _ _) (Nat.le_refl _) (by simp) ?_; (case hd => rfl); (case hg => rfl); (case hr => first | (go_simp; done) | (go_simp; rfl)); (case hp => exact (Reps.one (show Kd.M (Kd.int .i64) _ _ _ 0 [.int .i64 0] from rfl) (Reps.one (show Kd.M (Kd.int .i64) _ _ _ 32767 [.int .i64 32767] from rfl) (Reps.one (show Kd.M (Kd.int .i64) _ _ _ (-32768) [.int .i64 (-32768)] from rfl) (Reps.one (show Kd.M (Kd.int .i64) _ _ _ (-1) [.int .i64 (-1)] from rfl) (Reps.one (show Kd.M (Kd.int .i64) _ _ _ 1 [.int .i64 1] from rfl) (Reps.one (show Kd.M (Kd.int .i64) _ _ _ 255 [.int .i64 255] from rfl) (Reps.one (show Kd.M (Kd.int .i64) _ _ _ (-256) [.int .i64 (-256)] from rfl) (Reps.one (show Kd.M (Kd.int .i64) _ _ _ 4660 [.int .i64 4660] from rfl) (Reps.one (show Kd.M (Kd.int .i64) _ _ _ (-4660) [.int .i64 (-4660)] from rfl) (Reps.none _ _))))))))))); intro v370 w65 ho66 hb hg_ hnew_; clear hg_ hnew_; (first | rw [← Ny369.out] at ho66 | (simp only [Int.reduceToNat] at ho66; rw [← Ny369.out] at ho66)); have n0_ := Aside0.mk (Kd.R_lower ho66 (below_size (by repeat (first | (with_reducible first | exact HB.out | apply below_alloc | apply pw_below_drewN | apply below_drew1) | exact HB.out)))); have n1_ := Aside0.mk (below_step (by repeat (first | (with_reducible first | exact HB.out | apply below_alloc | apply pw_below_drewN | apply below_drew1) | exact HB.out)) hb); clear HB; have HO371 := n0_; have HB := n1_; clear n0_ n1_; clear hb ho66; obtain ⟨Ao67, co67, eo67⟩ := Kd.R_slice HO371.out; subst eo67; have p372 : 0 ≤ (t337 : Int) := of_decide_eq_true (by first | (with_reducible assumption) | assumption); have q372 : t337 < (y369.length : Int) := of_decide_eq_true (by first | (with_reducible assumption) | assumption); obtain ⟨ad372, e372, hx372_0⟩ := Kd.at_int (Kd.R_reads' HO371.out).2.2 t337 p372 q372; cases e372; replace p372 := eq_true p372; replace q372 := eq_true q372))
                                            go_ret
                                            exact ⟨by first | rfl | (simp [errW_none, errW_some] <;> rfl) | (simp [*, errW_none, errW_some] <;> rfl), by repeat (first | (with_reducible first | exact HB.out | apply below_alloc | apply pw_below_drewN | apply below_drew1) | exact HB.out)⟩
                                          · rw [if_neg c64] at H
                                            exact absurd H (by simp)
                                        · rw [if_neg c63] at H
                                          exact absurd H (by simp)
                                      · rw [if_neg c62] at H
                                        have c62b0 : (a0.toList == ([83, 49, 54] : List UInt8)) = false := beq_eq_false_iff_ne.mpr c62
                                        have c62b1 : (a0.toList != ([83, 49, 54] : List UInt8)) = true := bne_iff_ne.mpr c62
                                        by_cases c68 : a0.toList = ([76, 50, 48] : List UInt8)
                                        · rw [if_pos c68] at H
                                          have c68b0 : (a0.toList == ([76, 50, 48] : List UInt8)) = true := beq_iff_eq.mpr c68
                                          have c68b1 : (a0.toList != ([76, 50, 48] : List UInt8)) = false := bne_eq_false_iff_eq.mpr c68
                                          clear c68
                                          replace H := Option.bind_eq_some_iff.mp H
                                          obtain ⟨t373, A690, H⟩ := H
                                          replace H : (some (wrap64 (t373 - 524288))) = some r := H
                                          have A69 := Aside0.mk A690
                                          clear A690
                                          obtain rfl := Option.some.inj H
                                          go_wp2_with (first | ((with_reducible refine gate_callee (f := 17) rfl ?_); refine goesL_ (some 82) rfl rfl Tryd.func17 (by kernel_rfl) rfl #[.int .i64 a1, .int .i64 1048576] rfl (by (try simp only [List.map_toArray, List.map_cons, List.map_nil]); first | done | rfl | (simp only [List.length_drop, List.length_take]; rfl)) ?_; (with_reducible refine (letterpresslaw2_within.calls a1 1048576 t373 _ A69.out).mono ?_); rintro e w' ⟨rfl, ⟨nd, rfl⟩⟩; refine ⟨_, rfl, ?_⟩))
                                          go_ret
                                          exact ⟨by first | rfl | (simp [errW_none, errW_some] <;> rfl) | (simp [*, errW_none, errW_some] <;> rfl), by repeat (first | (with_reducible first | exact HB.out | apply below_alloc | apply pw_below_drewN | apply below_drew1) | exact HB.out)⟩
                                        · rw [if_neg c68] at H
                                          have c68b0 : (a0.toList == ([76, 50, 48] : List UInt8)) = false := beq_eq_false_iff_ne.mpr c68
                                          have c68b1 : (a0.toList != ([76, 50, 48] : List UInt8)) = true := bne_iff_ne.mpr c68
                                          by_cases c70 : a0.toList = ([84, 49, 53] : List UInt8)
                                          · rw [if_pos c70] at H
                                            have c70b0 : (a0.toList == ([84, 49, 53] : List UInt8)) = true := beq_iff_eq.mpr c70
                                            have c70b1 : (a0.toList != ([84, 49, 53] : List UInt8)) = false := bne_eq_false_iff_eq.mpr c70
                                            clear c70
                                            replace H := Option.bind_eq_some_iff.mp H
                                            obtain ⟨t374, A710, H⟩ := H
                                            replace H : (some (wrap64 (2 * (wrap64 (t374 - 16384))))) = some r := H
                                            have A71 := Aside0.mk A710
                                            clear A710
                                            obtain rfl := Option.some.inj H
                                            go_wp2_with (first | ((with_reducible refine gate_callee (f := 17) rfl ?_); refine goesL_ (some 87) rfl rfl Tryd.func17 (by kernel_rfl) rfl #[.int .i64 a1, .int .i64 32768] rfl (by (try simp only [List.map_toArray, List.map_cons, List.map_nil]); first | done | rfl | (simp only [List.length_drop, List.length_take]; rfl)) ?_; (with_reducible refine (letterpresslaw2_within.calls a1 32768 t374 _ A71.out).mono ?_); rintro e w' ⟨rfl, ⟨nd, rfl⟩⟩; refine ⟨_, rfl, ?_⟩))
                                            go_ret
                                            exact ⟨by first | rfl | (simp [errW_none, errW_some] <;> rfl) | (simp [*, errW_none, errW_some] <;> rfl), by repeat (first | (with_reducible first | exact HB.out | apply below_alloc | apply pw_below_drewN | apply below_drew1) | exact HB.out)⟩
                                          · rw [if_neg c70] at H
                                            have c70b0 : (a0.toList == ([84, 49, 53] : List UInt8)) = false := beq_eq_false_iff_ne.mpr c70
                                            have c70b1 : (a0.toList != ([84, 49, 53] : List UInt8)) = true := bne_iff_ne.mpr c70
                                            by_cases c72 : a0.toList = ([84, 50, 52] : List UInt8)
                                            · rw [if_pos c72] at H
                                              have c72b0 : (a0.toList == ([84, 50, 52] : List UInt8)) = true := beq_iff_eq.mpr c72
                                              have c72b1 : (a0.toList != ([84, 50, 52] : List UInt8)) = false := bne_eq_false_iff_eq.mpr c72
                                              clear c72
                                              replace H := Option.bind_eq_some_iff.mp H
                                              obtain ⟨t375, A730, H⟩ := H
                                              replace H : (some (wrap64 (2 * (wrap64 (t375 - 8388608))))) = some r := H
                                              have A73 := Aside0.mk A730
                                              clear A730
                                              obtain rfl := Option.some.inj H
                                              go_wp2_with (first | ((with_reducible refine gate_callee (f := 17) rfl ?_); refine goesL_ (some 93) rfl rfl Tryd.func17 (by kernel_rfl) rfl #[.int .i64 a1, .int .i64 16777216] rfl (by (try simp only [List.map_toArray, List.map_cons, List.map_nil]); first | done | rfl | (simp only [List.length_drop, List.length_take]; rfl)) ?_; (with_reducible refine (letterpresslaw2_within.calls a1 16777216 t375 _ A73.out).mono ?_); rintro e w' ⟨rfl, ⟨nd, rfl⟩⟩; refine ⟨_, rfl, ?_⟩))
                                              go_ret
                                              exact ⟨by first | rfl | (simp [errW_none, errW_some] <;> rfl) | (simp [*, errW_none, errW_some] <;> rfl), by repeat (first | (with_reducible first | exact HB.out | apply below_alloc | apply pw_below_drewN | apply below_drew1) | exact HB.out)⟩
                                            · rw [if_neg c72] at H
                                              have c72b0 : (a0.toList == ([84, 50, 52] : List UInt8)) = false := beq_eq_false_iff_ne.mpr c72
                                              have c72b1 : (a0.toList != ([84, 50, 52] : List UInt8)) = true := bne_iff_ne.mpr c72
                                              obtain ⟨y376, hy376⟩ : ∃ y_ : List Int, y_ = (([0, 255, 256, 65280, (-1), (-2), 16711680, (-256), 2130706432] : List Int)) := ⟨_, rfl⟩
                                              replace H : (if 0 ≤ t337 then (if t337 < (y376.length : Int) then (some (rd y376 t337)) else (none)) else (none)) = some r := by first | (rw [hy376]; with_reducible exact H) | (have H2_ := (Option.bind_some _ _).symm.trans H; rw [hy376]; with_reducible exact H2_) | (have H2_ := (Option.bind_some _ _).symm.trans H; with_reducible exact H2_) | with_reducible exact H | (rw [hy376]; exact H) | exact H
                                              have Ny376 := Aside0.mk hy376
                                              clear hy376
                                              by_cases c74 : 0 ≤ t337
                                              · rw [if_pos c74] at H
                                                have c74b0 : decide (0 ≤ t337) = true := decide_eq_true c74
                                                clear c74
                                                by_cases c75 : t337 < (y376.length : Int)
                                                · rw [if_pos c75] at H
                                                  have c75b0 : decide (t337 < (y376.length : Int)) = true := decide_eq_true c75
                                                  clear c75
                                                  obtain rfl := Option.some.inj H
                                                  go_wp2_with (first | ((with_reducible refine gate_dst (N := 96) rfl ?_); refine Kd.R_lit (Kd.int .i64) _ 3 ?hg (N := 96) ?hd (xs := ([0, 255, 256, 65280, (-1), (-2), 16711680, (-256), 2130706432] : List Int)) (inner := [.int .i64 0, .int .i64 255, .int .i64 256, .int .i64 65280, .int .i64 (-1), .int .i64 (-2), .int .i64 16711680, .int .i64 (-256), .int .i64 2130706432]) (ok := fun _ => True) (okp := fun _ => True) ?hr ?hp (fun _ hk => hk) trivial (Below.refl _ _) (Nat.le_refl _) (by simp) ?_; (case hd => rfl); (case hg => rfl); (case hr => first | (go_simp; done) | (go_simp; rfl)); (case hp => exact (Reps.one (show Kd.M (Kd.int .i64) _ _ _ 0 [.int .i64 0] from rfl) (Reps.one (show Kd.M (Kd.int .i64) _ _ _ 255 [.int .i64 255] from rfl) (Reps.one (show Kd.M (Kd.int .i64) _ _ _ 256 [.int .i64 256] from rfl) (Reps.one (show Kd.M (Kd.int .i64) _ _ _ 65280 [.int .i64 65280] from rfl) (Reps.one (show Kd.M (Kd.int .i64) _ _ _ (-1) [.int .i64 (-1)] from rfl) (Reps.one (show Kd.M (Kd.int .i64) _ _ _ (-2) [.int .i64 (-2)] from rfl) (Reps.one (show Kd.M (Kd.int .i64) _ _ _ 16711680 [.int .i64 16711680] from rfl) (Reps.one (show Kd.M (Kd.int .i64) _ _ _ (-256) [.int .i64 (-256)] from rfl) (Reps.one (show Kd.M (Kd.int .i64) _ _ _ 2130706432 [.int .i64 2130706432] from rfl) (Reps.none _ _))))))))))); intro v377 w76 ho77 hb hg_ hnew_; clear hg_ hnew_; (first | rw [← Ny376.out] at ho77 | (simp only [Int.reduceToNat] at ho77; rw [← Ny376.out] at ho77)); have n0_ := Aside0.mk (Kd.R_lower ho77 (below_size (by repeat (first | (with_reducible first | exact HB.out | apply below_alloc | apply pw_below_drewN | apply below_drew1) | exact HB.out)))); have n1_ := Aside0.mk (below_step (by repeat (first | (with_reducible first | exact HB.out | apply below_alloc | apply pw_below_drewN | apply below_drew1) | exact HB.out)) hb); clear HB; have HO378 := n0_; have HB := n1_; clear n0_ n1_; clear hb ho77; obtain ⟨Ao78, co78, eo78⟩ := Kd.R_slice HO378.out; subst eo78; have p379 : 0 ≤ (t337 : Int) := of_decide_eq_true (by first | (with_reducible assumption) | assumption); have q379 : t337 < (y376.length : Int) := of_decide_eq_true (by first | (with_reducible assumption) | assumption); obtain ⟨ad379, e379, hx379_0⟩ := Kd.at_int (Kd.R_reads' HO378.out).2.2 t337 p379 q379; cases e379; replace p379 := eq_true p379; replace q379 := eq_true q379))
                                                  go_ret
                                                  exact ⟨by first | rfl | (simp [errW_none, errW_some] <;> rfl) | (simp [*, errW_none, errW_some] <;> rfl), by repeat (first | (with_reducible first | exact HB.out | apply below_alloc | apply pw_below_drewN | apply below_drew1) | exact HB.out)⟩
                                                · rw [if_neg c75] at H
                                                  exact absurd H (by simp)
                                              · rw [if_neg c74] at H
                                                exact absurd H (by simp)
set_option maxHeartbeats 8000000 in
set_option maxRecDepth 100000 in
theorem letterpressref2_Kinds.calls (a0 : Int) (r : ByteArray) (w : World) (h : letterpressref2_Kinds.f a0 = some r) :
    Calls Tryd.prog 25 #[.int .i64 a0] w fun e w' => e = .returned (.string r) ∧ Below w.heap.size w w' := by
  have hu56 := Tryd.underlying56
  have HB := Aside0.mk (Below.refl w.heap.size w)
  have H : ((letterpressref2_find.f a0 (⟨#[32]⟩ : ByteArray)).bind fun bt380 => (some bt380.2.2.1)) = some r := h
  clear h
  replace H := Option.bind_eq_some_iff.mp H
  obtain ⟨⟨t380, t381, t382, t383, t384⟩, A20, H⟩ := H
  replace H : (some t382) = some r := H
  have A2 := Aside0.mk A20
  clear A20
  obtain rfl := Option.some.inj H
  go_enter Tryd.func25, Tryd.ntmps25
  go_wp2_with (first | ((with_reducible refine gate_callee (f := 35) rfl ?_); refine goesL_ (some 8) rfl rfl Tryd.func35 (by kernel_rfl) rfl #[.int .i64 a0, .string (⟨#[32]⟩ : ByteArray)] rfl (by (try simp only [List.map_toArray, List.map_cons, List.map_nil]); first | done | rfl | (simp only [List.length_drop, List.length_take]; rfl)) ?_; (with_reducible refine (letterpressref2_find.calls a0 (⟨#[32]⟩ : ByteArray) t380 t381 t382 t383 t384 _ A2.out).mono ?_); rintro e w3 ⟨rfl, hb⟩; refine ⟨_, rfl, ?_⟩; have n0_ := Aside0.mk (below_step (by repeat (first | (with_reducible first | exact HB.out | apply below_alloc | apply pw_below_drewN | apply below_drew1) | exact HB.out)) hb); clear HB; have HB := n0_; clear n0_; (try clear hb); (try clear hb2); (try clear hk); (try clear hi)) | ((with_reducible refine gate_dst (N := 3) rfl ?_); refine box_event ?hg (N := 3) ?hd (cs := #[.string (⟨#[]⟩ : ByteArray), .string (⟨#[]⟩ : ByteArray), .string (⟨#[]⟩ : ByteArray)]) (t := 56) ?hr ?_; (case hd => rfl); (case hg => rfl); (case hr => first | (go_simp; done) | (go_simp; rfl)); intro gb385 hg w4 hbox hb; have n0_ := Aside0.mk (below_step (by repeat (first | (with_reducible first | exact HB.out | apply below_alloc | apply pw_below_drewN | apply below_drew1) | exact HB.out)) hb); have n1_ := Aside0.mk (hbox); have n2_ := Aside0.mk ((by rw [hg]; exact (below_size (by repeat (first | (with_reducible first | exact HB.out | apply below_alloc | apply pw_below_drewN | apply below_drew1) | exact HB.out))) : w.heap.size ≤ gb385)); have n3_ := Aside0.mk ((by rw [hg]; exact (below_size (by repeat (first | (with_reducible first | exact HB.out | apply below_alloc | apply pw_below_drewN | apply below_drew1) | exact HB.out))) : w.heap.size ≤ gb385)); clear HB; have HB := n0_; have BK385 := n1_; have GW385 := n2_; have GE385 := n3_; clear n0_ n1_ n2_ n3_; clear hb hbox hg; have hcz5_0 : w4.cell? ⟨gb385, 0, none⟩ = some (.string (⟨#[]⟩ : ByteArray)) := (blk_cell BK385.out 0).trans rfl; have hcz5_1 : w4.cell? ⟨gb385, 1, none⟩ = some (.string (⟨#[]⟩ : ByteArray)) := (blk_cell BK385.out 1).trans rfl; have hcz5_2 : w4.cell? ⟨gb385, 2, none⟩ = some (.string (⟨#[]⟩ : ByteArray)) := (blk_cell BK385.out 2).trans rfl; have hfz5_0 := blk_frozen BK385.out 0; have hfz5_1 := blk_frozen BK385.out 1; have hfz5_2 := blk_frozen BK385.out 2))
  go_ret
  exact ⟨by first | rfl | (simp [errW_none, errW_some] <;> rfl) | (simp [*, errW_none, errW_some] <;> rfl), by repeat (first | (with_reducible first | exact HB.out | apply below_alloc | apply pw_below_drewN | apply below_drew1 | refine below_set ?_ GE385.out) | exact HB.out)⟩
end Go.Proofs.YticofbaajdgabaaDoor.X

namespace Go.Proofs.YticofbaajdgabaaDoor.X
open Go.RowKit Go.Proofs.YticofbaajdgabaaDoorW.PrintWords Go.Proofs.YticofbaajdgabaaDoorW.PrintLast Go.Proofs.YticofbaajdgabaaDoorW.PrintMore
attribute [local go_sem] max2_int min2_int max_two min_two
set_option linter.unusedVariables false
set_option linter.unusedSimpArgs false
def letterpresslaw2_Make.T9 : Bool × List (List Nat × List Nat) := (true, [([], []), ([0], [0]), ([], []), ([], []), ([2, 3], [2, 3]), ([4], [4]), ([], []), ([5, 6], [5, 6]), ([7], [7]), ([1, 8, 7], [1, 8]), ([0, 1, 2, 3, 4, 5, 6, 7, 8, 9], []), ([10, 9, 9, 0, 1, 2, 3, 4, 5, 6, 7, 8, 9], [9, 10])])
def letterpresslaw2_Make.B9 : List Nat := [0, 1, 0, 0, 12, 28, 0, 124, 252, 511, 1023, 2047]
theorem letterpresslaw2_Make.tab9 : rtab .any (opsOf Tryd.f16 9) = letterpresslaw2_Make.T9 := by kernel_rfl
theorem letterpresslaw2_Make.bits9 : waitsOk letterpresslaw2_Make.T9.2 letterpresslaw2_Make.B9 = true := by kernel_rfl
set_option maxHeartbeats 8000000 in
set_option maxRecDepth 100000 in
theorem letterpresslaw2_Make.calls (k : Nat) (a0 : Int) (A1 : Option Addr) (c1 : Nat) (l1 : List Int) (r1 : Int) (r2 : List Int) (w : World) (hr1 : Kd.C (Kd.int .i64) w A1 l1.length l1) (hc1 : l1.length ≤ c1) (h : letterpresslaw2_Make.f k a0 l1 = some (r1, r2)) :
    Calls Tryd.prog 16 #[.int .i64 a0, .slice A1 l1.length c1] w fun e w' => ∃ v1_ : Value, e = .returned (.agg #[.int .i64 r1, v1_]) ∧ Kd.R (Kd.int .i64) 3 w' w.heap.size (fun _ => True) v1_ r2 ∧ Below w.heap.size w w' := by
  have hu28 := Tryd.underlying28
  have HR1 := Aside0.mk hr1
  have HC1 := Aside0.mk hc1
  clear hr1 hc1
  have HB := Aside0.mk (Below.refl w.heap.size w)
  have H : ((letterpresslaw2_within.f a0 66).bind fun t387 => ((letterpressref2_Kinds.f t387).bind fun t389 => ((letterpressref2_Words.f k t389).bind fun t390 => (letterpresslaw2_Make.l0 k l1 t390 0 t387 ([] : List Int))))) = some (r1, r2) := h
  clear h
  replace H := Option.bind_eq_some_iff.mp H
  obtain ⟨t387, A30, H⟩ := H
  replace H : ((letterpressref2_Kinds.f t387).bind fun t389 => ((letterpressref2_Words.f k t389).bind fun t390 => (letterpresslaw2_Make.l0 k l1 t390 0 t387 ([] : List Int)))) = some (r1, r2) := H
  have A3 := Aside0.mk A30
  clear A30
  replace H := Option.bind_eq_some_iff.mp H
  obtain ⟨t389, A40, H⟩ := H
  replace H : ((letterpressref2_Words.f k t389).bind fun t390 => (letterpresslaw2_Make.l0 k l1 t390 0 t387 ([] : List Int))) = some (r1, r2) := H
  have A4 := Aside0.mk A40
  clear A40
  replace H := Option.bind_eq_some_iff.mp H
  obtain ⟨t390, A50, H⟩ := H
  replace H : (letterpresslaw2_Make.l0 k l1 t390 0 t387 ([] : List Int)) = some (r1, r2) := H
  have A5 := Aside0.mk A50
  clear A50
  have H' := Aside0.mk H
  clear H
  go_enter Tryd.func16, Tryd.ntmps16
  go_wp2_with (first | ((with_reducible refine gate_dst (N := 4) rfl ?_); refine box_event ?hg (N := 4) ?hd (cs := #[.int .i64 0, .slice none 0 0]) (t := 28) ?hr ?_; (case hd => rfl); (case hg => rfl); (case hr => first | (go_simp; done) | (go_simp; rfl)); intro gb386 hg w6 hbox hb; have n0_ := Aside0.mk (below_step (by repeat (first | (with_reducible first | exact HB.out | apply below_alloc | apply pw_below_drewN | apply below_drew1) | exact HB.out)) hb); have n1_ := Aside0.mk (hbox); have n2_ := Aside0.mk ((by rw [hg]; exact (below_size (by repeat (first | (with_reducible first | exact HB.out | apply below_alloc | apply pw_below_drewN | apply below_drew1) | exact HB.out))) : w.heap.size ≤ gb386)); have n3_ := Aside0.mk ((by rw [hg]; exact (below_size (by repeat (first | (with_reducible first | exact HB.out | apply below_alloc | apply pw_below_drewN | apply below_drew1) | exact HB.out))) : w.heap.size ≤ gb386)); clear HB; have HB := n0_; have BK386 := n1_; have GW386 := n2_; have GE386 := n3_; clear n0_ n1_ n2_ n3_; clear hb hbox hg) | ((with_reducible refine gate_callee (f := 17) rfl ?_); refine goesL_ (some 10) rfl rfl Tryd.func17 (by kernel_rfl) rfl #[.int .i64 a0, .int .i64 66] rfl (by (try simp only [List.map_toArray, List.map_cons, List.map_nil]); first | done | rfl | (simp only [List.length_drop, List.length_take]; rfl)) ?_; (with_reducible refine (letterpresslaw2_within.calls a0 66 t387 _ A3.out).mono ?_); rintro e w' ⟨rfl, ⟨nd, rfl⟩⟩; refine ⟨_, rfl, ?_⟩; (try (rw [drewN_self w6]; generalize hq_ : World.drewN w6 _ = w6; have n0_ : Aside0 (w6.heap[gb386]? = some (.cells #[.int .i64 0, .slice none 0 0] 28 (0, 0))) := ⟨by rw [← hq_]; exact (by (with_reducible repeat (first | refine blk_drewN ?_ _ | refine blk_drew ?_ | refine blk_alloc ?_ _)); exact BK386.out)⟩; have n1_ : Aside0 (Below w.heap.size w w6) := ⟨by rw [← hq_]; exact (by repeat (first | (with_reducible first | exact HB.out | apply below_alloc | apply pw_below_drewN | apply below_drew1 | refine below_set ?_ GE386.out) | exact HB.out))⟩; clear BK386 HB hq_; have BK386 := n0_; have HB := n1_; clear n0_ n1_))) | ((with_reducible refine gate_dst (N := 5) rfl ?_); refine box_event ?hg (N := 5) ?hd (cs := #[.int .i64 0, .slice none 0 0]) (t := 28) ?hr ?_; (case hd => rfl); (case hg => rfl); (case hr => first | (go_simp; done) | (go_simp; rfl)); intro gb388 hg w7 hbox hb; have n0_ := Aside0.mk (blk_below (g := gb386) (o := .cells #[.int .i64 0, .slice none 0 0] 28 (0, 0)) (by (with_reducible repeat (first | refine blk_drewN ?_ _ | refine blk_drew ?_ | refine blk_alloc ?_ _)); exact BK386.out) hb); have n1_ := Aside0.mk (below_step (by repeat (first | (with_reducible first | exact HB.out | apply below_alloc | apply pw_below_drewN | apply below_drew1 | refine below_set ?_ GE386.out) | exact HB.out)) hb); have n2_ := Aside0.mk (hbox); have n3_ := Aside0.mk ((by rw [hg]; exact (below_size (by repeat (first | (with_reducible first | exact HB.out | apply below_alloc | apply pw_below_drewN | apply below_drew1 | refine below_set ?_ GE386.out) | exact HB.out))) : w.heap.size ≤ gb388)); have n4_ := Aside0.mk ((by rw [hg]; exact (below_size (by repeat (first | (with_reducible first | exact HB.out | apply below_alloc | apply pw_below_drewN | apply below_drew1 | refine below_set ?_ GE386.out) | exact HB.out))) : w.heap.size ≤ gb388)); have n5_ := Aside0.mk ((by rw [hg]; exact Nat.ne_of_lt (blk_lt (g := gb386) (o := .cells #[.int .i64 0, .slice none 0 0] 28 (0, 0)) (by (with_reducible repeat (first | refine blk_drewN ?_ _ | refine blk_drew ?_ | refine blk_alloc ?_ _)); exact BK386.out)) : gb386 ≠ gb388)); have n6_ := Aside0.mk ((by rw [hg]; exact Nat.ne_of_gt (blk_lt (g := gb386) (o := .cells #[.int .i64 0, .slice none 0 0] 28 (0, 0)) (by (with_reducible repeat (first | refine blk_drewN ?_ _ | refine blk_drew ?_ | refine blk_alloc ?_ _)); exact BK386.out)) : gb388 ≠ gb386)); clear BK386; clear HB; have BK386 := n0_; have HB := n1_; have BK388 := n2_; have GW388 := n3_; have GE388 := n4_; have NB386_388 := n5_; have NB388_386 := n6_; clear n0_ n1_ n2_ n3_ n4_ n5_ n6_; clear hb hbox hg; have hnb8 := NB388_386.out; have hnc8 := NB386_388.out; have hcz9_0 : w7.cell? ⟨gb388, 0, none⟩ = some (.int .i64 0) := (blk_cell BK388.out 0).trans rfl; have hcz9_1 : w7.cell? ⟨gb388, 1, none⟩ = some (.slice none 0 0) := (blk_cell BK388.out 1).trans rfl; have hfz9_0 := blk_frozen BK388.out 0; have hfz9_1 := blk_frozen BK388.out 1) | ((with_reducible refine gate_callee (f := 25) rfl ?_); refine goesL_ (some 14) rfl rfl Tryd.func25 (by kernel_rfl) rfl #[.int .i64 t387] rfl (by (try simp only [List.map_toArray, List.map_cons, List.map_nil]); first | done | rfl | (simp only [List.length_drop, List.length_take]; rfl)) ?_; (with_reducible refine (letterpressref2_Kinds.calls t387 t389 _ A4.out).mono ?_); rintro e w10 ⟨rfl, hb⟩; refine ⟨_, rfl, ?_⟩; have n0_ := Aside0.mk (blk_below (g := gb386) (o := .cells #[.int .i64 0, .slice none 0 0] 28 (0, 0)) (by (with_reducible repeat (first | refine blk_drewN ?_ _ | refine blk_drew ?_ | refine blk_alloc ?_ _)); refine blk_far ?_ NB386_388.out _; (with_reducible repeat (first | refine blk_drewN ?_ _ | refine blk_drew ?_ | refine blk_alloc ?_ _)); refine blk_far ?_ NB386_388.out _; (with_reducible repeat (first | refine blk_drewN ?_ _ | refine blk_drew ?_ | refine blk_alloc ?_ _)); exact BK386.out) hb); have n1_ := Aside0.mk (blk_below (g := gb388) (o := .cells #[.int .i64 t387, .slice none 0 0] 28 (0, 0)) (by (with_reducible repeat (first | refine blk_drewN ?_ _ | refine blk_drew ?_ | refine blk_alloc ?_ _)); refine blk_put (cs := #[.int .i64 t387, .slice none 0 0]) ?_ 1 _ rfl; (with_reducible repeat (first | refine blk_drewN ?_ _ | refine blk_drew ?_ | refine blk_alloc ?_ _)); refine blk_put (cs := #[.int .i64 0, .slice none 0 0]) ?_ 0 _ rfl; (with_reducible repeat (first | refine blk_drewN ?_ _ | refine blk_drew ?_ | refine blk_alloc ?_ _)); exact BK388.out) hb); have n2_ := Aside0.mk (below_step (by repeat (first | (with_reducible first | exact HB.out | apply below_alloc | apply pw_below_drewN | apply below_drew1 | refine below_set ?_ GE386.out | refine below_set ?_ GE388.out) | exact HB.out)) hb); clear BK386; clear BK388; clear HB; have BK386 := n0_; have BK388 := n1_; have HB := n2_; clear n0_ n1_ n2_; (try clear hb); (try clear hb2); (try clear hk); (try clear hi)) | ((with_reducible refine gate_callee (f := 24) rfl ?_); refine goesL_ (some 15) rfl rfl Tryd.func24 (by kernel_rfl) rfl #[.string t389] rfl (by (try simp only [List.map_toArray, List.map_cons, List.map_nil]); first | done | rfl | (simp only [List.length_drop, List.length_take]; rfl)) ?_; (with_reducible refine (letterpressref2_Words.calls k t389 t390 _ A5.out).mono ?_); rintro e w11 ⟨v391, rfl, ho0, hb⟩; refine ⟨_, rfl, ?_⟩; have n0_ := Aside0.mk (Kd.R_lower ho0 (below_size (by repeat (first | (with_reducible first | exact HB.out | apply below_alloc | apply pw_below_drewN | apply below_drew1 | refine below_set ?_ GE386.out | refine below_set ?_ GE388.out) | exact HB.out)))); have n1_ := Aside0.mk (blk_below (g := gb386) (o := .cells #[.int .i64 0, .slice none 0 0] 28 (0, 0)) (by (with_reducible repeat (first | refine blk_drewN ?_ _ | refine blk_drew ?_ | refine blk_alloc ?_ _)); exact BK386.out) hb); have n2_ := Aside0.mk (blk_below (g := gb388) (o := .cells #[.int .i64 t387, .slice none 0 0] 28 (0, 0)) (by (with_reducible repeat (first | refine blk_drewN ?_ _ | refine blk_drew ?_ | refine blk_alloc ?_ _)); exact BK388.out) hb); have n3_ := Aside0.mk (below_step (by repeat (first | (with_reducible first | exact HB.out | apply below_alloc | apply pw_below_drewN | apply below_drew1 | refine below_set ?_ GE386.out | refine below_set ?_ GE388.out) | exact HB.out)) hb); clear BK386; clear BK388; clear HB; have HO392 := n0_; have BK386 := n1_; have BK388 := n2_; have HB := n3_; clear n0_ n1_ n2_ n3_; (try clear hb); (try clear hb2); (try clear hk); (try clear hi); (try clear ho0)))
  go_loopg [7] k (fun kq v7 w' => ∃ (x7_1 : Int) (x389001_1 : List Int) (u389001 : Value), v7 = .int .i64 x7_1 ∧ Aside0 (letterpresslaw2_Make.l0 kq l1 t390 x7_1 t387 x389001_1 = some (r1, r2)) ∧ Aside0 (kq ≤ k) ∧ Aside0 (Kd.R Kd.string 9 w' w.heap.size (fun _ => True) v391 t390) ∧ Aside0 (Kd.R (Kd.int .i64) 3 w' w.heap.size (fun _ => True) u389001 x389001_1) ∧ Aside0 (w'.heap[gb386]? = some (.cells #[.int .i64 0, (.slice none 0 0)] 28 (0, 0))) ∧ Aside0 (w'.heap[gb388]? = some (.cells #[.int .i64 t387, u389001] 28 (0, 0))) ∧ Aside0 (Below w.heap.size w w'))
  case atStart => exact ⟨(0), (([] : List Int)), (.slice none 0 0), (by first | rfl | (simp; done) | (simp [*]; done)), H', ⟨Nat.le_refl _⟩, ⟨by (with_reducible repeat (first | apply Kd.R_alloc | apply Kd.R_drewN | apply Kd.R_drew)); exact HO392.out⟩, ⟨by first | exact Kd.R_nil _ _ _ _ _ | exact Kd.N_nil _ _ _ _ _ | exact Kd.V_nil _ _ _ _ _ | exact Kd.Q_nil _ _ _ _ _ | exact Kd.S_nil _ _ _ _ _⟩, ⟨by (with_reducible repeat (first | refine blk_drewN ?_ _ | refine blk_drew ?_ | refine blk_alloc ?_ _)); exact BK386.out⟩, ⟨by (with_reducible repeat (first | refine blk_drewN ?_ _ | refine blk_drew ?_ | refine blk_alloc ?_ _)); exact BK388.out⟩, ⟨by repeat (first | (with_reducible first | exact HB.out | apply below_alloc | apply pw_below_drewN | apply below_drew1 | refine below_set ?_ GE386.out | refine below_set ?_ GE388.out) | exact HB.out)⟩⟩
  case round =>
    clear H'
    try clear c1
    try clear c2
    try clear p2
    try clear c8
    try clear hcz9_0
    try clear hcz9_1
    try clear hfz9_0
    try clear hfz9_1
    obtain ⟨x7_1, x389001_1, u389001, rfl, HA, HK1, HO_6, HO_389001, BK386, BK388, HB⟩ := hrel
    cases gk with
    | zero => exact absurd HA.out (by simp [letterpresslaw2_Make.l0])
    | succ k1 =>
      have H := HA.out
      clear HA
      simp only [letterpresslaw2_Make.l0] at H
      by_cases c12 : x7_1 < (t390.length : Int)
      · rw [if_pos c12] at H
        have c12b0 : decide (x7_1 < (t390.length : Int)) = true := decide_eq_true c12
        clear c12
        by_cases c13 : x7_1 < (l1.length : Int)
        · rw [if_pos c13] at H
          have c13b0 : decide (x7_1 < (l1.length : Int)) = true := decide_eq_true c13
          clear c13
          by_cases c14 : 0 ≤ x7_1
          · rw [if_pos c14] at H
            have c14b0 : decide (0 ≤ x7_1) = true := decide_eq_true c14
            clear c14
            replace H := Option.bind_eq_some_iff.mp H
            obtain ⟨t395, A150, H⟩ := H
            replace H : (if x389001_1.length < 17592186044416 then (letterpresslaw2_Make.l0 k1 l1 t390 (wrap64 (x7_1 + 1)) t387 (x389001_1 ++ [t395])) else (none)) = some (r1, r2) := H
            have A15 := Aside0.mk A150
            clear A150
            by_cases c16 : x389001_1.length < 17592186044416
            · rw [if_pos c16] at H
              have LMc16 := Aside0.mk c16
              clear c16
              obtain ⟨y396, hy396⟩ : ∃ y_ : List Int, y_ = (x389001_1 ++ [t395]) := ⟨_, rfl⟩
              replace H : (letterpresslaw2_Make.l0 k1 l1 t390 (wrap64 (x7_1 + 1)) t387 y396) = some (r1, r2) := by first | (rw [hy396]; with_reducible exact H) | (have H2_ := (Option.bind_some _ _).symm.trans H; rw [hy396]; with_reducible exact H2_) | (have H2_ := (Option.bind_some _ _).symm.trans H; with_reducible exact H2_) | with_reducible exact H | (rw [hy396]; exact H) | exact H
              have Ny396 := Aside0.mk hy396
              clear hy396
              have H' := Aside0.mk H
              clear H
              obtain ⟨Ao17, co17, eo17⟩ := Kd.R_slice HO_6.out
              subst eo17
              have p393 : 0 ≤ (x7_1 : Int) := of_decide_eq_true (by first | (with_reducible assumption) | assumption)
              have q393 : x7_1 < (l1.length : Int) := of_decide_eq_true (by first | (with_reducible assumption) | assumption)
              obtain ⟨ad393, e393, hx393_0⟩ := Kd.at_int HR1.out x7_1 p393 q393
              cases e393
              replace hx393_0 := (HB.out.cell (World.block_lt_of_cell? w _ hx393_0)).trans hx393_0
              replace p393 := eq_true p393
              replace q393 := eq_true q393
              try go_wp2
              have n0_ := Aside0.mk (Kd.R_drew HO_6.out)
              have n1_ := Aside0.mk (Kd.R_drew HO_389001.out)
              have n2_ := Aside0.mk (blk_drew BK386.out)
              have n3_ := Aside0.mk (blk_drew BK388.out)
              have n4_ := Aside0.mk (below_drew1 HB.out)
              clear HO_6
              clear HO_389001
              clear BK386
              clear BK388
              clear HB
              have HO_6 := n0_
              have HO_389001 := n1_
              have BK386 := n2_
              have BK388 := n3_
              have HB := n4_
              clear n0_ n1_ n2_ n3_ n4_
              have p394 : 0 ≤ (x7_1 : Int) := of_decide_eq_true (by first | (with_reducible assumption) | assumption)
              have q394 : x7_1 < (t390.length : Int) := of_decide_eq_true (by first | (with_reducible assumption) | assumption)
              obtain ⟨ad394, e394, hx394_0⟩ := Kd.at_string (Kd.R_reads' HO_6.out).2.2 x7_1 p394 q394
              cases e394
              replace p394 := eq_true p394
              replace q394 := eq_true q394
              refine start_ (n := 12) (S := fun w' => w'.cell? ⟨gb388, 0, none⟩ = some (.int .i64 t387) ∧ w'.cell? ⟨gb388, 1, none⟩ = some (u389001) ∧ w'.cell? (ad394.add (x7_1).toNat) = some (.string (rdOf ByteArray.empty t390 x7_1))) (ds := [9, 11]) #[false, false, false, false, false, false, false, false, false, false, false, false] (by kernel_rfl) rfl rfl ⟨(blk_cell BK388.out 0).trans rfl, (blk_cell BK388.out 1).trans rfl, hx394_0⟩ (fun hHeld => ?_); refine with_tabW letterpresslaw2_Make.tab9 letterpresslaw2_Make.bits9 (fun HT_ HW_ => ?_)
              generalize wr.drew = w18 at HO_6 HO_389001 BK386 BK388 HB hx394_0 hHeld ⊢
              refine pure_ (i := 0) (N := some 31) (v := ?_) (a' := ?_) #[true, false, false, false, false, false, false, false, false, false, false, false] rfl rfl (any_of HT_.out (by kernel_rfl)) (fun _ _ _ h => h) (Or.inl ⟨by rfl, ?_⟩) ?_ ?_
              rotate_left
              · intro w'
                go_simp
                with_reducible rfl
              rotate_left
              · simp only [Act.put, List.setIfInBounds_toArray, List.set_cons_zero, List.set_cons_succ, i64_w, i32_w]
                rfl
              refine pure_ (i := 2) (N := some 33) (v := ?_) (a' := ?_) #[true, false, true, false, false, false, false, false, false, false, false, false] rfl rfl (any_of HT_.out (by kernel_rfl)) (fun _ _ _ h => h) (Or.inl ⟨by rfl, ?_⟩) ?_ ?_
              rotate_left
              · intro w'
                go_simp
                with_reducible rfl
              rotate_left
              · simp only [Act.put, List.setIfInBounds_toArray, List.set_cons_zero, List.set_cons_succ, i64_w, i32_w]
                rfl
              refine pure_ (i := 3) (N := some 34) (v := ?_) (a' := ?_) #[true, false, true, true, false, false, false, false, false, false, false, false] rfl rfl (any_of HT_.out (by kernel_rfl)) (fun _ _ _ h => h) (Or.inl ⟨by rfl, ?_⟩) ?_ ?_
              rotate_left
              · intro w'
                go_simp
                with_reducible rfl
              rotate_left
              · simp only [Act.put, List.setIfInBounds_toArray, List.set_cons_zero, List.set_cons_succ, i64_w, i32_w]
                rfl
              refine pure_ (i := 4) (N := some 35) (v := ?_) (a' := ?_) #[true, false, true, true, true, false, false, false, false, false, false, false] rfl rfl (any_of HT_.out (by kernel_rfl)) (fun _ _ _ h => h) (Or.inl ⟨by rfl, ?_⟩) ?_ ?_
              rotate_left
              · intro w'
                go_simp
                with_reducible rfl
              rotate_left
              · simp only [Act.put, List.setIfInBounds_toArray, List.set_cons_zero, List.set_cons_succ, i64_w, i32_w]
                rfl
              refine pure_ (i := 6) (N := some 37) (v := ?_) (a' := ?_) #[true, false, true, true, true, false, true, false, false, false, false, false] rfl rfl (any_of HT_.out (by kernel_rfl)) (fun _ _ _ h => h) (Or.inl ⟨by rfl, ?_⟩) ?_ ?_
              rotate_left
              · intro w'
                go_simp
                with_reducible rfl
              rotate_left
              · simp only [Act.put, List.setIfInBounds_toArray, List.set_cons_zero, List.set_cons_succ, i64_w, i32_w]
                rfl
              refine take_ (i := 1) (N := some 32) (v := ?_) (a' := ?_) #[true, true, true, true, true, false, true, false, false, false, false, false] rfl rfl (take_ofW HT_.out HW_.out (by kernel_rfl)) (fun _ _ _ h => h) (Or.inl ⟨by rfl, ?_⟩) hHeld ?_ ?_
              rotate_left
              · rintro w' ⟨s0, s1, s2⟩
                go_simp
                with_reducible rfl
              rotate_left
              · simp only [Act.put, List.setIfInBounds_toArray, List.set_cons_zero, List.set_cons_succ, i64_w, i32_w]
                rfl
              refine take_ (i := 5) (N := some 36) (v := ?_) (a' := ?_) #[true, true, true, true, true, true, true, false, false, false, false, false] rfl rfl (take_ofW HT_.out HW_.out (by kernel_rfl)) (fun _ _ _ h => h) (Or.inl ⟨by rfl, ?_⟩) hHeld ?_ ?_
              rotate_left
              · rintro w' ⟨s0, s1, s2⟩
                go_simp
                with_reducible rfl
              rotate_left
              · simp only [Act.put, List.setIfInBounds_toArray, List.set_cons_zero, List.set_cons_succ, i64_w, i32_w]
                rfl
              refine one_ (i := 7) (N := some 38) #[true, true, true, true, true, true, true, true, false, false, false, false] rfl rfl (one_of HT_.out (by kernel_rfl)) (by decide) (fun K hK => ?_)
              refine goes_ Tryd.func23 (by kernel_rfl) rfl #[.string (rdOf ByteArray.empty t390 x7_1), .int .i64 (rd l1 x7_1)] (by rfl) rfl rfl (by (try simp only [List.map_toArray, List.map_cons, List.map_nil]); first | done | rfl | (simp only [List.length_drop, List.length_take]; rfl)) ?_
              with_reducible refine (letterpresslaw2_Operand.calls k1 (rdOf ByteArray.empty t390 x7_1) (rd l1 x7_1) t395 _ A15.out).mono ?_
              rintro e w19 ⟨rfl, hb⟩
              have HS2_ := (hb.cell (World.block_lt_of_cell? _ _ (hHeld.2.2))).trans (hHeld.2.2)
              refine ⟨_, rfl, ?_⟩
              have n0_ := Aside0.mk (Kd.R_below (by (with_reducible repeat (first | apply Kd.R_alloc | apply Kd.R_drewN | apply Kd.R_drew)); exact HO_6.out) hb)
              have n1_ := Aside0.mk (Kd.R_below (by (with_reducible repeat (first | apply Kd.R_alloc | apply Kd.R_drewN | apply Kd.R_drew)); exact HO_389001.out) hb)
              have n2_ := Aside0.mk (blk_below (g := gb386) (o := .cells #[.int .i64 0, .slice none 0 0] 28 (0, 0)) (by (with_reducible repeat (first | refine blk_drewN ?_ _ | refine blk_drew ?_ | refine blk_alloc ?_ _)); exact BK386.out) hb)
              have n3_ := Aside0.mk (blk_below (g := gb388) (o := .cells #[.int .i64 t387, u389001] 28 (0, 0)) (by (with_reducible repeat (first | refine blk_drewN ?_ _ | refine blk_drew ?_ | refine blk_alloc ?_ _)); exact BK388.out) hb)
              have n4_ := Aside0.mk (below_step (by repeat (first | (with_reducible first | exact HB.out | apply below_alloc | apply pw_below_drewN | apply below_drew1 | refine below_set ?_ GE386.out | refine below_set ?_ GE388.out) | exact HB.out)) hb)
              clear HO_6
              clear HO_389001
              clear BK386
              clear BK388
              clear HB
              have HO_6 := n0_
              have HO_389001 := n1_
              have BK386 := n2_
              have BK388 := n3_
              have HB := n4_
              clear n0_ n1_ n2_ n3_ n4_
              (try clear hb)
              (try clear hb2)
              (try clear hk)
              (try clear hi)
              refine hK.out _ _ ⟨(blk_cell BK388.out 0).trans rfl, (blk_cell BK388.out 1).trans rfl, HS2_⟩ (fun hHeld => ?_)
              clear hK K
              refine norm_ (a' := ?_) ?_ ?_
              rotate_left
              · show Act.put _ (some 38) _ = _
                simp only [Act.put, List.setIfInBounds_toArray, List.set_cons_zero, List.set_cons_succ, i64_w, i32_w]
                rfl
              refine one_ (i := 8) (N := some 39) #[true, true, true, true, true, true, true, true, true, false, false, false] rfl rfl (one_of HT_.out (by kernel_rfl)) (by decide) (fun K hK => ?_)
              refine value_ (w1 := ?_) (v := ?_) (by rfl) rfl ?_ ?_
              rotate_left 2
              · go_simp
                constructor
                · rfl
                · rfl
              refine hK.out _ _ ⟨(blk_cell (blk_alloc BK388.out _) 0).trans rfl, (blk_cell (blk_alloc BK388.out _) 1).trans rfl, (World.cell?_alloc_lt _ _ _ (World.block_lt_of_cell? _ _ (hHeld.2.2))).trans (hHeld.2.2)⟩ (fun hHeld => ?_)
              clear hK K
              refine norm_ (a' := ?_) ?_ ?_
              rotate_left
              · show Act.put _ (some 39) _ = _
                simp only [Act.put, List.setIfInBounds_toArray, List.set_cons_zero, List.set_cons_succ, i64_w, i32_w]
                rfl
              refine last_ (i := 9) (N := some 40) #[true, true, true, true, true, true, true, true, true, true, false, false] rfl rfl (one_of HT_.out (by kernel_rfl)) (by decide) (fun K hK => ?_)
              refine Kd.R_append_step (Kd.int .i64) (w0 := w) w.heap.size (by rfl) (.tmp 32) (.tmp 39) 23 3 (.int .i64 0) 8 rfl Tryd.underlying23 info3 rfl (by decide) (by omega) u389001 x389001_1 t395 [.int .i64 t395] (fun _ => True) (fun _ => False) rfl rfl ?aP (fun _ hk => hk.elim) ?aF ?aO ?aB ?aS ?aL ?_
              (case aP => exact rfl)
              (case aB => exact (by repeat (first | (with_reducible first | exact HB.out | apply below_alloc | apply pw_below_drewN | apply below_drew1 | refine below_set ?_ GE386.out | refine below_set ?_ GE388.out) | exact HB.out)))
              (case aF => exact (fun _ _ => trivial))
              (case aO => exact (by (with_reducible repeat (first | apply Kd.R_alloc | apply Kd.R_drewN | apply Kd.R_drew)); exact HO_389001.out))
              (case aS => exact (below_size (by repeat (first | (with_reducible first | exact HB.out | apply below_alloc | apply pw_below_drewN | apply below_drew1 | refine below_set ?_ GE386.out | refine below_set ?_ GE388.out) | exact HB.out))))
              (case aL => have := LMc16.out; omega)
              intro v397 w20 ho hb hg hat
              rw [← Ny396.out] at ho
              have n0_ := Aside0.mk (Kd.R_over' (by (with_reducible repeat (first | apply Kd.R_alloc | apply Kd.R_drewN | apply Kd.R_drew)); exact HO_6.out) (Kd.R_typed (by (with_reducible repeat (first | apply Kd.R_alloc | apply Kd.R_drewN | apply Kd.R_drew)); exact HO_389001.out)) (by decide) hg)
              have n1_ := Aside0.mk (blk_grown (g := gb386) (o := .cells #[.int .i64 0, .slice none 0 0] 28 (0, 0)) (by (with_reducible repeat (first | refine blk_drewN ?_ _ | refine blk_drew ?_ | refine blk_alloc ?_ _)); exact BK386.out) hg (Kd.R_ne HO_389001.out BK386.out (by decide)))
              have n2_ := Aside0.mk (blk_grown (g := gb388) (o := .cells #[.int .i64 t387, u389001] 28 (0, 0)) (by (with_reducible repeat (first | refine blk_drewN ?_ _ | refine blk_drew ?_ | refine blk_alloc ?_ _)); exact BK388.out) hg (Kd.R_ne HO_389001.out BK388.out (by decide)))
              have n3_ := Aside0.mk (hb)
              have n4_ := Aside0.mk (ho)
              clear HO_6
              clear BK386
              clear BK388
              clear HB
              clear HO_389001
              have HO_6 := n0_
              have BK386 := n1_
              have BK388 := n2_
              have HB := n3_
              have HO398 := n4_
              clear n0_ n1_ n2_ n3_ n4_
              clear ho hb hg hat
              obtain ⟨Ao21, co21, eo21⟩ := Kd.R_slice HO398.out
              (first | subst eo21 | (injection eo21 with f1_ f2_ f3_; have f4_ := f1_.symm; have f5_ := f3_.symm; clear f1_ f2_ f3_; subst f4_; subst f5_))
              refine hK.out _ _ ?_
              clear hK K
              refine norm_ (a' := ?_) ?_ ?_
              rotate_left
              · show Act.put _ (some 40) _ = _
                simp only [Act.put, List.setIfInBounds_toArray, List.set_cons_zero, List.set_cons_succ, i64_w, i32_w]
                rfl
              refine pure_ (i := 10) (N := some 41) (v := ?_) (a' := ?_) #[true, true, true, true, true, true, true, true, true, true, true, false] rfl rfl (any_of HT_.out (by kernel_rfl)) (fun _ _ _ h => h) (Or.inl ⟨by rfl, ?_⟩) ?_ ?_
              rotate_left
              · intro w'
                go_simp
                with_reducible rfl
              rotate_left
              · simp only [Act.put, List.setIfInBounds_toArray, List.set_cons_zero, List.set_cons_succ, i64_w, i32_w]
                rfl
              refine last_ (i := 11) (N := none) #[true, true, true, true, true, true, true, true, true, true, true, true] rfl rfl (one_of HT_.out (by kernel_rfl)) (by decide) (fun K hK => ?_)
              have hs22 : w20.cell? ⟨gb388, 1, none⟩ = some (u389001) := (blk_cell BK388.out 1).trans rfl
              have hfs22 := blk_frozen BK388.out 1
              have hns22_0 := NB386_388.out
              have hms22_0 := NB388_386.out
              refine skip_ (w1 := ?_) (by rfl) rfl ?_ ?_
              rotate_left
              · go_simp
                rfl
              refine hK.out _ _ ?_
              clear hK K
              refine done_ (done_of HT_.out (by kernel_rfl)) ?_
              try go_wp2
              go_roundg k1
              case measure => have := HK1.out; omega
              case rel => exact ⟨(wrap64 (x7_1 + 1)), (y396), (.slice Ao21 y396.length co21), (by first | rfl | (simp; done) | (simp [*]; done)), H', ⟨by have := HK1.out; omega⟩, ⟨by (with_reducible repeat (first | apply Kd.R_alloc | apply Kd.R_drewN | apply Kd.R_drew)); exact Kd.R_mono (Kd.R_far (p := ⟨gb388, 1, none⟩) (Kd.R_types HO_6.out BK388.out (by decide)) (fun _ hk => hk.2) (.slice Ao21 y396.length co21)) (fun _ hk => trivial)⟩, ⟨by (with_reducible repeat (first | apply Kd.R_alloc | apply Kd.R_drewN | apply Kd.R_drew)); exact Kd.R_mono (Kd.R_far (p := ⟨gb388, 1, none⟩) (Kd.R_types HO398.out BK388.out (by decide)) (fun _ hk => hk.2) (.slice Ao21 y396.length co21)) (fun _ hk => trivial)⟩, ⟨by (with_reducible repeat (first | refine blk_drewN ?_ _ | refine blk_drew ?_ | refine blk_alloc ?_ _)); refine blk_far ?_ NB386_388.out _; (with_reducible repeat (first | refine blk_drewN ?_ _ | refine blk_drew ?_ | refine blk_alloc ?_ _)); exact BK386.out⟩, ⟨by (with_reducible repeat (first | refine blk_drewN ?_ _ | refine blk_drew ?_ | refine blk_alloc ?_ _)); refine blk_put (cs := #[.int .i64 t387, u389001]) ?_ 1 _ rfl; (with_reducible repeat (first | refine blk_drewN ?_ _ | refine blk_drew ?_ | refine blk_alloc ?_ _)); exact BK388.out⟩, ⟨by repeat (first | (with_reducible first | exact HB.out | apply below_alloc | apply pw_below_drewN | apply below_drew1 | refine below_set ?_ GE386.out | refine below_set ?_ GE388.out) | exact HB.out)⟩⟩
            · rw [if_neg c16] at H
              exact absurd H (by simp)
          · rw [if_neg c14] at H
            exact absurd H (by simp)
        · rw [if_neg c13] at H
          have c13b0 : decide (x7_1 < (l1.length : Int)) = false := decide_eq_false c13
          clear c13
          by_cases c23 : 0 ≤ x7_1
          · rw [if_pos c23] at H
            have c23b0 : decide (0 ≤ x7_1) = true := decide_eq_true c23
            clear c23
            replace H := Option.bind_eq_some_iff.mp H
            obtain ⟨t400, A240, H⟩ := H
            replace H : (if x389001_1.length < 17592186044416 then (letterpresslaw2_Make.l0 k1 l1 t390 (wrap64 (x7_1 + 1)) t387 (x389001_1 ++ [t400])) else (none)) = some (r1, r2) := H
            have A24 := Aside0.mk A240
            clear A240
            by_cases c25 : x389001_1.length < 17592186044416
            · rw [if_pos c25] at H
              have LMc25 := Aside0.mk c25
              clear c25
              obtain ⟨y401, hy401⟩ : ∃ y_ : List Int, y_ = (x389001_1 ++ [t400]) := ⟨_, rfl⟩
              replace H : (letterpresslaw2_Make.l0 k1 l1 t390 (wrap64 (x7_1 + 1)) t387 y401) = some (r1, r2) := by first | (rw [hy401]; with_reducible exact H) | (have H2_ := (Option.bind_some _ _).symm.trans H; rw [hy401]; with_reducible exact H2_) | (have H2_ := (Option.bind_some _ _).symm.trans H; with_reducible exact H2_) | with_reducible exact H | (rw [hy401]; exact H) | exact H
              have Ny401 := Aside0.mk hy401
              clear hy401
              have H' := Aside0.mk H
              clear H
              obtain ⟨Ao26, co26, eo26⟩ := Kd.R_slice HO_6.out
              subst eo26
              try go_wp2
              have n0_ := Aside0.mk (Kd.R_drew HO_6.out)
              have n1_ := Aside0.mk (Kd.R_drew HO_389001.out)
              have n2_ := Aside0.mk (blk_drew BK386.out)
              have n3_ := Aside0.mk (blk_drew BK388.out)
              have n4_ := Aside0.mk (below_drew1 HB.out)
              clear HO_6
              clear HO_389001
              clear BK386
              clear BK388
              clear HB
              have HO_6 := n0_
              have HO_389001 := n1_
              have BK386 := n2_
              have BK388 := n3_
              have HB := n4_
              clear n0_ n1_ n2_ n3_ n4_
              have p399 : 0 ≤ (x7_1 : Int) := of_decide_eq_true (by first | (with_reducible assumption) | assumption)
              have q399 : x7_1 < (t390.length : Int) := of_decide_eq_true (by first | (with_reducible assumption) | assumption)
              obtain ⟨ad399, e399, hx399_0⟩ := Kd.at_string (Kd.R_reads' HO_6.out).2.2 x7_1 p399 q399
              cases e399
              replace p399 := eq_true p399
              replace q399 := eq_true q399
              refine start_ (n := 12) (S := fun w' => w'.cell? ⟨gb388, 0, none⟩ = some (.int .i64 t387) ∧ w'.cell? ⟨gb388, 1, none⟩ = some (u389001) ∧ w'.cell? (ad399.add (x7_1).toNat) = some (.string (rdOf ByteArray.empty t390 x7_1))) (ds := [9, 11]) #[false, false, false, false, false, false, false, false, false, false, false, false] (by kernel_rfl) rfl rfl ⟨(blk_cell BK388.out 0).trans rfl, (blk_cell BK388.out 1).trans rfl, hx399_0⟩ (fun hHeld => ?_); refine with_tabW letterpresslaw2_Make.tab9 letterpresslaw2_Make.bits9 (fun HT_ HW_ => ?_)
              generalize wr.drew = w27 at HO_6 HO_389001 BK386 BK388 HB hx399_0 hHeld ⊢
              refine pure_ (i := 0) (N := some 31) (v := ?_) (a' := ?_) #[true, false, false, false, false, false, false, false, false, false, false, false] rfl rfl (any_of HT_.out (by kernel_rfl)) (fun _ _ _ h => h) (Or.inl ⟨by rfl, ?_⟩) ?_ ?_
              rotate_left
              · intro w'
                go_simp
                with_reducible rfl
              rotate_left
              · simp only [Act.put, List.setIfInBounds_toArray, List.set_cons_zero, List.set_cons_succ, i64_w, i32_w]
                rfl
              refine pure_ (i := 2) (N := some 33) (v := ?_) (a' := ?_) #[true, false, true, false, false, false, false, false, false, false, false, false] rfl rfl (any_of HT_.out (by kernel_rfl)) (fun _ _ _ h => h) (Or.inl ⟨by rfl, ?_⟩) ?_ ?_
              rotate_left
              · intro w'
                go_simp
                with_reducible rfl
              rotate_left
              · simp only [Act.put, List.setIfInBounds_toArray, List.set_cons_zero, List.set_cons_succ, i64_w, i32_w]
                rfl
              refine pure_ (i := 3) (N := some 34) (v := ?_) (a' := ?_) #[true, false, true, true, false, false, false, false, false, false, false, false] rfl rfl (any_of HT_.out (by kernel_rfl)) (fun _ _ _ h => h) (Or.inl ⟨by rfl, ?_⟩) ?_ ?_
              rotate_left
              · intro w'
                go_simp
                with_reducible rfl
              rotate_left
              · simp only [Act.put, List.setIfInBounds_toArray, List.set_cons_zero, List.set_cons_succ, i64_w, i32_w]
                rfl
              refine pure_ (i := 4) (N := some 35) (v := ?_) (a' := ?_) #[true, false, true, true, true, false, false, false, false, false, false, false] rfl rfl (any_of HT_.out (by kernel_rfl)) (fun _ _ _ h => h) (Or.inl ⟨by rfl, ?_⟩) ?_ ?_
              rotate_left
              · intro w'
                go_simp
                with_reducible rfl
              rotate_left
              · simp only [Act.put, List.setIfInBounds_toArray, List.set_cons_zero, List.set_cons_succ, i64_w, i32_w]
                rfl
              refine pure_ (i := 6) (N := some 37) (v := ?_) (a' := ?_) #[true, false, true, true, true, false, true, false, false, false, false, false] rfl rfl (any_of HT_.out (by kernel_rfl)) (fun _ _ _ h => h) (Or.inl ⟨by rfl, ?_⟩) ?_ ?_
              rotate_left
              · intro w'
                go_simp
                with_reducible rfl
              rotate_left
              · simp only [Act.put, List.setIfInBounds_toArray, List.set_cons_zero, List.set_cons_succ, i64_w, i32_w]
                rfl
              refine take_ (i := 1) (N := some 32) (v := ?_) (a' := ?_) #[true, true, true, true, true, false, true, false, false, false, false, false] rfl rfl (take_ofW HT_.out HW_.out (by kernel_rfl)) (fun _ _ _ h => h) (Or.inl ⟨by rfl, ?_⟩) hHeld ?_ ?_
              rotate_left
              · rintro w' ⟨s0, s1, s2⟩
                go_simp
                with_reducible rfl
              rotate_left
              · simp only [Act.put, List.setIfInBounds_toArray, List.set_cons_zero, List.set_cons_succ, i64_w, i32_w]
                rfl
              refine take_ (i := 5) (N := some 36) (v := ?_) (a' := ?_) #[true, true, true, true, true, true, true, false, false, false, false, false] rfl rfl (take_ofW HT_.out HW_.out (by kernel_rfl)) (fun _ _ _ h => h) (Or.inl ⟨by rfl, ?_⟩) hHeld ?_ ?_
              rotate_left
              · rintro w' ⟨s0, s1, s2⟩
                go_simp
                with_reducible rfl
              rotate_left
              · simp only [Act.put, List.setIfInBounds_toArray, List.set_cons_zero, List.set_cons_succ, i64_w, i32_w]
                rfl
              refine one_ (i := 7) (N := some 38) #[true, true, true, true, true, true, true, true, false, false, false, false] rfl rfl (one_of HT_.out (by kernel_rfl)) (by decide) (fun K hK => ?_)
              refine goes_ Tryd.func23 (by kernel_rfl) rfl #[.string (rdOf ByteArray.empty t390 x7_1), .int .i64 x7_1] (by rfl) rfl rfl (by (try simp only [List.map_toArray, List.map_cons, List.map_nil]); first | done | rfl | (simp only [List.length_drop, List.length_take]; rfl)) ?_
              with_reducible refine (letterpresslaw2_Operand.calls k1 (rdOf ByteArray.empty t390 x7_1) x7_1 t400 _ A24.out).mono ?_
              rintro e w28 ⟨rfl, hb⟩
              have HS2_ := (hb.cell (World.block_lt_of_cell? _ _ (hHeld.2.2))).trans (hHeld.2.2)
              refine ⟨_, rfl, ?_⟩
              have n0_ := Aside0.mk (Kd.R_below (by (with_reducible repeat (first | apply Kd.R_alloc | apply Kd.R_drewN | apply Kd.R_drew)); exact HO_6.out) hb)
              have n1_ := Aside0.mk (Kd.R_below (by (with_reducible repeat (first | apply Kd.R_alloc | apply Kd.R_drewN | apply Kd.R_drew)); exact HO_389001.out) hb)
              have n2_ := Aside0.mk (blk_below (g := gb386) (o := .cells #[.int .i64 0, .slice none 0 0] 28 (0, 0)) (by (with_reducible repeat (first | refine blk_drewN ?_ _ | refine blk_drew ?_ | refine blk_alloc ?_ _)); exact BK386.out) hb)
              have n3_ := Aside0.mk (blk_below (g := gb388) (o := .cells #[.int .i64 t387, u389001] 28 (0, 0)) (by (with_reducible repeat (first | refine blk_drewN ?_ _ | refine blk_drew ?_ | refine blk_alloc ?_ _)); exact BK388.out) hb)
              have n4_ := Aside0.mk (below_step (by repeat (first | (with_reducible first | exact HB.out | apply below_alloc | apply pw_below_drewN | apply below_drew1 | refine below_set ?_ GE386.out | refine below_set ?_ GE388.out) | exact HB.out)) hb)
              clear HO_6
              clear HO_389001
              clear BK386
              clear BK388
              clear HB
              have HO_6 := n0_
              have HO_389001 := n1_
              have BK386 := n2_
              have BK388 := n3_
              have HB := n4_
              clear n0_ n1_ n2_ n3_ n4_
              (try clear hb)
              (try clear hb2)
              (try clear hk)
              (try clear hi)
              refine hK.out _ _ ⟨(blk_cell BK388.out 0).trans rfl, (blk_cell BK388.out 1).trans rfl, HS2_⟩ (fun hHeld => ?_)
              clear hK K
              refine norm_ (a' := ?_) ?_ ?_
              rotate_left
              · show Act.put _ (some 38) _ = _
                simp only [Act.put, List.setIfInBounds_toArray, List.set_cons_zero, List.set_cons_succ, i64_w, i32_w]
                rfl
              refine one_ (i := 8) (N := some 39) #[true, true, true, true, true, true, true, true, true, false, false, false] rfl rfl (one_of HT_.out (by kernel_rfl)) (by decide) (fun K hK => ?_)
              refine value_ (w1 := ?_) (v := ?_) (by rfl) rfl ?_ ?_
              rotate_left 2
              · go_simp
                constructor
                · rfl
                · rfl
              refine hK.out _ _ ⟨(blk_cell (blk_alloc BK388.out _) 0).trans rfl, (blk_cell (blk_alloc BK388.out _) 1).trans rfl, (World.cell?_alloc_lt _ _ _ (World.block_lt_of_cell? _ _ (hHeld.2.2))).trans (hHeld.2.2)⟩ (fun hHeld => ?_)
              clear hK K
              refine norm_ (a' := ?_) ?_ ?_
              rotate_left
              · show Act.put _ (some 39) _ = _
                simp only [Act.put, List.setIfInBounds_toArray, List.set_cons_zero, List.set_cons_succ, i64_w, i32_w]
                rfl
              refine last_ (i := 9) (N := some 40) #[true, true, true, true, true, true, true, true, true, true, false, false] rfl rfl (one_of HT_.out (by kernel_rfl)) (by decide) (fun K hK => ?_)
              refine Kd.R_append_step (Kd.int .i64) (w0 := w) w.heap.size (by rfl) (.tmp 32) (.tmp 39) 23 3 (.int .i64 0) 8 rfl Tryd.underlying23 info3 rfl (by decide) (by omega) u389001 x389001_1 t400 [.int .i64 t400] (fun _ => True) (fun _ => False) rfl rfl ?aP (fun _ hk => hk.elim) ?aF ?aO ?aB ?aS ?aL ?_
              (case aP => exact rfl)
              (case aB => exact (by repeat (first | (with_reducible first | exact HB.out | apply below_alloc | apply pw_below_drewN | apply below_drew1 | refine below_set ?_ GE386.out | refine below_set ?_ GE388.out) | exact HB.out)))
              (case aF => exact (fun _ _ => trivial))
              (case aO => exact (by (with_reducible repeat (first | apply Kd.R_alloc | apply Kd.R_drewN | apply Kd.R_drew)); exact HO_389001.out))
              (case aS => exact (below_size (by repeat (first | (with_reducible first | exact HB.out | apply below_alloc | apply pw_below_drewN | apply below_drew1 | refine below_set ?_ GE386.out | refine below_set ?_ GE388.out) | exact HB.out))))
              (case aL => have := LMc25.out; omega)
              intro v402 w29 ho hb hg hat
              rw [← Ny401.out] at ho
              have n0_ := Aside0.mk (Kd.R_over' (by (with_reducible repeat (first | apply Kd.R_alloc | apply Kd.R_drewN | apply Kd.R_drew)); exact HO_6.out) (Kd.R_typed (by (with_reducible repeat (first | apply Kd.R_alloc | apply Kd.R_drewN | apply Kd.R_drew)); exact HO_389001.out)) (by decide) hg)
              have n1_ := Aside0.mk (blk_grown (g := gb386) (o := .cells #[.int .i64 0, .slice none 0 0] 28 (0, 0)) (by (with_reducible repeat (first | refine blk_drewN ?_ _ | refine blk_drew ?_ | refine blk_alloc ?_ _)); exact BK386.out) hg (Kd.R_ne HO_389001.out BK386.out (by decide)))
              have n2_ := Aside0.mk (blk_grown (g := gb388) (o := .cells #[.int .i64 t387, u389001] 28 (0, 0)) (by (with_reducible repeat (first | refine blk_drewN ?_ _ | refine blk_drew ?_ | refine blk_alloc ?_ _)); exact BK388.out) hg (Kd.R_ne HO_389001.out BK388.out (by decide)))
              have n3_ := Aside0.mk (hb)
              have n4_ := Aside0.mk (ho)
              clear HO_6
              clear BK386
              clear BK388
              clear HB
              clear HO_389001
              have HO_6 := n0_
              have BK386 := n1_
              have BK388 := n2_
              have HB := n3_
              have HO403 := n4_
              clear n0_ n1_ n2_ n3_ n4_
              clear ho hb hg hat
              obtain ⟨Ao30, co30, eo30⟩ := Kd.R_slice HO403.out
              (first | subst eo30 | (injection eo30 with f1_ f2_ f3_; have f4_ := f1_.symm; have f5_ := f3_.symm; clear f1_ f2_ f3_; subst f4_; subst f5_))
              refine hK.out _ _ ?_
              clear hK K
              refine norm_ (a' := ?_) ?_ ?_
              rotate_left
              · show Act.put _ (some 40) _ = _
                simp only [Act.put, List.setIfInBounds_toArray, List.set_cons_zero, List.set_cons_succ, i64_w, i32_w]
                rfl
              refine pure_ (i := 10) (N := some 41) (v := ?_) (a' := ?_) #[true, true, true, true, true, true, true, true, true, true, true, false] rfl rfl (any_of HT_.out (by kernel_rfl)) (fun _ _ _ h => h) (Or.inl ⟨by rfl, ?_⟩) ?_ ?_
              rotate_left
              · intro w'
                go_simp
                with_reducible rfl
              rotate_left
              · simp only [Act.put, List.setIfInBounds_toArray, List.set_cons_zero, List.set_cons_succ, i64_w, i32_w]
                rfl
              refine last_ (i := 11) (N := none) #[true, true, true, true, true, true, true, true, true, true, true, true] rfl rfl (one_of HT_.out (by kernel_rfl)) (by decide) (fun K hK => ?_)
              have hs31 : w29.cell? ⟨gb388, 1, none⟩ = some (u389001) := (blk_cell BK388.out 1).trans rfl
              have hfs31 := blk_frozen BK388.out 1
              have hns31_0 := NB386_388.out
              have hms31_0 := NB388_386.out
              refine skip_ (w1 := ?_) (by rfl) rfl ?_ ?_
              rotate_left
              · go_simp
                rfl
              refine hK.out _ _ ?_
              clear hK K
              refine done_ (done_of HT_.out (by kernel_rfl)) ?_
              try go_wp2
              go_roundg k1
              case measure => have := HK1.out; omega
              case rel => exact ⟨(wrap64 (x7_1 + 1)), (y401), (.slice Ao30 y401.length co30), (by first | rfl | (simp; done) | (simp [*]; done)), H', ⟨by have := HK1.out; omega⟩, ⟨by (with_reducible repeat (first | apply Kd.R_alloc | apply Kd.R_drewN | apply Kd.R_drew)); exact Kd.R_mono (Kd.R_far (p := ⟨gb388, 1, none⟩) (Kd.R_types HO_6.out BK388.out (by decide)) (fun _ hk => hk.2) (.slice Ao30 y401.length co30)) (fun _ hk => trivial)⟩, ⟨by (with_reducible repeat (first | apply Kd.R_alloc | apply Kd.R_drewN | apply Kd.R_drew)); exact Kd.R_mono (Kd.R_far (p := ⟨gb388, 1, none⟩) (Kd.R_types HO403.out BK388.out (by decide)) (fun _ hk => hk.2) (.slice Ao30 y401.length co30)) (fun _ hk => trivial)⟩, ⟨by (with_reducible repeat (first | refine blk_drewN ?_ _ | refine blk_drew ?_ | refine blk_alloc ?_ _)); refine blk_far ?_ NB386_388.out _; (with_reducible repeat (first | refine blk_drewN ?_ _ | refine blk_drew ?_ | refine blk_alloc ?_ _)); exact BK386.out⟩, ⟨by (with_reducible repeat (first | refine blk_drewN ?_ _ | refine blk_drew ?_ | refine blk_alloc ?_ _)); refine blk_put (cs := #[.int .i64 t387, u389001]) ?_ 1 _ rfl; (with_reducible repeat (first | refine blk_drewN ?_ _ | refine blk_drew ?_ | refine blk_alloc ?_ _)); exact BK388.out⟩, ⟨by repeat (first | (with_reducible first | exact HB.out | apply below_alloc | apply pw_below_drewN | apply below_drew1 | refine below_set ?_ GE386.out | refine below_set ?_ GE388.out) | exact HB.out)⟩⟩
            · rw [if_neg c25] at H
              exact absurd H (by simp)
          · rw [if_neg c23] at H
            exact absurd H (by simp)
      · rw [if_neg c12] at H
        have c12b0 : decide (x7_1 < (t390.length : Int)) = false := decide_eq_false c12
        clear c12
        simp only [Option.some.injEq, Prod.mk.injEq] at H
        obtain ⟨rfl, rfl⟩ := H
        obtain ⟨Ao32, co32, eo32⟩ := Kd.R_slice HO_6.out
        subst eo32
        have hnb33 := NB388_386.out
        have hnc33 := NB386_388.out
        have hcz34_0 : wr.cell? ⟨gb388, 0, none⟩ = some (.int .i64 t387) := (blk_cell BK388.out 0).trans rfl
        have hcz34_1 : wr.cell? ⟨gb388, 1, none⟩ = some (u389001) := (blk_cell BK388.out 1).trans rfl
        have hfz34_0 := blk_frozen BK388.out 0
        have hfz34_1 := blk_frozen BK388.out 1
        have hcz35_0 : wr.cell? ⟨gb386, 0, none⟩ = some (.int .i64 0) := (blk_cell BK386.out 0).trans rfl
        have hcz35_1 : wr.cell? ⟨gb386, 1, none⟩ = some (.slice none 0 0) := (blk_cell BK386.out 1).trans rfl
        have hfz35_0 := blk_frozen BK386.out 0
        have hfz35_1 := blk_frozen BK386.out 1
        obtain ⟨Ao36, co36, eo36⟩ := Kd.R_slice HO_389001.out
        subst eo36
        go_wp2
        refine bodyPost_ret (results_cell_row rfl _ _ gb386 28 #[.int .i64 t387, .slice Ao36 x389001_1.length co36] (0, 0) _ rfl (by (with_reducible repeat (first | refine blk_drewN ?_ _ | refine blk_drew ?_ | refine blk_alloc ?_ _)); refine blk_put (cs := #[.int .i64 t387, .slice none 0 0]) ?_ 1 _ rfl; (with_reducible repeat (first | refine blk_drewN ?_ _ | refine blk_drew ?_ | refine blk_alloc ?_ _)); refine blk_put (cs := #[.int .i64 0, .slice none 0 0]) ?_ 0 _ rfl; (with_reducible repeat (first | refine blk_drewN ?_ _ | refine blk_drew ?_ | refine blk_alloc ?_ _)); exact BK386.out) Tryd.underlying28 rfl (by kernel_rfl)) rfl ?_
        exact ⟨_, by first | rfl | (simp [errW_none, errW_some] <;> rfl) | (simp [*, errW_none, errW_some] <;> rfl), by (with_reducible repeat (first | apply Kd.R_alloc | apply Kd.R_drewN | apply Kd.R_drew)); exact Kd.R_mono (Kd.R_far (p := ⟨gb386, 1, none⟩) (Kd.R_far (p := ⟨gb386, 0, none⟩) (Kd.R_types HO_389001.out BK386.out (by decide)) (fun _ hk => hk.2) (.int .i64 t387)) (fun _ hk => hk.2) (.slice Ao36 x389001_1.length co36)) (fun _ hk => trivial), by repeat (first | (with_reducible first | exact HB.out | apply below_alloc | apply pw_below_drewN | apply below_drew1 | refine below_set ?_ GE386.out | refine below_set ?_ GE388.out) | exact HB.out)⟩
end Go.Proofs.YticofbaajdgabaaDoor.X

namespace Go.Proofs.YticofbaajdgabaaDoor.X
open Go.RowKit Go.Proofs.YticofbaajdgabaaDoorW.PrintWords Go.Proofs.YticofbaajdgabaaDoorW.PrintLast Go.Proofs.YticofbaajdgabaaDoorW.PrintMore
attribute [local go_sem] max2_int min2_int max_two min_two
set_option linter.unusedVariables false
set_option linter.unusedSimpArgs false
set_option maxHeartbeats 8000000 in
set_option maxRecDepth 100000 in
theorem letterpressref2_Same.calls (k : Nat) (a0_0 : Int) (A0_1 : Option Addr) (c0_1 : Nat) (l0_1 : List Int) (a1_0 : Int) (A1_1 : Option Addr) (c1_1 : Nat) (l1_1 : List Int) (r : Bool) (w : World) (hr0_1 : Kd.C (Kd.int .i64) w A0_1 l0_1.length l0_1) (hc0_1 : l0_1.length ≤ c0_1) (hr1_1 : Kd.C (Kd.int .i64) w A1_1 l1_1.length l1_1) (hc1_1 : l1_1.length ≤ c1_1) (h : letterpressref2_Same.f k a0_0 l0_1 a1_0 l1_1 = some r) :
    Calls Tryd.prog 20 #[.agg #[.int .i64 a0_0, .slice A0_1 l0_1.length c0_1], .agg #[.int .i64 a1_0, .slice A1_1 l1_1.length c1_1]] w fun e w' => e = .returned (.bool r) ∧ Below w.heap.size w w' := by
  have hu28 := Tryd.underlying28
  have HR0_1 := Aside0.mk hr0_1
  have HC0_1 := Aside0.mk hc0_1
  clear hr0_1 hc0_1
  have HR1_1 := Aside0.mk hr1_1
  have HC1_1 := Aside0.mk hc1_1
  clear hr1_1 hc1_1
  have HB := Aside0.mk (Below.refl w.heap.size w)
  have H : (if a0_0 = a1_0 then (letterpressref2_Same.j0 k ((l0_1.length : Int) != (l1_1.length : Int)) a0_0 l0_1 a1_0 l1_1) else (letterpressref2_Same.j0 k true a0_0 l0_1 a1_0 l1_1)) = some r := h
  clear h
  have HC3 := Aside0.mk H
  clear H
  go_enter Tryd.func20, Tryd.ntmps20
  go_upto_region 1 with (first | ((with_reducible refine gate_dst (N := 2) rfl ?_); (try (refine gate_guard (by rfl) ?_; dsimp only)); refine box_event ?hg (N := 2) ?hd (cs := #[.int .i64 a0_0, .slice A0_1 l0_1.length c0_1]) (t := 28) ?hr ?_; (case hd => rfl); (case hg => rfl); (case hr => first | (go_simp; done) | (go_simp; rfl)); intro gb447 hg w4 hbox hb; have n0_ := Aside0.mk (below_step (by repeat (first | (with_reducible first | exact HB.out | apply below_alloc | apply pw_below_drewN | apply below_drew1) | exact HB.out)) hb); have n1_ := Aside0.mk (hbox); have n2_ := Aside0.mk ((by rw [hg]; exact (below_size (by repeat (first | (with_reducible first | exact HB.out | apply below_alloc | apply pw_below_drewN | apply below_drew1) | exact HB.out))) : w.heap.size ≤ gb447)); have n3_ := Aside0.mk ((by rw [hg]; exact (below_size (by repeat (first | (with_reducible first | exact HB.out | apply below_alloc | apply pw_below_drewN | apply below_drew1) | exact HB.out))) : w.heap.size ≤ gb447)); clear HB; have HB := n0_; have BK447 := n1_; have GW447 := n2_; have GE447 := n3_; clear n0_ n1_ n2_ n3_; clear hb hbox hg) | ((with_reducible refine gate_dst (N := 3) rfl ?_); (try (refine gate_guard (by rfl) ?_; dsimp only)); refine box_event ?hg (N := 3) ?hd (cs := #[.int .i64 a1_0, .slice A1_1 l1_1.length c1_1]) (t := 28) ?hr ?_; (case hd => rfl); (case hg => rfl); (case hr => first | (go_simp; done) | (go_simp; rfl)); intro gb448 hg w5 hbox hb; have n0_ := Aside0.mk (blk_below (g := gb447) (o := .cells #[.int .i64 a0_0, .slice A0_1 l0_1.length c0_1] 28 (0, 0)) (by (with_reducible repeat (first | refine blk_drewN ?_ _ | refine blk_drew ?_ | refine blk_alloc ?_ _)); exact BK447.out) hb); have n1_ := Aside0.mk (below_step (by repeat (first | (with_reducible first | exact HB.out | apply below_alloc | apply pw_below_drewN | apply below_drew1 | refine below_set ?_ GE447.out) | exact HB.out)) hb); have n2_ := Aside0.mk (hbox); have n3_ := Aside0.mk ((by rw [hg]; exact (below_size (by repeat (first | (with_reducible first | exact HB.out | apply below_alloc | apply pw_below_drewN | apply below_drew1 | refine below_set ?_ GE447.out) | exact HB.out))) : w.heap.size ≤ gb448)); have n4_ := Aside0.mk ((by rw [hg]; exact (below_size (by repeat (first | (with_reducible first | exact HB.out | apply below_alloc | apply pw_below_drewN | apply below_drew1 | refine below_set ?_ GE447.out) | exact HB.out))) : w.heap.size ≤ gb448)); have n5_ := Aside0.mk ((by rw [hg]; exact Nat.ne_of_lt (blk_lt (g := gb447) (o := .cells #[.int .i64 a0_0, .slice A0_1 l0_1.length c0_1] 28 (0, 0)) (by (with_reducible repeat (first | refine blk_drewN ?_ _ | refine blk_drew ?_ | refine blk_alloc ?_ _)); exact BK447.out)) : gb447 ≠ gb448)); have n6_ := Aside0.mk ((by rw [hg]; exact Nat.ne_of_gt (blk_lt (g := gb447) (o := .cells #[.int .i64 a0_0, .slice A0_1 l0_1.length c0_1] 28 (0, 0)) (by (with_reducible repeat (first | refine blk_drewN ?_ _ | refine blk_drew ?_ | refine blk_alloc ?_ _)); exact BK447.out)) : gb448 ≠ gb447)); clear BK447; clear HB; have BK447 := n0_; have HB := n1_; have BK448 := n2_; have GW448 := n3_; have GE448 := n4_; have NB447_448 := n5_; have NB448_447 := n6_; clear n0_ n1_ n2_ n3_ n4_ n5_ n6_; clear hb hbox hg))
  repeat (go_quiet (first | ((with_reducible refine gate_dst (N := 2) rfl ?_); (try (refine gate_guard (by rfl) ?_; dsimp only)); refine box_event ?hg (N := 2) ?hd (cs := #[.int .i64 a0_0, .slice A0_1 l0_1.length c0_1]) (t := 28) ?hr ?_; (case hd => rfl); (case hg => rfl); (case hr => first | (go_simp; done) | (go_simp; rfl)); intro gb447 hg w4 hbox hb; have n0_ := Aside0.mk (below_step (by repeat (first | (with_reducible first | exact HB.out | apply below_alloc | apply pw_below_drewN | apply below_drew1) | exact HB.out)) hb); have n1_ := Aside0.mk (hbox); have n2_ := Aside0.mk ((by rw [hg]; exact (below_size (by repeat (first | (with_reducible first | exact HB.out | apply below_alloc | apply pw_below_drewN | apply below_drew1) | exact HB.out))) : w.heap.size ≤ gb447)); have n3_ := Aside0.mk ((by rw [hg]; exact (below_size (by repeat (first | (with_reducible first | exact HB.out | apply below_alloc | apply pw_below_drewN | apply below_drew1) | exact HB.out))) : w.heap.size ≤ gb447)); clear HB; have HB := n0_; have BK447 := n1_; have GW447 := n2_; have GE447 := n3_; clear n0_ n1_ n2_ n3_; clear hb hbox hg) | ((with_reducible refine gate_dst (N := 3) rfl ?_); (try (refine gate_guard (by rfl) ?_; dsimp only)); refine box_event ?hg (N := 3) ?hd (cs := #[.int .i64 a1_0, .slice A1_1 l1_1.length c1_1]) (t := 28) ?hr ?_; (case hd => rfl); (case hg => rfl); (case hr => first | (go_simp; done) | (go_simp; rfl)); intro gb448 hg w5 hbox hb; have n0_ := Aside0.mk (blk_below (g := gb447) (o := .cells #[.int .i64 a0_0, .slice A0_1 l0_1.length c0_1] 28 (0, 0)) (by (with_reducible repeat (first | refine blk_drewN ?_ _ | refine blk_drew ?_ | refine blk_alloc ?_ _)); exact BK447.out) hb); have n1_ := Aside0.mk (below_step (by repeat (first | (with_reducible first | exact HB.out | apply below_alloc | apply pw_below_drewN | apply below_drew1 | refine below_set ?_ GE447.out) | exact HB.out)) hb); have n2_ := Aside0.mk (hbox); have n3_ := Aside0.mk ((by rw [hg]; exact (below_size (by repeat (first | (with_reducible first | exact HB.out | apply below_alloc | apply pw_below_drewN | apply below_drew1 | refine below_set ?_ GE447.out) | exact HB.out))) : w.heap.size ≤ gb448)); have n4_ := Aside0.mk ((by rw [hg]; exact (below_size (by repeat (first | (with_reducible first | exact HB.out | apply below_alloc | apply pw_below_drewN | apply below_drew1 | refine below_set ?_ GE447.out) | exact HB.out))) : w.heap.size ≤ gb448)); have n5_ := Aside0.mk ((by rw [hg]; exact Nat.ne_of_lt (blk_lt (g := gb447) (o := .cells #[.int .i64 a0_0, .slice A0_1 l0_1.length c0_1] 28 (0, 0)) (by (with_reducible repeat (first | refine blk_drewN ?_ _ | refine blk_drew ?_ | refine blk_alloc ?_ _)); exact BK447.out)) : gb447 ≠ gb448)); have n6_ := Aside0.mk ((by rw [hg]; exact Nat.ne_of_gt (blk_lt (g := gb447) (o := .cells #[.int .i64 a0_0, .slice A0_1 l0_1.length c0_1] 28 (0, 0)) (by (with_reducible repeat (first | refine blk_drewN ?_ _ | refine blk_drew ?_ | refine blk_alloc ?_ _)); exact BK447.out)) : gb448 ≠ gb447)); clear BK447; clear HB; have BK447 := n0_; have HB := n1_; have BK448 := n2_; have GW448 := n3_; have GE448 := n4_; have NB447_448 := n5_; have NB448_447 := n6_; clear n0_ n1_ n2_ n3_ n4_ n5_ n6_; clear hb hbox hg)); go_upto_region 1 with (first | ((with_reducible refine gate_dst (N := 2) rfl ?_); (try (refine gate_guard (by rfl) ?_; dsimp only)); refine box_event ?hg (N := 2) ?hd (cs := #[.int .i64 a0_0, .slice A0_1 l0_1.length c0_1]) (t := 28) ?hr ?_; (case hd => rfl); (case hg => rfl); (case hr => first | (go_simp; done) | (go_simp; rfl)); intro gb447 hg w4 hbox hb; have n0_ := Aside0.mk (below_step (by repeat (first | (with_reducible first | exact HB.out | apply below_alloc | apply pw_below_drewN | apply below_drew1) | exact HB.out)) hb); have n1_ := Aside0.mk (hbox); have n2_ := Aside0.mk ((by rw [hg]; exact (below_size (by repeat (first | (with_reducible first | exact HB.out | apply below_alloc | apply pw_below_drewN | apply below_drew1) | exact HB.out))) : w.heap.size ≤ gb447)); have n3_ := Aside0.mk ((by rw [hg]; exact (below_size (by repeat (first | (with_reducible first | exact HB.out | apply below_alloc | apply pw_below_drewN | apply below_drew1) | exact HB.out))) : w.heap.size ≤ gb447)); clear HB; have HB := n0_; have BK447 := n1_; have GW447 := n2_; have GE447 := n3_; clear n0_ n1_ n2_ n3_; clear hb hbox hg) | ((with_reducible refine gate_dst (N := 3) rfl ?_); (try (refine gate_guard (by rfl) ?_; dsimp only)); refine box_event ?hg (N := 3) ?hd (cs := #[.int .i64 a1_0, .slice A1_1 l1_1.length c1_1]) (t := 28) ?hr ?_; (case hd => rfl); (case hg => rfl); (case hr => first | (go_simp; done) | (go_simp; rfl)); intro gb448 hg w5 hbox hb; have n0_ := Aside0.mk (blk_below (g := gb447) (o := .cells #[.int .i64 a0_0, .slice A0_1 l0_1.length c0_1] 28 (0, 0)) (by (with_reducible repeat (first | refine blk_drewN ?_ _ | refine blk_drew ?_ | refine blk_alloc ?_ _)); exact BK447.out) hb); have n1_ := Aside0.mk (below_step (by repeat (first | (with_reducible first | exact HB.out | apply below_alloc | apply pw_below_drewN | apply below_drew1 | refine below_set ?_ GE447.out) | exact HB.out)) hb); have n2_ := Aside0.mk (hbox); have n3_ := Aside0.mk ((by rw [hg]; exact (below_size (by repeat (first | (with_reducible first | exact HB.out | apply below_alloc | apply pw_below_drewN | apply below_drew1 | refine below_set ?_ GE447.out) | exact HB.out))) : w.heap.size ≤ gb448)); have n4_ := Aside0.mk ((by rw [hg]; exact (below_size (by repeat (first | (with_reducible first | exact HB.out | apply below_alloc | apply pw_below_drewN | apply below_drew1 | refine below_set ?_ GE447.out) | exact HB.out))) : w.heap.size ≤ gb448)); have n5_ := Aside0.mk ((by rw [hg]; exact Nat.ne_of_lt (blk_lt (g := gb447) (o := .cells #[.int .i64 a0_0, .slice A0_1 l0_1.length c0_1] 28 (0, 0)) (by (with_reducible repeat (first | refine blk_drewN ?_ _ | refine blk_drew ?_ | refine blk_alloc ?_ _)); exact BK447.out)) : gb447 ≠ gb448)); have n6_ := Aside0.mk ((by rw [hg]; exact Nat.ne_of_gt (blk_lt (g := gb447) (o := .cells #[.int .i64 a0_0, .slice A0_1 l0_1.length c0_1] 28 (0, 0)) (by (with_reducible repeat (first | refine blk_drewN ?_ _ | refine blk_drew ?_ | refine blk_alloc ?_ _)); exact BK447.out)) : gb448 ≠ gb447)); clear BK447; clear HB; have BK447 := n0_; have HB := n1_; have BK448 := n2_; have GW448 := n3_; have GE448 := n4_; have NB447_448 := n5_; have NB448_447 := n6_; clear n0_ n1_ n2_ n3_ n4_ n5_ n6_; clear hb hbox hg)))
  (try simp only [Act.put, List.setIfInBounds_toArray, List.set_cons_zero, List.set_cons_succ])
  go_cut [19] (fun v19 wc => ∃ (kq : Nat) (x19_2 : Bool), v19 = .bool x19_2 ∧ Aside0 (letterpressref2_Same.j0 kq x19_2 a0_0 l0_1 a1_0 l1_1 = some r) ∧ Aside0 (kq ≤ k) ∧ Aside0 (wc.heap[gb447]? = some (.cells #[.int .i64 a0_0, (.slice A0_1 l0_1.length c0_1)] 28 (0, 0))) ∧ Aside0 (wc.heap[gb448]? = some (.cells #[.int .i64 a1_0, (.slice A1_1 l1_1.length c1_1)] 28 (0, 0))) ∧ Aside0 (Below w.heap.size w wc))
  case first =>
    have H := HC3.out
    clear HC3
    by_cases c6 : a0_0 = a1_0
    · rw [if_pos c6] at H
      have c6b0 : (a0_0 == a1_0) = true := beq_iff_eq.mpr c6
      have c6b1 : (a0_0 != a1_0) = false := bne_eq_false_iff_eq.mpr c6
      clear c6
      (first | rw [c6b0] | (simp only [i64_w, i32_w]; rw [c6b0]) | skip)
      have H' := Aside0.mk H
      clear H
      have hnb7 := NB447_448.out
      have hnc7 := NB448_447.out
      have hcz8_0 : w5.cell? ⟨gb447, 0, none⟩ = some (.int .i64 a0_0) := (blk_cell BK447.out 0).trans rfl
      have hcz8_1 : w5.cell? ⟨gb447, 1, none⟩ = some (.slice A0_1 l0_1.length c0_1) := (blk_cell BK447.out 1).trans rfl
      have hfz8_0 := blk_frozen BK447.out 0
      have hfz8_1 := blk_frozen BK447.out 1
      have hcz9_0 : w5.cell? ⟨gb448, 0, none⟩ = some (.int .i64 a1_0) := (blk_cell BK448.out 0).trans rfl
      have hcz9_1 : w5.cell? ⟨gb448, 1, none⟩ = some (.slice A1_1 l1_1.length c1_1) := (blk_cell BK448.out 1).trans rfl
      have hfz9_0 := blk_frozen BK448.out 0
      have hfz9_1 := blk_frozen BK448.out 1
      go_wp2
      repeat (go_quiet (fail); try go_wp2)
      go_meet
      case rel => exact ⟨_, (((l0_1.length : Int) != (l1_1.length : Int))), (by first | rfl | (simp; done) | (simp [*]; done)), H', ⟨by first | omega | exact Nat.le_refl _⟩, ⟨by (with_reducible repeat (first | refine blk_drewN ?_ _ | refine blk_drew ?_ | refine blk_alloc ?_ _)); exact BK447.out⟩, ⟨by (with_reducible repeat (first | refine blk_drewN ?_ _ | refine blk_drew ?_ | refine blk_alloc ?_ _)); exact BK448.out⟩, ⟨by repeat (first | (with_reducible first | exact HB.out | apply below_alloc | apply pw_below_drewN | apply below_drew1 | refine below_set ?_ GE447.out | refine below_set ?_ GE448.out) | exact HB.out)⟩⟩
    · rw [if_neg c6] at H
      have c6b0 : (a0_0 == a1_0) = false := beq_eq_false_iff_ne.mpr c6
      have c6b1 : (a0_0 != a1_0) = true := bne_iff_ne.mpr c6
      (first | rw [c6b0] | (simp only [i64_w, i32_w]; rw [c6b0]) | skip)
      have H' := Aside0.mk H
      clear H
      have hnb10 := NB447_448.out
      have hnc10 := NB448_447.out
      have hcz11_0 : w5.cell? ⟨gb447, 0, none⟩ = some (.int .i64 a0_0) := (blk_cell BK447.out 0).trans rfl
      have hcz11_1 : w5.cell? ⟨gb447, 1, none⟩ = some (.slice A0_1 l0_1.length c0_1) := (blk_cell BK447.out 1).trans rfl
      have hfz11_0 := blk_frozen BK447.out 0
      have hfz11_1 := blk_frozen BK447.out 1
      have hcz12_0 : w5.cell? ⟨gb448, 0, none⟩ = some (.int .i64 a1_0) := (blk_cell BK448.out 0).trans rfl
      have hcz12_1 : w5.cell? ⟨gb448, 1, none⟩ = some (.slice A1_1 l1_1.length c1_1) := (blk_cell BK448.out 1).trans rfl
      have hfz12_0 := blk_frozen BK448.out 0
      have hfz12_1 := blk_frozen BK448.out 1
      go_wp2
      repeat (go_quiet (fail); try go_wp2)
      go_meet
      case rel => exact ⟨_, (true), (by first | rfl | (simp; done) | (simp [*]; done)), H', ⟨by first | omega | exact Nat.le_refl _⟩, ⟨by (with_reducible repeat (first | refine blk_drewN ?_ _ | refine blk_drew ?_ | refine blk_alloc ?_ _)); exact BK447.out⟩, ⟨by (with_reducible repeat (first | refine blk_drewN ?_ _ | refine blk_drew ?_ | refine blk_alloc ?_ _)); exact BK448.out⟩, ⟨by repeat (first | (with_reducible first | exact HB.out | apply below_alloc | apply pw_below_drewN | apply below_drew1 | refine below_set ?_ GE447.out | refine below_set ?_ GE448.out) | exact HB.out)⟩⟩
  case rest =>
    clear HC3
    try clear c1
    try clear c2
    try clear p2
    try clear c6
    try clear c6b0
    try clear c6b1
    try clear c7
    try clear c10
    try clear hcz11_0
    try clear hcz11_1
    try clear hcz12_0
    try clear hcz12_1
    try clear hcz8_0
    try clear hcz8_1
    try clear hcz9_0
    try clear hcz9_1
    try clear hfz11_0
    try clear hfz11_1
    try clear hfz12_0
    try clear hfz12_1
    try clear hfz8_0
    try clear hfz8_1
    try clear hfz9_0
    try clear hfz9_1
    obtain ⟨kq, x19_2, rfl, HA, HJ2, BK447, BK448, HB⟩ := hcut
    cases kq with
    | zero => exact absurd HA.out (by simp [letterpressref2_Same.j0])
    | succ kj2 =>
      have H := HA.out
      clear HA
      simp only [letterpressref2_Same.j0] at H
      by_cases c13 : x19_2 = true
      · subst c13
        have H1 : (some false) = some r := by rw [if_pos rfl] at H; exact H
        clear H
        have H := H1
        clear H1
        obtain rfl := Option.some.inj H
        go_wp2
        repeat (go_quiet (fail); try go_wp2)
        go_ret
        exact ⟨by first | rfl | (simp [errW_none, errW_some] <;> rfl) | (simp [*, errW_none, errW_some] <;> rfl), by repeat (first | (with_reducible first | exact HB.out | apply below_alloc | apply pw_below_drewN | apply below_drew1 | refine below_set ?_ GE447.out | refine below_set ?_ GE448.out) | exact HB.out)⟩
      · replace c13 := Bool.eq_false_iff.mpr c13
        subst c13
        have H1 : (letterpressref2_Same.l0 kj2 0 a0_0 l0_1 a1_0 l1_1) = some r := by rw [if_neg (show ¬ (false = true) by decide)] at H; exact H
        clear H
        have H := H1
        clear H1
        have H' := Aside0.mk H
        clear H
        go_wp2
        repeat (go_quiet (fail); try go_wp2)
        go_loopg [5] kj2 (fun kq v5 w' => ∃ (x5_2 : Int), v5 = .int .i64 x5_2 ∧ Aside0 (letterpressref2_Same.l0 kq x5_2 a0_0 l0_1 a1_0 l1_1 = some r) ∧ Aside0 (kq ≤ kj2) ∧ Aside0 (w'.heap[gb447]? = some (.cells #[.int .i64 a0_0, (.slice A0_1 l0_1.length c0_1)] 28 (0, 0))) ∧ Aside0 (w'.heap[gb448]? = some (.cells #[.int .i64 a1_0, (.slice A1_1 l1_1.length c1_1)] 28 (0, 0))) ∧ Aside0 (Below w.heap.size w w'))
        case atStart => exact ⟨(0), (by first | rfl | (simp; done) | (simp [*]; done)), H', ⟨Nat.le_refl _⟩, ⟨by (with_reducible repeat (first | refine blk_drewN ?_ _ | refine blk_drew ?_ | refine blk_alloc ?_ _)); exact BK447.out⟩, ⟨by (with_reducible repeat (first | refine blk_drewN ?_ _ | refine blk_drew ?_ | refine blk_alloc ?_ _)); exact BK448.out⟩, ⟨by repeat (first | (with_reducible first | exact HB.out | apply below_alloc | apply pw_below_drewN | apply below_drew1 | refine below_set ?_ GE447.out | refine below_set ?_ GE448.out) | exact HB.out)⟩⟩
        case round =>
          clear H'
          try clear c1
          try clear c2
          try clear p2
          try clear c6
          try clear c6b0
          try clear c6b1
          try clear c7
          try clear c10
          try clear c13
          try clear hcz11_0
          try clear hcz11_1
          try clear hcz12_0
          try clear hcz12_1
          try clear hcz8_0
          try clear hcz8_1
          try clear hcz9_0
          try clear hcz9_1
          try clear hfz11_0
          try clear hfz11_1
          try clear hfz12_0
          try clear hfz12_1
          try clear hfz8_0
          try clear hfz8_1
          try clear hfz9_0
          try clear hfz9_1
          try clear p2
          obtain ⟨x5_2, rfl, HA, HK2, BK447, BK448, HB⟩ := hrel
          cases gk with
          | zero => exact absurd HA.out (by simp [letterpressref2_Same.l0])
          | succ k2 =>
            have H := HA.out
            clear HA
            simp only [letterpressref2_Same.l0] at H
            by_cases c14 : x5_2 < (l0_1.length : Int)
            · rw [if_pos c14] at H
              have c14b0 : decide (x5_2 < (l0_1.length : Int)) = true := decide_eq_true c14
              clear c14
              by_cases c15 : 0 ≤ x5_2
              · rw [if_pos c15] at H
                have c15b0 : decide (0 ≤ x5_2) = true := decide_eq_true c15
                clear c15
                by_cases c16 : x5_2 < (l1_1.length : Int)
                · rw [if_pos c16] at H
                  have c16b0 : decide (x5_2 < (l1_1.length : Int)) = true := decide_eq_true c16
                  clear c16
                  by_cases c17 : (rd l0_1 x5_2) = (rd l1_1 x5_2)
                  · rw [if_pos c17] at H
                    have c17b0 : ((rd l0_1 x5_2) == (rd l1_1 x5_2)) = true := beq_iff_eq.mpr c17
                    have c17b1 : ((rd l0_1 x5_2) != (rd l1_1 x5_2)) = false := bne_eq_false_iff_eq.mpr c17
                    clear c17
                    have H' := Aside0.mk H
                    clear H
                    have hnb18 := NB447_448.out
                    have hnc18 := NB448_447.out
                    have hcz19_0 : wr.cell? ⟨gb447, 0, none⟩ = some (.int .i64 a0_0) := (blk_cell BK447.out 0).trans rfl
                    have hcz19_1 : wr.cell? ⟨gb447, 1, none⟩ = some (.slice A0_1 l0_1.length c0_1) := (blk_cell BK447.out 1).trans rfl
                    have hfz19_0 := blk_frozen BK447.out 0
                    have hfz19_1 := blk_frozen BK447.out 1
                    have p449 : 0 ≤ (x5_2 : Int) := of_decide_eq_true (by first | (with_reducible assumption) | assumption)
                    have q449 : x5_2 < (l0_1.length : Int) := of_decide_eq_true (by first | (with_reducible assumption) | assumption)
                    obtain ⟨ad449, e449, hx449_0⟩ := Kd.at_int HR0_1.out x5_2 p449 q449
                    cases e449
                    replace hx449_0 := (HB.out.cell (World.block_lt_of_cell? w _ hx449_0)).trans hx449_0
                    replace p449 := eq_true p449
                    replace q449 := eq_true q449
                    have hcz20_0 : wr.cell? ⟨gb448, 0, none⟩ = some (.int .i64 a1_0) := (blk_cell BK448.out 0).trans rfl
                    have hcz20_1 : wr.cell? ⟨gb448, 1, none⟩ = some (.slice A1_1 l1_1.length c1_1) := (blk_cell BK448.out 1).trans rfl
                    have hfz20_0 := blk_frozen BK448.out 0
                    have hfz20_1 := blk_frozen BK448.out 1
                    have p450 : 0 ≤ (x5_2 : Int) := of_decide_eq_true (by first | (with_reducible assumption) | assumption)
                    have q450 : x5_2 < (l1_1.length : Int) := of_decide_eq_true (by first | (with_reducible assumption) | assumption)
                    obtain ⟨ad450, e450, hx450_0⟩ := Kd.at_int HR1_1.out x5_2 p450 q450
                    cases e450
                    replace hx450_0 := (HB.out.cell (World.block_lt_of_cell? w _ hx450_0)).trans hx450_0
                    replace p450 := eq_true p450
                    replace q450 := eq_true q450
                    go_wp2
                    repeat (go_quiet (fail); try go_wp2)
                    go_roundg k2
                    case measure => have := HJ2.out; have := HK2.out; omega
                    case rel => exact ⟨(wrap64 (x5_2 + 1)), (by first | rfl | (simp; done) | (simp [*]; done)), H', ⟨by have := HJ2.out; have := HK2.out; omega⟩, ⟨by (with_reducible repeat (first | refine blk_drewN ?_ _ | refine blk_drew ?_ | refine blk_alloc ?_ _)); exact BK447.out⟩, ⟨by (with_reducible repeat (first | refine blk_drewN ?_ _ | refine blk_drew ?_ | refine blk_alloc ?_ _)); exact BK448.out⟩, ⟨by repeat (first | (with_reducible first | exact HB.out | apply below_alloc | apply pw_below_drewN | apply below_drew1 | refine below_set ?_ GE447.out | refine below_set ?_ GE448.out) | exact HB.out)⟩⟩
                  · rw [if_neg c17] at H
                    have c17b0 : ((rd l0_1 x5_2) == (rd l1_1 x5_2)) = false := beq_eq_false_iff_ne.mpr c17
                    have c17b1 : ((rd l0_1 x5_2) != (rd l1_1 x5_2)) = true := bne_iff_ne.mpr c17
                    obtain rfl := Option.some.inj H
                    have hnb21 := NB447_448.out
                    have hnc21 := NB448_447.out
                    have hcz22_0 : wr.cell? ⟨gb447, 0, none⟩ = some (.int .i64 a0_0) := (blk_cell BK447.out 0).trans rfl
                    have hcz22_1 : wr.cell? ⟨gb447, 1, none⟩ = some (.slice A0_1 l0_1.length c0_1) := (blk_cell BK447.out 1).trans rfl
                    have hfz22_0 := blk_frozen BK447.out 0
                    have hfz22_1 := blk_frozen BK447.out 1
                    have p449 : 0 ≤ (x5_2 : Int) := of_decide_eq_true (by first | (with_reducible assumption) | assumption)
                    have q449 : x5_2 < (l0_1.length : Int) := of_decide_eq_true (by first | (with_reducible assumption) | assumption)
                    obtain ⟨ad449, e449, hx449_0⟩ := Kd.at_int HR0_1.out x5_2 p449 q449
                    cases e449
                    replace hx449_0 := (HB.out.cell (World.block_lt_of_cell? w _ hx449_0)).trans hx449_0
                    replace p449 := eq_true p449
                    replace q449 := eq_true q449
                    have hcz23_0 : wr.cell? ⟨gb448, 0, none⟩ = some (.int .i64 a1_0) := (blk_cell BK448.out 0).trans rfl
                    have hcz23_1 : wr.cell? ⟨gb448, 1, none⟩ = some (.slice A1_1 l1_1.length c1_1) := (blk_cell BK448.out 1).trans rfl
                    have hfz23_0 := blk_frozen BK448.out 0
                    have hfz23_1 := blk_frozen BK448.out 1
                    have p450 : 0 ≤ (x5_2 : Int) := of_decide_eq_true (by first | (with_reducible assumption) | assumption)
                    have q450 : x5_2 < (l1_1.length : Int) := of_decide_eq_true (by first | (with_reducible assumption) | assumption)
                    obtain ⟨ad450, e450, hx450_0⟩ := Kd.at_int HR1_1.out x5_2 p450 q450
                    cases e450
                    replace hx450_0 := (HB.out.cell (World.block_lt_of_cell? w _ hx450_0)).trans hx450_0
                    replace p450 := eq_true p450
                    replace q450 := eq_true q450
                    go_wp2
                    repeat (go_quiet (fail); try go_wp2)
                    go_ret
                    exact ⟨by first | rfl | (simp [errW_none, errW_some] <;> rfl) | (simp [*, errW_none, errW_some] <;> rfl), by repeat (first | (with_reducible first | exact HB.out | apply below_alloc | apply pw_below_drewN | apply below_drew1 | refine below_set ?_ GE447.out | refine below_set ?_ GE448.out) | exact HB.out)⟩
                · rw [if_neg c16] at H
                  exact absurd H (by simp)
              · rw [if_neg c15] at H
                exact absurd H (by simp)
            · rw [if_neg c14] at H
              have c14b0 : decide (x5_2 < (l0_1.length : Int)) = false := decide_eq_false c14
              clear c14
              obtain rfl := Option.some.inj H
              have hnb24 := NB447_448.out
              have hnc24 := NB448_447.out
              have hcz25_0 : wr.cell? ⟨gb447, 0, none⟩ = some (.int .i64 a0_0) := (blk_cell BK447.out 0).trans rfl
              have hcz25_1 : wr.cell? ⟨gb447, 1, none⟩ = some (.slice A0_1 l0_1.length c0_1) := (blk_cell BK447.out 1).trans rfl
              have hfz25_0 := blk_frozen BK447.out 0
              have hfz25_1 := blk_frozen BK447.out 1
              go_wp2
              repeat (go_quiet (fail); try go_wp2)
              go_ret
              exact ⟨by first | rfl | (simp [errW_none, errW_some] <;> rfl) | (simp [*, errW_none, errW_some] <;> rfl), by repeat (first | (with_reducible first | exact HB.out | apply below_alloc | apply pw_below_drewN | apply below_drew1 | refine below_set ?_ GE447.out | refine below_set ?_ GE448.out) | exact HB.out)⟩
end Go.Proofs.YticofbaajdgabaaDoor.X
