/- IsaBits: part 3: the written functions, their contracts, and what is said of them. -/
import Derived.Test.YticofbaajdgabaaDoorZIsaBits2
set_option linter.unusedVariables false
set_option linter.unusedSimpArgs false
namespace Go.Proofs.YticofbaajdgabaaDoor.X
open Go.RowKit Go.Proofs.YticofbaajdgabaaDoorW.PrintWords Go.Proofs.YticofbaajdgabaaDoorW.PrintLast Go.Proofs.YticofbaajdgabaaDoorW.PrintMore
attribute [local go_sem] max2_int min2_int max_two min_two
set_option linter.unusedVariables false
set_option linter.unusedSimpArgs false
def isa_Decode.T18 : Bool × List (List Nat × List Nat) := (true, [([], []), ([0], [0]), ([], []), ([], []), ([2, 3], [2, 3]), ([4], [4]), ([1, 5, 4], [1, 5]), ([0, 1, 2, 3, 4, 5, 6], []), ([7, 6, 6, 0, 1, 2, 3, 4, 5, 6], [6, 7])])
def isa_Decode.B18 : List Nat := [0, 1, 0, 0, 12, 28, 63, 127, 255]
theorem isa_Decode.tab18 : rtab .any (opsOf Tryd.f18 18) = isa_Decode.T18 := by kernel_rfl
theorem isa_Decode.bits18 : waitsOk isa_Decode.T18.2 isa_Decode.B18 = true := by kernel_rfl
set_option maxHeartbeats 8000000 in
set_option maxRecDepth 100000 in
theorem isa_Decode.calls (k : Nat) (A0 : Option Addr) (c0 : Nat) (l0 : List Int) (r1 : Int) (r2 : List Int) (r3 : Int) (r4 : Bool) (w : World) (hLaid_ : LaidW w) (hr0 : Kd.C (Kd.int .u8) w A0 l0.length l0) (hc0 : l0.length ≤ c0) (h : isa_Decode.f k l0 = some (r1, r2, r3, r4)) :
    Calls Tryd.prog 18 #[.slice A0 l0.length c0] w fun e w' => ∃ v1_ : Value, e = .returned (.tuple #[.agg #[.int .i64 r1, v1_], .int .i64 r3, .bool r4]) ∧ Kd.R (Kd.int .i64) 3 w' w.heap.size (fun _ => True) v1_ r2 ∧ Below w.heap.size w w' := by
  have hu28 := Tryd.underlying28
  have HR0 := Aside0.mk hr0
  have HC0 := Aside0.mk hc0
  clear hr0 hc0
  have HB := Aside0.mk (Below.refl w.heap.size w)
  have H : (if (l0.length : Int) < 2 then (isa_Decode.j0 k l0 true) else (if 0 < (l0.length : Int) then ((isa_size.f (rd l0 0)).bind fun t200 => (isa_Decode.j0 k l0 (decide ((l0.length : Int) < t200)))) else (none))) = some (r1, r2, r3, r4) := h
  clear h
  have HC2 := Aside0.mk H
  clear H
  go_enter Tryd.func18, Tryd.ntmps18
  go_upto_region 1 with (first | ((with_reducible refine gate_dst (N := 2) rfl ?_); (try (refine gate_guard (by rfl) ?_; dsimp only)); refine box_event ?hg (N := 2) ?hd (cs := #[.int .i64 0, .slice none 0 0]) (t := 28) ?hr ?_; (case hd => rfl); (case hg => rfl); (case hr => first | (go_simp; done) | (go_simp; rfl)); intro gb198 hg w3 hbox hb; have n0_ := Aside0.mk (below_step (by repeat (first | (with_reducible first | exact HB.out | apply below_alloc | apply pw_below_drewN | apply below_drew1) | exact HB.out)) hb); have n1_ := Aside0.mk (hbox); have n2_ := Aside0.mk ((by rw [hg]; exact (below_size (by repeat (first | (with_reducible first | exact HB.out | apply below_alloc | apply pw_below_drewN | apply below_drew1) | exact HB.out))) : w.heap.size ≤ gb198)); have n3_ := Aside0.mk ((by rw [hg]; exact (below_size (by repeat (first | (with_reducible first | exact HB.out | apply below_alloc | apply pw_below_drewN | apply below_drew1) | exact HB.out))) : w.heap.size ≤ gb198)); clear HB; have HB := n0_; have BK198 := n1_; have GW198 := n2_; have GE198 := n3_; clear n0_ n1_ n2_ n3_; clear hb hbox hg))
  (try simp only [Act.put, List.setIfInBounds_toArray, List.set_cons_zero, List.set_cons_succ])
  go_cut [25] (fun v25 wc => ∃ (kq : Nat) (x25_1 : Bool), v25 = .bool x25_1 ∧ Aside0 (isa_Decode.j0 kq l0 x25_1 = some (r1, r2, r3, r4)) ∧ Aside0 (kq ≤ k) ∧ Aside0 (wc.heap[gb198]? = some (.cells #[.int .i64 0, (.slice none 0 0)] 28 (0, 0))) ∧ Aside0 (Below w.heap.size w wc))
  case first =>
    have H := HC2.out
    clear HC2
    by_cases c4 : (l0.length : Int) < 2
    · rw [if_pos c4] at H
      have c4b0 : decide ((l0.length : Int) < 2) = true := decide_eq_true c4
      have c4b1 : decide (l0.length < 2) = true := decide_eq_true (by omega)
      clear c4
      (first | rw [c4b0] | (simp only [i64_w, i32_w]; rw [c4b0]) | skip)
      have H' := Aside0.mk H
      clear H
      go_wp2
      go_meet
      case rel => exact ⟨_, (true), (by first | rfl | (simp; done) | (simp [*]; done)), H', ⟨by first | omega | exact Nat.le_refl _⟩, ⟨by (with_reducible repeat (first | refine blk_drewN ?_ _ | refine blk_drew ?_ | refine blk_alloc ?_ _)); exact BK198.out⟩, ⟨by repeat (first | (with_reducible first | exact HB.out | apply below_alloc | apply pw_below_drewN | apply below_drew1 | refine below_set ?_ GE198.out) | exact HB.out)⟩⟩
    · rw [if_neg c4] at H
      have c4b0 : decide ((l0.length : Int) < 2) = false := decide_eq_false c4
      have c4b1 : decide (l0.length < 2) = false := decide_eq_false (by omega)
      clear c4
      (first | rw [c4b0] | (simp only [i64_w, i32_w]; rw [c4b0]) | skip)
      by_cases c5 : 0 < (l0.length : Int)
      · rw [if_pos c5] at H
        have c5b0 : decide (0 < (l0.length : Int)) = true := decide_eq_true c5
        have c5b1 : decide (0 < l0.length) = true := decide_eq_true (by omega)
        clear c5
        replace H := Option.bind_eq_some_iff.mp H
        obtain ⟨t200, A60, H⟩ := H
        replace H : (isa_Decode.j0 k l0 (decide ((l0.length : Int) < t200))) = some (r1, r2, r3, r4) := H
        have A6 := Aside0.mk A60
        clear A60
        have H' := Aside0.mk H
        clear H
        have p199 : 0 ≤ (0 : Int) := (by omega)
        have q199 : 0 < (l0.length : Int) := of_decide_eq_true (by first | (with_reducible assumption) | assumption)
        obtain ⟨ad199, e199, hx199_0⟩ := Kd.at_int HR0.out 0 p199 q199
        cases e199
        have qi199 : (0 < l0.length) = True := eq_true (by omega)
        (try rw [show ((0 : Int)).toNat = 0 from rfl] at hx199_0)
        (try rw [Addr.add_zero'] at hx199_0)
        replace hx199_0 := (HB.out.cell (World.block_lt_of_cell? w _ hx199_0)).trans hx199_0
        replace p199 := eq_true p199
        replace q199 := eq_true q199
        go_wp2_with (first | (go_at_call 38; (with_reducible refine (isa_size.calls (rd l0 0) t200 _ A6.out).mono ?_); rintro e w' ⟨rfl, ⟨nd, rfl⟩⟩))
        go_meet
        case rel => exact ⟨_, (decide ((l0.length : Int) < t200)), (by first | rfl | (simp; done) | (simp [*]; done)), H', ⟨by first | omega | exact Nat.le_refl _⟩, ⟨by (with_reducible repeat (first | refine blk_drewN ?_ _ | refine blk_drew ?_ | refine blk_alloc ?_ _)); exact BK198.out⟩, ⟨by repeat (first | (with_reducible first | exact HB.out | apply below_alloc | apply pw_below_drewN | apply below_drew1 | refine below_set ?_ GE198.out) | exact HB.out)⟩⟩
      · rw [if_neg c5] at H
        exact absurd H (by simp)
  case rest =>
    clear HC2
    try clear c1
    try clear p1
    try clear q1
    try clear hx1
    try clear qi1
    try clear p2
    try clear c4
    try clear c4b0
    try clear c4b1
    try clear c5
    try clear c5b0
    try clear c5b1
    try clear hx199_0
    try clear p199
    try clear q199
    obtain ⟨kq, x25_1, rfl, HA, HJ1, BK198, HB⟩ := hcut
    cases kq with
    | zero => exact absurd HA.out (by simp [isa_Decode.j0])
    | succ kj1 =>
      have H := HA.out
      clear HA
      simp only [isa_Decode.j0] at H
      by_cases c7 : x25_1 = true
      · subst c7
        have H1 : (some (0, ([] : List Int), 0, false)) = some (r1, r2, r3, r4) := by rw [if_pos rfl] at H; exact H
        clear H
        have H := H1
        clear H1
        simp only [Option.some.injEq, Prod.mk.injEq] at H
        obtain ⟨rfl, rfl, rfl, rfl⟩ := H
        have hcz8_0 : wc.cell? ⟨gb198, 0, none⟩ = some (.int .i64 0) := (blk_cell BK198.out 0).trans rfl
        have hcz8_1 : wc.cell? ⟨gb198, 1, none⟩ = some (.slice none 0 0) := (blk_cell BK198.out 1).trans rfl
        have hfz8_0 := blk_frozen BK198.out 0
        have hfz8_1 := blk_frozen BK198.out 1
        go_wp2
        refine bodyPost_ret (results_ctt rfl _ _ gb198 28 #[.int .i64 0, .slice none 0 0] (0, 0) _ rfl (by (with_reducible repeat (first | refine blk_drewN ?_ _ | refine blk_drew ?_ | refine blk_alloc ?_ _)); refine blk_put (cs := #[.int .i64 0, .slice none 0 0]) ?_ 1 _ rfl; (with_reducible repeat (first | refine blk_drewN ?_ _ | refine blk_drew ?_ | refine blk_alloc ?_ _)); refine blk_put (cs := #[.int .i64 0, .slice none 0 0]) ?_ 0 _ rfl; (with_reducible repeat (first | refine blk_drewN ?_ _ | refine blk_drew ?_ | refine blk_alloc ?_ _)); exact BK198.out) Tryd.underlying28 rfl (by kernel_rfl)) rfl ?_
        exact ⟨_, by first | rfl | (simp [errW_none, errW_some] <;> rfl) | (simp [*, errW_none, errW_some] <;> rfl), by first | exact Kd.R_nil _ _ _ _ _ | exact Kd.N_nil _ _ _ _ _ | exact Kd.V_nil _ _ _ _ _ | exact Kd.Q_nil _ _ _ _ _ | exact Kd.S_nil _ _ _ _ _, by repeat (first | (with_reducible first | exact HB.out | apply below_alloc | apply pw_below_drewN | apply below_drew1 | refine below_set ?_ GE198.out) | exact HB.out)⟩
      · replace c7 := Bool.eq_false_iff.mpr c7
        subst c7
        have H1 : (if 0 < (l0.length : Int) then ((isa_size.f (rd l0 0)).bind fun t202 => (if 0 ≤ t202 then (if t202 ≤ (l0.length : Int) then (isa_Decode.l0 kj1 t202 0 (l0.take (t202 : Int).toNat) ((l0.take (t202 : Int).toNat).length : Int) 0) else (none)) else (none))) else (none)) = some (r1, r2, r3, r4) := by rw [if_neg (show ¬ (false = true) by decide)] at H; exact H
        clear H
        have H := H1
        clear H1
        by_cases c9 : 0 < (l0.length : Int)
        · rw [if_pos c9] at H
          have c9b0 : decide (0 < (l0.length : Int)) = true := decide_eq_true c9
          have c9b1 : decide (0 < l0.length) = true := decide_eq_true (by omega)
          clear c9
          replace H := Option.bind_eq_some_iff.mp H
          obtain ⟨t202, A100, H⟩ := H
          replace H : (if 0 ≤ t202 then (if t202 ≤ (l0.length : Int) then (isa_Decode.l0 kj1 t202 0 (l0.take (t202 : Int).toNat) ((l0.take (t202 : Int).toNat).length : Int) 0) else (none)) else (none)) = some (r1, r2, r3, r4) := H
          have A10 := Aside0.mk A100
          clear A100
          by_cases c11 : 0 ≤ t202
          · rw [if_pos c11] at H
            have c11b0 := eq_true c11
            have c11b1 : decide (0 ≤ t202) = true := decide_eq_true c11
            clear c11
            by_cases c12 : t202 ≤ (l0.length : Int)
            · rw [if_pos c12] at H
              have c12b0 := eq_true c12
              have c12b1 : decide (t202 ≤ (l0.length : Int)) = true := decide_eq_true c12
              clear c12
              have H' := Aside0.mk H
              clear H
              have p201 : 0 ≤ (0 : Int) := (by omega)
              have q201 : 0 < (l0.length : Int) := of_decide_eq_true (by first | (with_reducible assumption) | assumption)
              obtain ⟨ad201, e201, hx201_0⟩ := Kd.at_int HR0.out 0 p201 q201
              cases e201
              have qi201 : (0 < l0.length) = True := eq_true (by omega)
              (try rw [show ((0 : Int)).toNat = 0 from rfl] at hx201_0)
              (try rw [Addr.add_zero'] at hx201_0)
              replace hx201_0 := (HB.out.cell (World.block_lt_of_cell? w _ hx201_0)).trans hx201_0
              replace p201 := eq_true p201
              replace q201 := eq_true q201
              go_wp2_with (first | ((with_reducible refine gate_callee (f := 38) rfl ?_); refine goesL_ (some 30) rfl rfl Tryd.func38 (by kernel_rfl) rfl #[.int .u8 (rd l0 0)] rfl (by (try simp only [List.map_toArray, List.map_cons, List.map_nil]); first | done | rfl | (simp only [List.length_drop, List.length_take]; rfl)) ?_; (with_reducible refine (isa_size.calls (rd l0 0) t202 _ A10.out).mono ?_); rintro e w' ⟨rfl, ⟨nd, rfl⟩⟩; refine ⟨_, rfl, ?_⟩; obtain ⟨i013, hi013, _, hsz13, _⟩ := info_parts info5; obtain ⟨hcut13, hA13, hC13⟩ := print_take_of (P := Tryd.prog) (Value.int .u8) 0 22 5 .i64 Tryd.underlying22 hi013 hsz13 (some ad201) c0 l0 t202 (of_decide_eq_true (by first | (with_reducible assumption) | assumption)) (of_decide_eq_true (by first | (with_reducible assumption) | assumption)) HC0.out; have HR203 := Aside0.mk (Kd.C_of_reads (h1 := fun _ => rfl) (hA13 _ (Kd.reads_of_C HR0.out))); have HC203 := Aside0.mk hC13; clear hA13 hC13 hi013 hsz13))
              have hlen_t202 : Aside0 (((l0.take (t202 : Int).toNat).length : Int) = max t202 0) := ⟨by have h1 : (t202 : Int) ≤ (l0.length : Int) := of_decide_eq_true (by first | (with_reducible assumption) | assumption); simp only [List.length_take]; omega⟩
              go_loopg [5, 35] kj1 (fun kq v5 v35 w' => ∃ (x5_2 : Int) (x35_2 : Int), v5 = .int .u32 x5_2 ∧ v35 = .int .i64 x35_2 ∧ Aside0 (isa_Decode.l0 kq t202 x5_2 (l0.take (t202 : Int).toNat) ((l0.take (t202 : Int).toNat).length : Int) x35_2 = some (r1, r2, r3, r4)) ∧ Aside0 (kq ≤ kj1) ∧ Aside0 (w'.heap[gb198]? = some (.cells #[.int .i64 0, (.slice none 0 0)] 28 (0, 0))) ∧ Aside0 (Below w.heap.size w w'))
              case atStart => exact ⟨(0), (0), (by first | rfl | (simp; done) | (simp [*]; done)), (by first | rfl | (simp; done) | (simp [*]; done)), H', ⟨Nat.le_refl _⟩, ⟨by (with_reducible repeat (first | refine blk_drewN ?_ _ | refine blk_drew ?_ | refine blk_alloc ?_ _)); exact BK198.out⟩, ⟨by repeat (first | (with_reducible first | exact HB.out | apply below_alloc | apply pw_below_drewN | apply below_drew1 | refine below_set ?_ GE198.out) | exact HB.out)⟩⟩
              case round =>
                clear H'
                try clear c1
                try clear p1
                try clear q1
                try clear hx1
                try clear qi1
                try clear p2
                try clear q2
                try clear hx2
                try clear qi2
                try clear c3
                try clear c4
                try clear c4b0
                try clear c4b1
                try clear c5
                try clear c5b0
                try clear c5b1
                try clear c7
                try clear c9
                try clear c9b0
                try clear c9b1
                try clear c11
                try clear c11b0
                try clear c11b1
                try clear c12
                try clear c12b0
                try clear c12b1
                try clear hcz8_0
                try clear hcz8_1
                try clear hfz8_0
                try clear hfz8_1
                try clear hx199_0
                try clear hx201_0
                try clear p1
                try clear p199
                try clear p2
                try clear p201
                try clear q1
                try clear q199
                try clear q201
                obtain ⟨x5_2, x35_2, rfl, rfl, HA, HK2, BK198, HB⟩ := hrel
                cases gk with
                | zero => exact absurd HA.out (by simp [isa_Decode.l0])
                | succ k2 =>
                  have H := HA.out
                  clear HA
                  simp only [isa_Decode.l0] at H
                  by_cases c14 : x35_2 < ((l0.take (t202 : Int).toNat).length : Int)
                  · rw [if_pos c14] at H
                    have c14b0 : decide (x35_2 < ((l0.take (t202 : Int).toNat).length : Int)) = true := decide_eq_true c14
                    have c14z : ¬ (max t202 0 ≤ x35_2) := by have h1 := of_decide_eq_true c14b0; have h2 := hlen_t202.out; omega
                    clear c14
                    by_cases c15 : 0 ≤ x35_2
                    · rw [if_pos c15] at H
                      have c15b0 : decide (0 ≤ x35_2) = true := decide_eq_true c15
                      clear c15
                      by_cases c16 : x35_2 < ((l0.take (t202 : Int).toNat).length : Int)
                      · rw [if_pos c16] at H
                        have c16b0 : decide (x35_2 < ((l0.take (t202 : Int).toNat).length : Int)) = true := decide_eq_true c16
                        have c16z : ¬ (max t202 0 ≤ x35_2) := by have h1 := of_decide_eq_true c16b0; have h2 := hlen_t202.out; omega
                        clear c16
                        have H' := Aside0.mk H
                        clear H
                        have p204 : 0 ≤ (x35_2 : Int) := of_decide_eq_true (by first | (with_reducible assumption) | assumption)
                        have q204 : x35_2 < ((l0.take (t202 : Int).toNat).length : Int) := of_decide_eq_true (by first | (with_reducible assumption) | assumption)
                        obtain ⟨ad204, e204, hx204_0⟩ := Kd.at_int HR203.out x35_2 p204 q204
                        obtain rfl : ad201 = ad204 := (by injection e204)
                        replace hx204_0 := (HB.out.cell (World.block_lt_of_cell? w _ hx204_0)).trans hx204_0
                        replace p204 := eq_true p204
                        replace q204 := eq_true q204
                        go_wp2
                        go_roundg k2
                        case measure => have := HJ1.out; have := HK2.out; omega
                        case rel => exact ⟨(Go.bits .or .u32 ((x5_2 * 256) % 4294967296) ((rd (l0.take (t202 : Int).toNat) x35_2) % 4294967296)), (wrap64 (x35_2 + 1)), (by first | rfl | (simp; done) | (simp [*]; done)), (by first | rfl | (simp; done) | (simp [*]; done)), H', ⟨by have := HJ1.out; have := HK2.out; omega⟩, ⟨by (with_reducible repeat (first | refine blk_drewN ?_ _ | refine blk_drew ?_ | refine blk_alloc ?_ _)); exact BK198.out⟩, ⟨by repeat (first | (with_reducible first | exact HB.out | apply below_alloc | apply pw_below_drewN | apply below_drew1 | refine below_set ?_ GE198.out) | exact HB.out)⟩⟩
                      · rw [if_neg c16] at H
                        exact absurd H (by simp)
                    · rw [if_neg c15] at H
                      exact absurd H (by simp)
                  · rw [if_neg c14] at H
                    have c14b0 : decide (x35_2 < ((l0.take (t202 : Int).toNat).length : Int)) = false := decide_eq_false c14
                    have c14z : (max t202 0 ≤ x35_2) := by have h1 := of_decide_eq_false c14b0; have h2 := hlen_t202.out; omega
                    clear c14
                    replace H := Option.bind_eq_some_iff.mp H
                    obtain ⟨t205, A170, H⟩ := H
                    replace H : (isa_Decode.l1 k2 t202 x5_2 (t205.length : Int) 0) = some (r1, r2, r3, r4) := H
                    have A17 := Aside0.mk A170
                    clear A170
                    have H' := Aside0.mk H
                    clear H
                    go_wp2_with (first | ((with_reducible refine gate_callee (f := 39) rfl ?_); refine goesL_ (some 45) rfl rfl Tryd.func39 (by kernel_rfl) rfl #[] rfl (by (try simp only [List.map_toArray, List.map_cons, List.map_nil]); first | done | rfl | (simp only [List.length_drop, List.length_take]; rfl)) ?_; (with_reducible refine (isa_table.calls  t205 _ A17.out).mono ?_); rintro e w18 ⟨v206, rfl, ho0, hb⟩; refine ⟨_, rfl, ?_⟩; have n0_ := Aside0.mk (Kd.R_lower ho0 (below_size (by repeat (first | (with_reducible first | exact HB.out | apply below_alloc | apply pw_below_drewN | apply below_drew1 | refine below_set ?_ GE198.out) | exact HB.out)))); have n1_ := Aside0.mk (blk_below (g := gb198) (o := .cells #[.int .i64 0, .slice none 0 0] 28 (0, 0)) (by (with_reducible repeat (first | refine blk_drewN ?_ _ | refine blk_drew ?_ | refine blk_alloc ?_ _)); exact BK198.out) hb); have n2_ := Aside0.mk (below_step (by repeat (first | (with_reducible first | exact HB.out | apply below_alloc | apply pw_below_drewN | apply below_drew1 | refine below_set ?_ GE198.out) | exact HB.out)) hb); clear BK198; clear HB; have HO207 := n0_; have BK198 := n1_; have HB := n2_; clear n0_ n1_ n2_; (try clear hb); (try clear hb2); (try clear hk); (try clear hi); (try clear ho0); obtain ⟨Ao19, co19, eo19⟩ := Kd.R_slice HO207.out; subst eo19))
                    go_loopg [3, 47] k2 (fun kq v3 v47 w' => ∃ (x3_3 : Int) (x47_3 : Int) (x199000_3 : Int), v3 = .int .i64 x3_3 ∧ v47 = .int .i64 x47_3 ∧ Aside0 (isa_Decode.l1 kq x3_3 x5_2 (t205.length : Int) x47_3 = some (r1, r2, r3, r4)) ∧ Aside0 (kq ≤ k2) ∧ Aside0 (w'.heap[gb198]? = some (.cells #[.int .i64 x199000_3, (.slice none 0 0)] 28 (0, 0))) ∧ Aside0 (Below w.heap.size w w'))
                    case atStart => exact ⟨(t202), (0), (0), (by first | rfl | (simp; done) | (simp [*]; done)), (by first | rfl | (simp; done) | (simp [*]; done)), H', ⟨Nat.le_refl _⟩, ⟨by (with_reducible repeat (first | refine blk_drewN ?_ _ | refine blk_drew ?_ | refine blk_alloc ?_ _)); exact BK198.out⟩, ⟨by repeat (first | (with_reducible first | exact HB.out | apply below_alloc | apply pw_below_drewN | apply below_drew1 | refine below_set ?_ GE198.out) | exact HB.out)⟩⟩
                    case round =>
                      clear H'
                      try clear c1
                      try clear p1
                      try clear q1
                      try clear hx1
                      try clear qi1
                      try clear p2
                      try clear q2
                      try clear hx2
                      try clear qi2
                      try clear c3
                      try clear c4
                      try clear c4b0
                      try clear c4b1
                      try clear c5
                      try clear c5b0
                      try clear c5b1
                      try clear p6
                      try clear c7
                      try clear c9
                      try clear c9b0
                      try clear c9b1
                      try clear c11
                      try clear c11b0
                      try clear c11b1
                      try clear c12
                      try clear c12b0
                      try clear c12b1
                      try clear c14
                      try clear c14b0
                      try clear c15
                      try clear c15b0
                      try clear c16
                      try clear c16b0
                      try clear c18
                      try clear p19
                      try clear q19
                      try clear hx19
                      try clear qi19
                      try clear hcz8_0
                      try clear hcz8_1
                      try clear hfz8_0
                      try clear hfz8_1
                      try clear hx199_0
                      try clear hx201_0
                      try clear hx204_0
                      try clear p1
                      try clear p199
                      try clear p2
                      try clear p201
                      try clear p204
                      try clear q1
                      try clear q199
                      try clear q2
                      try clear q201
                      try clear q204
                      obtain ⟨x3_3, x47_3, x199000_3, rfl, rfl, HA, HK3, BK198, HB⟩ := hrel
                      cases gk with
                      | zero => exact absurd HA.out (by simp [isa_Decode.l1])
                      | succ k3 =>
                        have H := HA.out
                        clear HA
                        simp only [isa_Decode.l1] at H
                        by_cases c20 : x47_3 < (t205.length : Int)
                        · rw [if_pos c20] at H
                          have c20b0 : decide (x47_3 < (t205.length : Int)) = true := decide_eq_true c20
                          clear c20
                          replace H := Option.bind_eq_some_iff.mp H
                          obtain ⟨t208, A210, H⟩ := H
                          replace H : (if t208 = x3_3 then ((isa_of_string_40__isa_row_list.f x47_3).bind fun t210 => (isa_Decode.l2 k3 x3_3 x5_2 (t205.length : Int) x47_3 t210 (t210.length : Int) 0 x47_3 ([] : List Int))) else (isa_Decode.l1 k3 x3_3 x5_2 (t205.length : Int) (wrap64 (x47_3 + 1)))) = some (r1, r2, r3, r4) := H
                          have A21 := Aside0.mk A210
                          clear A210
                          by_cases c22 : t208 = x3_3
                          · rw [if_pos c22] at H
                            have c22b0 : (t208 == x3_3) = true := beq_iff_eq.mpr c22
                            have c22b1 : (t208 != x3_3) = false := bne_eq_false_iff_eq.mpr c22
                            clear c22
                            replace H := Option.bind_eq_some_iff.mp H
                            obtain ⟨t210, A230, H⟩ := H
                            replace H : (isa_Decode.l2 k3 x3_3 x5_2 (t205.length : Int) x47_3 t210 (t210.length : Int) 0 x47_3 ([] : List Int)) = some (r1, r2, r3, r4) := H
                            have A23 := Aside0.mk A230
                            clear A230
                            have H' := Aside0.mk H
                            clear H
                            go_wp2_with (first | ((with_reducible refine gate_callee (f := 22) rfl ?_); refine goesL_ (some 51) rfl rfl Tryd.func22 (by kernel_rfl) rfl #[.int .i64 x47_3] rfl (by (try simp only [List.map_toArray, List.map_cons, List.map_nil]); first | done | rfl | (simp only [List.length_drop, List.length_take]; rfl)) ?_; (with_reducible refine (isa_Size.calls x47_3 t208 _ A21.out).mono ?_); rintro e w24 ⟨rfl, hb⟩; refine ⟨_, rfl, ?_⟩; have n0_ := Aside0.mk (blk_below (g := gb198) (o := .cells #[.int .i64 x199000_3, .slice none 0 0] 28 (0, 0)) (by (with_reducible repeat (first | refine blk_drewN ?_ _ | refine blk_drew ?_ | refine blk_alloc ?_ _)); exact BK198.out) hb); have n1_ := Aside0.mk (below_step (by repeat (first | (with_reducible first | exact HB.out | apply below_alloc | apply pw_below_drewN | apply below_drew1 | refine below_set ?_ GE198.out) | exact HB.out)) hb); clear BK198; clear HB; have BK198 := n0_; have HB := n1_; clear n0_ n1_; (try clear hb); (try clear hb2); (try clear hk); (try clear hi)) | ((with_reducible refine gate_dst (N := 9) rfl ?_); (try (refine gate_guard (by rfl) ?_; dsimp only)); refine box_event ?hg (N := 9) ?hd (cs := #[.int .i64 0, .slice none 0 0]) (t := 28) ?hr ?_; (case hd => rfl); (case hg => rfl); (case hr => first | (go_simp; done) | (go_simp; rfl)); intro gb209 hg w25 hbox hb; have n0_ := Aside0.mk (blk_below (g := gb198) (o := .cells #[.int .i64 x199000_3, .slice none 0 0] 28 (0, 0)) (by (with_reducible repeat (first | refine blk_drewN ?_ _ | refine blk_drew ?_ | refine blk_alloc ?_ _)); exact BK198.out) hb); have n1_ := Aside0.mk (below_step (by repeat (first | (with_reducible first | exact HB.out | apply below_alloc | apply pw_below_drewN | apply below_drew1 | refine below_set ?_ GE198.out) | exact HB.out)) hb); have n2_ := Aside0.mk (hbox); have n3_ := Aside0.mk ((by rw [hg]; exact (below_size (by repeat (first | (with_reducible first | exact HB.out | apply below_alloc | apply pw_below_drewN | apply below_drew1 | refine below_set ?_ GE198.out) | exact HB.out))) : w.heap.size ≤ gb209)); have n4_ := Aside0.mk ((by rw [hg]; exact (below_size (by repeat (first | (with_reducible first | exact HB.out | apply below_alloc | apply pw_below_drewN | apply below_drew1 | refine below_set ?_ GE198.out) | exact HB.out))) : w.heap.size ≤ gb209)); have n5_ := Aside0.mk ((by rw [hg]; exact Nat.ne_of_lt (blk_lt (g := gb198) (o := .cells #[.int .i64 x199000_3, .slice none 0 0] 28 (0, 0)) (by (with_reducible repeat (first | refine blk_drewN ?_ _ | refine blk_drew ?_ | refine blk_alloc ?_ _)); exact BK198.out)) : gb198 ≠ gb209)); have n6_ := Aside0.mk ((by rw [hg]; exact Nat.ne_of_gt (blk_lt (g := gb198) (o := .cells #[.int .i64 x199000_3, .slice none 0 0] 28 (0, 0)) (by (with_reducible repeat (first | refine blk_drewN ?_ _ | refine blk_drew ?_ | refine blk_alloc ?_ _)); exact BK198.out)) : gb209 ≠ gb198)); clear BK198; clear HB; have BK198 := n0_; have HB := n1_; have BK209 := n2_; have GW209 := n3_; have GE209 := n4_; have NB198_209 := n5_; have NB209_198 := n6_; clear n0_ n1_ n2_ n3_ n4_ n5_ n6_; clear hb hbox hg; have hnb26 := NB209_198.out; have hnc26 := NB198_209.out; have hcz27_0 : w25.cell? ⟨gb209, 0, none⟩ = some (.int .i64 0) := (blk_cell BK209.out 0).trans rfl; have hcz27_1 : w25.cell? ⟨gb209, 1, none⟩ = some (.slice none 0 0) := (blk_cell BK209.out 1).trans rfl; have hfz27_0 := blk_frozen BK209.out 0; have hfz27_1 := blk_frozen BK209.out 1) | ((with_reducible refine gate_callee (f := 40) rfl ?_); refine goesL_ (some 57) rfl rfl Tryd.func40 (by kernel_rfl) rfl #[.int .i64 x47_3, .func (.func 41) #[] #[]] rfl (by (try simp only [List.map_toArray, List.map_cons, List.map_nil]); first | done | rfl | (simp only [List.length_drop, List.length_take]; rfl)) ?_; (with_reducible refine (isa_of_string_40__isa_row_list.calls x47_3  t210 _ ?side1 A23.out).mono ?_); (case side1 => exact LaidW.below hLaid_ (by repeat (first | (with_reducible first | exact HB.out | apply below_alloc | apply pw_below_drewN | apply below_drew1 | refine below_set ?_ GE198.out | refine below_set ?_ GE209.out) | exact HB.out))); rintro e w28 ⟨v211, rfl, ho0, hb⟩; refine ⟨_, rfl, ?_⟩; have n0_ := Aside0.mk (Kd.R_lower ho0 (below_size (by repeat (first | (with_reducible first | exact HB.out | apply below_alloc | apply pw_below_drewN | apply below_drew1 | refine below_set ?_ GE198.out | refine below_set ?_ GE209.out) | exact HB.out)))); have n1_ := Aside0.mk (blk_below (g := gb198) (o := .cells #[.int .i64 x199000_3, .slice none 0 0] 28 (0, 0)) (by (with_reducible repeat (first | refine blk_drewN ?_ _ | refine blk_drew ?_ | refine blk_alloc ?_ _)); refine blk_far ?_ NB198_209.out _; (with_reducible repeat (first | refine blk_drewN ?_ _ | refine blk_drew ?_ | refine blk_alloc ?_ _)); refine blk_far ?_ NB198_209.out _; (with_reducible repeat (first | refine blk_drewN ?_ _ | refine blk_drew ?_ | refine blk_alloc ?_ _)); exact BK198.out) hb); have n2_ := Aside0.mk (blk_below (g := gb209) (o := .cells #[.int .i64 x47_3, .slice none 0 0] 28 (0, 0)) (by (with_reducible repeat (first | refine blk_drewN ?_ _ | refine blk_drew ?_ | refine blk_alloc ?_ _)); refine blk_put (cs := #[.int .i64 x47_3, .slice none 0 0]) ?_ 1 _ rfl; (with_reducible repeat (first | refine blk_drewN ?_ _ | refine blk_drew ?_ | refine blk_alloc ?_ _)); refine blk_put (cs := #[.int .i64 0, .slice none 0 0]) ?_ 0 _ rfl; (with_reducible repeat (first | refine blk_drewN ?_ _ | refine blk_drew ?_ | refine blk_alloc ?_ _)); exact BK209.out) hb); have n3_ := Aside0.mk (below_step (by repeat (first | (with_reducible first | exact HB.out | apply below_alloc | apply pw_below_drewN | apply below_drew1 | refine below_set ?_ GE198.out | refine below_set ?_ GE209.out) | exact HB.out)) hb); clear BK198; clear BK209; clear HB; have HO212 := n0_; have BK198 := n1_; have BK209 := n2_; have HB := n3_; clear n0_ n1_ n2_ n3_; (try clear hb); (try clear hb2); (try clear hk); (try clear hi); (try clear ho0); obtain ⟨Ao29, co29, eo29⟩ := Kd.R_slice HO212.out; subst eo29))
                            go_loopg [59] k3 (fun kq v59 w' => ∃ (x59_4 : Int) (x210001_4 : List Int) (u210001 : Value), v59 = .int .i64 x59_4 ∧ Aside0 (isa_Decode.l2 kq x3_3 x5_2 (t205.length : Int) x47_3 t210 (t210.length : Int) x59_4 x47_3 x210001_4 = some (r1, r2, r3, r4)) ∧ Aside0 (kq ≤ k3) ∧ Aside0 (Kd.R Kd.string 9 w' w.heap.size (fun _ => True) (.slice Ao29 t210.length co29) t210) ∧ Aside0 (Kd.R (Kd.int .i64) 3 w' w.heap.size (fun _ => True) u210001 x210001_4) ∧ Aside0 (w'.heap[gb198]? = some (.cells #[.int .i64 x199000_3, (.slice none 0 0)] 28 (0, 0))) ∧ Aside0 (w'.heap[gb209]? = some (.cells #[.int .i64 x47_3, u210001] 28 (0, 0))) ∧ Aside0 (Below w.heap.size w w'))
                            case atStart => exact ⟨(0), (([] : List Int)), (.slice none 0 0), (by first | rfl | (simp; done) | (simp [*]; done)), H', ⟨Nat.le_refl _⟩, ⟨by (with_reducible repeat (first | apply Kd.R_alloc | apply Kd.R_drewN | apply Kd.R_drew)); exact HO212.out⟩, ⟨by first | exact Kd.R_nil _ _ _ _ _ | exact Kd.N_nil _ _ _ _ _ | exact Kd.V_nil _ _ _ _ _ | exact Kd.Q_nil _ _ _ _ _ | exact Kd.S_nil _ _ _ _ _⟩, ⟨by (with_reducible repeat (first | refine blk_drewN ?_ _ | refine blk_drew ?_ | refine blk_alloc ?_ _)); exact BK198.out⟩, ⟨by (with_reducible repeat (first | refine blk_drewN ?_ _ | refine blk_drew ?_ | refine blk_alloc ?_ _)); exact BK209.out⟩, ⟨by repeat (first | (with_reducible first | exact HB.out | apply below_alloc | apply pw_below_drewN | apply below_drew1 | refine below_set ?_ GE198.out | refine below_set ?_ GE209.out) | exact HB.out)⟩⟩
                            case round =>
                              clear H'
                              try clear c1
                              try clear p1
                              try clear q1
                              try clear hx1
                              try clear qi1
                              try clear c2
                              try clear p2
                              try clear q2
                              try clear hx2
                              try clear qi2
                              try clear c3
                              try clear c4
                              try clear c4b0
                              try clear c4b1
                              try clear c5
                              try clear c5b0
                              try clear c5b1
                              try clear p6
                              try clear c7
                              try clear c9
                              try clear c9b0
                              try clear c9b1
                              try clear c11
                              try clear c11b0
                              try clear c11b1
                              try clear c12
                              try clear c12b0
                              try clear c12b1
                              try clear c14
                              try clear c14b0
                              try clear c15
                              try clear c15b0
                              try clear c16
                              try clear c16b0
                              try clear c18
                              try clear p19
                              try clear q19
                              try clear hx19
                              try clear qi19
                              try clear c20
                              try clear c20b0
                              try clear p20
                              try clear q20
                              try clear hx20
                              try clear qi20
                              try clear c22
                              try clear c22b0
                              try clear c22b1
                              try clear c26
                              try clear hcz27_0
                              try clear hcz27_1
                              try clear hcz8_0
                              try clear hcz8_1
                              try clear hfz27_0
                              try clear hfz27_1
                              try clear hfz8_0
                              try clear hfz8_1
                              try clear hx199_0
                              try clear hx201_0
                              try clear hx204_0
                              try clear p1
                              try clear p19
                              try clear p199
                              try clear p2
                              try clear p201
                              try clear p204
                              try clear p6
                              try clear q1
                              try clear q19
                              try clear q199
                              try clear q2
                              try clear q201
                              try clear q204
                              obtain ⟨x59_4, x210001_4, u210001, rfl, HA, HK4, HO_57, HO_210001, BK198, BK209, HB⟩ := hrel
                              cases gk with
                              | zero => exact absurd HA.out (by simp [isa_Decode.l2])
                              | succ k4 =>
                                have H := HA.out
                                clear HA
                                simp only [isa_Decode.l2] at H
                                by_cases c30 : x59_4 < (t210.length : Int)
                                · rw [if_pos c30] at H
                                  have c30b0 : decide (x59_4 < (t210.length : Int)) = true := decide_eq_true c30
                                  clear c30
                                  by_cases c31 : 0 ≤ x59_4
                                  · rw [if_pos c31] at H
                                    have c31b0 : decide (0 ≤ x59_4) = true := decide_eq_true c31
                                    clear c31
                                    by_cases c32 : x59_4 < (t210.length : Int)
                                    · rw [if_pos c32] at H
                                      have c32b0 : decide (x59_4 < (t210.length : Int)) = true := decide_eq_true c32
                                      clear c32
                                      replace H := Option.bind_eq_some_iff.mp H
                                      obtain ⟨t214, A330, H⟩ := H
                                      replace H : (if x210001_4.length < 17592186044416 then (isa_Decode.l2 k4 x3_3 x5_2 (t205.length : Int) x47_3 t210 (t210.length : Int) (wrap64 (x59_4 + 1)) x47_3 (x210001_4 ++ [t214])) else (none)) = some (r1, r2, r3, r4) := H
                                      have A33 := Aside0.mk A330
                                      clear A330
                                      by_cases c34 : x210001_4.length < 17592186044416
                                      · rw [if_pos c34] at H
                                        have LMc34 := Aside0.mk c34
                                        clear c34
                                        obtain ⟨y215, hy215⟩ : ∃ y_ : List Int, y_ = (x210001_4 ++ [t214]) := ⟨_, rfl⟩
                                        replace H : (isa_Decode.l2 k4 x3_3 x5_2 (t205.length : Int) x47_3 t210 (t210.length : Int) (wrap64 (x59_4 + 1)) x47_3 y215) = some (r1, r2, r3, r4) := by first | (rw [hy215]; with_reducible exact H) | (have H2_ := (Option.bind_some _ _).symm.trans H; rw [hy215]; with_reducible exact H2_) | (have H2_ := (Option.bind_some _ _).symm.trans H; with_reducible exact H2_) | with_reducible exact H | (rw [hy215]; exact H) | exact H
                                        have Ny215 := Aside0.mk hy215
                                        clear hy215
                                        have H' := Aside0.mk H
                                        clear H
                                        have p213 : 0 ≤ (x59_4 : Int) := of_decide_eq_true (by first | (with_reducible assumption) | assumption)
                                        have q213 : x59_4 < (t210.length : Int) := of_decide_eq_true (by first | (with_reducible assumption) | assumption)
                                        obtain ⟨ad213, e213, hx213_0⟩ := Kd.at_string (Kd.R_reads' HO_57.out).2.2 x59_4 p213 q213
                                        cases e213
                                        replace p213 := eq_true p213
                                        replace q213 := eq_true q213
                                        try go_wp2
                                        have n0_ := Aside0.mk (Kd.R_drew HO_57.out)
                                        have n1_ := Aside0.mk (Kd.R_drew HO_210001.out)
                                        have n2_ := Aside0.mk (blk_drew BK198.out)
                                        have n3_ := Aside0.mk (blk_drew BK209.out)
                                        have n4_ := Aside0.mk (below_drew1 HB.out)
                                        clear HO_57
                                        clear HO_210001
                                        clear BK198
                                        clear BK209
                                        clear HB
                                        have HO_57 := n0_
                                        have HO_210001 := n1_
                                        have BK198 := n2_
                                        have BK209 := n3_
                                        have HB := n4_
                                        clear n0_ n1_ n2_ n3_ n4_
                                        refine start_ (n := 9) (S := fun w' => w'.cell? ⟨gb209, 0, none⟩ = some (.int .i64 x47_3) ∧ w'.cell? ⟨gb209, 1, none⟩ = some (u210001)) (ds := [8]) #[false, false, false, false, false, false, false, false, false] (by kernel_rfl) rfl rfl ⟨(blk_cell BK209.out 0).trans rfl, (blk_cell BK209.out 1).trans rfl⟩ (fun hHeld => ?_); refine with_tabW isa_Decode.tab18 isa_Decode.bits18 (fun HT_ HW_ => ?_)
                                        generalize wr.drew = w35 at HO_57 HO_210001 BK198 BK209 HB hHeld ⊢
                                        refine pure_ (i := 0) (N := some 63) (v := ?_) (a' := ?_) #[true, false, false, false, false, false, false, false, false] rfl rfl (any_of HT_.out (by kernel_rfl)) (fun _ _ _ h => h) (Or.inl ⟨by rfl, ?_⟩) ?_ ?_
                                        rotate_left
                                        · intro w'
                                          go_simp
                                          with_reducible rfl
                                        rotate_left
                                        · simp only [Act.put, List.setIfInBounds_toArray, List.set_cons_zero, List.set_cons_succ, i64_w, i32_w]
                                          rfl
                                        refine pure_ (i := 2) (N := some 65) (v := ?_) (a' := ?_) #[true, false, true, false, false, false, false, false, false] rfl rfl (any_of HT_.out (by kernel_rfl)) (fun _ _ _ h => h) (Or.inl ⟨by rfl, ?_⟩) ?_ ?_
                                        rotate_left
                                        · intro w'
                                          go_simp
                                          with_reducible rfl
                                        rotate_left
                                        · simp only [Act.put, List.setIfInBounds_toArray, List.set_cons_zero, List.set_cons_succ, i64_w, i32_w]
                                          rfl
                                        refine pure_ (i := 3) (N := some 66) (v := ?_) (a' := ?_) #[true, false, true, true, false, false, false, false, false] rfl rfl (any_of HT_.out (by kernel_rfl)) (fun _ _ _ h => h) (Or.inl ⟨by rfl, ?_⟩) ?_ ?_
                                        rotate_left
                                        · intro w'
                                          go_simp
                                          with_reducible rfl
                                        rotate_left
                                        · simp only [Act.put, List.setIfInBounds_toArray, List.set_cons_zero, List.set_cons_succ, i64_w, i32_w]
                                          rfl
                                        refine take_ (i := 1) (N := some 64) (v := ?_) (a' := ?_) #[true, true, true, true, false, false, false, false, false] rfl rfl (take_ofW HT_.out HW_.out (by kernel_rfl)) (fun _ _ _ h => h) (Or.inl ⟨by rfl, ?_⟩) hHeld ?_ ?_
                                        rotate_left
                                        · rintro w' ⟨s0, s1⟩
                                          go_simp
                                          with_reducible rfl
                                        rotate_left
                                        · simp only [Act.put, List.setIfInBounds_toArray, List.set_cons_zero, List.set_cons_succ, i64_w, i32_w]
                                          rfl
                                        refine one_ (i := 4) (N := some 67) #[true, true, true, true, true, false, false, false, false] rfl rfl (one_of HT_.out (by kernel_rfl)) (by decide) (fun K hK => ?_)
                                        refine goes_ Tryd.func42 (by kernel_rfl) rfl #[.string (rdOf ByteArray.empty t210 x59_4), .int .u32 x5_2] (by rfl) rfl rfl (by (try simp only [List.map_toArray, List.map_cons, List.map_nil]); first | done | rfl | (simp only [List.length_drop, List.length_take]; rfl)) ?_
                                        with_reducible refine (isa_get.calls k4 (rdOf ByteArray.empty t210 x59_4) x5_2 t214 _ A33.out).mono ?_
                                        rintro e w36 ⟨rfl, hb⟩
                                        refine ⟨_, rfl, ?_⟩
                                        have n0_ := Aside0.mk (Kd.R_below (by (with_reducible repeat (first | apply Kd.R_alloc | apply Kd.R_drewN | apply Kd.R_drew)); exact HO_57.out) hb)
                                        have n1_ := Aside0.mk (Kd.R_below (by (with_reducible repeat (first | apply Kd.R_alloc | apply Kd.R_drewN | apply Kd.R_drew)); exact HO_210001.out) hb)
                                        have n2_ := Aside0.mk (blk_below (g := gb198) (o := .cells #[.int .i64 x199000_3, .slice none 0 0] 28 (0, 0)) (by (with_reducible repeat (first | refine blk_drewN ?_ _ | refine blk_drew ?_ | refine blk_alloc ?_ _)); exact BK198.out) hb)
                                        have n3_ := Aside0.mk (blk_below (g := gb209) (o := .cells #[.int .i64 x47_3, u210001] 28 (0, 0)) (by (with_reducible repeat (first | refine blk_drewN ?_ _ | refine blk_drew ?_ | refine blk_alloc ?_ _)); exact BK209.out) hb)
                                        have n4_ := Aside0.mk (below_step (by repeat (first | (with_reducible first | exact HB.out | apply below_alloc | apply pw_below_drewN | apply below_drew1 | refine below_set ?_ GE198.out | refine below_set ?_ GE209.out) | exact HB.out)) hb)
                                        clear HO_57
                                        clear HO_210001
                                        clear BK198
                                        clear BK209
                                        clear HB
                                        have HO_57 := n0_
                                        have HO_210001 := n1_
                                        have BK198 := n2_
                                        have BK209 := n3_
                                        have HB := n4_
                                        clear n0_ n1_ n2_ n3_ n4_
                                        (try clear hb)
                                        (try clear hb2)
                                        (try clear hk)
                                        (try clear hi)
                                        refine hK.out _ _ ⟨(blk_cell BK209.out 0).trans rfl, (blk_cell BK209.out 1).trans rfl⟩ (fun hHeld => ?_)
                                        clear hK K
                                        refine norm_ (a' := ?_) ?_ ?_
                                        rotate_left
                                        · show Act.put _ (some 67) _ = _
                                          simp only [Act.put, List.setIfInBounds_toArray, List.set_cons_zero, List.set_cons_succ, i64_w, i32_w]
                                          rfl
                                        refine one_ (i := 5) (N := some 68) #[true, true, true, true, true, true, false, false, false] rfl rfl (one_of HT_.out (by kernel_rfl)) (by decide) (fun K hK => ?_)
                                        refine value_ (w1 := ?_) (v := ?_) (by rfl) rfl ?_ ?_
                                        rotate_left 2
                                        · go_simp
                                          constructor
                                          · rfl
                                          · rfl
                                        refine hK.out _ _ ⟨(blk_cell (blk_alloc BK209.out _) 0).trans rfl, (blk_cell (blk_alloc BK209.out _) 1).trans rfl⟩ (fun hHeld => ?_)
                                        clear hK K
                                        refine norm_ (a' := ?_) ?_ ?_
                                        rotate_left
                                        · show Act.put _ (some 68) _ = _
                                          simp only [Act.put, List.setIfInBounds_toArray, List.set_cons_zero, List.set_cons_succ, i64_w, i32_w]
                                          rfl
                                        refine one_ (i := 6) (N := some 69) #[true, true, true, true, true, true, true, false, false] rfl rfl (one_of HT_.out (by kernel_rfl)) (by decide) (fun K hK => ?_)
                                        refine Kd.R_append_step (Kd.int .i64) (w0 := w) w.heap.size (by rfl) (.tmp 64) (.tmp 68) 23 3 (.int .i64 0) 8 rfl Tryd.underlying23 info3 rfl (by decide) (by omega) u210001 x210001_4 t214 [.int .i64 t214] (fun _ => True) (fun _ => False) rfl rfl ?aP (fun _ hk => hk.elim) ?aF ?aO ?aB ?aS ?aL ?_
                                        (case aP => exact rfl)
                                        (case aB => exact (by repeat (first | (with_reducible first | exact HB.out | apply below_alloc | apply pw_below_drewN | apply below_drew1 | refine below_set ?_ GE198.out | refine below_set ?_ GE209.out) | exact HB.out)))
                                        (case aF => exact (fun _ _ => trivial))
                                        (case aO => exact (by (with_reducible repeat (first | apply Kd.R_alloc | apply Kd.R_drewN | apply Kd.R_drew)); exact HO_210001.out))
                                        (case aS => exact (below_size (by repeat (first | (with_reducible first | exact HB.out | apply below_alloc | apply pw_below_drewN | apply below_drew1 | refine below_set ?_ GE198.out | refine below_set ?_ GE209.out) | exact HB.out))))
                                        (case aL => have := LMc34.out; omega)
                                        intro v216 w37 ho hb hg hat
                                        rw [← Ny215.out] at ho
                                        have n0_ := Aside0.mk (Kd.R_over' (by (with_reducible repeat (first | apply Kd.R_alloc | apply Kd.R_drewN | apply Kd.R_drew)); exact HO_57.out) (Kd.R_typed (by (with_reducible repeat (first | apply Kd.R_alloc | apply Kd.R_drewN | apply Kd.R_drew)); exact HO_210001.out)) (by decide) hg)
                                        have n1_ := Aside0.mk (blk_grown (g := gb198) (o := .cells #[.int .i64 x199000_3, .slice none 0 0] 28 (0, 0)) (by (with_reducible repeat (first | refine blk_drewN ?_ _ | refine blk_drew ?_ | refine blk_alloc ?_ _)); exact BK198.out) hg (Kd.R_ne HO_210001.out BK198.out (by decide)))
                                        have n2_ := Aside0.mk (blk_grown (g := gb209) (o := .cells #[.int .i64 x47_3, u210001] 28 (0, 0)) (by (with_reducible repeat (first | refine blk_drewN ?_ _ | refine blk_drew ?_ | refine blk_alloc ?_ _)); exact BK209.out) hg (Kd.R_ne HO_210001.out BK209.out (by decide)))
                                        have n3_ := Aside0.mk (hb)
                                        have n4_ := Aside0.mk (ho)
                                        clear HO_57
                                        clear BK198
                                        clear BK209
                                        clear HB
                                        clear HO_210001
                                        have HO_57 := n0_
                                        have BK198 := n1_
                                        have BK209 := n2_
                                        have HB := n3_
                                        have HO217 := n4_
                                        clear n0_ n1_ n2_ n3_ n4_
                                        clear ho hb hg hat
                                        obtain ⟨Ao38, co38, eo38⟩ := Kd.R_slice HO217.out
                                        (first | subst eo38 | (injection eo38 with f1_ f2_ f3_; have f4_ := f1_.symm; have f5_ := f3_.symm; clear f1_ f2_ f3_; subst f4_; subst f5_))
                                        refine hK.out _ _ ⟨(blk_cell BK209.out 0).trans rfl, (blk_cell BK209.out 1).trans rfl⟩ (fun hHeld => ?_)
                                        clear hK K
                                        refine norm_ (a' := ?_) ?_ ?_
                                        rotate_left
                                        · show Act.put _ (some 69) _ = _
                                          simp only [Act.put, List.setIfInBounds_toArray, List.set_cons_zero, List.set_cons_succ, i64_w, i32_w]
                                          rfl
                                        refine pure_ (i := 7) (N := some 70) (v := ?_) (a' := ?_) #[true, true, true, true, true, true, true, true, false] rfl rfl (any_of HT_.out (by kernel_rfl)) (fun _ _ _ h => h) (Or.inl ⟨by rfl, ?_⟩) ?_ ?_
                                        rotate_left
                                        · intro w'
                                          go_simp
                                          with_reducible rfl
                                        rotate_left
                                        · simp only [Act.put, List.setIfInBounds_toArray, List.set_cons_zero, List.set_cons_succ, i64_w, i32_w]
                                          rfl
                                        refine last_ (i := 8) (N := none) #[true, true, true, true, true, true, true, true, true] rfl rfl (one_of HT_.out (by kernel_rfl)) (by decide) (fun K hK => ?_)
                                        have hs39 : w37.cell? ⟨gb209, 1, none⟩ = some (u210001) := (blk_cell BK209.out 1).trans rfl
                                        have hfs39 := blk_frozen BK209.out 1
                                        have hns39_0 := NB198_209.out
                                        have hms39_0 := NB209_198.out
                                        refine skip_ (w1 := ?_) (by rfl) rfl ?_ ?_
                                        rotate_left
                                        · go_simp
                                          rfl
                                        refine hK.out _ _ ?_
                                        clear hK K
                                        refine done_ (done_of HT_.out (by kernel_rfl)) ?_
                                        try go_wp2
                                        go_roundg k4
                                        case measure => have := HJ1.out; have := HK2.out; have := HK3.out; have := HK4.out; omega
                                        case rel => exact ⟨(wrap64 (x59_4 + 1)), (y215), (.slice Ao38 y215.length co38), (by first | rfl | (simp; done) | (simp [*]; done)), H', ⟨by have := HJ1.out; have := HK2.out; have := HK3.out; have := HK4.out; omega⟩, ⟨by (with_reducible repeat (first | apply Kd.R_alloc | apply Kd.R_drewN | apply Kd.R_drew)); exact Kd.R_mono (Kd.R_far (p := ⟨gb209, 1, none⟩) (Kd.R_types HO_57.out BK209.out (by decide)) (fun _ hk => hk.2) (.slice Ao38 y215.length co38)) (fun _ hk => trivial)⟩, ⟨by (with_reducible repeat (first | apply Kd.R_alloc | apply Kd.R_drewN | apply Kd.R_drew)); exact Kd.R_mono (Kd.R_far (p := ⟨gb209, 1, none⟩) (Kd.R_types HO217.out BK209.out (by decide)) (fun _ hk => hk.2) (.slice Ao38 y215.length co38)) (fun _ hk => trivial)⟩, ⟨by (with_reducible repeat (first | refine blk_drewN ?_ _ | refine blk_drew ?_ | refine blk_alloc ?_ _)); refine blk_far ?_ NB198_209.out _; (with_reducible repeat (first | refine blk_drewN ?_ _ | refine blk_drew ?_ | refine blk_alloc ?_ _)); exact BK198.out⟩, ⟨by (with_reducible repeat (first | refine blk_drewN ?_ _ | refine blk_drew ?_ | refine blk_alloc ?_ _)); refine blk_put (cs := #[.int .i64 x47_3, u210001]) ?_ 1 _ rfl; (with_reducible repeat (first | refine blk_drewN ?_ _ | refine blk_drew ?_ | refine blk_alloc ?_ _)); exact BK209.out⟩, ⟨by repeat (first | (with_reducible first | exact HB.out | apply below_alloc | apply pw_below_drewN | apply below_drew1 | refine below_set ?_ GE198.out | refine below_set ?_ GE209.out) | exact HB.out)⟩⟩
                                      · rw [if_neg c34] at H
                                        exact absurd H (by simp)
                                    · rw [if_neg c32] at H
                                      exact absurd H (by simp)
                                  · rw [if_neg c31] at H
                                    exact absurd H (by simp)
                                · rw [if_neg c30] at H
                                  have c30b0 : decide (x59_4 < (t210.length : Int)) = false := decide_eq_false c30
                                  clear c30
                                  replace H := Option.bind_eq_some_iff.mp H
                                  obtain ⟨⟨t218, t219⟩, A400, H⟩ := H
                                  replace H : (if t219 = true then (if t218 = x5_2 then ((slices_Clone_int_int.f x210001_4).bind fun t220 => (some (x47_3, t220, x3_3, true))) else (isa_Decode.l1 k4 x3_3 x5_2 (t205.length : Int) (wrap64 (x47_3 + 1)))) else (isa_Decode.l1 k4 x3_3 x5_2 (t205.length : Int) (wrap64 (x47_3 + 1)))) = some (r1, r2, r3, r4) := H
                                  have A40 := Aside0.mk A400
                                  clear A400
                                  by_cases c41 : t219 = true
                                  · subst c41
                                    have H1 : (if t218 = x5_2 then ((slices_Clone_int_int.f x210001_4).bind fun t220 => (some (x47_3, t220, x3_3, true))) else (isa_Decode.l1 k4 x3_3 x5_2 (t205.length : Int) (wrap64 (x47_3 + 1)))) = some (r1, r2, r3, r4) := by rw [if_pos rfl] at H; exact H
                                    clear H
                                    have H := H1
                                    clear H1
                                    by_cases c42 : t218 = x5_2
                                    · rw [if_pos c42] at H
                                      have c42b0 : (t218 == x5_2) = true := beq_iff_eq.mpr c42
                                      have c42b1 : (t218 != x5_2) = false := bne_eq_false_iff_eq.mpr c42
                                      clear c42
                                      replace H := Option.bind_eq_some_iff.mp H
                                      obtain ⟨t220, A430, H⟩ := H
                                      replace H : (some (x47_3, t220, x3_3, true)) = some (r1, r2, r3, r4) := H
                                      have A43 := Aside0.mk A430
                                      clear A430
                                      simp only [Option.some.injEq, Prod.mk.injEq] at H
                                      obtain ⟨rfl, rfl, rfl, rfl⟩ := H
                                      have hnb44 := NB209_198.out
                                      have hnc44 := NB198_209.out
                                      have hcz45_0 : wr.cell? ⟨gb209, 0, none⟩ = some (.int .i64 x47_3) := (blk_cell BK209.out 0).trans rfl
                                      have hcz45_1 : wr.cell? ⟨gb209, 1, none⟩ = some (u210001) := (blk_cell BK209.out 1).trans rfl
                                      have hfz45_0 := blk_frozen BK209.out 0
                                      have hfz45_1 := blk_frozen BK209.out 1
                                      obtain ⟨Ao46, co46, eo46⟩ := Kd.R_slice HO_210001.out
                                      subst eo46
                                      go_wp2_with (first | ((with_reducible refine gate_callee (f := 43) rfl ?_); refine goesL_ (some 74) rfl rfl Tryd.func43 (by kernel_rfl) rfl #[.agg #[.int .i64 x47_3, .slice Ao46 x210001_4.length co46]] rfl (by (try simp only [List.map_toArray, List.map_cons, List.map_nil]); first | done | rfl | (simp only [List.length_drop, List.length_take]; rfl)) ?_; (with_reducible refine (isa_code.calls k4 x47_3 _ _ x210001_4 t218 true _ ?side1 ?side2 ?side3 A40.out).mono ?_); (case side1 => exact LaidW.below hLaid_ (by repeat (first | (with_reducible first | exact HB.out | apply below_alloc | apply pw_below_drewN | apply below_drew1 | refine below_set ?_ GE198.out | refine below_set ?_ GE209.out) | exact HB.out))); (case side2 => repeat (first | exact (Kd.R_reads' HO_210001.out).2.2 | (with_reducible refine Kd.C_alloc ?_ _) | (with_reducible refine Kd.C_drewN ?_ _) | (with_reducible refine Kd.C_drew ?_))); (case side3 => exact (Kd.R_reads' HO_210001.out).2.1); rintro e w47 ⟨rfl, hb⟩; refine ⟨_, rfl, ?_⟩; have n0_ := Aside0.mk (Kd.R_below (by (with_reducible repeat (first | apply Kd.R_alloc | apply Kd.R_drewN | apply Kd.R_drew)); exact HO_57.out) hb); have n1_ := Aside0.mk (Kd.R_below (by (with_reducible repeat (first | apply Kd.R_alloc | apply Kd.R_drewN | apply Kd.R_drew)); exact HO_210001.out) hb); have n2_ := Aside0.mk (blk_below (g := gb198) (o := .cells #[.int .i64 x199000_3, .slice none 0 0] 28 (0, 0)) (by (with_reducible repeat (first | refine blk_drewN ?_ _ | refine blk_drew ?_ | refine blk_alloc ?_ _)); exact BK198.out) hb); have n3_ := Aside0.mk (blk_below (g := gb209) (o := .cells #[.int .i64 x47_3, .slice Ao46 x210001_4.length co46] 28 (0, 0)) (by (with_reducible repeat (first | refine blk_drewN ?_ _ | refine blk_drew ?_ | refine blk_alloc ?_ _)); exact BK209.out) hb); have n4_ := Aside0.mk (below_step (by repeat (first | (with_reducible first | exact HB.out | apply below_alloc | apply pw_below_drewN | apply below_drew1 | refine below_set ?_ GE198.out | refine below_set ?_ GE209.out) | exact HB.out)) hb); clear HO_57; clear HO_210001; clear BK198; clear BK209; clear HB; have HO_57 := n0_; have HO_210001 := n1_; have BK198 := n2_; have BK209 := n3_; have HB := n4_; clear n0_ n1_ n2_ n3_ n4_; (try clear hb); (try clear hb2); (try clear hk); (try clear hi); have hcz48_0 : w47.cell? ⟨gb209, 0, none⟩ = some (.int .i64 x47_3) := (blk_cell BK209.out 0).trans rfl; have hcz48_1 : w47.cell? ⟨gb209, 1, none⟩ = some (.slice Ao46 x210001_4.length co46) := (blk_cell BK209.out 1).trans rfl; have hfz48_0 := blk_frozen BK209.out 0; have hfz48_1 := blk_frozen BK209.out 1) | ((with_reducible refine gate_callee (f := 44) rfl ?_); refine goesL_ (some 85) rfl rfl Tryd.func44 (by kernel_rfl) rfl #[.slice Ao46 x210001_4.length co46] rfl (by (try simp only [List.map_toArray, List.map_cons, List.map_nil]); first | done | rfl | (simp only [List.length_drop, List.length_take]; rfl)) ?_; (with_reducible refine (slices_Clone_int_int.calls _ _ x210001_4 t220 _ ?side1 ?side2 A43.out).mono ?_); (case side1 => repeat (first | exact (Kd.R_reads' HO_210001.out).2.2 | (with_reducible refine Kd.C_alloc ?_ _) | (with_reducible refine Kd.C_drewN ?_ _) | (with_reducible refine Kd.C_drew ?_))); (case side2 => exact (Kd.R_reads' HO_210001.out).2.1); rintro e w49 ⟨v221, rfl, ho0, hb⟩; refine ⟨_, rfl, ?_⟩; have n0_ := Aside0.mk (Kd.R_below (by (with_reducible repeat (first | apply Kd.R_alloc | apply Kd.R_drewN | apply Kd.R_drew)); exact HO_57.out) hb); have n1_ := Aside0.mk (Kd.R_elder' (by (with_reducible repeat (first | apply Kd.R_alloc | apply Kd.R_drewN | apply Kd.R_drew)); exact HO_210001.out) (Kd.R_base ho0) hb); have n2_ := Aside0.mk (Kd.R_lower (Kd.R_new' ho0 (Kd.R_lt (by (with_reducible repeat (first | apply Kd.R_alloc | apply Kd.R_drewN | apply Kd.R_drew)); exact HO_210001.out))) (below_size (by repeat (first | (with_reducible first | exact HB.out | apply below_alloc | apply pw_below_drewN | apply below_drew1 | refine below_set ?_ GE198.out | refine below_set ?_ GE209.out) | exact HB.out)))); have n3_ := Aside0.mk (blk_below (g := gb198) (o := .cells #[.int .i64 x199000_3, .slice none 0 0] 28 (0, 0)) (by (with_reducible repeat (first | refine blk_drewN ?_ _ | refine blk_drew ?_ | refine blk_alloc ?_ _)); exact BK198.out) hb); have n4_ := Aside0.mk (blk_below (g := gb209) (o := .cells #[.int .i64 x47_3, .slice Ao46 x210001_4.length co46] 28 (0, 0)) (by (with_reducible repeat (first | refine blk_drewN ?_ _ | refine blk_drew ?_ | refine blk_alloc ?_ _)); exact BK209.out) hb); have n5_ := Aside0.mk (below_step (by repeat (first | (with_reducible first | exact HB.out | apply below_alloc | apply pw_below_drewN | apply below_drew1 | refine below_set ?_ GE198.out | refine below_set ?_ GE209.out) | exact HB.out)) hb); clear HO_57; clear HO_210001; clear BK198; clear BK209; clear HB; have HO_57 := n0_; have HO_210001 := n1_; have HO222 := n2_; have BK198 := n3_; have BK209 := n4_; have HB := n5_; clear n0_ n1_ n2_ n3_ n4_ n5_; (try clear hb); (try clear hb2); (try clear hk); (try clear hi); (try clear ho0); obtain ⟨Ao50, co50, eo50⟩ := Kd.R_slice HO222.out; subst eo50; have hcz51_0 : w49.cell? ⟨gb209, 0, none⟩ = some (.int .i64 x47_3) := (blk_cell BK209.out 0).trans rfl; have hcz51_1 : w49.cell? ⟨gb209, 1, none⟩ = some (.slice Ao46 x210001_4.length co46) := (blk_cell BK209.out 1).trans rfl; have hfz51_0 := blk_frozen BK209.out 0; have hfz51_1 := blk_frozen BK209.out 1; have hcz52_0 : w49.cell? ⟨gb198, 0, none⟩ = some (.int .i64 x199000_3) := (blk_cell BK198.out 0).trans rfl; have hcz52_1 : w49.cell? ⟨gb198, 1, none⟩ = some (.slice none 0 0) := (blk_cell BK198.out 1).trans rfl; have hfz52_0 := blk_frozen BK198.out 0; have hfz52_1 := blk_frozen BK198.out 1))
                                      refine bodyPost_ret (results_ctt rfl _ _ gb198 28 #[.int .i64 x47_3, .slice Ao50 t220.length co50] (0, 0) _ rfl (by (with_reducible repeat (first | refine blk_drewN ?_ _ | refine blk_drew ?_ | refine blk_alloc ?_ _)); refine blk_put (cs := #[.int .i64 x47_3, .slice none 0 0]) ?_ 1 _ rfl; (with_reducible repeat (first | refine blk_drewN ?_ _ | refine blk_drew ?_ | refine blk_alloc ?_ _)); refine blk_put (cs := #[.int .i64 x199000_3, .slice none 0 0]) ?_ 0 _ rfl; (with_reducible repeat (first | refine blk_drewN ?_ _ | refine blk_drew ?_ | refine blk_alloc ?_ _)); refine blk_far ?_ NB198_209.out _; (with_reducible repeat (first | refine blk_drewN ?_ _ | refine blk_drew ?_ | refine blk_alloc ?_ _)); exact BK198.out) Tryd.underlying28 rfl (by kernel_rfl)) rfl ?_
                                      exact ⟨_, by first | rfl | (simp [errW_none, errW_some] <;> rfl) | (simp [*, errW_none, errW_some] <;> rfl), by (with_reducible repeat (first | apply Kd.R_alloc | apply Kd.R_drewN | apply Kd.R_drew)); exact Kd.R_mono (Kd.R_far (p := ⟨gb198, 1, none⟩) (Kd.R_far (p := ⟨gb198, 0, none⟩) (Kd.R_far (p := ⟨gb209, 1, none⟩) (Kd.R_types (Kd.R_types HO222.out BK209.out (by decide)) BK198.out (by decide)) (fun _ hk => hk.1.2) (.slice Ao50 t220.length co50)) (fun _ hk => hk.2) (.int .i64 x47_3)) (fun _ hk => hk.2) (.slice Ao50 t220.length co50)) (fun _ hk => trivial), by repeat (first | (with_reducible first | exact HB.out | apply below_alloc | apply pw_below_drewN | apply below_drew1 | refine below_set ?_ GE198.out | refine below_set ?_ GE209.out) | exact HB.out)⟩
                                    · rw [if_neg c42] at H
                                      have c42b0 : (t218 == x5_2) = false := beq_eq_false_iff_ne.mpr c42
                                      have c42b1 : (t218 != x5_2) = true := bne_iff_ne.mpr c42
                                      have H' := Aside0.mk H
                                      clear H
                                      have hnb53 := NB209_198.out
                                      have hnc53 := NB198_209.out
                                      have hcz54_0 : wr.cell? ⟨gb209, 0, none⟩ = some (.int .i64 x47_3) := (blk_cell BK209.out 0).trans rfl
                                      have hcz54_1 : wr.cell? ⟨gb209, 1, none⟩ = some (u210001) := (blk_cell BK209.out 1).trans rfl
                                      have hfz54_0 := blk_frozen BK209.out 0
                                      have hfz54_1 := blk_frozen BK209.out 1
                                      obtain ⟨Ao55, co55, eo55⟩ := Kd.R_slice HO_210001.out
                                      subst eo55
                                      go_wp2_with (first | ((with_reducible refine gate_callee (f := 43) rfl ?_); refine goesL_ (some 74) rfl rfl Tryd.func43 (by kernel_rfl) rfl #[.agg #[.int .i64 x47_3, .slice Ao55 x210001_4.length co55]] rfl (by (try simp only [List.map_toArray, List.map_cons, List.map_nil]); first | done | rfl | (simp only [List.length_drop, List.length_take]; rfl)) ?_; (with_reducible refine (isa_code.calls k4 x47_3 _ _ x210001_4 t218 true _ ?side1 ?side2 ?side3 A40.out).mono ?_); (case side1 => exact LaidW.below hLaid_ (by repeat (first | (with_reducible first | exact HB.out | apply below_alloc | apply pw_below_drewN | apply below_drew1 | refine below_set ?_ GE198.out | refine below_set ?_ GE209.out) | exact HB.out))); (case side2 => repeat (first | exact (Kd.R_reads' HO_210001.out).2.2 | (with_reducible refine Kd.C_alloc ?_ _) | (with_reducible refine Kd.C_drewN ?_ _) | (with_reducible refine Kd.C_drew ?_))); (case side3 => exact (Kd.R_reads' HO_210001.out).2.1); rintro e w56 ⟨rfl, hb⟩; refine ⟨_, rfl, ?_⟩; have n0_ := Aside0.mk (Kd.R_below (by (with_reducible repeat (first | apply Kd.R_alloc | apply Kd.R_drewN | apply Kd.R_drew)); exact HO_57.out) hb); have n1_ := Aside0.mk (Kd.R_below (by (with_reducible repeat (first | apply Kd.R_alloc | apply Kd.R_drewN | apply Kd.R_drew)); exact HO_210001.out) hb); have n2_ := Aside0.mk (blk_below (g := gb198) (o := .cells #[.int .i64 x199000_3, .slice none 0 0] 28 (0, 0)) (by (with_reducible repeat (first | refine blk_drewN ?_ _ | refine blk_drew ?_ | refine blk_alloc ?_ _)); exact BK198.out) hb); have n3_ := Aside0.mk (blk_below (g := gb209) (o := .cells #[.int .i64 x47_3, .slice Ao55 x210001_4.length co55] 28 (0, 0)) (by (with_reducible repeat (first | refine blk_drewN ?_ _ | refine blk_drew ?_ | refine blk_alloc ?_ _)); exact BK209.out) hb); have n4_ := Aside0.mk (below_step (by repeat (first | (with_reducible first | exact HB.out | apply below_alloc | apply pw_below_drewN | apply below_drew1 | refine below_set ?_ GE198.out | refine below_set ?_ GE209.out) | exact HB.out)) hb); clear HO_57; clear HO_210001; clear BK198; clear BK209; clear HB; have HO_57 := n0_; have HO_210001 := n1_; have BK198 := n2_; have BK209 := n3_; have HB := n4_; clear n0_ n1_ n2_ n3_ n4_; (try clear hb); (try clear hb2); (try clear hk); (try clear hi)))
                                      go_roundg k4
                                      case measure => have := HJ1.out; have := HK2.out; have := HK3.out; have := HK4.out; omega
                                      case rel => exact ⟨(x3_3), (wrap64 (x47_3 + 1)), (x199000_3), (by first | rfl | (simp; done) | (simp [*]; done)), (by first | rfl | (simp; done) | (simp [*]; done)), H', ⟨by have := HJ1.out; have := HK2.out; have := HK3.out; have := HK4.out; omega⟩, ⟨by (with_reducible repeat (first | refine blk_drewN ?_ _ | refine blk_drew ?_ | refine blk_alloc ?_ _)); exact BK198.out⟩, ⟨by repeat (first | (with_reducible first | exact HB.out | apply below_alloc | apply pw_below_drewN | apply below_drew1 | refine below_set ?_ GE198.out | refine below_set ?_ GE209.out) | exact HB.out)⟩⟩
                                  · replace c41 := Bool.eq_false_iff.mpr c41
                                    subst c41
                                    have H1 : (isa_Decode.l1 k4 x3_3 x5_2 (t205.length : Int) (wrap64 (x47_3 + 1))) = some (r1, r2, r3, r4) := by rw [if_neg (show ¬ (false = true) by decide)] at H; exact H
                                    clear H
                                    have H := H1
                                    clear H1
                                    have H' := Aside0.mk H
                                    clear H
                                    have hnb57 := NB209_198.out
                                    have hnc57 := NB198_209.out
                                    have hcz58_0 : wr.cell? ⟨gb209, 0, none⟩ = some (.int .i64 x47_3) := (blk_cell BK209.out 0).trans rfl
                                    have hcz58_1 : wr.cell? ⟨gb209, 1, none⟩ = some (u210001) := (blk_cell BK209.out 1).trans rfl
                                    have hfz58_0 := blk_frozen BK209.out 0
                                    have hfz58_1 := blk_frozen BK209.out 1
                                    obtain ⟨Ao59, co59, eo59⟩ := Kd.R_slice HO_210001.out
                                    subst eo59
                                    go_wp2_with (first | ((with_reducible refine gate_callee (f := 43) rfl ?_); refine goesL_ (some 74) rfl rfl Tryd.func43 (by kernel_rfl) rfl #[.agg #[.int .i64 x47_3, .slice Ao59 x210001_4.length co59]] rfl (by (try simp only [List.map_toArray, List.map_cons, List.map_nil]); first | done | rfl | (simp only [List.length_drop, List.length_take]; rfl)) ?_; (with_reducible refine (isa_code.calls k4 x47_3 _ _ x210001_4 t218 false _ ?side1 ?side2 ?side3 A40.out).mono ?_); (case side1 => exact LaidW.below hLaid_ (by repeat (first | (with_reducible first | exact HB.out | apply below_alloc | apply pw_below_drewN | apply below_drew1 | refine below_set ?_ GE198.out | refine below_set ?_ GE209.out) | exact HB.out))); (case side2 => repeat (first | exact (Kd.R_reads' HO_210001.out).2.2 | (with_reducible refine Kd.C_alloc ?_ _) | (with_reducible refine Kd.C_drewN ?_ _) | (with_reducible refine Kd.C_drew ?_))); (case side3 => exact (Kd.R_reads' HO_210001.out).2.1); rintro e w60 ⟨rfl, hb⟩; refine ⟨_, rfl, ?_⟩; have n0_ := Aside0.mk (Kd.R_below (by (with_reducible repeat (first | apply Kd.R_alloc | apply Kd.R_drewN | apply Kd.R_drew)); exact HO_57.out) hb); have n1_ := Aside0.mk (Kd.R_below (by (with_reducible repeat (first | apply Kd.R_alloc | apply Kd.R_drewN | apply Kd.R_drew)); exact HO_210001.out) hb); have n2_ := Aside0.mk (blk_below (g := gb198) (o := .cells #[.int .i64 x199000_3, .slice none 0 0] 28 (0, 0)) (by (with_reducible repeat (first | refine blk_drewN ?_ _ | refine blk_drew ?_ | refine blk_alloc ?_ _)); exact BK198.out) hb); have n3_ := Aside0.mk (blk_below (g := gb209) (o := .cells #[.int .i64 x47_3, .slice Ao59 x210001_4.length co59] 28 (0, 0)) (by (with_reducible repeat (first | refine blk_drewN ?_ _ | refine blk_drew ?_ | refine blk_alloc ?_ _)); exact BK209.out) hb); have n4_ := Aside0.mk (below_step (by repeat (first | (with_reducible first | exact HB.out | apply below_alloc | apply pw_below_drewN | apply below_drew1 | refine below_set ?_ GE198.out | refine below_set ?_ GE209.out) | exact HB.out)) hb); clear HO_57; clear HO_210001; clear BK198; clear BK209; clear HB; have HO_57 := n0_; have HO_210001 := n1_; have BK198 := n2_; have BK209 := n3_; have HB := n4_; clear n0_ n1_ n2_ n3_ n4_; (try clear hb); (try clear hb2); (try clear hk); (try clear hi)))
                                    go_roundg k4
                                    case measure => have := HJ1.out; have := HK2.out; have := HK3.out; have := HK4.out; omega
                                    case rel => exact ⟨(x3_3), (wrap64 (x47_3 + 1)), (x199000_3), (by first | rfl | (simp; done) | (simp [*]; done)), (by first | rfl | (simp; done) | (simp [*]; done)), H', ⟨by have := HJ1.out; have := HK2.out; have := HK3.out; have := HK4.out; omega⟩, ⟨by (with_reducible repeat (first | refine blk_drewN ?_ _ | refine blk_drew ?_ | refine blk_alloc ?_ _)); exact BK198.out⟩, ⟨by repeat (first | (with_reducible first | exact HB.out | apply below_alloc | apply pw_below_drewN | apply below_drew1 | refine below_set ?_ GE198.out | refine below_set ?_ GE209.out) | exact HB.out)⟩⟩
                          · rw [if_neg c22] at H
                            have c22b0 : (t208 == x3_3) = false := beq_eq_false_iff_ne.mpr c22
                            have c22b1 : (t208 != x3_3) = true := bne_iff_ne.mpr c22
                            have H' := Aside0.mk H
                            clear H
                            go_wp2_with (first | ((with_reducible refine gate_callee (f := 22) rfl ?_); refine goesL_ (some 51) rfl rfl Tryd.func22 (by kernel_rfl) rfl #[.int .i64 x47_3] rfl (by (try simp only [List.map_toArray, List.map_cons, List.map_nil]); first | done | rfl | (simp only [List.length_drop, List.length_take]; rfl)) ?_; (with_reducible refine (isa_Size.calls x47_3 t208 _ A21.out).mono ?_); rintro e w61 ⟨rfl, hb⟩; refine ⟨_, rfl, ?_⟩; have n0_ := Aside0.mk (blk_below (g := gb198) (o := .cells #[.int .i64 x199000_3, .slice none 0 0] 28 (0, 0)) (by (with_reducible repeat (first | refine blk_drewN ?_ _ | refine blk_drew ?_ | refine blk_alloc ?_ _)); exact BK198.out) hb); have n1_ := Aside0.mk (below_step (by repeat (first | (with_reducible first | exact HB.out | apply below_alloc | apply pw_below_drewN | apply below_drew1 | refine below_set ?_ GE198.out) | exact HB.out)) hb); clear BK198; clear HB; have BK198 := n0_; have HB := n1_; clear n0_ n1_; (try clear hb); (try clear hb2); (try clear hk); (try clear hi)))
                            go_roundg k3
                            case measure => have := HJ1.out; have := HK2.out; have := HK3.out; omega
                            case rel => exact ⟨(x3_3), (wrap64 (x47_3 + 1)), (x199000_3), (by first | rfl | (simp; done) | (simp [*]; done)), (by first | rfl | (simp; done) | (simp [*]; done)), H', ⟨by have := HJ1.out; have := HK2.out; have := HK3.out; omega⟩, ⟨by (with_reducible repeat (first | refine blk_drewN ?_ _ | refine blk_drew ?_ | refine blk_alloc ?_ _)); exact BK198.out⟩, ⟨by repeat (first | (with_reducible first | exact HB.out | apply below_alloc | apply pw_below_drewN | apply below_drew1 | refine below_set ?_ GE198.out) | exact HB.out)⟩⟩
                        · rw [if_neg c20] at H
                          have c20b0 : decide (x47_3 < (t205.length : Int)) = false := decide_eq_false c20
                          clear c20
                          simp only [Option.some.injEq, Prod.mk.injEq] at H
                          obtain ⟨rfl, rfl, rfl, rfl⟩ := H
                          have hcz62_0 : wr.cell? ⟨gb198, 0, none⟩ = some (.int .i64 x199000_3) := (blk_cell BK198.out 0).trans rfl
                          have hcz62_1 : wr.cell? ⟨gb198, 1, none⟩ = some (.slice none 0 0) := (blk_cell BK198.out 1).trans rfl
                          have hfz62_0 := blk_frozen BK198.out 0
                          have hfz62_1 := blk_frozen BK198.out 1
                          go_wp2
                          refine bodyPost_ret (results_ctt rfl _ _ gb198 28 #[.int .i64 0, .slice none 0 0] (0, 0) _ rfl (by (with_reducible repeat (first | refine blk_drewN ?_ _ | refine blk_drew ?_ | refine blk_alloc ?_ _)); refine blk_put (cs := #[.int .i64 0, .slice none 0 0]) ?_ 1 _ rfl; (with_reducible repeat (first | refine blk_drewN ?_ _ | refine blk_drew ?_ | refine blk_alloc ?_ _)); refine blk_put (cs := #[.int .i64 x199000_3, .slice none 0 0]) ?_ 0 _ rfl; (with_reducible repeat (first | refine blk_drewN ?_ _ | refine blk_drew ?_ | refine blk_alloc ?_ _)); exact BK198.out) Tryd.underlying28 rfl (by kernel_rfl)) rfl ?_
                          exact ⟨_, by first | rfl | (simp [errW_none, errW_some] <;> rfl) | (simp [*, errW_none, errW_some] <;> rfl), by first | exact Kd.R_nil _ _ _ _ _ | exact Kd.N_nil _ _ _ _ _ | exact Kd.V_nil _ _ _ _ _ | exact Kd.Q_nil _ _ _ _ _ | exact Kd.S_nil _ _ _ _ _, by repeat (first | (with_reducible first | exact HB.out | apply below_alloc | apply pw_below_drewN | apply below_drew1 | refine below_set ?_ GE198.out) | exact HB.out)⟩
            · rw [if_neg c12] at H
              exact absurd H (by simp)
          · rw [if_neg c11] at H
            exact absurd H (by simp)
        · rw [if_neg c9] at H
          exact absurd H (by simp)
set_option maxHeartbeats 8000000 in
set_option maxRecDepth 100000 in
theorem slices_Clone_byte_byte.calls (A0 : Option Addr) (c0 : Nat) (l0 : List Int) (r : List Int) (w : World) (hr0 : Kd.C (Kd.int .u8) w A0 l0.length l0) (hc0 : l0.length ≤ c0) (h : slices_Clone_byte_byte.f l0 = some r) :
    Calls Tryd.prog 46 #[.slice A0 l0.length c0] w fun e w' => ∃ v0_ : Value, e = .returned (v0_) ∧ Kd.R (Kd.int .u8) 5 w' w.heap.size (fun _ => True) v0_ r ∧ Below w.heap.size w w' := by
  have HR0 := Aside0.mk hr0
  have HC0 := Aside0.mk hc0
  clear hr0 hc0
  have HB := Aside0.mk (Below.refl w.heap.size w)
  cases A0 with
  | none =>
    have e0 : l0 = [] := by
      cases l0 with
      | nil => rfl
      | cons a t => obtain ⟨ad, h1, _⟩ := HR0.out.2.2 (by simp); cases h1
    have H : ((some (([] : List Int) : List Int)).bind fun y223 => (if y223.length + l0.length < 140737488355328 then (some (y223 ++ l0)) else (none))) = some r := h
    subst e0
    have e1 : r = [] := by simpa using H.symm
    subst e1
    have qn : ∀ (w : World) (n c n' c' : Nat), (binOp .eql 22 (.slice none n c) (.slice none n' c')).run Tryd.prog w = .ok (.bool true) w := fun w n c n' c' => Lib.run_eql_slice_nil w _ _ _ n c n' c' Tryd.underlying22
    go_enter Tryd.func46, Tryd.ntmps46
    go_wp2
    go_ret
    exact ⟨_, rfl, Kd.R_nil _ _ _ _ _, Below.refl _ _⟩
  | some ad =>
    have qn : ∀ (w : World) (n c n' c' : Nat), (binOp .eql 22 (.slice (some ad) n c) (.slice none n' c')).run Tryd.prog w = .ok (.bool false) w := fun w n c n' c' => Lib.run_eql_slice_nil w _ _ _ n c n' c' Tryd.underlying22
    have H : ((some (([] : List Int) : List Int)).bind fun y223 => (if y223.length + l0.length < 140737488355328 then (some (y223 ++ l0)) else (none))) = some r := h
    clear h
    obtain ⟨y223, hy223⟩ : ∃ y_ : List Int, y_ = (([] : List Int)) := ⟨_, rfl⟩
    replace H : (if y223.length + l0.length < 140737488355328 then (some (y223 ++ l0)) else (none)) = some r := by first | (rw [hy223]; with_reducible exact H) | (have H2_ := (Option.bind_some _ _).symm.trans H; rw [hy223]; with_reducible exact H2_) | (have H2_ := (Option.bind_some _ _).symm.trans H; with_reducible exact H2_) | with_reducible exact H | (rw [hy223]; exact H) | exact H
    have Ny223 := Aside0.mk hy223
    clear hy223
    by_cases c2 : y223.length + l0.length < 140737488355328
    · rw [if_pos c2] at H
      have LMc2 := Aside0.mk c2
      clear c2
      obtain ⟨y226, hy226⟩ : ∃ y_ : List Int, y_ = (y223 ++ l0) := ⟨_, rfl⟩
      replace H : (some y226) = some r := by first | (rw [hy226]; with_reducible exact H) | (have H2_ := (Option.bind_some _ _).symm.trans H; rw [hy226]; with_reducible exact H2_) | (have H2_ := (Option.bind_some _ _).symm.trans H; with_reducible exact H2_) | with_reducible exact H | (rw [hy226]; exact H) | exact H
      have Ny226 := Aside0.mk hy226
      clear hy226
      obtain rfl := Option.some.inj H
      go_enter Tryd.func46, Tryd.ntmps46
      go_wp2_with (first | ((with_reducible refine gate_dst (N := 5) rfl ?_); refine Kd.R_lit (Kd.int .u8) _ 5 ?hg (N := 5) ?hd (xs := ([] : List Int)) (inner := []) (ok := fun _ => True) (okp := fun _ => True) ?hr ?hp (fun _ hk => hk) trivial (Below.refl _ _) (Nat.le_refl _) (by simp) ?_; (case hd => rfl); (case hg => rfl); (case hr => first | (go_simp; done) | (go_simp; rfl)); (case hp => exact (Reps.none _ _)); intro v224 w3 ho4 hb hg_ hnew_; clear hg_ hnew_; (first | rw [← Ny223.out] at ho4 | (simp only [Int.reduceToNat] at ho4; rw [← Ny223.out] at ho4)); have n0_ := Aside0.mk (Kd.R_lower ho4 (below_size (by repeat (first | (with_reducible first | exact HB.out | apply below_alloc | apply pw_below_drewN | apply below_drew1) | exact HB.out)))); have n1_ := Aside0.mk (below_step (by repeat (first | (with_reducible first | exact HB.out | apply below_alloc | apply pw_below_drewN | apply below_drew1) | exact HB.out)) hb); clear HB; have HO225 := n0_; have HB := n1_; clear n0_ n1_; clear hb ho4) | ((with_reducible refine gate_builtin (b := .append) (xs := #[.tmp 5, .tmp 6]) rfl ?_); at_builtin; refine Kd.R_append_rows (Kd.int .u8) (w0 := w) w.heap.size rfl (.tmp 5) (.tmp 6) 22 5 (.int .u8 0) 1 rfl Tryd.underlying22 info5 rfl (by decide) (by omega) v224 y223 l0 _ _ _ (fun _ => True) (fun _ => False) rfl rfl ?aO ?aR (fun _ _ h => h) (fun _ h => h.elim) ?aF ?aB ?aS ?aL ?_; (case aR => repeat (first | exact (Kd.C_below HR0.out HB.out) | (with_reducible refine Kd.C_alloc ?_ _) | (with_reducible refine Kd.C_drewN ?_ _) | (with_reducible refine Kd.C_drew ?_))); (case aB => exact (by repeat (first | (with_reducible first | exact HB.out | apply below_alloc | apply pw_below_drewN | apply below_drew1) | exact HB.out))); (case aF => exact (fun _ _ => trivial)); (case aO => exact (by (with_reducible repeat (first | apply Kd.R_alloc | apply Kd.R_drewN | apply Kd.R_drew)); exact HO225.out)); (case aS => exact (below_size (by repeat (first | (with_reducible first | exact HB.out | apply below_alloc | apply pw_below_drewN | apply below_drew1) | exact HB.out)))); (case aL => have := LMc2.out; omega); intro v227 w5 ho hb hg hat; rw [← Ny226.out] at ho; have n0_ := Aside0.mk (hb); have n1_ := Aside0.mk (ho); clear HB; clear HO225; have HB := n0_; have HO228 := n1_; clear n0_ n1_; clear ho hb hg hat))
      go_ret
      exact ⟨_, by first | rfl | (simp [errW_none, errW_some] <;> rfl) | (simp [*, errW_none, errW_some] <;> rfl), by (with_reducible repeat (first | apply Kd.R_alloc | apply Kd.R_drewN | apply Kd.R_drew)); exact HO228.out, by repeat (first | (with_reducible first | exact HB.out | apply below_alloc | apply pw_below_drewN | apply below_drew1) | exact HB.out)⟩
    · rw [if_neg c2] at H
      exact absurd H (by simp)
end Go.Proofs.YticofbaajdgabaaDoor.X

namespace Go.Proofs.YticofbaajdgabaaDoor.X
open Go.RowKit Go.Proofs.YticofbaajdgabaaDoorW.PrintWords Go.Proofs.YticofbaajdgabaaDoorW.PrintLast Go.Proofs.YticofbaajdgabaaDoorW.PrintMore
attribute [local go_sem] max2_int min2_int max_two min_two
set_option linter.unusedVariables false
set_option linter.unusedSimpArgs false
set_option maxHeartbeats 8000000 in
set_option maxRecDepth 100000 in
theorem isa_Encode.calls (k : Nat) (a0_0 : Int) (A0_1 : Option Addr) (c0_1 : Nat) (l0_1 : List Int) (r1 : List Int) (r2 : Bool) (w : World) (hLaid_ : LaidW w) (hr0_1 : Kd.C (Kd.int .i64) w A0_1 l0_1.length l0_1) (hc0_1 : l0_1.length ≤ c0_1) (h : isa_Encode.f k a0_0 l0_1 = some (r1, r2)) :
    Calls Tryd.prog 21 #[.agg #[.int .i64 a0_0, .slice A0_1 l0_1.length c0_1]] w fun e w' => ∃ v0_ : Value, e = .returned (.tuple #[v0_, .bool r2]) ∧ Kd.R (Kd.int .u8) 5 w' w.heap.size (fun _ => True) v0_ r1 ∧ Below w.heap.size w w' := by
  have hu28 := Tryd.underlying28
  have HR0_1 := Aside0.mk hr0_1
  have HC0_1 := Aside0.mk hc0_1
  clear hr0_1 hc0_1
  have HB := Aside0.mk (Below.refl w.heap.size w)
  have H : ((isa_code.f k a0_0 l0_1).bind fun bt230 => (if bt230.2 = true then ((some (([(bt230.1 / 16777216) % 256, (bt230.1 / 65536) % 256, (bt230.1 / 256) % 256, (bt230.1) % 256] : List Int) : List Int)).bind fun y232 => ((isa_Size.f a0_0).bind fun t235 => (if 0 ≤ (wrap64 (4 - t235)) then (if (wrap64 (4 - t235)) ≤ (y232.length : Int) then ((slices_Clone_byte_byte.f (y232.drop ((wrap64 (4 - t235)) : Int).toNat)).bind fun t240 => (some (t240, true))) else (none)) else (none)))) else (some (([] : List Int), false)))) = some (r1, r2) := h
  clear h
  replace H := Option.bind_eq_some_iff.mp H
  obtain ⟨⟨t230, t231⟩, A20, H⟩ := H
  replace H : (if t231 = true then ((some (([(t230 / 16777216) % 256, (t230 / 65536) % 256, (t230 / 256) % 256, (t230) % 256] : List Int) : List Int)).bind fun y232 => ((isa_Size.f a0_0).bind fun t235 => (if 0 ≤ (wrap64 (4 - t235)) then (if (wrap64 (4 - t235)) ≤ (y232.length : Int) then ((slices_Clone_byte_byte.f (y232.drop ((wrap64 (4 - t235)) : Int).toNat)).bind fun t240 => (some (t240, true))) else (none)) else (none)))) else (some (([] : List Int), false))) = some (r1, r2) := H
  have A2 := Aside0.mk A20
  clear A20
  by_cases c3 : t231 = true
  · subst c3
    have H1 : ((some (([(t230 / 16777216) % 256, (t230 / 65536) % 256, (t230 / 256) % 256, (t230) % 256] : List Int) : List Int)).bind fun y232 => ((isa_Size.f a0_0).bind fun t235 => (if 0 ≤ (wrap64 (4 - t235)) then (if (wrap64 (4 - t235)) ≤ (y232.length : Int) then ((slices_Clone_byte_byte.f (y232.drop ((wrap64 (4 - t235)) : Int).toNat)).bind fun t240 => (some (t240, true))) else (none)) else (none)))) = some (r1, r2) := by rw [if_pos rfl] at H; exact H
    clear H
    have H := H1
    clear H1
    obtain ⟨y232, hy232⟩ : ∃ y_ : List Int, y_ = (([(t230 / 16777216) % 256, (t230 / 65536) % 256, (t230 / 256) % 256, (t230) % 256] : List Int)) := ⟨_, rfl⟩
    replace H : ((isa_Size.f a0_0).bind fun t235 => (if 0 ≤ (wrap64 (4 - t235)) then (if (wrap64 (4 - t235)) ≤ (y232.length : Int) then ((slices_Clone_byte_byte.f (y232.drop ((wrap64 (4 - t235)) : Int).toNat)).bind fun t240 => (some (t240, true))) else (none)) else (none))) = some (r1, r2) := by first | (rw [hy232]; with_reducible exact H) | (have H2_ := (Option.bind_some _ _).symm.trans H; rw [hy232]; with_reducible exact H2_) | (have H2_ := (Option.bind_some _ _).symm.trans H; with_reducible exact H2_) | with_reducible exact H | (rw [hy232]; exact H) | exact H
    have Ny232 := Aside0.mk hy232
    clear hy232
    replace H := Option.bind_eq_some_iff.mp H
    obtain ⟨t235, A40, H⟩ := H
    replace H : (if 0 ≤ (wrap64 (4 - t235)) then (if (wrap64 (4 - t235)) ≤ (y232.length : Int) then ((slices_Clone_byte_byte.f (y232.drop ((wrap64 (4 - t235)) : Int).toNat)).bind fun t240 => (some (t240, true))) else (none)) else (none)) = some (r1, r2) := H
    have A4 := Aside0.mk A40
    clear A40
    obtain ⟨ji5, hji5⟩ : ∃ j_ : Int, (wrap64 (4 - t235)) = j_ := ⟨_, rfl⟩
    replace H : (if 0 ≤ (ji5) then (if (ji5) ≤ (y232.length : Int) then ((slices_Clone_byte_byte.f (y232.drop ((ji5) : Int).toNat)).bind fun t240 => (some (t240, true))) else (none)) else (none)) = some (r1, r2) := by first | (rw [hji5] at H; exact H) | (simp only [hji5] at H ⊢; exact H)
    (try rw [hji5] at A2)
    (try rw [hji5] at A4)
    have hji5w : (IntKind.i64.wrap (4 - t235)) = ji5 := (i64_w _).trans hji5
    by_cases c6 : 0 ≤ (ji5)
    · rw [if_pos c6] at H
      have c6b0 := eq_true c6
      have c6b1 : decide (0 ≤ (ji5)) = true := decide_eq_true c6
      clear c6
      by_cases c7 : (ji5) ≤ (y232.length : Int)
      · rw [if_pos c7] at H
        have c7b0 := eq_true c7
        have c7b1 : decide ((ji5) ≤ (y232.length : Int)) = true := decide_eq_true c7
        clear c7
        obtain ⟨y236, hy236⟩ : ∃ y_ : List Int, y_ = (y232.drop ((ji5) : Int).toNat) := ⟨_, rfl⟩
        replace H : ((slices_Clone_byte_byte.f y236).bind fun t240 => (some (t240, true))) = some (r1, r2) := by first | (rw [hy236]; with_reducible exact H) | (have H2_ := (Option.bind_some _ _).symm.trans H; rw [hy236]; with_reducible exact H2_) | (have H2_ := (Option.bind_some _ _).symm.trans H; with_reducible exact H2_) | with_reducible exact H | (rw [hy236]; exact H) | exact H
        have Ny236 := Aside0.mk hy236
        clear hy236
        replace H := Option.bind_eq_some_iff.mp H
        obtain ⟨t240, A80, H⟩ := H
        replace H : (some (t240, true)) = some (r1, r2) := H
        have A8 := Aside0.mk A80
        clear A80
        simp only [Option.some.injEq, Prod.mk.injEq] at H
        obtain ⟨rfl, rfl⟩ := H
        go_enter Tryd.func21, Tryd.ntmps21
        go_wp2_with (first | ((with_reducible refine gate_dst (N := 1) rfl ?_); refine box_event ?hg (N := 1) ?hd (cs := #[.int .i64 a0_0, .slice A0_1 l0_1.length c0_1]) (t := 28) ?hr ?_; (case hd => rfl); (case hg => rfl); (case hr => first | (go_simp; done) | (go_simp; rfl)); intro gb229 hg w9 hbox hb; have n0_ := Aside0.mk (below_step (by repeat (first | (with_reducible first | exact HB.out | apply below_alloc | apply pw_below_drewN | apply below_drew1) | exact HB.out)) hb); have n1_ := Aside0.mk (hbox); have n2_ := Aside0.mk ((by rw [hg]; exact (below_size (by repeat (first | (with_reducible first | exact HB.out | apply below_alloc | apply pw_below_drewN | apply below_drew1) | exact HB.out))) : w.heap.size ≤ gb229)); have n3_ := Aside0.mk ((by rw [hg]; exact (below_size (by repeat (first | (with_reducible first | exact HB.out | apply below_alloc | apply pw_below_drewN | apply below_drew1) | exact HB.out))) : w.heap.size ≤ gb229)); clear HB; have HB := n0_; have BK229 := n1_; have GW229 := n2_; have GE229 := n3_; clear n0_ n1_ n2_ n3_; clear hb hbox hg; have hcz10_0 : w9.cell? ⟨gb229, 0, none⟩ = some (.int .i64 a0_0) := (blk_cell BK229.out 0).trans rfl; have hcz10_1 : w9.cell? ⟨gb229, 1, none⟩ = some (.slice A0_1 l0_1.length c0_1) := (blk_cell BK229.out 1).trans rfl; have hfz10_0 := blk_frozen BK229.out 0; have hfz10_1 := blk_frozen BK229.out 1) | ((with_reducible refine gate_callee (f := 43) rfl ?_); refine goesL_ (some 9) rfl rfl Tryd.func43 (by kernel_rfl) rfl #[.agg #[.int .i64 a0_0, .slice A0_1 l0_1.length c0_1]] rfl (by (try simp only [List.map_toArray, List.map_cons, List.map_nil]); first | done | rfl | (simp only [List.length_drop, List.length_take]; rfl)) ?_; (with_reducible refine (isa_code.calls k a0_0 _ _ l0_1 t230 true _ ?side1 ?side2 ?side3 A2.out).mono ?_); (case side1 => exact LaidW.below hLaid_ (by repeat (first | (with_reducible first | exact HB.out | apply below_alloc | apply pw_below_drewN | apply below_drew1 | refine below_set ?_ GE229.out) | exact HB.out))); (case side2 => repeat (first | exact (Kd.C_below HR0_1.out HB.out) | (with_reducible refine Kd.C_alloc ?_ _) | (with_reducible refine Kd.C_drewN ?_ _) | (with_reducible refine Kd.C_drew ?_))); (case side3 => exact HC0_1.out); rintro e w11 ⟨rfl, hb⟩; refine ⟨_, rfl, ?_⟩; have n0_ := Aside0.mk (blk_below (g := gb229) (o := .cells #[.int .i64 a0_0, .slice A0_1 l0_1.length c0_1] 28 (0, 0)) (by (with_reducible repeat (first | refine blk_drewN ?_ _ | refine blk_drew ?_ | refine blk_alloc ?_ _)); exact BK229.out) hb); have n1_ := Aside0.mk (below_step (by repeat (first | (with_reducible first | exact HB.out | apply below_alloc | apply pw_below_drewN | apply below_drew1 | refine below_set ?_ GE229.out) | exact HB.out)) hb); clear BK229; clear HB; have BK229 := n0_; have HB := n1_; clear n0_ n1_; (try clear hb); (try clear hb2); (try clear hk); (try clear hi)) | ((with_reducible refine gate_dst (N := 25) rfl ?_); refine Kd.R_lit (Kd.int .u8) _ 5 ?hg (N := 25) ?hd (xs := ([(t230 / 16777216) % 256, (t230 / 65536) % 256, (t230 / 256) % 256, (t230) % 256] : List Int)) (inner := [.int .u8 ((t230 / 16777216) % 256), .int .u8 ((t230 / 65536) % 256), .int .u8 ((t230 / 256) % 256), .int .u8 ((t230) % 256)]) (ok := fun _ => True) (okp := fun _ => True) ?hr ?hp (fun _ hk => hk) trivial (Below.refl _ _) (Nat.le_refl _) (by simp) ?_; (case hd => rfl); (case hg => rfl); (case hr => first | (go_simp; done) | (go_simp; rfl)); (case hp => exact (Reps.one (show Kd.M (Kd.int .u8) _ _ _ ((t230 / 16777216) % 256) [.int .u8 ((t230 / 16777216) % 256)] from rfl) (Reps.one (show Kd.M (Kd.int .u8) _ _ _ ((t230 / 65536) % 256) [.int .u8 ((t230 / 65536) % 256)] from rfl) (Reps.one (show Kd.M (Kd.int .u8) _ _ _ ((t230 / 256) % 256) [.int .u8 ((t230 / 256) % 256)] from rfl) (Reps.one (show Kd.M (Kd.int .u8) _ _ _ ((t230) % 256) [.int .u8 ((t230) % 256)] from rfl) (Reps.none _ _)))))); intro v233 w12 ho13 hb hg_ hnew_; clear hg_ hnew_; (first | rw [← Ny232.out] at ho13 | (simp only [Int.reduceToNat] at ho13; rw [← Ny232.out] at ho13)); have n0_ := Aside0.mk (Kd.R_lower ho13 (below_size (by repeat (first | (with_reducible first | exact HB.out | apply below_alloc | apply pw_below_drewN | apply below_drew1 | refine below_set ?_ GE229.out) | exact HB.out)))); have n1_ := Aside0.mk (blk_below (g := gb229) (o := .cells #[.int .i64 a0_0, .slice A0_1 l0_1.length c0_1] 28 (0, 0)) (by (with_reducible repeat (first | refine blk_drewN ?_ _ | refine blk_drew ?_ | refine blk_alloc ?_ _)); exact BK229.out) hb); have n2_ := Aside0.mk (below_step (by repeat (first | (with_reducible first | exact HB.out | apply below_alloc | apply pw_below_drewN | apply below_drew1 | refine below_set ?_ GE229.out) | exact HB.out)) hb); clear BK229; clear HB; have HO234 := n0_; have BK229 := n1_; have HB := n2_; clear n0_ n1_ n2_; clear hb ho13; have hcz14_0 : w12.cell? ⟨gb229, 0, none⟩ = some (.int .i64 a0_0) := (blk_cell BK229.out 0).trans rfl; have hcz14_1 : w12.cell? ⟨gb229, 1, none⟩ = some (.slice A0_1 l0_1.length c0_1) := (blk_cell BK229.out 1).trans rfl; have hfz14_0 := blk_frozen BK229.out 0; have hfz14_1 := blk_frozen BK229.out 1) | ((with_reducible refine gate_callee (f := 22) rfl ?_); refine goesL_ (some 29) rfl rfl Tryd.func22 (by kernel_rfl) rfl #[.int .i64 a0_0] rfl (by (try simp only [List.map_toArray, List.map_cons, List.map_nil]); first | done | rfl | (simp only [List.length_drop, List.length_take]; rfl)) ?_; (with_reducible refine (isa_Size.calls a0_0 t235 _ A4.out).mono ?_); rintro e w15 ⟨rfl, hb⟩; refine ⟨_, rfl, ?_⟩; have n0_ := Aside0.mk (Kd.R_below (by (with_reducible repeat (first | apply Kd.R_alloc | apply Kd.R_drewN | apply Kd.R_drew)); exact HO234.out) hb); have n1_ := Aside0.mk (blk_below (g := gb229) (o := .cells #[.int .i64 a0_0, .slice A0_1 l0_1.length c0_1] 28 (0, 0)) (by (with_reducible repeat (first | refine blk_drewN ?_ _ | refine blk_drew ?_ | refine blk_alloc ?_ _)); exact BK229.out) hb); have n2_ := Aside0.mk (below_step (by repeat (first | (with_reducible first | exact HB.out | apply below_alloc | apply pw_below_drewN | apply below_drew1 | refine below_set ?_ GE229.out) | exact HB.out)) hb); clear HO234; clear BK229; clear HB; have HO234 := n0_; have BK229 := n1_; have HB := n2_; clear n0_ n1_ n2_; (try clear hb); (try clear hb2); (try clear hk); (try clear hi); obtain ⟨Ao17, co17, eo17⟩ := Kd.R_slice HO234.out; subst eo17; have q16 : ((ji5) : Int) ≤ ((y232.length : Int) : Int) := of_decide_eq_true (by first | (with_reducible assumption) | assumption); obtain ⟨i016, hi016, _, hsz16, _⟩ := info_parts info5; have hroom16 : y232.length ≤ co17 := (Kd.R_reads' HO234.out).2.1; have hC16 : Kd.C (Kd.int .u8) _ Ao17 y232.length y232 := (Kd.R_reads' HO234.out).2.2; have q016 : (0 : Int) ≤ ((ji5) : Int) := of_decide_eq_true (by first | (with_reducible assumption) | assumption); have hcut16 := cut_from (P := Tryd.prog) 22 5 .i64 Tryd.underlying22 hi016 1 hsz16 Ao17 y232.length co17 (ji5) q016 q16; have hr16 := Kd.C_drop (m := ((ji5) : Int).toNat) (c := co17) hC16 (by omega) hroom16; obtain ⟨A16, hA16⟩ : ∃ A1, A1 = (if co17 = ((ji5) : Int).toNat then Ao17 else (Ao17 : Option Addr).map (·.add (((ji5) : Int).toNat * 1))) := ⟨_, rfl⟩; obtain ⟨c16, hc16⟩ : ∃ c1, c1 = co17 - ((ji5) : Int).toNat := ⟨_, rfl⟩; have hy16 : y236.length = y232.length - ((ji5) : Int).toNat := (by rw [Ny236.out, List.length_drop] <;> omega); rw [show (y232).drop ((ji5) : Int).toNat = y236 from Ny236.out.symm] at hr16; replace hr16 : Kd.C (Kd.int .u8) _ A16 y236.length y236 := (by rw [hA16]; exact hr16); rw [← hy16, ← hA16, ← hc16] at hcut16; have HR239 := Aside0.mk hr16; have HC239 := Aside0.mk (show y236.length ≤ c16 from by rw [hy16, hc16]; exact Nat.sub_le_sub_right hroom16 _); clear hr16 hC16 hroom16 hi016 hsz16 hc16; have KY16 := Aside0.mk hy16; have KA16 := Aside0.mk hA16; clear hy16 hA16; have KL16 := Aside0.mk (show ((ji5) : Int).toNat ≤ y232.length from by omega); replace q16 := eq_true q16) | ((with_reducible refine gate_callee (f := 46) rfl ?_); refine goesL_ (some 32) rfl rfl Tryd.func46 (by kernel_rfl) rfl #[.slice A16 y236.length c16] rfl (by (try simp only [List.map_toArray, List.map_cons, List.map_nil]); first | done | rfl | (simp only [List.length_drop, List.length_take]; rfl)) ?_; (with_reducible refine (slices_Clone_byte_byte.calls _ _ y236 t240 _ ?side1 ?side2 A8.out).mono ?_); (case side1 => repeat (first | exact (by repeat (first | (with_reducible exact HR239.out) | (with_reducible refine Kd.C_alloc ?_ _) | (with_reducible refine Kd.C_drewN ?_ _) | (with_reducible refine Kd.C_drew ?_) | exact HR239.out)) | (with_reducible refine Kd.C_alloc ?_ _) | (with_reducible refine Kd.C_drewN ?_ _) | (with_reducible refine Kd.C_drew ?_))); (case side2 => exact HC239.out); rintro e w18 ⟨v241, rfl, ho0, hb⟩; refine ⟨_, rfl, ?_⟩; have n0_ := Aside0.mk (Kd.R_elder' (by (with_reducible repeat (first | apply Kd.R_alloc | apply Kd.R_drewN | apply Kd.R_drew)); exact HO234.out) (Kd.R_base ho0) hb); have n1_ := Aside0.mk (Kd.R_lower (Kd.R_new' ho0 (Kd.R_lt (by (with_reducible repeat (first | apply Kd.R_alloc | apply Kd.R_drewN | apply Kd.R_drew)); exact HO234.out))) (below_size (by repeat (first | (with_reducible first | exact HB.out | apply below_alloc | apply pw_below_drewN | apply below_drew1 | refine below_set ?_ GE229.out) | exact HB.out)))); have n2_ := Aside0.mk (blk_below (g := gb229) (o := .cells #[.int .i64 a0_0, .slice A0_1 l0_1.length c0_1] 28 (0, 0)) (by (with_reducible repeat (first | refine blk_drewN ?_ _ | refine blk_drew ?_ | refine blk_alloc ?_ _)); exact BK229.out) hb); have n3_ := Aside0.mk (Kd.C_below (by repeat (first | (with_reducible exact HR239.out) | (with_reducible refine Kd.C_alloc ?_ _) | (with_reducible refine Kd.C_drewN ?_ _) | (with_reducible refine Kd.C_drew ?_) | exact HR239.out)) hb); have n4_ := Aside0.mk (below_step (by repeat (first | (with_reducible first | exact HB.out | apply below_alloc | apply pw_below_drewN | apply below_drew1 | refine below_set ?_ GE229.out) | exact HB.out)) hb); clear HO234; clear BK229; clear HR239; clear HB; have HO234 := n0_; have HO242 := n1_; have BK229 := n2_; have HR239 := n3_; have HB := n4_; clear n0_ n1_ n2_ n3_ n4_; (try clear hb); (try clear hb2); (try clear hk); (try clear hi); (try clear ho0)))
        go_ret2
        exact ⟨_, by first | rfl | (simp [errW_none, errW_some] <;> rfl) | (simp only [← hji5]; first | rfl | (simp [errW_none, errW_some] <;> rfl)) | (simp [*, errW_none, errW_some] <;> rfl), by (with_reducible repeat (first | apply Kd.R_alloc | apply Kd.R_drewN | apply Kd.R_drew)); exact Kd.R_mono HO242.out (fun _ hk => trivial), by repeat (first | (with_reducible first | exact HB.out | apply below_alloc | apply pw_below_drewN | apply below_drew1 | refine below_set ?_ GE229.out) | exact HB.out)⟩
      · rw [if_neg c7] at H
        exact absurd H (by simp)
    · rw [if_neg c6] at H
      exact absurd H (by simp)
  · replace c3 := Bool.eq_false_iff.mpr c3
    subst c3
    have H1 : (some (([] : List Int), false)) = some (r1, r2) := by rw [if_neg (show ¬ (false = true) by decide)] at H; exact H
    clear H
    have H := H1
    clear H1
    simp only [Option.some.injEq, Prod.mk.injEq] at H
    obtain ⟨rfl, rfl⟩ := H
    go_enter Tryd.func21, Tryd.ntmps21
    go_wp2_with (first | ((with_reducible refine gate_dst (N := 1) rfl ?_); refine box_event ?hg (N := 1) ?hd (cs := #[.int .i64 a0_0, .slice A0_1 l0_1.length c0_1]) (t := 28) ?hr ?_; (case hd => rfl); (case hg => rfl); (case hr => first | (go_simp; done) | (go_simp; rfl)); intro gb229 hg w19 hbox hb; have n0_ := Aside0.mk (below_step (by repeat (first | (with_reducible first | exact HB.out | apply below_alloc | apply pw_below_drewN | apply below_drew1) | exact HB.out)) hb); have n1_ := Aside0.mk (hbox); have n2_ := Aside0.mk ((by rw [hg]; exact (below_size (by repeat (first | (with_reducible first | exact HB.out | apply below_alloc | apply pw_below_drewN | apply below_drew1) | exact HB.out))) : w.heap.size ≤ gb229)); have n3_ := Aside0.mk ((by rw [hg]; exact (below_size (by repeat (first | (with_reducible first | exact HB.out | apply below_alloc | apply pw_below_drewN | apply below_drew1) | exact HB.out))) : w.heap.size ≤ gb229)); clear HB; have HB := n0_; have BK229 := n1_; have GW229 := n2_; have GE229 := n3_; clear n0_ n1_ n2_ n3_; clear hb hbox hg; have hcz20_0 : w19.cell? ⟨gb229, 0, none⟩ = some (.int .i64 a0_0) := (blk_cell BK229.out 0).trans rfl; have hcz20_1 : w19.cell? ⟨gb229, 1, none⟩ = some (.slice A0_1 l0_1.length c0_1) := (blk_cell BK229.out 1).trans rfl; have hfz20_0 := blk_frozen BK229.out 0; have hfz20_1 := blk_frozen BK229.out 1) | ((with_reducible refine gate_callee (f := 43) rfl ?_); refine goesL_ (some 9) rfl rfl Tryd.func43 (by kernel_rfl) rfl #[.agg #[.int .i64 a0_0, .slice A0_1 l0_1.length c0_1]] rfl (by (try simp only [List.map_toArray, List.map_cons, List.map_nil]); first | done | rfl | (simp only [List.length_drop, List.length_take]; rfl)) ?_; (with_reducible refine (isa_code.calls k a0_0 _ _ l0_1 t230 false _ ?side1 ?side2 ?side3 A2.out).mono ?_); (case side1 => exact LaidW.below hLaid_ (by repeat (first | (with_reducible first | exact HB.out | apply below_alloc | apply pw_below_drewN | apply below_drew1 | refine below_set ?_ GE229.out) | exact HB.out))); (case side2 => repeat (first | exact (Kd.C_below HR0_1.out HB.out) | (with_reducible refine Kd.C_alloc ?_ _) | (with_reducible refine Kd.C_drewN ?_ _) | (with_reducible refine Kd.C_drew ?_))); (case side3 => exact HC0_1.out); rintro e w21 ⟨rfl, hb⟩; refine ⟨_, rfl, ?_⟩; have n0_ := Aside0.mk (blk_below (g := gb229) (o := .cells #[.int .i64 a0_0, .slice A0_1 l0_1.length c0_1] 28 (0, 0)) (by (with_reducible repeat (first | refine blk_drewN ?_ _ | refine blk_drew ?_ | refine blk_alloc ?_ _)); exact BK229.out) hb); have n1_ := Aside0.mk (below_step (by repeat (first | (with_reducible first | exact HB.out | apply below_alloc | apply pw_below_drewN | apply below_drew1 | refine below_set ?_ GE229.out) | exact HB.out)) hb); clear BK229; clear HB; have BK229 := n0_; have HB := n1_; clear n0_ n1_; (try clear hb); (try clear hb2); (try clear hk); (try clear hi)))
    go_ret2
    exact ⟨_, by first | rfl | (simp [errW_none, errW_some] <;> rfl) | (simp [*, errW_none, errW_some] <;> rfl), by first | exact Kd.R_nil _ _ _ _ _ | exact Kd.N_nil _ _ _ _ _ | exact Kd.V_nil _ _ _ _ _ | exact Kd.Q_nil _ _ _ _ _ | exact Kd.S_nil _ _ _ _ _, by repeat (first | (with_reducible first | exact HB.out | apply below_alloc | apply pw_below_drewN | apply below_drew1 | refine below_set ?_ GE229.out) | exact HB.out)⟩
set_option maxHeartbeats 8000000 in
set_option maxRecDepth 100000 in
theorem isa_row_operands.calls (a0_0 : ByteArray) (a0_1 : Int) (a0_2 : ByteArray) (r : ByteArray) (w : World) (h : isa_row_operands.f a0_0 a0_1 a0_2 = some r) :
    Calls Tryd.prog 49 #[.agg #[.string a0_0, .int .u32 a0_1, .string a0_2]] w fun e w' => e = .returned (.string r) ∧ Below w.heap.size w w' := by
  have hu68 := Tryd.underlying68
  have HB := Aside0.mk (Below.refl w.heap.size w)
  have H : (some a0_2) = some r := h
  clear h
  obtain rfl := Option.some.inj H
  go_enter Tryd.func49, Tryd.ntmps49
  go_wp2_with (first | ((with_reducible refine gate_dst (N := 1) rfl ?_); refine box_event ?hg (N := 1) ?hd (cs := #[.string a0_0, .int .u32 a0_1, .string a0_2]) (t := 68) ?hr ?_; (case hd => rfl); (case hg => rfl); (case hr => first | (go_simp; done) | (go_simp; rfl)); intro gb243 hg w2 hbox hb; have n0_ := Aside0.mk (below_step (by repeat (first | (with_reducible first | exact HB.out | apply below_alloc | apply pw_below_drewN | apply below_drew1) | exact HB.out)) hb); have n1_ := Aside0.mk (hbox); have n2_ := Aside0.mk ((by rw [hg]; exact (below_size (by repeat (first | (with_reducible first | exact HB.out | apply below_alloc | apply pw_below_drewN | apply below_drew1) | exact HB.out))) : w.heap.size ≤ gb243)); have n3_ := Aside0.mk ((by rw [hg]; exact (below_size (by repeat (first | (with_reducible first | exact HB.out | apply below_alloc | apply pw_below_drewN | apply below_drew1) | exact HB.out))) : w.heap.size ≤ gb243)); clear HB; have HB := n0_; have BK243 := n1_; have GW243 := n2_; have GE243 := n3_; clear n0_ n1_ n2_ n3_; clear hb hbox hg; have hcz3_0 : w2.cell? ⟨gb243, 0, none⟩ = some (.string a0_0) := (blk_cell BK243.out 0).trans rfl; have hcz3_1 : w2.cell? ⟨gb243, 1, none⟩ = some (.int .u32 a0_1) := (blk_cell BK243.out 1).trans rfl; have hcz3_2 : w2.cell? ⟨gb243, 2, none⟩ = some (.string a0_2) := (blk_cell BK243.out 2).trans rfl; have hfz3_0 := blk_frozen BK243.out 0; have hfz3_1 := blk_frozen BK243.out 1; have hfz3_2 := blk_frozen BK243.out 2))
  go_ret
  exact ⟨by first | rfl | (simp [errW_none, errW_some] <;> rfl) | (simp [*, errW_none, errW_some] <;> rfl), by repeat (first | (with_reducible first | exact HB.out | apply below_alloc | apply pw_below_drewN | apply below_drew1 | refine below_set ?_ GE243.out) | exact HB.out)⟩
set_option maxHeartbeats 8000000 in
set_option maxRecDepth 100000 in
theorem isa_of_string_48__isa_row_operands.calls (a0 : Int)  (r : ByteArray) (w : World) (h : isa_of_string_48__isa_row_operands.f a0 = some r) :
    Calls Tryd.prog 48 #[.int .i64 a0, .func (.func 49) #[] #[]] w fun e w' => e = .returned (.string r) ∧ Below w.heap.size w w' := by
  have hu68 := Tryd.underlying68
  have HB := Aside0.mk (Below.refl w.heap.size w)
  have H : ((isa_table.f).bind fun t244 => (if a0 ≥ 0 then (if a0 < (t244.length : Int) then (if 0 ≤ a0 then ((isa_row_operands.f ((rd_T68 t244 a0).f0) ((rd_T68 t244 a0).f1) ((rd_T68 t244 a0).f2)).bind fun t248 => (some t248)) else (none)) else (some (⟨#[]⟩ : ByteArray))) else (some (⟨#[]⟩ : ByteArray)))) = some r := h
  clear h
  replace H := Option.bind_eq_some_iff.mp H
  obtain ⟨t244, A30, H⟩ := H
  replace H : (if a0 ≥ 0 then (if a0 < (t244.length : Int) then (if 0 ≤ a0 then ((isa_row_operands.f ((rd_T68 t244 a0).f0) ((rd_T68 t244 a0).f1) ((rd_T68 t244 a0).f2)).bind fun t248 => (some t248)) else (none)) else (some (⟨#[]⟩ : ByteArray))) else (some (⟨#[]⟩ : ByteArray))) = some r := H
  have A3 := Aside0.mk A30
  clear A30
  by_cases c4 : a0 ≥ 0
  · rw [if_pos c4] at H
    have c4b0 : decide (0 ≤ a0) = true := decide_eq_true c4
    clear c4
    by_cases c5 : a0 < (t244.length : Int)
    · rw [if_pos c5] at H
      have c5b0 : decide (a0 < (t244.length : Int)) = true := decide_eq_true c5
      clear c5
      by_cases c6 : 0 ≤ a0
      · rw [if_pos c6] at H
        have c6b0 : decide (0 ≤ a0) = true := decide_eq_true c6
        clear c6
        replace H := Option.bind_eq_some_iff.mp H
        obtain ⟨t248, A70, H⟩ := H
        replace H : (some t248) = some r := H
        have A7 := Aside0.mk A70
        clear A70
        obtain rfl := Option.some.inj H
        go_enter Tryd.func48, Tryd.ntmps48
        go_wp2_with (first | ((with_reducible refine gate_callee (f := 39) rfl ?_); refine goesL_ (some 6) rfl rfl Tryd.func39 (by kernel_rfl) rfl #[] rfl (by (try simp only [List.map_toArray, List.map_cons, List.map_nil]); first | done | rfl | (simp only [List.length_drop, List.length_take]; rfl)) ?_; (with_reducible refine (isa_table.calls  t244 _ A3.out).mono ?_); rintro e w8 ⟨v245, rfl, ho0, hb⟩; refine ⟨_, rfl, ?_⟩; have n0_ := Aside0.mk (Kd.R_lower ho0 (below_size (by repeat (first | (with_reducible first | exact HB.out | apply below_alloc | apply pw_below_drewN | apply below_drew1) | exact HB.out)))); have n1_ := Aside0.mk (below_step (by repeat (first | (with_reducible first | exact HB.out | apply below_alloc | apply pw_below_drewN | apply below_drew1) | exact HB.out)) hb); clear HB; have HO246 := n0_; have HB := n1_; clear n0_ n1_; (try clear hb); (try clear hb2); (try clear hk); (try clear hi); (try clear ho0); obtain ⟨Ao9, co9, eo9⟩ := Kd.R_slice HO246.out; subst eo9; have p247 : 0 ≤ (a0 : Int) := of_decide_eq_true (by first | (with_reducible assumption) | assumption); have q247 : a0 < (t244.length : Int) := of_decide_eq_true (by first | (with_reducible assumption) | assumption); obtain ⟨ad247, e247, hx247_0, hx247_1, hx247_2⟩ := at_T68 (Kd.R_reads' HO246.out).2.2 a0 p247 q247; cases e247; replace p247 := eq_true p247; replace q247 := eq_true q247) | (go_at_call 49; (with_reducible refine (isa_row_operands.calls ((rd_T68 t244 a0).f0) ((rd_T68 t244 a0).f1) ((rd_T68 t244 a0).f2) t248 _ A7.out).mono ?_); rintro e w10 ⟨rfl, hb⟩; have n0_ := Aside0.mk (Kd.R_below (by (with_reducible repeat (first | apply Kd.R_alloc | apply Kd.R_drewN | apply Kd.R_drew)); exact HO246.out) hb); have n1_ := Aside0.mk (below_step (by repeat (first | (with_reducible first | exact HB.out | apply below_alloc | apply pw_below_drewN | apply below_drew1) | exact HB.out)) hb); clear HO246; clear HB; have HO246 := n0_; have HB := n1_; clear n0_ n1_; (try clear hb); (try clear hb2); (try clear hk); (try clear hi)))
        go_ret
        exact ⟨by first | rfl | (simp [errW_none, errW_some] <;> rfl) | (simp [*, errW_none, errW_some] <;> rfl), by repeat (first | (with_reducible first | exact HB.out | apply below_alloc | apply pw_below_drewN | apply below_drew1) | exact HB.out)⟩
      · rw [if_neg c6] at H
        exact absurd H (by simp)
    · rw [if_neg c5] at H
      have c5b0 : decide (a0 < (t244.length : Int)) = false := decide_eq_false c5
      clear c5
      obtain rfl := Option.some.inj H
      go_enter Tryd.func48, Tryd.ntmps48
      go_wp2_with (first | ((with_reducible refine gate_callee (f := 39) rfl ?_); refine goesL_ (some 6) rfl rfl Tryd.func39 (by kernel_rfl) rfl #[] rfl (by (try simp only [List.map_toArray, List.map_cons, List.map_nil]); first | done | rfl | (simp only [List.length_drop, List.length_take]; rfl)) ?_; (with_reducible refine (isa_table.calls  t244 _ A3.out).mono ?_); rintro e w11 ⟨v245, rfl, ho0, hb⟩; refine ⟨_, rfl, ?_⟩; have n0_ := Aside0.mk (Kd.R_lower ho0 (below_size (by repeat (first | (with_reducible first | exact HB.out | apply below_alloc | apply pw_below_drewN | apply below_drew1) | exact HB.out)))); have n1_ := Aside0.mk (below_step (by repeat (first | (with_reducible first | exact HB.out | apply below_alloc | apply pw_below_drewN | apply below_drew1) | exact HB.out)) hb); clear HB; have HO246 := n0_; have HB := n1_; clear n0_ n1_; (try clear hb); (try clear hb2); (try clear hk); (try clear hi); (try clear ho0); obtain ⟨Ao12, co12, eo12⟩ := Kd.R_slice HO246.out; subst eo12))
      go_ret
      exact ⟨by first | rfl | (simp [errW_none, errW_some] <;> rfl) | (simp [*, errW_none, errW_some] <;> rfl), by repeat (first | (with_reducible first | exact HB.out | apply below_alloc | apply pw_below_drewN | apply below_drew1) | exact HB.out)⟩
  · rw [if_neg c4] at H
    have c4b0 : decide (0 ≤ a0) = false := decide_eq_false c4
    clear c4
    obtain rfl := Option.some.inj H
    go_enter Tryd.func48, Tryd.ntmps48
    go_wp2_with (first | ((with_reducible refine gate_callee (f := 39) rfl ?_); refine goesL_ (some 6) rfl rfl Tryd.func39 (by kernel_rfl) rfl #[] rfl (by (try simp only [List.map_toArray, List.map_cons, List.map_nil]); first | done | rfl | (simp only [List.length_drop, List.length_take]; rfl)) ?_; (with_reducible refine (isa_table.calls  t244 _ A3.out).mono ?_); rintro e w13 ⟨v245, rfl, ho0, hb⟩; refine ⟨_, rfl, ?_⟩; have n0_ := Aside0.mk (Kd.R_lower ho0 (below_size (by repeat (first | (with_reducible first | exact HB.out | apply below_alloc | apply pw_below_drewN | apply below_drew1) | exact HB.out)))); have n1_ := Aside0.mk (below_step (by repeat (first | (with_reducible first | exact HB.out | apply below_alloc | apply pw_below_drewN | apply below_drew1) | exact HB.out)) hb); clear HB; have HO246 := n0_; have HB := n1_; clear n0_ n1_; (try clear hb); (try clear hb2); (try clear hk); (try clear hi); (try clear ho0)))
    go_ret
    exact ⟨by first | rfl | (simp [errW_none, errW_some] <;> rfl) | (simp [*, errW_none, errW_some] <;> rfl), by repeat (first | (with_reducible first | exact HB.out | apply below_alloc | apply pw_below_drewN | apply below_drew1) | exact HB.out)⟩
set_option maxHeartbeats 8000000 in
set_option maxRecDepth 100000 in
theorem isa_Kinds.calls (a0 : Int) (r : ByteArray) (w : World) (h : isa_Kinds.f a0 = some r) :
    Calls Tryd.prog 28 #[.int .i64 a0] w fun e w' => e = .returned (.string r) ∧ Below w.heap.size w w' := by
  have HB := Aside0.mk (Below.refl w.heap.size w)
  have H : ((isa_of_string_48__isa_row_operands.f a0).bind fun t249 => (some t249)) = some r := h
  clear h
  replace H := Option.bind_eq_some_iff.mp H
  obtain ⟨t249, A20, H⟩ := H
  replace H : (some t249) = some r := H
  have A2 := Aside0.mk A20
  clear A20
  obtain rfl := Option.some.inj H
  go_enter Tryd.func28, Tryd.ntmps28
  go_wp2_with (first | ((with_reducible refine gate_callee (f := 48) rfl ?_); refine goesL_ (some 4) rfl rfl Tryd.func48 (by kernel_rfl) rfl #[.int .i64 a0, .func (.func 49) #[] #[]] rfl (by (try simp only [List.map_toArray, List.map_cons, List.map_nil]); first | done | rfl | (simp only [List.length_drop, List.length_take]; rfl)) ?_; (with_reducible refine (isa_of_string_48__isa_row_operands.calls a0  t249 _ A2.out).mono ?_); rintro e w3 ⟨rfl, hb⟩; refine ⟨_, rfl, ?_⟩; have n0_ := Aside0.mk (below_step (by repeat (first | (with_reducible first | exact HB.out | apply below_alloc | apply pw_below_drewN | apply below_drew1) | exact HB.out)) hb); clear HB; have HB := n0_; clear n0_; (try clear hb); (try clear hb2); (try clear hk); (try clear hi)))
  go_ret
  exact ⟨by first | rfl | (simp [errW_none, errW_some] <;> rfl) | (simp [*, errW_none, errW_some] <;> rfl), by repeat (first | (with_reducible first | exact HB.out | apply below_alloc | apply pw_below_drewN | apply below_drew1) | exact HB.out)⟩
set_option maxHeartbeats 8000000 in
set_option maxRecDepth 100000 in
theorem letterpresslaw2_known.calls (k : Nat)  (r : Bool) (w : World) (hLaid_ : LaidW w) (h : letterpresslaw2_known.f k  = some r) :
    Calls Tryd.prog 14 #[] w fun e w' => e = .returned (.bool r) ∧ Below w.heap.size w w' := by
  have hu28 := Tryd.underlying28
  have HB := Aside0.mk (Below.refl w.heap.size w)
  have H : ((isa_Encode.f k 3 ([] : List Int)).bind fun bt250 => ((isa_Decode.f k (([0, 4, 9] : List Int))).bind fun bt257 => (if bt250.2 = true then (if (bt250.1.length : Int) = 2 then (if 1 < (bt250.1.length : Int) then (if (rd bt250.1 1) = 4 then (if bt257.2.2.2 = true then (if bt257.2.2.1 = 2 then (if bt257.1 = 3 then ((isa_Name.f 3).bind fun t265 => (if t265.toList = ([115, 101, 95, 98, 108, 114] : List UInt8) then ((isa_Kinds.f 15).bind fun t266 => (if t266.toList = ([88, 32, 89] : List UInt8) then ((isa_Size.f 48).bind fun t267 => (some (t267 == 4))) else (some false))) else (some false))) else (some false)) else (some false)) else (some false)) else (some false)) else (none)) else (some false)) else (some false)))) = some r := h
  clear h
  replace H := Option.bind_eq_some_iff.mp H
  obtain ⟨⟨t250, t253⟩, A10, H⟩ := H
  replace H : ((isa_Decode.f k (([0, 4, 9] : List Int))).bind fun bt257 => (if t253 = true then (if (t250.length : Int) = 2 then (if 1 < (t250.length : Int) then (if (rd t250 1) = 4 then (if bt257.2.2.2 = true then (if bt257.2.2.1 = 2 then (if bt257.1 = 3 then ((isa_Name.f 3).bind fun t265 => (if t265.toList = ([115, 101, 95, 98, 108, 114] : List UInt8) then ((isa_Kinds.f 15).bind fun t266 => (if t266.toList = ([88, 32, 89] : List UInt8) then ((isa_Size.f 48).bind fun t267 => (some (t267 == 4))) else (some false))) else (some false))) else (some false)) else (some false)) else (some false)) else (some false)) else (none)) else (some false)) else (some false))) = some r := H
  have A1 := Aside0.mk A10
  clear A10
  obtain ⟨y254, hy254⟩ : ∃ y_ : List Int, y_ = (([0, 4, 9] : List Int)) := ⟨_, rfl⟩
  replace H : ((isa_Decode.f k y254).bind fun bt257 => (if t253 = true then (if (t250.length : Int) = 2 then (if 1 < (t250.length : Int) then (if (rd t250 1) = 4 then (if bt257.2.2.2 = true then (if bt257.2.2.1 = 2 then (if bt257.1 = 3 then ((isa_Name.f 3).bind fun t265 => (if t265.toList = ([115, 101, 95, 98, 108, 114] : List UInt8) then ((isa_Kinds.f 15).bind fun t266 => (if t266.toList = ([88, 32, 89] : List UInt8) then ((isa_Size.f 48).bind fun t267 => (some (t267 == 4))) else (some false))) else (some false))) else (some false)) else (some false)) else (some false)) else (some false)) else (none)) else (some false)) else (some false))) = some r := by first | (rw [hy254]; with_reducible exact H) | (have H2_ := (Option.bind_some _ _).symm.trans H; rw [hy254]; with_reducible exact H2_) | (have H2_ := (Option.bind_some _ _).symm.trans H; with_reducible exact H2_) | with_reducible exact H | (rw [hy254]; exact H) | exact H
  have Ny254 := Aside0.mk hy254
  clear hy254
  replace H := Option.bind_eq_some_iff.mp H
  obtain ⟨⟨t257, t258, t261, t262⟩, A20, H⟩ := H
  replace H : (if t253 = true then (if (t250.length : Int) = 2 then (if 1 < (t250.length : Int) then (if (rd t250 1) = 4 then (if t262 = true then (if t261 = 2 then (if t257 = 3 then ((isa_Name.f 3).bind fun t265 => (if t265.toList = ([115, 101, 95, 98, 108, 114] : List UInt8) then ((isa_Kinds.f 15).bind fun t266 => (if t266.toList = ([88, 32, 89] : List UInt8) then ((isa_Size.f 48).bind fun t267 => (some (t267 == 4))) else (some false))) else (some false))) else (some false)) else (some false)) else (some false)) else (some false)) else (none)) else (some false)) else (some false)) = some r := H
  have A2 := Aside0.mk A20
  clear A20
  by_cases c3 : t253 = true
  · subst c3
    have H1 : (if (t250.length : Int) = 2 then (if 1 < (t250.length : Int) then (if (rd t250 1) = 4 then (if t262 = true then (if t261 = 2 then (if t257 = 3 then ((isa_Name.f 3).bind fun t265 => (if t265.toList = ([115, 101, 95, 98, 108, 114] : List UInt8) then ((isa_Kinds.f 15).bind fun t266 => (if t266.toList = ([88, 32, 89] : List UInt8) then ((isa_Size.f 48).bind fun t267 => (some (t267 == 4))) else (some false))) else (some false))) else (some false)) else (some false)) else (some false)) else (some false)) else (none)) else (some false)) = some r := by rw [if_pos rfl] at H; exact H
    clear H
    have H := H1
    clear H1
    by_cases c4 : (t250.length : Int) = 2
    · rw [if_pos c4] at H
      have c4b0 : ((t250.length : Int) == 2) = true := beq_iff_eq.mpr c4
      have c4b1 : ((t250.length : Int) != 2) = false := bne_eq_false_iff_eq.mpr c4
      clear c4
      by_cases c5 : 1 < (t250.length : Int)
      · rw [if_pos c5] at H
        have c5b0 : decide (1 < (t250.length : Int)) = true := decide_eq_true c5
        have c5b1 : decide (1 < t250.length) = true := decide_eq_true (by omega)
        clear c5
        by_cases c6 : (rd t250 1) = 4
        · rw [if_pos c6] at H
          have c6b0 : ((rd t250 1) == 4) = true := beq_iff_eq.mpr c6
          have c6b1 : ((rd t250 1) != 4) = false := bne_eq_false_iff_eq.mpr c6
          clear c6
          by_cases c7 : t262 = true
          · subst c7
            have H1 : (if t261 = 2 then (if t257 = 3 then ((isa_Name.f 3).bind fun t265 => (if t265.toList = ([115, 101, 95, 98, 108, 114] : List UInt8) then ((isa_Kinds.f 15).bind fun t266 => (if t266.toList = ([88, 32, 89] : List UInt8) then ((isa_Size.f 48).bind fun t267 => (some (t267 == 4))) else (some false))) else (some false))) else (some false)) else (some false)) = some r := by rw [if_pos rfl] at H; exact H
            clear H
            have H := H1
            clear H1
            by_cases c8 : t261 = 2
            · rw [if_pos c8] at H
              have c8b0 : (t261 == 2) = true := beq_iff_eq.mpr c8
              have c8b1 : (t261 != 2) = false := bne_eq_false_iff_eq.mpr c8
              clear c8
              by_cases c9 : t257 = 3
              · rw [if_pos c9] at H
                have c9b0 : (t257 == 3) = true := beq_iff_eq.mpr c9
                have c9b1 : (t257 != 3) = false := bne_eq_false_iff_eq.mpr c9
                clear c9
                replace H := Option.bind_eq_some_iff.mp H
                obtain ⟨t265, A100, H⟩ := H
                replace H : (if t265.toList = ([115, 101, 95, 98, 108, 114] : List UInt8) then ((isa_Kinds.f 15).bind fun t266 => (if t266.toList = ([88, 32, 89] : List UInt8) then ((isa_Size.f 48).bind fun t267 => (some (t267 == 4))) else (some false))) else (some false)) = some r := H
                have A10 := Aside0.mk A100
                clear A100
                by_cases c11 : t265.toList = ([115, 101, 95, 98, 108, 114] : List UInt8)
                · rw [if_pos c11] at H
                  have c11b0 : (t265.toList == ([115, 101, 95, 98, 108, 114] : List UInt8)) = true := beq_iff_eq.mpr c11
                  have c11b1 : (t265.toList != ([115, 101, 95, 98, 108, 114] : List UInt8)) = false := bne_eq_false_iff_eq.mpr c11
                  clear c11
                  replace H := Option.bind_eq_some_iff.mp H
                  obtain ⟨t266, A120, H⟩ := H
                  replace H : (if t266.toList = ([88, 32, 89] : List UInt8) then ((isa_Size.f 48).bind fun t267 => (some (t267 == 4))) else (some false)) = some r := H
                  have A12 := Aside0.mk A120
                  clear A120
                  by_cases c13 : t266.toList = ([88, 32, 89] : List UInt8)
                  · rw [if_pos c13] at H
                    have c13b0 : (t266.toList == ([88, 32, 89] : List UInt8)) = true := beq_iff_eq.mpr c13
                    have c13b1 : (t266.toList != ([88, 32, 89] : List UInt8)) = false := bne_eq_false_iff_eq.mpr c13
                    clear c13
                    replace H := Option.bind_eq_some_iff.mp H
                    obtain ⟨t267, A140, H⟩ := H
                    replace H : (some (t267 == 4)) = some r := H
                    have A14 := Aside0.mk A140
                    clear A140
                    obtain rfl := Option.some.inj H
                    go_enter Tryd.func14, Tryd.ntmps14
                    go_wp2_with (first | ((with_reducible refine gate_callee (f := 21) rfl ?_); refine goesL_ (some 8) rfl rfl Tryd.func21 (by kernel_rfl) rfl #[.agg #[.int .i64 3, .slice none 0 0]] rfl (by (try simp only [List.map_toArray, List.map_cons, List.map_nil]); first | done | rfl | (simp only [List.length_drop, List.length_take]; rfl)) ?_; (refine (isa_Encode.calls k 3 _ _ ([] : List Int) t250 true _ ?side1 ?side2 ?side3 A1.out).mono ?_); (case side1 => exact LaidW.below hLaid_ (by repeat (first | (with_reducible first | exact HB.out | apply below_alloc | apply pw_below_drewN | apply below_drew1) | exact HB.out))); (case side2 => exact Kd.C_nil _ _); (case side3 => exact Nat.le_refl _); rintro e w15 ⟨v251, rfl, ho0, hb⟩; refine ⟨_, rfl, ?_⟩; have n0_ := Aside0.mk (Kd.R_lower ho0 (below_size (by repeat (first | (with_reducible first | exact HB.out | apply below_alloc | apply pw_below_drewN | apply below_drew1) | exact HB.out)))); have n1_ := Aside0.mk (below_step (by repeat (first | (with_reducible first | exact HB.out | apply below_alloc | apply pw_below_drewN | apply below_drew1) | exact HB.out)) hb); clear HB; have HO252 := n0_; have HB := n1_; clear n0_ n1_; (try clear hb); (try clear hb2); (try clear hk); (try clear hi); (try clear ho0)) | ((with_reducible refine gate_dst (N := 12) rfl ?_); (try (refine gate_guard (by rfl) ?_; dsimp only)); refine Kd.R_lit (Kd.int .u8) _ 5 ?hg (N := 12) ?hd (xs := ([0, 4, 9] : List Int)) (inner := [.int .u8 0, .int .u8 4, .int .u8 9]) (ok := fun _ => True) (okp := fun _ => True) ?hr ?hp (fun _ hk => hk) trivial (Below.refl _ _) (Nat.le_refl _) (by simp) ?_; (case hd => rfl); (case hg => rfl); (case hr => first | (go_simp; done) | (go_simp; rfl)); (case hp => exact (Reps.one (show Kd.M (Kd.int .u8) _ _ _ 0 [.int .u8 0] from rfl) (Reps.one (show Kd.M (Kd.int .u8) _ _ _ 4 [.int .u8 4] from rfl) (Reps.one (show Kd.M (Kd.int .u8) _ _ _ 9 [.int .u8 9] from rfl) (Reps.none _ _))))); intro v255 w16 ho17 hb hg_ hnew_; clear hg_ hnew_; (first | rw [← Ny254.out] at ho17 | (simp only [Int.reduceToNat] at ho17; rw [← Ny254.out] at ho17)); have n0_ := Aside0.mk (Kd.R_elder' (by (with_reducible repeat (first | apply Kd.R_alloc | apply Kd.R_drewN | apply Kd.R_drew)); exact HO252.out) (Kd.R_base ho17) hb); have n1_ := Aside0.mk (Kd.R_lower (Kd.R_new' ho17 (Kd.R_lt (by (with_reducible repeat (first | apply Kd.R_alloc | apply Kd.R_drewN | apply Kd.R_drew)); exact HO252.out))) (below_size (by repeat (first | (with_reducible first | exact HB.out | apply below_alloc | apply pw_below_drewN | apply below_drew1) | exact HB.out)))); have n2_ := Aside0.mk (below_step (by repeat (first | (with_reducible first | exact HB.out | apply below_alloc | apply pw_below_drewN | apply below_drew1) | exact HB.out)) hb); clear HO252; clear HB; have HO252 := n0_; have HO256 := n1_; have HB := n2_; clear n0_ n1_ n2_; clear hb ho17; obtain ⟨Ao18, co18, eo18⟩ := Kd.R_slice HO256.out; subst eo18) | ((with_reducible refine gate_callee (f := 18) rfl ?_); refine goesL_ (some 13) rfl rfl Tryd.func18 (by kernel_rfl) rfl #[.slice Ao18 y254.length co18] rfl (by (try simp only [List.map_toArray, List.map_cons, List.map_nil]); first | done | rfl | (simp only [List.length_drop, List.length_take]; rfl)) ?_; (with_reducible refine (isa_Decode.calls k _ _ y254 t257 t258 t261 true _ ?side1 ?side2 ?side3 A2.out).mono ?_); (case side1 => exact LaidW.below hLaid_ (by repeat (first | (with_reducible first | exact HB.out | apply below_alloc | apply pw_below_drewN | apply below_drew1) | exact HB.out))); (case side2 => repeat (first | exact (Kd.R_reads' HO256.out).2.2 | (with_reducible refine Kd.C_alloc ?_ _) | (with_reducible refine Kd.C_drewN ?_ _) | (with_reducible refine Kd.C_drew ?_))); (case side3 => exact (Kd.R_reads' HO256.out).2.1); rintro e w19 ⟨v259, rfl, ho0, hb⟩; refine ⟨_, rfl, ?_⟩; have n0_ := Aside0.mk (Kd.R_below (by (with_reducible repeat (first | apply Kd.R_alloc | apply Kd.R_drewN | apply Kd.R_drew)); exact HO252.out) hb); have n1_ := Aside0.mk (Kd.R_below (by (with_reducible repeat (first | apply Kd.R_alloc | apply Kd.R_drewN | apply Kd.R_drew)); exact HO256.out) hb); have n2_ := Aside0.mk (Kd.R_lower ho0 (below_size (by repeat (first | (with_reducible first | exact HB.out | apply below_alloc | apply pw_below_drewN | apply below_drew1) | exact HB.out)))); have n3_ := Aside0.mk (below_step (by repeat (first | (with_reducible first | exact HB.out | apply below_alloc | apply pw_below_drewN | apply below_drew1) | exact HB.out)) hb); clear HO252; clear HO256; clear HB; have HO252 := n0_; have HO256 := n1_; have HO260 := n2_; have HB := n3_; clear n0_ n1_ n2_ n3_; (try clear hb); (try clear hb2); (try clear hk); (try clear hi); (try clear ho0)) | ((with_reducible refine gate_dst (N := 3) rfl ?_); (try (refine gate_guard (by rfl) ?_; dsimp only)); refine box_event ?hg (N := 3) ?hd (cs := #[.int .i64 0, .slice none 0 0]) (t := 28) ?hr ?_; (case hd => rfl); (case hg => rfl); (case hr => first | (go_simp; done) | (go_simp; rfl)); intro gb263 hg w20 hbox hb; have n0_ := Aside0.mk (Kd.R_below (by (with_reducible repeat (first | apply Kd.R_alloc | apply Kd.R_drewN | apply Kd.R_drew)); exact HO252.out) hb); have n1_ := Aside0.mk (Kd.R_below (by (with_reducible repeat (first | apply Kd.R_alloc | apply Kd.R_drewN | apply Kd.R_drew)); exact HO256.out) hb); have n2_ := Aside0.mk (Kd.R_below (by (with_reducible repeat (first | apply Kd.R_alloc | apply Kd.R_drewN | apply Kd.R_drew)); exact HO260.out) hb); have n3_ := Aside0.mk (below_step (by repeat (first | (with_reducible first | exact HB.out | apply below_alloc | apply pw_below_drewN | apply below_drew1) | exact HB.out)) hb); have n4_ := Aside0.mk (hbox); have n5_ := Aside0.mk ((by rw [hg]; exact (below_size (by repeat (first | (with_reducible first | exact HB.out | apply below_alloc | apply pw_below_drewN | apply below_drew1) | exact HB.out))) : w.heap.size ≤ gb263)); have n6_ := Aside0.mk ((by rw [hg]; exact (below_size (by repeat (first | (with_reducible first | exact HB.out | apply below_alloc | apply pw_below_drewN | apply below_drew1) | exact HB.out))) : w.heap.size ≤ gb263)); clear HO252; clear HO256; clear HO260; clear HB; have HO252 := n0_; have HO256 := n1_; have HO260 := n2_; have HB := n3_; have BK263 := n4_; have GW263 := n5_; have GE263 := n6_; clear n0_ n1_ n2_ n3_ n4_ n5_ n6_; clear hb hbox hg; have hcz21_0 : w20.cell? ⟨gb263, 0, none⟩ = some (.int .i64 0) := (blk_cell BK263.out 0).trans rfl; have hcz21_1 : w20.cell? ⟨gb263, 1, none⟩ = some (.slice none 0 0) := (blk_cell BK263.out 1).trans rfl; have hfz21_0 := blk_frozen BK263.out 0; have hfz21_1 := blk_frozen BK263.out 1; obtain ⟨Ao22, co22, eo22⟩ := Kd.R_slice HO260.out; subst eo22; obtain ⟨Ao23, co23, eo23⟩ := Kd.R_slice HO252.out; subst eo23; have p264 : 0 ≤ (1 : Int) := (by omega); have q264 : 1 < (t250.length : Int) := of_decide_eq_true (by first | (with_reducible assumption) | assumption); obtain ⟨ad264, e264, hx264_0⟩ := Kd.at_int (Kd.R_reads' HO252.out).2.2 1 p264 q264; cases e264; (try simp only [show (1 : Int).toNat = 1 from rfl, Nat.reduceMul, Nat.reduceEqDiff, Go.Addr.add, ↓reduceIte] at hx264_0); have qi264 : (1 < t250.length) = True := eq_true (by omega); (try rw [show ((1 : Int)).toNat = 1 from rfl] at hx264_0); have hn264_0 : ad264.block ≠ gb263 := Kd.own_blk (Kd.R_ne HO252.out BK263.out (by decide)); have hn264_1 : ad264.block ≠ gb263 := Kd.own_blk (Kd.R_ne HO252.out BK263.out (by decide)); replace hx264_0 := (cell_far (p := ⟨gb263, 0, none⟩) (by first | (rw [add_block]; exact hn264_0) | (show (Addr.add _ _).block ≠ _; rw [add_block]; exact hn264_0) | exact hn264_0) (.int .i64 t257)).trans hx264_0; replace hx264_0 := (cell_far (p := ⟨gb263, 1, none⟩) (by first | (rw [add_block]; exact hn264_1) | (show (Addr.add _ _).block ≠ _; rw [add_block]; exact hn264_1) | exact hn264_1) (.slice Ao22 t258.length co22)).trans hx264_0; clear hn264_0; clear hn264_1; replace p264 := eq_true p264; replace q264 := eq_true q264) | (go_at_call 30; (with_reducible refine (isa_Name.calls 3 t265 _ A10.out).mono ?_); rintro e w24 ⟨rfl, hb⟩; have n0_ := Aside0.mk (Kd.R_below (by (with_reducible repeat (first | apply Kd.R_alloc | apply Kd.R_drewN | apply Kd.R_drew)); exact (Kd.R_mono (Kd.R_far (p := ⟨gb263, 1, none⟩) (Kd.R_far (p := ⟨gb263, 0, none⟩) (Kd.R_types HO252.out BK263.out (by decide)) (fun _ hk => hk.2) (.int .i64 t257)) (fun _ hk => hk.2) (.slice Ao22 t258.length co22)) (fun _ h_ => h_.1))) hb); have n1_ := Aside0.mk (Kd.R_below (by (with_reducible repeat (first | apply Kd.R_alloc | apply Kd.R_drewN | apply Kd.R_drew)); exact (Kd.R_mono (Kd.R_far (p := ⟨gb263, 1, none⟩) (Kd.R_far (p := ⟨gb263, 0, none⟩) (Kd.R_types HO256.out BK263.out (by decide)) (fun _ hk => hk.2) (.int .i64 t257)) (fun _ hk => hk.2) (.slice Ao22 t258.length co22)) (fun _ h_ => h_.1))) hb); have n2_ := Aside0.mk (Kd.R_below (by (with_reducible repeat (first | apply Kd.R_alloc | apply Kd.R_drewN | apply Kd.R_drew)); exact (Kd.R_mono (Kd.R_far (p := ⟨gb263, 1, none⟩) (Kd.R_far (p := ⟨gb263, 0, none⟩) (Kd.R_types HO260.out BK263.out (by decide)) (fun _ hk => hk.2) (.int .i64 t257)) (fun _ hk => hk.2) (.slice Ao22 t258.length co22)) (fun _ h_ => h_.1))) hb); have n3_ := Aside0.mk (blk_below (g := gb263) (o := .cells #[.int .i64 t257, .slice Ao22 t258.length co22] 28 (0, 0)) (by (with_reducible repeat (first | refine blk_drewN ?_ _ | refine blk_drew ?_ | refine blk_alloc ?_ _)); refine blk_put (cs := #[.int .i64 t257, .slice none 0 0]) ?_ 1 _ rfl; (with_reducible repeat (first | refine blk_drewN ?_ _ | refine blk_drew ?_ | refine blk_alloc ?_ _)); refine blk_put (cs := #[.int .i64 0, .slice none 0 0]) ?_ 0 _ rfl; (with_reducible repeat (first | refine blk_drewN ?_ _ | refine blk_drew ?_ | refine blk_alloc ?_ _)); exact BK263.out) hb); have n4_ := Aside0.mk (below_step (by repeat (first | (with_reducible first | exact HB.out | apply below_alloc | apply pw_below_drewN | apply below_drew1 | refine below_set ?_ GE263.out) | exact HB.out)) hb); clear HO252; clear HO256; clear HO260; clear BK263; clear HB; have HO252 := n0_; have HO256 := n1_; have HO260 := n2_; have BK263 := n3_; have HB := n4_; clear n0_ n1_ n2_ n3_ n4_; (try clear hb); (try clear hb2); (try clear hk); (try clear hi)) | (go_at_call 28; (with_reducible refine (isa_Kinds.calls 15 t266 _ A12.out).mono ?_); rintro e w25 ⟨rfl, hb⟩; have n0_ := Aside0.mk (Kd.R_below (by (with_reducible repeat (first | apply Kd.R_alloc | apply Kd.R_drewN | apply Kd.R_drew)); exact HO252.out) hb); have n1_ := Aside0.mk (Kd.R_below (by (with_reducible repeat (first | apply Kd.R_alloc | apply Kd.R_drewN | apply Kd.R_drew)); exact HO256.out) hb); have n2_ := Aside0.mk (Kd.R_below (by (with_reducible repeat (first | apply Kd.R_alloc | apply Kd.R_drewN | apply Kd.R_drew)); exact HO260.out) hb); have n3_ := Aside0.mk (blk_below (g := gb263) (o := .cells #[.int .i64 t257, .slice Ao22 t258.length co22] 28 (0, 0)) (by (with_reducible repeat (first | refine blk_drewN ?_ _ | refine blk_drew ?_ | refine blk_alloc ?_ _)); exact BK263.out) hb); have n4_ := Aside0.mk (below_step (by repeat (first | (with_reducible first | exact HB.out | apply below_alloc | apply pw_below_drewN | apply below_drew1 | refine below_set ?_ GE263.out) | exact HB.out)) hb); clear HO252; clear HO256; clear HO260; clear BK263; clear HB; have HO252 := n0_; have HO256 := n1_; have HO260 := n2_; have BK263 := n3_; have HB := n4_; clear n0_ n1_ n2_ n3_ n4_; (try clear hb); (try clear hb2); (try clear hk); (try clear hi)) | (go_at_call 22; (with_reducible refine (isa_Size.calls 48 t267 _ A14.out).mono ?_); rintro e w26 ⟨rfl, hb⟩; have n0_ := Aside0.mk (Kd.R_below (by (with_reducible repeat (first | apply Kd.R_alloc | apply Kd.R_drewN | apply Kd.R_drew)); exact HO252.out) hb); have n1_ := Aside0.mk (Kd.R_below (by (with_reducible repeat (first | apply Kd.R_alloc | apply Kd.R_drewN | apply Kd.R_drew)); exact HO256.out) hb); have n2_ := Aside0.mk (Kd.R_below (by (with_reducible repeat (first | apply Kd.R_alloc | apply Kd.R_drewN | apply Kd.R_drew)); exact HO260.out) hb); have n3_ := Aside0.mk (blk_below (g := gb263) (o := .cells #[.int .i64 t257, .slice Ao22 t258.length co22] 28 (0, 0)) (by (with_reducible repeat (first | refine blk_drewN ?_ _ | refine blk_drew ?_ | refine blk_alloc ?_ _)); exact BK263.out) hb); have n4_ := Aside0.mk (below_step (by repeat (first | (with_reducible first | exact HB.out | apply below_alloc | apply pw_below_drewN | apply below_drew1 | refine below_set ?_ GE263.out) | exact HB.out)) hb); clear HO252; clear HO256; clear HO260; clear BK263; clear HB; have HO252 := n0_; have HO256 := n1_; have HO260 := n2_; have BK263 := n3_; have HB := n4_; clear n0_ n1_ n2_ n3_ n4_; (try clear hb); (try clear hb2); (try clear hk); (try clear hi)))
                    go_ret
                    exact ⟨by first | rfl | (simp [errW_none, errW_some] <;> rfl) | (simp [*, errW_none, errW_some] <;> rfl), by repeat (first | (with_reducible first | exact HB.out | apply below_alloc | apply pw_below_drewN | apply below_drew1 | refine below_set ?_ GE263.out) | exact HB.out)⟩
                  · rw [if_neg c13] at H
                    have c13b0 : (t266.toList == ([88, 32, 89] : List UInt8)) = false := beq_eq_false_iff_ne.mpr c13
                    have c13b1 : (t266.toList != ([88, 32, 89] : List UInt8)) = true := bne_iff_ne.mpr c13
                    obtain rfl := Option.some.inj H
                    go_enter Tryd.func14, Tryd.ntmps14
                    go_wp2_with (first | ((with_reducible refine gate_callee (f := 21) rfl ?_); refine goesL_ (some 8) rfl rfl Tryd.func21 (by kernel_rfl) rfl #[.agg #[.int .i64 3, .slice none 0 0]] rfl (by (try simp only [List.map_toArray, List.map_cons, List.map_nil]); first | done | rfl | (simp only [List.length_drop, List.length_take]; rfl)) ?_; (refine (isa_Encode.calls k 3 _ _ ([] : List Int) t250 true _ ?side1 ?side2 ?side3 A1.out).mono ?_); (case side1 => exact LaidW.below hLaid_ (by repeat (first | (with_reducible first | exact HB.out | apply below_alloc | apply pw_below_drewN | apply below_drew1) | exact HB.out))); (case side2 => exact Kd.C_nil _ _); (case side3 => exact Nat.le_refl _); rintro e w27 ⟨v251, rfl, ho0, hb⟩; refine ⟨_, rfl, ?_⟩; have n0_ := Aside0.mk (Kd.R_lower ho0 (below_size (by repeat (first | (with_reducible first | exact HB.out | apply below_alloc | apply pw_below_drewN | apply below_drew1) | exact HB.out)))); have n1_ := Aside0.mk (below_step (by repeat (first | (with_reducible first | exact HB.out | apply below_alloc | apply pw_below_drewN | apply below_drew1) | exact HB.out)) hb); clear HB; have HO252 := n0_; have HB := n1_; clear n0_ n1_; (try clear hb); (try clear hb2); (try clear hk); (try clear hi); (try clear ho0)) | ((with_reducible refine gate_dst (N := 12) rfl ?_); (try (refine gate_guard (by rfl) ?_; dsimp only)); refine Kd.R_lit (Kd.int .u8) _ 5 ?hg (N := 12) ?hd (xs := ([0, 4, 9] : List Int)) (inner := [.int .u8 0, .int .u8 4, .int .u8 9]) (ok := fun _ => True) (okp := fun _ => True) ?hr ?hp (fun _ hk => hk) trivial (Below.refl _ _) (Nat.le_refl _) (by simp) ?_; (case hd => rfl); (case hg => rfl); (case hr => first | (go_simp; done) | (go_simp; rfl)); (case hp => exact (Reps.one (show Kd.M (Kd.int .u8) _ _ _ 0 [.int .u8 0] from rfl) (Reps.one (show Kd.M (Kd.int .u8) _ _ _ 4 [.int .u8 4] from rfl) (Reps.one (show Kd.M (Kd.int .u8) _ _ _ 9 [.int .u8 9] from rfl) (Reps.none _ _))))); intro v255 w28 ho29 hb hg_ hnew_; clear hg_ hnew_; (first | rw [← Ny254.out] at ho29 | (simp only [Int.reduceToNat] at ho29; rw [← Ny254.out] at ho29)); have n0_ := Aside0.mk (Kd.R_elder' (by (with_reducible repeat (first | apply Kd.R_alloc | apply Kd.R_drewN | apply Kd.R_drew)); exact HO252.out) (Kd.R_base ho29) hb); have n1_ := Aside0.mk (Kd.R_lower (Kd.R_new' ho29 (Kd.R_lt (by (with_reducible repeat (first | apply Kd.R_alloc | apply Kd.R_drewN | apply Kd.R_drew)); exact HO252.out))) (below_size (by repeat (first | (with_reducible first | exact HB.out | apply below_alloc | apply pw_below_drewN | apply below_drew1) | exact HB.out)))); have n2_ := Aside0.mk (below_step (by repeat (first | (with_reducible first | exact HB.out | apply below_alloc | apply pw_below_drewN | apply below_drew1) | exact HB.out)) hb); clear HO252; clear HB; have HO252 := n0_; have HO256 := n1_; have HB := n2_; clear n0_ n1_ n2_; clear hb ho29; obtain ⟨Ao30, co30, eo30⟩ := Kd.R_slice HO256.out; subst eo30) | ((with_reducible refine gate_callee (f := 18) rfl ?_); refine goesL_ (some 13) rfl rfl Tryd.func18 (by kernel_rfl) rfl #[.slice Ao30 y254.length co30] rfl (by (try simp only [List.map_toArray, List.map_cons, List.map_nil]); first | done | rfl | (simp only [List.length_drop, List.length_take]; rfl)) ?_; (with_reducible refine (isa_Decode.calls k _ _ y254 t257 t258 t261 true _ ?side1 ?side2 ?side3 A2.out).mono ?_); (case side1 => exact LaidW.below hLaid_ (by repeat (first | (with_reducible first | exact HB.out | apply below_alloc | apply pw_below_drewN | apply below_drew1) | exact HB.out))); (case side2 => repeat (first | exact (Kd.R_reads' HO256.out).2.2 | (with_reducible refine Kd.C_alloc ?_ _) | (with_reducible refine Kd.C_drewN ?_ _) | (with_reducible refine Kd.C_drew ?_))); (case side3 => exact (Kd.R_reads' HO256.out).2.1); rintro e w31 ⟨v259, rfl, ho0, hb⟩; refine ⟨_, rfl, ?_⟩; have n0_ := Aside0.mk (Kd.R_below (by (with_reducible repeat (first | apply Kd.R_alloc | apply Kd.R_drewN | apply Kd.R_drew)); exact HO252.out) hb); have n1_ := Aside0.mk (Kd.R_below (by (with_reducible repeat (first | apply Kd.R_alloc | apply Kd.R_drewN | apply Kd.R_drew)); exact HO256.out) hb); have n2_ := Aside0.mk (Kd.R_lower ho0 (below_size (by repeat (first | (with_reducible first | exact HB.out | apply below_alloc | apply pw_below_drewN | apply below_drew1) | exact HB.out)))); have n3_ := Aside0.mk (below_step (by repeat (first | (with_reducible first | exact HB.out | apply below_alloc | apply pw_below_drewN | apply below_drew1) | exact HB.out)) hb); clear HO252; clear HO256; clear HB; have HO252 := n0_; have HO256 := n1_; have HO260 := n2_; have HB := n3_; clear n0_ n1_ n2_ n3_; (try clear hb); (try clear hb2); (try clear hk); (try clear hi); (try clear ho0)) | ((with_reducible refine gate_dst (N := 3) rfl ?_); (try (refine gate_guard (by rfl) ?_; dsimp only)); refine box_event ?hg (N := 3) ?hd (cs := #[.int .i64 0, .slice none 0 0]) (t := 28) ?hr ?_; (case hd => rfl); (case hg => rfl); (case hr => first | (go_simp; done) | (go_simp; rfl)); intro gb263 hg w32 hbox hb; have n0_ := Aside0.mk (Kd.R_below (by (with_reducible repeat (first | apply Kd.R_alloc | apply Kd.R_drewN | apply Kd.R_drew)); exact HO252.out) hb); have n1_ := Aside0.mk (Kd.R_below (by (with_reducible repeat (first | apply Kd.R_alloc | apply Kd.R_drewN | apply Kd.R_drew)); exact HO256.out) hb); have n2_ := Aside0.mk (Kd.R_below (by (with_reducible repeat (first | apply Kd.R_alloc | apply Kd.R_drewN | apply Kd.R_drew)); exact HO260.out) hb); have n3_ := Aside0.mk (below_step (by repeat (first | (with_reducible first | exact HB.out | apply below_alloc | apply pw_below_drewN | apply below_drew1) | exact HB.out)) hb); have n4_ := Aside0.mk (hbox); have n5_ := Aside0.mk ((by rw [hg]; exact (below_size (by repeat (first | (with_reducible first | exact HB.out | apply below_alloc | apply pw_below_drewN | apply below_drew1) | exact HB.out))) : w.heap.size ≤ gb263)); have n6_ := Aside0.mk ((by rw [hg]; exact (below_size (by repeat (first | (with_reducible first | exact HB.out | apply below_alloc | apply pw_below_drewN | apply below_drew1) | exact HB.out))) : w.heap.size ≤ gb263)); clear HO252; clear HO256; clear HO260; clear HB; have HO252 := n0_; have HO256 := n1_; have HO260 := n2_; have HB := n3_; have BK263 := n4_; have GW263 := n5_; have GE263 := n6_; clear n0_ n1_ n2_ n3_ n4_ n5_ n6_; clear hb hbox hg; have hcz33_0 : w32.cell? ⟨gb263, 0, none⟩ = some (.int .i64 0) := (blk_cell BK263.out 0).trans rfl; have hcz33_1 : w32.cell? ⟨gb263, 1, none⟩ = some (.slice none 0 0) := (blk_cell BK263.out 1).trans rfl; have hfz33_0 := blk_frozen BK263.out 0; have hfz33_1 := blk_frozen BK263.out 1; obtain ⟨Ao34, co34, eo34⟩ := Kd.R_slice HO260.out; subst eo34; obtain ⟨Ao35, co35, eo35⟩ := Kd.R_slice HO252.out; subst eo35; have p264 : 0 ≤ (1 : Int) := (by omega); have q264 : 1 < (t250.length : Int) := of_decide_eq_true (by first | (with_reducible assumption) | assumption); obtain ⟨ad264, e264, hx264_0⟩ := Kd.at_int (Kd.R_reads' HO252.out).2.2 1 p264 q264; cases e264; (try simp only [show (1 : Int).toNat = 1 from rfl, Nat.reduceMul, Nat.reduceEqDiff, Go.Addr.add, ↓reduceIte] at hx264_0); have qi264 : (1 < t250.length) = True := eq_true (by omega); (try rw [show ((1 : Int)).toNat = 1 from rfl] at hx264_0); have hn264_0 : ad264.block ≠ gb263 := Kd.own_blk (Kd.R_ne HO252.out BK263.out (by decide)); have hn264_1 : ad264.block ≠ gb263 := Kd.own_blk (Kd.R_ne HO252.out BK263.out (by decide)); replace hx264_0 := (cell_far (p := ⟨gb263, 0, none⟩) (by first | (rw [add_block]; exact hn264_0) | (show (Addr.add _ _).block ≠ _; rw [add_block]; exact hn264_0) | exact hn264_0) (.int .i64 t257)).trans hx264_0; replace hx264_0 := (cell_far (p := ⟨gb263, 1, none⟩) (by first | (rw [add_block]; exact hn264_1) | (show (Addr.add _ _).block ≠ _; rw [add_block]; exact hn264_1) | exact hn264_1) (.slice Ao34 t258.length co34)).trans hx264_0; clear hn264_0; clear hn264_1; replace p264 := eq_true p264; replace q264 := eq_true q264) | (go_at_call 30; (with_reducible refine (isa_Name.calls 3 t265 _ A10.out).mono ?_); rintro e w36 ⟨rfl, hb⟩; have n0_ := Aside0.mk (Kd.R_below (by (with_reducible repeat (first | apply Kd.R_alloc | apply Kd.R_drewN | apply Kd.R_drew)); exact (Kd.R_mono (Kd.R_far (p := ⟨gb263, 1, none⟩) (Kd.R_far (p := ⟨gb263, 0, none⟩) (Kd.R_types HO252.out BK263.out (by decide)) (fun _ hk => hk.2) (.int .i64 t257)) (fun _ hk => hk.2) (.slice Ao34 t258.length co34)) (fun _ h_ => h_.1))) hb); have n1_ := Aside0.mk (Kd.R_below (by (with_reducible repeat (first | apply Kd.R_alloc | apply Kd.R_drewN | apply Kd.R_drew)); exact (Kd.R_mono (Kd.R_far (p := ⟨gb263, 1, none⟩) (Kd.R_far (p := ⟨gb263, 0, none⟩) (Kd.R_types HO256.out BK263.out (by decide)) (fun _ hk => hk.2) (.int .i64 t257)) (fun _ hk => hk.2) (.slice Ao34 t258.length co34)) (fun _ h_ => h_.1))) hb); have n2_ := Aside0.mk (Kd.R_below (by (with_reducible repeat (first | apply Kd.R_alloc | apply Kd.R_drewN | apply Kd.R_drew)); exact (Kd.R_mono (Kd.R_far (p := ⟨gb263, 1, none⟩) (Kd.R_far (p := ⟨gb263, 0, none⟩) (Kd.R_types HO260.out BK263.out (by decide)) (fun _ hk => hk.2) (.int .i64 t257)) (fun _ hk => hk.2) (.slice Ao34 t258.length co34)) (fun _ h_ => h_.1))) hb); have n3_ := Aside0.mk (blk_below (g := gb263) (o := .cells #[.int .i64 t257, .slice Ao34 t258.length co34] 28 (0, 0)) (by (with_reducible repeat (first | refine blk_drewN ?_ _ | refine blk_drew ?_ | refine blk_alloc ?_ _)); refine blk_put (cs := #[.int .i64 t257, .slice none 0 0]) ?_ 1 _ rfl; (with_reducible repeat (first | refine blk_drewN ?_ _ | refine blk_drew ?_ | refine blk_alloc ?_ _)); refine blk_put (cs := #[.int .i64 0, .slice none 0 0]) ?_ 0 _ rfl; (with_reducible repeat (first | refine blk_drewN ?_ _ | refine blk_drew ?_ | refine blk_alloc ?_ _)); exact BK263.out) hb); have n4_ := Aside0.mk (below_step (by repeat (first | (with_reducible first | exact HB.out | apply below_alloc | apply pw_below_drewN | apply below_drew1 | refine below_set ?_ GE263.out) | exact HB.out)) hb); clear HO252; clear HO256; clear HO260; clear BK263; clear HB; have HO252 := n0_; have HO256 := n1_; have HO260 := n2_; have BK263 := n3_; have HB := n4_; clear n0_ n1_ n2_ n3_ n4_; (try clear hb); (try clear hb2); (try clear hk); (try clear hi)) | (go_at_call 28; (with_reducible refine (isa_Kinds.calls 15 t266 _ A12.out).mono ?_); rintro e w37 ⟨rfl, hb⟩; have n0_ := Aside0.mk (Kd.R_below (by (with_reducible repeat (first | apply Kd.R_alloc | apply Kd.R_drewN | apply Kd.R_drew)); exact HO252.out) hb); have n1_ := Aside0.mk (Kd.R_below (by (with_reducible repeat (first | apply Kd.R_alloc | apply Kd.R_drewN | apply Kd.R_drew)); exact HO256.out) hb); have n2_ := Aside0.mk (Kd.R_below (by (with_reducible repeat (first | apply Kd.R_alloc | apply Kd.R_drewN | apply Kd.R_drew)); exact HO260.out) hb); have n3_ := Aside0.mk (blk_below (g := gb263) (o := .cells #[.int .i64 t257, .slice Ao34 t258.length co34] 28 (0, 0)) (by (with_reducible repeat (first | refine blk_drewN ?_ _ | refine blk_drew ?_ | refine blk_alloc ?_ _)); exact BK263.out) hb); have n4_ := Aside0.mk (below_step (by repeat (first | (with_reducible first | exact HB.out | apply below_alloc | apply pw_below_drewN | apply below_drew1 | refine below_set ?_ GE263.out) | exact HB.out)) hb); clear HO252; clear HO256; clear HO260; clear BK263; clear HB; have HO252 := n0_; have HO256 := n1_; have HO260 := n2_; have BK263 := n3_; have HB := n4_; clear n0_ n1_ n2_ n3_ n4_; (try clear hb); (try clear hb2); (try clear hk); (try clear hi)))
                    go_ret
                    exact ⟨by first | rfl | (simp [errW_none, errW_some] <;> rfl) | (simp [*, errW_none, errW_some] <;> rfl), by repeat (first | (with_reducible first | exact HB.out | apply below_alloc | apply pw_below_drewN | apply below_drew1 | refine below_set ?_ GE263.out) | exact HB.out)⟩
                · rw [if_neg c11] at H
                  have c11b0 : (t265.toList == ([115, 101, 95, 98, 108, 114] : List UInt8)) = false := beq_eq_false_iff_ne.mpr c11
                  have c11b1 : (t265.toList != ([115, 101, 95, 98, 108, 114] : List UInt8)) = true := bne_iff_ne.mpr c11
                  obtain rfl := Option.some.inj H
                  go_enter Tryd.func14, Tryd.ntmps14
                  go_wp2_with (first | ((with_reducible refine gate_callee (f := 21) rfl ?_); refine goesL_ (some 8) rfl rfl Tryd.func21 (by kernel_rfl) rfl #[.agg #[.int .i64 3, .slice none 0 0]] rfl (by (try simp only [List.map_toArray, List.map_cons, List.map_nil]); first | done | rfl | (simp only [List.length_drop, List.length_take]; rfl)) ?_; (refine (isa_Encode.calls k 3 _ _ ([] : List Int) t250 true _ ?side1 ?side2 ?side3 A1.out).mono ?_); (case side1 => exact LaidW.below hLaid_ (by repeat (first | (with_reducible first | exact HB.out | apply below_alloc | apply pw_below_drewN | apply below_drew1) | exact HB.out))); (case side2 => exact Kd.C_nil _ _); (case side3 => exact Nat.le_refl _); rintro e w38 ⟨v251, rfl, ho0, hb⟩; refine ⟨_, rfl, ?_⟩; have n0_ := Aside0.mk (Kd.R_lower ho0 (below_size (by repeat (first | (with_reducible first | exact HB.out | apply below_alloc | apply pw_below_drewN | apply below_drew1) | exact HB.out)))); have n1_ := Aside0.mk (below_step (by repeat (first | (with_reducible first | exact HB.out | apply below_alloc | apply pw_below_drewN | apply below_drew1) | exact HB.out)) hb); clear HB; have HO252 := n0_; have HB := n1_; clear n0_ n1_; (try clear hb); (try clear hb2); (try clear hk); (try clear hi); (try clear ho0)) | ((with_reducible refine gate_dst (N := 12) rfl ?_); (try (refine gate_guard (by rfl) ?_; dsimp only)); refine Kd.R_lit (Kd.int .u8) _ 5 ?hg (N := 12) ?hd (xs := ([0, 4, 9] : List Int)) (inner := [.int .u8 0, .int .u8 4, .int .u8 9]) (ok := fun _ => True) (okp := fun _ => True) ?hr ?hp (fun _ hk => hk) trivial (Below.refl _ _) (Nat.le_refl _) (by simp) ?_; (case hd => rfl); (case hg => rfl); (case hr => first | (go_simp; done) | (go_simp; rfl)); (case hp => exact (Reps.one (show Kd.M (Kd.int .u8) _ _ _ 0 [.int .u8 0] from rfl) (Reps.one (show Kd.M (Kd.int .u8) _ _ _ 4 [.int .u8 4] from rfl) (Reps.one (show Kd.M (Kd.int .u8) _ _ _ 9 [.int .u8 9] from rfl) (Reps.none _ _))))); intro v255 w39 ho40 hb hg_ hnew_; clear hg_ hnew_; (first | rw [← Ny254.out] at ho40 | (simp only [Int.reduceToNat] at ho40; rw [← Ny254.out] at ho40)); have n0_ := Aside0.mk (Kd.R_elder' (by (with_reducible repeat (first | apply Kd.R_alloc | apply Kd.R_drewN | apply Kd.R_drew)); exact HO252.out) (Kd.R_base ho40) hb); have n1_ := Aside0.mk (Kd.R_lower (Kd.R_new' ho40 (Kd.R_lt (by (with_reducible repeat (first | apply Kd.R_alloc | apply Kd.R_drewN | apply Kd.R_drew)); exact HO252.out))) (below_size (by repeat (first | (with_reducible first | exact HB.out | apply below_alloc | apply pw_below_drewN | apply below_drew1) | exact HB.out)))); have n2_ := Aside0.mk (below_step (by repeat (first | (with_reducible first | exact HB.out | apply below_alloc | apply pw_below_drewN | apply below_drew1) | exact HB.out)) hb); clear HO252; clear HB; have HO252 := n0_; have HO256 := n1_; have HB := n2_; clear n0_ n1_ n2_; clear hb ho40; obtain ⟨Ao41, co41, eo41⟩ := Kd.R_slice HO256.out; subst eo41) | ((with_reducible refine gate_callee (f := 18) rfl ?_); refine goesL_ (some 13) rfl rfl Tryd.func18 (by kernel_rfl) rfl #[.slice Ao41 y254.length co41] rfl (by (try simp only [List.map_toArray, List.map_cons, List.map_nil]); first | done | rfl | (simp only [List.length_drop, List.length_take]; rfl)) ?_; (with_reducible refine (isa_Decode.calls k _ _ y254 t257 t258 t261 true _ ?side1 ?side2 ?side3 A2.out).mono ?_); (case side1 => exact LaidW.below hLaid_ (by repeat (first | (with_reducible first | exact HB.out | apply below_alloc | apply pw_below_drewN | apply below_drew1) | exact HB.out))); (case side2 => repeat (first | exact (Kd.R_reads' HO256.out).2.2 | (with_reducible refine Kd.C_alloc ?_ _) | (with_reducible refine Kd.C_drewN ?_ _) | (with_reducible refine Kd.C_drew ?_))); (case side3 => exact (Kd.R_reads' HO256.out).2.1); rintro e w42 ⟨v259, rfl, ho0, hb⟩; refine ⟨_, rfl, ?_⟩; have n0_ := Aside0.mk (Kd.R_below (by (with_reducible repeat (first | apply Kd.R_alloc | apply Kd.R_drewN | apply Kd.R_drew)); exact HO252.out) hb); have n1_ := Aside0.mk (Kd.R_below (by (with_reducible repeat (first | apply Kd.R_alloc | apply Kd.R_drewN | apply Kd.R_drew)); exact HO256.out) hb); have n2_ := Aside0.mk (Kd.R_lower ho0 (below_size (by repeat (first | (with_reducible first | exact HB.out | apply below_alloc | apply pw_below_drewN | apply below_drew1) | exact HB.out)))); have n3_ := Aside0.mk (below_step (by repeat (first | (with_reducible first | exact HB.out | apply below_alloc | apply pw_below_drewN | apply below_drew1) | exact HB.out)) hb); clear HO252; clear HO256; clear HB; have HO252 := n0_; have HO256 := n1_; have HO260 := n2_; have HB := n3_; clear n0_ n1_ n2_ n3_; (try clear hb); (try clear hb2); (try clear hk); (try clear hi); (try clear ho0)) | ((with_reducible refine gate_dst (N := 3) rfl ?_); (try (refine gate_guard (by rfl) ?_; dsimp only)); refine box_event ?hg (N := 3) ?hd (cs := #[.int .i64 0, .slice none 0 0]) (t := 28) ?hr ?_; (case hd => rfl); (case hg => rfl); (case hr => first | (go_simp; done) | (go_simp; rfl)); intro gb263 hg w43 hbox hb; have n0_ := Aside0.mk (Kd.R_below (by (with_reducible repeat (first | apply Kd.R_alloc | apply Kd.R_drewN | apply Kd.R_drew)); exact HO252.out) hb); have n1_ := Aside0.mk (Kd.R_below (by (with_reducible repeat (first | apply Kd.R_alloc | apply Kd.R_drewN | apply Kd.R_drew)); exact HO256.out) hb); have n2_ := Aside0.mk (Kd.R_below (by (with_reducible repeat (first | apply Kd.R_alloc | apply Kd.R_drewN | apply Kd.R_drew)); exact HO260.out) hb); have n3_ := Aside0.mk (below_step (by repeat (first | (with_reducible first | exact HB.out | apply below_alloc | apply pw_below_drewN | apply below_drew1) | exact HB.out)) hb); have n4_ := Aside0.mk (hbox); have n5_ := Aside0.mk ((by rw [hg]; exact (below_size (by repeat (first | (with_reducible first | exact HB.out | apply below_alloc | apply pw_below_drewN | apply below_drew1) | exact HB.out))) : w.heap.size ≤ gb263)); have n6_ := Aside0.mk ((by rw [hg]; exact (below_size (by repeat (first | (with_reducible first | exact HB.out | apply below_alloc | apply pw_below_drewN | apply below_drew1) | exact HB.out))) : w.heap.size ≤ gb263)); clear HO252; clear HO256; clear HO260; clear HB; have HO252 := n0_; have HO256 := n1_; have HO260 := n2_; have HB := n3_; have BK263 := n4_; have GW263 := n5_; have GE263 := n6_; clear n0_ n1_ n2_ n3_ n4_ n5_ n6_; clear hb hbox hg; have hcz44_0 : w43.cell? ⟨gb263, 0, none⟩ = some (.int .i64 0) := (blk_cell BK263.out 0).trans rfl; have hcz44_1 : w43.cell? ⟨gb263, 1, none⟩ = some (.slice none 0 0) := (blk_cell BK263.out 1).trans rfl; have hfz44_0 := blk_frozen BK263.out 0; have hfz44_1 := blk_frozen BK263.out 1; obtain ⟨Ao45, co45, eo45⟩ := Kd.R_slice HO260.out; subst eo45; obtain ⟨Ao46, co46, eo46⟩ := Kd.R_slice HO252.out; subst eo46; have p264 : 0 ≤ (1 : Int) := (by omega); have q264 : 1 < (t250.length : Int) := of_decide_eq_true (by first | (with_reducible assumption) | assumption); obtain ⟨ad264, e264, hx264_0⟩ := Kd.at_int (Kd.R_reads' HO252.out).2.2 1 p264 q264; cases e264; (try simp only [show (1 : Int).toNat = 1 from rfl, Nat.reduceMul, Nat.reduceEqDiff, Go.Addr.add, ↓reduceIte] at hx264_0); have qi264 : (1 < t250.length) = True := eq_true (by omega); (try rw [show ((1 : Int)).toNat = 1 from rfl] at hx264_0); have hn264_0 : ad264.block ≠ gb263 := Kd.own_blk (Kd.R_ne HO252.out BK263.out (by decide)); have hn264_1 : ad264.block ≠ gb263 := Kd.own_blk (Kd.R_ne HO252.out BK263.out (by decide)); replace hx264_0 := (cell_far (p := ⟨gb263, 0, none⟩) (by first | (rw [add_block]; exact hn264_0) | (show (Addr.add _ _).block ≠ _; rw [add_block]; exact hn264_0) | exact hn264_0) (.int .i64 t257)).trans hx264_0; replace hx264_0 := (cell_far (p := ⟨gb263, 1, none⟩) (by first | (rw [add_block]; exact hn264_1) | (show (Addr.add _ _).block ≠ _; rw [add_block]; exact hn264_1) | exact hn264_1) (.slice Ao45 t258.length co45)).trans hx264_0; clear hn264_0; clear hn264_1; replace p264 := eq_true p264; replace q264 := eq_true q264) | (go_at_call 30; (with_reducible refine (isa_Name.calls 3 t265 _ A10.out).mono ?_); rintro e w47 ⟨rfl, hb⟩; have n0_ := Aside0.mk (Kd.R_below (by (with_reducible repeat (first | apply Kd.R_alloc | apply Kd.R_drewN | apply Kd.R_drew)); exact (Kd.R_mono (Kd.R_far (p := ⟨gb263, 1, none⟩) (Kd.R_far (p := ⟨gb263, 0, none⟩) (Kd.R_types HO252.out BK263.out (by decide)) (fun _ hk => hk.2) (.int .i64 t257)) (fun _ hk => hk.2) (.slice Ao45 t258.length co45)) (fun _ h_ => h_.1))) hb); have n1_ := Aside0.mk (Kd.R_below (by (with_reducible repeat (first | apply Kd.R_alloc | apply Kd.R_drewN | apply Kd.R_drew)); exact (Kd.R_mono (Kd.R_far (p := ⟨gb263, 1, none⟩) (Kd.R_far (p := ⟨gb263, 0, none⟩) (Kd.R_types HO256.out BK263.out (by decide)) (fun _ hk => hk.2) (.int .i64 t257)) (fun _ hk => hk.2) (.slice Ao45 t258.length co45)) (fun _ h_ => h_.1))) hb); have n2_ := Aside0.mk (Kd.R_below (by (with_reducible repeat (first | apply Kd.R_alloc | apply Kd.R_drewN | apply Kd.R_drew)); exact (Kd.R_mono (Kd.R_far (p := ⟨gb263, 1, none⟩) (Kd.R_far (p := ⟨gb263, 0, none⟩) (Kd.R_types HO260.out BK263.out (by decide)) (fun _ hk => hk.2) (.int .i64 t257)) (fun _ hk => hk.2) (.slice Ao45 t258.length co45)) (fun _ h_ => h_.1))) hb); have n3_ := Aside0.mk (blk_below (g := gb263) (o := .cells #[.int .i64 t257, .slice Ao45 t258.length co45] 28 (0, 0)) (by (with_reducible repeat (first | refine blk_drewN ?_ _ | refine blk_drew ?_ | refine blk_alloc ?_ _)); refine blk_put (cs := #[.int .i64 t257, .slice none 0 0]) ?_ 1 _ rfl; (with_reducible repeat (first | refine blk_drewN ?_ _ | refine blk_drew ?_ | refine blk_alloc ?_ _)); refine blk_put (cs := #[.int .i64 0, .slice none 0 0]) ?_ 0 _ rfl; (with_reducible repeat (first | refine blk_drewN ?_ _ | refine blk_drew ?_ | refine blk_alloc ?_ _)); exact BK263.out) hb); have n4_ := Aside0.mk (below_step (by repeat (first | (with_reducible first | exact HB.out | apply below_alloc | apply pw_below_drewN | apply below_drew1 | refine below_set ?_ GE263.out) | exact HB.out)) hb); clear HO252; clear HO256; clear HO260; clear BK263; clear HB; have HO252 := n0_; have HO256 := n1_; have HO260 := n2_; have BK263 := n3_; have HB := n4_; clear n0_ n1_ n2_ n3_ n4_; (try clear hb); (try clear hb2); (try clear hk); (try clear hi)))
                  go_ret
                  exact ⟨by first | rfl | (simp [errW_none, errW_some] <;> rfl) | (simp [*, errW_none, errW_some] <;> rfl), by repeat (first | (with_reducible first | exact HB.out | apply below_alloc | apply pw_below_drewN | apply below_drew1 | refine below_set ?_ GE263.out) | exact HB.out)⟩
              · rw [if_neg c9] at H
                have c9b0 : (t257 == 3) = false := beq_eq_false_iff_ne.mpr c9
                have c9b1 : (t257 != 3) = true := bne_iff_ne.mpr c9
                obtain rfl := Option.some.inj H
                go_enter Tryd.func14, Tryd.ntmps14
                go_wp2_with (first | ((with_reducible refine gate_callee (f := 21) rfl ?_); refine goesL_ (some 8) rfl rfl Tryd.func21 (by kernel_rfl) rfl #[.agg #[.int .i64 3, .slice none 0 0]] rfl (by (try simp only [List.map_toArray, List.map_cons, List.map_nil]); first | done | rfl | (simp only [List.length_drop, List.length_take]; rfl)) ?_; (refine (isa_Encode.calls k 3 _ _ ([] : List Int) t250 true _ ?side1 ?side2 ?side3 A1.out).mono ?_); (case side1 => exact LaidW.below hLaid_ (by repeat (first | (with_reducible first | exact HB.out | apply below_alloc | apply pw_below_drewN | apply below_drew1) | exact HB.out))); (case side2 => exact Kd.C_nil _ _); (case side3 => exact Nat.le_refl _); rintro e w48 ⟨v251, rfl, ho0, hb⟩; refine ⟨_, rfl, ?_⟩; have n0_ := Aside0.mk (Kd.R_lower ho0 (below_size (by repeat (first | (with_reducible first | exact HB.out | apply below_alloc | apply pw_below_drewN | apply below_drew1) | exact HB.out)))); have n1_ := Aside0.mk (below_step (by repeat (first | (with_reducible first | exact HB.out | apply below_alloc | apply pw_below_drewN | apply below_drew1) | exact HB.out)) hb); clear HB; have HO252 := n0_; have HB := n1_; clear n0_ n1_; (try clear hb); (try clear hb2); (try clear hk); (try clear hi); (try clear ho0)) | ((with_reducible refine gate_dst (N := 12) rfl ?_); (try (refine gate_guard (by rfl) ?_; dsimp only)); refine Kd.R_lit (Kd.int .u8) _ 5 ?hg (N := 12) ?hd (xs := ([0, 4, 9] : List Int)) (inner := [.int .u8 0, .int .u8 4, .int .u8 9]) (ok := fun _ => True) (okp := fun _ => True) ?hr ?hp (fun _ hk => hk) trivial (Below.refl _ _) (Nat.le_refl _) (by simp) ?_; (case hd => rfl); (case hg => rfl); (case hr => first | (go_simp; done) | (go_simp; rfl)); (case hp => exact (Reps.one (show Kd.M (Kd.int .u8) _ _ _ 0 [.int .u8 0] from rfl) (Reps.one (show Kd.M (Kd.int .u8) _ _ _ 4 [.int .u8 4] from rfl) (Reps.one (show Kd.M (Kd.int .u8) _ _ _ 9 [.int .u8 9] from rfl) (Reps.none _ _))))); intro v255 w49 ho50 hb hg_ hnew_; clear hg_ hnew_; (first | rw [← Ny254.out] at ho50 | (simp only [Int.reduceToNat] at ho50; rw [← Ny254.out] at ho50)); have n0_ := Aside0.mk (Kd.R_elder' (by (with_reducible repeat (first | apply Kd.R_alloc | apply Kd.R_drewN | apply Kd.R_drew)); exact HO252.out) (Kd.R_base ho50) hb); have n1_ := Aside0.mk (Kd.R_lower (Kd.R_new' ho50 (Kd.R_lt (by (with_reducible repeat (first | apply Kd.R_alloc | apply Kd.R_drewN | apply Kd.R_drew)); exact HO252.out))) (below_size (by repeat (first | (with_reducible first | exact HB.out | apply below_alloc | apply pw_below_drewN | apply below_drew1) | exact HB.out)))); have n2_ := Aside0.mk (below_step (by repeat (first | (with_reducible first | exact HB.out | apply below_alloc | apply pw_below_drewN | apply below_drew1) | exact HB.out)) hb); clear HO252; clear HB; have HO252 := n0_; have HO256 := n1_; have HB := n2_; clear n0_ n1_ n2_; clear hb ho50; obtain ⟨Ao51, co51, eo51⟩ := Kd.R_slice HO256.out; subst eo51) | ((with_reducible refine gate_callee (f := 18) rfl ?_); refine goesL_ (some 13) rfl rfl Tryd.func18 (by kernel_rfl) rfl #[.slice Ao51 y254.length co51] rfl (by (try simp only [List.map_toArray, List.map_cons, List.map_nil]); first | done | rfl | (simp only [List.length_drop, List.length_take]; rfl)) ?_; (with_reducible refine (isa_Decode.calls k _ _ y254 t257 t258 t261 true _ ?side1 ?side2 ?side3 A2.out).mono ?_); (case side1 => exact LaidW.below hLaid_ (by repeat (first | (with_reducible first | exact HB.out | apply below_alloc | apply pw_below_drewN | apply below_drew1) | exact HB.out))); (case side2 => repeat (first | exact (Kd.R_reads' HO256.out).2.2 | (with_reducible refine Kd.C_alloc ?_ _) | (with_reducible refine Kd.C_drewN ?_ _) | (with_reducible refine Kd.C_drew ?_))); (case side3 => exact (Kd.R_reads' HO256.out).2.1); rintro e w52 ⟨v259, rfl, ho0, hb⟩; refine ⟨_, rfl, ?_⟩; have n0_ := Aside0.mk (Kd.R_below (by (with_reducible repeat (first | apply Kd.R_alloc | apply Kd.R_drewN | apply Kd.R_drew)); exact HO252.out) hb); have n1_ := Aside0.mk (Kd.R_below (by (with_reducible repeat (first | apply Kd.R_alloc | apply Kd.R_drewN | apply Kd.R_drew)); exact HO256.out) hb); have n2_ := Aside0.mk (Kd.R_lower ho0 (below_size (by repeat (first | (with_reducible first | exact HB.out | apply below_alloc | apply pw_below_drewN | apply below_drew1) | exact HB.out)))); have n3_ := Aside0.mk (below_step (by repeat (first | (with_reducible first | exact HB.out | apply below_alloc | apply pw_below_drewN | apply below_drew1) | exact HB.out)) hb); clear HO252; clear HO256; clear HB; have HO252 := n0_; have HO256 := n1_; have HO260 := n2_; have HB := n3_; clear n0_ n1_ n2_ n3_; (try clear hb); (try clear hb2); (try clear hk); (try clear hi); (try clear ho0)) | ((with_reducible refine gate_dst (N := 3) rfl ?_); (try (refine gate_guard (by rfl) ?_; dsimp only)); refine box_event ?hg (N := 3) ?hd (cs := #[.int .i64 0, .slice none 0 0]) (t := 28) ?hr ?_; (case hd => rfl); (case hg => rfl); (case hr => first | (go_simp; done) | (go_simp; rfl)); intro gb263 hg w53 hbox hb; have n0_ := Aside0.mk (Kd.R_below (by (with_reducible repeat (first | apply Kd.R_alloc | apply Kd.R_drewN | apply Kd.R_drew)); exact HO252.out) hb); have n1_ := Aside0.mk (Kd.R_below (by (with_reducible repeat (first | apply Kd.R_alloc | apply Kd.R_drewN | apply Kd.R_drew)); exact HO256.out) hb); have n2_ := Aside0.mk (Kd.R_below (by (with_reducible repeat (first | apply Kd.R_alloc | apply Kd.R_drewN | apply Kd.R_drew)); exact HO260.out) hb); have n3_ := Aside0.mk (below_step (by repeat (first | (with_reducible first | exact HB.out | apply below_alloc | apply pw_below_drewN | apply below_drew1) | exact HB.out)) hb); have n4_ := Aside0.mk (hbox); have n5_ := Aside0.mk ((by rw [hg]; exact (below_size (by repeat (first | (with_reducible first | exact HB.out | apply below_alloc | apply pw_below_drewN | apply below_drew1) | exact HB.out))) : w.heap.size ≤ gb263)); have n6_ := Aside0.mk ((by rw [hg]; exact (below_size (by repeat (first | (with_reducible first | exact HB.out | apply below_alloc | apply pw_below_drewN | apply below_drew1) | exact HB.out))) : w.heap.size ≤ gb263)); clear HO252; clear HO256; clear HO260; clear HB; have HO252 := n0_; have HO256 := n1_; have HO260 := n2_; have HB := n3_; have BK263 := n4_; have GW263 := n5_; have GE263 := n6_; clear n0_ n1_ n2_ n3_ n4_ n5_ n6_; clear hb hbox hg; have hcz54_0 : w53.cell? ⟨gb263, 0, none⟩ = some (.int .i64 0) := (blk_cell BK263.out 0).trans rfl; have hcz54_1 : w53.cell? ⟨gb263, 1, none⟩ = some (.slice none 0 0) := (blk_cell BK263.out 1).trans rfl; have hfz54_0 := blk_frozen BK263.out 0; have hfz54_1 := blk_frozen BK263.out 1; obtain ⟨Ao55, co55, eo55⟩ := Kd.R_slice HO260.out; subst eo55; obtain ⟨Ao56, co56, eo56⟩ := Kd.R_slice HO252.out; subst eo56; have p264 : 0 ≤ (1 : Int) := (by omega); have q264 : 1 < (t250.length : Int) := of_decide_eq_true (by first | (with_reducible assumption) | assumption); obtain ⟨ad264, e264, hx264_0⟩ := Kd.at_int (Kd.R_reads' HO252.out).2.2 1 p264 q264; cases e264; (try simp only [show (1 : Int).toNat = 1 from rfl, Nat.reduceMul, Nat.reduceEqDiff, Go.Addr.add, ↓reduceIte] at hx264_0); have qi264 : (1 < t250.length) = True := eq_true (by omega); (try rw [show ((1 : Int)).toNat = 1 from rfl] at hx264_0); have hn264_0 : ad264.block ≠ gb263 := Kd.own_blk (Kd.R_ne HO252.out BK263.out (by decide)); have hn264_1 : ad264.block ≠ gb263 := Kd.own_blk (Kd.R_ne HO252.out BK263.out (by decide)); replace hx264_0 := (cell_far (p := ⟨gb263, 0, none⟩) (by first | (rw [add_block]; exact hn264_0) | (show (Addr.add _ _).block ≠ _; rw [add_block]; exact hn264_0) | exact hn264_0) (.int .i64 t257)).trans hx264_0; replace hx264_0 := (cell_far (p := ⟨gb263, 1, none⟩) (by first | (rw [add_block]; exact hn264_1) | (show (Addr.add _ _).block ≠ _; rw [add_block]; exact hn264_1) | exact hn264_1) (.slice Ao55 t258.length co55)).trans hx264_0; clear hn264_0; clear hn264_1; replace p264 := eq_true p264; replace q264 := eq_true q264))
                go_ret
                exact ⟨by first | rfl | (simp [errW_none, errW_some] <;> rfl) | (simp [*, errW_none, errW_some] <;> rfl), by repeat (first | (with_reducible first | exact HB.out | apply below_alloc | apply pw_below_drewN | apply below_drew1 | refine below_set ?_ GE263.out) | exact HB.out)⟩
            · rw [if_neg c8] at H
              have c8b0 : (t261 == 2) = false := beq_eq_false_iff_ne.mpr c8
              have c8b1 : (t261 != 2) = true := bne_iff_ne.mpr c8
              obtain rfl := Option.some.inj H
              go_enter Tryd.func14, Tryd.ntmps14
              go_wp2_with (first | ((with_reducible refine gate_callee (f := 21) rfl ?_); refine goesL_ (some 8) rfl rfl Tryd.func21 (by kernel_rfl) rfl #[.agg #[.int .i64 3, .slice none 0 0]] rfl (by (try simp only [List.map_toArray, List.map_cons, List.map_nil]); first | done | rfl | (simp only [List.length_drop, List.length_take]; rfl)) ?_; (refine (isa_Encode.calls k 3 _ _ ([] : List Int) t250 true _ ?side1 ?side2 ?side3 A1.out).mono ?_); (case side1 => exact LaidW.below hLaid_ (by repeat (first | (with_reducible first | exact HB.out | apply below_alloc | apply pw_below_drewN | apply below_drew1) | exact HB.out))); (case side2 => exact Kd.C_nil _ _); (case side3 => exact Nat.le_refl _); rintro e w57 ⟨v251, rfl, ho0, hb⟩; refine ⟨_, rfl, ?_⟩; have n0_ := Aside0.mk (Kd.R_lower ho0 (below_size (by repeat (first | (with_reducible first | exact HB.out | apply below_alloc | apply pw_below_drewN | apply below_drew1) | exact HB.out)))); have n1_ := Aside0.mk (below_step (by repeat (first | (with_reducible first | exact HB.out | apply below_alloc | apply pw_below_drewN | apply below_drew1) | exact HB.out)) hb); clear HB; have HO252 := n0_; have HB := n1_; clear n0_ n1_; (try clear hb); (try clear hb2); (try clear hk); (try clear hi); (try clear ho0)) | ((with_reducible refine gate_dst (N := 12) rfl ?_); (try (refine gate_guard (by rfl) ?_; dsimp only)); refine Kd.R_lit (Kd.int .u8) _ 5 ?hg (N := 12) ?hd (xs := ([0, 4, 9] : List Int)) (inner := [.int .u8 0, .int .u8 4, .int .u8 9]) (ok := fun _ => True) (okp := fun _ => True) ?hr ?hp (fun _ hk => hk) trivial (Below.refl _ _) (Nat.le_refl _) (by simp) ?_; (case hd => rfl); (case hg => rfl); (case hr => first | (go_simp; done) | (go_simp; rfl)); (case hp => exact (Reps.one (show Kd.M (Kd.int .u8) _ _ _ 0 [.int .u8 0] from rfl) (Reps.one (show Kd.M (Kd.int .u8) _ _ _ 4 [.int .u8 4] from rfl) (Reps.one (show Kd.M (Kd.int .u8) _ _ _ 9 [.int .u8 9] from rfl) (Reps.none _ _))))); intro v255 w58 ho59 hb hg_ hnew_; clear hg_ hnew_; (first | rw [← Ny254.out] at ho59 | (simp only [Int.reduceToNat] at ho59; rw [← Ny254.out] at ho59)); have n0_ := Aside0.mk (Kd.R_elder' (by (with_reducible repeat (first | apply Kd.R_alloc | apply Kd.R_drewN | apply Kd.R_drew)); exact HO252.out) (Kd.R_base ho59) hb); have n1_ := Aside0.mk (Kd.R_lower (Kd.R_new' ho59 (Kd.R_lt (by (with_reducible repeat (first | apply Kd.R_alloc | apply Kd.R_drewN | apply Kd.R_drew)); exact HO252.out))) (below_size (by repeat (first | (with_reducible first | exact HB.out | apply below_alloc | apply pw_below_drewN | apply below_drew1) | exact HB.out)))); have n2_ := Aside0.mk (below_step (by repeat (first | (with_reducible first | exact HB.out | apply below_alloc | apply pw_below_drewN | apply below_drew1) | exact HB.out)) hb); clear HO252; clear HB; have HO252 := n0_; have HO256 := n1_; have HB := n2_; clear n0_ n1_ n2_; clear hb ho59; obtain ⟨Ao60, co60, eo60⟩ := Kd.R_slice HO256.out; subst eo60) | ((with_reducible refine gate_callee (f := 18) rfl ?_); refine goesL_ (some 13) rfl rfl Tryd.func18 (by kernel_rfl) rfl #[.slice Ao60 y254.length co60] rfl (by (try simp only [List.map_toArray, List.map_cons, List.map_nil]); first | done | rfl | (simp only [List.length_drop, List.length_take]; rfl)) ?_; (with_reducible refine (isa_Decode.calls k _ _ y254 t257 t258 t261 true _ ?side1 ?side2 ?side3 A2.out).mono ?_); (case side1 => exact LaidW.below hLaid_ (by repeat (first | (with_reducible first | exact HB.out | apply below_alloc | apply pw_below_drewN | apply below_drew1) | exact HB.out))); (case side2 => repeat (first | exact (Kd.R_reads' HO256.out).2.2 | (with_reducible refine Kd.C_alloc ?_ _) | (with_reducible refine Kd.C_drewN ?_ _) | (with_reducible refine Kd.C_drew ?_))); (case side3 => exact (Kd.R_reads' HO256.out).2.1); rintro e w61 ⟨v259, rfl, ho0, hb⟩; refine ⟨_, rfl, ?_⟩; have n0_ := Aside0.mk (Kd.R_below (by (with_reducible repeat (first | apply Kd.R_alloc | apply Kd.R_drewN | apply Kd.R_drew)); exact HO252.out) hb); have n1_ := Aside0.mk (Kd.R_below (by (with_reducible repeat (first | apply Kd.R_alloc | apply Kd.R_drewN | apply Kd.R_drew)); exact HO256.out) hb); have n2_ := Aside0.mk (Kd.R_lower ho0 (below_size (by repeat (first | (with_reducible first | exact HB.out | apply below_alloc | apply pw_below_drewN | apply below_drew1) | exact HB.out)))); have n3_ := Aside0.mk (below_step (by repeat (first | (with_reducible first | exact HB.out | apply below_alloc | apply pw_below_drewN | apply below_drew1) | exact HB.out)) hb); clear HO252; clear HO256; clear HB; have HO252 := n0_; have HO256 := n1_; have HO260 := n2_; have HB := n3_; clear n0_ n1_ n2_ n3_; (try clear hb); (try clear hb2); (try clear hk); (try clear hi); (try clear ho0)) | ((with_reducible refine gate_dst (N := 3) rfl ?_); (try (refine gate_guard (by rfl) ?_; dsimp only)); refine box_event ?hg (N := 3) ?hd (cs := #[.int .i64 0, .slice none 0 0]) (t := 28) ?hr ?_; (case hd => rfl); (case hg => rfl); (case hr => first | (go_simp; done) | (go_simp; rfl)); intro gb263 hg w62 hbox hb; have n0_ := Aside0.mk (Kd.R_below (by (with_reducible repeat (first | apply Kd.R_alloc | apply Kd.R_drewN | apply Kd.R_drew)); exact HO252.out) hb); have n1_ := Aside0.mk (Kd.R_below (by (with_reducible repeat (first | apply Kd.R_alloc | apply Kd.R_drewN | apply Kd.R_drew)); exact HO256.out) hb); have n2_ := Aside0.mk (Kd.R_below (by (with_reducible repeat (first | apply Kd.R_alloc | apply Kd.R_drewN | apply Kd.R_drew)); exact HO260.out) hb); have n3_ := Aside0.mk (below_step (by repeat (first | (with_reducible first | exact HB.out | apply below_alloc | apply pw_below_drewN | apply below_drew1) | exact HB.out)) hb); have n4_ := Aside0.mk (hbox); have n5_ := Aside0.mk ((by rw [hg]; exact (below_size (by repeat (first | (with_reducible first | exact HB.out | apply below_alloc | apply pw_below_drewN | apply below_drew1) | exact HB.out))) : w.heap.size ≤ gb263)); have n6_ := Aside0.mk ((by rw [hg]; exact (below_size (by repeat (first | (with_reducible first | exact HB.out | apply below_alloc | apply pw_below_drewN | apply below_drew1) | exact HB.out))) : w.heap.size ≤ gb263)); clear HO252; clear HO256; clear HO260; clear HB; have HO252 := n0_; have HO256 := n1_; have HO260 := n2_; have HB := n3_; have BK263 := n4_; have GW263 := n5_; have GE263 := n6_; clear n0_ n1_ n2_ n3_ n4_ n5_ n6_; clear hb hbox hg; have hcz63_0 : w62.cell? ⟨gb263, 0, none⟩ = some (.int .i64 0) := (blk_cell BK263.out 0).trans rfl; have hcz63_1 : w62.cell? ⟨gb263, 1, none⟩ = some (.slice none 0 0) := (blk_cell BK263.out 1).trans rfl; have hfz63_0 := blk_frozen BK263.out 0; have hfz63_1 := blk_frozen BK263.out 1; obtain ⟨Ao64, co64, eo64⟩ := Kd.R_slice HO260.out; subst eo64; obtain ⟨Ao65, co65, eo65⟩ := Kd.R_slice HO252.out; subst eo65; have p264 : 0 ≤ (1 : Int) := (by omega); have q264 : 1 < (t250.length : Int) := of_decide_eq_true (by first | (with_reducible assumption) | assumption); obtain ⟨ad264, e264, hx264_0⟩ := Kd.at_int (Kd.R_reads' HO252.out).2.2 1 p264 q264; cases e264; (try simp only [show (1 : Int).toNat = 1 from rfl, Nat.reduceMul, Nat.reduceEqDiff, Go.Addr.add, ↓reduceIte] at hx264_0); have qi264 : (1 < t250.length) = True := eq_true (by omega); (try rw [show ((1 : Int)).toNat = 1 from rfl] at hx264_0); have hn264_0 : ad264.block ≠ gb263 := Kd.own_blk (Kd.R_ne HO252.out BK263.out (by decide)); have hn264_1 : ad264.block ≠ gb263 := Kd.own_blk (Kd.R_ne HO252.out BK263.out (by decide)); replace hx264_0 := (cell_far (p := ⟨gb263, 0, none⟩) (by first | (rw [add_block]; exact hn264_0) | (show (Addr.add _ _).block ≠ _; rw [add_block]; exact hn264_0) | exact hn264_0) (.int .i64 t257)).trans hx264_0; replace hx264_0 := (cell_far (p := ⟨gb263, 1, none⟩) (by first | (rw [add_block]; exact hn264_1) | (show (Addr.add _ _).block ≠ _; rw [add_block]; exact hn264_1) | exact hn264_1) (.slice Ao64 t258.length co64)).trans hx264_0; clear hn264_0; clear hn264_1; replace p264 := eq_true p264; replace q264 := eq_true q264))
              go_ret
              exact ⟨by first | rfl | (simp [errW_none, errW_some] <;> rfl) | (simp [*, errW_none, errW_some] <;> rfl), by repeat (first | (with_reducible first | exact HB.out | apply below_alloc | apply pw_below_drewN | apply below_drew1 | refine below_set ?_ GE263.out) | exact HB.out)⟩
          · replace c7 := Bool.eq_false_iff.mpr c7
            subst c7
            have H1 : (some false) = some r := by rw [if_neg (show ¬ (false = true) by decide)] at H; exact H
            clear H
            have H := H1
            clear H1
            obtain rfl := Option.some.inj H
            go_enter Tryd.func14, Tryd.ntmps14
            go_wp2_with (first | ((with_reducible refine gate_callee (f := 21) rfl ?_); refine goesL_ (some 8) rfl rfl Tryd.func21 (by kernel_rfl) rfl #[.agg #[.int .i64 3, .slice none 0 0]] rfl (by (try simp only [List.map_toArray, List.map_cons, List.map_nil]); first | done | rfl | (simp only [List.length_drop, List.length_take]; rfl)) ?_; (refine (isa_Encode.calls k 3 _ _ ([] : List Int) t250 true _ ?side1 ?side2 ?side3 A1.out).mono ?_); (case side1 => exact LaidW.below hLaid_ (by repeat (first | (with_reducible first | exact HB.out | apply below_alloc | apply pw_below_drewN | apply below_drew1) | exact HB.out))); (case side2 => exact Kd.C_nil _ _); (case side3 => exact Nat.le_refl _); rintro e w66 ⟨v251, rfl, ho0, hb⟩; refine ⟨_, rfl, ?_⟩; have n0_ := Aside0.mk (Kd.R_lower ho0 (below_size (by repeat (first | (with_reducible first | exact HB.out | apply below_alloc | apply pw_below_drewN | apply below_drew1) | exact HB.out)))); have n1_ := Aside0.mk (below_step (by repeat (first | (with_reducible first | exact HB.out | apply below_alloc | apply pw_below_drewN | apply below_drew1) | exact HB.out)) hb); clear HB; have HO252 := n0_; have HB := n1_; clear n0_ n1_; (try clear hb); (try clear hb2); (try clear hk); (try clear hi); (try clear ho0)) | ((with_reducible refine gate_dst (N := 12) rfl ?_); (try (refine gate_guard (by rfl) ?_; dsimp only)); refine Kd.R_lit (Kd.int .u8) _ 5 ?hg (N := 12) ?hd (xs := ([0, 4, 9] : List Int)) (inner := [.int .u8 0, .int .u8 4, .int .u8 9]) (ok := fun _ => True) (okp := fun _ => True) ?hr ?hp (fun _ hk => hk) trivial (Below.refl _ _) (Nat.le_refl _) (by simp) ?_; (case hd => rfl); (case hg => rfl); (case hr => first | (go_simp; done) | (go_simp; rfl)); (case hp => exact (Reps.one (show Kd.M (Kd.int .u8) _ _ _ 0 [.int .u8 0] from rfl) (Reps.one (show Kd.M (Kd.int .u8) _ _ _ 4 [.int .u8 4] from rfl) (Reps.one (show Kd.M (Kd.int .u8) _ _ _ 9 [.int .u8 9] from rfl) (Reps.none _ _))))); intro v255 w67 ho68 hb hg_ hnew_; clear hg_ hnew_; (first | rw [← Ny254.out] at ho68 | (simp only [Int.reduceToNat] at ho68; rw [← Ny254.out] at ho68)); have n0_ := Aside0.mk (Kd.R_elder' (by (with_reducible repeat (first | apply Kd.R_alloc | apply Kd.R_drewN | apply Kd.R_drew)); exact HO252.out) (Kd.R_base ho68) hb); have n1_ := Aside0.mk (Kd.R_lower (Kd.R_new' ho68 (Kd.R_lt (by (with_reducible repeat (first | apply Kd.R_alloc | apply Kd.R_drewN | apply Kd.R_drew)); exact HO252.out))) (below_size (by repeat (first | (with_reducible first | exact HB.out | apply below_alloc | apply pw_below_drewN | apply below_drew1) | exact HB.out)))); have n2_ := Aside0.mk (below_step (by repeat (first | (with_reducible first | exact HB.out | apply below_alloc | apply pw_below_drewN | apply below_drew1) | exact HB.out)) hb); clear HO252; clear HB; have HO252 := n0_; have HO256 := n1_; have HB := n2_; clear n0_ n1_ n2_; clear hb ho68; obtain ⟨Ao69, co69, eo69⟩ := Kd.R_slice HO256.out; subst eo69) | ((with_reducible refine gate_callee (f := 18) rfl ?_); refine goesL_ (some 13) rfl rfl Tryd.func18 (by kernel_rfl) rfl #[.slice Ao69 y254.length co69] rfl (by (try simp only [List.map_toArray, List.map_cons, List.map_nil]); first | done | rfl | (simp only [List.length_drop, List.length_take]; rfl)) ?_; (with_reducible refine (isa_Decode.calls k _ _ y254 t257 t258 t261 false _ ?side1 ?side2 ?side3 A2.out).mono ?_); (case side1 => exact LaidW.below hLaid_ (by repeat (first | (with_reducible first | exact HB.out | apply below_alloc | apply pw_below_drewN | apply below_drew1) | exact HB.out))); (case side2 => repeat (first | exact (Kd.R_reads' HO256.out).2.2 | (with_reducible refine Kd.C_alloc ?_ _) | (with_reducible refine Kd.C_drewN ?_ _) | (with_reducible refine Kd.C_drew ?_))); (case side3 => exact (Kd.R_reads' HO256.out).2.1); rintro e w70 ⟨v259, rfl, ho0, hb⟩; refine ⟨_, rfl, ?_⟩; have n0_ := Aside0.mk (Kd.R_below (by (with_reducible repeat (first | apply Kd.R_alloc | apply Kd.R_drewN | apply Kd.R_drew)); exact HO252.out) hb); have n1_ := Aside0.mk (Kd.R_below (by (with_reducible repeat (first | apply Kd.R_alloc | apply Kd.R_drewN | apply Kd.R_drew)); exact HO256.out) hb); have n2_ := Aside0.mk (Kd.R_lower ho0 (below_size (by repeat (first | (with_reducible first | exact HB.out | apply below_alloc | apply pw_below_drewN | apply below_drew1) | exact HB.out)))); have n3_ := Aside0.mk (below_step (by repeat (first | (with_reducible first | exact HB.out | apply below_alloc | apply pw_below_drewN | apply below_drew1) | exact HB.out)) hb); clear HO252; clear HO256; clear HB; have HO252 := n0_; have HO256 := n1_; have HO260 := n2_; have HB := n3_; clear n0_ n1_ n2_ n3_; (try clear hb); (try clear hb2); (try clear hk); (try clear hi); (try clear ho0)) | ((with_reducible refine gate_dst (N := 3) rfl ?_); (try (refine gate_guard (by rfl) ?_; dsimp only)); refine box_event ?hg (N := 3) ?hd (cs := #[.int .i64 0, .slice none 0 0]) (t := 28) ?hr ?_; (case hd => rfl); (case hg => rfl); (case hr => first | (go_simp; done) | (go_simp; rfl)); intro gb263 hg w71 hbox hb; have n0_ := Aside0.mk (Kd.R_below (by (with_reducible repeat (first | apply Kd.R_alloc | apply Kd.R_drewN | apply Kd.R_drew)); exact HO252.out) hb); have n1_ := Aside0.mk (Kd.R_below (by (with_reducible repeat (first | apply Kd.R_alloc | apply Kd.R_drewN | apply Kd.R_drew)); exact HO256.out) hb); have n2_ := Aside0.mk (Kd.R_below (by (with_reducible repeat (first | apply Kd.R_alloc | apply Kd.R_drewN | apply Kd.R_drew)); exact HO260.out) hb); have n3_ := Aside0.mk (below_step (by repeat (first | (with_reducible first | exact HB.out | apply below_alloc | apply pw_below_drewN | apply below_drew1) | exact HB.out)) hb); have n4_ := Aside0.mk (hbox); have n5_ := Aside0.mk ((by rw [hg]; exact (below_size (by repeat (first | (with_reducible first | exact HB.out | apply below_alloc | apply pw_below_drewN | apply below_drew1) | exact HB.out))) : w.heap.size ≤ gb263)); have n6_ := Aside0.mk ((by rw [hg]; exact (below_size (by repeat (first | (with_reducible first | exact HB.out | apply below_alloc | apply pw_below_drewN | apply below_drew1) | exact HB.out))) : w.heap.size ≤ gb263)); clear HO252; clear HO256; clear HO260; clear HB; have HO252 := n0_; have HO256 := n1_; have HO260 := n2_; have HB := n3_; have BK263 := n4_; have GW263 := n5_; have GE263 := n6_; clear n0_ n1_ n2_ n3_ n4_ n5_ n6_; clear hb hbox hg; have hcz72_0 : w71.cell? ⟨gb263, 0, none⟩ = some (.int .i64 0) := (blk_cell BK263.out 0).trans rfl; have hcz72_1 : w71.cell? ⟨gb263, 1, none⟩ = some (.slice none 0 0) := (blk_cell BK263.out 1).trans rfl; have hfz72_0 := blk_frozen BK263.out 0; have hfz72_1 := blk_frozen BK263.out 1; obtain ⟨Ao73, co73, eo73⟩ := Kd.R_slice HO260.out; subst eo73; obtain ⟨Ao74, co74, eo74⟩ := Kd.R_slice HO252.out; subst eo74; have p264 : 0 ≤ (1 : Int) := (by omega); have q264 : 1 < (t250.length : Int) := of_decide_eq_true (by first | (with_reducible assumption) | assumption); obtain ⟨ad264, e264, hx264_0⟩ := Kd.at_int (Kd.R_reads' HO252.out).2.2 1 p264 q264; cases e264; (try simp only [show (1 : Int).toNat = 1 from rfl, Nat.reduceMul, Nat.reduceEqDiff, Go.Addr.add, ↓reduceIte] at hx264_0); have qi264 : (1 < t250.length) = True := eq_true (by omega); (try rw [show ((1 : Int)).toNat = 1 from rfl] at hx264_0); have hn264_0 : ad264.block ≠ gb263 := Kd.own_blk (Kd.R_ne HO252.out BK263.out (by decide)); have hn264_1 : ad264.block ≠ gb263 := Kd.own_blk (Kd.R_ne HO252.out BK263.out (by decide)); replace hx264_0 := (cell_far (p := ⟨gb263, 0, none⟩) (by first | (rw [add_block]; exact hn264_0) | (show (Addr.add _ _).block ≠ _; rw [add_block]; exact hn264_0) | exact hn264_0) (.int .i64 t257)).trans hx264_0; replace hx264_0 := (cell_far (p := ⟨gb263, 1, none⟩) (by first | (rw [add_block]; exact hn264_1) | (show (Addr.add _ _).block ≠ _; rw [add_block]; exact hn264_1) | exact hn264_1) (.slice Ao73 t258.length co73)).trans hx264_0; clear hn264_0; clear hn264_1; replace p264 := eq_true p264; replace q264 := eq_true q264))
            go_ret
            exact ⟨by first | rfl | (simp [errW_none, errW_some] <;> rfl) | (simp [*, errW_none, errW_some] <;> rfl), by repeat (first | (with_reducible first | exact HB.out | apply below_alloc | apply pw_below_drewN | apply below_drew1 | refine below_set ?_ GE263.out) | exact HB.out)⟩
        · rw [if_neg c6] at H
          have c6b0 : ((rd t250 1) == 4) = false := beq_eq_false_iff_ne.mpr c6
          have c6b1 : ((rd t250 1) != 4) = true := bne_iff_ne.mpr c6
          obtain rfl := Option.some.inj H
          go_enter Tryd.func14, Tryd.ntmps14
          go_wp2_with (first | ((with_reducible refine gate_callee (f := 21) rfl ?_); refine goesL_ (some 8) rfl rfl Tryd.func21 (by kernel_rfl) rfl #[.agg #[.int .i64 3, .slice none 0 0]] rfl (by (try simp only [List.map_toArray, List.map_cons, List.map_nil]); first | done | rfl | (simp only [List.length_drop, List.length_take]; rfl)) ?_; (refine (isa_Encode.calls k 3 _ _ ([] : List Int) t250 true _ ?side1 ?side2 ?side3 A1.out).mono ?_); (case side1 => exact LaidW.below hLaid_ (by repeat (first | (with_reducible first | exact HB.out | apply below_alloc | apply pw_below_drewN | apply below_drew1) | exact HB.out))); (case side2 => exact Kd.C_nil _ _); (case side3 => exact Nat.le_refl _); rintro e w75 ⟨v251, rfl, ho0, hb⟩; refine ⟨_, rfl, ?_⟩; have n0_ := Aside0.mk (Kd.R_lower ho0 (below_size (by repeat (first | (with_reducible first | exact HB.out | apply below_alloc | apply pw_below_drewN | apply below_drew1) | exact HB.out)))); have n1_ := Aside0.mk (below_step (by repeat (first | (with_reducible first | exact HB.out | apply below_alloc | apply pw_below_drewN | apply below_drew1) | exact HB.out)) hb); clear HB; have HO252 := n0_; have HB := n1_; clear n0_ n1_; (try clear hb); (try clear hb2); (try clear hk); (try clear hi); (try clear ho0)) | ((with_reducible refine gate_dst (N := 12) rfl ?_); (try (refine gate_guard (by rfl) ?_; dsimp only)); refine Kd.R_lit (Kd.int .u8) _ 5 ?hg (N := 12) ?hd (xs := ([0, 4, 9] : List Int)) (inner := [.int .u8 0, .int .u8 4, .int .u8 9]) (ok := fun _ => True) (okp := fun _ => True) ?hr ?hp (fun _ hk => hk) trivial (Below.refl _ _) (Nat.le_refl _) (by simp) ?_; (case hd => rfl); (case hg => rfl); (case hr => first | (go_simp; done) | (go_simp; rfl)); (case hp => exact (Reps.one (show Kd.M (Kd.int .u8) _ _ _ 0 [.int .u8 0] from rfl) (Reps.one (show Kd.M (Kd.int .u8) _ _ _ 4 [.int .u8 4] from rfl) (Reps.one (show Kd.M (Kd.int .u8) _ _ _ 9 [.int .u8 9] from rfl) (Reps.none _ _))))); intro v255 w76 ho77 hb hg_ hnew_; clear hg_ hnew_; (first | rw [← Ny254.out] at ho77 | (simp only [Int.reduceToNat] at ho77; rw [← Ny254.out] at ho77)); have n0_ := Aside0.mk (Kd.R_elder' (by (with_reducible repeat (first | apply Kd.R_alloc | apply Kd.R_drewN | apply Kd.R_drew)); exact HO252.out) (Kd.R_base ho77) hb); have n1_ := Aside0.mk (Kd.R_lower (Kd.R_new' ho77 (Kd.R_lt (by (with_reducible repeat (first | apply Kd.R_alloc | apply Kd.R_drewN | apply Kd.R_drew)); exact HO252.out))) (below_size (by repeat (first | (with_reducible first | exact HB.out | apply below_alloc | apply pw_below_drewN | apply below_drew1) | exact HB.out)))); have n2_ := Aside0.mk (below_step (by repeat (first | (with_reducible first | exact HB.out | apply below_alloc | apply pw_below_drewN | apply below_drew1) | exact HB.out)) hb); clear HO252; clear HB; have HO252 := n0_; have HO256 := n1_; have HB := n2_; clear n0_ n1_ n2_; clear hb ho77; obtain ⟨Ao78, co78, eo78⟩ := Kd.R_slice HO256.out; subst eo78) | ((with_reducible refine gate_callee (f := 18) rfl ?_); refine goesL_ (some 13) rfl rfl Tryd.func18 (by kernel_rfl) rfl #[.slice Ao78 y254.length co78] rfl (by (try simp only [List.map_toArray, List.map_cons, List.map_nil]); first | done | rfl | (simp only [List.length_drop, List.length_take]; rfl)) ?_; (with_reducible refine (isa_Decode.calls k _ _ y254 t257 t258 t261 t262 _ ?side1 ?side2 ?side3 A2.out).mono ?_); (case side1 => exact LaidW.below hLaid_ (by repeat (first | (with_reducible first | exact HB.out | apply below_alloc | apply pw_below_drewN | apply below_drew1) | exact HB.out))); (case side2 => repeat (first | exact (Kd.R_reads' HO256.out).2.2 | (with_reducible refine Kd.C_alloc ?_ _) | (with_reducible refine Kd.C_drewN ?_ _) | (with_reducible refine Kd.C_drew ?_))); (case side3 => exact (Kd.R_reads' HO256.out).2.1); rintro e w79 ⟨v259, rfl, ho0, hb⟩; refine ⟨_, rfl, ?_⟩; have n0_ := Aside0.mk (Kd.R_below (by (with_reducible repeat (first | apply Kd.R_alloc | apply Kd.R_drewN | apply Kd.R_drew)); exact HO252.out) hb); have n1_ := Aside0.mk (Kd.R_below (by (with_reducible repeat (first | apply Kd.R_alloc | apply Kd.R_drewN | apply Kd.R_drew)); exact HO256.out) hb); have n2_ := Aside0.mk (Kd.R_lower ho0 (below_size (by repeat (first | (with_reducible first | exact HB.out | apply below_alloc | apply pw_below_drewN | apply below_drew1) | exact HB.out)))); have n3_ := Aside0.mk (below_step (by repeat (first | (with_reducible first | exact HB.out | apply below_alloc | apply pw_below_drewN | apply below_drew1) | exact HB.out)) hb); clear HO252; clear HO256; clear HB; have HO252 := n0_; have HO256 := n1_; have HO260 := n2_; have HB := n3_; clear n0_ n1_ n2_ n3_; (try clear hb); (try clear hb2); (try clear hk); (try clear hi); (try clear ho0)) | ((with_reducible refine gate_dst (N := 3) rfl ?_); (try (refine gate_guard (by rfl) ?_; dsimp only)); refine box_event ?hg (N := 3) ?hd (cs := #[.int .i64 0, .slice none 0 0]) (t := 28) ?hr ?_; (case hd => rfl); (case hg => rfl); (case hr => first | (go_simp; done) | (go_simp; rfl)); intro gb263 hg w80 hbox hb; have n0_ := Aside0.mk (Kd.R_below (by (with_reducible repeat (first | apply Kd.R_alloc | apply Kd.R_drewN | apply Kd.R_drew)); exact HO252.out) hb); have n1_ := Aside0.mk (Kd.R_below (by (with_reducible repeat (first | apply Kd.R_alloc | apply Kd.R_drewN | apply Kd.R_drew)); exact HO256.out) hb); have n2_ := Aside0.mk (Kd.R_below (by (with_reducible repeat (first | apply Kd.R_alloc | apply Kd.R_drewN | apply Kd.R_drew)); exact HO260.out) hb); have n3_ := Aside0.mk (below_step (by repeat (first | (with_reducible first | exact HB.out | apply below_alloc | apply pw_below_drewN | apply below_drew1) | exact HB.out)) hb); have n4_ := Aside0.mk (hbox); have n5_ := Aside0.mk ((by rw [hg]; exact (below_size (by repeat (first | (with_reducible first | exact HB.out | apply below_alloc | apply pw_below_drewN | apply below_drew1) | exact HB.out))) : w.heap.size ≤ gb263)); have n6_ := Aside0.mk ((by rw [hg]; exact (below_size (by repeat (first | (with_reducible first | exact HB.out | apply below_alloc | apply pw_below_drewN | apply below_drew1) | exact HB.out))) : w.heap.size ≤ gb263)); clear HO252; clear HO256; clear HO260; clear HB; have HO252 := n0_; have HO256 := n1_; have HO260 := n2_; have HB := n3_; have BK263 := n4_; have GW263 := n5_; have GE263 := n6_; clear n0_ n1_ n2_ n3_ n4_ n5_ n6_; clear hb hbox hg; have hcz81_0 : w80.cell? ⟨gb263, 0, none⟩ = some (.int .i64 0) := (blk_cell BK263.out 0).trans rfl; have hcz81_1 : w80.cell? ⟨gb263, 1, none⟩ = some (.slice none 0 0) := (blk_cell BK263.out 1).trans rfl; have hfz81_0 := blk_frozen BK263.out 0; have hfz81_1 := blk_frozen BK263.out 1; obtain ⟨Ao82, co82, eo82⟩ := Kd.R_slice HO260.out; subst eo82; obtain ⟨Ao83, co83, eo83⟩ := Kd.R_slice HO252.out; subst eo83; have p264 : 0 ≤ (1 : Int) := (by omega); have q264 : 1 < (t250.length : Int) := of_decide_eq_true (by first | (with_reducible assumption) | assumption); obtain ⟨ad264, e264, hx264_0⟩ := Kd.at_int (Kd.R_reads' HO252.out).2.2 1 p264 q264; cases e264; (try simp only [show (1 : Int).toNat = 1 from rfl, Nat.reduceMul, Nat.reduceEqDiff, Go.Addr.add, ↓reduceIte] at hx264_0); have qi264 : (1 < t250.length) = True := eq_true (by omega); (try rw [show ((1 : Int)).toNat = 1 from rfl] at hx264_0); have hn264_0 : ad264.block ≠ gb263 := Kd.own_blk (Kd.R_ne HO252.out BK263.out (by decide)); have hn264_1 : ad264.block ≠ gb263 := Kd.own_blk (Kd.R_ne HO252.out BK263.out (by decide)); replace hx264_0 := (cell_far (p := ⟨gb263, 0, none⟩) (by first | (rw [add_block]; exact hn264_0) | (show (Addr.add _ _).block ≠ _; rw [add_block]; exact hn264_0) | exact hn264_0) (.int .i64 t257)).trans hx264_0; replace hx264_0 := (cell_far (p := ⟨gb263, 1, none⟩) (by first | (rw [add_block]; exact hn264_1) | (show (Addr.add _ _).block ≠ _; rw [add_block]; exact hn264_1) | exact hn264_1) (.slice Ao82 t258.length co82)).trans hx264_0; clear hn264_0; clear hn264_1; replace p264 := eq_true p264; replace q264 := eq_true q264))
          go_ret
          exact ⟨by first | rfl | (simp [errW_none, errW_some] <;> rfl) | (simp [*, errW_none, errW_some] <;> rfl), by repeat (first | (with_reducible first | exact HB.out | apply below_alloc | apply pw_below_drewN | apply below_drew1 | refine below_set ?_ GE263.out) | exact HB.out)⟩
      · rw [if_neg c5] at H
        exact absurd H (by simp)
    · rw [if_neg c4] at H
      have c4b0 : ((t250.length : Int) == 2) = false := beq_eq_false_iff_ne.mpr c4
      have c4b1 : ((t250.length : Int) != 2) = true := bne_iff_ne.mpr c4
      obtain rfl := Option.some.inj H
      go_enter Tryd.func14, Tryd.ntmps14
      go_wp2_with (first | ((with_reducible refine gate_callee (f := 21) rfl ?_); refine goesL_ (some 8) rfl rfl Tryd.func21 (by kernel_rfl) rfl #[.agg #[.int .i64 3, .slice none 0 0]] rfl (by (try simp only [List.map_toArray, List.map_cons, List.map_nil]); first | done | rfl | (simp only [List.length_drop, List.length_take]; rfl)) ?_; (refine (isa_Encode.calls k 3 _ _ ([] : List Int) t250 true _ ?side1 ?side2 ?side3 A1.out).mono ?_); (case side1 => exact LaidW.below hLaid_ (by repeat (first | (with_reducible first | exact HB.out | apply below_alloc | apply pw_below_drewN | apply below_drew1) | exact HB.out))); (case side2 => exact Kd.C_nil _ _); (case side3 => exact Nat.le_refl _); rintro e w84 ⟨v251, rfl, ho0, hb⟩; refine ⟨_, rfl, ?_⟩; have n0_ := Aside0.mk (Kd.R_lower ho0 (below_size (by repeat (first | (with_reducible first | exact HB.out | apply below_alloc | apply pw_below_drewN | apply below_drew1) | exact HB.out)))); have n1_ := Aside0.mk (below_step (by repeat (first | (with_reducible first | exact HB.out | apply below_alloc | apply pw_below_drewN | apply below_drew1) | exact HB.out)) hb); clear HB; have HO252 := n0_; have HB := n1_; clear n0_ n1_; (try clear hb); (try clear hb2); (try clear hk); (try clear hi); (try clear ho0)) | ((with_reducible refine gate_dst (N := 12) rfl ?_); (try (refine gate_guard (by rfl) ?_; dsimp only)); refine Kd.R_lit (Kd.int .u8) _ 5 ?hg (N := 12) ?hd (xs := ([0, 4, 9] : List Int)) (inner := [.int .u8 0, .int .u8 4, .int .u8 9]) (ok := fun _ => True) (okp := fun _ => True) ?hr ?hp (fun _ hk => hk) trivial (Below.refl _ _) (Nat.le_refl _) (by simp) ?_; (case hd => rfl); (case hg => rfl); (case hr => first | (go_simp; done) | (go_simp; rfl)); (case hp => exact (Reps.one (show Kd.M (Kd.int .u8) _ _ _ 0 [.int .u8 0] from rfl) (Reps.one (show Kd.M (Kd.int .u8) _ _ _ 4 [.int .u8 4] from rfl) (Reps.one (show Kd.M (Kd.int .u8) _ _ _ 9 [.int .u8 9] from rfl) (Reps.none _ _))))); intro v255 w85 ho86 hb hg_ hnew_; clear hg_ hnew_; (first | rw [← Ny254.out] at ho86 | (simp only [Int.reduceToNat] at ho86; rw [← Ny254.out] at ho86)); have n0_ := Aside0.mk (Kd.R_elder' (by (with_reducible repeat (first | apply Kd.R_alloc | apply Kd.R_drewN | apply Kd.R_drew)); exact HO252.out) (Kd.R_base ho86) hb); have n1_ := Aside0.mk (Kd.R_lower (Kd.R_new' ho86 (Kd.R_lt (by (with_reducible repeat (first | apply Kd.R_alloc | apply Kd.R_drewN | apply Kd.R_drew)); exact HO252.out))) (below_size (by repeat (first | (with_reducible first | exact HB.out | apply below_alloc | apply pw_below_drewN | apply below_drew1) | exact HB.out)))); have n2_ := Aside0.mk (below_step (by repeat (first | (with_reducible first | exact HB.out | apply below_alloc | apply pw_below_drewN | apply below_drew1) | exact HB.out)) hb); clear HO252; clear HB; have HO252 := n0_; have HO256 := n1_; have HB := n2_; clear n0_ n1_ n2_; clear hb ho86; obtain ⟨Ao87, co87, eo87⟩ := Kd.R_slice HO256.out; subst eo87) | ((with_reducible refine gate_callee (f := 18) rfl ?_); refine goesL_ (some 13) rfl rfl Tryd.func18 (by kernel_rfl) rfl #[.slice Ao87 y254.length co87] rfl (by (try simp only [List.map_toArray, List.map_cons, List.map_nil]); first | done | rfl | (simp only [List.length_drop, List.length_take]; rfl)) ?_; (with_reducible refine (isa_Decode.calls k _ _ y254 t257 t258 t261 t262 _ ?side1 ?side2 ?side3 A2.out).mono ?_); (case side1 => exact LaidW.below hLaid_ (by repeat (first | (with_reducible first | exact HB.out | apply below_alloc | apply pw_below_drewN | apply below_drew1) | exact HB.out))); (case side2 => repeat (first | exact (Kd.R_reads' HO256.out).2.2 | (with_reducible refine Kd.C_alloc ?_ _) | (with_reducible refine Kd.C_drewN ?_ _) | (with_reducible refine Kd.C_drew ?_))); (case side3 => exact (Kd.R_reads' HO256.out).2.1); rintro e w88 ⟨v259, rfl, ho0, hb⟩; refine ⟨_, rfl, ?_⟩; have n0_ := Aside0.mk (Kd.R_below (by (with_reducible repeat (first | apply Kd.R_alloc | apply Kd.R_drewN | apply Kd.R_drew)); exact HO252.out) hb); have n1_ := Aside0.mk (Kd.R_below (by (with_reducible repeat (first | apply Kd.R_alloc | apply Kd.R_drewN | apply Kd.R_drew)); exact HO256.out) hb); have n2_ := Aside0.mk (Kd.R_lower ho0 (below_size (by repeat (first | (with_reducible first | exact HB.out | apply below_alloc | apply pw_below_drewN | apply below_drew1) | exact HB.out)))); have n3_ := Aside0.mk (below_step (by repeat (first | (with_reducible first | exact HB.out | apply below_alloc | apply pw_below_drewN | apply below_drew1) | exact HB.out)) hb); clear HO252; clear HO256; clear HB; have HO252 := n0_; have HO256 := n1_; have HO260 := n2_; have HB := n3_; clear n0_ n1_ n2_ n3_; (try clear hb); (try clear hb2); (try clear hk); (try clear hi); (try clear ho0)) | ((with_reducible refine gate_dst (N := 3) rfl ?_); (try (refine gate_guard (by rfl) ?_; dsimp only)); refine box_event ?hg (N := 3) ?hd (cs := #[.int .i64 0, .slice none 0 0]) (t := 28) ?hr ?_; (case hd => rfl); (case hg => rfl); (case hr => first | (go_simp; done) | (go_simp; rfl)); intro gb263 hg w89 hbox hb; have n0_ := Aside0.mk (Kd.R_below (by (with_reducible repeat (first | apply Kd.R_alloc | apply Kd.R_drewN | apply Kd.R_drew)); exact HO252.out) hb); have n1_ := Aside0.mk (Kd.R_below (by (with_reducible repeat (first | apply Kd.R_alloc | apply Kd.R_drewN | apply Kd.R_drew)); exact HO256.out) hb); have n2_ := Aside0.mk (Kd.R_below (by (with_reducible repeat (first | apply Kd.R_alloc | apply Kd.R_drewN | apply Kd.R_drew)); exact HO260.out) hb); have n3_ := Aside0.mk (below_step (by repeat (first | (with_reducible first | exact HB.out | apply below_alloc | apply pw_below_drewN | apply below_drew1) | exact HB.out)) hb); have n4_ := Aside0.mk (hbox); have n5_ := Aside0.mk ((by rw [hg]; exact (below_size (by repeat (first | (with_reducible first | exact HB.out | apply below_alloc | apply pw_below_drewN | apply below_drew1) | exact HB.out))) : w.heap.size ≤ gb263)); have n6_ := Aside0.mk ((by rw [hg]; exact (below_size (by repeat (first | (with_reducible first | exact HB.out | apply below_alloc | apply pw_below_drewN | apply below_drew1) | exact HB.out))) : w.heap.size ≤ gb263)); clear HO252; clear HO256; clear HO260; clear HB; have HO252 := n0_; have HO256 := n1_; have HO260 := n2_; have HB := n3_; have BK263 := n4_; have GW263 := n5_; have GE263 := n6_; clear n0_ n1_ n2_ n3_ n4_ n5_ n6_; clear hb hbox hg; have hcz90_0 : w89.cell? ⟨gb263, 0, none⟩ = some (.int .i64 0) := (blk_cell BK263.out 0).trans rfl; have hcz90_1 : w89.cell? ⟨gb263, 1, none⟩ = some (.slice none 0 0) := (blk_cell BK263.out 1).trans rfl; have hfz90_0 := blk_frozen BK263.out 0; have hfz90_1 := blk_frozen BK263.out 1; obtain ⟨Ao91, co91, eo91⟩ := Kd.R_slice HO260.out; subst eo91; obtain ⟨Ao92, co92, eo92⟩ := Kd.R_slice HO252.out; subst eo92))
      go_ret
      exact ⟨by first | rfl | (simp [errW_none, errW_some] <;> rfl) | (simp [*, errW_none, errW_some] <;> rfl), by repeat (first | (with_reducible first | exact HB.out | apply below_alloc | apply pw_below_drewN | apply below_drew1 | refine below_set ?_ GE263.out) | exact HB.out)⟩
  · replace c3 := Bool.eq_false_iff.mpr c3
    subst c3
    have H1 : (some false) = some r := by rw [if_neg (show ¬ (false = true) by decide)] at H; exact H
    clear H
    have H := H1
    clear H1
    obtain rfl := Option.some.inj H
    go_enter Tryd.func14, Tryd.ntmps14
    go_wp2_with (first | ((with_reducible refine gate_callee (f := 21) rfl ?_); refine goesL_ (some 8) rfl rfl Tryd.func21 (by kernel_rfl) rfl #[.agg #[.int .i64 3, .slice none 0 0]] rfl (by (try simp only [List.map_toArray, List.map_cons, List.map_nil]); first | done | rfl | (simp only [List.length_drop, List.length_take]; rfl)) ?_; (refine (isa_Encode.calls k 3 _ _ ([] : List Int) t250 false _ ?side1 ?side2 ?side3 A1.out).mono ?_); (case side1 => exact LaidW.below hLaid_ (by repeat (first | (with_reducible first | exact HB.out | apply below_alloc | apply pw_below_drewN | apply below_drew1) | exact HB.out))); (case side2 => exact Kd.C_nil _ _); (case side3 => exact Nat.le_refl _); rintro e w93 ⟨v251, rfl, ho0, hb⟩; refine ⟨_, rfl, ?_⟩; have n0_ := Aside0.mk (Kd.R_lower ho0 (below_size (by repeat (first | (with_reducible first | exact HB.out | apply below_alloc | apply pw_below_drewN | apply below_drew1) | exact HB.out)))); have n1_ := Aside0.mk (below_step (by repeat (first | (with_reducible first | exact HB.out | apply below_alloc | apply pw_below_drewN | apply below_drew1) | exact HB.out)) hb); clear HB; have HO252 := n0_; have HB := n1_; clear n0_ n1_; (try clear hb); (try clear hb2); (try clear hk); (try clear hi); (try clear ho0)) | ((with_reducible refine gate_dst (N := 12) rfl ?_); (try (refine gate_guard (by rfl) ?_; dsimp only)); refine Kd.R_lit (Kd.int .u8) _ 5 ?hg (N := 12) ?hd (xs := ([0, 4, 9] : List Int)) (inner := [.int .u8 0, .int .u8 4, .int .u8 9]) (ok := fun _ => True) (okp := fun _ => True) ?hr ?hp (fun _ hk => hk) trivial (Below.refl _ _) (Nat.le_refl _) (by simp) ?_; (case hd => rfl); (case hg => rfl); (case hr => first | (go_simp; done) | (go_simp; rfl)); (case hp => exact (Reps.one (show Kd.M (Kd.int .u8) _ _ _ 0 [.int .u8 0] from rfl) (Reps.one (show Kd.M (Kd.int .u8) _ _ _ 4 [.int .u8 4] from rfl) (Reps.one (show Kd.M (Kd.int .u8) _ _ _ 9 [.int .u8 9] from rfl) (Reps.none _ _))))); intro v255 w94 ho95 hb hg_ hnew_; clear hg_ hnew_; (first | rw [← Ny254.out] at ho95 | (simp only [Int.reduceToNat] at ho95; rw [← Ny254.out] at ho95)); have n0_ := Aside0.mk (Kd.R_elder' (by (with_reducible repeat (first | apply Kd.R_alloc | apply Kd.R_drewN | apply Kd.R_drew)); exact HO252.out) (Kd.R_base ho95) hb); have n1_ := Aside0.mk (Kd.R_lower (Kd.R_new' ho95 (Kd.R_lt (by (with_reducible repeat (first | apply Kd.R_alloc | apply Kd.R_drewN | apply Kd.R_drew)); exact HO252.out))) (below_size (by repeat (first | (with_reducible first | exact HB.out | apply below_alloc | apply pw_below_drewN | apply below_drew1) | exact HB.out)))); have n2_ := Aside0.mk (below_step (by repeat (first | (with_reducible first | exact HB.out | apply below_alloc | apply pw_below_drewN | apply below_drew1) | exact HB.out)) hb); clear HO252; clear HB; have HO252 := n0_; have HO256 := n1_; have HB := n2_; clear n0_ n1_ n2_; clear hb ho95; obtain ⟨Ao96, co96, eo96⟩ := Kd.R_slice HO256.out; subst eo96) | ((with_reducible refine gate_callee (f := 18) rfl ?_); refine goesL_ (some 13) rfl rfl Tryd.func18 (by kernel_rfl) rfl #[.slice Ao96 y254.length co96] rfl (by (try simp only [List.map_toArray, List.map_cons, List.map_nil]); first | done | rfl | (simp only [List.length_drop, List.length_take]; rfl)) ?_; (with_reducible refine (isa_Decode.calls k _ _ y254 t257 t258 t261 t262 _ ?side1 ?side2 ?side3 A2.out).mono ?_); (case side1 => exact LaidW.below hLaid_ (by repeat (first | (with_reducible first | exact HB.out | apply below_alloc | apply pw_below_drewN | apply below_drew1) | exact HB.out))); (case side2 => repeat (first | exact (Kd.R_reads' HO256.out).2.2 | (with_reducible refine Kd.C_alloc ?_ _) | (with_reducible refine Kd.C_drewN ?_ _) | (with_reducible refine Kd.C_drew ?_))); (case side3 => exact (Kd.R_reads' HO256.out).2.1); rintro e w97 ⟨v259, rfl, ho0, hb⟩; refine ⟨_, rfl, ?_⟩; have n0_ := Aside0.mk (Kd.R_below (by (with_reducible repeat (first | apply Kd.R_alloc | apply Kd.R_drewN | apply Kd.R_drew)); exact HO252.out) hb); have n1_ := Aside0.mk (Kd.R_below (by (with_reducible repeat (first | apply Kd.R_alloc | apply Kd.R_drewN | apply Kd.R_drew)); exact HO256.out) hb); have n2_ := Aside0.mk (Kd.R_lower ho0 (below_size (by repeat (first | (with_reducible first | exact HB.out | apply below_alloc | apply pw_below_drewN | apply below_drew1) | exact HB.out)))); have n3_ := Aside0.mk (below_step (by repeat (first | (with_reducible first | exact HB.out | apply below_alloc | apply pw_below_drewN | apply below_drew1) | exact HB.out)) hb); clear HO252; clear HO256; clear HB; have HO252 := n0_; have HO256 := n1_; have HO260 := n2_; have HB := n3_; clear n0_ n1_ n2_ n3_; (try clear hb); (try clear hb2); (try clear hk); (try clear hi); (try clear ho0)) | ((with_reducible refine gate_dst (N := 3) rfl ?_); (try (refine gate_guard (by rfl) ?_; dsimp only)); refine box_event ?hg (N := 3) ?hd (cs := #[.int .i64 0, .slice none 0 0]) (t := 28) ?hr ?_; (case hd => rfl); (case hg => rfl); (case hr => first | (go_simp; done) | (go_simp; rfl)); intro gb263 hg w98 hbox hb; have n0_ := Aside0.mk (Kd.R_below (by (with_reducible repeat (first | apply Kd.R_alloc | apply Kd.R_drewN | apply Kd.R_drew)); exact HO252.out) hb); have n1_ := Aside0.mk (Kd.R_below (by (with_reducible repeat (first | apply Kd.R_alloc | apply Kd.R_drewN | apply Kd.R_drew)); exact HO256.out) hb); have n2_ := Aside0.mk (Kd.R_below (by (with_reducible repeat (first | apply Kd.R_alloc | apply Kd.R_drewN | apply Kd.R_drew)); exact HO260.out) hb); have n3_ := Aside0.mk (below_step (by repeat (first | (with_reducible first | exact HB.out | apply below_alloc | apply pw_below_drewN | apply below_drew1) | exact HB.out)) hb); have n4_ := Aside0.mk (hbox); have n5_ := Aside0.mk ((by rw [hg]; exact (below_size (by repeat (first | (with_reducible first | exact HB.out | apply below_alloc | apply pw_below_drewN | apply below_drew1) | exact HB.out))) : w.heap.size ≤ gb263)); have n6_ := Aside0.mk ((by rw [hg]; exact (below_size (by repeat (first | (with_reducible first | exact HB.out | apply below_alloc | apply pw_below_drewN | apply below_drew1) | exact HB.out))) : w.heap.size ≤ gb263)); clear HO252; clear HO256; clear HO260; clear HB; have HO252 := n0_; have HO256 := n1_; have HO260 := n2_; have HB := n3_; have BK263 := n4_; have GW263 := n5_; have GE263 := n6_; clear n0_ n1_ n2_ n3_ n4_ n5_ n6_; clear hb hbox hg; have hcz99_0 : w98.cell? ⟨gb263, 0, none⟩ = some (.int .i64 0) := (blk_cell BK263.out 0).trans rfl; have hcz99_1 : w98.cell? ⟨gb263, 1, none⟩ = some (.slice none 0 0) := (blk_cell BK263.out 1).trans rfl; have hfz99_0 := blk_frozen BK263.out 0; have hfz99_1 := blk_frozen BK263.out 1; obtain ⟨Ao100, co100, eo100⟩ := Kd.R_slice HO260.out; subst eo100))
    go_ret
    exact ⟨by first | rfl | (simp [errW_none, errW_some] <;> rfl) | (simp [*, errW_none, errW_some] <;> rfl), by repeat (first | (with_reducible first | exact HB.out | apply below_alloc | apply pw_below_drewN | apply below_drew1 | refine below_set ?_ GE263.out) | exact HB.out)⟩
set_option maxHeartbeats 8000000 in
set_option maxRecDepth 100000 in
theorem letterpressref2_Words.calls (k : Nat) (a0 : ByteArray) (r : List ByteArray) (w : World) (h : letterpressref2_Words.f k a0 = some r) :
    Calls Tryd.prog 24 #[.string a0] w fun e w' => ∃ v0_ : Value, e = .returned (v0_) ∧ Kd.R Kd.string 9 w' w.heap.size (fun _ => True) v0_ r ∧ Below w.heap.size w w' := by
  have HB := Aside0.mk (Below.refl w.heap.size w)
  have H : (letterpressref2_Words.l0 k a0 ([] : List ByteArray) 0 0) = some r := h
  clear h
  have H' := Aside0.mk H
  clear H
  go_enter Tryd.func24, Tryd.ntmps24
  go_wp2
  go_loopg [3, 4, 5] k (fun kq v3 v4 v5 w' => ∃ (x3_1 : List ByteArray) (x4_1 : Int) (x5_1 : Int), v4 = .int .i64 x4_1 ∧ v5 = .int .i64 x5_1 ∧ Aside0 (letterpressref2_Words.l0 kq a0 x3_1 x4_1 x5_1 = some r) ∧ Aside0 (kq ≤ k) ∧ Aside0 (Kd.R Kd.string 9 w' w.heap.size (fun _ => True) v3 x3_1) ∧ Aside0 (Below w.heap.size w w'))
  case atStart => exact ⟨(([] : List ByteArray)), (0), (0), (by first | rfl | (simp; done) | (simp [*]; done)), (by first | rfl | (simp; done) | (simp [*]; done)), H', ⟨Nat.le_refl _⟩, ⟨by first | exact Kd.R_nil _ _ _ _ _ | exact Kd.N_nil _ _ _ _ _ | exact Kd.V_nil _ _ _ _ _ | exact Kd.Q_nil _ _ _ _ _ | exact Kd.S_nil _ _ _ _ _⟩, ⟨by repeat (first | (with_reducible first | exact HB.out | apply below_alloc | apply pw_below_drewN | apply below_drew1) | exact HB.out)⟩⟩
  case round =>
    clear H'
    obtain ⟨x3_1, x4_1, x5_1, rfl, rfl, HA, HK1, HO_3, HB⟩ := hrel
    cases gk with
    | zero => exact absurd HA.out (by simp [letterpressref2_Words.l0])
    | succ k1 =>
      have H := HA.out
      clear HA
      simp only [letterpressref2_Words.l0] at H
      by_cases c2 : x5_1 ≤ (a0.size : Int)
      · rw [if_pos c2] at H
        have c2b0 : decide (x5_1 ≤ (a0.size : Int)) = true := decide_eq_true c2
        clear c2
        have HC3 := Aside0.mk H
        clear H
        go_upto_region 6 with (fail)
        go_cut [21] (fun v21 wc => ∃ (kq : Nat) (x21_2 : Bool), v21 = .bool x21_2 ∧ Aside0 (letterpressref2_Words.j1 kq a0 x3_1 x4_1 x5_1 x21_2 = some r) ∧ Aside0 (kq ≤ k1) ∧ Aside0 (Kd.R Kd.string 9 wc w.heap.size (fun _ => True) u3 x3_1) ∧ Aside0 (Below w.heap.size w wc))
        case first =>
          have H := HC3.out
          clear HC3
          by_cases c4 : x5_1 = (a0.size : Int)
          · rw [if_pos c4] at H
            have c4b0 : (x5_1 == (a0.size : Int)) = true := beq_iff_eq.mpr c4
            have c4b1 : (x5_1 != (a0.size : Int)) = false := bne_eq_false_iff_eq.mpr c4
            clear c4
            (first | rw [c4b0] | (simp only [i64_w, i32_w]; rw [c4b0]) | skip)
            have H' := Aside0.mk H
            clear H
            go_wp2
            go_meet
            case rel => exact ⟨_, (true), (by first | rfl | (simp; done) | (simp [*]; done)), H', ⟨by have := HK1.out; first | omega | exact Nat.le_refl _⟩, ⟨by (with_reducible repeat (first | apply Kd.R_alloc | apply Kd.R_drewN | apply Kd.R_drew)); exact HO_3.out⟩, ⟨by repeat (first | (with_reducible first | exact HB.out | apply below_alloc | apply pw_below_drewN | apply below_drew1) | exact HB.out)⟩⟩
          · rw [if_neg c4] at H
            have c4b0 : (x5_1 == (a0.size : Int)) = false := beq_eq_false_iff_ne.mpr c4
            have c4b1 : (x5_1 != (a0.size : Int)) = true := bne_iff_ne.mpr c4
            (first | rw [c4b0] | (simp only [i64_w, i32_w]; rw [c4b0]) | skip)
            by_cases c5 : 0 ≤ x5_1
            · rw [if_pos c5] at H
              have c5b0 : decide (0 ≤ x5_1) = true := decide_eq_true c5
              clear c5
              by_cases c6 : x5_1 < (a0.size : Int)
              · rw [if_pos c6] at H
                have c6b0 : decide (x5_1 < (a0.size : Int)) = true := decide_eq_true c6
                clear c6
                have H' := Aside0.mk H
                clear H
                have p7 : 0 ≤ (x5_1 : Int) := of_decide_eq_true (by first | (with_reducible assumption) | assumption)
                have q7 : x5_1 < (a0.size : Int) := of_decide_eq_true (by first | (with_reducible assumption) | assumption)
                have hx7 := bt_at a0 x5_1
                replace p7 := eq_true p7
                replace q7 := eq_true q7
                go_wp2
                go_meet
                case rel => exact ⟨_, (((bt a0 x5_1) == 32)), (by first | rfl | (simp; done) | (simp [*]; done)), H', ⟨by have := HK1.out; first | omega | exact Nat.le_refl _⟩, ⟨by (with_reducible repeat (first | apply Kd.R_alloc | apply Kd.R_drewN | apply Kd.R_drew)); exact HO_3.out⟩, ⟨by repeat (first | (with_reducible first | exact HB.out | apply below_alloc | apply pw_below_drewN | apply below_drew1) | exact HB.out)⟩⟩
              · rw [if_neg c6] at H
                exact absurd H (by simp)
            · rw [if_neg c5] at H
              exact absurd H (by simp)
        case rest =>
          clear HC3
          try clear c2
          try clear c2b0
          try clear p2
          try clear c4
          try clear c4b0
          try clear c4b1
          try clear c5
          try clear c5b0
          try clear c6
          try clear c6b0
          try clear p7
          try clear q7
          try clear hx7
          try clear p7
          try clear q7
          obtain ⟨kq, x21_2, rfl, HA, HJ2, HO_3, HB⟩ := hcut
          cases kq with
          | zero => exact absurd HA.out (by simp [letterpressref2_Words.j1])
          | succ kj2 =>
            have H := HA.out
            clear HA
            simp only [letterpressref2_Words.j1] at H
            by_cases c8 : x21_2 = true
            · subst c8
              have H1 : (if x5_1 > x4_1 then (if 0 ≤ x4_1 then (if x4_1 ≤ x5_1 then (if x5_1 ≤ (a0.size : Int) then (if x3_1.length < 8796093022208 then (letterpressref2_Words.l0 kj2 a0 (x3_1 ++ [a0.extract (x4_1 : Int).toNat (x5_1 : Int).toNat]) (wrap64 (x5_1 + 1)) (wrap64 (x5_1 + 1))) else (none)) else (none)) else (none)) else (none)) else (letterpressref2_Words.l0 kj2 a0 x3_1 (wrap64 (x5_1 + 1)) (wrap64 (x5_1 + 1)))) = some r := by rw [if_pos rfl] at H; exact H
              clear H
              have H := H1
              clear H1
              by_cases c9 : x5_1 > x4_1
              · rw [if_pos c9] at H
                have c9b0 : decide (x4_1 < x5_1) = true := decide_eq_true c9
                clear c9
                by_cases c10 : 0 ≤ x4_1
                · rw [if_pos c10] at H
                  have c10b0 := eq_true c10
                  have c10b1 : decide (0 ≤ x4_1) = true := decide_eq_true c10
                  clear c10
                  by_cases c11 : x4_1 ≤ x5_1
                  · rw [if_pos c11] at H
                    have c11b0 := eq_true c11
                    have c11b1 : decide (x4_1 ≤ x5_1) = true := decide_eq_true c11
                    clear c11
                    by_cases c12 : x5_1 ≤ (a0.size : Int)
                    · rw [if_pos c12] at H
                      have c12b0 := eq_true c12
                      have c12b1 : decide (x5_1 ≤ (a0.size : Int)) = true := decide_eq_true c12
                      clear c12
                      by_cases c13 : x3_1.length < 8796093022208
                      · rw [if_pos c13] at H
                        have LMc13 := Aside0.mk c13
                        clear c13
                        obtain ⟨y268, hy268⟩ : ∃ y_ : List ByteArray, y_ = (x3_1 ++ [a0.extract (x4_1 : Int).toNat (x5_1 : Int).toNat]) := ⟨_, rfl⟩
                        replace H : (letterpressref2_Words.l0 kj2 a0 y268 (wrap64 (x5_1 + 1)) (wrap64 (x5_1 + 1))) = some r := by first | (rw [hy268]; with_reducible exact H) | (have H2_ := (Option.bind_some _ _).symm.trans H; rw [hy268]; with_reducible exact H2_) | (have H2_ := (Option.bind_some _ _).symm.trans H; with_reducible exact H2_) | with_reducible exact H | (rw [hy268]; exact H) | exact H
                        have Ny268 := Aside0.mk hy268
                        clear hy268
                        have H' := Aside0.mk H
                        clear H
                        go_wp2_with (first | ((with_reducible refine gate_builtin (b := .append) (xs := #[.tmp 25, .tmp 30]) rfl ?_); at_builtin; refine Kd.R_append Kd.string (w0 := w) w.heap.size rfl (.tmp 25) (.tmp 30) 43 9 (.string ⟨#[]⟩) 16 rfl Tryd.underlying43 info9 rfl (by decide) (by omega) u3 x3_1 (a0.extract (x4_1 : Int).toNat (x5_1 : Int).toNat) [.string (a0.extract (x4_1 : Int).toNat (x5_1 : Int).toNat)] (fun _ => True) (fun _ => False) rfl rfl ?aP (fun _ hk => hk.elim) ?aF ?aO ?aB ?aS ?aL ?_; (case aP => exact rfl); (case aB => exact (by repeat (first | (with_reducible first | exact HB.out | apply below_alloc | apply pw_below_drewN | apply below_drew1) | exact HB.out))); (case aF => exact (fun _ _ => trivial)); (case aO => exact (by (with_reducible repeat (first | apply Kd.R_alloc | apply Kd.R_drewN | apply Kd.R_drew)); exact HO_3.out)); (case aS => exact (below_size (by repeat (first | (with_reducible first | exact HB.out | apply below_alloc | apply pw_below_drewN | apply below_drew1) | exact HB.out)))); (case aL => have := LMc13.out; omega); intro v269 w14 ho hb hg hat; rw [← Ny268.out] at ho; have n0_ := Aside0.mk (hb); have n1_ := Aside0.mk (ho); clear HB; clear HO_3; have HB := n0_; have HO270 := n1_; clear n0_ n1_; clear ho hb hg hat))
                        go_roundg kj2
                        case measure => have := HK1.out; have := HJ2.out; omega
                        case rel => exact ⟨(y268), (wrap64 (x5_1 + 1)), (wrap64 (x5_1 + 1)), (by first | rfl | (simp; done) | (simp [*]; done)), (by first | rfl | (simp; done) | (simp [*]; done)), H', ⟨by have := HK1.out; have := HJ2.out; omega⟩, ⟨by (with_reducible repeat (first | apply Kd.R_alloc | apply Kd.R_drewN | apply Kd.R_drew)); exact HO270.out⟩, ⟨by repeat (first | (with_reducible first | exact HB.out | apply below_alloc | apply pw_below_drewN | apply below_drew1) | exact HB.out)⟩⟩
                      · rw [if_neg c13] at H
                        exact absurd H (by simp)
                    · rw [if_neg c12] at H
                      exact absurd H (by simp)
                  · rw [if_neg c11] at H
                    exact absurd H (by simp)
                · rw [if_neg c10] at H
                  exact absurd H (by simp)
              · rw [if_neg c9] at H
                have c9b0 : decide (x4_1 < x5_1) = false := decide_eq_false c9
                clear c9
                have H' := Aside0.mk H
                clear H
                go_wp2
                go_roundg kj2
                case measure => have := HK1.out; have := HJ2.out; omega
                case rel => exact ⟨(x3_1), (wrap64 (x5_1 + 1)), (wrap64 (x5_1 + 1)), (by first | rfl | (simp; done) | (simp [*]; done)), (by first | rfl | (simp; done) | (simp [*]; done)), H', ⟨by have := HK1.out; have := HJ2.out; omega⟩, ⟨by (with_reducible repeat (first | apply Kd.R_alloc | apply Kd.R_drewN | apply Kd.R_drew)); exact HO_3.out⟩, ⟨by repeat (first | (with_reducible first | exact HB.out | apply below_alloc | apply pw_below_drewN | apply below_drew1) | exact HB.out)⟩⟩
            · replace c8 := Bool.eq_false_iff.mpr c8
              subst c8
              have H1 : (letterpressref2_Words.l0 kj2 a0 x3_1 x4_1 (wrap64 (x5_1 + 1))) = some r := by rw [if_neg (show ¬ (false = true) by decide)] at H; exact H
              clear H
              have H := H1
              clear H1
              have H' := Aside0.mk H
              clear H
              go_wp2
              go_roundg kj2
              case measure => have := HK1.out; have := HJ2.out; omega
              case rel => exact ⟨(x3_1), (x4_1), (wrap64 (x5_1 + 1)), (by first | rfl | (simp; done) | (simp [*]; done)), (by first | rfl | (simp; done) | (simp [*]; done)), H', ⟨by have := HK1.out; have := HJ2.out; omega⟩, ⟨by (with_reducible repeat (first | apply Kd.R_alloc | apply Kd.R_drewN | apply Kd.R_drew)); exact HO_3.out⟩, ⟨by repeat (first | (with_reducible first | exact HB.out | apply below_alloc | apply pw_below_drewN | apply below_drew1) | exact HB.out)⟩⟩
      · rw [if_neg c2] at H
        have c2b0 : decide (x5_1 ≤ (a0.size : Int)) = false := decide_eq_false c2
        clear c2
        obtain rfl := Option.some.inj H
        go_wp2
        go_ret
        exact ⟨_, by first | rfl | (simp [errW_none, errW_some] <;> rfl) | (simp [*, errW_none, errW_some] <;> rfl), by (with_reducible repeat (first | apply Kd.R_alloc | apply Kd.R_drewN | apply Kd.R_drew)); exact HO_3.out, by repeat (first | (with_reducible first | exact HB.out | apply below_alloc | apply pw_below_drewN | apply below_drew1) | exact HB.out)⟩
end Go.Proofs.YticofbaajdgabaaDoor.X

namespace Go.Proofs.YticofbaajdgabaaDoor.X
open Go.RowKit Go.Proofs.YticofbaajdgabaaDoorW.PrintWords Go.Proofs.YticofbaajdgabaaDoorW.PrintLast Go.Proofs.YticofbaajdgabaaDoorW.PrintMore
attribute [local go_sem] max2_int min2_int max_two min_two
set_option linter.unusedVariables false
set_option linter.unusedSimpArgs false
set_option maxRecDepth 100000 in
theorem tbl_fold : ({ data := ((((([115, 101, 95, 105, 108, 108, 101, 103, 97, 108, 58, 48, 48, 48, 48, 58, 124, 115, 101, 95, 105, 115, 121, 110, 99, 58, 48, 48, 48, 49, 58, 124, 115, 101, 95, 115, 99].append [58, 48, 48, 48, 50, 58, 124, 115, 101, 95, 98, 108, 114, 58, 48, 48, 48, 52, 58, 124, 115, 101, 95, 98, 99, 116, 114, 58, 48, 48, 48, 54, 58, 124, 115, 101, 95, 110]).append ([111, 116, 58, 48, 48, 50, 48, 58, 88, 124, 115, 101, 95, 110, 101, 103, 58, 48, 48, 51, 48, 58, 88, 124, 115, 101, 95, 109, 102, 108, 114, 58, 48, 48, 56, 48, 58, 88].append [124, 115, 101, 95, 109, 116, 108, 114, 58, 48, 48, 57, 48, 58, 88, 124, 115, 101, 95, 109, 102, 99, 116, 114, 58, 48, 48, 97, 48, 58, 88, 124, 115, 101, 95, 109, 116, 99])).append (([116, 114, 58, 48, 48, 98, 48, 58, 88, 124, 115, 101, 95, 101, 120, 116, 122, 98, 58, 48, 48, 99, 48, 58, 88, 124, 115, 101, 95, 101, 120, 116, 115, 98, 58, 48, 48, 100].append [48, 58, 88, 124, 115, 101, 95, 101, 120, 116, 122, 104, 58, 48, 48, 101, 48, 58, 88, 124, 115, 101, 95, 101, 120, 116, 115, 104, 58, 48, 48, 102, 48, 58, 88, 124, 115, 101]).append ([95, 109, 114, 58, 48, 49, 48, 48, 58, 88, 32, 89, 124, 115, 101, 95, 97, 100, 100, 58, 48, 52, 48, 48, 58, 88, 32, 89, 124, 115, 101, 95, 109, 117, 108, 108, 119, 58].append [48, 53, 48, 48, 58, 88, 32, 89, 124, 115, 101, 95, 115, 117, 98, 58, 48, 54, 48, 48, 58, 88, 32, 89, 124, 115, 101, 95, 99, 109, 112, 58, 48, 99, 48, 48, 58, 88]))).append ((([32, 89, 124, 115, 101, 95, 99, 109, 112, 108, 58, 48, 100, 48, 48, 58, 88, 32, 89, 124, 115, 101, 95, 97, 100, 100, 105, 58, 50, 48, 48, 48, 58, 88, 32, 79, 53].append [124, 115, 101, 95, 99, 109, 112, 108, 105, 58, 50, 50, 48, 48, 58, 88, 32, 79, 53, 124, 115, 101, 95, 115, 117, 98, 105, 58, 50, 52, 48, 48, 58, 88, 32, 79, 53, 124]).append ([115, 101, 95, 99, 109, 112, 105, 58, 50, 97, 48, 48, 58, 88, 32, 85, 53, 124, 115, 101, 95, 111, 114, 58, 52, 52, 48, 48, 58, 88, 32, 89, 124, 115, 101, 95, 97, 110].append [100, 99, 58, 52, 53, 48, 48, 58, 88, 32, 89, 124, 115, 101, 95, 97, 110, 100, 58, 52, 54, 48, 48, 58, 88, 32, 89, 124, 115, 101, 95, 108, 105, 58, 52, 56, 48, 48])).append (([58, 88, 32, 85, 55, 124, 115, 101, 95, 98, 99, 108, 114, 105, 58, 54, 48, 48, 48, 58, 88, 32, 85, 53, 124, 115, 101, 95, 98, 115, 101, 116, 105, 58, 54, 52, 48, 48].append [58, 88, 32, 85, 53, 124, 115, 101, 95, 98, 116, 115, 116, 105, 58, 54, 54, 48, 48, 58, 88, 32, 85, 53, 124, 115, 101, 95, 115, 114, 119, 105, 58, 54, 56, 48, 48, 58]).append ([88, 32, 85, 53, 124, 115, 101, 95, 115, 108, 119, 105, 58, 54, 99, 48, 48, 58, 88, 32, 85, 53, 124, 115, 101, 95, 108, 98, 122, 58, 56, 48, 48, 48, 58, 89, 32, 77].append [49, 32, 88, 124, 115, 101, 95, 115, 116, 98, 58, 57, 48, 48, 48, 58, 89, 32, 77, 49, 32, 88, 124, 115, 101, 95, 108, 104, 122, 58, 97, 48, 48, 48, 58, 89, 32, 77])))).append (((([50, 32, 88, 124, 115, 101, 95, 115, 116, 104, 58, 98, 48, 48, 48, 58, 89, 32, 77, 50, 32, 88, 124, 115, 101, 95, 108, 119, 122, 58, 99, 48, 48, 48, 58, 89, 32].append [77, 52, 32, 88, 124, 115, 101, 95, 115, 116, 119, 58, 100, 48, 48, 48, 58, 89, 32, 77, 52, 32, 88, 124, 115, 101, 95, 98, 99, 58, 101, 48, 48, 48, 58, 79, 49, 32]).append ([73, 50, 32, 84, 56, 124, 115, 101, 95, 98, 58, 101, 56, 48, 48, 58, 84, 56, 124, 115, 101, 95, 98, 108, 58, 101, 57, 48, 48, 58, 84, 56, 124, 101, 95, 97, 100, 100].append [49, 54, 105, 58, 49, 99, 48, 48, 48, 48, 48, 48, 58, 68, 32, 65, 32, 83, 49, 54, 124, 101, 95, 97, 100, 100, 105, 58, 49, 56, 48, 48, 56, 48, 48, 48, 58, 68])).append (([32, 65, 32, 67, 56, 124, 101, 95, 97, 110, 100, 105, 58, 49, 56, 48, 48, 99, 48, 48, 48, 58, 65, 32, 68, 32, 67, 56, 124, 101, 95, 111, 114, 105, 58, 49, 56, 48].append [48, 100, 48, 48, 48, 58, 65, 32, 68, 32, 67, 56, 124, 101, 95, 120, 111, 114, 105, 58, 49, 56, 48, 48, 101, 48, 48, 48, 58, 65, 32, 68, 32, 67, 56, 124, 101, 95]).append ([108, 105, 58, 55, 48, 48, 48, 48, 48, 48, 48, 58, 68, 32, 76, 50, 48, 124, 101, 95, 108, 98, 122, 58, 51, 48, 48, 48, 48, 48, 48, 48, 58, 68, 32, 83, 49, 54].append [32, 65, 124, 101, 95, 115, 116, 98, 58, 51, 52, 48, 48, 48, 48, 48, 48, 58, 68, 32, 83, 49, 54, 32, 65, 124, 101, 95, 108, 104, 97, 58, 51, 56, 48, 48, 48, 48]))).append ((([48, 48, 58, 68, 32, 83, 49, 54, 32, 65, 124, 101, 95, 108, 119, 122, 58, 53, 48, 48, 48, 48, 48, 48, 48, 58, 68, 32, 83, 49, 54, 32, 65, 124, 101, 95, 115].append [116, 119, 58, 53, 52, 48, 48, 48, 48, 48, 48, 58, 68, 32, 83, 49, 54, 32, 65, 124, 101, 95, 108, 104, 122, 58, 53, 56, 48, 48, 48, 48, 48, 48, 58, 68, 32, 83]).append ([49, 54, 32, 65, 124, 101, 95, 115, 116, 104, 58, 53, 99, 48, 48, 48, 48, 48, 48, 58, 68, 32, 83, 49, 54, 32, 65, 124, 101, 95, 98, 58, 55, 56, 48, 48, 48, 48].append [48, 48, 58, 84, 50, 52, 124, 101, 95, 98, 108, 58, 55, 56, 48, 48, 48, 48, 48, 49, 58, 84, 50, 52, 124, 101, 95, 98, 99, 58, 55, 97, 48, 48, 48, 48, 48, 48])).append (([58, 79, 50, 32, 73, 52, 32, 84, 49, 53, 124, 101, 95, 98, 99, 108, 58, 55, 97, 48, 48, 48, 48, 48, 49, 58, 79, 50, 32, 73, 52, 32, 84, 49, 53, 124, 97, 100].append [100, 58, 55, 99, 48, 48, 48, 50, 49, 52, 58, 68, 32, 65, 32, 66, 124, 115, 117, 98, 102, 58, 55, 99, 48, 48, 48, 48, 53, 48, 58, 68, 32, 65, 32, 66, 124, 109]).append ([117, 108, 108, 119, 58, 55, 99, 48, 48, 48, 49, 100, 54, 58, 68, 32, 65, 32, 66, 124, 97, 110, 100, 58, 55, 99, 48, 48, 48, 48, 51, 56, 58, 65, 32, 68, 32, 66].append [124, 111, 114, 58, 55, 99, 48, 48, 48, 51, 55, 56, 58, 65, 32, 68, 32, 66, 124, 120, 111, 114, 58, 55, 99, 48, 48, 48, 50, 55, 56, 58, 65, 32, 68, 32, 66, 124]))))).toArray } : ByteArray) = tbl := by kernel_rfl
theorem tbl_size : tbl.size = 1212 := by decide +kernel
theorem pos_ok : ∀ r : Fin 66, pp r ≤ pa r ∧ pa r < pb r ∧ pb r < pc r ∧ pc r < 1212 ∧ pp (r + 1) = pc r + 1 := by decide +kernel
theorem pos_0 : pp 0 = 0 := by decide +kernel
theorem pos_66 : pp 66 = 1212 := by decide +kernel
theorem segs : (List.range 66).all segOk = true := by decide +kernel
theorem exs : (List.range 66).all exOk = true := by decide +kernel
theorem wide_ok : ∀ r : Fin 66, pc r < pp r + 40 := by decide +kernel
theorem char_at (r j : Nat) (hr : r < 66) (h1 : pp r ≤ j) (h2 : j ≤ pc r) : (if j = pa r then (tblL.getD j 0).toNat = 58 else if j = pb r then (tblL.getD j 0).toNat = 58 else if j = pc r then (tblL.getD j 0).toNat = 124 else (tblL.getD j 0).toNat ≠ 58 ∧ (tblL.getD j 0).toNat ≠ 124) := by
  have hw := wide_ok ⟨r, hr⟩
  simp only at hw
  have h := List.all_eq_true.1 segs r (List.mem_range.2 hr)
  have hd := List.all_eq_true.1 h (j - pp r) (List.mem_range.2 (by omega))
  have e : ((tblL.drop (pp r)).take 40).getD (j - pp r) 0 = tblL.getD j 0 := by
    simp only [List.getD_eq_getElem?_getD, List.getElem?_take, List.getElem?_drop]
    rw [if_pos (by omega), show pp r + (j - pp r) = j by omega]
  simp only [e, show pp r + (j - pp r) = j by omega] at hd
  generalize (tblL.getD j 0).toNat = c at *
  by_cases c1 : j = pa r
  · rw [if_pos c1]; simpa [c1] using hd
  · rw [if_neg c1]
    by_cases c2 : j = pb r
    · rw [if_pos c2]; simp [c1, c2] at hd; exact hd
    · rw [if_neg c2]
      by_cases c3 : j = pc r
      · rw [if_pos c3]; simp [c1, c2, c3] at hd; repeat' (split at hd)
        all_goals simp_all
      · rw [if_neg c3]; simpa [c1, c2, c3] using hd
theorem ba_ext {a b : ByteArray} (h : a.data.toList = b.data.toList) : a = b := by
  cases a; cases b; congr 1; exact Array.ext' h
theorem ext_data (i j : Nat) : (tbl.extract i j).data.toList = (tblL.drop i).take (j - i) := by simp [tblL, List.extract_eq_take_drop]
theorem ex_at (r : Nat) (h : r < 66) : ((tblL.drop (pp r)).take (pa r - pp r) = (rn r).data.toList ∧ (tblL.drop (pa r + 1)).take (pb r - (pa r + 1)) = (rb r).data.toList) ∧ (tblL.drop (pb r + 1)).take (pc r - (pb r + 1)) = (rk r).data.toList := by
  have h := List.all_eq_true.1 exs r (List.mem_range.2 h)
  simpa [exOk] using h
theorem ex_n (r : Nat) (h : r < 66) : tbl.extract (pp r) (pa r) = rn r := ba_ext (by rw [ext_data]; exact (ex_at r h).1.1)
theorem ex_b (r : Nat) (h : r < 66) : tbl.extract (pa r + 1) (pb r) = rb r := ba_ext (by rw [ext_data]; exact (ex_at r h).1.2)
theorem ex_k (r : Nat) (h : r < 66) : tbl.extract (pb r + 1) (pc r) = rk r := ba_ext (by rw [ext_data]; exact (ex_at r h).2)
theorem tbl_at (j : Nat) (h : j < tbl.size) : (tbl[j]'h).toNat = (tblL.getD j 0).toNat := by
  have h' : j < tbl.data.size := h
  have e : tblL.getD j 0 = tbl.data[j] := by simp [tblL, List.getD]; rw [Array.getElem?_eq_getElem h']; rfl
  rw [e]; rfl
theorem findGo_drop (op : Int) (name : ByteArray) (r : Nat) (hr : r ≤ 66) (h : noRow op name r) : findGo op name 0 rows2 = findGo op name r (rows2.drop r) := by
  induction r with
  | zero => rfl
  | succ r ih =>
    rw [ih (by omega) (fun m hm => h m (by omega))]
    have hl : r < rows2.length := by show r < 66; omega
    have hn := h r (by omega)
    rw [List.drop_eq_getElem_cons hl]
    have e : rn r = (rows2[r]).1 := by simp [rn, List.getD, hl]
    rw [e] at hn
    generalize rows2[r] = q at *
    obtain ⟨a, b, c⟩ := q
    simp only [findGo]
    rw [if_neg hn]
theorem findGo_hit (op : Int) (name : ByteArray) (r : Nat) (hr : r < 66) (h : noRow op name r) (hit : (r : Int) = op ∨ (rn r).toList = name.toList) : findGo op name 0 rows2 = (rn r, rb r, rk r, (r : Int), true) := by
  rw [findGo_drop op name r (by omega) h]
  have hl : r < rows2.length := by show r < 66; omega
  rw [List.drop_eq_getElem_cons hl]
  have e1 : rn r = (rows2[r]).1 := by simp [rn, List.getD, hl]
  have e2 : rb r = (rows2[r]).2.1 := by simp [rb, List.getD, hl]
  have e3 : rk r = (rows2[r]).2.2 := by simp [rk, List.getD, hl]
  rw [e1] at hit
  simp only [findGo]
  rw [if_pos hit, e1, e2, e3]
theorem findGo_none (op : Int) (name : ByteArray) (h : noRow op name 66) : findGo op name 0 rows2 = (⟨#[]⟩, ⟨#[]⟩, ⟨#[]⟩, 0, false) := by
  rw [findGo_drop op name 66 (by omega) h, List.drop_of_length_le (by decide)]
  rfl
theorem Stands.zero (op : Int) (name f0 f1 : ByteArray) : Stands op name 0 0 0 0 f0 f1 := ⟨by decide, fun m hm => by omega, .inr ⟨by decide, by rw [pos_0]; omega, by omega, .inl ⟨by omega, rfl, by rw [pos_0]; rfl⟩⟩⟩
theorem Stands.row {op : Int} {name f0 f1 : ByteArray} {r j : Nat} {k a : Int} (h : Stands op name r j k a f0 f1) (hj : j < 1212) : r < 66 ∧ pp r ≤ j ∧ j ≤ pc r := by
  obtain ⟨h0, h1, h2⟩ := h
  rcases h2 with h2 | h2
  · omega
  · exact ⟨h2.1, h2.2.1, h2.2.2.1⟩
theorem Stands.le {op : Int} {name f0 f1 : ByteArray} {r j : Nat} {k a : Int} (h : Stands op name r j k a f0 f1) : j ≤ 1212 ∧ r ≤ 66 := by
  obtain ⟨h0, h1, h2⟩ := h
  rcases h2 with h2 | h2
  · omega
  · have := pos_ok ⟨r, h2.1⟩; simp only at this; omega
theorem Stands.on {op : Int} {name f0 f1 : ByteArray} {r j : Nat} {k a : Int} (h : Stands op name r j k a f0 f1) (hj : j < 1212) (na : j ≠ pa r) (nb : j ≠ pb r) (nc : j ≠ pc r) : Stands op name r (j + 1) k a f0 f1 := by
  obtain ⟨h0, h1, h2⟩ := h
  rcases h2 with h2 | ⟨h2, h3, h4, h5⟩
  · omega
  · refine ⟨h0, h1, .inr ⟨h2, by omega, by omega, ?_⟩⟩
    rcases h5 with h5 | h5 | h5
    · exact .inl ⟨by omega, h5.2⟩
    · exact .inr (.inl ⟨by omega, by omega, h5.2.2⟩)
    · exact .inr (.inr ⟨by omega, h5.2⟩)
theorem Stands.ata {op : Int} {name f0 f1 : ByteArray} {r j : Nat} {k a : Int} (h : Stands op name r j k a f0 f1) (hj : j < 1212) (e : j = pa r) : k = 0 ∧ a = (pp r : Int) ∧ Stands op name r (j + 1) 1 (j + 1) (rn r) f1 := by
  obtain ⟨h0, h1, h2⟩ := h
  rcases h2 with h2 | ⟨h2, h3, h4, h5⟩
  · omega
  · have hp := pos_ok ⟨r, h2⟩
    simp only at hp
    rcases h5 with h5 | h5 | h5
    · exact ⟨h5.2.1, h5.2.2, h0, h1, .inr ⟨h2, by omega, by omega, .inr (.inl ⟨by omega, by omega, rfl, by omega, rfl⟩)⟩⟩
    · omega
    · omega
theorem Stands.atb {op : Int} {name f0 f1 : ByteArray} {r j : Nat} {k a : Int} (h : Stands op name r j k a f0 f1) (hj : j < 1212) (e : j = pb r) : k = 1 ∧ a = (pa r : Int) + 1 ∧ f0 = rn r ∧ Stands op name r (j + 1) 2 (j + 1) f0 (rb r) := by
  obtain ⟨h0, h1, h2⟩ := h
  rcases h2 with h2 | ⟨h2, h3, h4, h5⟩
  · omega
  · have hp := pos_ok ⟨r, h2⟩
    simp only at hp
    rcases h5 with h5 | h5 | h5
    · omega
    · exact ⟨h5.2.2.1, h5.2.2.2.1, h5.2.2.2.2, h0, h1, .inr ⟨h2, by omega, by omega, .inr (.inr ⟨by omega, rfl, by omega, h5.2.2.2.2, rfl⟩)⟩⟩
    · omega
theorem Stands.atc {op : Int} {name f0 f1 : ByteArray} {r j : Nat} {k a : Int} (h : Stands op name r j k a f0 f1) (hj : j < 1212) (e : j = pc r) : k = 2 ∧ a = (pb r : Int) + 1 ∧ f0 = rn r ∧ f1 = rb r ∧
    (¬ ((r : Int) = op ∨ (rn r).toList = name.toList) → ∀ g0 g1, Stands op name (r + 1) (j + 1) 0 (j + 1) g0 g1) := by
  obtain ⟨h0, h1, h2⟩ := h
  rcases h2 with h2 | ⟨h2, h3, h4, h5⟩
  · omega
  · have hp := pos_ok ⟨r, h2⟩
    simp only at hp
    rcases h5 with h5 | h5 | h5
    · omega
    · omega
    · refine ⟨h5.2.1, h5.2.2.1, h5.2.2.2.1, h5.2.2.2.2, fun hn g0 g1 => ⟨by omega, fun m hm => ?_, ?_⟩⟩
      · by_cases hm' : m < r
        · exact h1 m hm'
        · obtain rfl : m = r := by omega
          exact hn
      · by_cases hl : r = 65
        · left
          have hq : pp (65 + 1) = 1212 := pos_66
          subst hl
          exact ⟨rfl, by omega, rfl⟩
        · right
          have hp' := pos_ok ⟨r + 1, by omega⟩
          simp only at hp'
          exact ⟨by omega, by omega, by omega, .inl ⟨by omega, rfl, by omega⟩⟩
theorem tbl_lt {j : Nat} (h : j < 1212) : (j : Int) < (tbl.size : Int) := by rw [tbl_size]; omega
set_option maxRecDepth 100000 in
set_option maxHeartbeats 8000000 in
theorem find_walk (op : Int) (name : ByteArray) (w : World) : Calls Tryd.prog 35 #[.int .i64 op, .string name] w (FindIs op name w) := by
  go_enter Tryd.func35, Tryd.ntmps35
  simp only [tbl_fold]
  go_wp2
  go_loopw [7, 8, 10, 11] (fun n a k i wr => ∃ (r j : Nat) (k1 a1 : Int) (f0 f1 f2 : ByteArray), n = .int .i64 r ∧ a = .int .i64 a1 ∧ k = .int .i64 k1 ∧ i = .int .i64 j ∧ Stands op name r j k1 a1 f0 f1 ∧ wr = (w.alloc (.cells #[.string ⟨#[]⟩, .string ⟨#[]⟩, .string ⟨#[]⟩] 56)).alloc (.cells #[.string f0, .string f1, .string f2] 80)) (fun _ _ _ i _ => 1212 - (intOf i).toNat)
  case atStart => exact ⟨0, 0, 0, 0, _, _, _, rfl, rfl, rfl, rfl, Stands.zero _ _ _ _, rfl⟩
  case round =>
    obtain ⟨r, j, k1, a1, f0, f1, f2, rfl, rfl, rfl, rfl, hS, rfl⟩ := hrel
    have hle := hS.le
    by_cases hlt : j < 1212
    · have hrow := hS.row hlt
      have hp := pos_ok ⟨r, hrow.1⟩
      simp only at hp
      have hch := char_at r j hrow.1 hrow.2.1 hrow.2.2
      have hsz := tbl_lt hlt
      by_cases ca : j = pa r
      · rw [if_pos ca] at hch
        obtain ⟨rfl, rfl, hS1⟩ := hS.ata hlt ca
        have he : tbl.extract (pp r) j = rn r := by rw [ca]; exact ex_n r hrow.1
        have hS' : Hid (Stands op name r (j + 1) 1 (j + 1) (tbl.extract (pp r) j) f1) := by rw [he]; exact hS1
        have q0 : ∀ h' : j < tbl.size, ((tbl[j]'h').toNat : Int) = 58 := fun h' => by rw [tbl_at j h', hch]; rfl
        have hle2 : pp r ≤ j := hrow.2.1
        clear hS hS1 he hrow hp hch ca
        go_wp2
        go_roundw
        case rel => exact ⟨r, j + 1, 1, (j : Int) + 1, _, f1, f2, rfl, by go_num, by go_num, by go_num, by simpa using hS'.out, rfl⟩
        case measure => simp [intOf]; omega
      · by_cases cb : j = pb r
        · rw [if_neg ca, if_pos cb] at hch
          obtain ⟨rfl, rfl, hf0, hS1⟩ := hS.atb hlt cb
          have he : tbl.extract (pa r + 1) j = rb r := by rw [cb]; exact ex_b r hrow.1
          have hS' : Hid (Stands op name r (j + 1) 2 (j + 1) f0 (tbl.extract (pa r + 1) j)) := by rw [he]; exact hS1
          have q0 : ∀ h' : j < tbl.size, ((tbl[j]'h').toNat : Int) = 58 := fun h' => by rw [tbl_at j h', hch]; rfl
          have hle2 : pa r + 1 ≤ j := by omega
          clear hS hS1 he hrow hp hch ca cb hf0
          go_wp2
          go_roundw
          case rel => exact ⟨r, j + 1, 2, (j : Int) + 1, f0, _, f2, rfl, by go_num, by go_num, by go_num, by simpa using hS'.out, rfl⟩
          case measure => simp [intOf]; omega
        · by_cases cc : j = pc r
          · rw [if_neg ca, if_neg cb, if_pos cc] at hch
            obtain ⟨rfl, rfl, hf0, hf1, hS1⟩ := hS.atc hlt cc
            have he : tbl.extract (pb r + 1) j = rk r := by rw [cc]; exact ex_k r hrow.1
            have q0 : ∀ h' : j < tbl.size, ((tbl[j]'h').toNat : Int) = 124 := fun h' => by rw [tbl_at j h', hch]; rfl
            have hle2 : pb r + 1 ≤ j := by omega
            have hno := hS.2.1
            have hr66 := hrow.1
            by_cases hit : (r : Int) = op ∨ (rn r).toList = name.toList
            · have hg : Hid (findGo op name 0 rows2 = (f0, f1, tbl.extract (pb r + 1) j, (r : Int), true)) := by
                rw [he, hf0, hf1]; exact findGo_hit op name r hr66 hno hit
              rw [← hf0] at hit
              clear hS hS1 he hrow hp hch ca cb cc hf0 hf1 hno
              by_cases hop : (r : Int) = op
              · have q1 : ((r : Int) == op) = true := beq_iff_eq.2 hop
                clear hit hop
                go_wp2
                exact bodyPost_ret (v := .tuple #[.agg #[.string f0, .string f1, .string (tbl.extract (pb r + 1) j)], .int .i64 r, .bool true]) (by simp [results, Tryd.results35, go_sem]) rfl ⟨by rw [hg.out], below_alloc (below_alloc (Below.refl _ _) _) _⟩
              · have q1 : ((r : Int) == op) = false := beq_eq_false_iff_ne.2 hop
                have q2 : (f0.toList == name.toList) = true := beq_iff_eq.2 (hit.resolve_left hop)
                clear hit hop
                go_wp2
                exact bodyPost_ret (v := .tuple #[.agg #[.string f0, .string f1, .string (tbl.extract (pb r + 1) j)], .int .i64 r, .bool true]) (by simp [results, Tryd.results35, go_sem]) rfl ⟨by rw [hg.out], below_alloc (below_alloc (Below.refl _ _) _) _⟩
            · have hS2 := hS1 hit f0 f1
              have hS' : Hid (Stands op name (r + 1) (j + 1) 0 (j + 1) f0 f1) := hS2
              rw [← hf0] at hit
              have q1 : ((r : Int) == op) = false := beq_eq_false_iff_ne.2 (fun e => hit (.inl e))
              have q2 : (f0.toList == name.toList) = false := beq_eq_false_iff_ne.2 (fun e => hit (.inr e))
              clear hS hS1 hS2 he hrow hp hch ca cb cc hf0 hf1 hno hit
              go_wp2
              go_roundw
              case rel => exact ⟨r + 1, j + 1, 0, (j : Int) + 1, f0, f1, _, by go_num, by go_num, by go_num, by go_num, by simpa using hS'.out, rfl⟩
              case measure => simp [intOf]; omega
          · rw [if_neg ca, if_neg cb, if_neg cc] at hch
            have hS' : Hid (Stands op name r (j + 1) k1 a1 f0 f1) := hS.on hlt ca cb cc
            obtain ⟨c, hx⟩ : ∃ c : Int, ((tblL.getD j 0).toNat : Int) = c := ⟨_, rfl⟩
            have q0 : ∀ h' : j < tbl.size, ((tbl[j]'h').toNat : Int) = c := fun h' => by rw [tbl_at j h', hx]
            have q1 : (c != 58) = true := bne_iff_ne.2 (by omega)
            have q2 : (c != 124) = true := bne_iff_ne.2 (by omega)
            clear hx
            clear hS hrow hp hch ca cb cc
            go_wp2
            go_roundw
            case rel => exact ⟨r, j + 1, k1, a1, f0, f1, f2, rfl, rfl, rfl, by go_num, hS'.out, rfl⟩
            case measure => simp [intOf]; omega
    · obtain ⟨h0, h1, h2⟩ := hS
      obtain rfl : r = 66 := by
        rcases h2 with h2 | h2
        · exact h2.1
        · have := pos_ok ⟨r, h2.1⟩; simp only at this; omega
      have hg : Hid (findGo op name 0 rows2 = (⟨#[]⟩, ⟨#[]⟩, ⟨#[]⟩, 0, false)) := findGo_none op name h1
      clear h0 h1 h2
      go_wp2
      exact bodyPost_ret (v := .tuple #[.agg #[.string ⟨#[]⟩, .string ⟨#[]⟩, .string ⟨#[]⟩], .int .i64 0, .bool false]) (by simp [results, Tryd.results35, go_sem]) rfl ⟨by rw [hg.out], below_alloc (below_alloc (Below.refl _ _) _) _⟩
theorem letterpressref2_find.calls (a0 : Int) (a1 : ByteArray) (r1 : ByteArray) (r2 : ByteArray) (r3 : ByteArray) (r4 : Int) (r5 : Bool) (w : World) (h : letterpressref2_find.f a0 a1 = some (r1, r2, r3, r4, r5)) :
    Calls Tryd.prog 35 #[.int .i64 a0, .string a1] w fun e w' => e = .returned (.tuple #[.agg #[.string r1, .string r2, .string r3], .int .i64 r4, .bool r5]) ∧ Below w.heap.size w w' := by
  have h2 : findGo a0 a1 0 rows2 = (r1, r2, r3, r4, r5) := Option.some.inj h
  refine (find_walk a0 a1 w).mono ?_
  rintro e w' ⟨he, hb⟩
  rw [h2] at he
  exact ⟨he, hb⟩
end Go.Proofs.YticofbaajdgabaaDoor.X

namespace Go.Proofs.YticofbaajdgabaaDoor.X
open Go.RowKit Go.Proofs.YticofbaajdgabaaDoorW.PrintWords Go.Proofs.YticofbaajdgabaaDoorW.PrintLast Go.Proofs.YticofbaajdgabaaDoorW.PrintMore
attribute [local go_sem] max2_int min2_int max_two min_two
set_option linter.unusedVariables false
set_option linter.unusedSimpArgs false
set_option maxHeartbeats 8000000 in
set_option maxRecDepth 100000 in
theorem letterpresslaw2_within.calls (a0 : Int) (a1 : Int) (r : Int) (w : World) (h : letterpresslaw2_within.f a0 a1 = some r) :
    Calls Tryd.prog 17 #[.int .i64 a0, .int .i64 a1] w fun e w' => e = .returned (.int .i64 r) ∧ Drawn0 w w' := by
  have H : (if a1 = 0 then (none) else (if (Int.tmod a0 a1) < 0 then (some (wrap64 ((Int.tmod a0 a1) + a1))) else (some (Int.tmod a0 a1)))) = some r := h
  clear h
  by_cases c3 : a1 = 0
  · rw [if_pos c3] at H
    exact absurd H (by simp)
  · rw [if_neg c3] at H
    have c3b0 : (a1 == 0) = false := beq_eq_false_iff_ne.mpr c3
    have c3b1 : (a1 != 0) = true := bne_iff_ne.mpr c3
    by_cases c4 : (Int.tmod a0 a1) < 0
    · rw [if_pos c4] at H
      have c4b0 : decide ((Int.tmod a0 a1) < 0) = true := decide_eq_true c4
      clear c4
      obtain rfl := Option.some.inj H
      go_enter Tryd.func17, Tryd.ntmps17
      go_wp2
      go_ret
      exact ⟨by first | rfl | (simp; done) | (simp [*]; done), by repeat (first | exact Drawn0.refl _ | apply Drawn0.step)⟩
    · rw [if_neg c4] at H
      have c4b0 : decide ((Int.tmod a0 a1) < 0) = false := decide_eq_false c4
      clear c4
      obtain rfl := Option.some.inj H
      go_enter Tryd.func17, Tryd.ntmps17
      go_wp2
      go_ret
      exact ⟨by first | rfl | (simp; done) | (simp [*]; done), by repeat (first | exact Drawn0.refl _ | apply Drawn0.step)⟩
end Go.Proofs.YticofbaajdgabaaDoor.X
