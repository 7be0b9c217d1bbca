-- Written by this session's program (wip/xprint) out of the translation.
import Derived.Test.YteoacclnndbcfaaX0
import Derived.Test.YteoacclnndbcfaaX1
namespace Go.Proofs.Yteoacclnndbcfaa.X
open Go.RowKit Go.Proofs.YteoacclnndbcfaaW.PrintWords Go.Proofs.YteoacclnndbcfaaW.PrintLast Go.Proofs.YteoacclnndbcfaaW.PrintMore
attribute [local go_sem] max2_int min2_int max_two min_two max_three min_three max_four min_four   -- for this text's walks alone
set_option linter.unusedVariables false
set_option linter.unusedSimpArgs false

/-! ### letterpressref1_Back: function 19 -/
def letterpressref1_Back.l0 : Nat → Int → Int → Int → Int → Int → Option (Int)
  | 0, _, _, _, _, _ => none
  | k + 1, x0, x1, x2, x7, x8 => if x8 ≥ 0 then (if x8 = x1 then (letterpressref1_Back.l0 k x0 x1 x2 (wrap64 ((wrap64 (x7 * 256)) + x2)) (wrap64 (x8 - 1))) else (letterpressref1_Back.l0 k x0 x1 x2 (wrap64 ((wrap64 (x7 * 256)) + (wrap64 (255 * x0)))) (wrap64 (x8 - 1)))) else ((letterpressref1_Sign.f x7 32).bind fun t127 => (some t127))
def letterpressref1_Back.f (k : Nat) (a0 : Int) (a1 : Int) (a2 : Int) : Option (Int) := letterpressref1_Back.l0 k a0 a1 a2 0 3
theorem letterpressref1_Back.mono_l : ∀ k, (∀ y0 y1 y2 y3 y4, LeO (letterpressref1_Back.l0 k y0 y1 y2 y3 y4) (letterpressref1_Back.l0 (k + 1) y0 y1 y2 y3 y4))
  | 0 => fun _ _ _ _ _ r h => by simp [letterpressref1_Back.l0] at h
  | k + 1 => by
    have ih0 := letterpressref1_Back.mono_l k
    · intro y0 y1 y2 y3 y4
      unfold letterpressref1_Back.l0
      repeat' first
      | (with_reducible exact ih0 _ _ _ _ _)
      | (with_reducible exact LeO.refl _)
      | (with_reducible exact LeO.none _)
      | (with_reducible refine LeO.ite ?_ ?_)
      | (with_reducible refine LeO.bind ?_ (fun _ => ?_))
      | exact ih0 _ _ _ _ _
      | exact LeO.none _
      | refine LeO.ite ?_ ?_
      | refine LeO.bind ?_ (fun _ => ?_)
theorem letterpressref1_Back.mono : ∀ a0 a1 a2 k, LeO (letterpressref1_Back.f k a0 a1 a2) (letterpressref1_Back.f (k + 1) a0 a1 a2) := by
  intro a0 a1 a2 k
  have ih0 := letterpressref1_Back.mono_l k
  unfold letterpressref1_Back.f
  repeat' first
      | (with_reducible exact ih0 _ _ _ _ _)
      | (with_reducible exact LeO.refl _)
      | (with_reducible exact LeO.none _)
      | (with_reducible refine LeO.ite ?_ ?_)
      | (with_reducible refine LeO.bind ?_ (fun _ => ?_))
      | exact ih0 _ _ _ _ _
      | exact LeO.none _
      | refine LeO.ite ?_ ?_
      | refine LeO.bind ?_ (fun _ => ?_)
set_option maxHeartbeats 8000000 in
set_option maxRecDepth 100000 in
theorem letterpressref1_Back.calls (k : Nat) (a0 : Int) (a1 : Int) (a2 : Int) (r : Int) (w : World) (h : letterpressref1_Back.f k a0 a1 a2 = some r) :
    Calls Try.prog 19 #[.int .i64 a0, .int .i64 a1, .int .i64 a2] w fun e w' => e = .returned (.int .i64 r) ∧ Drawn0 w w' := by
  have H : (letterpressref1_Back.l0 k a0 a1 a2 0 3) = some r := h
  clear h
  have H' := Aside0.mk H
  clear H
  go_enter Try.func19, Try.ntmps19
  go_wp2
  go_loopg [7, 8] k (fun kq v7 v8 w' => ∃ (x7_1 : Int) (x8_1 : Int), v7 = .int .i64 x7_1 ∧ v8 = .int .i64 x8_1 ∧ Aside0 (letterpressref1_Back.l0 kq a0 a1 a2 x7_1 x8_1 = some r) ∧ Aside0 (kq ≤ k) ∧ Drawn0 w w')
  case atStart => exact ⟨(0), (3), (by first | rfl | (simp; done) | (simp [*]; done)), (by first | rfl | (simp; done) | (simp [*]; done)), H', ⟨Nat.le_refl _⟩, by repeat (first | exact Drawn0.refl _ | apply Drawn0.step)⟩
  case round =>
    clear H'
    try clear c1
    try clear p2
    obtain ⟨x7_1, x8_1, rfl, rfl, HA, HK1, ⟨m1, rfl⟩⟩ := hrel
    cases gk with
    | zero => exact absurd HA.out (by simp [letterpressref1_Back.l0])
    | succ k1 =>
      have H := HA.out
      clear HA
      simp only [letterpressref1_Back.l0] at H
      by_cases c4 : x8_1 ≥ 0
      · rw [if_pos c4] at H
        have c4b0 : decide (0 ≤ x8_1) = true := decide_eq_true c4
        clear c4
        by_cases c5 : x8_1 = a1
        · rw [if_pos c5] at H
          have c5b0 : (x8_1 == a1) = true := beq_iff_eq.mpr c5
          have c5b1 : (x8_1 != a1) = false := bne_eq_false_iff_eq.mpr c5
          clear c5
          have H' := Aside0.mk H
          clear H
          go_wp2
          go_roundg k1
          case measure => have := HK1.out; omega
          case rel => exact ⟨(wrap64 ((wrap64 (x7_1 * 256)) + a2)), (wrap64 (x8_1 - 1)), (by first | rfl | (simp; done) | (simp [*]; done)), (by first | rfl | (simp; done) | (simp [*]; done)), H', ⟨by have := HK1.out; omega⟩, by repeat (first | exact Drawn0.refl _ | apply Drawn0.step)⟩
        · rw [if_neg c5] at H
          have c5b0 : (x8_1 == a1) = false := beq_eq_false_iff_ne.mpr c5
          have c5b1 : (x8_1 != a1) = true := bne_iff_ne.mpr c5
          have H' := Aside0.mk H
          clear H
          go_wp2
          go_roundg k1
          case measure => have := HK1.out; omega
          case rel => exact ⟨(wrap64 ((wrap64 (x7_1 * 256)) + (wrap64 (255 * a0)))), (wrap64 (x8_1 - 1)), (by first | rfl | (simp; done) | (simp [*]; done)), (by first | rfl | (simp; done) | (simp [*]; done)), H', ⟨by have := HK1.out; omega⟩, by repeat (first | exact Drawn0.refl _ | apply Drawn0.step)⟩
      · rw [if_neg c4] at H
        have c4b0 : decide (0 ≤ x8_1) = false := decide_eq_false c4
        clear c4
        replace H := Option.bind_eq_some_iff.mp H
        obtain ⟨t127, A60, H⟩ := H
        replace H : (some t127) = some r := H
        have A6 := Aside0.mk A60
        clear A60
        obtain rfl := Option.some.inj H
        go_wp2_with (first | ((with_reducible refine gate_callee (f := 26) rfl ?_); refine goesL_ (some 25) rfl rfl Try.func26 (by kernel_rfl) rfl #[.int .i64 x7_1, .int .i64 32] rfl (by (try simp only [List.map_toArray, List.map_cons, List.map_nil]); first | done | rfl | (simp only [List.length_drop, List.length_take]; rfl)) ?_; (with_reducible refine (letterpressref1_Sign.calls x7_1 32 t127 _ A6.out).mono ?_); rintro e w' ⟨rfl, ⟨nd, rfl⟩⟩; refine ⟨_, rfl, ?_⟩))
        go_ret
        exact ⟨by first | rfl | (simp; done) | (simp [*]; done), by repeat (first | exact Drawn0.refl _ | apply Drawn0.step)⟩

/-! ### letterpressref1_Fits: function 25 -/
def letterpressref1_Fits.f (a0 : Int) (a1 : Int) : Option (Bool) := if 0 ≤ (IntKind.u64.wrap (wrap64 (a1 - 1))) then (if a0 ≥ (wrap64 (-(shl .i64 1 (IntKind.u64.wrap (wrap64 (a1 - 1)))))) then (some (decide (a0 < (shl .i64 1 (IntKind.u64.wrap (wrap64 (a1 - 1))))))) else (some false)) else (none)
set_option maxHeartbeats 8000000 in
set_option maxRecDepth 100000 in
theorem letterpressref1_Fits.calls (a0 : Int) (a1 : Int) (r : Bool) (w : World) (h : letterpressref1_Fits.f a0 a1 = some r) :
    Calls Try.prog 25 #[.int .i64 a0, .int .i64 a1] w fun e w' => e = .returned (.bool r) ∧ Drawn0 w w' := by
  have H : (if 0 ≤ (IntKind.u64.wrap (wrap64 (a1 - 1))) then (if a0 ≥ (wrap64 (-(shl .i64 1 (IntKind.u64.wrap (wrap64 (a1 - 1)))))) then (some (decide (a0 < (shl .i64 1 (IntKind.u64.wrap (wrap64 (a1 - 1))))))) else (some false)) else (none)) = some r := h
  clear h
  obtain ⟨ji3, hji3⟩ : ∃ j_ : Int, (IntKind.u64.wrap (wrap64 (a1 - 1))) = j_ := ⟨_, rfl⟩
  replace H : (if 0 ≤ (ji3) then (if a0 ≥ (wrap64 (-(shl .i64 1 (ji3)))) then (some (decide (a0 < (shl .i64 1 (ji3))))) else (some false)) else (none)) = some r := by first | (rw [hji3] at H; exact H) | (simp only [hji3] at H ⊢; exact H)
  by_cases c4 : 0 ≤ (ji3)
  · rw [if_pos c4] at H
    have c4b0 := eq_true c4
    have c4b1 : decide (0 ≤ (ji3)) = true := decide_eq_true c4
    clear c4
    obtain ⟨ji5, hji5⟩ : ∃ j_ : Int, (shl .i64 1 (ji3)) = j_ := ⟨_, rfl⟩
    replace H : (if a0 ≥ (wrap64 (-(ji5))) then (some (decide (a0 < (ji5)))) else (some false)) = some r := by first | (rw [hji5] at H; exact H) | (simp only [hji5] at H ⊢; exact H)
    have hji5_ : (IntKind.i64.wrap (1 * 2 ^ min (ji3).toNat 64)) = ji5 := hji5
    have hji5z : (ji3) ≤ 64 → (IntKind.i64.wrap (1 * 2 ^ (ji3).toNat)) = ji5 := shl_small hji5
    have hji5u : (IntKind.i64.wrap (2 ^ min (ji3).toNat 64)) = ji5 := by have h_ := hji5_; rw [Int.one_mul] at h_; exact h_
    have hji5v : (ji3) ≤ 64 → (IntKind.i64.wrap (2 ^ (ji3).toNat)) = ji5 := fun hle_ => by have h_ := hji5z hle_; rw [Int.one_mul] at h_; exact h_
    have hji5y : (wrap64 (1 * 2 ^ min (ji3).toNat 64)) = ji5 := (i64_w _).symm.trans hji5_
    have hji5x : (ji3) ≤ 64 → (wrap64 (1 * 2 ^ (ji3).toNat)) = ji5 := fun h_ => (i64_w _).symm.trans (hji5z h_)
    by_cases c6 : a0 ≥ (wrap64 (-(ji5)))
    · rw [if_pos c6] at H
      have c6b0 : decide ((wrap64 (-(ji5))) ≤ a0) = true := decide_eq_true c6
      clear c6
      obtain rfl := Option.some.inj H
      go_enter Try.func25, Try.ntmps25
      go_wp2
      go_ret
      exact ⟨by first | rfl | (simp; done) | (simp only [← hji3, ← hji5] <;> (first | rfl | simp)) | (simp [*]; done), by repeat (first | exact Drawn0.refl _ | apply Drawn0.step)⟩
    · rw [if_neg c6] at H
      have c6b0 : decide ((wrap64 (-(ji5))) ≤ a0) = false := decide_eq_false c6
      clear c6
      obtain rfl := Option.some.inj H
      go_enter Try.func25, Try.ntmps25
      go_wp2
      go_ret
      exact ⟨by first | rfl | (simp; done) | (simp only [← hji3, ← hji5] <;> (first | rfl | simp)) | (simp [*]; done), by repeat (first | exact Drawn0.refl _ | apply Drawn0.step)⟩
  · rw [if_neg c4] at H
    exact absurd H (by simp)

/-! ### letterpressref1_Sci8: function 17 -/
mutual
def letterpressref1_Sci8.l0 : Nat → Int → Int → Option (Int × Int × Int × Bool)
  | 0, _, _ => none
  | k + 1, x0, x6 => if x6 < 2 then (letterpressref1_Sci8.l1 k x0 x6 0) else (some (0, 0, 0, false))
def letterpressref1_Sci8.l1 : Nat → Int → Int → Int → Option (Int × Int × Int × Bool)
  | 0, _, _, _ => none
  | k + 1, x0, x6, x7 => if x7 < 4 then (if 0 ≤ (IntKind.u64.wrap (wrap64 (8 * x7))) then ((letterpressref1_Back.f k x6 x7 (Go.bits .and .i64 (shr .i64 x0 (IntKind.u64.wrap (wrap64 (8 * x7)))) 255)).bind fun t129 => (if t129 = x0 then (some (x6, x7, Go.bits .and .i64 (shr .i64 x0 (IntKind.u64.wrap (wrap64 (8 * x7)))) 255, true)) else (letterpressref1_Sci8.l1 k x0 x6 (wrap64 (x7 + 1))))) else (none)) else (letterpressref1_Sci8.l0 k x0 (wrap64 (x6 + 1)))
end
def letterpressref1_Sci8.f (k : Nat) (a0 : Int) : Option (Int × Int × Int × Bool) := (letterpressref1_Fits.f a0 32).bind fun t128 => (if t128 = true then (letterpressref1_Sci8.l0 k a0 0) else (some (0, 0, 0, false)))
theorem letterpressref1_Sci8.mono_l : ∀ k, (∀ y0 y1, LeO (letterpressref1_Sci8.l0 k y0 y1) (letterpressref1_Sci8.l0 (k + 1) y0 y1)) ∧ (∀ y0 y1 y2, LeO (letterpressref1_Sci8.l1 k y0 y1 y2) (letterpressref1_Sci8.l1 (k + 1) y0 y1 y2))
  | 0 => ⟨fun _ _ r h => by simp [letterpressref1_Sci8.l0] at h, fun _ _ _ r h => by simp [letterpressref1_Sci8.l1] at h⟩
  | k + 1 => by
    obtain ⟨ih0, ih1⟩ := letterpressref1_Sci8.mono_l k
    refine ⟨?_, ?_⟩
    · intro y0 y1
      unfold letterpressref1_Sci8.l0
      repeat' first
      | (with_reducible exact ih0 _ _)
      | (with_reducible exact ih1 _ _ _)
      | (with_reducible exact letterpressref1_Back.mono _ _ _ _)
      | (with_reducible exact LeO.refl _)
      | (with_reducible exact LeO.none _)
      | (with_reducible refine LeO.ite ?_ ?_)
      | (with_reducible refine LeO.bind ?_ (fun _ => ?_))
      | exact ih0 _ _
      | exact ih1 _ _ _
      | exact letterpressref1_Back.mono _ _ _ _
      | exact LeO.none _
      | refine LeO.ite ?_ ?_
      | refine LeO.bind ?_ (fun _ => ?_)
    · intro y0 y1 y2
      unfold letterpressref1_Sci8.l1
      repeat' first
      | (with_reducible exact ih0 _ _)
      | (with_reducible exact ih1 _ _ _)
      | (with_reducible exact letterpressref1_Back.mono _ _ _ _)
      | (with_reducible exact LeO.refl _)
      | (with_reducible exact LeO.none _)
      | (with_reducible refine LeO.ite ?_ ?_)
      | (with_reducible refine LeO.bind ?_ (fun _ => ?_))
      | exact ih0 _ _
      | exact ih1 _ _ _
      | exact letterpressref1_Back.mono _ _ _ _
      | exact LeO.none _
      | refine LeO.ite ?_ ?_
      | refine LeO.bind ?_ (fun _ => ?_)
theorem letterpressref1_Sci8.mono : ∀ a0 k, LeO (letterpressref1_Sci8.f k a0) (letterpressref1_Sci8.f (k + 1) a0) := by
  intro a0 k
  obtain ⟨ih0, ih1⟩ := letterpressref1_Sci8.mono_l k
  unfold letterpressref1_Sci8.f
  repeat' first
      | (with_reducible exact ih0 _ _)
      | (with_reducible exact ih1 _ _ _)
      | (with_reducible exact letterpressref1_Back.mono _ _ _ _)
      | (with_reducible exact LeO.refl _)
      | (with_reducible exact LeO.none _)
      | (with_reducible refine LeO.ite ?_ ?_)
      | (with_reducible refine LeO.bind ?_ (fun _ => ?_))
      | exact ih0 _ _
      | exact ih1 _ _ _
      | exact letterpressref1_Back.mono _ _ _ _
      | exact LeO.none _
      | refine LeO.ite ?_ ?_
      | refine LeO.bind ?_ (fun _ => ?_)
set_option maxHeartbeats 8000000 in
set_option maxRecDepth 100000 in
theorem letterpressref1_Sci8.calls (k : Nat) (a0 : Int) (r1 : Int) (r2 : Int) (r3 : Int) (r4 : Bool) (w : World) (h : letterpressref1_Sci8.f k a0 = some (r1, r2, r3, r4)) :
    Calls Try.prog 17 #[.int .i64 a0] w fun e w' => e = .returned (.tuple #[.int .i64 r1, .int .i64 r2, .int .i64 r3, .bool r4]) ∧ Drawn0 w w' := by
  have H : ((letterpressref1_Fits.f a0 32).bind fun t128 => (if t128 = true then (letterpressref1_Sci8.l0 k a0 0) else (some (0, 0, 0, false)))) = some (r1, r2, r3, r4) := h
  clear h
  replace H := Option.bind_eq_some_iff.mp H
  obtain ⟨t128, A20, H⟩ := H
  replace H : (if t128 = true then (letterpressref1_Sci8.l0 k a0 0) else (some (0, 0, 0, false))) = some (r1, r2, r3, r4) := H
  have A2 := Aside0.mk A20
  clear A20
  by_cases c3 : t128 = true
  · subst c3
    have H1 : (letterpressref1_Sci8.l0 k a0 0) = some (r1, r2, r3, r4) := by rw [if_pos rfl] at H; exact H
    clear H
    have H := H1
    clear H1
    have H' := Aside0.mk H
    clear H
    go_enter Try.func17, Try.ntmps17
    go_wp2_with (first | ((with_reducible refine gate_callee (f := 25) rfl ?_); refine goesL_ (some 10) rfl rfl Try.func25 (by kernel_rfl) rfl #[.int .i64 a0, .int .i64 32] rfl (by (try simp only [List.map_toArray, List.map_cons, List.map_nil]); first | done | rfl | (simp only [List.length_drop, List.length_take]; rfl)) ?_; (with_reducible refine (letterpressref1_Fits.calls a0 32 true _ A2.out).mono ?_); rintro e w' ⟨rfl, ⟨nd, rfl⟩⟩; refine ⟨_, rfl, ?_⟩))
    go_loopg [6] k (fun kq v6 w' => ∃ (x6_1 : Int), v6 = .int .i64 x6_1 ∧ Aside0 (letterpressref1_Sci8.l0 kq a0 x6_1 = some (r1, r2, r3, r4)) ∧ Aside0 (kq ≤ k) ∧ Drawn0 w w')
    case atStart => exact ⟨(0), (by first | rfl | (simp; done) | (simp [*]; done)), H', ⟨Nat.le_refl _⟩, by repeat (first | exact Drawn0.refl _ | apply Drawn0.step)⟩
    case round =>
      clear H'
      try clear c1
      try clear c2
      try clear p2
      try clear c3
      obtain ⟨x6_1, rfl, HA, HK1, ⟨m1, rfl⟩⟩ := hrel
      cases gk with
      | zero => exact absurd HA.out (by simp [letterpressref1_Sci8.l0])
      | succ k1 =>
        have H := HA.out
        clear HA
        simp only [letterpressref1_Sci8.l0] at H
        by_cases c4 : x6_1 < 2
        · rw [if_pos c4] at H
          have c4b0 : decide (x6_1 < 2) = true := decide_eq_true c4
          clear c4
          have H' := Aside0.mk H
          clear H
          go_wp2
          go_loopg [7] k1 (fun kq v7 w' => ∃ (x7_2 : Int), v7 = .int .i64 x7_2 ∧ Aside0 (letterpressref1_Sci8.l1 kq a0 x6_1 x7_2 = some (r1, r2, r3, r4)) ∧ Aside0 (kq ≤ k1) ∧ Drawn0 w w')
          case atStart => exact ⟨(0), (by first | rfl | (simp; done) | (simp [*]; done)), H', ⟨Nat.le_refl _⟩, by repeat (first | exact Drawn0.refl _ | apply Drawn0.step)⟩
          case round =>
            clear H'
            try clear c1
            try clear c2
            try clear p2
            try clear c3
            try clear c4
            try clear c4b0
            try clear p2
            obtain ⟨x7_2, rfl, HA, HK2, ⟨m2, rfl⟩⟩ := hrel
            cases gk with
            | zero => exact absurd HA.out (by simp [letterpressref1_Sci8.l1])
            | succ k2 =>
              have H := HA.out
              clear HA
              simp only [letterpressref1_Sci8.l1] at H
              by_cases c5 : x7_2 < 4
              · rw [if_pos c5] at H
                have c5b0 : decide (x7_2 < 4) = true := decide_eq_true c5
                clear c5
                obtain ⟨ji6, hji6⟩ : ∃ j_ : Int, (IntKind.u64.wrap (wrap64 (8 * x7_2))) = j_ := ⟨_, rfl⟩
                replace H : (if 0 ≤ (ji6) then ((letterpressref1_Back.f k2 x6_1 x7_2 (Go.bits .and .i64 (shr .i64 a0 (ji6)) 255)).bind fun t129 => (if t129 = a0 then (some (x6_1, x7_2, Go.bits .and .i64 (shr .i64 a0 (ji6)) 255, true)) else (letterpressref1_Sci8.l1 k2 a0 x6_1 (wrap64 (x7_2 + 1))))) else (none)) = some (r1, r2, r3, r4) := by first | (rw [hji6] at H; exact H) | (simp only [hji6] at H ⊢; exact H)
                by_cases c7 : 0 ≤ (ji6)
                · rw [if_pos c7] at H
                  have c7b0 := eq_true c7
                  have c7b1 : decide (0 ≤ (ji6)) = true := decide_eq_true c7
                  clear c7
                  obtain ⟨ji8, hji8⟩ : ∃ j_ : Int, (shr .i64 a0 (ji6)) = j_ := ⟨_, rfl⟩
                  replace H : ((letterpressref1_Back.f k2 x6_1 x7_2 (Go.bits .and .i64 (ji8) 255)).bind fun t129 => (if t129 = a0 then (some (x6_1, x7_2, Go.bits .and .i64 (ji8) 255, true)) else (letterpressref1_Sci8.l1 k2 a0 x6_1 (wrap64 (x7_2 + 1))))) = some (r1, r2, r3, r4) := by first | (rw [hji8] at H; exact H) | (simp only [hji8] at H ⊢; exact H)
                  have hji8_ : (a0 / 2 ^ min (ji6).toNat 64) = ji8 := hji8
                  have hji8z : (ji6) ≤ 64 → (a0 / 2 ^ (ji6).toNat) = ji8 := shr_small hji8
                  replace H := Option.bind_eq_some_iff.mp H
                  obtain ⟨t129, A90, H⟩ := H
                  replace H : (if t129 = a0 then (some (x6_1, x7_2, Go.bits .and .i64 (ji8) 255, true)) else (letterpressref1_Sci8.l1 k2 a0 x6_1 (wrap64 (x7_2 + 1)))) = some (r1, r2, r3, r4) := H
                  have A9 := Aside0.mk A90
                  clear A90
                  by_cases c10 : t129 = a0
                  · rw [if_pos c10] at H
                    have c10b0 : (t129 == a0) = true := beq_iff_eq.mpr c10
                    have c10b1 : (t129 != a0) = false := bne_eq_false_iff_eq.mpr c10
                    clear c10
                    simp only [Option.some.injEq, Prod.mk.injEq] at H
                    obtain ⟨rfl, rfl, rfl, rfl⟩ := H
                    go_wp2_with (first | ((with_reducible refine gate_callee (f := 19) rfl ?_); refine goesL_ (some 29) rfl rfl Try.func19 (by kernel_rfl) rfl #[.int .i64 x6_1, .int .i64 x7_2, .int .i64 (Go.bits .and .i64 (ji8) 255)] rfl (by (try simp only [List.map_toArray, List.map_cons, List.map_nil]); first | done | (simp only [hji8]; rfl) | rfl | (simp only [List.length_drop, List.length_take]; rfl)) ?_; (with_reducible refine (letterpressref1_Back.calls k2 x6_1 x7_2 (Go.bits .and .i64 (ji8) 255) t129 _ A9.out).mono ?_); rintro e w' ⟨rfl, ⟨nd, rfl⟩⟩; refine ⟨_, rfl, ?_⟩))
                    refine bodyPost_ret (results_list (rs := [.tmp 2, .tmp 3, .tmp 4, .tmp 5]) rfl (by simp) (.tmp (.tmp (.tmp (.tmp .nil))))) rfl ?_
                    exact ⟨by first | rfl | (simp; done) | (simp only [← hji6, ← hji8] <;> (first | rfl | simp)) | (simp [*]; done), by repeat (first | exact Drawn0.refl _ | apply Drawn0.step)⟩
                  · rw [if_neg c10] at H
                    have c10b0 : (t129 == a0) = false := beq_eq_false_iff_ne.mpr c10
                    have c10b1 : (t129 != a0) = true := bne_iff_ne.mpr c10
                    have H' := Aside0.mk H
                    clear H
                    go_wp2_with (first | ((with_reducible refine gate_callee (f := 19) rfl ?_); refine goesL_ (some 29) rfl rfl Try.func19 (by kernel_rfl) rfl #[.int .i64 x6_1, .int .i64 x7_2, .int .i64 (Go.bits .and .i64 (ji8) 255)] rfl (by (try simp only [List.map_toArray, List.map_cons, List.map_nil]); first | done | (simp only [hji8]; rfl) | rfl | (simp only [List.length_drop, List.length_take]; rfl)) ?_; (with_reducible refine (letterpressref1_Back.calls k2 x6_1 x7_2 (Go.bits .and .i64 (ji8) 255) t129 _ A9.out).mono ?_); rintro e w' ⟨rfl, ⟨nd, rfl⟩⟩; refine ⟨_, rfl, ?_⟩))
                    go_roundg k2
                    case measure => have := HK1.out; have := HK2.out; omega
                    case rel => exact ⟨(wrap64 (x7_2 + 1)), (by first | rfl | (simp; done) | (simp [*]; done)), H', ⟨by have := HK1.out; have := HK2.out; omega⟩, by repeat (first | exact Drawn0.refl _ | apply Drawn0.step)⟩
                · rw [if_neg c7] at H
                  exact absurd H (by simp)
              · rw [if_neg c5] at H
                have c5b0 : decide (x7_2 < 4) = false := decide_eq_false c5
                clear c5
                have H' := Aside0.mk H
                clear H
                go_wp2
                go_roundg k2
                case measure => have := HK1.out; have := HK2.out; omega
                case rel => exact ⟨(wrap64 (x6_1 + 1)), (by first | rfl | (simp; done) | (simp [*]; done)), H', ⟨by have := HK1.out; have := HK2.out; omega⟩, by repeat (first | exact Drawn0.refl _ | apply Drawn0.step)⟩
        · rw [if_neg c4] at H
          have c4b0 : decide (x6_1 < 2) = false := decide_eq_false c4
          clear c4
          simp only [Option.some.injEq, Prod.mk.injEq] at H
          obtain ⟨rfl, rfl, rfl, rfl⟩ := H
          go_wp2
          refine bodyPost_ret (results_list (rs := [.tmp 2, .tmp 3, .tmp 4, .tmp 5]) rfl (by simp) (.tmp (.tmp (.tmp (.tmp .nil))))) rfl ?_
          exact ⟨by first | rfl | (simp; done) | (simp [*]; done), by repeat (first | exact Drawn0.refl _ | apply Drawn0.step)⟩
  · replace c3 := Bool.eq_false_iff.mpr c3
    subst c3
    have H1 : (some (0, 0, 0, false)) = some (r1, r2, r3, r4) := by rw [if_neg (show ¬ (false = true) by decide)] at H; exact H
    clear H
    have H := H1
    clear H1
    simp only [Option.some.injEq, Prod.mk.injEq] at H
    obtain ⟨rfl, rfl, rfl, rfl⟩ := H
    go_enter Try.func17, Try.ntmps17
    go_wp2_with (first | ((with_reducible refine gate_callee (f := 25) rfl ?_); refine goesL_ (some 10) rfl rfl Try.func25 (by kernel_rfl) rfl #[.int .i64 a0, .int .i64 32] rfl (by (try simp only [List.map_toArray, List.map_cons, List.map_nil]); first | done | rfl | (simp only [List.length_drop, List.length_take]; rfl)) ?_; (with_reducible refine (letterpressref1_Fits.calls a0 32 false _ A2.out).mono ?_); rintro e w' ⟨rfl, ⟨nd, rfl⟩⟩; refine ⟨_, rfl, ?_⟩))
    refine bodyPost_ret (results_list (rs := [.tmp 2, .tmp 3, .tmp 4, .tmp 5]) rfl (by simp) (.tmp (.tmp (.tmp (.tmp .nil))))) rfl ?_
    exact ⟨by first | rfl | (simp; done) | (simp [*]; done), by repeat (first | exact Drawn0.refl _ | apply Drawn0.step)⟩

end Go.Proofs.Yteoacclnndbcfaa.X
