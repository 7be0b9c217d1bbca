/- IsaNames: part 4 of the proof that, whatever the input, the law returns true and the input reads as it did; its conditions are those of the given row. -/
import Derived.Test.YticofbaajdgabaaDoorZIsaNames3
import Derived.Test.YticofbaajdgabaaDoorFl
import Derived.Tactics
import Derived.WalkLawsBesides
import Derived.RowKit3
import Derived.Laws.BitsLemmas
import Derived.Test.YticofbaajdgabaaDoorSh
import Derived.Test.YticofbaajdgabaaDoorRows
import Derived.LaidMore
import Derived.MakeChecks
import Derived.WalkKit
import Derived.Deep.LoopGhost
import Derived.Lib.Walk
import Derived.Lib.SliceRun
import Derived.Test.YticofbaajdgabaaDoorTie
import Derived.Test.YticofbaajdgabaaDoorCards
import Derived.ProofKit
import Derived.OpenShut
import Derived.Stop.Joined
import Derived.Lay
import Derived.SevenTiedAt
set_option linter.unusedVariables false
set_option linter.unusedSimpArgs false
namespace Go.Ab
open Go.Proofs
theorem w2_IsaNames_k (P : Program) (call : CallF) (lp : Loops) (c_w2_known : Option Bool) (c_w2_within : Int → Int → Option Int) (c_isa_Find : ByteArray → Option (Int × Bool)) (c_r2_Find : ByteArray → Option (Int × Bool)) (l_w2_IsaNames_L1 : w2_IsaNames_L1_A → Option (Bool ⊕ ByteArray)) (hc_w2_known : ∀  (r : Bool), c_w2_known = some r → (call 14 [] []) = some (w2_known_e r)) (hc_w2_within : ∀ (a0 : Int) (a1 : Int) (r : Int), c_w2_within a0 a1 = some r → (call 17 [.sc (.int .i64 a0), .sc (.int .i64 a1)] []) = some (w2_within_e r)) (hc_isa_Find : ∀ (a0 : ByteArray) (r : (Int × Bool)), c_isa_Find a0 = some r → (call 33 [.sc (.string a0)] []) = some (isa_Find_e r)) (hc_r2_Find : ∀ (a0 : ByteArray) (r : (Int × Bool)), c_r2_Find a0 = some r → (call 34 [.sc (.string a0)] []) = some (r2_Find_e r)) (hl_w2_IsaNames_L1 : ∀ (a : w2_IsaNames_L1_A) (r : (Bool ⊕ ByteArray)), l_w2_IsaNames_L1 a = some r → lp (loopAt P 13 7) (w2_IsaNames_L1_s a) = some (w2_IsaNames_L1_e r)) (a0 : Int) (a1 : ByteArray) : (w2_IsaNames_t P call c_w2_known c_w2_within c_isa_Find c_r2_Find l_w2_IsaNames_L1 a0 a1).ok lp w2_IsaNames_e := fun r1 hr1 => ⟨hc_w2_known _ hr1, ⟨rfl, fun h0 => rfl, fun h0 => ⟨rfl, fun h1 => rfl, fun h1 => fun r2 hr2 => ⟨hc_w2_within _ _ _ hr2, ⟨(R_i64_map [(w64 (r2 - (2 : Int))), a0]), ⟨fun o3 ho3 => ⟨hl_w2_IsaNames_L1 _ (.inl _) ho3, rfl⟩, fun o4 ho4 => ⟨hl_w2_IsaNames_L1 _ (.inr _) ho4, fun r5 hr5 => ⟨hc_isa_Find _ _ hr5, fun r6 hr6 => ⟨hc_r2_Find _ _ hr6, ⟨rfl, fun h2 => yesN_ok 3 (h2) (rfl), fun h2 => noN_ok 3 (h2) (rfl)⟩⟩⟩⟩⟩⟩⟩⟩⟩⟩
theorem w2_IsaNames_m {c_w2_known d_w2_known : Option Bool} (h_w2_known : Le (c_w2_known ) (d_w2_known )) {c_w2_within d_w2_within : Int → Int → Option Int} (h_w2_within : ∀ (a0 : Int) (a1 : Int), Le (c_w2_within a0 a1) (d_w2_within a0 a1)) {c_isa_Find d_isa_Find : ByteArray → Option (Int × Bool)} (h_isa_Find : ∀ (a0 : ByteArray), Le (c_isa_Find a0) (d_isa_Find a0)) {c_r2_Find d_r2_Find : ByteArray → Option (Int × Bool)} (h_r2_Find : ∀ (a0 : ByteArray), Le (c_r2_Find a0) (d_r2_Find a0)) {l_w2_IsaNames_L1 m_w2_IsaNames_L1 : w2_IsaNames_L1_A → Option (Bool ⊕ ByteArray)} (hl_w2_IsaNames_L1 : ∀ a, Le (l_w2_IsaNames_L1 a) (m_w2_IsaNames_L1 a)) (a0 : Int) (a1 : ByteArray) : Le (w2_IsaNames_b c_w2_known c_w2_within c_isa_Find c_r2_Find l_w2_IsaNames_L1 a0 a1) (w2_IsaNames_b d_w2_known d_w2_within d_isa_Find d_r2_Find m_w2_IsaNames_L1 a0 a1) := by
  unfold w2_IsaNames_b
  exact .bind (h_w2_known) fun r1 => .cond (.refl _) (.cond (.refl _) (.bind (h_w2_within _ _) fun r2 => .bind (hl_w2_IsaNames_L1 _) fun x => .sum (fun o3 => .refl _) (fun o4 => .bind (h_isa_Find _) fun r5 => .bind (h_r2_Find _) fun r6 => .refl _) x))
theorem w2_IsaNames_c {c_w2_known : Nat → Option Bool} {d_w2_known : Option Bool} (h_w2_known : Cv (fun k => c_w2_known k ) (d_w2_known )) {c_w2_within : Nat → Int → Int → Option Int} {d_w2_within : Int → Int → Option Int} (h_w2_within : ∀ (a0 : Int) (a1 : Int), Cv (fun k => c_w2_within k a0 a1) (d_w2_within a0 a1)) {c_isa_Find : Nat → ByteArray → Option (Int × Bool)} {d_isa_Find : ByteArray → Option (Int × Bool)} (h_isa_Find : ∀ (a0 : ByteArray), Cv (fun k => c_isa_Find k a0) (d_isa_Find a0)) {c_r2_Find : Nat → ByteArray → Option (Int × Bool)} {d_r2_Find : ByteArray → Option (Int × Bool)} (h_r2_Find : ∀ (a0 : ByteArray), Cv (fun k => c_r2_Find k a0) (d_r2_Find a0)) {l_w2_IsaNames_L1 : Nat → w2_IsaNames_L1_A → Option (Bool ⊕ ByteArray)} {m_w2_IsaNames_L1 : w2_IsaNames_L1_A → Option (Bool ⊕ ByteArray)} (hl_w2_IsaNames_L1 : ∀ a, Cv (fun k => l_w2_IsaNames_L1 k a) (m_w2_IsaNames_L1 a)) (a0 : Int) (a1 : ByteArray) : Cv (fun k => w2_IsaNames_b (c_w2_known k) (c_w2_within k) (c_isa_Find k) (c_r2_Find k) (l_w2_IsaNames_L1 k) a0 a1) (w2_IsaNames_b d_w2_known d_w2_within d_isa_Find d_r2_Find m_w2_IsaNames_L1 a0 a1) := by
  unfold w2_IsaNames_b
  exact .bind (h_w2_known) fun r1 => .cond (by exact .const _) (.cond (by exact .const _) (.bind (h_w2_within _ _) fun r2 => .bind (hl_w2_IsaNames_L1 _) fun x => .sum (fun o3 => by exact .const _) (fun o4 => .bind (h_isa_Find _) fun r5 => .bind (h_r2_Find _) fun r6 => by exact .const _) x))
def w2_IsaNames.s : Nat → Int → ByteArray → Option Bool
  | 0, _, _ => none
  | k + 1, a0, a1 => w2_IsaNames_b (w2_known.s k) (fun a0 a1 => w2_within.s k a0 a1) (fun a0 => isa_Find.s k a0) (fun a0 => r2_Find.s k a0) (w2_IsaNames_L1.s k (fun a0 => isa_Name.s k a0) (fun a0 => r2_Name.s k a0) (fun a0 => isa_Kinds.s k a0) (fun a0 => r2_Kinds.s k a0) (fun a0 => isa_Size.s k a0) (fun a0 => r2_Size.s k a0) (fun a0 => isa_Find.s k a0)) a0 a1
theorem w2_IsaNames.ok : ∀ (k : Nat), ∀ (a0 : Int) (a1 : ByteArray) (r : Bool), w2_IsaNames.s k a0 a1 = some r → evalFn Tryd.prog G k 13 [.sc (.int .i64 a0), .sc (.string a1)] [] = some (w2_IsaNames_e r)
  | 0, _, _, _, h => (nomatch h)
  | k + 1, a0, a1, r, h => fn_ok rfl (w2_IsaNames_t Tryd.prog (evalFn Tryd.prog G k) (w2_known.s k) (fun a0 a1 => w2_within.s k a0 a1) (fun a0 => isa_Find.s k a0) (fun a0 => r2_Find.s k a0) (w2_IsaNames_L1.s k (fun a0 => isa_Name.s k a0) (fun a0 => r2_Name.s k a0) (fun a0 => isa_Kinds.s k a0) (fun a0 => r2_Kinds.s k a0) (fun a0 => isa_Size.s k a0) (fun a0 => r2_Size.s k a0) (fun a0 => isa_Find.s k a0)) a0 a1) (w2_IsaNames_n _ (w2_known.s k) (fun a0 a1 => w2_within.s k a0 a1) (fun a0 => isa_Find.s k a0) (fun a0 => r2_Find.s k a0) (w2_IsaNames_L1.s k (fun a0 => isa_Name.s k a0) (fun a0 => r2_Name.s k a0) (fun a0 => isa_Kinds.s k a0) (fun a0 => r2_Kinds.s k a0) (fun a0 => isa_Size.s k a0) (fun a0 => r2_Size.s k a0) (fun a0 => isa_Find.s k a0)) a0 a1) (w2_IsaNames_k _ _ _ (w2_known.s k) (fun a0 a1 => w2_within.s k a0 a1) (fun a0 => isa_Find.s k a0) (fun a0 => r2_Find.s k a0) (w2_IsaNames_L1.s k (fun a0 => isa_Name.s k a0) (fun a0 => r2_Name.s k a0) (fun a0 => isa_Kinds.s k a0) (fun a0 => r2_Kinds.s k a0) (fun a0 => isa_Size.s k a0) (fun a0 => r2_Size.s k a0) (fun a0 => isa_Find.s k a0)) (w2_known.ok k) (w2_within.ok k) (isa_Find.ok k) (r2_Find.ok k) (w2_IsaNames_L1_ok _ k (fun a0 => isa_Name.s k a0) (fun a0 => r2_Name.s k a0) (fun a0 => isa_Kinds.s k a0) (fun a0 => r2_Kinds.s k a0) (fun a0 => isa_Size.s k a0) (fun a0 => r2_Size.s k a0) (fun a0 => isa_Find.s k a0) (isa_Name.ok k) (r2_Name.ok k) (isa_Kinds.ok k) (r2_Kinds.ok k) (isa_Size.ok k) (r2_Size.ok k) (isa_Find.ok k)) a0 a1) ((w2_IsaNames_d _ _ (w2_known.s k) (fun a0 a1 => w2_within.s k a0 a1) (fun a0 => isa_Find.s k a0) (fun a0 => r2_Find.s k a0) (w2_IsaNames_L1.s k (fun a0 => isa_Name.s k a0) (fun a0 => r2_Name.s k a0) (fun a0 => isa_Kinds.s k a0) (fun a0 => r2_Kinds.s k a0) (fun a0 => isa_Size.s k a0) (fun a0 => r2_Size.s k a0) (fun a0 => isa_Find.s k a0)) a0 a1).trans h)
theorem w2_IsaNames.mono : ∀ (k : Nat) (a0 : Int) (a1 : ByteArray), Le (w2_IsaNames.s k a0 a1) (w2_IsaNames.s (k + 1) a0 a1)
  | 0, _, _ => fun r h => (nomatch h)
  | k + 1, a0, a1 => w2_IsaNames_m (w2_known.mono k) (w2_within.mono k) (isa_Find.mono k) (r2_Find.mono k) (w2_IsaNames_L1.m (Nat.le_succ k) (fun a0 => isa_Name.s k a0) (fun a0 => r2_Name.s k a0) (fun a0 => isa_Kinds.s k a0) (fun a0 => r2_Kinds.s k a0) (fun a0 => isa_Size.s k a0) (fun a0 => r2_Size.s k a0) (fun a0 => isa_Find.s k a0) (fun a0 => isa_Name.s (k + 1) a0) (fun a0 => r2_Name.s (k + 1) a0) (fun a0 => isa_Kinds.s (k + 1) a0) (fun a0 => r2_Kinds.s (k + 1) a0) (fun a0 => isa_Size.s (k + 1) a0) (fun a0 => r2_Size.s (k + 1) a0) (fun a0 => isa_Find.s (k + 1) a0) (isa_Name.mono k) (r2_Name.mono k) (isa_Kinds.mono k) (r2_Kinds.mono k) (isa_Size.mono k) (r2_Size.mono k) (isa_Find.mono k)) a0 a1
noncomputable def w2_IsaNames (a0 : Int) (a1 : ByteArray) : Option Bool := lim fun k => w2_IsaNames.s k a0 a1
theorem w2_IsaNames.cv (a0 : Int) (a1 : ByteArray) : Cv (fun k => w2_IsaNames.s k a0 a1) (w2_IsaNames a0 a1) := .lim fun k => w2_IsaNames.mono k a0 a1
noncomputable def w2_IsaNames_L1 : w2_IsaNames_L1_A → Option (Bool ⊕ ByteArray) := w2_IsaNames_L1.w isa_Name r2_Name isa_Kinds r2_Kinds isa_Size r2_Size isa_Find
theorem w2_IsaNames_L1.eq (a : w2_IsaNames_L1_A) : w2_IsaNames_L1 a = (w2_IsaNames_L1_b isa_Name r2_Name isa_Kinds r2_Kinds isa_Size r2_Size isa_Find a).bind (Sum.elim w2_IsaNames_L1 some) := loopW_eq _ _
theorem w2_IsaNames.eq (a0 : Int) (a1 : ByteArray) : w2_IsaNames a0 a1 = w2_IsaNames_b w2_known w2_within isa_Find r2_Find w2_IsaNames_L1 a0 a1 := Cv.uniq (w2_IsaNames.cv a0 a1).shift (w2_IsaNames_c w2_known.cv w2_within.cv isa_Find.cv r2_Find.cv (w2_IsaNames_L1.cv (fun k => fun a0 => isa_Name.s k a0) (fun k => fun a0 => r2_Name.s k a0) (fun k => fun a0 => isa_Kinds.s k a0) (fun k => fun a0 => r2_Kinds.s k a0) (fun k => fun a0 => isa_Size.s k a0) (fun k => fun a0 => r2_Size.s k a0) (fun k => fun a0 => isa_Find.s k a0) isa_Name r2_Name isa_Kinds r2_Kinds isa_Size r2_Size isa_Find isa_Name.cv r2_Name.cv isa_Kinds.cv r2_Kinds.cv isa_Size.cv r2_Size.cv isa_Find.cv) a0 a1)
theorem w2_IsaNames.run (a0 : Int) (a1 : ByteArray) {r : Bool} (h : w2_IsaNames a0 a1 = some r) : ∃ k, evalFn Tryd.prog G k 13 [.sc (.int .i64 a0), .sc (.string a1)] [] = some (w2_IsaNames_e r) :=
  let ⟨k, hk⟩ := ((w2_IsaNames.cv a0 a1).2 r).1 h
  ⟨k, w2_IsaNames.ok k a0 a1 r hk⟩

end Go.Ab
namespace Go.Proofs.YticofbaajdgabaaDoor
open Go Go.Ab Go.RowKit Go.Shelf
theorem gSp : Tryd.prog.globalNamed "strings.asciiSpace" = some 0 := by kernel_rfl
theorem tSp : (Tryd.prog.globals[0]?).map (·.type) = some 96 := by kernel_rfl
theorem cells_u8 : Tryd.prog.cellsOf 5 = 1 := by kernel_rfl
theorem cells_sp : Tryd.prog.cellsOf 96 = 256 := by kernel_rfl
theorem datum {H : Type} : (Rows.laid_strings_asciiSpace : DataW H) = Lib.tabData .u8 Lib.asciiSpaceTab := by kernel_rfl
def told : Ab.Told := told1 Tryd.prog "strings.asciiSpace" 0 (Lib.asciiSpaceTab.map fun z => Value.int .u8 z).toArray
theorem told_of {W : World} (h : laidMetH Tryd.prog [("unicode.White_Space", Rows.laid_unicode_White_Space), ("strings.asciiSpace", Rows.laid_strings_asciiSpace)] W) : told.T (oldCtx W).Z W := by
  rw [MakeChecks.laidMetH_plain _ _ _ (by kernel_rfl)] at h
  obtain ⟨ps, ⟨g0, t0, cs0, f0, p0, q0, hg0, ht0, hv0, hd0, ⟨g2, t2, cs2, f2, p2, q2, hg2, ht2, hv2, hd2, _⟩, _⟩, _⟩ := h
  obtain rfl := Option.some.inj (gSp.symm.trans hg2)
  obtain rfl := Option.some.inj (tSp.symm.trans ht2)
  rw [datum] at hd2
  refine tabT_old gSp (hv2.trans ?_) (of_decide_eq_true (by kernel_rfl))
  have := Lib.cells_of_tab Tryd.underlying96 Tryd.underlying5 cells_u8 cells_sp hd2
  rw [← this]
set_option maxHeartbeats 2000000 in
set_option maxRecDepth 100000 in
theorem cli_nil (n c : Nat) (w : World) : Calls Tryd.prog 44 #[.slice none n c] w fun e w' => e = .returned (.slice none 0 0) ∧ w' = w := by
  have mixed : Tryd.prog.follows .mixedOrders = true := by kernel_rfl
  have t0 := Tryd.underlying3; have a0 := Tryd.isAgg3; have z0 := Tryd.sizeOf3; have v0 := Tryd.zeroValue3; have t1 := Tryd.underlying23; have a1 := Tryd.isAgg23; have z1 := Tryd.sizeOf23; have v1 := Tryd.zeroValue23; have t2 := Tryd.underlying4; have a2 := Tryd.isAgg4; have z2 := Tryd.sizeOf4; have v2 := Tryd.zeroValue4
  have q22 : ∀ (w : World) (a : Option Addr) (n c n' c' : Nat), (binOp .eql 23 (.slice a n c) (.slice none n' c')).run Tryd.prog w = .ok (.bool a.isNone) w := fun w a n c n' c' => Lib.run_eql_slice_nil w _ _ a n c n' c' t1
  go_enter Tryd.func44, Tryd.ntmps44
  go_wp2
  go_ret
  exact ⟨rfl, rfl⟩
set_option maxHeartbeats 2000000 in
set_option maxRecDepth 100000 in
theorem cli_zero (a : Addr) (c : Nat) (w : World) : Calls Tryd.prog 44 #[.slice (some a) 0 c] w fun e w' => ∃ v', e = .returned v' ∧ w'.ownsRow w.heap.size 3 1 v' 0 [] ∧ Below w.heap.size w w' := by
  have mixed : Tryd.prog.follows .mixedOrders = true := by kernel_rfl
  have t0 := Tryd.underlying3; have a0 := Tryd.isAgg3; have z0 := Tryd.sizeOf3; have v0 := Tryd.zeroValue3; have t1 := Tryd.underlying23; have a1 := Tryd.isAgg23; have z1 := Tryd.sizeOf23; have v1 := Tryd.zeroValue23; have t2 := Tryd.underlying4; have a2 := Tryd.isAgg4; have z2 := Tryd.sizeOf4; have v2 := Tryd.zeroValue4
  have q22 : ∀ (w : World) (a : Option Addr) (n c n' c' : Nat), (binOp .eql 23 (.slice a n c) (.slice none n' c')).run Tryd.prog w = .ok (.bool a.isNone) w := fun w a n c n' c' => Lib.run_eql_slice_nil w _ _ a n c n' c' t1
  have hinfo : (Tryd.prog.info? 3).map (fun i => (i.zero, i.size, i.bytes)) = some (some (.int .i64 0), 1, 8) := by kernel_rfl
  obtain ⟨i0, hi, hz0, hz1, hz2⟩ := info_parts hinfo
  have u22 : ∀ w, Sem.run Tryd.prog (underlying 23) w = .ok (TypeDesc.slice 3) w := run_underlying t1
  go_enter Tryd.func44, Tryd.ntmps44
  go_wp2_with (at_builtin; refine wpList_append_own _ rfl _ _ 23 rfl w.heap.size 3 i0 (.int .i64 0) 1 8 t1 hi hz0 hz1 hz2 rfl (by decide) _ _ _ rfl (World.ownsRow_made w #[] 0 (Nat.le_refl _) (Nat.zero_le _) rfl) a 0 c [] rfl rfl (by intro j u hj; simp at hj) (by intro u hu; cases hu) (by unfold maxLen; omega) (by omega) (by simp) ?_)
  intro v' w1 hown hgrow hnil
  go_wp2
  go_ret
  refine ⟨v', rfl, by simpa using hown, ?_⟩
  exact ((Below.refl _ w).alloc (Nat.le_refl _) _).grown hgrow (by simp) (by intro k hk; simp [Value.ownBlock] at hk; omega)
set_option maxHeartbeats 2000000 in
set_option maxRecDepth 100000 in
theorem cli_some (b off c : Nat) (zs : List Value) (w : World) (hbig : zs.length * 8 ≤ 140737488355328) (hsc : zs.all scal = true) (hc : ∀ (j : Nat) z, zs[j]? = some z → w.cell? ⟨b, off + j, none⟩ = some z) :
    Calls Tryd.prog 44 #[.slice (some ⟨b, off, none⟩) zs.length c] w fun e w' => ∃ v', e = .returned v' ∧ w'.ownsRow w.heap.size 3 1 v' zs.length zs ∧ Below w.heap.size w w' := by
  have mixed : Tryd.prog.follows .mixedOrders = true := by kernel_rfl
  have t0 := Tryd.underlying3; have a0 := Tryd.isAgg3; have z0 := Tryd.sizeOf3; have v0 := Tryd.zeroValue3; have t1 := Tryd.underlying23; have a1 := Tryd.isAgg23; have z1 := Tryd.sizeOf23; have v1 := Tryd.zeroValue23; have t2 := Tryd.underlying4; have a2 := Tryd.isAgg4; have z2 := Tryd.sizeOf4; have v2 := Tryd.zeroValue4
  have q22 : ∀ (w : World) (a : Option Addr) (n c n' c' : Nat), (binOp .eql 23 (.slice a n c) (.slice none n' c')).run Tryd.prog w = .ok (.bool a.isNone) w := fun w a n c n' c' => Lib.run_eql_slice_nil w _ _ a n c n' c' t1
  have hinfo : (Tryd.prog.info? 3).map (fun i => (i.zero, i.size, i.bytes)) = some (some (.int .i64 0), 1, 8) := by kernel_rfl
  obtain ⟨i0, hi, hz0, hz1, hz2⟩ := info_parts hinfo
  have u22 : ∀ w, Sem.run Tryd.prog (underlying 23) w = .ok (TypeDesc.slice 3) w := run_underlying t1
  have A : Aside (∀ (j : Nat) z, zs[j]? = some z → w.cell? ⟨b, off + j, none⟩ = some z) := hc
  clear hc
  go_enter Tryd.func44, Tryd.ntmps44
  go_wp2_with (at_builtin; refine wpList_append_own _ rfl _ _ 23 rfl w.heap.size 3 i0 (.int .i64 0) 1 8 t1 hi hz0 hz1 hz2 rfl (by decide) _ _ _ rfl (World.ownsRow_made w #[] 0 (Nat.le_refl _) (Nat.zero_le _) rfl) ⟨b, off, none⟩ zs.length c zs rfl ?qc1 ?qc2 ?qc3 ?qc4 ?qc5 ?qc6 ?_)
  case qc1 => simp
  case qc2 =>
    intro j u hj
    rw [Addr.add_lit]
    exact Lib.cell?_alloc_some _ (A.out j u hj)
  case qc3 => intro u hu; exact oneCell_leaf (c := oldCtx w) (w := w) (.sc u (List.all_eq_true.1 hsc u hu)) rfl
  case qc4 => unfold maxLen; omega
  case qc5 => omega
  case qc6 => simp
  intro v' w1 hown hgrow hnil
  go_wp2
  go_ret
  refine ⟨v', rfl, by simpa using hown, ?_⟩
  exact ((Below.refl _ w).alloc (Nat.le_refl _) _).grown hgrow (by simp) (by intro k hk; simp [Value.ownBlock] at hk; omega)

set_option maxHeartbeats 2000000 in
set_option maxRecDepth 100000 in
theorem clb_nil (n c : Nat) (w : World) : Calls Tryd.prog 46 #[.slice none n c] w fun e w' => e = .returned (.slice none 0 0) ∧ w' = w := by
  have mixed : Tryd.prog.follows .mixedOrders = true := by kernel_rfl
  have t0 := Tryd.underlying5; have a0 := Tryd.isAgg5; have z0 := Tryd.sizeOf5; have v0 := Tryd.zeroValue5; have t1 := Tryd.underlying22; have a1 := Tryd.isAgg22; have z1 := Tryd.sizeOf22; have v1 := Tryd.zeroValue22; have t2 := Tryd.underlying4; have a2 := Tryd.isAgg4; have z2 := Tryd.sizeOf4; have v2 := Tryd.zeroValue4
  have q22 : ∀ (w : World) (a : Option Addr) (n c n' c' : Nat), (binOp .eql 22 (.slice a n c) (.slice none n' c')).run Tryd.prog w = .ok (.bool a.isNone) w := fun w a n c n' c' => Lib.run_eql_slice_nil w _ _ a n c n' c' t1
  go_enter Tryd.func46, Tryd.ntmps46
  go_wp2
  go_ret
  exact ⟨rfl, rfl⟩
set_option maxHeartbeats 2000000 in
set_option maxRecDepth 100000 in
theorem clb_zero (a : Addr) (c : Nat) (w : World) : Calls Tryd.prog 46 #[.slice (some a) 0 c] w fun e w' => ∃ v', e = .returned v' ∧ w'.ownsRow w.heap.size 5 1 v' 0 [] ∧ Below w.heap.size w w' := by
  have mixed : Tryd.prog.follows .mixedOrders = true := by kernel_rfl
  have t0 := Tryd.underlying5; have a0 := Tryd.isAgg5; have z0 := Tryd.sizeOf5; have v0 := Tryd.zeroValue5; have t1 := Tryd.underlying22; have a1 := Tryd.isAgg22; have z1 := Tryd.sizeOf22; have v1 := Tryd.zeroValue22; have t2 := Tryd.underlying4; have a2 := Tryd.isAgg4; have z2 := Tryd.sizeOf4; have v2 := Tryd.zeroValue4
  have q22 : ∀ (w : World) (a : Option Addr) (n c n' c' : Nat), (binOp .eql 22 (.slice a n c) (.slice none n' c')).run Tryd.prog w = .ok (.bool a.isNone) w := fun w a n c n' c' => Lib.run_eql_slice_nil w _ _ a n c n' c' t1
  have hinfo : (Tryd.prog.info? 5).map (fun i => (i.zero, i.size, i.bytes)) = some (some (.int .u8 0), 1, 1) := by kernel_rfl
  obtain ⟨i0, hi, hz0, hz1, hz2⟩ := info_parts hinfo
  have u22 : ∀ w, Sem.run Tryd.prog (underlying 22) w = .ok (TypeDesc.slice 5) w := run_underlying t1
  go_enter Tryd.func46, Tryd.ntmps46
  go_wp2_with (at_builtin; refine wpList_append_own _ rfl _ _ 22 rfl w.heap.size 5 i0 (.int .u8 0) 1 1 t1 hi hz0 hz1 hz2 rfl (by decide) _ _ _ rfl (World.ownsRow_made w #[] 0 (Nat.le_refl _) (Nat.zero_le _) rfl) a 0 c [] rfl rfl (by intro j u hj; simp at hj) (by intro u hu; cases hu) (by unfold maxLen; omega) (by omega) (by simp) ?_)
  intro v' w1 hown hgrow hnil
  go_wp2
  go_ret
  refine ⟨v', rfl, by simpa using hown, ?_⟩
  exact ((Below.refl _ w).alloc (Nat.le_refl _) _).grown hgrow (by simp) (by intro k hk; simp [Value.ownBlock] at hk; omega)
set_option maxHeartbeats 2000000 in
set_option maxRecDepth 100000 in
theorem clb_some (b off c : Nat) (zs : List Value) (w : World) (hbig : zs.length * 1 ≤ 140737488355328) (hsc : zs.all scal = true) (hc : ∀ (j : Nat) z, zs[j]? = some z → w.cell? ⟨b, off + j, none⟩ = some z) :
    Calls Tryd.prog 46 #[.slice (some ⟨b, off, none⟩) zs.length c] w fun e w' => ∃ v', e = .returned v' ∧ w'.ownsRow w.heap.size 5 1 v' zs.length zs ∧ Below w.heap.size w w' := by
  have mixed : Tryd.prog.follows .mixedOrders = true := by kernel_rfl
  have t0 := Tryd.underlying5; have a0 := Tryd.isAgg5; have z0 := Tryd.sizeOf5; have v0 := Tryd.zeroValue5; have t1 := Tryd.underlying22; have a1 := Tryd.isAgg22; have z1 := Tryd.sizeOf22; have v1 := Tryd.zeroValue22; have t2 := Tryd.underlying4; have a2 := Tryd.isAgg4; have z2 := Tryd.sizeOf4; have v2 := Tryd.zeroValue4
  have q22 : ∀ (w : World) (a : Option Addr) (n c n' c' : Nat), (binOp .eql 22 (.slice a n c) (.slice none n' c')).run Tryd.prog w = .ok (.bool a.isNone) w := fun w a n c n' c' => Lib.run_eql_slice_nil w _ _ a n c n' c' t1
  have hinfo : (Tryd.prog.info? 5).map (fun i => (i.zero, i.size, i.bytes)) = some (some (.int .u8 0), 1, 1) := by kernel_rfl
  obtain ⟨i0, hi, hz0, hz1, hz2⟩ := info_parts hinfo
  have u22 : ∀ w, Sem.run Tryd.prog (underlying 22) w = .ok (TypeDesc.slice 5) w := run_underlying t1
  have A : Aside (∀ (j : Nat) z, zs[j]? = some z → w.cell? ⟨b, off + j, none⟩ = some z) := hc
  clear hc
  go_enter Tryd.func46, Tryd.ntmps46
  go_wp2_with (at_builtin; refine wpList_append_own _ rfl _ _ 22 rfl w.heap.size 5 i0 (.int .u8 0) 1 1 t1 hi hz0 hz1 hz2 rfl (by decide) _ _ _ rfl (World.ownsRow_made w #[] 0 (Nat.le_refl _) (Nat.zero_le _) rfl) ⟨b, off, none⟩ zs.length c zs rfl ?qc1 ?qc2 ?qc3 ?qc4 ?qc5 ?qc6 ?_)
  case qc1 => simp
  case qc2 =>
    intro j u hj
    rw [Addr.add_lit]
    exact Lib.cell?_alloc_some _ (A.out j u hj)
  case qc3 => intro u hu; exact oneCell_leaf (c := oldCtx w) (w := w) (.sc u (List.all_eq_true.1 hsc u hu)) rfl
  case qc4 => unfold maxLen; omega
  case qc5 => omega
  case qc6 => simp
  intro v' w1 hown hgrow hnil
  go_wp2
  go_ret
  refine ⟨v', rfl, by simpa using hown, ?_⟩
  exact ((Below.refl _ w).alloc (Nat.le_refl _) _).grown hgrow (by simp) (by intro k hk; simp [Value.ownBlock] at hk; omega)

structure Dr (w w' : World) : Prop where mk :: (out : ∃ n, w' = w.drewN n)
theorem Dr.refl (w : World) : Dr w w := ⟨⟨0, rfl⟩⟩
theorem Dr.step {w w' : World} (h : Dr w w') (n : Nat) : Dr w (w'.drewN n) := by
  obtain ⟨⟨k, rfl⟩⟩ := h
  exact ⟨⟨k + n, World.drewN_drewN ..⟩⟩
theorem Dr.below {w w' : World} (h : Dr w w') : Below w.heap.size w w' := by
  obtain ⟨⟨n, rfl⟩⟩ := h; exact Joins.below_draws _ _ _
open Go.Fl (ldw)
theorem fl_tobits (c : Nat) (w : World) : (callFunc 94 #[.float .f64 c]).run Tryd.prog w = .ok (.value (.int .u64 c)) w := by kernel_rfl
theorem fl_frombits (n : Int) (w : World) : (callFunc 97 #[.int .u64 n]).run Tryd.prog w = .ok (.value (.float .f64 n.toNat)) w := by kernel_rfl
theorem fl_absone : Go.bits .andNot .u64 4607182418800017408 9223372036854775808 = 4607182418800017408 := by decide +kernel
theorem fl_mulfmt : ∀ n : Fin 41, FloatKind.f64.format.mul 4607182418800017408 (Go.bits .or .u64 0 (((n.val : Int) + 1023) * 4503599627370496)).toNat = some (ldw n.val) := by decide +kernel
theorem fl_mulone (k : Int) (h0 : 0 ≤ k) (h1 : k ≤ 40) (w : World) : (binOp .mul 105 (.float .f64 4607182418800017408) (.float .f64 (Go.bits .or .u64 0 ((k + 1023) * 4503599627370496)).toNat)).run Tryd.prog w = .ok (.float .f64 (ldw k)) w := by
  have h := fl_mulfmt ⟨k.toNat, by omega⟩
  simp only [Int.toNat_of_nonneg h0] at h
  simp [binOp, Op.floatArith, h]
theorem fl_negfmt : ∀ n : Fin 41, Op.negFloat .f64 (ldw n.val) = 9223372036854775808 + ldw n.val := by decide +kernel
theorem fl_neg (k : Int) (h0 : 0 ≤ k) (h1 : k ≤ 40) (w : World) : (Op.unary .neg (.float .f64 (ldw k))).run Tryd.prog w = .ok (.float .f64 (9223372036854775808 + ldw k)) w := by
  have h := fl_negfmt ⟨k.toNat, by omega⟩
  simp only [Int.toNat_of_nonneg h0] at h
  simp [Op.unary, h]
set_option maxHeartbeats 2000000 in
theorem fl_ldexp (k : Int) (h0 : 0 ≤ k) (h1 : k ≤ 40) (w : World) : Calls Tryd.prog 83 #[.float .f64 4607182418800017408, .int .i64 k] w fun e w' => e = .returned (.float .f64 (ldw k)) ∧ w = w' := by
  have tb := fl_tobits
  have fb := fl_frombits
  have ao := fl_absone
  have a1 : Go.bits .and .i64 1023 2047 = 1023 := by decide +kernel
  have a2 : Go.bits .andNot .u64 4607182418800017408 9218868437227405312 = 0 := by decide +kernel
  have hm := fl_mulone k h0 h1
  go_enter Tryd.func83, Tryd.ntmps83
  go_wp2
  go_ret
  exact ⟨rfl, rfl⟩
theorem fl_close (a0 a1 : Int) (h0 : 1 ≤ a1) (h1 : a1 ≤ 41) :
    ((FloatKind.f64.format.order (floatOfInt FloatKind.f64 a0) (9223372036854775808 + ldw (a1 - 1)) == some Ordering.gt || FloatKind.f64.format.order (floatOfInt FloatKind.f64 a0) (9223372036854775808 + ldw (a1 - 1)) == some Ordering.eq) && FloatKind.f64.format.order (floatOfInt FloatKind.f64 a0) (ldw (a1 - 1)) == some Ordering.lt) = decide (-(2 ^ (a1 - 1).toNat) ≤ a0 ∧ a0 < 2 ^ (a1 - 1).toNat) := by
  have h := Go.Fl.fits_is a0 (a1 - 1).toNat (by omega)
  rw [Int.toNat_of_nonneg (by omega)] at h
  exact h
theorem fl_ret {a b : Bool} (h : a = b) : Ending.returned (.bool a) = Ending.returned (.bool b) := by rw [h]
theorem fl_no {a b : Option Ordering} (h : ¬(a = some Ordering.gt ∨ a = some Ordering.eq)) : false = ((a == some Ordering.gt || a == some Ordering.eq) && b == some Ordering.lt) := by
  symm
  rw [Bool.and_eq_false_iff]
  left
  rw [Bool.or_eq_false_iff]
  constructor
  · exact beq_eq_false_iff_ne.2 (fun e => h (.inl e))
  · exact beq_eq_false_iff_ne.2 (fun e => h (.inr e))
set_option maxHeartbeats 2000000 in
theorem imm_Fits.calls (a0 : Int) (a1 : Int) (r : Bool) (w : World) (h : fitsS a0 a1 = some r) :
    Calls Tryd.prog 77 #[.int .i64 a0, .int .i64 a1] w fun e w' => e = .returned (.bool r) ∧ Dr w w' := by
  unfold fitsS at h
  by_cases h0 : 1 ≤ a1
  · rw [if_pos h0] at h
    by_cases h1 : a1 ≤ 41
    · rw [if_pos h1] at h
      obtain rfl := Option.some.inj h
      clear h
      have hneg := fl_neg (a1 - 1) (by omega) (by omega)
      go_enter Tryd.func77, Tryd.ntmps77
      go_wp2_with (go_at_call 83; refine (fl_ldexp _ (by omega) (by omega) _).mono ?_; rintro e w' ⟨rfl, rfl⟩)
      all_goals
        go_ret
        refine ⟨fl_ret ?_, by repeat (first | exact Dr.refl _ | apply Dr.step)⟩
        first
        | exact fl_close a0 a1 h0 h1
        | exact (fl_no (by assumption)).trans (fl_close a0 a1 h0 h1)
    · rw [if_neg h1] at h; cases h
  · rw [if_neg h0] at h; cases h
theorem ok_fits : FnOK1 told Tryd.prog 77 fitsX := fnOK1_fits fun v b r w h => (imm_Fits.calls v b r w h).mono fun _ _ h => ⟨h.1, h.2.below⟩

theorem ok_fields : FnOK1 told Tryd.prog 55 fieldsX := fnOK1_fields fun s Z w h1 h2 hT => Tryd.strings_Fields_laid s w h1 h2 hT.2.2.1
theorem ok_cli : FnOK1 told Tryd.prog 44 (cloneV 8) := fnOK1_cloneV (e_ := 3) cli_nil cli_zero cli_some
theorem ok_clb : FnOK1 told Tryd.prog 46 (cloneV 1) := fnOK1_cloneV (e_ := 5) clb_nil clb_zero clb_some
theorem ext_ok (f : FuncId) (x : List AV → Heap → Option (AV × Heap)) (h : G.ext f = some x) : FnOK1 told Tryd.prog f x := by
  have h' : Go.Ab.get f extT = some x := h
  simp only [extT, Go.Ab.get] at h'
  repeat' split at h'
  all_goals first
    | cases h'; done
    | (rename_i e; subst e; cases h'; first | exact ok_fields | exact ok_fits | exact ok_cli | exact ok_clb)
end Go.Proofs.YticofbaajdgabaaDoor
set_option maxRecDepth 100000
namespace Go.Ab
theorem w2_known_true : w2_known = some true := cv_some w2_known.cv 2000 (by kernel_rfl)
theorem w2_within_eq (a n : Int) (hn : 0 < n) (hn2 : n ≤ 4611686018427387904) : w2_within a n = some (a % n) := by
  rw [w2_within.eq]; exact withinV_eq a n hn hn2
theorem le_of_cv {α : Type} {F : Nat → Option α} {x : Option α} (h : Cv F x) (k : Nat) : Le (F k) x := fun r e => cv_some h k e
end Go.Ab
set_option maxRecDepth 100000
namespace Go.Ab
def ex (p q : Nat) : ByteArray := h_73655f696c6c6567616c3a303030303a7c73655f6973796e633a303030313a7c73655f73633a303030323a7c73655f626c723a303030343a7c73655f626374723a303030363a7c73655f6e6f743a303032303a587c73655f6e65673a303033303a587c73655f6d666c723a303038303a587c73655f6d746c723a303039303a587c73655f6d666374723a303061303a587c73655f6d746374723a303062303a587c73655f6578747a623a303063303a587c73655f65787473623a303064303a587c73655f6578747a683a303065303a587c73655f65787473683a303066303a587c73655f6d723a303130303a5820597c73655f6164643a303430303a5820597c73655f6d756c6c773a303530303a5820597c73655f7375623a303630303a5820597c73655f636d703a306330303a5820597c73655f636d706c3a306430303a5820597c73655f616464693a323030303a58204f357c73655f636d706c693a323230303a58204f357c73655f737562693a323430303a58204f357c73655f636d70693a326130303a582055357c73655f6f723a343430303a5820597c73655f616e64633a343530303a5820597c73655f616e643a343630303a5820597c73655f6c693a343830303a582055377c73655f62636c72693a363030303a582055357c73655f62736574693a363430303a582055357c73655f62747374693a363630303a582055357c73655f737277693a363830303a582055357c73655f736c77693a366330303a582055357c73655f6c627a3a383030303a59204d3120587c73655f7374623a393030303a59204d3120587c73655f6c687a3a613030303a59204d3220587c73655f7374683a623030303a59204d3220587c73655f6c777a3a633030303a59204d3420587c73655f7374773a643030303a59204d3420587c73655f62633a653030303a4f312049322054387c73655f623a653830303a54387c73655f626c3a653930303a54387c655f6164643136693a31633030303030303a442041205331367c655f616464693a31383030383030303a4420412043387c655f616e64693a31383030633030303a4120442043387c655f6f72693a31383030643030303a4120442043387c655f786f72693a31383030653030303a4120442043387c655f6c693a37303030303030303a44204c32307c655f6c627a3a33303030303030303a442053313620417c655f7374623a33343030303030303a442053313620417c655f6c68613a33383030303030303a442053313620417c655f6c777a3a35303030303030303a442053313620417c655f7374773a35343030303030303a442053313620417c655f6c687a3a35383030303030303a442053313620417c655f7374683a35633030303030303a442053313620417c655f623a37383030303030303a5432347c655f626c3a37383030303030313a5432347c655f62633a37613030303030303a4f32204934205431357c655f62636c3a37613030303030313a4f32204934205431357c6164643a37633030303231343a44204120427c737562663a37633030303035303a44204120427c6d756c6c773a37633030303164363a44204120427c616e643a37633030303033383a41204420427c6f723a37633030303337383a41204420427c786f723a37633030303237383a41204420427c.extract p q
abbrev zR : T_r2_row := ⟨s_, s_, s_⟩
def goS : Nat → r2_find_L1_A → Option r2_find_L1_A
  | 0, a => some a
  | m + 1, a => match r2_find_L1_b a with
    | some (.inl a') => goS m a'
    | _ => none
theorem goS_eq : ∀ (m : Nat) {a a' : r2_find_L1_A}, goS m a = some a' → r2_find_L1 a = r2_find_L1 a'
  | 0, a, a', h => by cases h; rfl
  | m + 1, a, a', h => by
    unfold goS at h
    split at h
    · rename_i b e
      rw [r2_find_L1.eq, e]
      exact goS_eq m h
    · cases h
def findR (op : Int) (name : ByteArray) : List T_r2_row → Int → Option (T_r2_row × Int)
  | [], _ => none
  | r :: l, n => bif (n == op) then some (r, n) else bif (eqS r.Name name) then some (r, n) else findR op name l (n + 1)
def resF : Option (T_r2_row × Int) → r2_find_L1_O0 ⊕ T_r2_row
  | some r => .inl ⟨r.2, true, r.1⟩
  | none => .inr zR
theorem glue {op n m : Int} {name : ByteArray} {r : T_r2_row} {l : List T_r2_row} {s : r2_find_L1_A} (hm : m = n + 1) (h : r2_find_L1 s = some (resF (findR op name l m))) :
    (bif (n == op) then some (Sum.inr (.inl ⟨n, true, r⟩)) else bif (eqS r.Name name) then some (.inr (.inl ⟨n, true, r⟩)) else some (.inl s)).bind (Sum.elim r2_find_L1 some) = some (resF (findR op name (r :: l) n)) := by
  subst hm
  unfold findR
  cases (n == op) with
  | true => rfl
  | false =>
    rw [cond_false, cond_false]
    cases eqS r.Name name with
    | true => rfl
    | false => exact h
def S0 (op : Int) (name : ByteArray) : r2_find_L1_A := ⟨op, name, 0, 0, 0, 0, zR, s_, s_, s_⟩
def S1 (op : Int) (name : ByteArray) : r2_find_L1_A := ⟨op, name, 1, 17, 0, 17, zR, (ex 0 10), (ex 11 15), (ex 16 16)⟩
def S2 (op : Int) (name : ByteArray) : r2_find_L1_A := ⟨op, name, 2, 32, 0, 32, zR, (ex 17 25), (ex 26 30), (ex 31 31)⟩
def S3 (op : Int) (name : ByteArray) : r2_find_L1_A := ⟨op, name, 3, 44, 0, 44, zR, (ex 32 37), (ex 38 42), (ex 43 43)⟩
def S4 (op : Int) (name : ByteArray) : r2_find_L1_A := ⟨op, name, 4, 57, 0, 57, zR, (ex 44 50), (ex 51 55), (ex 56 56)⟩
def S5 (op : Int) (name : ByteArray) : r2_find_L1_A := ⟨op, name, 5, 71, 0, 71, zR, (ex 57 64), (ex 65 69), (ex 70 70)⟩
def S6 (op : Int) (name : ByteArray) : r2_find_L1_A := ⟨op, name, 6, 85, 0, 85, zR, (ex 71 77), (ex 78 82), (ex 83 84)⟩
def S7 (op : Int) (name : ByteArray) : r2_find_L1_A := ⟨op, name, 7, 99, 0, 99, zR, (ex 85 91), (ex 92 96), (ex 97 98)⟩
def S8 (op : Int) (name : ByteArray) : r2_find_L1_A := ⟨op, name, 8, 114, 0, 114, zR, (ex 99 106), (ex 107 111), (ex 112 113)⟩
def S9 (op : Int) (name : ByteArray) : r2_find_L1_A := ⟨op, name, 9, 129, 0, 129, zR, (ex 114 121), (ex 122 126), (ex 127 128)⟩
def S10 (op : Int) (name : ByteArray) : r2_find_L1_A := ⟨op, name, 10, 145, 0, 145, zR, (ex 129 137), (ex 138 142), (ex 143 144)⟩
def S11 (op : Int) (name : ByteArray) : r2_find_L1_A := ⟨op, name, 11, 161, 0, 161, zR, (ex 145 153), (ex 154 158), (ex 159 160)⟩
def S12 (op : Int) (name : ByteArray) : r2_find_L1_A := ⟨op, name, 12, 177, 0, 177, zR, (ex 161 169), (ex 170 174), (ex 175 176)⟩
def S13 (op : Int) (name : ByteArray) : r2_find_L1_A := ⟨op, name, 13, 193, 0, 193, zR, (ex 177 185), (ex 186 190), (ex 191 192)⟩
def S14 (op : Int) (name : ByteArray) : r2_find_L1_A := ⟨op, name, 14, 209, 0, 209, zR, (ex 193 201), (ex 202 206), (ex 207 208)⟩
def S15 (op : Int) (name : ByteArray) : r2_find_L1_A := ⟨op, name, 15, 225, 0, 225, zR, (ex 209 217), (ex 218 222), (ex 223 224)⟩
def S16 (op : Int) (name : ByteArray) : r2_find_L1_A := ⟨op, name, 16, 240, 0, 240, zR, (ex 225 230), (ex 231 235), (ex 236 239)⟩
def S17 (op : Int) (name : ByteArray) : r2_find_L1_A := ⟨op, name, 17, 256, 0, 256, zR, (ex 240 246), (ex 247 251), (ex 252 255)⟩
def S18 (op : Int) (name : ByteArray) : r2_find_L1_A := ⟨op, name, 18, 274, 0, 274, zR, (ex 256 264), (ex 265 269), (ex 270 273)⟩
def S19 (op : Int) (name : ByteArray) : r2_find_L1_A := ⟨op, name, 19, 290, 0, 290, zR, (ex 274 280), (ex 281 285), (ex 286 289)⟩
def S20 (op : Int) (name : ByteArray) : r2_find_L1_A := ⟨op, name, 20, 306, 0, 306, zR, (ex 290 296), (ex 297 301), (ex 302 305)⟩
def S21 (op : Int) (name : ByteArray) : r2_find_L1_A := ⟨op, name, 21, 323, 0, 323, zR, (ex 306 313), (ex 314 318), (ex 319 322)⟩
def S22 (op : Int) (name : ByteArray) : r2_find_L1_A := ⟨op, name, 22, 341, 0, 341, zR, (ex 323 330), (ex 331 335), (ex 336 340)⟩
def S23 (op : Int) (name : ByteArray) : r2_find_L1_A := ⟨op, name, 23, 360, 0, 360, zR, (ex 341 349), (ex 350 354), (ex 355 359)⟩
def S24 (op : Int) (name : ByteArray) : r2_find_L1_A := ⟨op, name, 24, 378, 0, 378, zR, (ex 360 367), (ex 368 372), (ex 373 377)⟩
def S25 (op : Int) (name : ByteArray) : r2_find_L1_A := ⟨op, name, 25, 396, 0, 396, zR, (ex 378 385), (ex 386 390), (ex 391 395)⟩
def S26 (op : Int) (name : ByteArray) : r2_find_L1_A := ⟨op, name, 26, 411, 0, 411, zR, (ex 396 401), (ex 402 406), (ex 407 410)⟩
def S27 (op : Int) (name : ByteArray) : r2_find_L1_A := ⟨op, name, 27, 428, 0, 428, zR, (ex 411 418), (ex 419 423), (ex 424 427)⟩
def S28 (op : Int) (name : ByteArray) : r2_find_L1_A := ⟨op, name, 28, 444, 0, 444, zR, (ex 428 434), (ex 435 439), (ex 440 443)⟩
def S29 (op : Int) (name : ByteArray) : r2_find_L1_A := ⟨op, name, 29, 460, 0, 460, zR, (ex 444 449), (ex 450 454), (ex 455 459)⟩
def S30 (op : Int) (name : ByteArray) : r2_find_L1_A := ⟨op, name, 30, 479, 0, 479, zR, (ex 460 468), (ex 469 473), (ex 474 478)⟩
def S31 (op : Int) (name : ByteArray) : r2_find_L1_A := ⟨op, name, 31, 498, 0, 498, zR, (ex 479 487), (ex 488 492), (ex 493 497)⟩
def S32 (op : Int) (name : ByteArray) : r2_find_L1_A := ⟨op, name, 32, 517, 0, 517, zR, (ex 498 506), (ex 507 511), (ex 512 516)⟩
def S33 (op : Int) (name : ByteArray) : r2_find_L1_A := ⟨op, name, 33, 535, 0, 535, zR, (ex 517 524), (ex 525 529), (ex 530 534)⟩
def S34 (op : Int) (name : ByteArray) : r2_find_L1_A := ⟨op, name, 34, 553, 0, 553, zR, (ex 535 542), (ex 543 547), (ex 548 552)⟩
def S35 (op : Int) (name : ByteArray) : r2_find_L1_A := ⟨op, name, 35, 572, 0, 572, zR, (ex 553 559), (ex 560 564), (ex 565 571)⟩
def S36 (op : Int) (name : ByteArray) : r2_find_L1_A := ⟨op, name, 36, 591, 0, 591, zR, (ex 572 578), (ex 579 583), (ex 584 590)⟩
def S37 (op : Int) (name : ByteArray) : r2_find_L1_A := ⟨op, name, 37, 610, 0, 610, zR, (ex 591 597), (ex 598 602), (ex 603 609)⟩
def S38 (op : Int) (name : ByteArray) : r2_find_L1_A := ⟨op, name, 38, 629, 0, 629, zR, (ex 610 616), (ex 617 621), (ex 622 628)⟩
def S39 (op : Int) (name : ByteArray) : r2_find_L1_A := ⟨op, name, 39, 648, 0, 648, zR, (ex 629 635), (ex 636 640), (ex 641 647)⟩
def S40 (op : Int) (name : ByteArray) : r2_find_L1_A := ⟨op, name, 40, 667, 0, 667, zR, (ex 648 654), (ex 655 659), (ex 660 666)⟩
def S41 (op : Int) (name : ByteArray) : r2_find_L1_A := ⟨op, name, 41, 687, 0, 687, zR, (ex 667 672), (ex 673 677), (ex 678 686)⟩
def S42 (op : Int) (name : ByteArray) : r2_find_L1_A := ⟨op, name, 42, 700, 0, 700, zR, (ex 687 691), (ex 692 696), (ex 697 699)⟩
def S43 (op : Int) (name : ByteArray) : r2_find_L1_A := ⟨op, name, 43, 714, 0, 714, zR, (ex 700 705), (ex 706 710), (ex 711 713)⟩
def S44 (op : Int) (name : ByteArray) : r2_find_L1_A := ⟨op, name, 44, 740, 0, 740, zR, (ex 714 722), (ex 723 731), (ex 732 739)⟩
def S45 (op : Int) (name : ByteArray) : r2_find_L1_A := ⟨op, name, 45, 763, 0, 763, zR, (ex 740 746), (ex 747 755), (ex 756 762)⟩
def S46 (op : Int) (name : ByteArray) : r2_find_L1_A := ⟨op, name, 46, 786, 0, 786, zR, (ex 763 769), (ex 770 778), (ex 779 785)⟩
def S47 (op : Int) (name : ByteArray) : r2_find_L1_A := ⟨op, name, 47, 808, 0, 808, zR, (ex 786 791), (ex 792 800), (ex 801 807)⟩
def S48 (op : Int) (name : ByteArray) : r2_find_L1_A := ⟨op, name, 48, 831, 0, 831, zR, (ex 808 814), (ex 815 823), (ex 824 830)⟩
def S49 (op : Int) (name : ByteArray) : r2_find_L1_A := ⟨op, name, 49, 851, 0, 851, zR, (ex 831 835), (ex 836 844), (ex 845 850)⟩
def S50 (op : Int) (name : ByteArray) : r2_find_L1_A := ⟨op, name, 50, 874, 0, 874, zR, (ex 851 856), (ex 857 865), (ex 866 873)⟩
def S51 (op : Int) (name : ByteArray) : r2_find_L1_A := ⟨op, name, 51, 897, 0, 897, zR, (ex 874 879), (ex 880 888), (ex 889 896)⟩
def S52 (op : Int) (name : ByteArray) : r2_find_L1_A := ⟨op, name, 52, 920, 0, 920, zR, (ex 897 902), (ex 903 911), (ex 912 919)⟩
def S53 (op : Int) (name : ByteArray) : r2_find_L1_A := ⟨op, name, 53, 943, 0, 943, zR, (ex 920 925), (ex 926 934), (ex 935 942)⟩
def S54 (op : Int) (name : ByteArray) : r2_find_L1_A := ⟨op, name, 54, 966, 0, 966, zR, (ex 943 948), (ex 949 957), (ex 958 965)⟩
def S55 (op : Int) (name : ByteArray) : r2_find_L1_A := ⟨op, name, 55, 989, 0, 989, zR, (ex 966 971), (ex 972 980), (ex 981 988)⟩
def S56 (op : Int) (name : ByteArray) : r2_find_L1_A := ⟨op, name, 56, 1012, 0, 1012, zR, (ex 989 994), (ex 995 1003), (ex 1004 1011)⟩
def S57 (op : Int) (name : ByteArray) : r2_find_L1_A := ⟨op, name, 57, 1029, 0, 1029, zR, (ex 1012 1015), (ex 1016 1024), (ex 1025 1028)⟩
def S58 (op : Int) (name : ByteArray) : r2_find_L1_A := ⟨op, name, 58, 1047, 0, 1047, zR, (ex 1029 1033), (ex 1034 1042), (ex 1043 1046)⟩
def S59 (op : Int) (name : ByteArray) : r2_find_L1_A := ⟨op, name, 59, 1071, 0, 1071, zR, (ex 1047 1051), (ex 1052 1060), (ex 1061 1070)⟩
def S60 (op : Int) (name : ByteArray) : r2_find_L1_A := ⟨op, name, 60, 1096, 0, 1096, zR, (ex 1071 1076), (ex 1077 1085), (ex 1086 1095)⟩
def S61 (op : Int) (name : ByteArray) : r2_find_L1_A := ⟨op, name, 61, 1115, 0, 1115, zR, (ex 1096 1099), (ex 1100 1108), (ex 1109 1114)⟩
def S62 (op : Int) (name : ByteArray) : r2_find_L1_A := ⟨op, name, 62, 1135, 0, 1135, zR, (ex 1115 1119), (ex 1120 1128), (ex 1129 1134)⟩
def S63 (op : Int) (name : ByteArray) : r2_find_L1_A := ⟨op, name, 63, 1156, 0, 1156, zR, (ex 1135 1140), (ex 1141 1149), (ex 1150 1155)⟩
def S64 (op : Int) (name : ByteArray) : r2_find_L1_A := ⟨op, name, 64, 1175, 0, 1175, zR, (ex 1156 1159), (ex 1160 1168), (ex 1169 1174)⟩
def S65 (op : Int) (name : ByteArray) : r2_find_L1_A := ⟨op, name, 65, 1193, 0, 1193, zR, (ex 1175 1177), (ex 1178 1186), (ex 1187 1192)⟩
def S66 (op : Int) (name : ByteArray) : r2_find_L1_A := ⟨op, name, 66, 1212, 0, 1212, zR, (ex 1193 1196), (ex 1197 1205), (ex 1206 1211)⟩
def Q0 : T_r2_row := ⟨(ex 0 10), (ex 11 15), (ex 16 16)⟩
theorem st0 (op : Int) (name : ByteArray) : goS 16 (S0 op name) = some ⟨op, name, 0, 16, 2, 16, zR, (ex 0 10), (ex 11 15), s_⟩ := by kernel_rfl
theorem br0 (op : Int) (name : ByteArray) : r2_find_L1_b ⟨op, name, 0, 16, 2, 16, zR, (ex 0 10), (ex 11 15), s_⟩ = (bif ((0 : Int) == op) then some (Sum.inr (.inl ⟨0, true, Q0⟩)) else bif (eqS Q0.Name name) then some (.inr (.inl ⟨0, true, Q0⟩)) else some (.inl (S1 op name))) := by kernel_rfl
def Q1 : T_r2_row := ⟨(ex 17 25), (ex 26 30), (ex 31 31)⟩
theorem st1 (op : Int) (name : ByteArray) : goS 14 (S1 op name) = some ⟨op, name, 1, 31, 2, 31, zR, (ex 17 25), (ex 26 30), (ex 16 16)⟩ := by kernel_rfl
theorem br1 (op : Int) (name : ByteArray) : r2_find_L1_b ⟨op, name, 1, 31, 2, 31, zR, (ex 17 25), (ex 26 30), (ex 16 16)⟩ = (bif ((1 : Int) == op) then some (Sum.inr (.inl ⟨1, true, Q1⟩)) else bif (eqS Q1.Name name) then some (.inr (.inl ⟨1, true, Q1⟩)) else some (.inl (S2 op name))) := by kernel_rfl
def Q2 : T_r2_row := ⟨(ex 32 37), (ex 38 42), (ex 43 43)⟩
theorem st2 (op : Int) (name : ByteArray) : goS 11 (S2 op name) = some ⟨op, name, 2, 43, 2, 43, zR, (ex 32 37), (ex 38 42), (ex 31 31)⟩ := by kernel_rfl
theorem br2 (op : Int) (name : ByteArray) : r2_find_L1_b ⟨op, name, 2, 43, 2, 43, zR, (ex 32 37), (ex 38 42), (ex 31 31)⟩ = (bif ((2 : Int) == op) then some (Sum.inr (.inl ⟨2, true, Q2⟩)) else bif (eqS Q2.Name name) then some (.inr (.inl ⟨2, true, Q2⟩)) else some (.inl (S3 op name))) := by kernel_rfl
def Q3 : T_r2_row := ⟨(ex 44 50), (ex 51 55), (ex 56 56)⟩
theorem st3 (op : Int) (name : ByteArray) : goS 12 (S3 op name) = some ⟨op, name, 3, 56, 2, 56, zR, (ex 44 50), (ex 51 55), (ex 43 43)⟩ := by kernel_rfl
theorem br3 (op : Int) (name : ByteArray) : r2_find_L1_b ⟨op, name, 3, 56, 2, 56, zR, (ex 44 50), (ex 51 55), (ex 43 43)⟩ = (bif ((3 : Int) == op) then some (Sum.inr (.inl ⟨3, true, Q3⟩)) else bif (eqS Q3.Name name) then some (.inr (.inl ⟨3, true, Q3⟩)) else some (.inl (S4 op name))) := by kernel_rfl
def Q4 : T_r2_row := ⟨(ex 57 64), (ex 65 69), (ex 70 70)⟩
theorem st4 (op : Int) (name : ByteArray) : goS 13 (S4 op name) = some ⟨op, name, 4, 70, 2, 70, zR, (ex 57 64), (ex 65 69), (ex 56 56)⟩ := by kernel_rfl
theorem br4 (op : Int) (name : ByteArray) : r2_find_L1_b ⟨op, name, 4, 70, 2, 70, zR, (ex 57 64), (ex 65 69), (ex 56 56)⟩ = (bif ((4 : Int) == op) then some (Sum.inr (.inl ⟨4, true, Q4⟩)) else bif (eqS Q4.Name name) then some (.inr (.inl ⟨4, true, Q4⟩)) else some (.inl (S5 op name))) := by kernel_rfl
def Q5 : T_r2_row := ⟨(ex 71 77), (ex 78 82), (ex 83 84)⟩
theorem st5 (op : Int) (name : ByteArray) : goS 13 (S5 op name) = some ⟨op, name, 5, 83, 2, 84, zR, (ex 71 77), (ex 78 82), (ex 70 70)⟩ := by kernel_rfl
theorem br5 (op : Int) (name : ByteArray) : r2_find_L1_b ⟨op, name, 5, 83, 2, 84, zR, (ex 71 77), (ex 78 82), (ex 70 70)⟩ = (bif ((5 : Int) == op) then some (Sum.inr (.inl ⟨5, true, Q5⟩)) else bif (eqS Q5.Name name) then some (.inr (.inl ⟨5, true, Q5⟩)) else some (.inl (S6 op name))) := by kernel_rfl
def Q6 : T_r2_row := ⟨(ex 85 91), (ex 92 96), (ex 97 98)⟩
theorem st6 (op : Int) (name : ByteArray) : goS 13 (S6 op name) = some ⟨op, name, 6, 97, 2, 98, zR, (ex 85 91), (ex 92 96), (ex 83 84)⟩ := by kernel_rfl
theorem br6 (op : Int) (name : ByteArray) : r2_find_L1_b ⟨op, name, 6, 97, 2, 98, zR, (ex 85 91), (ex 92 96), (ex 83 84)⟩ = (bif ((6 : Int) == op) then some (Sum.inr (.inl ⟨6, true, Q6⟩)) else bif (eqS Q6.Name name) then some (.inr (.inl ⟨6, true, Q6⟩)) else some (.inl (S7 op name))) := by kernel_rfl
def Q7 : T_r2_row := ⟨(ex 99 106), (ex 107 111), (ex 112 113)⟩
theorem st7 (op : Int) (name : ByteArray) : goS 14 (S7 op name) = some ⟨op, name, 7, 112, 2, 113, zR, (ex 99 106), (ex 107 111), (ex 97 98)⟩ := by kernel_rfl
theorem br7 (op : Int) (name : ByteArray) : r2_find_L1_b ⟨op, name, 7, 112, 2, 113, zR, (ex 99 106), (ex 107 111), (ex 97 98)⟩ = (bif ((7 : Int) == op) then some (Sum.inr (.inl ⟨7, true, Q7⟩)) else bif (eqS Q7.Name name) then some (.inr (.inl ⟨7, true, Q7⟩)) else some (.inl (S8 op name))) := by kernel_rfl
def Q8 : T_r2_row := ⟨(ex 114 121), (ex 122 126), (ex 127 128)⟩
theorem st8 (op : Int) (name : ByteArray) : goS 14 (S8 op name) = some ⟨op, name, 8, 127, 2, 128, zR, (ex 114 121), (ex 122 126), (ex 112 113)⟩ := by kernel_rfl
theorem br8 (op : Int) (name : ByteArray) : r2_find_L1_b ⟨op, name, 8, 127, 2, 128, zR, (ex 114 121), (ex 122 126), (ex 112 113)⟩ = (bif ((8 : Int) == op) then some (Sum.inr (.inl ⟨8, true, Q8⟩)) else bif (eqS Q8.Name name) then some (.inr (.inl ⟨8, true, Q8⟩)) else some (.inl (S9 op name))) := by kernel_rfl
def Q9 : T_r2_row := ⟨(ex 129 137), (ex 138 142), (ex 143 144)⟩
theorem st9 (op : Int) (name : ByteArray) : goS 15 (S9 op name) = some ⟨op, name, 9, 143, 2, 144, zR, (ex 129 137), (ex 138 142), (ex 127 128)⟩ := by kernel_rfl
theorem br9 (op : Int) (name : ByteArray) : r2_find_L1_b ⟨op, name, 9, 143, 2, 144, zR, (ex 129 137), (ex 138 142), (ex 127 128)⟩ = (bif ((9 : Int) == op) then some (Sum.inr (.inl ⟨9, true, Q9⟩)) else bif (eqS Q9.Name name) then some (.inr (.inl ⟨9, true, Q9⟩)) else some (.inl (S10 op name))) := by kernel_rfl
def Q10 : T_r2_row := ⟨(ex 145 153), (ex 154 158), (ex 159 160)⟩
theorem st10 (op : Int) (name : ByteArray) : goS 15 (S10 op name) = some ⟨op, name, 10, 159, 2, 160, zR, (ex 145 153), (ex 154 158), (ex 143 144)⟩ := by kernel_rfl
theorem br10 (op : Int) (name : ByteArray) : r2_find_L1_b ⟨op, name, 10, 159, 2, 160, zR, (ex 145 153), (ex 154 158), (ex 143 144)⟩ = (bif ((10 : Int) == op) then some (Sum.inr (.inl ⟨10, true, Q10⟩)) else bif (eqS Q10.Name name) then some (.inr (.inl ⟨10, true, Q10⟩)) else some (.inl (S11 op name))) := by kernel_rfl
def Q11 : T_r2_row := ⟨(ex 161 169), (ex 170 174), (ex 175 176)⟩
theorem st11 (op : Int) (name : ByteArray) : goS 15 (S11 op name) = some ⟨op, name, 11, 175, 2, 176, zR, (ex 161 169), (ex 170 174), (ex 159 160)⟩ := by kernel_rfl
theorem br11 (op : Int) (name : ByteArray) : r2_find_L1_b ⟨op, name, 11, 175, 2, 176, zR, (ex 161 169), (ex 170 174), (ex 159 160)⟩ = (bif ((11 : Int) == op) then some (Sum.inr (.inl ⟨11, true, Q11⟩)) else bif (eqS Q11.Name name) then some (.inr (.inl ⟨11, true, Q11⟩)) else some (.inl (S12 op name))) := by kernel_rfl
def Q12 : T_r2_row := ⟨(ex 177 185), (ex 186 190), (ex 191 192)⟩
theorem st12 (op : Int) (name : ByteArray) : goS 15 (S12 op name) = some ⟨op, name, 12, 191, 2, 192, zR, (ex 177 185), (ex 186 190), (ex 175 176)⟩ := by kernel_rfl
theorem br12 (op : Int) (name : ByteArray) : r2_find_L1_b ⟨op, name, 12, 191, 2, 192, zR, (ex 177 185), (ex 186 190), (ex 175 176)⟩ = (bif ((12 : Int) == op) then some (Sum.inr (.inl ⟨12, true, Q12⟩)) else bif (eqS Q12.Name name) then some (.inr (.inl ⟨12, true, Q12⟩)) else some (.inl (S13 op name))) := by kernel_rfl
def Q13 : T_r2_row := ⟨(ex 193 201), (ex 202 206), (ex 207 208)⟩
theorem st13 (op : Int) (name : ByteArray) : goS 15 (S13 op name) = some ⟨op, name, 13, 207, 2, 208, zR, (ex 193 201), (ex 202 206), (ex 191 192)⟩ := by kernel_rfl
theorem br13 (op : Int) (name : ByteArray) : r2_find_L1_b ⟨op, name, 13, 207, 2, 208, zR, (ex 193 201), (ex 202 206), (ex 191 192)⟩ = (bif ((13 : Int) == op) then some (Sum.inr (.inl ⟨13, true, Q13⟩)) else bif (eqS Q13.Name name) then some (.inr (.inl ⟨13, true, Q13⟩)) else some (.inl (S14 op name))) := by kernel_rfl
def Q14 : T_r2_row := ⟨(ex 209 217), (ex 218 222), (ex 223 224)⟩
theorem st14 (op : Int) (name : ByteArray) : goS 15 (S14 op name) = some ⟨op, name, 14, 223, 2, 224, zR, (ex 209 217), (ex 218 222), (ex 207 208)⟩ := by kernel_rfl
theorem br14 (op : Int) (name : ByteArray) : r2_find_L1_b ⟨op, name, 14, 223, 2, 224, zR, (ex 209 217), (ex 218 222), (ex 207 208)⟩ = (bif ((14 : Int) == op) then some (Sum.inr (.inl ⟨14, true, Q14⟩)) else bif (eqS Q14.Name name) then some (.inr (.inl ⟨14, true, Q14⟩)) else some (.inl (S15 op name))) := by kernel_rfl
def Q15 : T_r2_row := ⟨(ex 225 230), (ex 231 235), (ex 236 239)⟩
theorem st15 (op : Int) (name : ByteArray) : goS 14 (S15 op name) = some ⟨op, name, 15, 236, 2, 239, zR, (ex 225 230), (ex 231 235), (ex 223 224)⟩ := by kernel_rfl
theorem br15 (op : Int) (name : ByteArray) : r2_find_L1_b ⟨op, name, 15, 236, 2, 239, zR, (ex 225 230), (ex 231 235), (ex 223 224)⟩ = (bif ((15 : Int) == op) then some (Sum.inr (.inl ⟨15, true, Q15⟩)) else bif (eqS Q15.Name name) then some (.inr (.inl ⟨15, true, Q15⟩)) else some (.inl (S16 op name))) := by kernel_rfl
def Q16 : T_r2_row := ⟨(ex 240 246), (ex 247 251), (ex 252 255)⟩
theorem st16 (op : Int) (name : ByteArray) : goS 15 (S16 op name) = some ⟨op, name, 16, 252, 2, 255, zR, (ex 240 246), (ex 247 251), (ex 236 239)⟩ := by kernel_rfl
theorem br16 (op : Int) (name : ByteArray) : r2_find_L1_b ⟨op, name, 16, 252, 2, 255, zR, (ex 240 246), (ex 247 251), (ex 236 239)⟩ = (bif ((16 : Int) == op) then some (Sum.inr (.inl ⟨16, true, Q16⟩)) else bif (eqS Q16.Name name) then some (.inr (.inl ⟨16, true, Q16⟩)) else some (.inl (S17 op name))) := by kernel_rfl
def Q17 : T_r2_row := ⟨(ex 256 264), (ex 265 269), (ex 270 273)⟩
theorem st17 (op : Int) (name : ByteArray) : goS 17 (S17 op name) = some ⟨op, name, 17, 270, 2, 273, zR, (ex 256 264), (ex 265 269), (ex 252 255)⟩ := by kernel_rfl
theorem br17 (op : Int) (name : ByteArray) : r2_find_L1_b ⟨op, name, 17, 270, 2, 273, zR, (ex 256 264), (ex 265 269), (ex 252 255)⟩ = (bif ((17 : Int) == op) then some (Sum.inr (.inl ⟨17, true, Q17⟩)) else bif (eqS Q17.Name name) then some (.inr (.inl ⟨17, true, Q17⟩)) else some (.inl (S18 op name))) := by kernel_rfl
def Q18 : T_r2_row := ⟨(ex 274 280), (ex 281 285), (ex 286 289)⟩
theorem st18 (op : Int) (name : ByteArray) : goS 15 (S18 op name) = some ⟨op, name, 18, 286, 2, 289, zR, (ex 274 280), (ex 281 285), (ex 270 273)⟩ := by kernel_rfl
theorem br18 (op : Int) (name : ByteArray) : r2_find_L1_b ⟨op, name, 18, 286, 2, 289, zR, (ex 274 280), (ex 281 285), (ex 270 273)⟩ = (bif ((18 : Int) == op) then some (Sum.inr (.inl ⟨18, true, Q18⟩)) else bif (eqS Q18.Name name) then some (.inr (.inl ⟨18, true, Q18⟩)) else some (.inl (S19 op name))) := by kernel_rfl
def Q19 : T_r2_row := ⟨(ex 290 296), (ex 297 301), (ex 302 305)⟩
theorem st19 (op : Int) (name : ByteArray) : goS 15 (S19 op name) = some ⟨op, name, 19, 302, 2, 305, zR, (ex 290 296), (ex 297 301), (ex 286 289)⟩ := by kernel_rfl
theorem br19 (op : Int) (name : ByteArray) : r2_find_L1_b ⟨op, name, 19, 302, 2, 305, zR, (ex 290 296), (ex 297 301), (ex 286 289)⟩ = (bif ((19 : Int) == op) then some (Sum.inr (.inl ⟨19, true, Q19⟩)) else bif (eqS Q19.Name name) then some (.inr (.inl ⟨19, true, Q19⟩)) else some (.inl (S20 op name))) := by kernel_rfl
def Q20 : T_r2_row := ⟨(ex 306 313), (ex 314 318), (ex 319 322)⟩
theorem st20 (op : Int) (name : ByteArray) : goS 16 (S20 op name) = some ⟨op, name, 20, 319, 2, 322, zR, (ex 306 313), (ex 314 318), (ex 302 305)⟩ := by kernel_rfl
theorem br20 (op : Int) (name : ByteArray) : r2_find_L1_b ⟨op, name, 20, 319, 2, 322, zR, (ex 306 313), (ex 314 318), (ex 302 305)⟩ = (bif ((20 : Int) == op) then some (Sum.inr (.inl ⟨20, true, Q20⟩)) else bif (eqS Q20.Name name) then some (.inr (.inl ⟨20, true, Q20⟩)) else some (.inl (S21 op name))) := by kernel_rfl
def Q21 : T_r2_row := ⟨(ex 323 330), (ex 331 335), (ex 336 340)⟩
theorem st21 (op : Int) (name : ByteArray) : goS 17 (S21 op name) = some ⟨op, name, 21, 336, 2, 340, zR, (ex 323 330), (ex 331 335), (ex 319 322)⟩ := by kernel_rfl
theorem br21 (op : Int) (name : ByteArray) : r2_find_L1_b ⟨op, name, 21, 336, 2, 340, zR, (ex 323 330), (ex 331 335), (ex 319 322)⟩ = (bif ((21 : Int) == op) then some (Sum.inr (.inl ⟨21, true, Q21⟩)) else bif (eqS Q21.Name name) then some (.inr (.inl ⟨21, true, Q21⟩)) else some (.inl (S22 op name))) := by kernel_rfl
def Q22 : T_r2_row := ⟨(ex 341 349), (ex 350 354), (ex 355 359)⟩
theorem st22 (op : Int) (name : ByteArray) : goS 18 (S22 op name) = some ⟨op, name, 22, 355, 2, 359, zR, (ex 341 349), (ex 350 354), (ex 336 340)⟩ := by kernel_rfl
theorem br22 (op : Int) (name : ByteArray) : r2_find_L1_b ⟨op, name, 22, 355, 2, 359, zR, (ex 341 349), (ex 350 354), (ex 336 340)⟩ = (bif ((22 : Int) == op) then some (Sum.inr (.inl ⟨22, true, Q22⟩)) else bif (eqS Q22.Name name) then some (.inr (.inl ⟨22, true, Q22⟩)) else some (.inl (S23 op name))) := by kernel_rfl
def Q23 : T_r2_row := ⟨(ex 360 367), (ex 368 372), (ex 373 377)⟩
theorem st23 (op : Int) (name : ByteArray) : goS 17 (S23 op name) = some ⟨op, name, 23, 373, 2, 377, zR, (ex 360 367), (ex 368 372), (ex 355 359)⟩ := by kernel_rfl
theorem br23 (op : Int) (name : ByteArray) : r2_find_L1_b ⟨op, name, 23, 373, 2, 377, zR, (ex 360 367), (ex 368 372), (ex 355 359)⟩ = (bif ((23 : Int) == op) then some (Sum.inr (.inl ⟨23, true, Q23⟩)) else bif (eqS Q23.Name name) then some (.inr (.inl ⟨23, true, Q23⟩)) else some (.inl (S24 op name))) := by kernel_rfl
def Q24 : T_r2_row := ⟨(ex 378 385), (ex 386 390), (ex 391 395)⟩
theorem st24 (op : Int) (name : ByteArray) : goS 17 (S24 op name) = some ⟨op, name, 24, 391, 2, 395, zR, (ex 378 385), (ex 386 390), (ex 373 377)⟩ := by kernel_rfl
theorem br24 (op : Int) (name : ByteArray) : r2_find_L1_b ⟨op, name, 24, 391, 2, 395, zR, (ex 378 385), (ex 386 390), (ex 373 377)⟩ = (bif ((24 : Int) == op) then some (Sum.inr (.inl ⟨24, true, Q24⟩)) else bif (eqS Q24.Name name) then some (.inr (.inl ⟨24, true, Q24⟩)) else some (.inl (S25 op name))) := by kernel_rfl
def Q25 : T_r2_row := ⟨(ex 396 401), (ex 402 406), (ex 407 410)⟩
theorem st25 (op : Int) (name : ByteArray) : goS 14 (S25 op name) = some ⟨op, name, 25, 407, 2, 410, zR, (ex 396 401), (ex 402 406), (ex 391 395)⟩ := by kernel_rfl
theorem br25 (op : Int) (name : ByteArray) : r2_find_L1_b ⟨op, name, 25, 407, 2, 410, zR, (ex 396 401), (ex 402 406), (ex 391 395)⟩ = (bif ((25 : Int) == op) then some (Sum.inr (.inl ⟨25, true, Q25⟩)) else bif (eqS Q25.Name name) then some (.inr (.inl ⟨25, true, Q25⟩)) else some (.inl (S26 op name))) := by kernel_rfl
def Q26 : T_r2_row := ⟨(ex 411 418), (ex 419 423), (ex 424 427)⟩
theorem st26 (op : Int) (name : ByteArray) : goS 16 (S26 op name) = some ⟨op, name, 26, 424, 2, 427, zR, (ex 411 418), (ex 419 423), (ex 407 410)⟩ := by kernel_rfl
theorem br26 (op : Int) (name : ByteArray) : r2_find_L1_b ⟨op, name, 26, 424, 2, 427, zR, (ex 411 418), (ex 419 423), (ex 407 410)⟩ = (bif ((26 : Int) == op) then some (Sum.inr (.inl ⟨26, true, Q26⟩)) else bif (eqS Q26.Name name) then some (.inr (.inl ⟨26, true, Q26⟩)) else some (.inl (S27 op name))) := by kernel_rfl
def Q27 : T_r2_row := ⟨(ex 428 434), (ex 435 439), (ex 440 443)⟩
theorem st27 (op : Int) (name : ByteArray) : goS 15 (S27 op name) = some ⟨op, name, 27, 440, 2, 443, zR, (ex 428 434), (ex 435 439), (ex 424 427)⟩ := by kernel_rfl
theorem br27 (op : Int) (name : ByteArray) : r2_find_L1_b ⟨op, name, 27, 440, 2, 443, zR, (ex 428 434), (ex 435 439), (ex 424 427)⟩ = (bif ((27 : Int) == op) then some (Sum.inr (.inl ⟨27, true, Q27⟩)) else bif (eqS Q27.Name name) then some (.inr (.inl ⟨27, true, Q27⟩)) else some (.inl (S28 op name))) := by kernel_rfl
def Q28 : T_r2_row := ⟨(ex 444 449), (ex 450 454), (ex 455 459)⟩
theorem st28 (op : Int) (name : ByteArray) : goS 15 (S28 op name) = some ⟨op, name, 28, 455, 2, 459, zR, (ex 444 449), (ex 450 454), (ex 440 443)⟩ := by kernel_rfl
theorem br28 (op : Int) (name : ByteArray) : r2_find_L1_b ⟨op, name, 28, 455, 2, 459, zR, (ex 444 449), (ex 450 454), (ex 440 443)⟩ = (bif ((28 : Int) == op) then some (Sum.inr (.inl ⟨28, true, Q28⟩)) else bif (eqS Q28.Name name) then some (.inr (.inl ⟨28, true, Q28⟩)) else some (.inl (S29 op name))) := by kernel_rfl
def Q29 : T_r2_row := ⟨(ex 460 468), (ex 469 473), (ex 474 478)⟩
theorem st29 (op : Int) (name : ByteArray) : goS 18 (S29 op name) = some ⟨op, name, 29, 474, 2, 478, zR, (ex 460 468), (ex 469 473), (ex 455 459)⟩ := by kernel_rfl
theorem br29 (op : Int) (name : ByteArray) : r2_find_L1_b ⟨op, name, 29, 474, 2, 478, zR, (ex 460 468), (ex 469 473), (ex 455 459)⟩ = (bif ((29 : Int) == op) then some (Sum.inr (.inl ⟨29, true, Q29⟩)) else bif (eqS Q29.Name name) then some (.inr (.inl ⟨29, true, Q29⟩)) else some (.inl (S30 op name))) := by kernel_rfl
def Q30 : T_r2_row := ⟨(ex 479 487), (ex 488 492), (ex 493 497)⟩
theorem st30 (op : Int) (name : ByteArray) : goS 18 (S30 op name) = some ⟨op, name, 30, 493, 2, 497, zR, (ex 479 487), (ex 488 492), (ex 474 478)⟩ := by kernel_rfl
theorem br30 (op : Int) (name : ByteArray) : r2_find_L1_b ⟨op, name, 30, 493, 2, 497, zR, (ex 479 487), (ex 488 492), (ex 474 478)⟩ = (bif ((30 : Int) == op) then some (Sum.inr (.inl ⟨30, true, Q30⟩)) else bif (eqS Q30.Name name) then some (.inr (.inl ⟨30, true, Q30⟩)) else some (.inl (S31 op name))) := by kernel_rfl
def Q31 : T_r2_row := ⟨(ex 498 506), (ex 507 511), (ex 512 516)⟩
theorem st31 (op : Int) (name : ByteArray) : goS 18 (S31 op name) = some ⟨op, name, 31, 512, 2, 516, zR, (ex 498 506), (ex 507 511), (ex 493 497)⟩ := by kernel_rfl
theorem br31 (op : Int) (name : ByteArray) : r2_find_L1_b ⟨op, name, 31, 512, 2, 516, zR, (ex 498 506), (ex 507 511), (ex 493 497)⟩ = (bif ((31 : Int) == op) then some (Sum.inr (.inl ⟨31, true, Q31⟩)) else bif (eqS Q31.Name name) then some (.inr (.inl ⟨31, true, Q31⟩)) else some (.inl (S32 op name))) := by kernel_rfl
def Q32 : T_r2_row := ⟨(ex 517 524), (ex 525 529), (ex 530 534)⟩
theorem st32 (op : Int) (name : ByteArray) : goS 17 (S32 op name) = some ⟨op, name, 32, 530, 2, 534, zR, (ex 517 524), (ex 525 529), (ex 512 516)⟩ := by kernel_rfl
theorem br32 (op : Int) (name : ByteArray) : r2_find_L1_b ⟨op, name, 32, 530, 2, 534, zR, (ex 517 524), (ex 525 529), (ex 512 516)⟩ = (bif ((32 : Int) == op) then some (Sum.inr (.inl ⟨32, true, Q32⟩)) else bif (eqS Q32.Name name) then some (.inr (.inl ⟨32, true, Q32⟩)) else some (.inl (S33 op name))) := by kernel_rfl
def Q33 : T_r2_row := ⟨(ex 535 542), (ex 543 547), (ex 548 552)⟩
theorem st33 (op : Int) (name : ByteArray) : goS 17 (S33 op name) = some ⟨op, name, 33, 548, 2, 552, zR, (ex 535 542), (ex 543 547), (ex 530 534)⟩ := by kernel_rfl
theorem br33 (op : Int) (name : ByteArray) : r2_find_L1_b ⟨op, name, 33, 548, 2, 552, zR, (ex 535 542), (ex 543 547), (ex 530 534)⟩ = (bif ((33 : Int) == op) then some (Sum.inr (.inl ⟨33, true, Q33⟩)) else bif (eqS Q33.Name name) then some (.inr (.inl ⟨33, true, Q33⟩)) else some (.inl (S34 op name))) := by kernel_rfl
def Q34 : T_r2_row := ⟨(ex 553 559), (ex 560 564), (ex 565 571)⟩
theorem st34 (op : Int) (name : ByteArray) : goS 18 (S34 op name) = some ⟨op, name, 34, 565, 2, 571, zR, (ex 553 559), (ex 560 564), (ex 548 552)⟩ := by kernel_rfl
theorem br34 (op : Int) (name : ByteArray) : r2_find_L1_b ⟨op, name, 34, 565, 2, 571, zR, (ex 553 559), (ex 560 564), (ex 548 552)⟩ = (bif ((34 : Int) == op) then some (Sum.inr (.inl ⟨34, true, Q34⟩)) else bif (eqS Q34.Name name) then some (.inr (.inl ⟨34, true, Q34⟩)) else some (.inl (S35 op name))) := by kernel_rfl
def Q35 : T_r2_row := ⟨(ex 572 578), (ex 579 583), (ex 584 590)⟩
theorem st35 (op : Int) (name : ByteArray) : goS 18 (S35 op name) = some ⟨op, name, 35, 584, 2, 590, zR, (ex 572 578), (ex 579 583), (ex 565 571)⟩ := by kernel_rfl
theorem br35 (op : Int) (name : ByteArray) : r2_find_L1_b ⟨op, name, 35, 584, 2, 590, zR, (ex 572 578), (ex 579 583), (ex 565 571)⟩ = (bif ((35 : Int) == op) then some (Sum.inr (.inl ⟨35, true, Q35⟩)) else bif (eqS Q35.Name name) then some (.inr (.inl ⟨35, true, Q35⟩)) else some (.inl (S36 op name))) := by kernel_rfl
def Q36 : T_r2_row := ⟨(ex 591 597), (ex 598 602), (ex 603 609)⟩
theorem st36 (op : Int) (name : ByteArray) : goS 18 (S36 op name) = some ⟨op, name, 36, 603, 2, 609, zR, (ex 591 597), (ex 598 602), (ex 584 590)⟩ := by kernel_rfl
theorem br36 (op : Int) (name : ByteArray) : r2_find_L1_b ⟨op, name, 36, 603, 2, 609, zR, (ex 591 597), (ex 598 602), (ex 584 590)⟩ = (bif ((36 : Int) == op) then some (Sum.inr (.inl ⟨36, true, Q36⟩)) else bif (eqS Q36.Name name) then some (.inr (.inl ⟨36, true, Q36⟩)) else some (.inl (S37 op name))) := by kernel_rfl
def Q37 : T_r2_row := ⟨(ex 610 616), (ex 617 621), (ex 622 628)⟩
theorem st37 (op : Int) (name : ByteArray) : goS 18 (S37 op name) = some ⟨op, name, 37, 622, 2, 628, zR, (ex 610 616), (ex 617 621), (ex 603 609)⟩ := by kernel_rfl
theorem br37 (op : Int) (name : ByteArray) : r2_find_L1_b ⟨op, name, 37, 622, 2, 628, zR, (ex 610 616), (ex 617 621), (ex 603 609)⟩ = (bif ((37 : Int) == op) then some (Sum.inr (.inl ⟨37, true, Q37⟩)) else bif (eqS Q37.Name name) then some (.inr (.inl ⟨37, true, Q37⟩)) else some (.inl (S38 op name))) := by kernel_rfl
def Q38 : T_r2_row := ⟨(ex 629 635), (ex 636 640), (ex 641 647)⟩
theorem st38 (op : Int) (name : ByteArray) : goS 18 (S38 op name) = some ⟨op, name, 38, 641, 2, 647, zR, (ex 629 635), (ex 636 640), (ex 622 628)⟩ := by kernel_rfl
theorem br38 (op : Int) (name : ByteArray) : r2_find_L1_b ⟨op, name, 38, 641, 2, 647, zR, (ex 629 635), (ex 636 640), (ex 622 628)⟩ = (bif ((38 : Int) == op) then some (Sum.inr (.inl ⟨38, true, Q38⟩)) else bif (eqS Q38.Name name) then some (.inr (.inl ⟨38, true, Q38⟩)) else some (.inl (S39 op name))) := by kernel_rfl
def Q39 : T_r2_row := ⟨(ex 648 654), (ex 655 659), (ex 660 666)⟩
theorem st39 (op : Int) (name : ByteArray) : goS 18 (S39 op name) = some ⟨op, name, 39, 660, 2, 666, zR, (ex 648 654), (ex 655 659), (ex 641 647)⟩ := by kernel_rfl
theorem br39 (op : Int) (name : ByteArray) : r2_find_L1_b ⟨op, name, 39, 660, 2, 666, zR, (ex 648 654), (ex 655 659), (ex 641 647)⟩ = (bif ((39 : Int) == op) then some (Sum.inr (.inl ⟨39, true, Q39⟩)) else bif (eqS Q39.Name name) then some (.inr (.inl ⟨39, true, Q39⟩)) else some (.inl (S40 op name))) := by kernel_rfl
def Q40 : T_r2_row := ⟨(ex 667 672), (ex 673 677), (ex 678 686)⟩
theorem st40 (op : Int) (name : ByteArray) : goS 19 (S40 op name) = some ⟨op, name, 40, 678, 2, 686, zR, (ex 667 672), (ex 673 677), (ex 660 666)⟩ := by kernel_rfl
theorem br40 (op : Int) (name : ByteArray) : r2_find_L1_b ⟨op, name, 40, 678, 2, 686, zR, (ex 667 672), (ex 673 677), (ex 660 666)⟩ = (bif ((40 : Int) == op) then some (Sum.inr (.inl ⟨40, true, Q40⟩)) else bif (eqS Q40.Name name) then some (.inr (.inl ⟨40, true, Q40⟩)) else some (.inl (S41 op name))) := by kernel_rfl
def Q41 : T_r2_row := ⟨(ex 687 691), (ex 692 696), (ex 697 699)⟩
theorem st41 (op : Int) (name : ByteArray) : goS 12 (S41 op name) = some ⟨op, name, 41, 697, 2, 699, zR, (ex 687 691), (ex 692 696), (ex 678 686)⟩ := by kernel_rfl
theorem br41 (op : Int) (name : ByteArray) : r2_find_L1_b ⟨op, name, 41, 697, 2, 699, zR, (ex 687 691), (ex 692 696), (ex 678 686)⟩ = (bif ((41 : Int) == op) then some (Sum.inr (.inl ⟨41, true, Q41⟩)) else bif (eqS Q41.Name name) then some (.inr (.inl ⟨41, true, Q41⟩)) else some (.inl (S42 op name))) := by kernel_rfl
def Q42 : T_r2_row := ⟨(ex 700 705), (ex 706 710), (ex 711 713)⟩
theorem st42 (op : Int) (name : ByteArray) : goS 13 (S42 op name) = some ⟨op, name, 42, 711, 2, 713, zR, (ex 700 705), (ex 706 710), (ex 697 699)⟩ := by kernel_rfl
theorem br42 (op : Int) (name : ByteArray) : r2_find_L1_b ⟨op, name, 42, 711, 2, 713, zR, (ex 700 705), (ex 706 710), (ex 697 699)⟩ = (bif ((42 : Int) == op) then some (Sum.inr (.inl ⟨42, true, Q42⟩)) else bif (eqS Q42.Name name) then some (.inr (.inl ⟨42, true, Q42⟩)) else some (.inl (S43 op name))) := by kernel_rfl
def Q43 : T_r2_row := ⟨(ex 714 722), (ex 723 731), (ex 732 739)⟩
theorem st43 (op : Int) (name : ByteArray) : goS 25 (S43 op name) = some ⟨op, name, 43, 732, 2, 739, zR, (ex 714 722), (ex 723 731), (ex 711 713)⟩ := by kernel_rfl
theorem br43 (op : Int) (name : ByteArray) : r2_find_L1_b ⟨op, name, 43, 732, 2, 739, zR, (ex 714 722), (ex 723 731), (ex 711 713)⟩ = (bif ((43 : Int) == op) then some (Sum.inr (.inl ⟨43, true, Q43⟩)) else bif (eqS Q43.Name name) then some (.inr (.inl ⟨43, true, Q43⟩)) else some (.inl (S44 op name))) := by kernel_rfl
def Q44 : T_r2_row := ⟨(ex 740 746), (ex 747 755), (ex 756 762)⟩
theorem st44 (op : Int) (name : ByteArray) : goS 22 (S44 op name) = some ⟨op, name, 44, 756, 2, 762, zR, (ex 740 746), (ex 747 755), (ex 732 739)⟩ := by kernel_rfl
theorem br44 (op : Int) (name : ByteArray) : r2_find_L1_b ⟨op, name, 44, 756, 2, 762, zR, (ex 740 746), (ex 747 755), (ex 732 739)⟩ = (bif ((44 : Int) == op) then some (Sum.inr (.inl ⟨44, true, Q44⟩)) else bif (eqS Q44.Name name) then some (.inr (.inl ⟨44, true, Q44⟩)) else some (.inl (S45 op name))) := by kernel_rfl
def Q45 : T_r2_row := ⟨(ex 763 769), (ex 770 778), (ex 779 785)⟩
theorem st45 (op : Int) (name : ByteArray) : goS 22 (S45 op name) = some ⟨op, name, 45, 779, 2, 785, zR, (ex 763 769), (ex 770 778), (ex 756 762)⟩ := by kernel_rfl
theorem br45 (op : Int) (name : ByteArray) : r2_find_L1_b ⟨op, name, 45, 779, 2, 785, zR, (ex 763 769), (ex 770 778), (ex 756 762)⟩ = (bif ((45 : Int) == op) then some (Sum.inr (.inl ⟨45, true, Q45⟩)) else bif (eqS Q45.Name name) then some (.inr (.inl ⟨45, true, Q45⟩)) else some (.inl (S46 op name))) := by kernel_rfl
def Q46 : T_r2_row := ⟨(ex 786 791), (ex 792 800), (ex 801 807)⟩
theorem st46 (op : Int) (name : ByteArray) : goS 21 (S46 op name) = some ⟨op, name, 46, 801, 2, 807, zR, (ex 786 791), (ex 792 800), (ex 779 785)⟩ := by kernel_rfl
theorem br46 (op : Int) (name : ByteArray) : r2_find_L1_b ⟨op, name, 46, 801, 2, 807, zR, (ex 786 791), (ex 792 800), (ex 779 785)⟩ = (bif ((46 : Int) == op) then some (Sum.inr (.inl ⟨46, true, Q46⟩)) else bif (eqS Q46.Name name) then some (.inr (.inl ⟨46, true, Q46⟩)) else some (.inl (S47 op name))) := by kernel_rfl
def Q47 : T_r2_row := ⟨(ex 808 814), (ex 815 823), (ex 824 830)⟩
theorem st47 (op : Int) (name : ByteArray) : goS 22 (S47 op name) = some ⟨op, name, 47, 824, 2, 830, zR, (ex 808 814), (ex 815 823), (ex 801 807)⟩ := by kernel_rfl
theorem br47 (op : Int) (name : ByteArray) : r2_find_L1_b ⟨op, name, 47, 824, 2, 830, zR, (ex 808 814), (ex 815 823), (ex 801 807)⟩ = (bif ((47 : Int) == op) then some (Sum.inr (.inl ⟨47, true, Q47⟩)) else bif (eqS Q47.Name name) then some (.inr (.inl ⟨47, true, Q47⟩)) else some (.inl (S48 op name))) := by kernel_rfl
def Q48 : T_r2_row := ⟨(ex 831 835), (ex 836 844), (ex 845 850)⟩
theorem st48 (op : Int) (name : ByteArray) : goS 19 (S48 op name) = some ⟨op, name, 48, 845, 2, 850, zR, (ex 831 835), (ex 836 844), (ex 824 830)⟩ := by kernel_rfl
theorem br48 (op : Int) (name : ByteArray) : r2_find_L1_b ⟨op, name, 48, 845, 2, 850, zR, (ex 831 835), (ex 836 844), (ex 824 830)⟩ = (bif ((48 : Int) == op) then some (Sum.inr (.inl ⟨48, true, Q48⟩)) else bif (eqS Q48.Name name) then some (.inr (.inl ⟨48, true, Q48⟩)) else some (.inl (S49 op name))) := by kernel_rfl
def Q49 : T_r2_row := ⟨(ex 851 856), (ex 857 865), (ex 866 873)⟩
theorem st49 (op : Int) (name : ByteArray) : goS 22 (S49 op name) = some ⟨op, name, 49, 866, 2, 873, zR, (ex 851 856), (ex 857 865), (ex 845 850)⟩ := by kernel_rfl
theorem br49 (op : Int) (name : ByteArray) : r2_find_L1_b ⟨op, name, 49, 866, 2, 873, zR, (ex 851 856), (ex 857 865), (ex 845 850)⟩ = (bif ((49 : Int) == op) then some (Sum.inr (.inl ⟨49, true, Q49⟩)) else bif (eqS Q49.Name name) then some (.inr (.inl ⟨49, true, Q49⟩)) else some (.inl (S50 op name))) := by kernel_rfl
def Q50 : T_r2_row := ⟨(ex 874 879), (ex 880 888), (ex 889 896)⟩
theorem st50 (op : Int) (name : ByteArray) : goS 22 (S50 op name) = some ⟨op, name, 50, 889, 2, 896, zR, (ex 874 879), (ex 880 888), (ex 866 873)⟩ := by kernel_rfl
theorem br50 (op : Int) (name : ByteArray) : r2_find_L1_b ⟨op, name, 50, 889, 2, 896, zR, (ex 874 879), (ex 880 888), (ex 866 873)⟩ = (bif ((50 : Int) == op) then some (Sum.inr (.inl ⟨50, true, Q50⟩)) else bif (eqS Q50.Name name) then some (.inr (.inl ⟨50, true, Q50⟩)) else some (.inl (S51 op name))) := by kernel_rfl
def Q51 : T_r2_row := ⟨(ex 897 902), (ex 903 911), (ex 912 919)⟩
theorem st51 (op : Int) (name : ByteArray) : goS 22 (S51 op name) = some ⟨op, name, 51, 912, 2, 919, zR, (ex 897 902), (ex 903 911), (ex 889 896)⟩ := by kernel_rfl
theorem br51 (op : Int) (name : ByteArray) : r2_find_L1_b ⟨op, name, 51, 912, 2, 919, zR, (ex 897 902), (ex 903 911), (ex 889 896)⟩ = (bif ((51 : Int) == op) then some (Sum.inr (.inl ⟨51, true, Q51⟩)) else bif (eqS Q51.Name name) then some (.inr (.inl ⟨51, true, Q51⟩)) else some (.inl (S52 op name))) := by kernel_rfl
def Q52 : T_r2_row := ⟨(ex 920 925), (ex 926 934), (ex 935 942)⟩
theorem st52 (op : Int) (name : ByteArray) : goS 22 (S52 op name) = some ⟨op, name, 52, 935, 2, 942, zR, (ex 920 925), (ex 926 934), (ex 912 919)⟩ := by kernel_rfl
theorem br52 (op : Int) (name : ByteArray) : r2_find_L1_b ⟨op, name, 52, 935, 2, 942, zR, (ex 920 925), (ex 926 934), (ex 912 919)⟩ = (bif ((52 : Int) == op) then some (Sum.inr (.inl ⟨52, true, Q52⟩)) else bif (eqS Q52.Name name) then some (.inr (.inl ⟨52, true, Q52⟩)) else some (.inl (S53 op name))) := by kernel_rfl
def Q53 : T_r2_row := ⟨(ex 943 948), (ex 949 957), (ex 958 965)⟩
theorem st53 (op : Int) (name : ByteArray) : goS 22 (S53 op name) = some ⟨op, name, 53, 958, 2, 965, zR, (ex 943 948), (ex 949 957), (ex 935 942)⟩ := by kernel_rfl
theorem br53 (op : Int) (name : ByteArray) : r2_find_L1_b ⟨op, name, 53, 958, 2, 965, zR, (ex 943 948), (ex 949 957), (ex 935 942)⟩ = (bif ((53 : Int) == op) then some (Sum.inr (.inl ⟨53, true, Q53⟩)) else bif (eqS Q53.Name name) then some (.inr (.inl ⟨53, true, Q53⟩)) else some (.inl (S54 op name))) := by kernel_rfl
def Q54 : T_r2_row := ⟨(ex 966 971), (ex 972 980), (ex 981 988)⟩
theorem st54 (op : Int) (name : ByteArray) : goS 22 (S54 op name) = some ⟨op, name, 54, 981, 2, 988, zR, (ex 966 971), (ex 972 980), (ex 958 965)⟩ := by kernel_rfl
theorem br54 (op : Int) (name : ByteArray) : r2_find_L1_b ⟨op, name, 54, 981, 2, 988, zR, (ex 966 971), (ex 972 980), (ex 958 965)⟩ = (bif ((54 : Int) == op) then some (Sum.inr (.inl ⟨54, true, Q54⟩)) else bif (eqS Q54.Name name) then some (.inr (.inl ⟨54, true, Q54⟩)) else some (.inl (S55 op name))) := by kernel_rfl
def Q55 : T_r2_row := ⟨(ex 989 994), (ex 995 1003), (ex 1004 1011)⟩
theorem st55 (op : Int) (name : ByteArray) : goS 22 (S55 op name) = some ⟨op, name, 55, 1004, 2, 1011, zR, (ex 989 994), (ex 995 1003), (ex 981 988)⟩ := by kernel_rfl
theorem br55 (op : Int) (name : ByteArray) : r2_find_L1_b ⟨op, name, 55, 1004, 2, 1011, zR, (ex 989 994), (ex 995 1003), (ex 981 988)⟩ = (bif ((55 : Int) == op) then some (Sum.inr (.inl ⟨55, true, Q55⟩)) else bif (eqS Q55.Name name) then some (.inr (.inl ⟨55, true, Q55⟩)) else some (.inl (S56 op name))) := by kernel_rfl
def Q56 : T_r2_row := ⟨(ex 1012 1015), (ex 1016 1024), (ex 1025 1028)⟩
theorem st56 (op : Int) (name : ByteArray) : goS 16 (S56 op name) = some ⟨op, name, 56, 1025, 2, 1028, zR, (ex 1012 1015), (ex 1016 1024), (ex 1004 1011)⟩ := by kernel_rfl
theorem br56 (op : Int) (name : ByteArray) : r2_find_L1_b ⟨op, name, 56, 1025, 2, 1028, zR, (ex 1012 1015), (ex 1016 1024), (ex 1004 1011)⟩ = (bif ((56 : Int) == op) then some (Sum.inr (.inl ⟨56, true, Q56⟩)) else bif (eqS Q56.Name name) then some (.inr (.inl ⟨56, true, Q56⟩)) else some (.inl (S57 op name))) := by kernel_rfl
def Q57 : T_r2_row := ⟨(ex 1029 1033), (ex 1034 1042), (ex 1043 1046)⟩
theorem st57 (op : Int) (name : ByteArray) : goS 17 (S57 op name) = some ⟨op, name, 57, 1043, 2, 1046, zR, (ex 1029 1033), (ex 1034 1042), (ex 1025 1028)⟩ := by kernel_rfl
theorem br57 (op : Int) (name : ByteArray) : r2_find_L1_b ⟨op, name, 57, 1043, 2, 1046, zR, (ex 1029 1033), (ex 1034 1042), (ex 1025 1028)⟩ = (bif ((57 : Int) == op) then some (Sum.inr (.inl ⟨57, true, Q57⟩)) else bif (eqS Q57.Name name) then some (.inr (.inl ⟨57, true, Q57⟩)) else some (.inl (S58 op name))) := by kernel_rfl
def Q58 : T_r2_row := ⟨(ex 1047 1051), (ex 1052 1060), (ex 1061 1070)⟩
theorem st58 (op : Int) (name : ByteArray) : goS 23 (S58 op name) = some ⟨op, name, 58, 1061, 2, 1070, zR, (ex 1047 1051), (ex 1052 1060), (ex 1043 1046)⟩ := by kernel_rfl
theorem br58 (op : Int) (name : ByteArray) : r2_find_L1_b ⟨op, name, 58, 1061, 2, 1070, zR, (ex 1047 1051), (ex 1052 1060), (ex 1043 1046)⟩ = (bif ((58 : Int) == op) then some (Sum.inr (.inl ⟨58, true, Q58⟩)) else bif (eqS Q58.Name name) then some (.inr (.inl ⟨58, true, Q58⟩)) else some (.inl (S59 op name))) := by kernel_rfl
def Q59 : T_r2_row := ⟨(ex 1071 1076), (ex 1077 1085), (ex 1086 1095)⟩
theorem st59 (op : Int) (name : ByteArray) : goS 24 (S59 op name) = some ⟨op, name, 59, 1086, 2, 1095, zR, (ex 1071 1076), (ex 1077 1085), (ex 1061 1070)⟩ := by kernel_rfl
theorem br59 (op : Int) (name : ByteArray) : r2_find_L1_b ⟨op, name, 59, 1086, 2, 1095, zR, (ex 1071 1076), (ex 1077 1085), (ex 1061 1070)⟩ = (bif ((59 : Int) == op) then some (Sum.inr (.inl ⟨59, true, Q59⟩)) else bif (eqS Q59.Name name) then some (.inr (.inl ⟨59, true, Q59⟩)) else some (.inl (S60 op name))) := by kernel_rfl
def Q60 : T_r2_row := ⟨(ex 1096 1099), (ex 1100 1108), (ex 1109 1114)⟩
theorem st60 (op : Int) (name : ByteArray) : goS 18 (S60 op name) = some ⟨op, name, 60, 1109, 2, 1114, zR, (ex 1096 1099), (ex 1100 1108), (ex 1086 1095)⟩ := by kernel_rfl
theorem br60 (op : Int) (name : ByteArray) : r2_find_L1_b ⟨op, name, 60, 1109, 2, 1114, zR, (ex 1096 1099), (ex 1100 1108), (ex 1086 1095)⟩ = (bif ((60 : Int) == op) then some (Sum.inr (.inl ⟨60, true, Q60⟩)) else bif (eqS Q60.Name name) then some (.inr (.inl ⟨60, true, Q60⟩)) else some (.inl (S61 op name))) := by kernel_rfl
def Q61 : T_r2_row := ⟨(ex 1115 1119), (ex 1120 1128), (ex 1129 1134)⟩
theorem st61 (op : Int) (name : ByteArray) : goS 19 (S61 op name) = some ⟨op, name, 61, 1129, 2, 1134, zR, (ex 1115 1119), (ex 1120 1128), (ex 1109 1114)⟩ := by kernel_rfl
theorem br61 (op : Int) (name : ByteArray) : r2_find_L1_b ⟨op, name, 61, 1129, 2, 1134, zR, (ex 1115 1119), (ex 1120 1128), (ex 1109 1114)⟩ = (bif ((61 : Int) == op) then some (Sum.inr (.inl ⟨61, true, Q61⟩)) else bif (eqS Q61.Name name) then some (.inr (.inl ⟨61, true, Q61⟩)) else some (.inl (S62 op name))) := by kernel_rfl
def Q62 : T_r2_row := ⟨(ex 1135 1140), (ex 1141 1149), (ex 1150 1155)⟩
theorem st62 (op : Int) (name : ByteArray) : goS 20 (S62 op name) = some ⟨op, name, 62, 1150, 2, 1155, zR, (ex 1135 1140), (ex 1141 1149), (ex 1129 1134)⟩ := by kernel_rfl
theorem br62 (op : Int) (name : ByteArray) : r2_find_L1_b ⟨op, name, 62, 1150, 2, 1155, zR, (ex 1135 1140), (ex 1141 1149), (ex 1129 1134)⟩ = (bif ((62 : Int) == op) then some (Sum.inr (.inl ⟨62, true, Q62⟩)) else bif (eqS Q62.Name name) then some (.inr (.inl ⟨62, true, Q62⟩)) else some (.inl (S63 op name))) := by kernel_rfl
def Q63 : T_r2_row := ⟨(ex 1156 1159), (ex 1160 1168), (ex 1169 1174)⟩
theorem st63 (op : Int) (name : ByteArray) : goS 18 (S63 op name) = some ⟨op, name, 63, 1169, 2, 1174, zR, (ex 1156 1159), (ex 1160 1168), (ex 1150 1155)⟩ := by kernel_rfl
theorem br63 (op : Int) (name : ByteArray) : r2_find_L1_b ⟨op, name, 63, 1169, 2, 1174, zR, (ex 1156 1159), (ex 1160 1168), (ex 1150 1155)⟩ = (bif ((63 : Int) == op) then some (Sum.inr (.inl ⟨63, true, Q63⟩)) else bif (eqS Q63.Name name) then some (.inr (.inl ⟨63, true, Q63⟩)) else some (.inl (S64 op name))) := by kernel_rfl
def Q64 : T_r2_row := ⟨(ex 1175 1177), (ex 1178 1186), (ex 1187 1192)⟩
theorem st64 (op : Int) (name : ByteArray) : goS 17 (S64 op name) = some ⟨op, name, 64, 1187, 2, 1192, zR, (ex 1175 1177), (ex 1178 1186), (ex 1169 1174)⟩ := by kernel_rfl
theorem br64 (op : Int) (name : ByteArray) : r2_find_L1_b ⟨op, name, 64, 1187, 2, 1192, zR, (ex 1175 1177), (ex 1178 1186), (ex 1169 1174)⟩ = (bif ((64 : Int) == op) then some (Sum.inr (.inl ⟨64, true, Q64⟩)) else bif (eqS Q64.Name name) then some (.inr (.inl ⟨64, true, Q64⟩)) else some (.inl (S65 op name))) := by kernel_rfl
def Q65 : T_r2_row := ⟨(ex 1193 1196), (ex 1197 1205), (ex 1206 1211)⟩
theorem st65 (op : Int) (name : ByteArray) : goS 18 (S65 op name) = some ⟨op, name, 65, 1206, 2, 1211, zR, (ex 1193 1196), (ex 1197 1205), (ex 1187 1192)⟩ := by kernel_rfl
theorem br65 (op : Int) (name : ByteArray) : r2_find_L1_b ⟨op, name, 65, 1206, 2, 1211, zR, (ex 1193 1196), (ex 1197 1205), (ex 1187 1192)⟩ = (bif ((65 : Int) == op) then some (Sum.inr (.inl ⟨65, true, Q65⟩)) else bif (eqS Q65.Name name) then some (.inr (.inl ⟨65, true, Q65⟩)) else some (.inl (S66 op name))) := by kernel_rfl
theorem L66 (op : Int) (name : ByteArray) : r2_find_L1 (S66 op name) = some (resF (findR op name [] 66)) := by rw [r2_find_L1.eq]; exact congrArg (fun x => Option.bind x _) (show r2_find_L1_b (S66 op name) = some (.inr (.inr zR)) by kernel_rfl)
def D65 : List T_r2_row := Q65 :: []
theorem L65 (op : Int) (name : ByteArray) : r2_find_L1 (S65 op name) = some (resF (findR op name D65 65)) := by
  rw [goS_eq _ (st65 op name), r2_find_L1.eq, br65]; exact glue (by decide) (L66 op name)
def D64 : List T_r2_row := Q64 :: D65
theorem L64 (op : Int) (name : ByteArray) : r2_find_L1 (S64 op name) = some (resF (findR op name D64 64)) := by
  rw [goS_eq _ (st64 op name), r2_find_L1.eq, br64]; exact glue (by decide) (L65 op name)
def D63 : List T_r2_row := Q63 :: D64
theorem L63 (op : Int) (name : ByteArray) : r2_find_L1 (S63 op name) = some (resF (findR op name D63 63)) := by
  rw [goS_eq _ (st63 op name), r2_find_L1.eq, br63]; exact glue (by decide) (L64 op name)
def D62 : List T_r2_row := Q62 :: D63
theorem L62 (op : Int) (name : ByteArray) : r2_find_L1 (S62 op name) = some (resF (findR op name D62 62)) := by
  rw [goS_eq _ (st62 op name), r2_find_L1.eq, br62]; exact glue (by decide) (L63 op name)
def D61 : List T_r2_row := Q61 :: D62
theorem L61 (op : Int) (name : ByteArray) : r2_find_L1 (S61 op name) = some (resF (findR op name D61 61)) := by
  rw [goS_eq _ (st61 op name), r2_find_L1.eq, br61]; exact glue (by decide) (L62 op name)
def D60 : List T_r2_row := Q60 :: D61
theorem L60 (op : Int) (name : ByteArray) : r2_find_L1 (S60 op name) = some (resF (findR op name D60 60)) := by
  rw [goS_eq _ (st60 op name), r2_find_L1.eq, br60]; exact glue (by decide) (L61 op name)
def D59 : List T_r2_row := Q59 :: D60
theorem L59 (op : Int) (name : ByteArray) : r2_find_L1 (S59 op name) = some (resF (findR op name D59 59)) := by
  rw [goS_eq _ (st59 op name), r2_find_L1.eq, br59]; exact glue (by decide) (L60 op name)
def D58 : List T_r2_row := Q58 :: D59
theorem L58 (op : Int) (name : ByteArray) : r2_find_L1 (S58 op name) = some (resF (findR op name D58 58)) := by
  rw [goS_eq _ (st58 op name), r2_find_L1.eq, br58]; exact glue (by decide) (L59 op name)
def D57 : List T_r2_row := Q57 :: D58
theorem L57 (op : Int) (name : ByteArray) : r2_find_L1 (S57 op name) = some (resF (findR op name D57 57)) := by
  rw [goS_eq _ (st57 op name), r2_find_L1.eq, br57]; exact glue (by decide) (L58 op name)
def D56 : List T_r2_row := Q56 :: D57
theorem L56 (op : Int) (name : ByteArray) : r2_find_L1 (S56 op name) = some (resF (findR op name D56 56)) := by
  rw [goS_eq _ (st56 op name), r2_find_L1.eq, br56]; exact glue (by decide) (L57 op name)
def D55 : List T_r2_row := Q55 :: D56
theorem L55 (op : Int) (name : ByteArray) : r2_find_L1 (S55 op name) = some (resF (findR op name D55 55)) := by
  rw [goS_eq _ (st55 op name), r2_find_L1.eq, br55]; exact glue (by decide) (L56 op name)
def D54 : List T_r2_row := Q54 :: D55
theorem L54 (op : Int) (name : ByteArray) : r2_find_L1 (S54 op name) = some (resF (findR op name D54 54)) := by
  rw [goS_eq _ (st54 op name), r2_find_L1.eq, br54]; exact glue (by decide) (L55 op name)
def D53 : List T_r2_row := Q53 :: D54
theorem L53 (op : Int) (name : ByteArray) : r2_find_L1 (S53 op name) = some (resF (findR op name D53 53)) := by
  rw [goS_eq _ (st53 op name), r2_find_L1.eq, br53]; exact glue (by decide) (L54 op name)
def D52 : List T_r2_row := Q52 :: D53
theorem L52 (op : Int) (name : ByteArray) : r2_find_L1 (S52 op name) = some (resF (findR op name D52 52)) := by
  rw [goS_eq _ (st52 op name), r2_find_L1.eq, br52]; exact glue (by decide) (L53 op name)
def D51 : List T_r2_row := Q51 :: D52
theorem L51 (op : Int) (name : ByteArray) : r2_find_L1 (S51 op name) = some (resF (findR op name D51 51)) := by
  rw [goS_eq _ (st51 op name), r2_find_L1.eq, br51]; exact glue (by decide) (L52 op name)
def D50 : List T_r2_row := Q50 :: D51
theorem L50 (op : Int) (name : ByteArray) : r2_find_L1 (S50 op name) = some (resF (findR op name D50 50)) := by
  rw [goS_eq _ (st50 op name), r2_find_L1.eq, br50]; exact glue (by decide) (L51 op name)
def D49 : List T_r2_row := Q49 :: D50
theorem L49 (op : Int) (name : ByteArray) : r2_find_L1 (S49 op name) = some (resF (findR op name D49 49)) := by
  rw [goS_eq _ (st49 op name), r2_find_L1.eq, br49]; exact glue (by decide) (L50 op name)
def D48 : List T_r2_row := Q48 :: D49
theorem L48 (op : Int) (name : ByteArray) : r2_find_L1 (S48 op name) = some (resF (findR op name D48 48)) := by
  rw [goS_eq _ (st48 op name), r2_find_L1.eq, br48]; exact glue (by decide) (L49 op name)
def D47 : List T_r2_row := Q47 :: D48
theorem L47 (op : Int) (name : ByteArray) : r2_find_L1 (S47 op name) = some (resF (findR op name D47 47)) := by
  rw [goS_eq _ (st47 op name), r2_find_L1.eq, br47]; exact glue (by decide) (L48 op name)
def D46 : List T_r2_row := Q46 :: D47
theorem L46 (op : Int) (name : ByteArray) : r2_find_L1 (S46 op name) = some (resF (findR op name D46 46)) := by
  rw [goS_eq _ (st46 op name), r2_find_L1.eq, br46]; exact glue (by decide) (L47 op name)
def D45 : List T_r2_row := Q45 :: D46
theorem L45 (op : Int) (name : ByteArray) : r2_find_L1 (S45 op name) = some (resF (findR op name D45 45)) := by
  rw [goS_eq _ (st45 op name), r2_find_L1.eq, br45]; exact glue (by decide) (L46 op name)
def D44 : List T_r2_row := Q44 :: D45
theorem L44 (op : Int) (name : ByteArray) : r2_find_L1 (S44 op name) = some (resF (findR op name D44 44)) := by
  rw [goS_eq _ (st44 op name), r2_find_L1.eq, br44]; exact glue (by decide) (L45 op name)
def D43 : List T_r2_row := Q43 :: D44
theorem L43 (op : Int) (name : ByteArray) : r2_find_L1 (S43 op name) = some (resF (findR op name D43 43)) := by
  rw [goS_eq _ (st43 op name), r2_find_L1.eq, br43]; exact glue (by decide) (L44 op name)
def D42 : List T_r2_row := Q42 :: D43
theorem L42 (op : Int) (name : ByteArray) : r2_find_L1 (S42 op name) = some (resF (findR op name D42 42)) := by
  rw [goS_eq _ (st42 op name), r2_find_L1.eq, br42]; exact glue (by decide) (L43 op name)
def D41 : List T_r2_row := Q41 :: D42
theorem L41 (op : Int) (name : ByteArray) : r2_find_L1 (S41 op name) = some (resF (findR op name D41 41)) := by
  rw [goS_eq _ (st41 op name), r2_find_L1.eq, br41]; exact glue (by decide) (L42 op name)
def D40 : List T_r2_row := Q40 :: D41
theorem L40 (op : Int) (name : ByteArray) : r2_find_L1 (S40 op name) = some (resF (findR op name D40 40)) := by
  rw [goS_eq _ (st40 op name), r2_find_L1.eq, br40]; exact glue (by decide) (L41 op name)
def D39 : List T_r2_row := Q39 :: D40
theorem L39 (op : Int) (name : ByteArray) : r2_find_L1 (S39 op name) = some (resF (findR op name D39 39)) := by
  rw [goS_eq _ (st39 op name), r2_find_L1.eq, br39]; exact glue (by decide) (L40 op name)
def D38 : List T_r2_row := Q38 :: D39
theorem L38 (op : Int) (name : ByteArray) : r2_find_L1 (S38 op name) = some (resF (findR op name D38 38)) := by
  rw [goS_eq _ (st38 op name), r2_find_L1.eq, br38]; exact glue (by decide) (L39 op name)
def D37 : List T_r2_row := Q37 :: D38
theorem L37 (op : Int) (name : ByteArray) : r2_find_L1 (S37 op name) = some (resF (findR op name D37 37)) := by
  rw [goS_eq _ (st37 op name), r2_find_L1.eq, br37]; exact glue (by decide) (L38 op name)
def D36 : List T_r2_row := Q36 :: D37
theorem L36 (op : Int) (name : ByteArray) : r2_find_L1 (S36 op name) = some (resF (findR op name D36 36)) := by
  rw [goS_eq _ (st36 op name), r2_find_L1.eq, br36]; exact glue (by decide) (L37 op name)
def D35 : List T_r2_row := Q35 :: D36
theorem L35 (op : Int) (name : ByteArray) : r2_find_L1 (S35 op name) = some (resF (findR op name D35 35)) := by
  rw [goS_eq _ (st35 op name), r2_find_L1.eq, br35]; exact glue (by decide) (L36 op name)
def D34 : List T_r2_row := Q34 :: D35
theorem L34 (op : Int) (name : ByteArray) : r2_find_L1 (S34 op name) = some (resF (findR op name D34 34)) := by
  rw [goS_eq _ (st34 op name), r2_find_L1.eq, br34]; exact glue (by decide) (L35 op name)
def D33 : List T_r2_row := Q33 :: D34
theorem L33 (op : Int) (name : ByteArray) : r2_find_L1 (S33 op name) = some (resF (findR op name D33 33)) := by
  rw [goS_eq _ (st33 op name), r2_find_L1.eq, br33]; exact glue (by decide) (L34 op name)
def D32 : List T_r2_row := Q32 :: D33
theorem L32 (op : Int) (name : ByteArray) : r2_find_L1 (S32 op name) = some (resF (findR op name D32 32)) := by
  rw [goS_eq _ (st32 op name), r2_find_L1.eq, br32]; exact glue (by decide) (L33 op name)
def D31 : List T_r2_row := Q31 :: D32
theorem L31 (op : Int) (name : ByteArray) : r2_find_L1 (S31 op name) = some (resF (findR op name D31 31)) := by
  rw [goS_eq _ (st31 op name), r2_find_L1.eq, br31]; exact glue (by decide) (L32 op name)
def D30 : List T_r2_row := Q30 :: D31
theorem L30 (op : Int) (name : ByteArray) : r2_find_L1 (S30 op name) = some (resF (findR op name D30 30)) := by
  rw [goS_eq _ (st30 op name), r2_find_L1.eq, br30]; exact glue (by decide) (L31 op name)
def D29 : List T_r2_row := Q29 :: D30
theorem L29 (op : Int) (name : ByteArray) : r2_find_L1 (S29 op name) = some (resF (findR op name D29 29)) := by
  rw [goS_eq _ (st29 op name), r2_find_L1.eq, br29]; exact glue (by decide) (L30 op name)
def D28 : List T_r2_row := Q28 :: D29
theorem L28 (op : Int) (name : ByteArray) : r2_find_L1 (S28 op name) = some (resF (findR op name D28 28)) := by
  rw [goS_eq _ (st28 op name), r2_find_L1.eq, br28]; exact glue (by decide) (L29 op name)
def D27 : List T_r2_row := Q27 :: D28
theorem L27 (op : Int) (name : ByteArray) : r2_find_L1 (S27 op name) = some (resF (findR op name D27 27)) := by
  rw [goS_eq _ (st27 op name), r2_find_L1.eq, br27]; exact glue (by decide) (L28 op name)
def D26 : List T_r2_row := Q26 :: D27
theorem L26 (op : Int) (name : ByteArray) : r2_find_L1 (S26 op name) = some (resF (findR op name D26 26)) := by
  rw [goS_eq _ (st26 op name), r2_find_L1.eq, br26]; exact glue (by decide) (L27 op name)
def D25 : List T_r2_row := Q25 :: D26
theorem L25 (op : Int) (name : ByteArray) : r2_find_L1 (S25 op name) = some (resF (findR op name D25 25)) := by
  rw [goS_eq _ (st25 op name), r2_find_L1.eq, br25]; exact glue (by decide) (L26 op name)
def D24 : List T_r2_row := Q24 :: D25
theorem L24 (op : Int) (name : ByteArray) : r2_find_L1 (S24 op name) = some (resF (findR op name D24 24)) := by
  rw [goS_eq _ (st24 op name), r2_find_L1.eq, br24]; exact glue (by decide) (L25 op name)
def D23 : List T_r2_row := Q23 :: D24
theorem L23 (op : Int) (name : ByteArray) : r2_find_L1 (S23 op name) = some (resF (findR op name D23 23)) := by
  rw [goS_eq _ (st23 op name), r2_find_L1.eq, br23]; exact glue (by decide) (L24 op name)
def D22 : List T_r2_row := Q22 :: D23
theorem L22 (op : Int) (name : ByteArray) : r2_find_L1 (S22 op name) = some (resF (findR op name D22 22)) := by
  rw [goS_eq _ (st22 op name), r2_find_L1.eq, br22]; exact glue (by decide) (L23 op name)
def D21 : List T_r2_row := Q21 :: D22
theorem L21 (op : Int) (name : ByteArray) : r2_find_L1 (S21 op name) = some (resF (findR op name D21 21)) := by
  rw [goS_eq _ (st21 op name), r2_find_L1.eq, br21]; exact glue (by decide) (L22 op name)
def D20 : List T_r2_row := Q20 :: D21
theorem L20 (op : Int) (name : ByteArray) : r2_find_L1 (S20 op name) = some (resF (findR op name D20 20)) := by
  rw [goS_eq _ (st20 op name), r2_find_L1.eq, br20]; exact glue (by decide) (L21 op name)
def D19 : List T_r2_row := Q19 :: D20
theorem L19 (op : Int) (name : ByteArray) : r2_find_L1 (S19 op name) = some (resF (findR op name D19 19)) := by
  rw [goS_eq _ (st19 op name), r2_find_L1.eq, br19]; exact glue (by decide) (L20 op name)
def D18 : List T_r2_row := Q18 :: D19
theorem L18 (op : Int) (name : ByteArray) : r2_find_L1 (S18 op name) = some (resF (findR op name D18 18)) := by
  rw [goS_eq _ (st18 op name), r2_find_L1.eq, br18]; exact glue (by decide) (L19 op name)
def D17 : List T_r2_row := Q17 :: D18
theorem L17 (op : Int) (name : ByteArray) : r2_find_L1 (S17 op name) = some (resF (findR op name D17 17)) := by
  rw [goS_eq _ (st17 op name), r2_find_L1.eq, br17]; exact glue (by decide) (L18 op name)
def D16 : List T_r2_row := Q16 :: D17
theorem L16 (op : Int) (name : ByteArray) : r2_find_L1 (S16 op name) = some (resF (findR op name D16 16)) := by
  rw [goS_eq _ (st16 op name), r2_find_L1.eq, br16]; exact glue (by decide) (L17 op name)
def D15 : List T_r2_row := Q15 :: D16
theorem L15 (op : Int) (name : ByteArray) : r2_find_L1 (S15 op name) = some (resF (findR op name D15 15)) := by
  rw [goS_eq _ (st15 op name), r2_find_L1.eq, br15]; exact glue (by decide) (L16 op name)
def D14 : List T_r2_row := Q14 :: D15
theorem L14 (op : Int) (name : ByteArray) : r2_find_L1 (S14 op name) = some (resF (findR op name D14 14)) := by
  rw [goS_eq _ (st14 op name), r2_find_L1.eq, br14]; exact glue (by decide) (L15 op name)
def D13 : List T_r2_row := Q13 :: D14
theorem L13 (op : Int) (name : ByteArray) : r2_find_L1 (S13 op name) = some (resF (findR op name D13 13)) := by
  rw [goS_eq _ (st13 op name), r2_find_L1.eq, br13]; exact glue (by decide) (L14 op name)
def D12 : List T_r2_row := Q12 :: D13
theorem L12 (op : Int) (name : ByteArray) : r2_find_L1 (S12 op name) = some (resF (findR op name D12 12)) := by
  rw [goS_eq _ (st12 op name), r2_find_L1.eq, br12]; exact glue (by decide) (L13 op name)
def D11 : List T_r2_row := Q11 :: D12
theorem L11 (op : Int) (name : ByteArray) : r2_find_L1 (S11 op name) = some (resF (findR op name D11 11)) := by
  rw [goS_eq _ (st11 op name), r2_find_L1.eq, br11]; exact glue (by decide) (L12 op name)
def D10 : List T_r2_row := Q10 :: D11
theorem L10 (op : Int) (name : ByteArray) : r2_find_L1 (S10 op name) = some (resF (findR op name D10 10)) := by
  rw [goS_eq _ (st10 op name), r2_find_L1.eq, br10]; exact glue (by decide) (L11 op name)
def D9 : List T_r2_row := Q9 :: D10
theorem L9 (op : Int) (name : ByteArray) : r2_find_L1 (S9 op name) = some (resF (findR op name D9 9)) := by
  rw [goS_eq _ (st9 op name), r2_find_L1.eq, br9]; exact glue (by decide) (L10 op name)
def D8 : List T_r2_row := Q8 :: D9
theorem L8 (op : Int) (name : ByteArray) : r2_find_L1 (S8 op name) = some (resF (findR op name D8 8)) := by
  rw [goS_eq _ (st8 op name), r2_find_L1.eq, br8]; exact glue (by decide) (L9 op name)
def D7 : List T_r2_row := Q7 :: D8
theorem L7 (op : Int) (name : ByteArray) : r2_find_L1 (S7 op name) = some (resF (findR op name D7 7)) := by
  rw [goS_eq _ (st7 op name), r2_find_L1.eq, br7]; exact glue (by decide) (L8 op name)
def D6 : List T_r2_row := Q6 :: D7
theorem L6 (op : Int) (name : ByteArray) : r2_find_L1 (S6 op name) = some (resF (findR op name D6 6)) := by
  rw [goS_eq _ (st6 op name), r2_find_L1.eq, br6]; exact glue (by decide) (L7 op name)
def D5 : List T_r2_row := Q5 :: D6
theorem L5 (op : Int) (name : ByteArray) : r2_find_L1 (S5 op name) = some (resF (findR op name D5 5)) := by
  rw [goS_eq _ (st5 op name), r2_find_L1.eq, br5]; exact glue (by decide) (L6 op name)
def D4 : List T_r2_row := Q4 :: D5
theorem L4 (op : Int) (name : ByteArray) : r2_find_L1 (S4 op name) = some (resF (findR op name D4 4)) := by
  rw [goS_eq _ (st4 op name), r2_find_L1.eq, br4]; exact glue (by decide) (L5 op name)
def D3 : List T_r2_row := Q3 :: D4
theorem L3 (op : Int) (name : ByteArray) : r2_find_L1 (S3 op name) = some (resF (findR op name D3 3)) := by
  rw [goS_eq _ (st3 op name), r2_find_L1.eq, br3]; exact glue (by decide) (L4 op name)
def D2 : List T_r2_row := Q2 :: D3
theorem L2 (op : Int) (name : ByteArray) : r2_find_L1 (S2 op name) = some (resF (findR op name D2 2)) := by
  rw [goS_eq _ (st2 op name), r2_find_L1.eq, br2]; exact glue (by decide) (L3 op name)
def D1 : List T_r2_row := Q1 :: D2
theorem L1 (op : Int) (name : ByteArray) : r2_find_L1 (S1 op name) = some (resF (findR op name D1 1)) := by
  rw [goS_eq _ (st1 op name), r2_find_L1.eq, br1]; exact glue (by decide) (L2 op name)
def D0 : List T_r2_row := Q0 :: D1
theorem L0 (op : Int) (name : ByteArray) : r2_find_L1 (S0 op name) = some (resF (findR op name D0 0)) := by
  rw [goS_eq _ (st0 op name), r2_find_L1.eq, br0]; exact glue (by decide) (L1 op name)
theorem find_law (op : Int) (name : ByteArray) : r2_find op name = some (match findR op name D0 0 with | some r => (r.1, r.2, true) | none => (zR, 0, false)) := by
  rw [r2_find.eq]; unfold r2_find_b
  have h := L0 op name
  unfold S0 at h
  rw [h, Option.bind_some]
  cases findR op name D0 0 <;> rfl
end Go.Ab
set_option maxRecDepth 100000
namespace Go.Ab
def tabL : List T_isa_row := (isa_table.s 5).getD []
theorem tab_eq : isa_table = some tabL := cv_some isa_table.cv 5 (by kernel_rfl)
theorem tab_len : tabL.length = 66 := by kernel_rfl
theorem names_eq : D0.map (fun r => r.Name) = tabL.map (fun r => r.name) := by kernel_rfl
def findI (raw : ByteArray) : List T_isa_row → Int → Option Int
  | [], _ => none
  | r :: l, n => bif eqS r.name raw then some n else findI raw l (n + 1)
theorem findI_cons (raw : ByteArray) (r : T_isa_row) (l : List T_isa_row) (n : Int) : findI raw (r :: l) n = bif eqS r.name raw then some n else findI raw l (n + 1) := rfl
theorem findI_ge (raw : ByteArray) : ∀ (l : List T_isa_row) (n k : Int), findI raw l n = some k → n ≤ k
  | [], n, k, h => nomatch h
  | r :: l, n, k, h => by
    unfold findI at h
    cases e : eqS r.name raw with
    | true => rw [e] at h; cases h; omega
    | false => rw [e] at h; have := findI_ge raw l (n + 1) k h; omega
theorem find_I (raw : ByteArray) : ∀ (l : List T_r2_row) (l' : List T_isa_row) (n : Int), 0 ≤ n → l.map (fun r => r.Name) = l'.map (fun r => r.name) → (findR (-1) raw l n).map Prod.snd = findI raw l' n
  | [], [], n, _, _ => rfl
  | [], _ :: _, _, _, h => by simp at h
  | _ :: _, [], _, _, h => by simp at h
  | r :: l, r' :: l', n, hn, h => by
    simp only [List.map_cons, List.cons.injEq] at h
    unfold findR findI
    rw [show (n == (-1 : Int)) = false from beq_eq_false_iff_ne.2 (by omega), cond_false, h.1]
    cases eqS r'.name raw with
    | true => rfl
    | false => exact find_I raw l l' (n + 1) (by omega) h.2
theorem isaFind_law (raw : ByteArray) : isa_Find raw = some (match findI raw tabL 0 with | some k => (k, true) | none => (0, false)) := by
  rw [isa_Find.eq]; unfold isa_Find_b
  rw [tab_eq, Option.bind_some, slices_IndexFunc.eq]; unfold slices_IndexFunc_b
  obtain ⟨r, e, h⟩ := loop_ind (slices_IndexFunc_L1.eq) (fun a => ∃ (j : Nat), j ≤ 66 ∧ a = ⟨tabL, 66, j, raw⟩) (fun a r => r = match findI raw (tabL.drop a.x8.toNat) a.x8 with | some k => .inl ⟨k, raw⟩ | none => .inr raw) (fun a => 66 - a.x8.toNat) (by
    rintro a ⟨j, hj, rfl⟩
    unfold slices_IndexFunc_L1_b
    simp only
    by_cases h : j < 66
    · have hl : j < tabL.length := by rw [tab_len]; exact h
      rw [show decide ((j : Int) < 66) = true from decide_eq_true (by omega), cond_true, show decide (0 ≤ (j : Int)) = true from decide_eq_true (by omega), cond_true, Int.toNat_natCast, List.getElem?_eq_getElem hl, Option.bind_some, isa_Find_1.eq]
      unfold isa_Find_1_b
      rw [Option.bind_some, List.drop_eq_getElem_cons hl, findI_cons]
      cases he : eqS tabL[j].name raw with
      | true => exact .inr ⟨_, rfl, rfl⟩
      | false => exact .inl ⟨⟨tabL, 66, (j + 1 : Nat), raw⟩, by rw [w64_in (n := (j : Int) + 1) (by omega) (by omega)]; rfl, ⟨j + 1, by omega, rfl⟩, by simp only [Int.toNat_natCast]; omega, fun r hr => by simp only [Int.toNat_natCast] at hr; exact hr⟩
    · rw [show decide ((j : Int) < 66) = false from decide_eq_false (by omega), Int.toNat_natCast, List.drop_of_length_le (by rw [tab_len]; omega)]
      exact .inr ⟨_, rfl, rfl⟩) ⟨tabL, 66, 0, raw⟩ ⟨0, by omega, rfl⟩
  have e' : slices_IndexFunc_L1 ⟨tabL, ((tabL.length : Nat) : Int), 0, raw⟩ = some r := by rw [tab_len]; exact e
  rw [e', Option.bind_some]
  have h' : r = match findI raw tabL 0 with | some k => .inl ⟨k, raw⟩ | none => .inr raw := h
  have hg := findI_ge raw tabL 0
  revert h' hg
  generalize findI raw tabL 0 = o
  intro h' hg
  cases o with
  | none => subst h'; rfl
  | some k =>
    subst h'
    have := hg k rfl
    simp only [Sum.elim_inl, Option.bind_some]
    rw [if_neg (by omega), show decide (k ≥ 0) = true from decide_eq_true this]
theorem finds_alike (raw : ByteArray) : ∃ f, isa_Find raw = some f ∧ r2_Find raw = some f := by
  have h := find_I raw D0 tabL 0 (by omega) names_eq
  rw [isaFind_law, r2_Find.eq]; unfold r2_Find_b
  rw [find_law, ← h]
  cases findR (-1) raw D0 0 with
  | none => exact ⟨_, rfl, rfl⟩
  | some r => exact ⟨_, rfl, rfl⟩
def chkK (k : Nat) : Bool := match isa_Name.s 2000 k, isa_Kinds.s 2000 k, isa_Size.s 2000 k, D0[k]? with
  | some a, some b, some c, some r => eqS a r.Name && eqS b r.Kinds && (c == w64 (Int.tdiv ((r.Bits.size : Nat) : Int) 2)) && (match findI a tabL 0 with | some n => n == (k : Int) | none => false)
  | _, _, _, _ => false
theorem chk_0 : ((List.range' 0 6).all chkK) = true := by kernel_rfl
theorem chk_1 : ((List.range' 6 6).all chkK) = true := by kernel_rfl
theorem chk_2 : ((List.range' 12 6).all chkK) = true := by kernel_rfl
theorem chk_3 : ((List.range' 18 6).all chkK) = true := by kernel_rfl
theorem chk_4 : ((List.range' 24 6).all chkK) = true := by kernel_rfl
theorem chk_5 : ((List.range' 30 6).all chkK) = true := by kernel_rfl
theorem chk_6 : ((List.range' 36 6).all chkK) = true := by kernel_rfl
theorem chk_7 : ((List.range' 42 6).all chkK) = true := by kernel_rfl
theorem chk_8 : ((List.range' 48 6).all chkK) = true := by kernel_rfl
theorem chk_9 : ((List.range' 54 6).all chkK) = true := by kernel_rfl
theorem chk_10 : ((List.range' 60 6).all chkK) = true := by kernel_rfl
theorem chk_of {s n k : Nat} (h : ((List.range' s n).all chkK) = true) (h1 : s ≤ k) (h2 : k < s + n) : chkK k = true := List.all_eq_true.1 h k (List.mem_range'_1.2 ⟨h1, h2⟩)
theorem chk_all {k : Nat} (h : k < 66) : chkK k = true := by
  rcases Nat.lt_or_ge k 6 with h' | h'
  · exact chk_of chk_0 (by omega) (by omega)
  rcases Nat.lt_or_ge k 12 with h' | h'
  · exact chk_of chk_1 (by omega) (by omega)
  rcases Nat.lt_or_ge k 18 with h' | h'
  · exact chk_of chk_2 (by omega) (by omega)
  rcases Nat.lt_or_ge k 24 with h' | h'
  · exact chk_of chk_3 (by omega) (by omega)
  rcases Nat.lt_or_ge k 30 with h' | h'
  · exact chk_of chk_4 (by omega) (by omega)
  rcases Nat.lt_or_ge k 36 with h' | h'
  · exact chk_of chk_5 (by omega) (by omega)
  rcases Nat.lt_or_ge k 42 with h' | h'
  · exact chk_of chk_6 (by omega) (by omega)
  rcases Nat.lt_or_ge k 48 with h' | h'
  · exact chk_of chk_7 (by omega) (by omega)
  rcases Nat.lt_or_ge k 54 with h' | h'
  · exact chk_of chk_8 (by omega) (by omega)
  rcases Nat.lt_or_ge k 60 with h' | h'
  · exact chk_of chk_9 (by omega) (by omega)
  exact chk_of chk_10 (by omega) (by omega)
theorem no_blank : (D0.all fun r => !eqS r.Name h_20) = true := by kernel_rfl
theorem D0_len : D0.length = 66 := by kernel_rfl
theorem findR_none (op : Int) : ∀ (l : List T_r2_row) (n : Int), (l.all fun r => !eqS r.Name h_20) = true → (op < n ∨ n + l.length ≤ op) → findR op h_20 l n = none
  | [], _, _, _ => rfl
  | r :: l, n, h, ho => by
    rw [List.all_cons, Bool.and_eq_true] at h
    unfold findR
    rw [show (n == op) = false from beq_eq_false_iff_ne.2 (by simp only [List.length_cons] at ho; omega), cond_false, show eqS r.Name h_20 = false by simpa using h.1, cond_false]
    exact findR_none op l (n + 1) h.2 (by simp only [List.length_cons] at ho; omega)
theorem findR_at (op : Int) : ∀ (l : List T_r2_row) (n : Int) (i : Nat) (r : T_r2_row), (l.all fun r => !eqS r.Name h_20) = true → l[i]? = some r → op = n + i → findR op h_20 l n = some (r, op)
  | [], _, _, _, _, h, _ => nomatch h
  | q :: l, n, i, r, h, hr, ho => by
    rw [List.all_cons, Bool.and_eq_true] at h
    unfold findR
    cases i with
    | zero =>
      simp only [List.getElem?_cons_zero, Option.some.injEq] at hr
      subst hr
      have : n = op := by omega
      rw [show (n == op) = true from beq_iff_eq.2 this, cond_true, this]
    | succ i =>
      rw [show (n == op) = false from beq_eq_false_iff_ne.2 (by omega), cond_false, show eqS q.Name h_20 = false by simpa using h.1, cond_false]
      exact findR_at op l (n + 1) i r h.2 (by simpa using hr) (by omega)
theorem name_out {k : Int} (h : k < 0 ∨ 66 ≤ k) : isa_Name k = some s_ ∧ isa_Kinds k = some s_ := by
  constructor
  · rw [isa_Name.eq]; unfold isa_Name_b
    rw [isa_of.eq]; unfold isa_of_b
    rw [tab_eq, Option.bind_some, tab_len]
    by_cases h0 : k ≥ 0
    · rw [show decide (k ≥ 0) = true from decide_eq_true h0, cond_true, show decide (k < ((66 : Nat) : Int)) = false from decide_eq_false (by omega)]; rfl
    · rw [show decide (k ≥ 0) = false from decide_eq_false h0]; rfl
  · rw [isa_Kinds.eq]; unfold isa_Kinds_b
    rw [isa_of_4.eq]; unfold isa_of_4_b
    rw [tab_eq, Option.bind_some, tab_len]
    by_cases h0 : k ≥ 0
    · rw [show decide (k ≥ 0) = true from decide_eq_true h0, cond_true, show decide (k < ((66 : Nat) : Int)) = false from decide_eq_false (by omega)]; rfl
    · rw [show decide (k ≥ 0) = false from decide_eq_false h0]; rfl
theorem ref_of (k : Int) : ∃ r, r2_Name k = some r.Name ∧ r2_Kinds k = some r.Kinds ∧ r2_Size k = some (w64 (Int.tdiv ((r.Bits.size : Nat) : Int) 2)) ∧ (match findR k h_20 D0 0 with | some (q, _) => q | none => zR) = r := by
  rw [r2_Name.eq, r2_Kinds.eq, r2_Size.eq]; unfold r2_Name_b r2_Kinds_b r2_Size_b
  rw [find_law]
  cases findR k h_20 D0 0 with
  | none => exact ⟨zR, rfl, rfl, rfl, rfl⟩
  | some q => exact ⟨q.1, rfl, rfl, rfl, rfl⟩
theorem names_k (k : Int) : ∃ nm kd sz f nm' kd', isa_Name k = some nm ∧ r2_Name k = some nm' ∧ eqS nm nm' = true ∧ isa_Kinds k = some kd ∧ r2_Kinds k = some kd' ∧ eqS kd kd' = true ∧ isa_Size k = some sz ∧ r2_Size k = some sz ∧ isa_Find nm = some f ∧ (eqS nm s_ = true ∨ (f.2 = true ∧ f.1 = k)) := by
  obtain ⟨r, r1, r2, r3, r4⟩ := ref_of k
  by_cases h : 0 ≤ k ∧ k < 66
  · obtain ⟨n, rfl⟩ := Int.eq_ofNat_of_zero_le h.1
    have hc := chk_all (k := n) (by omega)
    unfold chkK at hc
    split at hc
    · rename_i a b c q e1 e2 e3 e4
      have e4' : findR (n : Int) h_20 D0 0 = some (q, (n : Int)) := findR_at _ D0 0 n q no_blank e4 (by omega)
      rw [e4'] at r4
      obtain rfl : q = r := r4
      rw [Bool.and_eq_true, Bool.and_eq_true, Bool.and_eq_true] at hc
      obtain ⟨⟨⟨h1, h2⟩, h3⟩, h4⟩ := hc
      have h3' := beq_iff_eq.1 h3
      rw [← h3'] at r3
      refine ⟨a, b, c, _, _, _, cv_some (isa_Name.cv _) _ e1, r1, h1, cv_some (isa_Kinds.cv _) _ e2, r2, h2, cv_some (isa_Size.cv _) _ e3, r3, isaFind_law a, .inr ?_⟩
      split at h4
      · rename_i x ex; exact ⟨rfl, beq_iff_eq.1 h4⟩
      · cases h4
    · cases hc
  · have ho : k < 0 ∨ 66 ≤ k := by omega
    have hn := findR_none k D0 0 no_blank (by rw [D0_len]; omega)
    rw [hn] at r4
    obtain rfl : zR = r := r4
    obtain ⟨n1, n2⟩ := name_out ho
    have hs : isa_Size k = some 0 := by
      rw [isa_Size.eq]; unfold isa_Size_b
      rw [n1, Option.bind_some, show eqS s_ s_ = true from eqS_iff.2 rfl]; rfl
    exact ⟨s_, s_, 0, _, _, _, n1, r1, eqS_iff.2 rfl, n2, r2, eqS_iff.2 rfl, hs, r3, isaFind_law s_, .inl (eqS_iff.2 rfl)⟩
theorem names_step (raw : ByteArray) (l : List Int) (j : Nat) (k : Int) (hj : j < 2) (hl : l[j]? = some k) : w2_IsaNames_L1 ⟨raw, l, j⟩ = w2_IsaNames_L1 ⟨raw, l, (j + 1 : Nat)⟩ := by
  obtain ⟨nm, kd, sz, f, nm', kd', h1, h2, h3, h4, h5, h6, h7, h8, h9, h10⟩ := names_k k
  rw [w2_IsaNames_L1.eq]; unfold w2_IsaNames_L1_b
  simp only
  rw [show decide ((j : Int) < 2) = true from decide_eq_true (by omega), cond_true, show decide (0 ≤ (j : Int)) = true from decide_eq_true (by omega), cond_true, Int.toNat_natCast, hl, Option.bind_some, h1, Option.bind_some, h2, Option.bind_some, h3]
  rw [show (!true) = false from rfl, cond_false, h4, Option.bind_some, h5, Option.bind_some, h6]
  rw [show (!true) = false from rfl, cond_false, h7, Option.bind_some, h8, Option.bind_some, bne_self_eq_false, cond_false, Option.bind_some, h9, Option.bind_some, Option.bind_some, w64_in (n := (j : Int) + 1) (by omega) (by omega)]
  rcases h10 with h | ⟨h, h'⟩
  · rw [h]; rfl
  · cases eqS nm s_ with
    | true => rfl
    | false =>
      rw [show (!false) = true from rfl, cond_true, h, show (!true) = false from rfl, cond_false, h', bne_self_eq_false, cond_false]; rfl
theorem w2_IsaNames_true (a0 : Int) (a1 : ByteArray) (w0 : IntKind.i64.min ≤ a0 ∧ a0 ≤ IntKind.i64.max) (w1 : a1.size ≤ maxLen) : w2_IsaNames a0 a1 = some true := by
  rw [w2_IsaNames.eq]; unfold w2_IsaNames_b
  rw [w2_known_true, Option.bind_some, show (!true) = false from rfl, cond_false]
  by_cases hs : ((a1.size : Nat) : Int) > 100
  · rw [decide_eq_true hs]; rfl
  rw [decide_eq_false hs, cond_false, w2_within_eq a0 70 (by decide) (by decide), Option.bind_some]
  have s0 := names_step a1 [w64 (a0 % 70 - 2), a0] 0 _ (by omega) rfl
  have s1 := names_step a1 [w64 (a0 % 70 - 2), a0] 1 _ (by omega) rfl
  have s2 : w2_IsaNames_L1 ⟨a1, [w64 (a0 % 70 - 2), a0], ((2 : Nat) : Int)⟩ = some (.inr a1) := by
    rw [w2_IsaNames_L1.eq]; rfl
  have e : w2_IsaNames_L1 ⟨a1, [w64 (a0 % 70 - 2), a0], 0⟩ = some (.inr a1) := s0.trans (s1.trans s2)
  rw [e, Option.bind_some]
  obtain ⟨f, f1, f2⟩ := finds_alike a1
  simp only [Sum.elim_inr]
  rw [f1, Option.bind_some, f2, Option.bind_some, beq_self_eq_true, cond_true, beq_self_eq_true]
end Go.Ab
namespace Go.Proofs.YticofbaajdgabaaDoor
open Go Go.Ab Go.ChangeShapes Go.WideShapes Go.ChangeAt Go.RowKit
open Go.ChangeMaps (open_string shut_string)
theorem repL_one {c : Ctx} {w : World} {a : AV} {v : Value} (h : RepL c w [a] [v]) : Rep c w a v := by cases h; assumption
theorem laidOut : laidOutB Tryd.prog = true := by kernel_rfl
theorem own : ownKnob Tryd.prog.godebug = none := by kernel_rfl
theorem door_met (os : Os) (args : Array Value) : laidMetH Tryd.prog [("unicode.White_Space", Rows.laid_unicode_White_Space), ("strings.asciiSpace", Rows.laid_strings_asciiSpace)] ((World.doorLaid Tryd.prog 33 os).forCall (fun _ _ => 0) ⟨#[], args, []⟩).memory :=
  laidMetH_of_parts3 (fuel := 8) (laidMet_of_run' 8 (by kernel_rfl) (by kernel_rfl)) (by kernel_rfl) (by kernel_rfl)
namespace isaNames
set_option maxRecDepth 100000 in
theorem lifted (os : Os) (started : os.Started) (H : Type) (enc : TypeId × Value → H) :
    ReturnsInHanded {} Tryd.checked os 13 .any (fun w args => (Rows.isaNamesSpec.pre enc Tryd.prog Tryd.f13 [] false w args ∧ laidMetH Tryd.prog [("unicode.White_Space", Rows.laid_unicode_White_Space), ("strings.asciiSpace", Rows.laid_strings_asciiSpace)] w) ∧ sizedMet enc Tryd.prog Tryd.f13 (OpenSpec.ofChange Rows.isaNamesSpec) false w args) (Rows.isaNamesSpec.post enc Tryd.prog Tryd.f13 false true false false) := by
  refine returnsInHanded_of_change_and (C := Tryd.checked) (X := fun w _ => laidMetH Tryd.prog [("unicode.White_Space", Rows.laid_unicode_White_Space), ("strings.asciiSpace", Rows.laid_strings_asciiSpace)] w) (fun _ _ _ hh h => h.of_heap hh) own started (by kernel_rfl) Tryd.func13
    (ChangeSpec.witness_shaped (enc := enc) (C := Tryd.checked) (os := os) (X := fun w _ => laidMetH Tryd.prog [("unicode.White_Space", Rows.laid_unicode_White_Space), ("strings.asciiSpace", Rows.laid_strings_asciiSpace)] w) false (World.doorLaid Tryd.prog 33 os) #[.int .i64 0, .string ByteArray.empty] 8 rfl (World.shaped_of_RefB (by kernel_rfl) (by kernel_rfl)) (by kernel_rfl) (by kernel_rfl) (by kernel_rfl) (door_met os _)) ?_
  intro W base args ds gs before hval0 hW hcnd hsz0 hL _
  have hT := told_of hL
  have hW' := hW
  obtain ⟨p, q, hA0, hV, rfl, hfz, hnd⟩ := hW
  have hA : DataW.TrodAll enc Tryd.prog W 0 (fun _ => true) true Tryd.f13.params.toList args.toList ds p := hA0
  rw [Tryd.params13] at hA
  obtain ⟨v0, vs0, d0, ds0, p0, q0, hargs, rfl, rfl, h0, r0⟩ := trodAll_cons hA
  obtain ⟨v1, vs1, d1, ds1, p1, q1, rfl, rfl, rfl, h1, r1⟩ := trodAll_cons r0
  obtain ⟨rfl, rfl, rfl⟩ := trodAll_nil r1
  obtain rfl : args = #[v0, v1] := by cases args; simp_all
  obtain ⟨rfl, rfl⟩ := trodVars_none hV
  obtain ⟨u0, rfl⟩ := okWide_int Tryd.underlying3 (hval0 0 3 v0 rfl rfl)
  obtain ⟨a0, w0, y0⟩ := rd_fuel (enc := enc) (P := Tryd.prog) (W := W) (fun fuel => (rd_int Tryd.underlying3 fuel)) h0
  replace y0 := repL_one (show RepL (oldCtx W) W [_] [_] from y0)
  obtain ⟨u1, rfl⟩ := okWide_string Tryd.underlying9 (hval0 1 9 v1 rfl rfl)
  obtain ⟨a1, w1, y1⟩ := rd_fuel (enc := enc) (P := Tryd.prog) (W := W) (fun fuel => (rd_string Tryd.underlying9 fuel)) h1
  replace y1 := repL_one (show RepL (oldCtx W) W [_] [_] from y1)
  obtain ⟨k, hk⟩ := w2_IsaNames.run a0 a1 (w2_IsaNames_true a0 a1 w0 w1)
  have lt0 : ∀ x ∈ p0, x.block < W.heap.size := by obtain ⟨m, hm⟩ := h0; exact DataW.trod_lt m _ _ _ hm
  have lt1 : ∀ x ∈ p1, x.block < W.heap.size := by obtain ⟨m, hm⟩ := h1; exact DataW.trod_lt m _ _ _ hm
  refine (calls_of_eval (T := told) (by kernel_rfl) ext_ok hk hT (.cons _ _ _ _ y0 (.cons _ _ _ _ y1 .nil))).mono fun e W' ⟨he, bel⟩ => ?_
  subst he
  exact ⟨_, rfl, _, _, _, [], _, [], hW', trodAll_mk1 (shut_bool Tryd.underlying4 _), (trodAll_cons_mk (Below.trod laidOut (by kernel_rfl) (of_decide_eq_true (by kernel_rfl)) h0 bel lt0) (trodAll_cons_mk (Below.trod laidOut (by kernel_rfl) (of_decide_eq_true (by kernel_rfl)) h1 bel lt1) trodAll_mk0)), rfl, bel.frame _, fun h => by cases h⟩
theorem over : Rows.isaNamesRow.holds Tryd.pinned (OpenSpec.ofChange Rows.isaNamesSpec) :=
  OpenClaim.holds_of_wide 13 Tryd.f13 rfl rfl rfl rfl rfl rfl rfl ⟨rfl, rfl, rfl, rfl, rfl⟩ rfl rfl rfl rfl rfl (by kernel_rfl) Tryd.func13 (by kernel_rfl)
    (of_decide_eq_true (by kernel_rfl)) (by unfold Func.isWrapper; first | (rw [if_pos (by decide +kernel)]; kernel_rfl) | (rw [if_neg (by decide +kernel)]; exact ⟨rfl, rfl⟩))
    (fun os started H enc _ => lifted os started H enc)
theorem proved : Rows.IsaNamesSaid := over
theorem card : Rows.IsaNamesCardSaid :=
  Claim7.holds_tied_plain_at .later [] [.listed, .data] true (true, "9e0941a3bed8b5483a3837efef2f762ae578b94fd63546c8948659d19f0475ca") false
    proved (fun _ h => by cases h) (by kernel_rfl) (fun _ h => by cases h) isaNames_row_tie rfl ⟨rfl, rfl⟩ (by kernel_rfl) rfl
    (fun f fn hf hfn => by
      obtain rfl : f = 13 := Option.some.inj ((show Tryd.prog.funcNamed Tryd.f13.name = some 13 by kernel_rfl).symm.trans hf) |>.symm
      obtain rfl : fn = Tryd.f13 := (Option.some.inj (Tryd.func13.symm.trans hfn)).symm
      exact ⟨by kernel_rfl, fun j t ht => by
        rw [Tryd.params13] at ht
        have hm : t ∈ [3, 9] := by simpa using Array.mem_of_getElem? ht
        have hall : ([3, 9].all fun u => !Tryd.prog.wantsStandIn u) = true := by kernel_rfl
        exact (show Tryd.prog.wantsStandIn t = false by simpa using List.all_eq_true.1 hall t hm)⟩)
    (by kernel_rfl)
end isaNames
/-- The row, under a short name, for the claim. -/
theorem isaNames_holds : Rows.IsaNamesCardSaid := isaNames.card
end Go.Proofs.YticofbaajdgabaaDoor
