/- ImmBytes: part 1 of the proof that, whatever the input, the law returns true and the input reads as it did; its conditions are those of the given row. -/
import Derived.Test.YtcgjdpeodjodcaaZImmBytes0
import Derived.LoopN
import Derived.Below
import Derived.Lib.ItoaNum
import Derived.KernelRfl
import Derived.Test.YtcgjdpeodjodcaaProg
import Derived.Test.YtcgjdpeodjodcaaRows
import Derived.Test.YtcgjdpeodjodcaaFl
import Derived.Lib.SmallJoins
import Derived.Tactics
import Derived.WalkKit
import Derived.WalkLawsBesides
import Derived.RowKit3
import Derived.Laws.BitsLemmas
import Derived.ProofKit
import Derived.OpenShut
import Derived.ShutString
import Derived.ChangeOld
import Derived.SizedLaws
set_option linter.unusedVariables false
set_option linter.unusedSimpArgs false
namespace Go.Ab
open M

section
variable {T : Told} {P : Program} {B : Base} {c : Ctx} {S S' : St} {a : Act} {w : World}

theorem reach_nodup : ∀ (n : Nat) (H : Heap) (p acc : List Nat), acc.Nodup → (reach n H p acc).Nodup
  | 0, _, _, acc, h => h
  | _ + 1, _, [], acc, h => h
  | n + 1, H, i :: p, acc, h => by
    simp only [reach]
    split
    · exact reach_nodup n H p acc h
    · rename_i hc
      split
      · refine reach_nodup n H _ _ ?_
        rw [List.nodup_append]
        refine ⟨h, by simp, fun x hx y hy e => ?_⟩
        simp only [List.mem_singleton] at hy
        subst hy; subst e
        exact hc (by simpa using hx)
      · exact reach_nodup n H p acc h
def pk (l : List (Option Nat)) (k : Nat) : Option Nat := (l[k]?).bind fun o => o
theorem idxOf_get : ∀ {l : List (Option Nat)} {i k j : Nat}, idxOf l i k = some j → k ≤ j ∧ l[j - k]? = some (some i)
  | [], _, _, _, h => by simp [idxOf] at h
  | x :: l, i, k, j, h => by
    simp only [idxOf] at h
    split at h
    · rename_i e; cases h; subst e; exact ⟨Nat.le_refl _, by simp⟩
    · obtain ⟨h1, h2⟩ := idxOf_get h
      refine ⟨by omega, ?_⟩
      rw [show j - k = (j - (k + 1)) + 1 from by omega]
      simpa using h2
theorem pickH_get (f : Ob → Ob) (H : Heap) : ∀ (l : List (Option Nat)) (k j : Nat), get j (pickH f H k l) = if k ≤ j then (pk l (j - k)).bind fun i => (get i H).map f else none
  | [], k, j => by simp [pickH, get, pk]
  | i :: l, k, j => by
    have ih := pickH_get f H l (k + 1) j
    have step : (if k + 1 ≤ j then (pk l (j - (k + 1))).bind fun i => (get i H).map f else none) = if k = j then none else if k ≤ j then (pk (i :: l) (j - k)).bind fun i => (get i H).map f else none := by
      by_cases e : k = j
      · subst e; rw [if_neg (by omega), if_pos rfl]
      · by_cases e2 : k ≤ j
        · rw [if_pos (by omega), if_neg e, if_pos e2, show j - k = (j - (k + 1)) + 1 from by omega]; simp [pk]
        · rw [if_neg (by omega), if_neg e, if_neg e2]
    simp only [pickH]
    split
    · rename_i o ho
      simp only [get, ih, step]
      by_cases e : j = k
      · subst e
        obtain ⟨i', rfl, ho2⟩ := Option.bind_eq_some_iff.1 ho
        simp [pk, ho2]
      · rw [if_neg e, if_neg (Ne.symm e)]
    · rename_i ho
      rw [ih, step]
      by_cases e : k = j
      · subst e
        cases i with
        | none => simp [pk]
        | some i => simp only [Option.bind_some] at ho; simp [pk, ho]
      · rw [if_neg e]

theorem freezeO_arr (full : Bool) (fz : Bool) (s : Nat) (rows : List (List AV)) : freezeO full (.arr fz s rows) = .arr (fz || !full) s rows := rfl
/-- arrays are frozen, all of a list -/
theorem freeze_all (full : Bool) : ∀ (l : List Nat) {c : Ctx} {H : Heap}, Inv B c H w → ∃ c' H', Inv B c' H' w ∧ Later c w c' w ∧ c'.ι = c.ι ∧ c'.K = c.K ∧ ∀ id, get id H' = if id ∈ l then (get id H).map (freezeO full) else get id H
  | [], c, H, I => ⟨c, H, I, .refl _ _, rfl, rfl, fun id => by simp⟩
  | i :: l, c, H, I => by
    obtain ⟨c1, H1, I1, L1, e1, k1, g1⟩ := freeze_all full l I
    cases full with
    | true =>
      refine ⟨c1, H1, I1, L1, e1, k1, fun id => ?_⟩
      have hid : ∀ o : Option Ob, o.map (freezeO true) = o := fun o => by
        cases o with
        | none => rfl
        | some o => cases o <;> simp [freezeO]
      rw [g1 id]
      simp only [hid]
      split <;> split <;> rfl
    | false =>
      by_cases hi : i ∈ l
      · refine ⟨c1, H1, I1, L1, e1, k1, fun id => ?_⟩
        rw [g1 id]
        by_cases h : id ∈ l
        · rw [if_pos h, if_pos (by simp [h])]
        · rw [if_neg h, if_neg]
          simp only [List.mem_cons, not_or]
          exact ⟨fun e => h (e ▸ hi), h⟩
      · cases hg : get i H with
        | none =>
          refine ⟨c1, H1, I1, L1, e1, k1, fun id => ?_⟩
          rw [g1 id]
          by_cases h : id = i
          · subst h; rw [if_neg hi, if_pos (by simp), hg]; rfl
          · simp [h]
        | some ob =>
          cases ob with
          | arr fz s rows =>
            have hg1 : get i H1 = some (.arr fz s rows) := by rw [g1 i, if_neg hi, hg]
            obtain ⟨c2, I2, L2, e2, k2⟩ := I1.freeze i fz s rows hg1
            refine ⟨c2, _, I2, L1.trans L2, e2.trans e1, k2.trans k1, fun id => ?_⟩
            rw [get_ins]
            by_cases h : id = i
            · subst h; rw [if_pos rfl, if_pos (by simp), hg]; simp [freezeO]
            · rw [if_neg h, g1 id]; simp [h]
          | box ks cs =>
            refine ⟨c1, H1, I1, L1, e1, k1, fun id => ?_⟩
            rw [g1 id]
            by_cases h : id = i
            · subst h; rw [if_neg hi, if_pos (by simp), hg]; rfl
            · simp [h]
          | iter s p =>
            refine ⟨c1, H1, I1, L1, e1, k1, fun id => ?_⟩
            rw [g1 id]
            by_cases h : id = i
            · subst h; rw [if_neg hi, if_pos (by simp), hg]; rfl
            · simp [h]
def pickCtx (c : Ctx) (l : List (Option Nat)) : Ctx := { ι := fun k => (pk l k).bind c.ι, Z := c.Z, K := fun k => k < l.length }
theorem pick_ren {l : List (Option Nat)} : Ren (idxOf l) c w (pickCtx c l) w where
  k id j _ h := by
    obtain ⟨_, h2⟩ := idxOf_get h
    exact (List.getElem?_eq_some_iff.1 h2).1
  ι id j _ h sh hs := by
    obtain ⟨_, h2⟩ := idxOf_get h
    simp only [Nat.sub_zero] at h2
    simp only [pickCtx, pk, h2, Option.bind_some] at hs
    exact hs
  z _ _ h := h
  cell _ _ _ := rfl
theorem pick_inv {H : Heap} (I : Inv B c H w) {l : List (Option Nat)} (hn : ∀ i j x, pk l i = some x → pk l j = some x → i = j) (hm : ∀ id, id < B.m → id < l.length ∧ ∀ x, pk l id = some x → x = id) {H' : Heap} (hH : ∀ k, get k H' = (pk l k).bind fun i => (get i H).map (renO (idxOf l))) : Inv B (pickCtx c l) H' w where
  dead k h := by
    rw [hH] at h
    simp only [pickCtx]
    cases e : pk l k with
    | none => rfl
    | some i =>
      rw [e] at h
      simp only [Option.bind_some, Option.map_eq_none_iff] at h ⊢
      exact I.dead i h
  obj k ob h := by
    rw [hH, Option.bind_eq_some_iff] at h
    obtain ⟨i, h1, h2⟩ := h
    obtain ⟨o, h3, rfl⟩ := Option.map_eq_some_iff.1 h2
    obtain ⟨sh, e1, e2⟩ := I.obj i o h3
    exact ⟨sh, by simp only [pickCtx, h1, Option.bind_some, e1], e2.ren pick_ren fun _ _ => rfl⟩
  known id sh h := by
    simp only [pickCtx, Option.bind_eq_some_iff] at h
    obtain ⟨p, h1, _⟩ := h
    obtain ⟨_, h1, _⟩ := Option.bind_eq_some_iff.1 h1
    exact (List.getElem?_eq_some_iff.1 h1).1
  inj i j si sj g hi hj hsi hsj := by
    simp only [pickCtx, Option.bind_eq_some_iff] at hi hj
    obtain ⟨x, h1, h2⟩ := hi
    obtain ⟨y, h3, h4⟩ := hj
    have := I.inj x y si sj g h2 h4 hsi hsj
    subst this
    exact hn i j x h1 h3
  zlt := I.zlt
  zob b o hz id sh h hb := by
    simp only [pickCtx, Option.bind_eq_some_iff] at h
    obtain ⟨x, h1, h2⟩ := h
    obtain ⟨s, rows, h3, h4⟩ := I.zob b o hz x sh h2 hb
    refine ⟨s, rows, ?_, h4⟩
    rw [hH, h1, Option.bind_some, h3]; rfl
  bnd id sh g h hg := by
    simp only [pickCtx, Option.bind_eq_some_iff] at h
    obtain ⟨x, h1, h2⟩ := h
    exact I.bnd x sh g h2 hg
  size := I.size
  os := I.os
  tape := I.tape
  output := I.output
  old := I.old
  zold := I.zold
  znew := I.znew
  pass id h := ⟨(hm id h).1, fun sh hs => by
    simp only [pickCtx, Option.bind_eq_some_iff] at hs
    obtain ⟨x, h1, h2⟩ := hs
    have := (hm id h).2 x h1
    subst this
    exact (I.pass x h).2 sh h2⟩
theorem reach_pre : ∀ (n : Nat) (H : Heap) (p acc : List Nat), ∃ t, reach n H p acc = acc ++ t
  | 0, _, _, acc => ⟨[], by simp [reach]⟩
  | _ + 1, _, [], acc => ⟨[], by simp [reach]⟩
  | n + 1, H, i :: p, acc => by
    simp only [reach]
    split
    · exact reach_pre n H p acc
    · split
      · rename_i o _
        obtain ⟨t, h⟩ := reach_pre n H (p ++ idsO o) (acc ++ [i])
        exact ⟨[i] ++ t, by rw [h, List.append_assoc]⟩
      · exact reach_pre n H p acc
theorem canon_get {m : Nat} {H : Heap} {p : List Nat} : ∀ id, id < m → id < (canonL m H p).length ∧ pk (canonL m H p) id = if isArr H id then none else some id := by
  intro id h
  refine ⟨by simp only [canonL, List.length_append, List.length_map, List.length_range]; omega, ?_⟩
  simp only [canonL, pk]
  rw [List.getElem?_append_left (by simpa using h), List.getElem?_map, List.getElem?_range h]
  rfl
theorem canon_own {m : Nat} {H : Heap} {p : List Nat} : ∀ id, id < m → id < (canonL m H p).length ∧ ∀ x, pk (canonL m H p) id = some x → x = id := by
  intro id h
  obtain ⟨h1, h2⟩ := canon_get (H := H) (p := p) id h
  refine ⟨h1, fun x hx => ?_⟩
  rw [h2] at hx
  split at hx <;> cases hx
  rfl
theorem canon_nodup {m : Nat} {H : Heap} {p : List Nat} : ∀ i j x, pk (canonL m H p) i = some x → pk (canonL m H p) j = some x → i = j := by
  have hnd : (reach 64 H p ((List.range m).filter fun i => !isArr H i)).Nodup := reach_nodup _ _ _ _ (List.nodup_range.filter _)
  obtain ⟨t, ht⟩ := reach_pre 64 H p ((List.range m).filter fun i => !isArr H i)
  rw [ht] at hnd
  obtain ⟨_, hnd2, hnd3⟩ := List.nodup_append.1 hnd
  have form : ∀ i x, pk (canonL m H p) i = some x → (i < m ∧ x = i ∧ isArr H i = false) ∨ (m ≤ i ∧ t[i - m]? = some x) := by
    intro i x hx
    by_cases h : i < m
    · have := (canon_get (H := H) (p := p) i h).2
      rw [this] at hx
      split at hx
      · cases hx
      · rename_i hf; cases hx; exact .inl ⟨h, rfl, by simpa using hf⟩
    · right
      refine ⟨by omega, ?_⟩
      simp only [canonL, pk] at hx
      rw [List.getElem?_append_right (by simp; omega), ht, List.drop_left] at hx
      simp only [List.length_map, List.length_range, List.getElem?_map] at hx
      cases e : t[i - m]? with
      | none => rw [e] at hx; cases hx
      | some y => rw [e] at hx; simpa using hx
  intro i j x hi hj
  have cross : ∀ i j, (i < m ∧ x = i ∧ isArr H i = false) → (m ≤ j ∧ t[j - m]? = some x) → False := by
    rintro i j ⟨h1, rfl, h2⟩ ⟨_, h3⟩
    exact hnd3 x (by simp [List.mem_filter, h1, h2]) x (List.mem_of_getElem? h3) rfl
  rcases form i x hi with h | h <;> rcases form j x hj with h' | h'
  · omega
  · exact (cross i j h h').elim
  · exact (cross j i h' h).elim
  · have := (List.getElem?_inj (List.getElem?_eq_some_iff.1 h.2).1 hnd2).1 (h.2.trans h'.2.symm)
    omega
theorem keepE_get {ks : List Nat} : ∀ {l : List (Nat × AV)} {t : Nat} {v : AV}, get t (keepE ks l) = some v → ks.contains t = true → ∃ v', get t l = some v' ∧ v' = v
  | [], t, v, h, _ => by simp [keepE, get] at h
  | (x, u) :: l, t, v, h, hc => by
    simp only [keepE] at h
    simp only [get]
    split at h
    · simp only [get] at h
      split at h
      · rename_i e; rw [if_pos e]; exact ⟨u, rfl, by cases h; rfl⟩
      · rename_i e; rw [if_neg e]; exact keepE_get h hc
    · rename_i hx
      have : t ≠ x := fun e => hx (e ▸ hc)
      rw [if_neg this]; exact keepE_get h hc
theorem keepE_in {ks : List Nat} : ∀ {l : List (Nat × AV)} {t : Nat} {v : AV}, get t (keepE ks l) = some v → ks.contains t = true
  | [], t, v, h => by simp [keepE, get] at h
  | (x, u) :: l, t, v, h => by
    simp only [keepE] at h
    split at h
    · rename_i hx
      simp only [get] at h
      split at h
      · rename_i e; rw [e]; exact hx
      · exact keepE_in h
    · exact keepE_in h
theorem mapE_get (f : AV → AV) : ∀ (l : List (Nat × AV)) (t : Nat), get t (l.map fun (x, v) => (x, f v)) = (get t l).map f
  | [], t => rfl
  | (x, u) :: l, t => by
    simp only [List.map_cons, get]
    split
    · rfl
    · exact mapE_get f l t

/-- a nil slice that is owned -/
theorem SRx.nil (h : SRx B S a w) (fz : Bool) (z : Nat) : ∃ c c', SR B c S a w ∧ (∀ j, c.K j → j < S.nx) ∧ Inv B c' (ins S.nx (.arr fz z []) S.heap) w ∧ Later c w c' w ∧ (∀ j, c'.K j → j < S.nx + 1) ∧ Rep c' w (.arr S.nx) (.slice none 0 0) := by
  obtain ⟨c, h, hK⟩ := h
  obtain ⟨I, L⟩ := h.inv.renew none none (fun g hg => by cases hg) S.nx (fun hk => by have := hK _ hk; omega) (.arr (.slice none 0 0) z) (fun _ => False) (.arr fz z []) (Nat.le_refl _) rfl rfl rfl
    (fun g hg => by simp [Sh.block] at hg) (fun _ _ _ => rfl) (fun _ _ _ => rfl) (fun L => ⟨rfl, by simp, .inl ⟨trivial, rfl, rfl⟩⟩) (fun g o hg => by simp [Sh.block] at hg)
  refine ⟨c, _, h, hK, I, L, fun j hj => ?_, .arr _ _ rfl (.inr rfl) fun cv s hs => by simp [Ctx.swap] at hs; exact hs.1⟩
  rcases hj with hj | rfl
  · have := hK j hj; omega
  · omega
theorem snapLeaf_rest {v v' : AV} {S S' : St} (hr : (snapLeaf v).run S = some (v', S')) : S'.env = S.env ∧ S'.nx = S.nx ∧ S'.n = S.n := by
  cases v with
  | arr id =>
    simp only [snapLeaf, getO_run] at hr
    obtain ⟨ob, hob, hr⟩ := hr
    cases ob with
    | arr fz s rows =>
      cases fz with
      | true => simp only [if_true, ret_run] at hr; obtain ⟨_, rfl⟩ := hr; exact ⟨rfl, rfl, rfl⟩
      | false => simp only [Bool.false_eq_true, if_false, run, Option.some.injEq, Prod.mk.injEq] at hr; obtain ⟨_, rfl⟩ := hr; exact ⟨rfl, rfl, rfl⟩
    | box => exact (fail_run.1 hr).elim
    | iter => exact (fail_run.1 hr).elim
  | _ => simp only [snapLeaf, ret_run] at hr; obtain ⟨_, rfl⟩ := hr; exact ⟨rfl, rfl, rfl⟩
theorem snapL_rest : ∀ {l l' : List AV} {S S' : St}, (snapL l).run S = some (l', S') → S'.env = S.env ∧ S'.nx = S.nx ∧ S'.n = S.n
  | [], l', S, S', hr => by simp only [snapL, ret_run] at hr; obtain ⟨_, rfl⟩ := hr; exact ⟨rfl, rfl, rfl⟩
  | v :: l, l', S, S', hr => by
    simp only [snapL, bind_run, ret_run] at hr
    obtain ⟨v', S1, h1, l2, S2, h2, _, rfl⟩ := hr
    have e1 := snapLeaf_rest h1
    have e2 := snapL_rest h2
    exact ⟨e2.1.trans e1.1, e2.2.1.trans e1.2.1, e2.2.2.trans e1.2.2⟩
theorem snap_rest {v v' : AV} {S S' : St} (hr : (snap v).run S = some (v', S')) : S'.env = S.env ∧ S'.nx = S.nx ∧ S'.n = S.n := by
  cases v with
  | agg cs =>
    simp only [snap, bind_run, ret_run] at hr
    obtain ⟨cs', S1, h1, _, rfl⟩ := hr
    exact snapL_rest h1
  | _ => simp only [snap] at hr; exact snapLeaf_rest hr
theorem fixS_ok {own : List (Nat × Nat)} {full : Bool} : ∀ {l : List Nat} {S S' : St}, SRx B S a w → fixS own full l S = some S' → SRx B S' a w
  | [], S, S', h, hr => by simp only [fixS, Option.some.injEq] at hr; subst hr; exact h
  | t :: l, S, S', h, hr => by
    simp only [fixS] at hr
    split at hr
    · rename_i z ht _
      obtain ⟨c, c', hs, hK, I, L, hK', hrep⟩ := h.nil (!full) z
      refine fixS_ok (S := { S with nx := S.nx + 1, env := ins t (.arr S.nx) S.env, heap := ins S.nx (.arr (!full) z []) S.heap }) ⟨c', ⟨I, fun x v hx => ?_, hs.size, hs.defers⟩, hK'⟩ hr
      rw [get_ins] at hx
      split at hx
      · rename_i e; subst e; cases hx
        have h0 := hs.env x _ ht
        generalize a.tmps.getD x undef = cx at h0 ⊢
        cases h0
        exact hrep
      · exact (hs.env x v hx).later L
    · exact fixS_ok h hr
    · rename_i v ht _
      split at hr
      · rename_i v' S1 h1
        obtain ⟨c, hs, hK⟩ := h
        obtain ⟨c', hs', hv', L, hk⟩ := snap_run hs (hs.env t v ht) h1
        obtain ⟨e1, e2, e3⟩ := snap_rest h1
        refine fixS_ok (S := { S1 with env := ins t v' S1.env }) ⟨c', ⟨hs'.inv, fun x u hx => ?_, hs'.size, hs'.defers⟩, fun j hj => ?_⟩ hr
        · rw [get_ins] at hx
          split at hx
          · rename_i e; subst e; cases hx; exact hv'
          · exact hs'.env x u hx
        · show j < S1.nx
          rw [e2]; exact hK j (hk ▸ hj)
      · cases hr
    · cases hr
theorem range_nodup (m : Nat) : (List.range m).Nodup := List.nodup_range
theorem head_ok {m : Nat} (hBm : B.m = m) {keep : List Nat} {own : List (Nat × Nat)} {full : Bool} (h : SRx B S a w) (hr : headS m keep own full S = some S') : SRx B S' a w := by
  unfold headS at hr
  obtain ⟨S1, h1, rfl⟩ := Option.map_eq_some_iff.1 hr
  have h0 : SRx B { S with env := keepE keep S.env } a w := by
    obtain ⟨c, h, hK⟩ := h
    exact ⟨c, ⟨h.inv, fun t v hv => by
      obtain ⟨v', e1, rfl⟩ := keepE_get hv (keepE_in hv); exact h.env t _ e1, h.size, h.defers⟩, hK⟩
  obtain ⟨c, hs, hK⟩ := fixS_ok h0 h1
  let l := canonL m S1.heap (rootsOf S1.heap m ++ idsL (S1.env.map (·.2)))
  obtain ⟨c1, H1, I1, L1, e1, k1, g1⟩ := freeze_all full (l.filterMap fun o => o) hs.inv
  have I2 := pick_inv I1 canon_nodup (fun id hid => canon_own id (hBm ▸ hid)) (H' := pickH (fun o => renO (idxOf l) (freezeO full o)) S1.heap 0 l) (fun k => by
    rw [pickH_get, if_pos (Nat.zero_le _), Nat.sub_zero]
    cases e : pk l k with
    | none => rfl
    | some i =>
      simp only [Option.bind_some]
      have hi : i ∈ l.filterMap fun o => o := by
        obtain ⟨o, h1, h2⟩ := Option.bind_eq_some_iff.1 e
        exact List.mem_filterMap.2 ⟨o, List.mem_of_getElem? h1, h2⟩
      rw [g1 i, if_pos hi]
      cases get i S1.heap <;> rfl)
  refine ⟨pickCtx c1 l, ⟨I2, fun t v hv => ?_, hs.size, hs.defers⟩, fun j hj => hj⟩
  simp only at hv
  rw [mapE_get (ren (idxOf l))] at hv
  obtain ⟨v0, e2, rfl⟩ := Option.map_eq_some_iff.1 hv
  exact ((hs.env t v0 e2).later L1).ren pick_ren

/-! ### Code -/
def toExit : Ex → Exit
  | .norm => .normal
  | .exit id => .exit id
  | .ret => .ret
theorem rounds_ok {code : Code} {body : St → Option (Ex × St)} {head : St → Option St} {tail : Ex → St → Option St} {Q : Exit → Act → World → Prop}
    (hbody : ∀ {S S' : St} {ex : Ex} {a : Act} {w : World} {Q : Exit → Act → World → Prop}, body S = some (ex, S') → SRx B S a w → (∀ a' w', SRx B S' a' w' → Q (toExit ex) a' w') → code.wp P Q a w)
    (hhead : ∀ {S S' : St} {a : Act} {w : World}, SRx B S a w → head S = some S' → SRx B S' a w)
    (htail : ∀ {ex : Ex} {S S' : St} {a : Act} {w : World}, SRx B S a w → tail ex S = some S' → SRx B S' a w) :
    ∀ (n : Nat) {S S' : St} {ex : Ex} {a : Act} {w : World}, loopE body head tail n S = some (ex, S') → SRx B S a w → (∀ a' w', SRx B S' a' w' → Q (toExit ex) a' w') → Code.rounds P code Q n a w
  | 0, S, S', ex, a, w, h, _, _ => by simp [loopE] at h
  | n + 1, S, S', ex, a, w, h, hs, hQ => by
    simp only [loopE] at h
    split at h
    · cases h
    · rename_i S1 h1
      have hs1 := hhead hs h1
      rw [rounds_succ]
      split at h
      · rename_i S2 h2
        exact hbody h2 hs1 fun a' w' hs2 => rounds_ok hbody hhead htail n h hs2 hQ
      · rename_i ex2 S2 hne h2
        obtain ⟨S3, h3, h4⟩ := Option.map_eq_some_iff.1 h
        simp only [Prod.mk.injEq] at h4
        obtain ⟨rfl, rfl⟩ := h4
        refine hbody h2 hs1 fun a' w' hs2 => ?_
        cases ex2 with
        | norm => exact (hne rfl).elim
        | exit id => exact hQ a' w' (htail hs2 h3)
        | ret => exact hQ a' w' (htail hs2 h3)
      · cases h
theorem code_ok {kd : TypeId → List Nat} {call : CallF} (hcall : FnOKB T B P call) (hmix : P.follows .mixedOrders = true) {m : Nat} (hBm : B.m = m) {an : Nat → Ann} {fuel : Nat} : ∀ (code : Code) {S S' : St} {ex : Ex} {a : Act} {w : World} {Q : Exit → Act → World → Prop},
    evalCode P kd call m an fuel code S = some (ex, S') → SRx B S a w → (∀ a' w', SRx B S' a' w' → Q (toExit ex) a' w') → code.wp P Q a w := by
  intro code
  induction code with
  | skip =>
    intro S S' ex a w Q h hs hQ
    simp only [evalCode, Option.some.injEq, Prod.mk.injEq] at h
    obtain ⟨rfl, rfl⟩ := h
    exact wp_skip (hQ a w hs)
  | region id ops draw =>
    intro S S' ex a w Q h hs hQ
    simp only [evalCode, Option.map_eq_some_iff, Prod.mk.injEq] at h
    obtain ⟨S1, h1, rfl, rfl⟩ := h
    exact region_ok hcall hmix hs h1 hQ
  | seq x y ihx ihy =>
    intro S S' ex a w Q h hs hQ
    simp only [evalCode] at h
    refine wp_seq ?_
    split at h
    · rename_i S1 h1
      exact ihx h1 hs fun a' w' hs1 => ihy h hs1 hQ
    · rename_i hne
      refine ihx h hs fun a' w' hs1 => ?_
      cases ex with
      | norm => exact (hne _ h).elim
      | exit id => exact hQ a' w' hs1
      | ret => exact hQ a' w' hs1
  | cond x y z ihy ihz =>
    intro S S' ex a w Q h hs hQ
    simp only [evalCode] at h
    split at h
    · rename_i t S1 h1
      obtain ⟨c, hs', hK⟩ := hs
      obtain ⟨rfl, hv⟩ := opd_run hs' h1
      generalize hx : a.eval x = cx at hv
      cases hv
      refine wp_cond hx ?_
      cases t with
      | true => exact ihy h ⟨c, hs', hK⟩ hQ
      | false => exact ihz h ⟨c, hs', hK⟩ hQ
    · cases h
  | block id x ih =>
    intro S S' ex a w Q h hs hQ
    simp only [evalCode] at h
    refine wp_block ?_
    split at h
    · rename_i j S1 h1
      refine ih h1 hs fun a' w' hs1 => ?_
      simp only [toExit, Exit.inBlock]
      split at h
      · rename_i e
        simp only [Option.some.injEq, Prod.mk.injEq] at h
        obtain ⟨rfl, rfl⟩ := h
        rw [if_pos e]; exact hQ a' w' hs1
      · rename_i e
        simp only [Option.some.injEq, Prod.mk.injEq] at h
        obtain ⟨rfl, rfl⟩ := h
        rw [if_neg e]; exact hQ a' w' hs1
    · rename_i hne
      refine ih h hs fun a' w' hs1 => ?_
      cases ex with
      | norm => exact hQ a' w' hs1
      | exit id => exact (hne _ _ h).elim
      | ret => exact hQ a' w' hs1
  | loop x ih =>
    intro S S' ex a w Q h hs hQ
    simp only [evalCode] at h
    exact wp_loop_rounds fuel (rounds_ok (fun h1 h2 h3 => ih h1 h2 h3) (fun h1 h2 => head_ok hBm h1 h2) (fun h1 h2 => head_ok hBm h1 h2) fuel h hs hQ)
  | exit id =>
    intro S S' ex a w Q h hs hQ
    simp only [evalCode, Option.some.injEq, Prod.mk.injEq] at h
    obtain ⟨rfl, rfl⟩ := h
    exact wp_exit (hQ a w hs)
  | ret =>
    intro S S' ex a w Q h hs hQ
    simp only [evalCode, Option.some.injEq, Prod.mk.injEq] at h
    obtain ⟨rfl, rfl⟩ := h
    exact wp_ret (hQ a w hs)
  | _ => intro S S' ex a w Q h; simp [evalCode] at h
end
end Go.Ab
namespace Go.Ab
open M

section
variable {T : Told} {P : Program} {B : Base} {c : Ctx} {S S' : St} {a : Act} {w : World}

/-- a result, as the machine reads it -/
def readRes (tmps : Array Value) : ResultVar → Sem Value
  | .tmp t => pure (tmps.getD t undef)
  | .cell x t => do loadVar t (← asAddr (tmps.getD x undef))
theorem res_run : ∀ {l : List ResultVar} {S : St} {vs : List AV} {S' : St}, SR B c S a w → (resM P l).run S = some (vs, S') → S' = S ∧ ∃ cvs, RepL c w vs cvs ∧ (l.mapM (readRes a.tmps)).run P w = .ok cvs w
  | [], S, vs, S', h, hr => by
    simp only [resM, ret_run] at hr
    obtain ⟨rfl, rfl⟩ := hr
    exact ⟨rfl, [], .nil, rfl⟩
  | .tmp t :: l, S, vs, S', h, hr => by
    simp only [resM, bind_run, ret_run] at hr
    obtain ⟨v, S1, h1, vs', S2, h2, rfl, rfl⟩ := hr
    obtain ⟨rfl, hv⟩ := opd_run h h1
    obtain ⟨rfl, cvs, e1, e2⟩ := res_run h h2
    refine ⟨rfl, _, .cons _ _ _ _ hv e1, ?_⟩
    simp only [List.mapM_cons, Sem.run_bind, readRes, Sem.run_pure, Result.andThen_ok, e2, Act.eval]
  | .cell x t :: l, S, vs, S', h, hr => by
    simp only [resM, bind_run, ret_run] at hr
    obtain ⟨p, S1, h1, v, S2, h2, vs', S3, h3, rfl, rfl⟩ := hr
    obtain ⟨rfl, hp⟩ := opd_run h h1
    obtain ⟨rfl, cv, e3, hv⟩ := load_run h hp h2
    obtain ⟨rfl, cvs, e1, e2⟩ := res_run h h3
    refine ⟨rfl, cv :: cvs, .cons _ _ _ _ hv e1, ?_⟩
    have hl : (readRes a.tmps (.cell x t)).run P w = .ok cv w := by
      simp only [Act.eval] at e3
      simp only [readRes, Sem.run_bind]
      simp only [Instr.loadAt, Sem.run_bind] at e3
      generalize a.tmps.getD x undef = cp at e3
      unfold Instr.sureAddr at e3
      unfold asAddr
      split at e3
      · exact e3
      · simp at e3
    simp only [List.mapM_cons, Sem.run_bind, hl, Result.andThen_ok, e2, Sem.run_pure]
def oneV : List Value → Value
  | [v] => v
  | vs => .tuple vs.toArray
theorem results_run {fn : Func} {cvs : List Value} (h : (fn.results.toList.mapM (readRes a.tmps)).run P w = .ok cvs w) : (results fn a.tmps).run P w = .ok (oneV cvs) w := by
  have e : fn.results.mapM (readRes a.tmps) = (List.toArray <$> fn.results.toList.mapM (readRes a.tmps) : Sem (Array Value)) := Array.mapM_eq_mapM_toList ..
  have h2 : (fn.results.mapM (readRes a.tmps)).run P w = .ok cvs.toArray w := by rw [e, Sem.run_map, h]; rfl
  have h3 : results fn a.tmps = (do let vs ← fn.results.mapM (readRes a.tmps); pure (if h : vs.size = 1 then vs[0] else .tuple vs) : Sem Value) := by
    unfold results
    congr 2
  rw [h3, Sem.run_bind, h2, Result.andThen_ok, Sem.run_pure]
  congr 1
  match cvs with
  | [] => simp [oneV]
  | [v] => simp [oneV]
  | v :: u :: l => simp [oneV]
theorem one_rep {vs : List AV} {cvs : List Value} (h : RepL c w vs cvs) : Rep c w (one vs) (oneV cvs) := by
  match vs, cvs, h with
  | [], _, .nil => exact .tup _ [] .nil
  | [v], _, .cons _ u _ _ hv .nil => exact hv
  | v :: v' :: l, _, .cons _ u _ _ hv (.cons _ u' _ us hv' ht) => exact .tup _ (u :: u' :: us) (.cons _ _ _ _ hv (.cons _ _ _ _ hv' ht))
theorem snapRes_run {l : List AV} : ∀ {c : Ctx} {S : St} {l' : List AV} {vs : List Value}, SR B c S a w → RepL c w l vs → (snapRes l).run S = some (l', S') →
    ∃ c', SR B c' S' a w ∧ RepL c' w l' vs ∧ Later c w c' w ∧ c'.K = c.K := by
  induction l with
  | nil =>
    intro c S l' vs h hv hr
    cases hv
    simp only [snapRes, ret_run] at hr
    obtain ⟨rfl, rfl⟩ := hr
    exact ⟨c, h, .nil, .refl _ _, rfl⟩
  | cons v l ih =>
    intro c S l' vs h hv hr
    cases hv with
    | cons _ cv _ cvs h1 ht =>
      simp only [snapRes, bind_run, ret_run] at hr
      obtain ⟨v', S1, hr1, l2, S2, hr2, rfl, rfl⟩ := hr
      obtain ⟨c1, g1, g2, g3, g4⟩ := snap_run h h1 hr1
      obtain ⟨c2, k1, k2, k3, k4⟩ := ih g1 (ht.later g3) hr2
      exact ⟨c2, k1, .cons _ _ _ _ (g2.later k3) k2, g3.trans k3, k4.trans g4⟩
theorem enterE_get : ∀ (l : List AV) (k t : Nat) (v : AV), get t (enterE k l) = some v → k ≤ t ∧ l[t - k]? = some v
  | [], k, t, v, h => by simp [enterE, get] at h
  | x :: l, k, t, v, h => by
    simp only [enterE, get] at h
    split at h
    · rename_i e; cases h; subst e; exact ⟨Nat.le_refl _, by simp⟩
    · obtain ⟨h1, h2⟩ := enterE_get l (k + 1) t v h
      refine ⟨by omega, ?_⟩
      rw [show t - k = (t - (k + 1)) + 1 from by omega]; simpa using h2

theorem body_ok {call : CallF} (hcall : FnOK T P call) (hmix : P.follows .mixedOrders = true) {g : Cfg} {fuel : Nat} {f : FuncId} : FnOK1 T P f (bodyE P call g fuel f) := by
  intro args H res H' c w vs h hT I hK hv
  unfold bodyE at h
  split at h
  · rename_i fn hfn
    split at h
    · rename_i code hcode
      split at h
      · rename_i hlen
        let B := baseOf c w H.length
        let a0 : Act := { tmps := vs.toArray ++ Array.replicate (fn.ntmps - vs.toArray.size) undef, defers := [] }
        have hvl := hv.length_eq
        have h0 : SRx B { n := fn.ntmps, nx := H.length, env := enterE 0 args, heap := H } a0 w := by
          refine ⟨c, ⟨I, fun t v ht => ?_, ?_, rfl⟩, hK⟩
          · obtain ⟨_, h2⟩ := enterE_get args 0 t v ht
            simp only [Nat.sub_zero] at h2
            obtain ⟨u, hu, hr⟩ := hv.get t v h2
            have : a0.tmps.getD t undef = u := by
              have hlt := (List.getElem?_eq_some_iff.1 hu).1
              simp only [a0, Array.getD_eq_getD_getElem?]
              rw [Array.getElem?_append_left (by simpa using hlt)]
              simp [hu]
            rw [this]; exact hr
          · show (vs.toArray ++ Array.replicate (fn.ntmps - vs.toArray.size) undef).size = fn.ntmps
            simp only [Array.size_append, List.size_toArray, Array.size_replicate]; omega
        -- the end
        have fin : ∀ {S1 S2 : St} {rs : List AV} {a' : Act} {w' : World}, SRx B S1 a' w' → ((resM P fn.results.toList).bind fun vs => if g.own f then .ret vs else snapRes vs).run S1 = some (rs, S2) → leaveS H.length (one rs) S2.heap = (res, H') →
            a'.defers = [] ∧ ∃ v, (results fn a'.tmps).run P w' = .ok v w' ∧ ∃ v' c', Ending.returned v = .returned v' ∧ Inv (baseOf c w H.length) c' H' w' ∧ Rep c' w' res v' ∧ Later c w c' w' := by
          intro S1 S2 rs a' w' hs hr hl
          obtain ⟨c1, hs, _⟩ := hs
          simp only [bind_run] at hr
          obtain ⟨vs1, S3, h3, h4⟩ := hr
          obtain ⟨rfl, cvs, e1, e2⟩ := res_run hs h3
          obtain ⟨c2, k1, k2⟩ : ∃ c2, SR B c2 S2 a' w' ∧ RepL c2 w' rs cvs := by
            split at h4
            · simp only [ret_run] at h4
              obtain ⟨rfl, rfl⟩ := h4
              exact ⟨c1, hs, e1⟩
            · obtain ⟨c2, k1, k2, _, _⟩ := snapRes_run hs e1 h4
              exact ⟨c2, k1, k2⟩
          let l := canonL H.length S2.heap (rootsOf S2.heap H.length ++ ids (one rs))
          obtain ⟨c3, H3, I3, L3, e3, k3, g3⟩ := freeze_all (w := w') false (l.filterMap fun o => o) k1.inv
          refine ⟨hs.defers, _, results_run e2, _, pickCtx c3 l, rfl, ?_, ?_, ?_⟩
          · simp only [leaveS, Prod.mk.injEq] at hl
            obtain ⟨_, rfl⟩ := hl
            refine pick_inv (l := l) I3 (canon_nodup (m := H.length)) (fun id hid => canon_own (m := H.length) id hid) (fun k => ?_)
            rw [pickH_get, if_pos (Nat.zero_le _), Nat.sub_zero]
            cases e : pk l k with
            | none => rfl
            | some i =>
              simp only [Option.bind_some]
              have hi : i ∈ l.filterMap fun o => o := by
                obtain ⟨o, h1, h2⟩ := Option.bind_eq_some_iff.1 e
                exact List.mem_filterMap.2 ⟨o, List.mem_of_getElem? h1, h2⟩
              rw [g3 i, if_pos hi]
              cases get i S2.heap <;> rfl
          · simp only [leaveS, Prod.mk.injEq] at hl
            obtain ⟨rfl, _⟩ := hl
            exact ((one_rep k2).later L3).ren pick_ren
          · refine ⟨fun id hid => (canon_own id (hK id hid)).1, fun id hid sh hs' => ?_, fun b o hz => L3.z b o (k1.inv.zold b o hz).1, fun b o hz => (k1.inv.zold b o hz).2⟩
            simp only [pickCtx, Option.bind_eq_some_iff, e3] at hs'
            obtain ⟨x, h1, h2⟩ := hs'
            have := (canon_own id (hK id hid)).2 x h1
            subst this
            exact (k1.inv.pass x (hK x hid)).2 sh h2
        refine calls_of_wp hfn hcode ?_
        split at h
        · rename_i S1 hev
          split at h
          · rename_i rs S2 hres
            simp only [Option.some.injEq] at h
            refine code_ok (T := T) ⟨hcall, hT⟩ hmix (m := H.length) (B := B) rfl code hev h0 fun a' w' hs => ?_
            obtain ⟨d1, v, d2, d3⟩ := fin hs hres h
            exact ⟨d1, v, d2, d3⟩
          · cases h
        · rename_i S1 hev
          split at h
          · rename_i rs S2 hres
            simp only [Option.some.injEq] at h
            refine code_ok (T := T) ⟨hcall, hT⟩ hmix (m := H.length) (B := B) rfl code hev h0 fun a' w' hs => ?_
            obtain ⟨d1, v, d2, d3⟩ := fin hs hres h
            exact ⟨d1, v, d2, d3⟩
          · cases h
        · cases h
      · cases h
    · cases h
  · cases h
theorem eval_ok (hmix : P.follows .mixedOrders = true) {g : Cfg} (hext : ∀ f x, g.ext f = some x → FnOK1 T P f x) : ∀ k, FnOK T P (evalFn P g k)
  | 0 => fun f args H res H' c w vs h _ => by simp [evalFn] at h
  | k + 1 => fun f args H res H' c w vs h hT => by
    simp only [evalFn] at h
    split at h
    · rename_i x hx; exact hext f x hx args H res H' c w vs h hT
    · exact body_ok (eval_ok hmix hext k) hmix args H res H' c w vs h hT

/-- nothing is handed over: all that there is stays for good -/
def oldCtx (w : World) : Ctx := { ι := fun _ => none, Z := fun b _ => b < w.heap.size, K := fun _ => False }
theorem oldInv (w : World) : Inv (baseOf (oldCtx w) w 0) (oldCtx w) [] w where
  dead _ _ := rfl
  obj id ob h := by cases h
  known id sh h := by cases h
  inj i j si sj g h := by cases h
  zlt _ _ h := h
  zob b o hz id sh h := by cases h
  bnd id sh g h := by cases h
  size := Nat.le_refl _
  os := rfl
  tape := rfl
  output := rfl
  old _ _ _ := rfl
  zold _ _ h := ⟨h, rfl⟩
  znew _ _ h := .inl h
  pass id h := by cases h
/-- a call whose arguments are read, whose answer is a value without an address -/
theorem calls_of_eval (hmix : P.follows .mixedOrders = true) {g : Cfg} (hext : ∀ f x, g.ext f = some x → FnOK1 T P f x) {k : Nat} {f : FuncId} {args : List AV} {r : Value} {H' : Heap} {w : World} {vs : List Value}
    (h : evalFn P g k f args [] = some (.sc r, H')) (hT : T.T (oldCtx w).Z w) (hv : RepL (oldCtx w) w args vs) : Calls P f vs.toArray w fun e w' => e = .returned r ∧ RowKit.Below w.heap.size w w' := by
  refine (eval_ok hmix hext k f args [] (.sc r) H' (oldCtx w) w vs h hT (oldInv w) (fun id hid => hid.elim) hv).mono ?_
  rintro e w' ⟨v, c', rfl, I, hr, L⟩
  cases hr
  exact ⟨rfl, I.os, I.tape, I.output, I.size, fun b hb => I.old b hb (by rintro ⟨id, sh, h, _⟩; cases h)⟩
end
end Go.Ab
namespace Go.Ab
open M

inductive Tm (R : Type) : Type 1 where
  | fail
  | ret (x : R)
  | q {β : Type} (x : Qn β) (k : β → Tm R)
  | loop (c : Code) (σ : St) (k : Ex → St → Tm R)
abbrev Loops := Code → St → Option (Ex × St)
def Tm.run {R : Type} (lp : Loops) : Tm R → Option R
  | .fail => none
  | .ret x => some x
  | .q x k => match x.ans with
    | some v => (k v).run lp
    | none => none
  | .loop c σ k => match lp c σ with
    | some (ex, s) => (k ex s).run lp
    | none => none

section
variable {R α : Type}
def M.tm : M α → St → (α → St → Tm R) → Tm R
  | .ret a, s, K => K a s
  | .fail, _, _ => .fail
  | .getT t k, s, K => match get t s.env with
    | some v => (k v).tm s K
    | none => .fail
  | .setT t v k, s, K => if t < s.n then k.tm { s with env := ins t v s.env } K else .fail
  | .getO i k, s, K => match get i s.heap with
    | some o => (k o).tm s K
    | none => .fail
  | .setO i o k, s, K => k.tm { s with heap := ins i o s.heap } K
  | .delO i k, s, K => k.tm { s with heap := del i s.heap } K
  | .q x k, s, K => .q x fun v => (k v).tm s K
def M.tmL : M α → St → (α → St → Log → Tm R) → Tm R
  | .ret a, s, K => K a s ⟨[], []⟩
  | .fail, _, _ => .fail
  | .getT t k, s, K => match get t s.env with
    | some v => (k v).tmL s fun a s l => K a s { l with r := (true, t) :: l.r }
    | none => .fail
  | .setT t v k, s, K => if t < s.n then k.tmL { s with env := ins t v s.env } fun a s l => K a s { l with w := (true, t) :: l.w } else .fail
  | .getO i k, s, K => match get i s.heap with
    | some o => (k o).tmL s fun a s l => K a s { l with r := (false, i) :: l.r }
    | none => .fail
  | .setO i o k, s, K => k.tmL { s with heap := ins i o s.heap } fun a s l => K a s { l with w := (false, i) :: l.w }
  | .delO i k, s, K => k.tmL { s with heap := del i s.heap } fun a s l => K a s { l with w := (false, i) :: l.w }
  | .q x k, s, K => .q x fun v => (k v).tmL s K

theorem tm_run (lp : Loops) (m : M α) : ∀ (s : St) (K : α → St → Tm R), (m.tm s K).run lp = (m.run s).bind fun p => (K p.1 p.2).run lp := by
  induction m with
  | ret a => intro s K; rfl
  | fail => intro s K; rfl
  | getT t k ih => intro s K; simp only [M.tm, M.run]; cases get t s.env with
    | none => rfl
    | some v => exact ih v s K
  | setT t v k ih => intro s K; simp only [M.tm, M.run]; split
                     · exact ih _ K
                     · rfl
  | getO i k ih => intro s K; simp only [M.tm, M.run]; cases get i s.heap with
    | none => rfl
    | some v => exact ih v s K
  | setO i o k ih => intro s K; exact ih _ K
  | delO i k ih => intro s K; exact ih _ K
  | q x k ih => intro s K; simp only [M.tm, M.run, Tm.run]; cases x.ans with
    | none => rfl
    | some v => exact ih v s K
theorem tmL_run (lp : Loops) (m : M α) : ∀ (s : St) (K : α → St → Log → Tm R), (m.tmL s K).run lp = (m.runL s).bind fun p => (K p.1 p.2.1 p.2.2).run lp := by
  induction m with
  | ret a => intro s K; rfl
  | fail => intro s K; rfl
  | getT t k ih => intro s K; simp only [M.tmL, M.runL]; cases get t s.env with
    | none => rfl
    | some v => simp only [ih v s]; cases (k v).runL s <;> rfl
  | setT t v k ih => intro s K; simp only [M.tmL, M.runL]; split
                     · rw [ih]; cases k.runL { s with env := ins t v s.env } <;> rfl
                     · rfl
  | getO i k ih => intro s K; simp only [M.tmL, M.runL]; cases get i s.heap with
    | none => rfl
    | some v => simp only [ih v s]; cases (k v).runL s <;> rfl
  | setO i o k ih => intro s K; simp only [M.tmL, M.runL]; rw [ih]; cases k.runL { s with heap := ins i o s.heap } <;> rfl
  | delO i k ih => intro s K; simp only [M.tmL, M.runL]; rw [ih]; cases k.runL { s with heap := del i s.heap } <;> rfl
  | q x k ih => intro s K; simp only [M.tmL, M.runL, Tm.run]; cases x.ans with
    | none => rfl
    | some v => exact ih v s K
end

section
variable {R : Type}
def seqT (step : Nat → M Unit) : List Nat → St → (St → Tm R) → Tm R
  | [], s, K => K s
  | i :: l, s, K => (step i).tm s fun _ s => seqT step l s K
def opsT (step : Nat → M Unit) : List Nat → St → (St → List (Nat × Log) → Tm R) → Tm R
  | [], s, K => K s []
  | i :: l, s, K => (step i).tmL s fun _ s lg => opsT step l s fun t ls => K t ((i, lg) :: ls)
theorem seqT_run (lp : Loops) (step : Nat → M Unit) : ∀ (l : List Nat) (s : St) (K : St → Tm R), (seqT step l s K).run lp = (seqOps step l s).bind fun s => (K s).run lp
  | [], s, K => rfl
  | i :: l, s, K => by
    simp only [seqT, tm_run, seqOps, seqT_run lp step l]
    cases (step i).run s <;> rfl
theorem opsT_run (lp : Loops) (step : Nat → M Unit) : ∀ (l : List Nat) (s : St) (K : St → List (Nat × Log) → Tm R), (opsT step l s K).run lp = (runOps step l s).bind fun p => (K p.1 p.2).run lp
  | [], s, K => rfl
  | i :: l, s, K => by
    simp only [opsT, tmL_run, runOps, opsT_run lp step l]
    cases (step i).runL s with
    | none => rfl
    | some p => obtain ⟨u, s', lg⟩ := p; simp only [Option.bind_some]; cases runOps step l s' <;> rfl

variable (P : Program) (kd : TypeId → List Nat) (call : CallF)
def regionT (ops : Array Oper) (draw : Bool) (s : St) (K : St → Tm R) : Tm R :=
  if draw then opsT (stepM P kd call s.nx ops) (List.range ops.size) s fun t logs => if edgesOk ops && okOrder (befL ops.toList []) logs then K { t with nx := s.nx + slots * ops.size } else .fail
  else seqT (stepM P kd call s.nx ops) (List.range ops.size) s fun t => K { t with nx := s.nx + slots * ops.size }
theorem regionT_run (lp : Loops) (ops : Array Oper) (draw : Bool) (s : St) (K : St → Tm R) : (regionT P kd call ops draw s K).run lp = (regionE P kd call ops draw s).bind fun s => (K s).run lp := by
  cases draw with
  | false =>
    simp only [regionT, regionE, Bool.false_eq_true, if_false, seqT_run]
    cases seqOps (stepM P kd call s.nx ops) (List.range ops.size) s <;> rfl
  | true =>
    simp only [regionT, regionE, if_true, opsT_run]
    cases runOps (stepM P kd call s.nx ops) (List.range ops.size) s with
    | none => rfl
    | some p =>
      obtain ⟨t, logs⟩ := p
      simp only [Option.bind_some]
      split <;> rfl

def codeT (m : Nat) (an : Nat → Ann) : Code → St → (Ex → St → Tm R) → Tm R
  | .skip, s, K => K .norm s
  | .region _ ops draw, s, K => regionT P kd call ops draw s fun s => K .norm s
  | .seq a b, s, K => codeT m an a s fun ex s => match ex with
    | .norm => codeT m an b s K
    | ex => K ex s
  | .cond c a b, s, K => (opd c).tm s fun v s => match v with
    | .sc (.bool t) => .q (.bool t) fun t => if t then codeT m an a s K else codeT m an b s K
    | _ => .fail
  | .block id c, s, K => codeT m an c s fun ex s => match ex with
    | .exit j => if j = id then K .norm s else K (.exit j) s
    | ex => K ex s
  | .loop c, s, K => match headS m (an (rid c)).keep (an (rid c)).own (an (rid c)).full s with
    | some σ => .loop c σ K
    | none => .fail
  | .exit id, s, K => K (.exit id) s
  | .ret, s, K => K .ret s
  | _, _, _ => .fail

/-- a round of a loop, from its head to its head, or to its end -/
def roundT (m : Nat) (an : Nat → Ann) (c : Code) (σ : St) : Tm (Ex × St) := codeT P kd call m an c σ fun ex s => match ex with
  | .norm => match headS m (an (rid c)).keep (an (rid c)).own (an (rid c)).full s with
    | some σ => .ret (.norm, σ)
    | none => .fail
  | ex => match tailS m (an (rid c)) ex s with
    | some s => .ret (ex, s)
    | none => .fail
/-- rounds, from a head -/
def roundsF (round : St → Option (Ex × St)) : Nat → St → Option (Ex × St)
  | 0, _ => none
  | n + 1, σ => match round σ with
    | some (.norm, σ) => roundsF round n σ
    | r => r
/-- the loops of a function, as the fuel lets them run -/
def loopsF (m : Nat) (an : Nat → Ann) (fuel : Nat) : Loops := fun c σ => match fuel with
  | 0 => none
  | n + 1 => match evalCode P kd call m an fuel c σ with
    | some (.norm, s) => loopE (evalCode P kd call m an fuel c) (headS m (an (rid c)).keep (an (rid c)).own (an (rid c)).full) (tailS m (an (rid c))) n s
    | some (ex, s) => (tailS m (an (rid c)) ex s).map fun s => (ex, s)
    | none => none
theorem codeT_run (m : Nat) (an : Nat → Ann) (fuel : Nat) : ∀ (c : Code) (s : St) (K : Ex → St → Tm R),
    (codeT P kd call m an c s K).run (loopsF P kd call m an fuel) = (evalCode P kd call m an fuel c s).bind fun p => (K p.1 p.2).run (loopsF P kd call m an fuel) := by
  intro c
  induction c with
  | skip => intro s K; rfl
  | region id ops draw =>
    intro s K
    simp only [codeT, evalCode, regionT_run]
    cases regionE P kd call ops draw s <;> rfl
  | seq a b iha ihb =>
    intro s K
    simp only [codeT, evalCode, iha]
    cases evalCode P kd call m an fuel a s with
    | none => rfl
    | some p =>
      obtain ⟨ex, s'⟩ := p
      cases ex with
      | norm => exact ihb s' K
      | exit id => rfl
      | ret => rfl
  | cond x a b iha ihb =>
    intro s K
    simp only [codeT, evalCode, tm_run]
    cases (opd x).run s with
    | none => rfl
    | some p =>
      obtain ⟨v, s'⟩ := p
      cases v with
      | sc u =>
        cases u with
        | bool t =>
          cases t with
          | true => exact iha s' K
          | false => exact ihb s' K
        | _ => rfl
      | _ => rfl
  | block id a ih =>
    intro s K
    simp only [codeT, evalCode, ih]
    cases evalCode P kd call m an fuel a s with
    | none => rfl
    | some p =>
      obtain ⟨ex, s'⟩ := p
      cases ex with
      | norm => rfl
      | exit j =>
        simp only [Option.bind_some]
        split <;> rfl
      | ret => rfl
  | loop a ih =>
    intro s K
    simp only [codeT, evalCode]
    cases fuel with
    | zero =>
      simp only [loopE, Option.bind_none]
      cases headS m (an (rid a)).keep (an (rid a)).own (an (rid a)).full s with
      | none => rfl
      | some σ => rfl
    | succ n =>
      simp only [loopE]
      cases headS m (an (rid a)).keep (an (rid a)).own (an (rid a)).full s with
      | none => rfl
      | some σ =>
        simp only [Tm.run]
        simp only [loopsF]
        cases evalCode P kd call m an (n + 1) a σ with
        | none => rfl
        | some p =>
          obtain ⟨ex, s'⟩ := p
          cases ex with
          | norm => simp only []; split <;> simp_all
          | exit j => simp only []; cases tailS m (an (rid a)) (.exit j) s' <;> rfl
          | ret => simp only []; cases tailS m (an (rid a)) .ret s' <;> rfl
  | exit id => intro s K; rfl
  | ret => intro s K; rfl
  | _ => intro s K; rfl
theorem loopsF_rounds (m : Nat) (an : Nat → Ann) (fuel : Nat) (c : Code) (σ : St) : loopsF P kd call m an fuel c σ = roundsF (fun σ => (roundT P kd call m an c σ).run (loopsF P kd call m an fuel)) fuel σ := by
  have key : ∀ (n : Nat) (σ : St), (match evalCode P kd call m an fuel c σ with
      | some (.norm, s) => loopE (evalCode P kd call m an fuel c) (headS m (an (rid c)).keep (an (rid c)).own (an (rid c)).full) (tailS m (an (rid c))) n s
      | some (ex, s) => (tailS m (an (rid c)) ex s).map fun s => (ex, s)
      | none => none) = roundsF (fun σ => (roundT P kd call m an c σ).run (loopsF P kd call m an fuel)) (n + 1) σ := by
    intro n
    induction n with
    | zero =>
      intro σ
      simp only [roundsF, roundT, codeT_run]
      cases evalCode P kd call m an fuel c σ with
      | none => rfl
      | some p =>
        obtain ⟨ex, s⟩ := p
        cases ex with
        | norm => simp only [Option.bind_some, loopE]; cases headS m (an (rid c)).keep (an (rid c)).own (an (rid c)).full s <;> rfl
        | exit j => simp only [Option.bind_some]; cases tailS m (an (rid c)) (.exit j) s <;> rfl
        | ret => simp only [Option.bind_some]; cases tailS m (an (rid c)) .ret s <;> rfl
    | succ n ih =>
      intro σ
      have hR : (roundT P kd call m an c σ).run (loopsF P kd call m an fuel) = _ := codeT_run P kd call m an fuel c σ _
      rw [roundsF]
      simp only [hR]
      clear hR
      cases hev : evalCode P kd call m an fuel c σ with
      | none => rfl
      | some p =>
        obtain ⟨ex, s⟩ := p
        cases ex with
        | norm =>
          simp only [Option.bind_some, loopE]
          cases headS m (an (rid c)).keep (an (rid c)).own (an (rid c)).full s with
          | none => rfl
          | some σ' => exact ih σ'
        | exit j => simp only [Option.bind_some]; cases tailS m (an (rid c)) (.exit j) s <;> rfl
        | ret => simp only [Option.bind_some]; cases tailS m (an (rid c)) .ret s <;> rfl
  cases fuel with
  | zero => rfl
  | succ n => exact key n σ

def bodyT (g : Cfg) (f : FuncId) (args : List AV) (H : Heap) : Tm (AV × Heap) :=
  match P.funcs[f]? with
  | some fn => match fn.body with
    | some c => if args.length ≤ fn.ntmps then
        codeT P g.kd call H.length (g.an f) c { n := fn.ntmps, nx := H.length, env := enterE 0 args, heap := H } fun ex s => match ex with
          | .exit _ => .fail
          | _ => ((resM P fn.results.toList).bind fun vs => if g.own f then .ret vs else snapRes vs).tm s fun vs s => .ret (leaveS H.length (one vs) s.heap)
      else .fail
    | none => .fail
  | none => .fail
theorem bodyT_run (g : Cfg) (fuel : Nat) (f : FuncId) (args : List AV) (H : Heap) : (bodyT P call g f args H).run (loopsF P g.kd call H.length (g.an f) fuel) = bodyE P call g fuel f args H := by
  unfold bodyT bodyE
  cases P.funcs[f]? with
  | none => rfl
  | some fn =>
    simp only []
    cases fn.body with
    | none => rfl
    | some c =>
      simp only []
      by_cases hl : args.length ≤ fn.ntmps
      · rw [if_pos hl, if_pos hl, codeT_run]
        cases evalCode P g.kd call H.length (g.an f) fuel c { n := fn.ntmps, nx := H.length, env := enterE 0 args, heap := H } with
        | none => rfl
        | some p =>
          obtain ⟨ex, s⟩ := p
          cases ex with
          | norm =>
            simp only [Option.bind_some, tm_run]
            cases ((resM P fn.results.toList).bind fun vs => if g.own f then .ret vs else snapRes vs).run s <;> rfl
          | exit j => rfl
          | ret =>
            simp only [Option.bind_some, tm_run]
            cases ((resM P fn.results.toList).bind fun vs => if g.own f then .ret vs else snapRes vs).run s <;> rfl
      · rw [if_neg hl, if_neg hl]; rfl
end

/-! ### Plans -/
inductive Tr (ρ R : Type) : Type 1 where
  | fail
  | ret (a : ρ) (x : R)
  | ask (b b' : Bool) (t e : Tr ρ R)
  | yes (b : Bool) (t : Tr ρ R)
  | no (b : Bool) (e : Tr ρ R)
  | row {α : Type} (o : Option (List AV)) (m : Option α) (enc : α → List AV) (k : α → Tr ρ R)
  | rows (l l' : List (List AV)) (k : Tr ρ R)
  | num (n n' : Nat) (k : Tr ρ R)
  | byt (o m : Option (List UInt8)) (k : List UInt8 → Tr ρ R)
  | call {α : Type} (o : Option (AV × Heap)) (m : Option α) (enc : α → AV × Heap) (k : α → Tr ρ R)
  | loop {α : Type} (c : Code) (σ : St) (m : Option α) (e : α → Ex × St) (k : α → Tr ρ R)
  | loop2 {α β : Type} (c : Code) (σ : St) (m : Option (α ⊕ β)) (ea : α → Ex × St) (eb : β → Ex × St) (ka : α → Tr ρ R) (kb : β → Tr ρ R)
  | loop3 {α β γ : Type} (c : Code) (σ : St) (m : Option (α ⊕ β ⊕ γ)) (ea : α → Ex × St) (eb : β → Ex × St) (ec : γ → Ex × St) (ka : α → Tr ρ R) (kb : β → Tr ρ R) (kc : γ → Tr ρ R)

section
variable {ρ R : Type}
def Tr.norm : Tr ρ R → Tm R → Tr ρ R
  | .fail, _ => .fail
  | .ret a _, .ret y => .ret a y
  | .ask _ b' t e, .q (.bool b) k => .ask b b' (t.norm (k true)) (e.norm (k false))
  | .yes _ t, .q (.bool b) k => .yes b (t.norm (k true))
  | .no _ e, .q (.bool b) k => .no b (e.norm (k false))
  | .row _ m enc k, .q (.row o) k' => .row o m enc fun a => (k a).norm (k' (enc a))
  | .rows _ l' k, .q (.rows l) k' => .rows l l' (k.norm (k' l'))
  | .num _ n' k, .q (.num n) k' => .num n n' (k.norm (k' n'))
  | .byt _ m k, .q (.byt o) k' => .byt o m fun a => (k a).norm (k' a)
  | .call _ m enc k, .q (.call _ _ _ o) k' => .call o m enc fun a => (k a).norm (k' (enc a))
  | .loop _ _ m e k, .loop c σ k' => .loop c σ m e fun a => (k a).norm (k' (e a).1 (e a).2)
  | .loop2 _ _ m ea eb ka kb, .loop c σ k' => .loop2 c σ m ea eb (fun a => (ka a).norm (k' (ea a).1 (ea a).2)) (fun a => (kb a).norm (k' (eb a).1 (eb a).2))
  | .loop3 _ _ m ea eb ec ka kb kc, .loop c σ k' => .loop3 c σ m ea eb ec (fun a => (ka a).norm (k' (ea a).1 (ea a).2)) (fun a => (kb a).norm (k' (eb a).1 (eb a).2)) (fun a => (kc a).norm (k' (ec a).1 (ec a).2))
  | _, _ => .fail
def Tr.den : Tr ρ R → Option ρ
  | .fail => none
  | .ret a _ => some a
  | .ask _ b t e => bif b then t.den else e.den
  | .yes _ t => t.den
  | .no _ e => e.den
  | .row _ m _ k => m.bind fun a => (k a).den
  | .rows _ _ k => k.den
  | .num _ _ k => k.den
  | .byt _ m k => m.bind fun a => (k a).den
  | .call _ m _ k => m.bind fun a => (k a).den
  | .loop _ _ m _ k => m.bind fun a => (k a).den
  | .loop2 _ _ m _ _ ka kb => m.bind fun x => Sum.elim (fun a => (ka a).den) (fun a => (kb a).den) x
  | .loop3 _ _ m _ _ _ ka kb kc => m.bind fun x => Sum.elim (fun a => (ka a).den) (fun x => Sum.elim (fun a => (kb a).den) (fun a => (kc a).den) x) x
def Tr.ok (lp : Loops) (enc : ρ → R) : Tr ρ R → Prop
  | .fail => True
  | .ret a x => x = enc a
  | .ask b b' t e => b = b' ∧ (b' = true → t.ok lp enc) ∧ (b' = false → e.ok lp enc)
  | .yes b t => b = true ∧ t.ok lp enc
  | .no b e => b = false ∧ e.ok lp enc
  | .row o m en k => ∀ a, m = some a → o = some (en a) ∧ (k a).ok lp enc
  | .rows l l' k => l = l' ∧ k.ok lp enc
  | .num n n' k => n = n' ∧ k.ok lp enc
  | .byt o m k => ∀ a, m = some a → o = some a ∧ (k a).ok lp enc
  | .call o m en k => ∀ a, m = some a → o = some (en a) ∧ (k a).ok lp enc
  | .loop c σ m e k => ∀ a, m = some a → lp c σ = some (e a) ∧ (k a).ok lp enc
  | .loop2 c σ m ea eb ka kb => (∀ a, m = some (.inl a) → lp c σ = some (ea a) ∧ (ka a).ok lp enc) ∧ (∀ a, m = some (.inr a) → lp c σ = some (eb a) ∧ (kb a).ok lp enc)
  | .loop3 c σ m ea eb ec ka kb kc => (∀ a, m = some (.inl a) → lp c σ = some (ea a) ∧ (ka a).ok lp enc) ∧ (∀ a, m = some (.inr (.inl a)) → lp c σ = some (eb a) ∧ (kb a).ok lp enc) ∧
      (∀ a, m = some (.inr (.inr a)) → lp c σ = some (ec a) ∧ (kc a).ok lp enc)
theorem Tr.sound {lp : Loops} {enc : ρ → R} (tr : Tr ρ R) : ∀ (tm : Tm R), tr.norm tm = tr → tr.ok lp enc → ∀ r, tr.den = some r → tm.run lp = some (enc r) := by
  induction tr with
  | fail => intro tm _ _ r h; cases h
  | ret a x =>
    intro tm hn ho r h
    cases tm with
    | ret y => simp only [Tr.norm, Tr.ret.injEq, true_and] at hn; subst hn; cases h; simp only [Tr.ok] at ho; rw [ho]; rfl
    | q x k => cases x <;> simp [Tr.norm] at hn
    | _ => simp [Tr.norm] at hn
  | ask b b2 t e iht ihe =>
    intro tm hn ho r h
    cases tm with
    | q x k =>
      cases x with
      | bool b' =>
        simp only [Tr.norm, Tr.ask.injEq, true_and] at hn
        obtain ⟨rfl, h1, h2⟩ := hn
        obtain ⟨rfl, ho1, ho2⟩ := ho
        cases b' with
        | true => exact iht _ h1 (ho1 rfl) r h
        | false => exact ihe _ h2 (ho2 rfl) r h
      | _ => simp [Tr.norm] at hn
    | _ => simp [Tr.norm] at hn
  | yes b t ih =>
    intro tm hn ho r h
    cases tm with
    | q x k =>
      cases x with
      | bool b' =>
        simp only [Tr.norm, Tr.yes.injEq] at hn
        obtain ⟨rfl, h1⟩ := hn
        obtain ⟨rfl, ho⟩ := ho
        exact ih _ h1 ho r h
      | _ => simp [Tr.norm] at hn
    | _ => simp [Tr.norm] at hn
  | no b t ih =>
    intro tm hn ho r h
    cases tm with
    | q x k =>
      cases x with
      | bool b' =>
        simp only [Tr.norm, Tr.no.injEq] at hn
        obtain ⟨rfl, h1⟩ := hn
        obtain ⟨rfl, ho⟩ := ho
        exact ih _ h1 ho r h
      | _ => simp [Tr.norm] at hn
    | _ => simp [Tr.norm] at hn
  | row o m en k ih =>
    intro tm hn ho r h
    cases tm with
    | q x k' =>
      cases x with
      | row o' =>
        simp only [Tr.norm, Tr.row.injEq, heq_eq_eq, true_and] at hn
        obtain ⟨rfl, h1⟩ := hn
        simp only [Tr.den, Option.bind_eq_some_iff] at h
        obtain ⟨a, ha, h⟩ := h
        obtain ⟨o1, o2⟩ := ho a ha
        simp only [Tm.run, Qn.ans, o1]
        exact ih a _ (congrFun h1 a) o2 r h
      | _ => simp [Tr.norm] at hn
    | _ => simp [Tr.norm] at hn
  | rows l l' k ih =>
    intro tm hn ho r h
    cases tm with
    | q x k' =>
      cases x with
      | rows m =>
        simp only [Tr.norm, Tr.rows.injEq, true_and] at hn
        obtain ⟨rfl, h1⟩ := hn
        obtain ⟨rfl, ho⟩ := ho
        exact ih _ h1 ho r h
      | _ => simp [Tr.norm] at hn
    | _ => simp [Tr.norm] at hn
  | num l l' k ih =>
    intro tm hn ho r h
    cases tm with
    | q x k' =>
      cases x with
      | num m =>
        simp only [Tr.norm, Tr.num.injEq, true_and] at hn
        obtain ⟨rfl, h1⟩ := hn
        obtain ⟨rfl, ho⟩ := ho
        exact ih _ h1 ho r h
      | _ => simp [Tr.norm] at hn
    | _ => simp [Tr.norm] at hn
  | byt o m k ih =>
    intro tm hn ho r h
    cases tm with
    | q x k' =>
      cases x with
      | byt o' =>
        simp only [Tr.norm, Tr.byt.injEq, true_and] at hn
        obtain ⟨rfl, h1⟩ := hn
        simp only [Tr.den, Option.bind_eq_some_iff] at h
        obtain ⟨a, ha, h⟩ := h
        obtain ⟨o1, o2⟩ := ho a ha
        simp only [Tm.run, Qn.ans, o1]
        exact ih a _ (congrFun h1 a) o2 r h
      | _ => simp [Tr.norm] at hn
    | _ => simp [Tr.norm] at hn
  | call o m en k ih =>
    intro tm hn ho r h
    cases tm with
    | q x k' =>
      cases x with
      | call f args H o' =>
        simp only [Tr.norm, Tr.call.injEq, heq_eq_eq, true_and] at hn
        obtain ⟨rfl, h1⟩ := hn
        simp only [Tr.den, Option.bind_eq_some_iff] at h
        obtain ⟨a, ha, h⟩ := h
        obtain ⟨o1, o2⟩ := ho a ha
        simp only [Tm.run, Qn.ans, o1]
        exact ih a _ (congrFun h1 a) o2 r h
      | _ => simp [Tr.norm] at hn
    | _ => simp [Tr.norm] at hn
  | loop c σ m e k ih =>
    intro tm hn ho r h
    cases tm with
    | loop c' σ' k' =>
      simp only [Tr.norm, Tr.loop.injEq, heq_eq_eq, true_and] at hn
      obtain ⟨rfl, rfl, h1⟩ := hn
      simp only [Tr.den, Option.bind_eq_some_iff] at h
      obtain ⟨a, ha, h⟩ := h
      obtain ⟨o1, o2⟩ := ho a ha
      simp only [Tm.run, o1]
      exact ih a _ (congrFun h1 a) o2 r h
    | q x k => cases x <;> simp [Tr.norm] at hn
    | _ => simp [Tr.norm] at hn
  | loop2 c σ m ea eb ka kb iha ihb =>
    intro tm hn ho r h
    cases tm with
    | loop c' σ' k' =>
      simp only [Tr.norm, Tr.loop2.injEq, heq_eq_eq, true_and] at hn
      obtain ⟨rfl, rfl, h1, h2⟩ := hn
      simp only [Tr.den, Option.bind_eq_some_iff] at h
      obtain ⟨a, ha, h⟩ := h
      rcases a with a | a
      · obtain ⟨o1, o2⟩ := ho.1 a ha
        simp only [Tm.run, o1]
        exact iha a _ (congrFun h1 a) o2 r h
      · obtain ⟨o1, o2⟩ := ho.2 a ha
        simp only [Tm.run, o1]
        exact ihb a _ (congrFun h2 a) o2 r h
    | q x k => cases x <;> simp [Tr.norm] at hn
    | _ => simp [Tr.norm] at hn
  | loop3 c σ m ea eb ec ka kb kc iha ihb ihc =>
    intro tm hn ho r h
    cases tm with
    | loop c' σ' k' =>
      simp only [Tr.norm, Tr.loop3.injEq, heq_eq_eq, true_and] at hn
      obtain ⟨rfl, rfl, h1, h2, h3⟩ := hn
      simp only [Tr.den, Option.bind_eq_some_iff] at h
      obtain ⟨a, ha, h⟩ := h
      rcases a with a | a | a
      · obtain ⟨o1, o2⟩ := ho.1 a ha
        simp only [Tm.run, o1]
        exact iha a _ (congrFun h1 a) o2 r h
      · obtain ⟨o1, o2⟩ := ho.2.1 a ha
        simp only [Tm.run, o1]
        exact ihb a _ (congrFun h2 a) o2 r h
      · obtain ⟨o1, o2⟩ := ho.2.2 a ha
        simp only [Tm.run, o1]
        exact ihc a _ (congrFun h3 a) o2 r h
    | q x k => cases x <;> simp [Tr.norm] at hn
    | _ => simp [Tr.norm] at hn
end

/-! ### Rounds of plain functions -/
section
variable {A α : Type}
def iter (b : A → Option (A ⊕ α)) : Nat → A → Option α
  | 0, _ => none
  | n + 1, a => (b a).bind fun
    | .inl a => iter b n a
    | .inr r => some r
/-- a loop whose round is told by a plan -/
theorem iter_rounds {round : St → Option (Ex × St)} {b : A → Option (A ⊕ α)} {σ : A → St} {e : α → Ex × St} (h : ∀ a, (∀ a', b a = some (.inl a') → round (σ a) = some (.norm, σ a')) ∧ (∀ r, b a = some (.inr r) → round (σ a) = some (e r) ∧ (e r).1 ≠ .norm)) :
    ∀ (n : Nat) (a : A) (r : α), iter b n a = some r → roundsF round n (σ a) = some (e r)
  | 0, a, r, hr => by cases hr
  | n + 1, a, r, hr => by
    simp only [iter, Option.bind_eq_some_iff] at hr
    obtain ⟨x, hx, hr⟩ := hr
    obtain ⟨h1, h2⟩ := h a
    cases x with
    | inl a' =>
      rw [roundsF, h1 a' hx]
      exact iter_rounds h n a' r hr
    | inr r' =>
      cases hr
      obtain ⟨h3, h4⟩ := h2 r hx
      rw [roundsF, h3]
      split
      · rename_i heq
        exfalso; apply h4
        simp only [Option.some.injEq] at heq
        rw [heq]
      · rfl
end

/-! ### What is printed is closed by these -/
section
variable {P : Program} {g : Cfg}
theorem fn_ok {ρ : Type} {f : FuncId} {args : List AV} {H : Heap} {enc : ρ → AV × Heap} {k : Nat} (hg : g.ext f = none) (tr : Tr ρ (AV × Heap)) (hn : tr.norm (bodyT P (evalFn P g k) g f args H) = tr)
    (ho : tr.ok (loopsF P g.kd (evalFn P g k) H.length (g.an f) k) enc) {r : ρ} (hr : tr.den = some r) : evalFn P g (k + 1) f args H = some (enc r) := by
  simp only [evalFn, hg]
  rw [← bodyT_run]
  exact tr.sound _ hn ho r hr
theorem loop_ok {A α : Type} {kd : TypeId → List Nat} {call : CallF} {m : Nat} {an : Nat → Ann} {fuel : Nat} {c : Code} {σ : A → St} {e : α → Ex × St} {b : A → Option (A ⊕ α)} (tr : A → Tr (A ⊕ α) (Ex × St)) (hd : ∀ a, (tr a).den = b a)
    (hn : ∀ a, (tr a).norm (roundT P kd call m an c (σ a)) = tr a) (ho : ∀ a, (tr a).ok (loopsF P kd call m an fuel) (Sum.elim (fun a => (.norm, σ a)) e)) (he : ∀ r, (e r).1 ≠ .norm) {a : A} {r : α} (hr : iter b fuel a = some r) :
    loopsF P kd call m an fuel c (σ a) = some (e r) := by
  rw [loopsF_rounds]
  refine iter_rounds (b := b) (fun a => ⟨fun a' ha => ?_, fun r ha => ⟨?_, he r⟩⟩) fuel a r hr
  · exact (tr a).sound _ (hn a) (ho a) (.inl a') ((hd a).trans ha)
  · exact (tr a).sound _ (hn a) (ho a) (.inr r) ((hd a).trans ha)
end

/-! ### Shorter words of plans -/
abbrev Tr.as {ρ R : Type} (b : Bool) (t e : Tr ρ R) : Tr ρ R := .ask b b t e
abbrev lf {A R : Type} (σ : A → St) (a : A) : Tr (A ⊕ R) (Ex × St) := .ret (.inl a) (.norm, σ a)
abbrev rx {A R : Type} (e : R → Ex × St) (r : R) : Tr (A ⊕ R) (Ex × St) := .ret (.inr r) (e r)
abbrev rt {ρ : Type} (e : ρ → AV × Heap) (r : ρ) : Tr ρ (AV × Heap) := .ret r (e r)

def yesN {ρ R : Type} : Nat → Bool → Tr ρ R → Tr ρ R
  | 0, _, t => t
  | n + 1, b, t => .yes b (yesN n b t)
def noN {ρ R : Type} : Nat → Bool → Tr ρ R → Tr ρ R
  | 0, _, t => t
  | n + 1, b, t => .no b (noN n b t)
theorem yesN_ok {ρ R : Type} {lp : Loops} {enc : ρ → R} (n : Nat) {b : Bool} {t : Tr ρ R} (h : b = true) (k : t.ok lp enc) : (yesN n b t).ok lp enc := by
  induction n with
  | zero => exact k
  | succ n ih => exact ⟨h, ih⟩
theorem noN_ok {ρ R : Type} {lp : Loops} {enc : ρ → R} (n : Nat) {b : Bool} {t : Tr ρ R} (h : b = false) (k : t.ok lp enc) : (noN n b t).ok lp enc := by
  induction n with
  | zero => exact k
  | succ n ih => exact ⟨h, ih⟩

/-! ### Loops by their places -/
def findLoop (r : Nat) : Code → Option Code
  | .seq a b => match findLoop r a with
    | some c => some c
    | none => findLoop r b
  | .cond _ a b => match findLoop r a with
    | some c => some c
    | none => findLoop r b
  | .block _ c | .scope c => findLoop r c
  | .loop c => if rid c = r then some c else findLoop r c
  | _ => none
def loopAt (P : Program) (f : FuncId) (r : Nat) : Code := (((P.funcs[f]?).bind (·.body)).bind (findLoop r)).getD .skip

/-! ### What integers come to -/
abbrev w64 (x : Int) : Int := IntKind.i64.wrap x
def andI (k : IntKind) (x y : Int) : Int := k.wrap (BitVec.ofInt k.bits x &&& BitVec.ofInt k.bits y).toNat
def orI (k : IntKind) (x y : Int) : Int := k.wrap (BitVec.ofInt k.bits x ||| BitVec.ofInt k.bits y).toNat
def xorI (k : IntKind) (x y : Int) : Int := k.wrap (BitVec.ofInt k.bits x ^^^ BitVec.ofInt k.bits y).toNat
def andNotI (k : IntKind) (x y : Int) : Int := k.wrap (BitVec.ofInt k.bits x &&& ~~~BitVec.ofInt k.bits y).toNat
def shlI (k : IntKind) (x y : Int) : Int := k.wrap (x * 2 ^ (min y.toNat k.bits))
def shrI (k : IntKind) (x y : Int) : Int := x.fdiv (2 ^ (min y.toNat k.bits))

/-! ### Rows of plain elements -/
section
variable {T : Type} {C : T → List AV}
theorem rows_get {l : List T} {n : Nat} {a : T} (h : l[n]? = some a) : (l.map C)[n]? = some (C a) := by rw [List.getElem?_map, h]; rfl
theorem rows_all {s : Nat} (h : ∀ a, (C a).length = s) (l : List T) : (l.map C).all (fun r => r.length == s) = true := by
  rw [List.all_eq_true]; intro r hr; obtain ⟨x, _, rfl⟩ := List.mem_map.1 hr; simp [h]
end
end Go.Ab
namespace Go.Ab
section
variable {α β γ A : Type}
def Le (x y : Option α) : Prop := ∀ r, x = some r → y = some r
theorem Le.refl (x : Option α) : Le x x := fun _ h => h
theorem Le.cond {b : Bool} {x y x' y' : Option α} (h1 : Le x x') (h2 : Le y y') : Le (bif b then x else y) (bif b then x' else y') := by cases b <;> assumption
theorem Le.bind {x x' : Option α} {g g' : α → Option β} (h : Le x x') (hg : ∀ a, Le (g a) (g' a)) : Le (x.bind g) (x'.bind g') := by
  intro r hr
  obtain ⟨a, ha, hr⟩ := Option.bind_eq_some_iff.1 hr
  rw [h a ha]; exact hg a r hr
theorem Le.sum {f f' : α → Option γ} {g g' : β → Option γ} (hf : ∀ a, Le (f a) (f' a)) (hg : ∀ a, Le (g a) (g' a)) (x : α ⊕ β) : Le (Sum.elim f g x) (Sum.elim f' g' x) := by
  cases x
  · exact hf _
  · exact hg _
theorem Le.iter {b b' : A → Option (A ⊕ α)} (h : ∀ a, Le (b a) (b' a)) : ∀ {j k : Nat} (hj : j ≤ k) (a : A), Le (iter b j a) (iter b' k a)
  | 0, _, _, a => fun r hr => by cases hr
  | j + 1, 0, hj, a => absurd hj (by omega)
  | j + 1, k + 1, hj, a => by
    simp only [Ab.iter]
    refine Le.bind (h a) fun x => ?_
    cases x with
    | inl a' => exact Le.iter h (by omega) a'
    | inr r => exact .refl _
def Cv (F : Nat → Option α) (x : Option α) : Prop := (∀ k, Le (F k) (F (k + 1))) ∧ ∀ r, x = some r ↔ ∃ k, F k = some r
theorem Cv.le {F : Nat → Option α} {x : Option α} (h : Cv F x) {j k : Nat} (hj : j ≤ k) : Le (F j) (F k) := by
  induction hj with
  | refl => exact .refl _
  | step _ ih => exact fun r e => h.1 _ r (ih r e)
theorem Cv.const (x : Option α) : Cv (fun _ => x) x := ⟨fun _ => .refl _, fun r => ⟨fun h => ⟨0, h⟩, fun ⟨_, h⟩ => h⟩⟩
theorem Cv.cond {b : Bool} {F G : Nat → Option α} {x y : Option α} (h1 : Cv F x) (h2 : Cv G y) : Cv (fun k => bif b then F k else G k) (bif b then x else y) := by cases b <;> assumption
theorem Cv.bind {F : Nat → Option α} {x : Option α} {G : Nat → α → Option β} {g : α → Option β} (h : Cv F x) (hg : ∀ a, Cv (fun k => G k a) (g a)) : Cv (fun k => (F k).bind (G k)) (x.bind g) := by
  refine ⟨fun k => Le.bind (h.1 k) fun a => (hg a).1 k, fun r => ⟨fun e => ?_, fun ⟨k, e⟩ => ?_⟩⟩
  · obtain ⟨a, ha, hr⟩ := Option.bind_eq_some_iff.1 e
    obtain ⟨i, hi⟩ := (h.2 a).1 ha
    obtain ⟨j, hj⟩ := ((hg a).2 r).1 hr
    refine ⟨max i j, ?_⟩
    show (F (max i j)).bind (G (max i j)) = some r
    rw [h.le (Nat.le_max_left i j) a hi]
    exact (hg a).le (Nat.le_max_right i j) r hj
  · obtain ⟨a, ha, hr⟩ := Option.bind_eq_some_iff.1 e
    rw [(h.2 a).2 ⟨k, ha⟩]; exact ((hg a).2 r).2 ⟨k, hr⟩
theorem Cv.sum {F : Nat → α → Option γ} {f : α → Option γ} {G : Nat → β → Option γ} {g : β → Option γ} (hf : ∀ a, Cv (fun k => F k a) (f a)) (hg : ∀ a, Cv (fun k => G k a) (g a)) (x : α ⊕ β) :
    Cv (fun k => Sum.elim (F k) (G k) x) (Sum.elim f g x) := by
  cases x
  · exact hf _
  · exact hg _
theorem Cv.uniq {F : Nat → Option α} {x y : Option α} (h1 : Cv F x) (h2 : Cv F y) : x = y := by
  cases x with
  | some r => exact ((h2.2 r).2 ((h1.2 r).1 rfl)).symm
  | none => cases y with
    | none => rfl
    | some r => exact (h1.2 r).2 ((h2.2 r).1 rfl)
open Classical in
noncomputable def lim (F : Nat → Option α) : Option α := if h : ∃ r, ∃ k, F k = some r then some h.choose else none
theorem Cv.lim {F : Nat → Option α} (h : ∀ k, Le (F k) (F (k + 1))) : Cv F (Ab.lim F) := by
  have hle : ∀ {j k : Nat}, j ≤ k → Le (F j) (F k) := by
    intro j k hj
    induction hj with
    | refl => exact .refl _
    | step _ ih => exact fun r e => h _ r (ih r e)
  refine ⟨h, fun r => ?_⟩
  unfold Ab.lim
  split
  · rename_i hx
    obtain ⟨i, hi⟩ := hx.choose_spec
    constructor
    · intro e
      simp only [Option.some.injEq] at e
      rw [← e]; exact ⟨i, hi⟩
    · rintro ⟨k, hk⟩
      have h1 := hle (Nat.le_max_left i k) _ hi
      have h2 := hle (Nat.le_max_right i k) _ hk
      rw [h1] at h2; exact h2
  · rename_i hx
    constructor
    · intro e; cases e
    · rintro ⟨k, hk⟩; exact absurd ⟨r, k, hk⟩ hx
theorem Cv.shift {F : Nat → Option α} {x : Option α} (h : Cv F x) : Cv (fun k => F (k + 1)) x :=
  ⟨fun k => h.1 (k + 1), fun r => ⟨fun e => let ⟨k, hk⟩ := (h.2 r).1 e; ⟨k, h.1 k r hk⟩, fun ⟨k, hk⟩ => (h.2 r).2 ⟨k + 1, hk⟩⟩⟩
/-- what a loop comes to -/
noncomputable def loopW (b : A → Option (A ⊕ α)) (a : A) : Option α := lim fun k => iter b k a
theorem loopW_cv (b : A → Option (A ⊕ α)) (a : A) : Cv (fun k => iter b k a) (loopW b a) := .lim fun k => Le.iter (fun _ => .refl _) (Nat.le_succ k) a
theorem loopW_eq (b : A → Option (A ⊕ α)) (a : A) : loopW b a = (b a).bind (Sum.elim (loopW b) some) := by
  refine Cv.uniq (loopW_cv b a).shift ?_
  have : Cv (fun k => (b a).bind (Sum.elim (fun a' => iter b k a') some)) ((b a).bind (Sum.elim (loopW b) some)) :=
    Cv.bind (.const _) fun x => Cv.sum (fun a' => loopW_cv b a') (g := some) (G := fun _ => some) (fun r => .const (some r)) x
  have e : (fun k => iter b (k + 1) a) = fun k => (b a).bind (Sum.elim (fun a' => iter b k a') some) := by
    funext k
    simp only [Ab.iter]
    congr 1; funext x; cases x <;> rfl
  rw [e]; exact this
theorem iter_lim {B : Nat → A → Option (A ⊕ α)} {b : A → Option (A ⊕ α)} (h : ∀ a, Cv (fun k => B k a) (b a)) {r : α} : ∀ (n : Nat) (a : A), iter b n a = some r → ∃ k, iter (B k) n a = some r
  | 0, _, e => by cases e
  | n + 1, a, e => by
    simp only [Ab.iter] at e
    obtain ⟨x, hx, e⟩ := Option.bind_eq_some_iff.1 e
    obtain ⟨i, hi⟩ := ((h a).2 x).1 hx
    cases x with
    | inr r' => cases e; exact ⟨i, by simp only [Ab.iter, hi, Option.bind_some]⟩
    | inl a' =>
      obtain ⟨j, hj⟩ := iter_lim h n a' e
      refine ⟨max i j, ?_⟩
      simp only [Ab.iter, (h a).le (Nat.le_max_left i j) _ hi, Option.bind_some]
      exact Le.iter (fun a => (h a).le (Nat.le_max_right i j)) (Nat.le_refl n) a' r hj
theorem Cv.iter {B : Nat → A → Option (A ⊕ α)} {b : A → Option (A ⊕ α)} (h : ∀ a, Cv (fun k => B k a) (b a)) (a : A) : Cv (fun k => iter (B k) k a) (loopW b a) := by
  refine ⟨fun k => Le.iter (fun a => (h a).1 k) (Nat.le_succ k) a, fun r => ⟨fun e => ?_, fun ⟨k, e⟩ => ?_⟩⟩
  · obtain ⟨n, hn⟩ := ((loopW_cv b a).2 r).1 e
    obtain ⟨k, hk⟩ := iter_lim h n a hn
    exact ⟨max n k, Le.iter (fun a => (h a).le (Nat.le_max_right n k)) (Nat.le_max_left n k) a r hk⟩
  · exact ((loopW_cv b a).2 r).2 ⟨k, Le.iter (fun a r hr => ((h a).2 r).2 ⟨k, hr⟩) (Nat.le_refl k) a r e⟩
end
/-! ### Texts -/
def eqS (x y : ByteArray) : Bool := x.toList == y.toList
theorem toList_loop (s : ByteArray) : ∀ (n i : Nat) (r : List UInt8), s.size - i = n → ByteArray.toList.loop s i r = r.reverse ++ s.data.toList.drop i
  | 0, i, r, h => by
    rw [ByteArray.toList.loop]
    have hs : s.data.toList.length = s.size := rfl
    rw [if_neg (by omega), List.drop_eq_nil_of_le (by omega), List.append_nil]
  | n + 1, i, r, h => by
    rw [ByteArray.toList.loop]
    have hs : s.data.toList.length = s.size := rfl
    rw [if_pos (by omega), toList_loop s n (i+1) _ (by omega)]
    rw [List.drop_eq_getElem_cons (by omega : i < s.data.toList.length)]
    simp [ByteArray.get!, getElem!_def, Array.getElem?_eq_getElem (by have : s.data.size = s.size := rfl; omega : i < s.data.size)]
theorem toList_eq (s : ByteArray) : s.toList = s.data.toList := by
  unfold ByteArray.toList; rw [toList_loop s s.size 0 [] (by omega)]; simp
/-- a text's bytes -/
abbrev bl (s : ByteArray) : List UInt8 := s.data.toList
theorem bl_inj {a b : ByteArray} (h : bl a = bl b) : a = b := by cases a; cases b; simpa using h
theorem eqS_iff {x y : ByteArray} : eqS x y = true ↔ x = y := by
  simp only [eqS, toList_eq, beq_iff_eq]
  exact ⟨bl_inj, fun h => h ▸ rfl⟩
theorem eqS_decide {x y : ByteArray} : eqS x y = decide (bl x = bl y) := by
  rw [Bool.eq_iff_iff, eqS_iff, decide_eq_true_iff]; exact ⟨fun h => h ▸ rfl, bl_inj⟩
theorem bl_size (s : ByteArray) : s.size = (bl s).length := rfl
theorem bl_append (a b : ByteArray) : bl (a ++ b) = bl a ++ bl b := by simp [bl, ByteArray.data_append]
theorem bl_extract (s : ByteArray) (i j : Nat) : bl (s.extract i j) = ((bl s).take j).drop i := by
  simp [bl, ByteArray.data_extract, List.extract_eq_take_drop, Array.toList_extract, List.drop_take]
theorem bl_mk (l : List UInt8) : bl ⟨l.toArray⟩ = l := by simp [bl]
theorem bl_getD (s : ByteArray) (i : Nat) (d : UInt8) : s.data.getD i d = (bl s).getD i d := by simp [bl, Array.getD_eq_getD_getElem?]
end Go.Ab
namespace Go.Ab
section
variable {T : Told} {P : Program} {B : Base} {c : Ctx} {H : Heap} {w w' : World}
theorem Inv.below (I : Inv B c H w) (h : RowKit.Below w.heap.size w w') : Inv B c H w' ∧ Later c w c w' := by
  obtain ⟨h1, h2, h3, h4, h5⟩ := h
  have L : Later c w c w' := ⟨fun _ h => h, fun _ _ _ h => h, fun _ _ h => h, fun b o hz => cell_of_heap (h5 b (I.zlt b o hz)) o⟩
  exact ⟨I.step L h4 h1 h2 h3 (fun _ => False) (fun b hb _ => h5 b hb) (fun _ h => h.elim) (fun _ => .inl ⟨rfl, rfl, fun _ _ _ _ h => h⟩) I.inj (fun _ _ h => .inl h) I.zob, L⟩
theorem repL_sc : ∀ {us vs : List Value}, RepL c w (us.map .sc) vs → vs = us
  | [], _, .nil => rfl
  | u :: us, _, .cons _ _ _ _ h t => by cases h; rw [repL_sc t]
/-- values without an address in, one out -/
theorem fnOK1_scal {f : FuncId} {x : List AV → Heap → Option (AV × Heap)}
    (h : ∀ args H res H', x args H = some (res, H') → H' = H ∧ ∃ (us : List Value) (r : Value), args = us.map .sc ∧ res = .sc r ∧ scal r = true ∧ ∀ Z w, T.T Z w → Calls P f us.toArray w fun e w' => e = .returned r ∧ RowKit.Below w.heap.size w w') : FnOK1 T P f x := by
  intro args H res H' c w vs hx hT I hK hv
  obtain ⟨rfl, us, r, rfl, rfl, hr, hc⟩ := h args H res H' hx
  obtain rfl := repL_sc hv
  refine (hc c.Z w hT).mono ?_
  rintro e w' ⟨rfl, hb⟩
  obtain ⟨I', L⟩ := I.below hb
  exact ⟨r, c, rfl, I', .sc r hr, L⟩
/-- new cells are there for good -/
theorem Inv.fresh (I : Inv B c H w) (hb : RowKit.Below w.heap.size w w') (Zn : Nat → Nat → Prop) (hZ : ∀ b o, Zn b o → w.heap.size ≤ b ∧ b < w'.heap.size) :
    Inv B { c with Z := fun b o => c.Z b o ∨ Zn b o } H w' ∧ Later c w { c with Z := fun b o => c.Z b o ∨ Zn b o } w' := by
  obtain ⟨h1, h2, h3, h4, h5⟩ := hb
  have L : Later c w { c with Z := fun b o => c.Z b o ∨ Zn b o } w' := ⟨fun _ h => h, fun _ _ _ h => h, fun _ _ h => .inl h, fun b o hz => cell_of_heap (h5 b (I.zlt b o hz)) o⟩
  refine ⟨I.step L h4 h1 h2 h3 (fun _ => False) (fun b hb _ => h5 b hb) (fun _ h => h.elim) (fun _ => .inl ⟨rfl, rfl, fun _ _ _ _ h => h⟩) I.inj (fun b o h => ?_) ?_, L⟩
  · rcases h with h | h
    · exact .inl h
    · exact .inr (.inr (hZ b o h))
  · intro b o h id sh hs hbl
    rcases h with h | h
    · exact I.zob b o h id sh hs hbl
    · have := (I.bnd id sh b hs hbl).1
      have := (hZ b o h).1
      omega
theorem flatten_sing {α : Type} (f : α → AV) (xs : List α) : (xs.map fun x => [f x]).flatten = xs.map f := by
  induction xs with
  | nil => rfl
  | cons x xs ih => rw [List.map_cons, List.flatten_cons, ih, List.map_cons]; rfl
theorem flatten_single (xs : List Value) : (xs.map fun x => [AV.sc x]).flatten = xs.map .sc := by
  induction xs with
  | nil => rfl
  | cons x xs ih => rw [List.map_cons, List.flatten_cons, ih]; rfl
/-- a row that a call made, of values without an address -/
theorem rep_owned (I : Inv B c H w) (hb : RowKit.Below w.heap.size w w') {e : TypeId} {v : Value} {n : Nat} {xs : List Value} (h : w'.ownsRow w.heap.size e 1 v n xs) (hs : xs.all scal = true) :
    ∃ c', Inv B c' H w' ∧ Later c w c' w' ∧ Rep c' w' (.sl (xs.map fun x => [.sc x])) v := by
  obtain ⟨hl, h⟩ := h
  rcases h with ⟨rfl, rfl⟩ | ⟨g, cap, cur, rfl, hg, hgc, hn, hm, hsz, ht⟩
  · have : xs = [] := List.eq_nil_of_length_eq_zero (by omega)
    subst this
    obtain ⟨I', L⟩ := I.below hb
    exact ⟨c, I', L, .slnil⟩
  · have hlt : g < w'.heap.size := (Array.getElem?_eq_some_iff.1 hgc).1
    obtain ⟨I', L⟩ := I.fresh hb (fun b o => b = g) (fun b o h => by subst h; exact ⟨hg, hlt⟩)
    refine ⟨_, I', L, ?_⟩
    have hlen : (xs.map fun x => [AV.sc x]).length = n := by rw [List.length_map]; omega
    have := Rep.sl (c := { c with Z := fun b o => c.Z b o ∨ b = g }) (w := w') 1 (xs.map fun x => [AV.sc x]) g 0 cap (by simp) (by rw [hlen]; exact hn) (by
      rw [flatten_single]
      refine RepC.of_get fun i a ha => ?_
      rw [List.getElem?_map, Option.map_eq_some_iff] at ha
      obtain ⟨x, hx, rfl⟩ := ha
      have hx0 := hx
      rw [← ht, List.getElem?_take] at hx
      split at hx
      · have hsx : scal x = true := List.all_eq_true.1 hs x (List.mem_of_getElem? hx0)
        refine ⟨x, ?_, .inr rfl, rfl, oneCell_leaf (c := c) (w := w') (.sc x hsx) rfl, .sc x hsx⟩
        rw [cell_of_row w' g (0 + i) cur e (0, 0) hgc]; simpa using hx
      · cases hx)
    rw [hlen] at this
    exact this
/-- a row of texts -/
def strsOf : List (List AV) → Option (List ByteArray)
  | [] => some []
  | [.sc (.string z)] :: l => (strsOf l).map (z :: ·)
  | _ => none
theorem strsOf_eq : ∀ {rows : List (List AV)} {zs : List ByteArray}, strsOf rows = some zs → rows = zs.map fun z => [.sc (.string z)]
  | [], zs, h => by simp only [strsOf, Option.some.injEq] at h; subst h; rfl
  | r :: l, zs, h => by
    unfold strsOf at h
    split at h
    · rename_i e; cases e
    · rename_i z l' e
      cases e
      obtain ⟨zs', h', rfl⟩ := Option.map_eq_some_iff.1 h
      rw [strsOf_eq h']; rfl
    · cases h
def cloneX (args : List AV) (H : Heap) : Option (AV × Heap) := match args with
  | [.sl rows] => (strsOf rows).bind fun zs => if zs.length * 16 ≤ 140737488355328 then some (.sl rows, H) else none
  | _ => none
theorem fnOK1_clone {f : FuncId} {e_ : TypeId} (hnil : ∀ (n cap : Nat) (w : World), Calls P f #[.slice none n cap] w fun e w' => e = .returned (.slice none 0 0) ∧ w' = w)
    (hzero : ∀ (p : Addr) (cap : Nat) (w : World), Calls P f #[.slice (some p) 0 cap] w fun e w' => ∃ v', e = .returned v' ∧ w'.ownsRow w.heap.size e_ 1 v' 0 [] ∧ RowKit.Below w.heap.size w w')
    (hsome : ∀ (b off n cap : Nat) (zs : List ByteArray) (w : World), n ≤ zs.length → n * 16 ≤ 140737488355328 → (∀ j, j < zs.length → w.cell? ⟨b, off + j, none⟩ = some (.string (zs.getD j ByteArray.empty))) →
      Calls P f #[.slice (some ⟨b, off, none⟩) n cap] w fun x w' => ∃ v', x = .returned v' ∧ w'.ownsRow w.heap.size e_ 1 v' n ((zs.take n).map (Value.string)) ∧ v' ≠ .slice none 0 0 ∧ RowKit.Below w.heap.size w w') : FnOK1 T P f cloneX := by
  intro args H res H' c w vs hx hT I hK hv
  unfold cloneX at hx
  split at hx
  · rename_i rows
    obtain ⟨zs, hz, hx⟩ := Option.bind_eq_some_iff.1 hx
    split at hx
    · rename_i hbig
      simp only [Option.some.injEq, Prod.mk.injEq] at hx
      obtain ⟨rfl, rfl⟩ := hx
      have hrows := strsOf_eq hz
      subst hrows
      cases hv with
      | cons _ v _ vs hv ht =>
        cases ht
        generalize hR : (zs.map fun z => [AV.sc (.string z)]) = R at hv
        cases hv with
        | slnil =>
          refine (hnil 0 0 w).mono ?_
          rintro x w' ⟨rfl, rfl⟩
          exact ⟨_, c, rfl, I, .slnil, .refl _ _⟩
        | sl0 p cap =>
          refine (hzero p cap w).mono ?_
          rintro x w' ⟨v', rfl, hown, hb⟩
          obtain ⟨c', I', L, hr⟩ := rep_owned I hb hown (by simp)
          exact ⟨v', c', rfl, I', hr, L⟩
        | sl s _ b o cap hs hc hrc =>
          subst hR
          have hfl : (zs.map fun z => [AV.sc (.string z)]).flatten = zs.map fun z => .sc (.string z) := flatten_sing (fun z => AV.sc (.string z)) zs
          rw [hfl] at hrc
          rw [List.length_map]
          refine (hsome b o zs.length cap zs w (Nat.le_refl _) hbig (fun j hj => ?_)).mono ?_
          · obtain ⟨v, h1, _, _, _, h2⟩ := hrc.get j (.sc (.string zs[j])) (by simp [hj])
            cases h2
            rw [h1, List.getD_eq_getElem?_getD, List.getElem?_eq_getElem hj]; rfl
          · rintro x w' ⟨v', rfl, hown, _, hb⟩
            rw [List.take_length] at hown
            obtain ⟨c', I', L, hr⟩ := rep_owned I hb hown (by simp [scal])
            rw [List.map_map] at hr
            exact ⟨v', c', rfl, I', hr, L⟩
    · cases hx
  · cases hx
theorem strsOf_map (l : List ByteArray) : strsOf (l.map fun z => [.sc (.string z)]) = some l := by
  induction l with
  | nil => rfl
  | cons x l ih => rw [List.map_cons, strsOf, ih]; rfl
def cloneS (l : List ByteArray) : Option (List ByteArray) := if l.length * 16 ≤ 140737488355328 then some l else none
theorem clone_ok {l r : List ByteArray} (h : cloneS l = some r) : cloneX [.sl (l.map fun z => [.sc (.string z)])] [] = some (.sl (r.map fun z => [.sc (.string z)]), []) := by
  unfold cloneS at h
  split at h
  · rename_i hb; cases h; simp only [cloneX, strsOf_map, Option.bind_some, if_pos hb]
  · cases h
/-! ### strconv.Itoa -/
def itoaS (n : Int) : Option ByteArray := if -9223372036854775808 ≤ n ∧ n ≤ 9223372036854775807 then some ⟨(Lib.itoa n).toArray⟩ else none
def itoaX (args : List AV) (H : Heap) : Option (AV × Heap) := match args with
  | [.sc (.int .i64 n)] => (itoaS n).map fun s => (.sc (.string s), H)
  | _ => none
theorem itoa_ok {n : Int} {r : ByteArray} (h : itoaS n = some r) : itoaX [.sc (.int .i64 n)] [] = some (.sc (.string r), []) := by simp only [itoaX, h, Option.map_some]
theorem fnOK1_itoa {f : FuncId} (h : ∀ (n : Int) (Z : Nat → Nat → Prop) (w : World), -9223372036854775808 ≤ n → n ≤ 9223372036854775807 → T.T Z w → Calls P f #[.int .i64 n] w fun e w' => e = .returned (.string ⟨(Lib.itoa n).toArray⟩) ∧ RowKit.Below w.heap.size w w') : FnOK1 T P f itoaX := by
  refine fnOK1_scal fun args H res H' hx => ?_
  unfold itoaX at hx
  split at hx
  · rename_i n
    obtain ⟨s, hs, hx⟩ := Option.map_eq_some_iff.1 hx
    simp only [Prod.mk.injEq] at hx
    obtain ⟨rfl, rfl⟩ := hx
    unfold itoaS at hs
    split at hs
    · rename_i hb; cases hs
      exact ⟨rfl, [.int .i64 n], _, rfl, rfl, rfl, fun Z w hT => h n Z w hb.1 hb.2 hT⟩
    · cases hs
  · cases hx
end
end Go.Ab
namespace Go.Ab
def fitsS (v b : Int) : Option Bool := if 1 ≤ b then (if b ≤ 41 then some (decide (-(2 ^ (b - 1).toNat) ≤ v ∧ v < 2 ^ (b - 1).toNat)) else none) else none
def fitsX (args : List AV) (H : Heap) : Option (AV × Heap) := match args with
  | [.sc (.int .i64 v), .sc (.int .i64 b)] => (fitsS v b).map fun r => (.sc (.bool r), H)
  | _ => none
theorem fits_ok {v b : Int} {r : Bool} (h : fitsS v b = some r) : fitsX [.sc (.int .i64 v), .sc (.int .i64 b)] [] = some (.sc (.bool r), []) := by simp only [fitsX, h, Option.map_some]
theorem fnOK1_fits {T : Told} {P : Program} {f : FuncId} (h : ∀ (v b : Int) (r : Bool) (w : World), fitsS v b = some r → Calls P f #[.int .i64 v, .int .i64 b] w fun e w' => e = .returned (.bool r) ∧ RowKit.Below w.heap.size w w') : FnOK1 T P f fitsX := by
  refine fnOK1_scal fun args H res H' hx => ?_
  unfold fitsX at hx
  split at hx
  · rename_i v b
    obtain ⟨r, hr, hx⟩ := Option.map_eq_some_iff.1 hx
    simp only [Prod.mk.injEq] at hx
    obtain ⟨rfl, rfl⟩ := hx
    exact ⟨rfl, [.int .i64 v, .int .i64 b], _, rfl, rfl, rfl, fun Z w _ => h v b r w hr⟩
  · cases hx
end Go.Ab
namespace Go.Ab
theorem w64_in {n : Int} (h1 : -9223372036854775808 ≤ n) (h2 : n ≤ 9223372036854775807) : w64 n = n := IntWalk.i64_in n ⟨h1, h2⟩
/-- what 'within' of each chapter comes to -/
def withinV (a n : Int) : Option Int := bif (decide (n ≠ 0)) then (bif (decide ((Int.tmod a n) < (0 : Int))) then (some (w64 ((Int.tmod a n) + n))) else (some (Int.tmod a n))) else none
theorem withinV_eq (a n : Int) (hn : 0 < n) (hn2 : n ≤ 4611686018427387904) : withinV a n = some (a % n) := by
  have h1 := Int.emod_nonneg a (by omega : n ≠ 0)
  have h2 := Int.emod_lt_of_pos a hn
  have h3 := Int.tmod_eq_emod (a := a) (b := n)
  unfold withinV
  rw [decide_eq_true (by omega), cond_true]
  have hb : (n.natAbs : Int) = n := by omega
  by_cases h : 0 ≤ a ∨ n ∣ a
  · rw [if_pos h] at h3
    rw [h3, decide_eq_false (by omega), cond_false]; simp
  · rw [if_neg h, hb] at h3
    rw [h3, decide_eq_true (by omega), cond_true, w64_in (by omega) (by omega)]
    congr 1; omega
/-- a number below n is one of these -/
theorem below_cases {p : Int → Prop} {x : Int} {n : Nat} (h0 : 0 ≤ x) (h1 : x < n) (h : ∀ i : Nat, i < n → p i) : p x := by
  have := h x.toNat (by omega)
  rwa [Int.toNat_of_nonneg h0] at this
/-- a closed run: so much fuel suffices -/
theorem cv_some {α : Type} {F : Nat → Option α} {x : Option α} (h : Cv F x) (k : Nat) {r : α} (e : F k = some r) : x = some r := (h.2 r).2 ⟨k, e⟩
/-- a loop that ends: what holds of its end -/
theorem loop_ind {A α : Type} {F : A → Option α} {b : A → Option (A ⊕ α)} (hF : ∀ a, F a = (b a).bind (Sum.elim F some)) (I : A → Prop) (Q : A → α → Prop) (μ : A → Nat)
    (h : ∀ a, I a → (∃ a', b a = some (.inl a') ∧ I a' ∧ μ a' < μ a ∧ ∀ r, Q a' r → Q a r) ∨ ∃ r, b a = some (.inr r) ∧ Q a r) : ∀ a, I a → ∃ r, F a = some r ∧ Q a r := by
  intro a
  induction hm : μ a using Nat.strongRecOn generalizing a with
  | _ m ih =>
    intro hI
    rcases h a hI with ⟨a', h1, h2, h3, h4⟩ | ⟨r, h1, h2⟩
    · obtain ⟨r, hr, hq⟩ := ih (μ a') (by omega) a' rfl h2
      exact ⟨r, by rw [hF, h1]; exact hr, h4 r hq⟩
    · exact ⟨r, by rw [hF, h1]; rfl, h2⟩
abbrev i64 (n : Int) : Prop := -9223372036854775808 ≤ n ∧ n ≤ 9223372036854775807
theorem i64_of {n : Int} (h : IntKind.i64.min ≤ n ∧ n ≤ IntKind.i64.max) : i64 n := h
theorem get_nat {T : Type} (l : List T) {i : Nat} (h : i < l.length) : l[(i : Int).toNat]? = some l[i] := by
  rw [Int.toNat_natCast]; exact List.getElem?_eq_getElem h
theorem maxLen_lt : maxLen = 9223372036854775807 := by decide
end Go.Ab
namespace Go.Ab
open Go.Proofs
def C_i64 (x : Int) : List AV := [.sc (.int .i64 x)]
def R_i64 (l : List Int) : List (List AV) := l.map C_i64
theorem R_i64_map (l : List Int) : l.map C_i64 = R_i64 l := rfl
theorem R_i64_append (l m : List Int) : R_i64 l ++ R_i64 m = R_i64 (l ++ m) := by simp only [← R_i64_map, List.map_append]
theorem R_i64_set (l : List Int) (i : Nat) (a : Int) : (R_i64 l).set i (C_i64 a) = R_i64 (l.set i a) := by simp only [← R_i64_map, List.map_set]
theorem R_i64_slice (l : List Int) (i n : Nat) : ((R_i64 l).drop i).take n = R_i64 ((l.drop i).take n) := by simp only [← R_i64_map, List.map_take, List.map_drop]
theorem R_i64_rep (n : Nat) (a : Int) : List.replicate n (C_i64 a) = R_i64 (List.replicate n a) := by simp only [← R_i64_map, List.map_replicate]
theorem R_i64_get {l : List Int} {n : Nat} {a : Int} (h : l[n]? = some a) : (R_i64 l)[n]? = some (C_i64 a) := by rw [← R_i64_map]; exact rows_get h
theorem R_i64_all (l : List Int) : (R_i64 l).all (fun r => r.length == 1) = true := by rw [← R_i64_map]; exact rows_all (C := C_i64) (fun _ => rfl) l
theorem R_i64_len (l : List Int) : (R_i64 l).length = l.length := by rw [← R_i64_map, List.length_map]
structure T_imm_form where
  f : Int
  scale : Int
deriving Inhabited
def C_imm_form (x : T_imm_form) : List AV := [.sc (.int .i64 x.f), .sc (.int .i64 x.scale)]
def R_imm_form (l : List T_imm_form) : List (List AV) := l.map C_imm_form
theorem R_imm_form_map (l : List T_imm_form) : l.map C_imm_form = R_imm_form l := rfl
theorem R_imm_form_append (l m : List T_imm_form) : R_imm_form l ++ R_imm_form m = R_imm_form (l ++ m) := by simp only [← R_imm_form_map, List.map_append]
theorem R_imm_form_set (l : List T_imm_form) (i : Nat) (a : T_imm_form) : (R_imm_form l).set i (C_imm_form a) = R_imm_form (l.set i a) := by simp only [← R_imm_form_map, List.map_set]
theorem R_imm_form_slice (l : List T_imm_form) (i n : Nat) : ((R_imm_form l).drop i).take n = R_imm_form ((l.drop i).take n) := by simp only [← R_imm_form_map, List.map_take, List.map_drop]
theorem R_imm_form_rep (n : Nat) (a : T_imm_form) : List.replicate n (C_imm_form a) = R_imm_form (List.replicate n a) := by simp only [← R_imm_form_map, List.map_replicate]
theorem R_imm_form_get {l : List T_imm_form} {n : Nat} {a : T_imm_form} (h : l[n]? = some a) : (R_imm_form l)[n]? = some (C_imm_form a) := by rw [← R_imm_form_map]; exact rows_get h
theorem R_imm_form_all (l : List T_imm_form) : (R_imm_form l).all (fun r => r.length == 2) = true := by rw [← R_imm_form_map]; exact rows_all (C := C_imm_form) (fun _ => rfl) l
theorem R_imm_form_len (l : List T_imm_form) : (R_imm_form l).length = l.length := by rw [← R_imm_form_map, List.length_map]
def anT : List (Nat × List (Nat × Ann)) := [
  (3, [(7, { keep := [9, 10, 11, 12, 13], out := [10, 11, 12], res := [8], own := [], full := false })]),
  (6, [(2, { keep := [0, 8, 9, 10], out := [], res := [2, 3, 4, 5], own := [], full := false })]),
  (9, [(3, { keep := [0, 1, 2, 7, 8], out := [7], res := [6], own := [], full := false })]),
  (13, [(2, { keep := [0, 1, 6], out := [], res := [4], own := [], full := false })])]
def kdT : List (Nat × List Nat) := []
def extT : List (Nat × (List AV → Heap → Option (AV × Heap))) := [(11, fitsX)]
def G : Cfg := { ext := fun f => get f extT, an := fun f r => ((get f anT).bind (get r)).getD {}, kd := fun t => (get t kdT).getD [] }
def imm_forms_e (r : (List T_imm_form)) : AV × Heap := (.sl (R_imm_form r), [])
def imm_forms_b   : Option (List T_imm_form) := (some [(T_imm_form.mk (0 : Int) (0 : Int)), (T_imm_form.mk (0 : Int) (1 : Int)), (T_imm_form.mk (0 : Int) (2 : Int)), (T_imm_form.mk (0 : Int) (3 : Int)), (T_imm_form.mk (1 : Int) (0 : Int)), (T_imm_form.mk (1 : Int) (1 : Int)), (T_imm_form.mk (1 : Int) (2 : Int)), (T_imm_form.mk (1 : Int) (3 : Int))])
def imm_forms_t (P : Program) (call : CallF)   : Tr (List T_imm_form) (AV × Heap) := (.rows [[.sc (.int .i64 (0 : Int)), .sc (.int .i64 (0 : Int))], [.sc (.int .i64 (0 : Int)), .sc (.int .i64 (1 : Int))], [.sc (.int .i64 (0 : Int)), .sc (.int .i64 (2 : Int))], [.sc (.int .i64 (0 : Int)), .sc (.int .i64 (3 : Int))], [.sc (.int .i64 (1 : Int)), .sc (.int .i64 (0 : Int))], [.sc (.int .i64 (1 : Int)), .sc (.int .i64 (1 : Int))], [.sc (.int .i64 (1 : Int)), .sc (.int .i64 (2 : Int))], [.sc (.int .i64 (1 : Int)), .sc (.int .i64 (3 : Int))]] (R_imm_form [(T_imm_form.mk (0 : Int) (0 : Int)), (T_imm_form.mk (0 : Int) (1 : Int)), (T_imm_form.mk (0 : Int) (2 : Int)), (T_imm_form.mk (0 : Int) (3 : Int)), (T_imm_form.mk (1 : Int) (0 : Int)), (T_imm_form.mk (1 : Int) (1 : Int)), (T_imm_form.mk (1 : Int) (2 : Int)), (T_imm_form.mk (1 : Int) (3 : Int))]) (rt imm_forms_e [(T_imm_form.mk (0 : Int) (0 : Int)), (T_imm_form.mk (0 : Int) (1 : Int)), (T_imm_form.mk (0 : Int) (2 : Int)), (T_imm_form.mk (0 : Int) (3 : Int)), (T_imm_form.mk (1 : Int) (0 : Int)), (T_imm_form.mk (1 : Int) (1 : Int)), (T_imm_form.mk (1 : Int) (2 : Int)), (T_imm_form.mk (1 : Int) (3 : Int))]))
theorem imm_forms_d (P : Program) (call : CallF)   : (imm_forms_t P call  ).den = imm_forms_b   := rfl
theorem imm_forms_n (call : CallF)   : (imm_forms_t Try.prog call  ).norm (bodyT Try.prog call G 12 [] []) = imm_forms_t Try.prog call   := by kernel_rfl
theorem imm_forms_k (P : Program) (call : CallF) (lp : Loops)    : (imm_forms_t P call  ).ok lp imm_forms_e := ⟨(R_imm_form_map [(T_imm_form.mk (0 : Int) (0 : Int)), (T_imm_form.mk (0 : Int) (1 : Int)), (T_imm_form.mk (0 : Int) (2 : Int)), (T_imm_form.mk (0 : Int) (3 : Int)), (T_imm_form.mk (1 : Int) (0 : Int)), (T_imm_form.mk (1 : Int) (1 : Int)), (T_imm_form.mk (1 : Int) (2 : Int)), (T_imm_form.mk (1 : Int) (3 : Int))]), rfl⟩
def imm_forms.s : Nat → Option (List T_imm_form)
  | 0 => none
  | k + 1 => imm_forms_b  
theorem imm_forms.ok : ∀ (k : Nat), ∀  (r : (List T_imm_form)), imm_forms.s k  = some r → evalFn Try.prog G k 12 [] [] = some (imm_forms_e r)
  | 0, _, h => (nomatch h)
  | k + 1, r, h => fn_ok rfl (imm_forms_t Try.prog (evalFn Try.prog G k)  ) (imm_forms_n _  ) (imm_forms_k _ _ _    ) ((imm_forms_d _ _  ).trans h)
theorem imm_forms.mono : ∀ (k : Nat), Le (imm_forms.s k ) (imm_forms.s (k + 1) )
  | 0 => fun r h => (nomatch h)
  | k + 1 => .refl _
noncomputable def imm_forms  : Option (List T_imm_form) := lim fun k => imm_forms.s k 
theorem imm_forms.cv  : Cv (fun k => imm_forms.s k ) (imm_forms ) := .lim fun k => imm_forms.mono k 
theorem imm_forms.eq  : imm_forms  = imm_forms_b   := Cv.uniq (imm_forms.cv ).shift (by exact .const _)
def imm_Sign_e (r : Int) : AV × Heap := (.sc (.int .i64 r), [])
def imm_Sign_b  (a0 : Int) (a1 : Int) : Option Int := (bif (decide (0 ≤ (w64 ((64 : Int) - (if (64 : Int) < (if (1 : Int) > a1 then (1 : Int) else a1) then (64 : Int) else (if (1 : Int) > a1 then (1 : Int) else a1)))))) then (some (shrI .i64 (shlI .i64 a0 (w64 ((64 : Int) - (if (64 : Int) < (if (1 : Int) > a1 then (1 : Int) else a1) then (64 : Int) else (if (1 : Int) > a1 then (1 : Int) else a1))))) (w64 ((64 : Int) - (if (64 : Int) < (if (1 : Int) > a1 then (1 : Int) else a1) then (64 : Int) else (if (1 : Int) > a1 then (1 : Int) else a1)))))) else none)
def imm_Sign_t (P : Program) (call : CallF)  (a0 : Int) (a1 : Int) : Tr Int (AV × Heap) := (.as (decide (0 ≤ (w64 ((64 : Int) - (if (64 : Int) < (if (1 : Int) > a1 then (1 : Int) else a1) then (64 : Int) else (if (1 : Int) > a1 then (1 : Int) else a1)))))) (.yes (decide (0 ≤ (w64 ((64 : Int) - (if (64 : Int) < (if (1 : Int) > a1 then (1 : Int) else a1) then (64 : Int) else (if (1 : Int) > a1 then (1 : Int) else a1)))))) (rt imm_Sign_e (shrI .i64 (shlI .i64 a0 (w64 ((64 : Int) - (if (64 : Int) < (if (1 : Int) > a1 then (1 : Int) else a1) then (64 : Int) else (if (1 : Int) > a1 then (1 : Int) else a1))))) (w64 ((64 : Int) - (if (64 : Int) < (if (1 : Int) > a1 then (1 : Int) else a1) then (64 : Int) else (if (1 : Int) > a1 then (1 : Int) else a1))))))) .fail)
theorem imm_Sign_d (P : Program) (call : CallF)  (a0 : Int) (a1 : Int) : (imm_Sign_t P call  a0 a1).den = imm_Sign_b  a0 a1 := rfl
theorem imm_Sign_n (call : CallF)  (a0 : Int) (a1 : Int) : (imm_Sign_t Try.prog call  a0 a1).norm (bodyT Try.prog call G 7 [.sc (.int .i64 a0), .sc (.int .i64 a1)] []) = imm_Sign_t Try.prog call  a0 a1 := by kernel_rfl
theorem imm_Sign_k (P : Program) (call : CallF) (lp : Loops)   (a0 : Int) (a1 : Int) : (imm_Sign_t P call  a0 a1).ok lp imm_Sign_e := ⟨rfl, fun h0 => ⟨h0, rfl⟩, fun h0 => trivial⟩
def imm_Sign.s : Nat → Int → Int → Option Int
  | 0, _, _ => none
  | k + 1, a0, a1 => imm_Sign_b  a0 a1
theorem imm_Sign.ok : ∀ (k : Nat), ∀ (a0 : Int) (a1 : Int) (r : Int), imm_Sign.s k a0 a1 = some r → evalFn Try.prog G k 7 [.sc (.int .i64 a0), .sc (.int .i64 a1)] [] = some (imm_Sign_e r)
  | 0, _, _, _, h => (nomatch h)
  | k + 1, a0, a1, r, h => fn_ok rfl (imm_Sign_t Try.prog (evalFn Try.prog G k)  a0 a1) (imm_Sign_n _  a0 a1) (imm_Sign_k _ _ _    a0 a1) ((imm_Sign_d _ _  a0 a1).trans h)
theorem imm_Sign.mono : ∀ (k : Nat) (a0 : Int) (a1 : Int), Le (imm_Sign.s k a0 a1) (imm_Sign.s (k + 1) a0 a1)
  | 0, _, _ => fun r h => (nomatch h)
  | k + 1, a0, a1 => .refl _
noncomputable def imm_Sign (a0 : Int) (a1 : Int) : Option Int := lim fun k => imm_Sign.s k a0 a1
theorem imm_Sign.cv (a0 : Int) (a1 : Int) : Cv (fun k => imm_Sign.s k a0 a1) (imm_Sign a0 a1) := .lim fun k => imm_Sign.mono k a0 a1
theorem imm_Sign.eq (a0 : Int) (a1 : Int) : imm_Sign a0 a1 = imm_Sign_b  a0 a1 := Cv.uniq (imm_Sign.cv a0 a1).shift (by exact .const _)
def imm_Back_e (r : Int) : AV × Heap := (.sc (.int .i64 r), [])
structure imm_Back_L1_A where
  x0 : Int
  x1 : Int
  x2 : Int
  x7 : Int
  x8 : Int
def imm_Back_L1_s (a : imm_Back_L1_A) : St := { n := 27, nx := 0, env := [(0, .sc (.int .i64 a.x0)), (1, .sc (.int .i64 a.x1)), (2, .sc (.int .i64 a.x2)), (7, .sc (.int .i64 a.x7)), (8, .sc (.int .i64 a.x8))], heap := [] }
def imm_Back_L1_e (a : Int) : Ex × St := (.exit 0, { n := 27, nx := 0, env := [(7, .sc (.int .i64 a))], heap := [] })
def imm_Back_L1_b  (a : imm_Back_L1_A) : Option (imm_Back_L1_A ⊕ Int) := (bif (decide (a.x8 ≥ (0 : Int))) then (bif (a.x0 == (1 : Int)) then (bif (a.x8 == a.x1) then (some (.inl (imm_Back_L1_A.mk a.x0 a.x1 a.x2 (orI .i64 (shlI .i64 a.x7 (8 : Int)) (andI .i64 a.x2 (255 : Int))) (w64 (a.x8 - (1 : Int)))))) else (some (.inl (imm_Back_L1_A.mk a.x0 a.x1 a.x2 (orI .i64 (shlI .i64 a.x7 (8 : Int)) (255 : Int)) (w64 (a.x8 - (1 : Int))))))) else (bif (a.x8 == a.x1) then (some (.inl (imm_Back_L1_A.mk a.x0 a.x1 a.x2 (orI .i64 (shlI .i64 a.x7 (8 : Int)) (andI .i64 a.x2 (255 : Int))) (w64 (a.x8 - (1 : Int)))))) else (some (.inl (imm_Back_L1_A.mk a.x0 a.x1 a.x2 (orI .i64 (shlI .i64 a.x7 (8 : Int)) (0 : Int)) (w64 (a.x8 - (1 : Int)))))))) else (some (.inr a.x7)))
def imm_Back_L1_t (P : Program) (call : CallF)  (a : imm_Back_L1_A) : Tr (imm_Back_L1_A ⊕ Int) (Ex × St) := (.as (decide (a.x8 ≥ (0 : Int))) (.as (a.x0 == (1 : Int)) (.as (a.x8 == a.x1) (.yes (decide (0 ≤ (8 : Int))) (lf imm_Back_L1_s (imm_Back_L1_A.mk a.x0 a.x1 a.x2 (orI .i64 (shlI .i64 a.x7 (8 : Int)) (andI .i64 a.x2 (255 : Int))) (w64 (a.x8 - (1 : Int)))))) (.yes (decide (0 ≤ (8 : Int))) (lf imm_Back_L1_s (imm_Back_L1_A.mk a.x0 a.x1 a.x2 (orI .i64 (shlI .i64 a.x7 (8 : Int)) (255 : Int)) (w64 (a.x8 - (1 : Int))))))) (.as (a.x8 == a.x1) (.yes (decide (0 ≤ (8 : Int))) (lf imm_Back_L1_s (imm_Back_L1_A.mk a.x0 a.x1 a.x2 (orI .i64 (shlI .i64 a.x7 (8 : Int)) (andI .i64 a.x2 (255 : Int))) (w64 (a.x8 - (1 : Int)))))) (.yes (decide (0 ≤ (8 : Int))) (lf imm_Back_L1_s (imm_Back_L1_A.mk a.x0 a.x1 a.x2 (orI .i64 (shlI .i64 a.x7 (8 : Int)) (0 : Int)) (w64 (a.x8 - (1 : Int)))))))) (rx imm_Back_L1_e a.x7))
theorem imm_Back_L1_d (P : Program) (call : CallF)  (a : imm_Back_L1_A) : (imm_Back_L1_t P call  a).den = imm_Back_L1_b  a := rfl
theorem imm_Back_L1_n (call : CallF)  (a : imm_Back_L1_A) : (imm_Back_L1_t Try.prog call  a).norm (roundT Try.prog G.kd call 0 (G.an 9) (loopAt Try.prog 9 3) (imm_Back_L1_s a)) = imm_Back_L1_t Try.prog call  a := by kernel_rfl
theorem imm_Back_L1_k (P : Program) (call : CallF) (lp : Loops)   (a : imm_Back_L1_A) : (imm_Back_L1_t P call  a).ok lp (Sum.elim (fun a => (.norm, imm_Back_L1_s a)) imm_Back_L1_e) := ⟨rfl, fun h0 => ⟨rfl, fun h1 => ⟨rfl, fun h2 => ⟨rfl, rfl⟩, fun h2 => ⟨rfl, rfl⟩⟩, fun h1 => ⟨rfl, fun h2 => ⟨rfl, rfl⟩, fun h2 => ⟨rfl, rfl⟩⟩⟩, fun h0 => rfl⟩
def imm_Back_L1.s (k : Nat)  : imm_Back_L1_A → Option Int := iter (imm_Back_L1_b ) k
theorem imm_Back_L1_ok (call : CallF) (k : Nat)   (a : imm_Back_L1_A) (r : Int) (h : imm_Back_L1.s k  a = some r) : loopsF Try.prog G.kd call 0 (G.an 9) k (loopAt Try.prog 9 3) (imm_Back_L1_s a) = some (imm_Back_L1_e r) :=
  loop_ok (fun a => imm_Back_L1_t Try.prog call  a) (fun a => imm_Back_L1_d _ call  a) (fun a => imm_Back_L1_n call  a) (fun a => imm_Back_L1_k _ call _   a) (fun r => nofun) h
theorem imm_Back_L1.m {j k : Nat} (hj : j ≤ k)    (a : imm_Back_L1_A) : Le (imm_Back_L1.s j  a) (imm_Back_L1.s k  a) := Le.iter (fun a => .refl _) hj a
noncomputable def imm_Back_L1.w  : imm_Back_L1_A → Option Int := loopW (imm_Back_L1_b )
theorem imm_Back_L1.cv    (a : imm_Back_L1_A) : Cv (fun k => imm_Back_L1.s k  a) (imm_Back_L1.w  a) := Cv.iter (fun a => by exact .const _) a
def imm_Back_b (c_imm_Sign : Int → Int → Option Int) (l_imm_Back_L1 : imm_Back_L1_A → Option Int) (a0 : Int) (a1 : Int) (a2 : Int) : Option Int := ((l_imm_Back_L1 (imm_Back_L1_A.mk a0 a1 a2 (0 : Int) (3 : Int))).bind (fun (o1 : Int) => ((c_imm_Sign o1 (32 : Int)).bind fun (r2 : Int) => (some r2))))
def imm_Back_t (P : Program) (call : CallF) (c_imm_Sign : Int → Int → Option Int) (l_imm_Back_L1 : imm_Back_L1_A → Option Int) (a0 : Int) (a1 : Int) (a2 : Int) : Tr Int (AV × Heap) := (.loop (loopAt P 9 3) (imm_Back_L1_s (imm_Back_L1_A.mk a0 a1 a2 (0 : Int) (3 : Int))) (l_imm_Back_L1 (imm_Back_L1_A.mk a0 a1 a2 (0 : Int) (3 : Int))) imm_Back_L1_e (fun (o1 : Int) => (.call (call 7 [.sc (.int .i64 o1), .sc (.int .i64 (32 : Int))] []) (c_imm_Sign o1 (32 : Int)) imm_Sign_e fun (r2 : Int) => (rt imm_Back_e r2))))
theorem imm_Back_d (P : Program) (call : CallF) (c_imm_Sign : Int → Int → Option Int) (l_imm_Back_L1 : imm_Back_L1_A → Option Int) (a0 : Int) (a1 : Int) (a2 : Int) : (imm_Back_t P call c_imm_Sign l_imm_Back_L1 a0 a1 a2).den = imm_Back_b c_imm_Sign l_imm_Back_L1 a0 a1 a2 := rfl
theorem imm_Back_n (call : CallF) (c_imm_Sign : Int → Int → Option Int) (l_imm_Back_L1 : imm_Back_L1_A → Option Int) (a0 : Int) (a1 : Int) (a2 : Int) : (imm_Back_t Try.prog call c_imm_Sign l_imm_Back_L1 a0 a1 a2).norm (bodyT Try.prog call G 9 [.sc (.int .i64 a0), .sc (.int .i64 a1), .sc (.int .i64 a2)] []) = imm_Back_t Try.prog call c_imm_Sign l_imm_Back_L1 a0 a1 a2 := by kernel_rfl
theorem imm_Back_k (P : Program) (call : CallF) (lp : Loops) (c_imm_Sign : Int → Int → Option Int) (l_imm_Back_L1 : imm_Back_L1_A → Option Int) (hc_imm_Sign : ∀ (a0 : Int) (a1 : Int) (r : Int), c_imm_Sign a0 a1 = some r → (call 7 [.sc (.int .i64 a0), .sc (.int .i64 a1)] []) = some (imm_Sign_e r)) (hl_imm_Back_L1 : ∀ (a : imm_Back_L1_A) (r : Int), l_imm_Back_L1 a = some r → lp (loopAt P 9 3) (imm_Back_L1_s a) = some (imm_Back_L1_e r)) (a0 : Int) (a1 : Int) (a2 : Int) : (imm_Back_t P call c_imm_Sign l_imm_Back_L1 a0 a1 a2).ok lp imm_Back_e := fun o1 ho1 => ⟨hl_imm_Back_L1 _ _ ho1, fun r2 hr2 => ⟨hc_imm_Sign _ _ _ hr2, rfl⟩⟩
theorem imm_Back_m {c_imm_Sign d_imm_Sign : Int → Int → Option Int} (h_imm_Sign : ∀ (a0 : Int) (a1 : Int), Le (c_imm_Sign a0 a1) (d_imm_Sign a0 a1)) {l_imm_Back_L1 m_imm_Back_L1 : imm_Back_L1_A → Option Int} (hl_imm_Back_L1 : ∀ a, Le (l_imm_Back_L1 a) (m_imm_Back_L1 a)) (a0 : Int) (a1 : Int) (a2 : Int) : Le (imm_Back_b c_imm_Sign l_imm_Back_L1 a0 a1 a2) (imm_Back_b d_imm_Sign m_imm_Back_L1 a0 a1 a2) := by
  unfold imm_Back_b
  exact .bind (hl_imm_Back_L1 _) (fun o1 => .bind (h_imm_Sign _ _) fun r2 => .refl _)
theorem imm_Back_c {c_imm_Sign : Nat → Int → Int → Option Int} {d_imm_Sign : Int → Int → Option Int} (h_imm_Sign : ∀ (a0 : Int) (a1 : Int), Cv (fun k => c_imm_Sign k a0 a1) (d_imm_Sign a0 a1)) {l_imm_Back_L1 : Nat → imm_Back_L1_A → Option Int} {m_imm_Back_L1 : imm_Back_L1_A → Option Int} (hl_imm_Back_L1 : ∀ a, Cv (fun k => l_imm_Back_L1 k a) (m_imm_Back_L1 a)) (a0 : Int) (a1 : Int) (a2 : Int) : Cv (fun k => imm_Back_b (c_imm_Sign k) (l_imm_Back_L1 k) a0 a1 a2) (imm_Back_b d_imm_Sign m_imm_Back_L1 a0 a1 a2) := by
  unfold imm_Back_b
  exact .bind (hl_imm_Back_L1 _) (fun o1 => .bind (h_imm_Sign _ _) fun r2 => by exact .const _)
def imm_Back.s : Nat → Int → Int → Int → Option Int
  | 0, _, _, _ => none
  | k + 1, a0, a1, a2 => imm_Back_b (fun a0 a1 => imm_Sign.s k a0 a1) (imm_Back_L1.s k) a0 a1 a2
theorem imm_Back.ok : ∀ (k : Nat), ∀ (a0 : Int) (a1 : Int) (a2 : Int) (r : Int), imm_Back.s k a0 a1 a2 = some r → evalFn Try.prog G k 9 [.sc (.int .i64 a0), .sc (.int .i64 a1), .sc (.int .i64 a2)] [] = some (imm_Back_e r)
  | 0, _, _, _, _, h => (nomatch h)
  | k + 1, a0, a1, a2, r, h => fn_ok rfl (imm_Back_t Try.prog (evalFn Try.prog G k) (fun a0 a1 => imm_Sign.s k a0 a1) (imm_Back_L1.s k) a0 a1 a2) (imm_Back_n _ (fun a0 a1 => imm_Sign.s k a0 a1) (imm_Back_L1.s k) a0 a1 a2) (imm_Back_k _ _ _ (fun a0 a1 => imm_Sign.s k a0 a1) (imm_Back_L1.s k) (imm_Sign.ok k) (imm_Back_L1_ok _ k) a0 a1 a2) ((imm_Back_d _ _ (fun a0 a1 => imm_Sign.s k a0 a1) (imm_Back_L1.s k) a0 a1 a2).trans h)
theorem imm_Back.mono : ∀ (k : Nat) (a0 : Int) (a1 : Int) (a2 : Int), Le (imm_Back.s k a0 a1 a2) (imm_Back.s (k + 1) a0 a1 a2)
  | 0, _, _, _ => fun r h => (nomatch h)
  | k + 1, a0, a1, a2 => imm_Back_m (imm_Sign.mono k) (imm_Back_L1.m (Nat.le_succ k)) a0 a1 a2
noncomputable def imm_Back (a0 : Int) (a1 : Int) (a2 : Int) : Option Int := lim fun k => imm_Back.s k a0 a1 a2
theorem imm_Back.cv (a0 : Int) (a1 : Int) (a2 : Int) : Cv (fun k => imm_Back.s k a0 a1 a2) (imm_Back a0 a1 a2) := .lim fun k => imm_Back.mono k a0 a1 a2
noncomputable def imm_Back_L1 : imm_Back_L1_A → Option Int := imm_Back_L1.w 
theorem imm_Back_L1.eq (a : imm_Back_L1_A) : imm_Back_L1 a = (imm_Back_L1_b  a).bind (Sum.elim imm_Back_L1 some) := loopW_eq _ _
theorem imm_Back.eq (a0 : Int) (a1 : Int) (a2 : Int) : imm_Back a0 a1 a2 = imm_Back_b imm_Sign imm_Back_L1 a0 a1 a2 := Cv.uniq (imm_Back.cv a0 a1 a2).shift (imm_Back_c imm_Sign.cv (imm_Back_L1.cv) a0 a1 a2)
def imm_form_of_e (r : Int) : AV × Heap := (.sc (.int .i64 r), [])
def imm_form_of_b (c_imm_Back : Int → Int → Int → Option Int) (a0 : T_imm_form) (a1 : Int) : Option Int := ((c_imm_Back a0.f a0.scale a1).bind fun (r1 : Int) => (some r1))
def imm_form_of_t (P : Program) (call : CallF) (c_imm_Back : Int → Int → Int → Option Int) (a0 : T_imm_form) (a1 : Int) : Tr Int (AV × Heap) := (.call (call 9 [.sc (.int .i64 a0.f), .sc (.int .i64 a0.scale), .sc (.int .i64 a1)] []) (c_imm_Back a0.f a0.scale a1) imm_Back_e fun (r1 : Int) => (rt imm_form_of_e r1))
theorem imm_form_of_d (P : Program) (call : CallF) (c_imm_Back : Int → Int → Int → Option Int) (a0 : T_imm_form) (a1 : Int) : (imm_form_of_t P call c_imm_Back a0 a1).den = imm_form_of_b c_imm_Back a0 a1 := rfl
theorem imm_form_of_n (call : CallF) (c_imm_Back : Int → Int → Int → Option Int) (a0 : T_imm_form) (a1 : Int) : (imm_form_of_t Try.prog call c_imm_Back a0 a1).norm (bodyT Try.prog call G 14 [.agg (C_imm_form a0), .sc (.int .i64 a1)] []) = imm_form_of_t Try.prog call c_imm_Back a0 a1 := by kernel_rfl
theorem imm_form_of_k (P : Program) (call : CallF) (lp : Loops) (c_imm_Back : Int → Int → Int → Option Int) (hc_imm_Back : ∀ (a0 : Int) (a1 : Int) (a2 : Int) (r : Int), c_imm_Back a0 a1 a2 = some r → (call 9 [.sc (.int .i64 a0), .sc (.int .i64 a1), .sc (.int .i64 a2)] []) = some (imm_Back_e r)) (a0 : T_imm_form) (a1 : Int) : (imm_form_of_t P call c_imm_Back a0 a1).ok lp imm_form_of_e := fun r1 hr1 => ⟨hc_imm_Back _ _ _ _ hr1, rfl⟩
theorem imm_form_of_m {c_imm_Back d_imm_Back : Int → Int → Int → Option Int} (h_imm_Back : ∀ (a0 : Int) (a1 : Int) (a2 : Int), Le (c_imm_Back a0 a1 a2) (d_imm_Back a0 a1 a2)) (a0 : T_imm_form) (a1 : Int) : Le (imm_form_of_b c_imm_Back a0 a1) (imm_form_of_b d_imm_Back a0 a1) := by
  unfold imm_form_of_b
  exact .bind (h_imm_Back _ _ _) fun r1 => .refl _
theorem imm_form_of_c {c_imm_Back : Nat → Int → Int → Int → Option Int} {d_imm_Back : Int → Int → Int → Option Int} (h_imm_Back : ∀ (a0 : Int) (a1 : Int) (a2 : Int), Cv (fun k => c_imm_Back k a0 a1 a2) (d_imm_Back a0 a1 a2)) (a0 : T_imm_form) (a1 : Int) : Cv (fun k => imm_form_of_b (c_imm_Back k) a0 a1) (imm_form_of_b d_imm_Back a0 a1) := by
  unfold imm_form_of_b
  exact .bind (h_imm_Back _ _ _) fun r1 => by exact .const _
def imm_form_of.s : Nat → T_imm_form → Int → Option Int
  | 0, _, _ => none
  | k + 1, a0, a1 => imm_form_of_b (fun a0 a1 a2 => imm_Back.s k a0 a1 a2) a0 a1
theorem imm_form_of.ok : ∀ (k : Nat), ∀ (a0 : T_imm_form) (a1 : Int) (r : Int), imm_form_of.s k a0 a1 = some r → evalFn Try.prog G k 14 [.agg (C_imm_form a0), .sc (.int .i64 a1)] [] = some (imm_form_of_e r)
  | 0, _, _, _, h => (nomatch h)
  | k + 1, a0, a1, r, h => fn_ok rfl (imm_form_of_t Try.prog (evalFn Try.prog G k) (fun a0 a1 a2 => imm_Back.s k a0 a1 a2) a0 a1) (imm_form_of_n _ (fun a0 a1 a2 => imm_Back.s k a0 a1 a2) a0 a1) (imm_form_of_k _ _ _ (fun a0 a1 a2 => imm_Back.s k a0 a1 a2) (imm_Back.ok k)  a0 a1) ((imm_form_of_d _ _ (fun a0 a1 a2 => imm_Back.s k a0 a1 a2) a0 a1).trans h)
theorem imm_form_of.mono : ∀ (k : Nat) (a0 : T_imm_form) (a1 : Int), Le (imm_form_of.s k a0 a1) (imm_form_of.s (k + 1) a0 a1)
  | 0, _, _ => fun r h => (nomatch h)
  | k + 1, a0, a1 => imm_form_of_m (imm_Back.mono k) a0 a1
noncomputable def imm_form_of (a0 : T_imm_form) (a1 : Int) : Option Int := lim fun k => imm_form_of.s k a0 a1
theorem imm_form_of.cv (a0 : T_imm_form) (a1 : Int) : Cv (fun k => imm_form_of.s k a0 a1) (imm_form_of a0 a1) := .lim fun k => imm_form_of.mono k a0 a1
theorem imm_form_of.eq (a0 : T_imm_form) (a1 : Int) : imm_form_of a0 a1 = imm_form_of_b imm_Back a0 a1 := Cv.uniq (imm_form_of.cv a0 a1).shift (imm_form_of_c imm_Back.cv a0 a1)
def imm_found_e (r : Int) : AV × Heap := (.sc (.int .i64 r), [])
structure imm_found_L1_A where
  x0 : Int
  x1_f0 : T_imm_form
  x6 : Int
def imm_found_L1_s (a : imm_found_L1_A) : St := { n := 16, nx := 0, env := [(0, .sc (.int .i64 a.x0)), (1, .fn (.func 14) [.agg (C_imm_form a.x1_f0)] []), (6, .sc (.int .i64 a.x6))], heap := [] }
def imm_found_L1_e0 (a : Int) : Ex × St := (.ret, { n := 16, nx := 0, env := [(4, .sc (.int .i64 a))], heap := [] })
def imm_found_L1_e1 (a : Unit) : Ex × St := (.exit 0, { n := 16, nx := 0, env := [], heap := [] })
def imm_found_L1_e (a : (Int ⊕ Unit)) : Ex × St := Sum.elim imm_found_L1_e0 imm_found_L1_e1 a
def imm_found_L1_b (c_imm_form_of : T_imm_form → Int → Option Int) (a : imm_found_L1_A) : Option (imm_found_L1_A ⊕ (Int ⊕ Unit)) := (bif (decide (a.x6 < (256 : Int))) then ((c_imm_form_of a.x1_f0 a.x6).bind fun (r1 : Int) => (bif (r1 == a.x0) then (some (.inr (.inl a.x6))) else (some (.inl (imm_found_L1_A.mk a.x0 a.x1_f0 (w64 (a.x6 + (1 : Int)))))))) else (some (.inr (.inr ()))))
def imm_found_L1_t (P : Program) (call : CallF) (c_imm_form_of : T_imm_form → Int → Option Int) (a : imm_found_L1_A) : Tr (imm_found_L1_A ⊕ (Int ⊕ Unit)) (Ex × St) := (.as (decide (a.x6 < (256 : Int))) (.call (call 14 [.agg (C_imm_form a.x1_f0), .sc (.int .i64 a.x6)] []) (c_imm_form_of a.x1_f0 a.x6) imm_form_of_e fun (r1 : Int) => (.as (r1 == a.x0) (rx imm_found_L1_e (.inl a.x6)) (lf imm_found_L1_s (imm_found_L1_A.mk a.x0 a.x1_f0 (w64 (a.x6 + (1 : Int))))))) (rx imm_found_L1_e (.inr ())))
theorem imm_found_L1_d (P : Program) (call : CallF) (c_imm_form_of : T_imm_form → Int → Option Int) (a : imm_found_L1_A) : (imm_found_L1_t P call c_imm_form_of a).den = imm_found_L1_b c_imm_form_of a := rfl
theorem imm_found_L1_n (call : CallF) (c_imm_form_of : T_imm_form → Int → Option Int) (a : imm_found_L1_A) : (imm_found_L1_t Try.prog call c_imm_form_of a).norm (roundT Try.prog G.kd call 0 (G.an 13) (loopAt Try.prog 13 2) (imm_found_L1_s a)) = imm_found_L1_t Try.prog call c_imm_form_of a := by kernel_rfl
theorem imm_found_L1_k (P : Program) (call : CallF) (lp : Loops) (c_imm_form_of : T_imm_form → Int → Option Int) (hc_imm_form_of : ∀ (a0 : T_imm_form) (a1 : Int) (r : Int), c_imm_form_of a0 a1 = some r → (call 14 [.agg (C_imm_form a0), .sc (.int .i64 a1)] []) = some (imm_form_of_e r)) (a : imm_found_L1_A) : (imm_found_L1_t P call c_imm_form_of a).ok lp (Sum.elim (fun a => (.norm, imm_found_L1_s a)) imm_found_L1_e) := ⟨rfl, fun h0 => fun r1 hr1 => ⟨hc_imm_form_of _ _ _ hr1, ⟨rfl, fun h1 => rfl, fun h1 => rfl⟩⟩, fun h0 => rfl⟩
theorem imm_found_L1_m {c_imm_form_of d_imm_form_of : T_imm_form → Int → Option Int} (h_imm_form_of : ∀ (a0 : T_imm_form) (a1 : Int), Le (c_imm_form_of a0 a1) (d_imm_form_of a0 a1)) (a : imm_found_L1_A) : Le (imm_found_L1_b c_imm_form_of a) (imm_found_L1_b d_imm_form_of a) := by
  unfold imm_found_L1_b
  exact .cond (.bind (h_imm_form_of _ _) fun r1 => .refl _) (.refl _)
theorem imm_found_L1_c {c_imm_form_of : Nat → T_imm_form → Int → Option Int} {d_imm_form_of : T_imm_form → Int → Option Int} (h_imm_form_of : ∀ (a0 : T_imm_form) (a1 : Int), Cv (fun k => c_imm_form_of k a0 a1) (d_imm_form_of a0 a1)) (a : imm_found_L1_A) : Cv (fun k => imm_found_L1_b (c_imm_form_of k) a) (imm_found_L1_b d_imm_form_of a) := by
  unfold imm_found_L1_b
  exact .cond (.bind (h_imm_form_of _ _) fun r1 => by exact .const _) (by exact .const _)
def imm_found_L1.s (k : Nat) (c_imm_form_of : T_imm_form → Int → Option Int) : imm_found_L1_A → Option (Int ⊕ Unit) := iter (imm_found_L1_b c_imm_form_of) k
theorem imm_found_L1_ok (call : CallF) (k : Nat) (c_imm_form_of : T_imm_form → Int → Option Int) (hc_imm_form_of : ∀ (a0 : T_imm_form) (a1 : Int) (r : Int), c_imm_form_of a0 a1 = some r → (call 14 [.agg (C_imm_form a0), .sc (.int .i64 a1)] []) = some (imm_form_of_e r)) (a : imm_found_L1_A) (r : (Int ⊕ Unit)) (h : imm_found_L1.s k c_imm_form_of a = some r) : loopsF Try.prog G.kd call 0 (G.an 13) k (loopAt Try.prog 13 2) (imm_found_L1_s a) = some (imm_found_L1_e r) :=
  loop_ok (fun a => imm_found_L1_t Try.prog call c_imm_form_of a) (fun a => imm_found_L1_d _ call c_imm_form_of a) (fun a => imm_found_L1_n call c_imm_form_of a) (fun a => imm_found_L1_k _ call _ c_imm_form_of hc_imm_form_of a) (fun r => by cases r <;> nofun) h
theorem imm_found_L1.m {j k : Nat} (hj : j ≤ k) (c_imm_form_of : T_imm_form → Int → Option Int) (d_imm_form_of : T_imm_form → Int → Option Int) (h_imm_form_of : ∀ (a0 : T_imm_form) (a1 : Int), Le (c_imm_form_of a0 a1) (d_imm_form_of a0 a1)) (a : imm_found_L1_A) : Le (imm_found_L1.s j c_imm_form_of a) (imm_found_L1.s k d_imm_form_of a) := Le.iter (fun a => imm_found_L1_m h_imm_form_of a) hj a
noncomputable def imm_found_L1.w (c_imm_form_of : T_imm_form → Int → Option Int) : imm_found_L1_A → Option (Int ⊕ Unit) := loopW (imm_found_L1_b c_imm_form_of)
theorem imm_found_L1.cv (c_imm_form_of : Nat → T_imm_form → Int → Option Int) (d_imm_form_of : T_imm_form → Int → Option Int) (h_imm_form_of : ∀ (a0 : T_imm_form) (a1 : Int), Cv (fun k => c_imm_form_of k a0 a1) (d_imm_form_of a0 a1)) (a : imm_found_L1_A) : Cv (fun k => imm_found_L1.s k (c_imm_form_of k) a) (imm_found_L1.w d_imm_form_of a) := Cv.iter (fun a => imm_found_L1_c h_imm_form_of a) a
def imm_found_b (l_imm_found_L1 : imm_found_L1_A → Option (Int ⊕ Unit)) (a0 : Int) (a1_f0 : T_imm_form) : Option Int := ((l_imm_found_L1 (imm_found_L1_A.mk a0 a1_f0 (0 : Int))).bind fun x => Sum.elim (fun (o1 : Int) => (some o1)) (fun (o2 : Unit) => (some (-1 : Int))) x)
def imm_found_t (P : Program) (call : CallF) (l_imm_found_L1 : imm_found_L1_A → Option (Int ⊕ Unit)) (a0 : Int) (a1_f0 : T_imm_form) : Tr Int (AV × Heap) := (.loop2 (loopAt P 13 2) (imm_found_L1_s (imm_found_L1_A.mk a0 a1_f0 (0 : Int))) (l_imm_found_L1 (imm_found_L1_A.mk a0 a1_f0 (0 : Int))) imm_found_L1_e0 imm_found_L1_e1 (fun (o1 : Int) => (rt imm_found_e o1)) (fun (o2 : Unit) => (rt imm_found_e (-1 : Int))))
theorem imm_found_d (P : Program) (call : CallF) (l_imm_found_L1 : imm_found_L1_A → Option (Int ⊕ Unit)) (a0 : Int) (a1_f0 : T_imm_form) : (imm_found_t P call l_imm_found_L1 a0 a1_f0).den = imm_found_b l_imm_found_L1 a0 a1_f0 := rfl
theorem imm_found_n (call : CallF) (l_imm_found_L1 : imm_found_L1_A → Option (Int ⊕ Unit)) (a0 : Int) (a1_f0 : T_imm_form) : (imm_found_t Try.prog call l_imm_found_L1 a0 a1_f0).norm (bodyT Try.prog call G 13 [.sc (.int .i64 a0), .fn (.func 14) [.agg (C_imm_form a1_f0)] []] []) = imm_found_t Try.prog call l_imm_found_L1 a0 a1_f0 := by kernel_rfl
theorem imm_found_k (P : Program) (call : CallF) (lp : Loops) (l_imm_found_L1 : imm_found_L1_A → Option (Int ⊕ Unit)) (hl_imm_found_L1 : ∀ (a : imm_found_L1_A) (r : (Int ⊕ Unit)), l_imm_found_L1 a = some r → lp (loopAt P 13 2) (imm_found_L1_s a) = some (imm_found_L1_e r)) (a0 : Int) (a1_f0 : T_imm_form) : (imm_found_t P call l_imm_found_L1 a0 a1_f0).ok lp imm_found_e := ⟨fun o1 ho1 => ⟨hl_imm_found_L1 _ (.inl _) ho1, rfl⟩, fun o2 ho2 => ⟨hl_imm_found_L1 _ (.inr _) ho2, rfl⟩⟩
theorem imm_found_m {l_imm_found_L1 m_imm_found_L1 : imm_found_L1_A → Option (Int ⊕ Unit)} (hl_imm_found_L1 : ∀ a, Le (l_imm_found_L1 a) (m_imm_found_L1 a)) (a0 : Int) (a1_f0 : T_imm_form) : Le (imm_found_b l_imm_found_L1 a0 a1_f0) (imm_found_b m_imm_found_L1 a0 a1_f0) := by
  unfold imm_found_b
  exact .bind (hl_imm_found_L1 _) fun x => .sum (fun o1 => .refl _) (fun o2 => .refl _) x
theorem imm_found_c {l_imm_found_L1 : Nat → imm_found_L1_A → Option (Int ⊕ Unit)} {m_imm_found_L1 : imm_found_L1_A → Option (Int ⊕ Unit)} (hl_imm_found_L1 : ∀ a, Cv (fun k => l_imm_found_L1 k a) (m_imm_found_L1 a)) (a0 : Int) (a1_f0 : T_imm_form) : Cv (fun k => imm_found_b (l_imm_found_L1 k) a0 a1_f0) (imm_found_b m_imm_found_L1 a0 a1_f0) := by
  unfold imm_found_b
  exact .bind (hl_imm_found_L1 _) fun x => .sum (fun o1 => by exact .const _) (fun o2 => by exact .const _) x
def imm_found.s : Nat → Int → T_imm_form → Option Int
  | 0, _, _ => none
  | k + 1, a0, a1_f0 => imm_found_b (imm_found_L1.s k (fun a0 a1 => imm_form_of.s k a0 a1)) a0 a1_f0
theorem imm_found.ok : ∀ (k : Nat), ∀ (a0 : Int) (a1_f0 : T_imm_form) (r : Int), imm_found.s k a0 a1_f0 = some r → evalFn Try.prog G k 13 [.sc (.int .i64 a0), .fn (.func 14) [.agg (C_imm_form a1_f0)] []] [] = some (imm_found_e r)
  | 0, _, _, _, h => (nomatch h)
  | k + 1, a0, a1_f0, r, h => fn_ok rfl (imm_found_t Try.prog (evalFn Try.prog G k) (imm_found_L1.s k (fun a0 a1 => imm_form_of.s k a0 a1)) a0 a1_f0) (imm_found_n _ (imm_found_L1.s k (fun a0 a1 => imm_form_of.s k a0 a1)) a0 a1_f0) (imm_found_k _ _ _ (imm_found_L1.s k (fun a0 a1 => imm_form_of.s k a0 a1))  (imm_found_L1_ok _ k (fun a0 a1 => imm_form_of.s k a0 a1) (imm_form_of.ok k)) a0 a1_f0) ((imm_found_d _ _ (imm_found_L1.s k (fun a0 a1 => imm_form_of.s k a0 a1)) a0 a1_f0).trans h)
theorem imm_found.mono : ∀ (k : Nat) (a0 : Int) (a1_f0 : T_imm_form), Le (imm_found.s k a0 a1_f0) (imm_found.s (k + 1) a0 a1_f0)
  | 0, _, _ => fun r h => (nomatch h)
  | k + 1, a0, a1_f0 => imm_found_m (imm_found_L1.m (Nat.le_succ k) (fun a0 a1 => imm_form_of.s k a0 a1) (fun a0 a1 => imm_form_of.s (k + 1) a0 a1) (imm_form_of.mono k)) a0 a1_f0
noncomputable def imm_found (a0 : Int) (a1_f0 : T_imm_form) : Option Int := lim fun k => imm_found.s k a0 a1_f0
theorem imm_found.cv (a0 : Int) (a1_f0 : T_imm_form) : Cv (fun k => imm_found.s k a0 a1_f0) (imm_found a0 a1_f0) := .lim fun k => imm_found.mono k a0 a1_f0
noncomputable def imm_found_L1 : imm_found_L1_A → Option (Int ⊕ Unit) := imm_found_L1.w imm_form_of
theorem imm_found_L1.eq (a : imm_found_L1_A) : imm_found_L1 a = (imm_found_L1_b imm_form_of a).bind (Sum.elim imm_found_L1 some) := loopW_eq _ _
theorem imm_found.eq (a0 : Int) (a1_f0 : T_imm_form) : imm_found a0 a1_f0 = imm_found_b imm_found_L1 a0 a1_f0 := Cv.uniq (imm_found.cv a0 a1_f0).shift (imm_found_c (imm_found_L1.cv (fun k => fun a0 a1 => imm_form_of.s k a0 a1) imm_form_of imm_form_of.cv) a0 a1_f0)
def imm_Sci8_e (r : (Int × Int × Int × Bool)) : AV × Heap := (.tup [.sc (.int .i64 r.1), .sc (.int .i64 r.2.1), .sc (.int .i64 r.2.2.1), .sc (.bool r.2.2.2)], [])
structure imm_Sci8_L1_A where
  x0 : Int
  x8 : (List T_imm_form)
  x9 : Int
  x10 : Int
structure imm_Sci8_L1_O0 where
  x2 : Int
  x3 : Int
  x4 : Int
  x5 : Bool
def imm_Sci8_L1_s (a : imm_Sci8_L1_A) : St := { n := 26, nx := 0, env := [(0, .sc (.int .i64 a.x0)), (8, .sl (R_imm_form a.x8)), (9, .sc (.int .i64 a.x9)), (10, .sc (.int .i64 a.x10))], heap := [] }
def imm_Sci8_L1_e0 (a : imm_Sci8_L1_O0) : Ex × St := (.ret, { n := 26, nx := 0, env := [(2, .sc (.int .i64 a.x2)), (3, .sc (.int .i64 a.x3)), (4, .sc (.int .i64 a.x4)), (5, .sc (.bool a.x5))], heap := [] })
def imm_Sci8_L1_e1 (a : Unit) : Ex × St := (.exit 0, { n := 26, nx := 0, env := [], heap := [] })
def imm_Sci8_L1_e (a : (imm_Sci8_L1_O0 ⊕ Unit)) : Ex × St := Sum.elim imm_Sci8_L1_e0 imm_Sci8_L1_e1 a
def imm_Sci8_L1_b (c_imm_found : Int → T_imm_form → Option Int) (a : imm_Sci8_L1_A) : Option (imm_Sci8_L1_A ⊕ (imm_Sci8_L1_O0 ⊕ Unit)) := (bif (decide (a.x10 < a.x9)) then (bif (decide (0 ≤ a.x10)) then ((a.x8[(Int.toNat a.x10)]?).bind fun (e1 : T_imm_form) => ((c_imm_found a.x0 e1).bind fun (r2 : Int) => (bif (decide (r2 ≥ (0 : Int))) then (some (.inr (.inl (imm_Sci8_L1_O0.mk e1.f e1.scale r2 true)))) else (some (.inl (imm_Sci8_L1_A.mk a.x0 a.x8 a.x9 (w64 (a.x10 + (1 : Int))))))))) else none) else (some (.inr (.inr ()))))
def imm_Sci8_L1_t (P : Program) (call : CallF) (c_imm_found : Int → T_imm_form → Option Int) (a : imm_Sci8_L1_A) : Tr (imm_Sci8_L1_A ⊕ (imm_Sci8_L1_O0 ⊕ Unit)) (Ex × St) := (.as (decide (a.x10 < a.x9)) (.as (decide (0 ≤ a.x10)) (.row ((R_imm_form a.x8)[(Int.toNat a.x10)]?) (a.x8[(Int.toNat a.x10)]?) C_imm_form fun (e1 : T_imm_form) => (.call (call 13 [.sc (.int .i64 a.x0), .fn (.func 14) [.agg (C_imm_form e1)] []] []) (c_imm_found a.x0 e1) imm_found_e fun (r2 : Int) => (.as (decide (r2 ≥ (0 : Int))) (rx imm_Sci8_L1_e (.inl (imm_Sci8_L1_O0.mk e1.f e1.scale r2 true))) (lf imm_Sci8_L1_s (imm_Sci8_L1_A.mk a.x0 a.x8 a.x9 (w64 (a.x10 + (1 : Int)))))))) .fail) (rx imm_Sci8_L1_e (.inr ())))
theorem imm_Sci8_L1_d (P : Program) (call : CallF) (c_imm_found : Int → T_imm_form → Option Int) (a : imm_Sci8_L1_A) : (imm_Sci8_L1_t P call c_imm_found a).den = imm_Sci8_L1_b c_imm_found a := rfl
theorem imm_Sci8_L1_n (call : CallF) (c_imm_found : Int → T_imm_form → Option Int) (a : imm_Sci8_L1_A) : (imm_Sci8_L1_t Try.prog call c_imm_found a).norm (roundT Try.prog G.kd call 0 (G.an 6) (loopAt Try.prog 6 2) (imm_Sci8_L1_s a)) = imm_Sci8_L1_t Try.prog call c_imm_found a := by kernel_rfl
theorem imm_Sci8_L1_k (P : Program) (call : CallF) (lp : Loops) (c_imm_found : Int → T_imm_form → Option Int) (hc_imm_found : ∀ (a0 : Int) (a1_f0 : T_imm_form) (r : Int), c_imm_found a0 a1_f0 = some r → (call 13 [.sc (.int .i64 a0), .fn (.func 14) [.agg (C_imm_form a1_f0)] []] []) = some (imm_found_e r)) (a : imm_Sci8_L1_A) : (imm_Sci8_L1_t P call c_imm_found a).ok lp (Sum.elim (fun a => (.norm, imm_Sci8_L1_s a)) imm_Sci8_L1_e) := ⟨rfl, fun h0 => ⟨rfl, fun h1 => fun e1 he1 => ⟨R_imm_form_get he1, fun r2 hr2 => ⟨hc_imm_found _ _ _ hr2, ⟨rfl, fun h2 => rfl, fun h2 => rfl⟩⟩⟩, fun h1 => trivial⟩, fun h0 => rfl⟩
theorem imm_Sci8_L1_m {c_imm_found d_imm_found : Int → T_imm_form → Option Int} (h_imm_found : ∀ (a0 : Int) (a1_f0 : T_imm_form), Le (c_imm_found a0 a1_f0) (d_imm_found a0 a1_f0)) (a : imm_Sci8_L1_A) : Le (imm_Sci8_L1_b c_imm_found a) (imm_Sci8_L1_b d_imm_found a) := by
  unfold imm_Sci8_L1_b
  exact .cond (.cond (.bind (.refl (a.x8[(Int.toNat a.x10)]?)) fun e1 => .bind (h_imm_found _ _) fun r2 => .refl _) (.refl _)) (.refl _)
theorem imm_Sci8_L1_c {c_imm_found : Nat → Int → T_imm_form → Option Int} {d_imm_found : Int → T_imm_form → Option Int} (h_imm_found : ∀ (a0 : Int) (a1_f0 : T_imm_form), Cv (fun k => c_imm_found k a0 a1_f0) (d_imm_found a0 a1_f0)) (a : imm_Sci8_L1_A) : Cv (fun k => imm_Sci8_L1_b (c_imm_found k) a) (imm_Sci8_L1_b d_imm_found a) := by
  unfold imm_Sci8_L1_b
  exact .cond (.cond (.bind (.const (a.x8[(Int.toNat a.x10)]?)) fun e1 => .bind (h_imm_found _ _) fun r2 => by exact .const _) (by exact .const _)) (by exact .const _)
def imm_Sci8_L1.s (k : Nat) (c_imm_found : Int → T_imm_form → Option Int) : imm_Sci8_L1_A → Option (imm_Sci8_L1_O0 ⊕ Unit) := iter (imm_Sci8_L1_b c_imm_found) k
theorem imm_Sci8_L1_ok (call : CallF) (k : Nat) (c_imm_found : Int → T_imm_form → Option Int) (hc_imm_found : ∀ (a0 : Int) (a1_f0 : T_imm_form) (r : Int), c_imm_found a0 a1_f0 = some r → (call 13 [.sc (.int .i64 a0), .fn (.func 14) [.agg (C_imm_form a1_f0)] []] []) = some (imm_found_e r)) (a : imm_Sci8_L1_A) (r : (imm_Sci8_L1_O0 ⊕ Unit)) (h : imm_Sci8_L1.s k c_imm_found a = some r) : loopsF Try.prog G.kd call 0 (G.an 6) k (loopAt Try.prog 6 2) (imm_Sci8_L1_s a) = some (imm_Sci8_L1_e r) :=
  loop_ok (fun a => imm_Sci8_L1_t Try.prog call c_imm_found a) (fun a => imm_Sci8_L1_d _ call c_imm_found a) (fun a => imm_Sci8_L1_n call c_imm_found a) (fun a => imm_Sci8_L1_k _ call _ c_imm_found hc_imm_found a) (fun r => by cases r <;> nofun) h
theorem imm_Sci8_L1.m {j k : Nat} (hj : j ≤ k) (c_imm_found : Int → T_imm_form → Option Int) (d_imm_found : Int → T_imm_form → Option Int) (h_imm_found : ∀ (a0 : Int) (a1_f0 : T_imm_form), Le (c_imm_found a0 a1_f0) (d_imm_found a0 a1_f0)) (a : imm_Sci8_L1_A) : Le (imm_Sci8_L1.s j c_imm_found a) (imm_Sci8_L1.s k d_imm_found a) := Le.iter (fun a => imm_Sci8_L1_m h_imm_found a) hj a
noncomputable def imm_Sci8_L1.w (c_imm_found : Int → T_imm_form → Option Int) : imm_Sci8_L1_A → Option (imm_Sci8_L1_O0 ⊕ Unit) := loopW (imm_Sci8_L1_b c_imm_found)
theorem imm_Sci8_L1.cv (c_imm_found : Nat → Int → T_imm_form → Option Int) (d_imm_found : Int → T_imm_form → Option Int) (h_imm_found : ∀ (a0 : Int) (a1_f0 : T_imm_form), Cv (fun k => c_imm_found k a0 a1_f0) (d_imm_found a0 a1_f0)) (a : imm_Sci8_L1_A) : Cv (fun k => imm_Sci8_L1.s k (c_imm_found k) a) (imm_Sci8_L1.w d_imm_found a) := Cv.iter (fun a => imm_Sci8_L1_c h_imm_found a) a
def imm_Sci8_b (c_imm_forms : Option (List T_imm_form)) (l_imm_Sci8_L1 : imm_Sci8_L1_A → Option (imm_Sci8_L1_O0 ⊕ Unit)) (a0 : Int) : Option (Int × Int × Int × Bool) := ((c_imm_forms).bind fun (r1 : (List T_imm_form)) => ((l_imm_Sci8_L1 (imm_Sci8_L1_A.mk a0 r1 (((r1.length) : Nat) : Int) (0 : Int))).bind fun x => Sum.elim (fun (o2 : imm_Sci8_L1_O0) => (some (o2.x2, o2.x3, o2.x4, o2.x5))) (fun (o3 : Unit) => (some ((0 : Int), (0 : Int), (0 : Int), false))) x))
def imm_Sci8_t (P : Program) (call : CallF) (c_imm_forms : Option (List T_imm_form)) (l_imm_Sci8_L1 : imm_Sci8_L1_A → Option (imm_Sci8_L1_O0 ⊕ Unit)) (a0 : Int) : Tr (Int × Int × Int × Bool) (AV × Heap) := (.call (call 12 [] []) (c_imm_forms) imm_forms_e fun (r1 : (List T_imm_form)) => (.num ((R_imm_form r1).length) (r1.length) (.loop2 (loopAt P 6 2) (imm_Sci8_L1_s (imm_Sci8_L1_A.mk a0 r1 (((r1.length) : Nat) : Int) (0 : Int))) (l_imm_Sci8_L1 (imm_Sci8_L1_A.mk a0 r1 (((r1.length) : Nat) : Int) (0 : Int))) imm_Sci8_L1_e0 imm_Sci8_L1_e1 (fun (o2 : imm_Sci8_L1_O0) => (rt imm_Sci8_e (o2.x2, o2.x3, o2.x4, o2.x5))) (fun (o3 : Unit) => (rt imm_Sci8_e ((0 : Int), (0 : Int), (0 : Int), false))))))
theorem imm_Sci8_d (P : Program) (call : CallF) (c_imm_forms : Option (List T_imm_form)) (l_imm_Sci8_L1 : imm_Sci8_L1_A → Option (imm_Sci8_L1_O0 ⊕ Unit)) (a0 : Int) : (imm_Sci8_t P call c_imm_forms l_imm_Sci8_L1 a0).den = imm_Sci8_b c_imm_forms l_imm_Sci8_L1 a0 := rfl
theorem imm_Sci8_n (call : CallF) (c_imm_forms : Option (List T_imm_form)) (l_imm_Sci8_L1 : imm_Sci8_L1_A → Option (imm_Sci8_L1_O0 ⊕ Unit)) (a0 : Int) : (imm_Sci8_t Try.prog call c_imm_forms l_imm_Sci8_L1 a0).norm (bodyT Try.prog call G 6 [.sc (.int .i64 a0)] []) = imm_Sci8_t Try.prog call c_imm_forms l_imm_Sci8_L1 a0 := by kernel_rfl
theorem imm_Sci8_k (P : Program) (call : CallF) (lp : Loops) (c_imm_forms : Option (List T_imm_form)) (l_imm_Sci8_L1 : imm_Sci8_L1_A → Option (imm_Sci8_L1_O0 ⊕ Unit)) (hc_imm_forms : ∀  (r : (List T_imm_form)), c_imm_forms = some r → (call 12 [] []) = some (imm_forms_e r)) (hl_imm_Sci8_L1 : ∀ (a : imm_Sci8_L1_A) (r : (imm_Sci8_L1_O0 ⊕ Unit)), l_imm_Sci8_L1 a = some r → lp (loopAt P 6 2) (imm_Sci8_L1_s a) = some (imm_Sci8_L1_e r)) (a0 : Int) : (imm_Sci8_t P call c_imm_forms l_imm_Sci8_L1 a0).ok lp imm_Sci8_e := fun r1 hr1 => ⟨hc_imm_forms _ hr1, ⟨(R_imm_form_len _), ⟨fun o2 ho2 => ⟨hl_imm_Sci8_L1 _ (.inl _) ho2, rfl⟩, fun o3 ho3 => ⟨hl_imm_Sci8_L1 _ (.inr _) ho3, rfl⟩⟩⟩⟩
theorem imm_Sci8_m {c_imm_forms d_imm_forms : Option (List T_imm_form)} (h_imm_forms : Le (c_imm_forms ) (d_imm_forms )) {l_imm_Sci8_L1 m_imm_Sci8_L1 : imm_Sci8_L1_A → Option (imm_Sci8_L1_O0 ⊕ Unit)} (hl_imm_Sci8_L1 : ∀ a, Le (l_imm_Sci8_L1 a) (m_imm_Sci8_L1 a)) (a0 : Int) : Le (imm_Sci8_b c_imm_forms l_imm_Sci8_L1 a0) (imm_Sci8_b d_imm_forms m_imm_Sci8_L1 a0) := by
  unfold imm_Sci8_b
  exact .bind (h_imm_forms) fun r1 => .bind (hl_imm_Sci8_L1 _) fun x => .sum (fun o2 => .refl _) (fun o3 => .refl _) x
theorem imm_Sci8_c {c_imm_forms : Nat → Option (List T_imm_form)} {d_imm_forms : Option (List T_imm_form)} (h_imm_forms : Cv (fun k => c_imm_forms k ) (d_imm_forms )) {l_imm_Sci8_L1 : Nat → imm_Sci8_L1_A → Option (imm_Sci8_L1_O0 ⊕ Unit)} {m_imm_Sci8_L1 : imm_Sci8_L1_A → Option (imm_Sci8_L1_O0 ⊕ Unit)} (hl_imm_Sci8_L1 : ∀ a, Cv (fun k => l_imm_Sci8_L1 k a) (m_imm_Sci8_L1 a)) (a0 : Int) : Cv (fun k => imm_Sci8_b (c_imm_forms k) (l_imm_Sci8_L1 k) a0) (imm_Sci8_b d_imm_forms m_imm_Sci8_L1 a0) := by
  unfold imm_Sci8_b
  exact .bind (h_imm_forms) fun r1 => .bind (hl_imm_Sci8_L1 _) fun x => .sum (fun o2 => by exact .const _) (fun o3 => by exact .const _) x
def imm_Sci8.s : Nat → Int → Option (Int × Int × Int × Bool)
  | 0, _ => none
  | k + 1, a0 => imm_Sci8_b (imm_forms.s k) (imm_Sci8_L1.s k (fun a0 a1_f0 => imm_found.s k a0 a1_f0)) a0
theorem imm_Sci8.ok : ∀ (k : Nat), ∀ (a0 : Int) (r : (Int × Int × Int × Bool)), imm_Sci8.s k a0 = some r → evalFn Try.prog G k 6 [.sc (.int .i64 a0)] [] = some (imm_Sci8_e r)
  | 0, _, _, h => (nomatch h)
  | k + 1, a0, r, h => fn_ok rfl (imm_Sci8_t Try.prog (evalFn Try.prog G k) (imm_forms.s k) (imm_Sci8_L1.s k (fun a0 a1_f0 => imm_found.s k a0 a1_f0)) a0) (imm_Sci8_n _ (imm_forms.s k) (imm_Sci8_L1.s k (fun a0 a1_f0 => imm_found.s k a0 a1_f0)) a0) (imm_Sci8_k _ _ _ (imm_forms.s k) (imm_Sci8_L1.s k (fun a0 a1_f0 => imm_found.s k a0 a1_f0)) (imm_forms.ok k) (imm_Sci8_L1_ok _ k (fun a0 a1_f0 => imm_found.s k a0 a1_f0) (imm_found.ok k)) a0) ((imm_Sci8_d _ _ (imm_forms.s k) (imm_Sci8_L1.s k (fun a0 a1_f0 => imm_found.s k a0 a1_f0)) a0).trans h)
theorem imm_Sci8.mono : ∀ (k : Nat) (a0 : Int), Le (imm_Sci8.s k a0) (imm_Sci8.s (k + 1) a0)
  | 0, _ => fun r h => (nomatch h)
  | k + 1, a0 => imm_Sci8_m (imm_forms.mono k) (imm_Sci8_L1.m (Nat.le_succ k) (fun a0 a1_f0 => imm_found.s k a0 a1_f0) (fun a0 a1_f0 => imm_found.s (k + 1) a0 a1_f0) (imm_found.mono k)) a0
noncomputable def imm_Sci8 (a0 : Int) : Option (Int × Int × Int × Bool) := lim fun k => imm_Sci8.s k a0
theorem imm_Sci8.cv (a0 : Int) : Cv (fun k => imm_Sci8.s k a0) (imm_Sci8 a0) := .lim fun k => imm_Sci8.mono k a0
noncomputable def imm_Sci8_L1 : imm_Sci8_L1_A → Option (imm_Sci8_L1_O0 ⊕ Unit) := imm_Sci8_L1.w imm_found
theorem imm_Sci8_L1.eq (a : imm_Sci8_L1_A) : imm_Sci8_L1 a = (imm_Sci8_L1_b imm_found a).bind (Sum.elim imm_Sci8_L1 some) := loopW_eq _ _
theorem imm_Sci8.eq (a0 : Int) : imm_Sci8 a0 = imm_Sci8_b imm_forms imm_Sci8_L1 a0 := Cv.uniq (imm_Sci8.cv a0).shift (imm_Sci8_c imm_forms.cv (imm_Sci8_L1.cv (fun k => fun a0 a1_f0 => imm_found.s k a0 a1_f0) imm_found imm_found.cv) a0)
def imm_Split_e (r : (Int × Int × Int)) : AV × Heap := (.tup [.sc (.int .i64 r.1), .sc (.int .i64 r.2.1), .sc (.int .i64 r.2.2)], [])
def imm_Split_b  (a0 : Int) : Option (Int × Int × Int) := (some ((andI .i64 (shrI .i64 a0 (16 : Int)) (15 : Int)), (andI .i64 (shrI .i64 a0 (11 : Int)) (31 : Int)), (andI .i64 a0 (2047 : Int))))
def imm_Split_t (P : Program) (call : CallF)  (a0 : Int) : Tr (Int × Int × Int) (AV × Heap) := (.yes (decide (0 ≤ (16 : Int))) (.yes (decide (0 ≤ (11 : Int))) (rt imm_Split_e ((andI .i64 (shrI .i64 a0 (16 : Int)) (15 : Int)), (andI .i64 (shrI .i64 a0 (11 : Int)) (31 : Int)), (andI .i64 a0 (2047 : Int))))))
theorem imm_Split_d (P : Program) (call : CallF)  (a0 : Int) : (imm_Split_t P call  a0).den = imm_Split_b  a0 := rfl
theorem imm_Split_n (call : CallF)  (a0 : Int) : (imm_Split_t Try.prog call  a0).norm (bodyT Try.prog call G 8 [.sc (.int .i64 a0)] []) = imm_Split_t Try.prog call  a0 := by kernel_rfl
theorem imm_Split_k (P : Program) (call : CallF) (lp : Loops)   (a0 : Int) : (imm_Split_t P call  a0).ok lp imm_Split_e := ⟨rfl, ⟨rfl, rfl⟩⟩
def imm_Split.s : Nat → Int → Option (Int × Int × Int)
  | 0, _ => none
  | k + 1, a0 => imm_Split_b  a0
theorem imm_Split.ok : ∀ (k : Nat), ∀ (a0 : Int) (r : (Int × Int × Int)), imm_Split.s k a0 = some r → evalFn Try.prog G k 8 [.sc (.int .i64 a0)] [] = some (imm_Split_e r)
  | 0, _, _, h => (nomatch h)
  | k + 1, a0, r, h => fn_ok rfl (imm_Split_t Try.prog (evalFn Try.prog G k)  a0) (imm_Split_n _  a0) (imm_Split_k _ _ _    a0) ((imm_Split_d _ _  a0).trans h)
theorem imm_Split.mono : ∀ (k : Nat) (a0 : Int), Le (imm_Split.s k a0) (imm_Split.s (k + 1) a0)
  | 0, _ => fun r h => (nomatch h)
  | k + 1, a0 => .refl _
noncomputable def imm_Split (a0 : Int) : Option (Int × Int × Int) := lim fun k => imm_Split.s k a0
theorem imm_Split.cv (a0 : Int) : Cv (fun k => imm_Split.s k a0) (imm_Split a0) := .lim fun k => imm_Split.mono k a0
theorem imm_Split.eq (a0 : Int) : imm_Split a0 = imm_Split_b  a0 := Cv.uniq (imm_Split.cv a0).shift (by exact .const _)
def imm_Joined_e (r : Int) : AV × Heap := (.sc (.int .i64 r), [])
def imm_Joined_b (c_imm_Sign : Int → Int → Option Int) (a0 : Int) (a1 : Int) (a2 : Int) : Option Int := ((c_imm_Sign (orI .i64 (orI .i64 (shlI .i64 a0 (16 : Int)) (shlI .i64 a1 (11 : Int))) a2) (20 : Int)).bind fun (r1 : Int) => (some r1))
def imm_Joined_t (P : Program) (call : CallF) (c_imm_Sign : Int → Int → Option Int) (a0 : Int) (a1 : Int) (a2 : Int) : Tr Int (AV × Heap) := (.yes (decide (0 ≤ (16 : Int))) (.yes (decide (0 ≤ (11 : Int))) (.call (call 7 [.sc (.int .i64 (orI .i64 (orI .i64 (shlI .i64 a0 (16 : Int)) (shlI .i64 a1 (11 : Int))) a2)), .sc (.int .i64 (20 : Int))] []) (c_imm_Sign (orI .i64 (orI .i64 (shlI .i64 a0 (16 : Int)) (shlI .i64 a1 (11 : Int))) a2) (20 : Int)) imm_Sign_e fun (r1 : Int) => (rt imm_Joined_e r1))))
theorem imm_Joined_d (P : Program) (call : CallF) (c_imm_Sign : Int → Int → Option Int) (a0 : Int) (a1 : Int) (a2 : Int) : (imm_Joined_t P call c_imm_Sign a0 a1 a2).den = imm_Joined_b c_imm_Sign a0 a1 a2 := rfl
theorem imm_Joined_n (call : CallF) (c_imm_Sign : Int → Int → Option Int) (a0 : Int) (a1 : Int) (a2 : Int) : (imm_Joined_t Try.prog call c_imm_Sign a0 a1 a2).norm (bodyT Try.prog call G 10 [.sc (.int .i64 a0), .sc (.int .i64 a1), .sc (.int .i64 a2)] []) = imm_Joined_t Try.prog call c_imm_Sign a0 a1 a2 := by kernel_rfl
theorem imm_Joined_k (P : Program) (call : CallF) (lp : Loops) (c_imm_Sign : Int → Int → Option Int) (hc_imm_Sign : ∀ (a0 : Int) (a1 : Int) (r : Int), c_imm_Sign a0 a1 = some r → (call 7 [.sc (.int .i64 a0), .sc (.int .i64 a1)] []) = some (imm_Sign_e r)) (a0 : Int) (a1 : Int) (a2 : Int) : (imm_Joined_t P call c_imm_Sign a0 a1 a2).ok lp imm_Joined_e := ⟨rfl, ⟨rfl, fun r1 hr1 => ⟨hc_imm_Sign _ _ _ hr1, rfl⟩⟩⟩
theorem imm_Joined_m {c_imm_Sign d_imm_Sign : Int → Int → Option Int} (h_imm_Sign : ∀ (a0 : Int) (a1 : Int), Le (c_imm_Sign a0 a1) (d_imm_Sign a0 a1)) (a0 : Int) (a1 : Int) (a2 : Int) : Le (imm_Joined_b c_imm_Sign a0 a1 a2) (imm_Joined_b d_imm_Sign a0 a1 a2) := by
  unfold imm_Joined_b
  exact .bind (h_imm_Sign _ _) fun r1 => .refl _
theorem imm_Joined_c {c_imm_Sign : Nat → Int → Int → Option Int} {d_imm_Sign : Int → Int → Option Int} (h_imm_Sign : ∀ (a0 : Int) (a1 : Int), Cv (fun k => c_imm_Sign k a0 a1) (d_imm_Sign a0 a1)) (a0 : Int) (a1 : Int) (a2 : Int) : Cv (fun k => imm_Joined_b (c_imm_Sign k) a0 a1 a2) (imm_Joined_b d_imm_Sign a0 a1 a2) := by
  unfold imm_Joined_b
  exact .bind (h_imm_Sign _ _) fun r1 => by exact .const _
def imm_Joined.s : Nat → Int → Int → Int → Option Int
  | 0, _, _, _ => none
  | k + 1, a0, a1, a2 => imm_Joined_b (fun a0 a1 => imm_Sign.s k a0 a1) a0 a1 a2
theorem imm_Joined.ok : ∀ (k : Nat), ∀ (a0 : Int) (a1 : Int) (a2 : Int) (r : Int), imm_Joined.s k a0 a1 a2 = some r → evalFn Try.prog G k 10 [.sc (.int .i64 a0), .sc (.int .i64 a1), .sc (.int .i64 a2)] [] = some (imm_Joined_e r)
  | 0, _, _, _, _, h => (nomatch h)
  | k + 1, a0, a1, a2, r, h => fn_ok rfl (imm_Joined_t Try.prog (evalFn Try.prog G k) (fun a0 a1 => imm_Sign.s k a0 a1) a0 a1 a2) (imm_Joined_n _ (fun a0 a1 => imm_Sign.s k a0 a1) a0 a1 a2) (imm_Joined_k _ _ _ (fun a0 a1 => imm_Sign.s k a0 a1) (imm_Sign.ok k)  a0 a1 a2) ((imm_Joined_d _ _ (fun a0 a1 => imm_Sign.s k a0 a1) a0 a1 a2).trans h)
theorem imm_Joined.mono : ∀ (k : Nat) (a0 : Int) (a1 : Int) (a2 : Int), Le (imm_Joined.s k a0 a1 a2) (imm_Joined.s (k + 1) a0 a1 a2)
  | 0, _, _, _ => fun r h => (nomatch h)
  | k + 1, a0, a1, a2 => imm_Joined_m (imm_Sign.mono k) a0 a1 a2
noncomputable def imm_Joined (a0 : Int) (a1 : Int) (a2 : Int) : Option Int := lim fun k => imm_Joined.s k a0 a1 a2
theorem imm_Joined.cv (a0 : Int) (a1 : Int) (a2 : Int) : Cv (fun k => imm_Joined.s k a0 a1 a2) (imm_Joined a0 a1 a2) := .lim fun k => imm_Joined.mono k a0 a1 a2
theorem imm_Joined.eq (a0 : Int) (a1 : Int) (a2 : Int) : imm_Joined a0 a1 a2 = imm_Joined_b imm_Sign a0 a1 a2 := Cv.uniq (imm_Joined.cv a0 a1 a2).shift (imm_Joined_c imm_Sign.cv a0 a1 a2)
def imm_Fits_e (r : Bool) : AV × Heap := (.sc (.bool r), [])
def imm_Fits.s : Nat → Int → Int → Option Bool
  | 0, _, _ => none
  | _ + 1, a0, a1 => fitsS a0 a1
theorem imm_Fits.ok : ∀ (k : Nat), ∀ (a0 : Int) (a1 : Int) (r : Bool), imm_Fits.s k a0 a1 = some r → evalFn Try.prog G k 11 [.sc (.int .i64 a0), .sc (.int .i64 a1)] [] = some (imm_Fits_e r)
  | 0, _, _, _, h => (nomatch h)
  | k + 1, a0, a1, r, h => fits_ok h
noncomputable def imm_Fits (a0 : Int) (a1 : Int) : Option Bool := fitsS a0 a1
theorem imm_Fits.mono (k : Nat) (a0 : Int) (a1 : Int) : Le (imm_Fits.s k a0 a1) (imm_Fits.s (k + 1) a0 a1) := by
  cases k with
  | zero => exact fun r h => nomatch h
  | succ k => exact Le.refl _
theorem imm_Fits.cv (a0 : Int) (a1 : Int) : Cv (fun k => imm_Fits.s k a0 a1) (imm_Fits a0 a1) := ⟨fun k => imm_Fits.mono k a0 a1, fun r => ⟨fun h => ⟨1, h⟩, fun ⟨k, h⟩ => by
  cases k with
  | zero => cases h
  | succ k => exact h⟩⟩
def w1_known_e (r : Bool) : AV × Heap := (.sc (.bool r), [])
def w1_known_b (c_imm_Sci8 : Int → Option (Int × Int × Int × Bool)) (c_imm_Split : Int → Option (Int × Int × Int)) (c_imm_Back : Int → Int → Int → Option Int) (c_imm_Joined : Int → Int → Int → Option Int) (c_imm_Fits : Int → Int → Option Bool) (c_imm_Sign : Int → Int → Option Int)  : Option Bool := ((c_imm_Sci8 (256 : Int)).bind fun (r1 : (Int × Int × Int × Bool)) => ((c_imm_Split (2049 : Int)).bind fun (r2 : (Int × Int × Int)) => (bif r1.2.2.2 then (bif (r1.1 == (0 : Int)) then (bif (r1.2.1 == (1 : Int)) then (bif (r1.2.2.1 == (1 : Int)) then ((c_imm_Back (0 : Int) (1 : Int) (1 : Int)).bind fun (r3 : Int) => (bif (r3 == (256 : Int)) then (bif (r2.1 == (0 : Int)) then (bif (r2.2.1 == (1 : Int)) then (bif (r2.2.2 == (1 : Int)) then ((c_imm_Joined (0 : Int) (1 : Int) (1 : Int)).bind fun (r4 : Int) => (bif (r4 == (2049 : Int)) then ((c_imm_Fits (127 : Int) (8 : Int)).bind fun (r5 : Bool) => (bif r5 then ((c_imm_Fits (128 : Int) (8 : Int)).bind fun (r6 : Bool) => (bif (!r6) then ((c_imm_Sign (255 : Int) (8 : Int)).bind fun (r7 : Int) => (some (r7 == (-1 : Int)))) else (some false))) else (some false))) else (some false))) else (some false)) else (some false)) else (some false)) else (some false))) else (some false)) else (some false)) else (some false)) else (some false))))
def w1_known_t (P : Program) (call : CallF) (c_imm_Sci8 : Int → Option (Int × Int × Int × Bool)) (c_imm_Split : Int → Option (Int × Int × Int)) (c_imm_Back : Int → Int → Int → Option Int) (c_imm_Joined : Int → Int → Int → Option Int) (c_imm_Fits : Int → Int → Option Bool) (c_imm_Sign : Int → Int → Option Int)  : Tr Bool (AV × Heap) := (.call (call 6 [.sc (.int .i64 (256 : Int))] []) (c_imm_Sci8 (256 : Int)) imm_Sci8_e fun (r1 : (Int × Int × Int × Bool)) => (.call (call 8 [.sc (.int .i64 (2049 : Int))] []) (c_imm_Split (2049 : Int)) imm_Split_e fun (r2 : (Int × Int × Int)) => (.as r1.2.2.2 (yesN 2 r1.2.2.2 (.as (r1.1 == (0 : Int)) (yesN 2 (r1.1 == (0 : Int)) (.as (r1.2.1 == (1 : Int)) (yesN 2 (r1.2.1 == (1 : Int)) (.as (r1.2.2.1 == (1 : Int)) (.call (call 9 [.sc (.int .i64 (0 : Int)), .sc (.int .i64 (1 : Int)), .sc (.int .i64 (1 : Int))] []) (c_imm_Back (0 : Int) (1 : Int) (1 : Int)) imm_Back_e fun (r3 : Int) => (yesN 2 (r1.2.2.1 == (1 : Int)) (.as (r3 == (256 : Int)) (yesN 2 (r3 == (256 : Int)) (.as (r2.1 == (0 : Int)) (yesN 2 (r2.1 == (0 : Int)) (.as (r2.2.1 == (1 : Int)) (yesN 2 (r2.2.1 == (1 : Int)) (.as (r2.2.2 == (1 : Int)) (.call (call 10 [.sc (.int .i64 (0 : Int)), .sc (.int .i64 (1 : Int)), .sc (.int .i64 (1 : Int))] []) (c_imm_Joined (0 : Int) (1 : Int) (1 : Int)) imm_Joined_e fun (r4 : Int) => (yesN 2 (r2.2.2 == (1 : Int)) (.as (r4 == (2049 : Int)) (.call (call 11 [.sc (.int .i64 (127 : Int)), .sc (.int .i64 (8 : Int))] []) (c_imm_Fits (127 : Int) (8 : Int)) imm_Fits_e fun (r5 : Bool) => (.yes (r4 == (2049 : Int)) (.as r5 (.call (call 11 [.sc (.int .i64 (128 : Int)), .sc (.int .i64 (8 : Int))] []) (c_imm_Fits (128 : Int) (8 : Int)) imm_Fits_e fun (r6 : Bool) => (yesN 2 r5 (.as (!r6) (.call (call 7 [.sc (.int .i64 (255 : Int)), .sc (.int .i64 (8 : Int))] []) (c_imm_Sign (255 : Int) (8 : Int)) imm_Sign_e fun (r7 : Int) => (yesN 2 (!r6) (rt w1_known_e (r7 == (-1 : Int))))) (noN 2 (!r6) (rt w1_known_e false))))) (noN 2 r5 (noN 3 false (rt w1_known_e false)))))) (.no (r4 == (2049 : Int)) (noN 6 false (rt w1_known_e false)))))) (noN 2 (r2.2.2 == (1 : Int)) (noN 8 false (rt w1_known_e false))))) (noN 2 (r2.2.1 == (1 : Int)) (noN 11 false (rt w1_known_e false))))) (noN 2 (r2.1 == (0 : Int)) (noN 14 false (rt w1_known_e false))))) (noN 2 (r3 == (256 : Int)) (noN 17 false (rt w1_known_e false)))))) (noN 2 (r1.2.2.1 == (1 : Int)) (noN 20 false (rt w1_known_e false))))) (noN 2 (r1.2.1 == (1 : Int)) (noN 23 false (rt w1_known_e false))))) (noN 2 (r1.1 == (0 : Int)) (noN 26 false (rt w1_known_e false))))) (noN 2 r1.2.2.2 (noN 29 false (rt w1_known_e false))))))
theorem w1_known_d (P : Program) (call : CallF) (c_imm_Sci8 : Int → Option (Int × Int × Int × Bool)) (c_imm_Split : Int → Option (Int × Int × Int)) (c_imm_Back : Int → Int → Int → Option Int) (c_imm_Joined : Int → Int → Int → Option Int) (c_imm_Fits : Int → Int → Option Bool) (c_imm_Sign : Int → Int → Option Int)  : (w1_known_t P call c_imm_Sci8 c_imm_Split c_imm_Back c_imm_Joined c_imm_Fits c_imm_Sign ).den = w1_known_b c_imm_Sci8 c_imm_Split c_imm_Back c_imm_Joined c_imm_Fits c_imm_Sign  := rfl
theorem w1_known_n (call : CallF) (c_imm_Sci8 : Int → Option (Int × Int × Int × Bool)) (c_imm_Split : Int → Option (Int × Int × Int)) (c_imm_Back : Int → Int → Int → Option Int) (c_imm_Joined : Int → Int → Int → Option Int) (c_imm_Fits : Int → Int → Option Bool) (c_imm_Sign : Int → Int → Option Int)  : (w1_known_t Try.prog call c_imm_Sci8 c_imm_Split c_imm_Back c_imm_Joined c_imm_Fits c_imm_Sign ).norm (bodyT Try.prog call G 4 [] []) = w1_known_t Try.prog call c_imm_Sci8 c_imm_Split c_imm_Back c_imm_Joined c_imm_Fits c_imm_Sign  := by kernel_rfl
theorem w1_known_k (P : Program) (call : CallF) (lp : Loops) (c_imm_Sci8 : Int → Option (Int × Int × Int × Bool)) (c_imm_Split : Int → Option (Int × Int × Int)) (c_imm_Back : Int → Int → Int → Option Int) (c_imm_Joined : Int → Int → Int → Option Int) (c_imm_Fits : Int → Int → Option Bool) (c_imm_Sign : Int → Int → Option Int) (hc_imm_Sci8 : ∀ (a0 : Int) (r : (Int × Int × Int × Bool)), c_imm_Sci8 a0 = some r → (call 6 [.sc (.int .i64 a0)] []) = some (imm_Sci8_e r)) (hc_imm_Split : ∀ (a0 : Int) (r : (Int × Int × Int)), c_imm_Split a0 = some r → (call 8 [.sc (.int .i64 a0)] []) = some (imm_Split_e r)) (hc_imm_Back : ∀ (a0 : Int) (a1 : Int) (a2 : Int) (r : Int), c_imm_Back a0 a1 a2 = some r → (call 9 [.sc (.int .i64 a0), .sc (.int .i64 a1), .sc (.int .i64 a2)] []) = some (imm_Back_e r)) (hc_imm_Joined : ∀ (a0 : Int) (a1 : Int) (a2 : Int) (r : Int), c_imm_Joined a0 a1 a2 = some r → (call 10 [.sc (.int .i64 a0), .sc (.int .i64 a1), .sc (.int .i64 a2)] []) = some (imm_Joined_e r)) (hc_imm_Fits : ∀ (a0 : Int) (a1 : Int) (r : Bool), c_imm_Fits a0 a1 = some r → (call 11 [.sc (.int .i64 a0), .sc (.int .i64 a1)] []) = some (imm_Fits_e r)) (hc_imm_Sign : ∀ (a0 : Int) (a1 : Int) (r : Int), c_imm_Sign a0 a1 = some r → (call 7 [.sc (.int .i64 a0), .sc (.int .i64 a1)] []) = some (imm_Sign_e r))  : (w1_known_t P call c_imm_Sci8 c_imm_Split c_imm_Back c_imm_Joined c_imm_Fits c_imm_Sign ).ok lp w1_known_e := fun r1 hr1 => ⟨hc_imm_Sci8 _ _ hr1, fun r2 hr2 => ⟨hc_imm_Split _ _ hr2, ⟨rfl, fun h0 => yesN_ok 2 (h0) (⟨rfl, fun h1 => yesN_ok 2 (h1) (⟨rfl, fun h2 => yesN_ok 2 (h2) (⟨rfl, fun h3 => fun r3 hr3 => ⟨hc_imm_Back _ _ _ _ hr3, yesN_ok 2 (h3) (⟨rfl, fun h4 => yesN_ok 2 (h4) (⟨rfl, fun h5 => yesN_ok 2 (h5) (⟨rfl, fun h6 => yesN_ok 2 (h6) (⟨rfl, fun h7 => fun r4 hr4 => ⟨hc_imm_Joined _ _ _ _ hr4, yesN_ok 2 (h7) (⟨rfl, fun h8 => fun r5 hr5 => ⟨hc_imm_Fits _ _ _ hr5, ⟨h8, ⟨rfl, fun h9 => fun r6 hr6 => ⟨hc_imm_Fits _ _ _ hr6, yesN_ok 2 (h9) (⟨rfl, fun h10 => fun r7 hr7 => ⟨hc_imm_Sign _ _ _ hr7, yesN_ok 2 (h10) (rfl)⟩, fun h10 => noN_ok 2 (h10) (rfl)⟩)⟩, fun h9 => noN_ok 2 (h9) (noN_ok 3 (rfl) (rfl))⟩⟩⟩, fun h8 => ⟨h8, noN_ok 6 (rfl) (rfl)⟩⟩)⟩, fun h7 => noN_ok 2 (h7) (noN_ok 8 (rfl) (rfl))⟩), fun h6 => noN_ok 2 (h6) (noN_ok 11 (rfl) (rfl))⟩), fun h5 => noN_ok 2 (h5) (noN_ok 14 (rfl) (rfl))⟩), fun h4 => noN_ok 2 (h4) (noN_ok 17 (rfl) (rfl))⟩)⟩, fun h3 => noN_ok 2 (h3) (noN_ok 20 (rfl) (rfl))⟩), fun h2 => noN_ok 2 (h2) (noN_ok 23 (rfl) (rfl))⟩), fun h1 => noN_ok 2 (h1) (noN_ok 26 (rfl) (rfl))⟩), fun h0 => noN_ok 2 (h0) (noN_ok 29 (rfl) (rfl))⟩⟩⟩
theorem w1_known_m {c_imm_Sci8 d_imm_Sci8 : Int → Option (Int × Int × Int × Bool)} (h_imm_Sci8 : ∀ (a0 : Int), Le (c_imm_Sci8 a0) (d_imm_Sci8 a0)) {c_imm_Split d_imm_Split : Int → Option (Int × Int × Int)} (h_imm_Split : ∀ (a0 : Int), Le (c_imm_Split a0) (d_imm_Split a0)) {c_imm_Back d_imm_Back : Int → Int → Int → Option Int} (h_imm_Back : ∀ (a0 : Int) (a1 : Int) (a2 : Int), Le (c_imm_Back a0 a1 a2) (d_imm_Back a0 a1 a2)) {c_imm_Joined d_imm_Joined : Int → Int → Int → Option Int} (h_imm_Joined : ∀ (a0 : Int) (a1 : Int) (a2 : Int), Le (c_imm_Joined a0 a1 a2) (d_imm_Joined a0 a1 a2)) {c_imm_Fits d_imm_Fits : Int → Int → Option Bool} (h_imm_Fits : ∀ (a0 : Int) (a1 : Int), Le (c_imm_Fits a0 a1) (d_imm_Fits a0 a1)) {c_imm_Sign d_imm_Sign : Int → Int → Option Int} (h_imm_Sign : ∀ (a0 : Int) (a1 : Int), Le (c_imm_Sign a0 a1) (d_imm_Sign a0 a1))  : Le (w1_known_b c_imm_Sci8 c_imm_Split c_imm_Back c_imm_Joined c_imm_Fits c_imm_Sign ) (w1_known_b d_imm_Sci8 d_imm_Split d_imm_Back d_imm_Joined d_imm_Fits d_imm_Sign ) := by
  unfold w1_known_b
  exact .bind (h_imm_Sci8 _) fun r1 => .bind (h_imm_Split _) fun r2 => .cond (.cond (.cond (.cond (.bind (h_imm_Back _ _ _) fun r3 => .cond (.cond (.cond (.cond (.bind (h_imm_Joined _ _ _) fun r4 => .cond (.bind (h_imm_Fits _ _) fun r5 => .cond (.bind (h_imm_Fits _ _) fun r6 => .cond (.bind (h_imm_Sign _ _) fun r7 => .refl _) (.refl _)) (.refl _)) (.refl _)) (.refl _)) (.refl _)) (.refl _)) (.refl _)) (.refl _)) (.refl _)) (.refl _)) (.refl _)
theorem w1_known_c {c_imm_Sci8 : Nat → Int → Option (Int × Int × Int × Bool)} {d_imm_Sci8 : Int → Option (Int × Int × Int × Bool)} (h_imm_Sci8 : ∀ (a0 : Int), Cv (fun k => c_imm_Sci8 k a0) (d_imm_Sci8 a0)) {c_imm_Split : Nat → Int → Option (Int × Int × Int)} {d_imm_Split : Int → Option (Int × Int × Int)} (h_imm_Split : ∀ (a0 : Int), Cv (fun k => c_imm_Split k a0) (d_imm_Split a0)) {c_imm_Back : Nat → Int → Int → Int → Option Int} {d_imm_Back : Int → Int → Int → Option Int} (h_imm_Back : ∀ (a0 : Int) (a1 : Int) (a2 : Int), Cv (fun k => c_imm_Back k a0 a1 a2) (d_imm_Back a0 a1 a2)) {c_imm_Joined : Nat → Int → Int → Int → Option Int} {d_imm_Joined : Int → Int → Int → Option Int} (h_imm_Joined : ∀ (a0 : Int) (a1 : Int) (a2 : Int), Cv (fun k => c_imm_Joined k a0 a1 a2) (d_imm_Joined a0 a1 a2)) {c_imm_Fits : Nat → Int → Int → Option Bool} {d_imm_Fits : Int → Int → Option Bool} (h_imm_Fits : ∀ (a0 : Int) (a1 : Int), Cv (fun k => c_imm_Fits k a0 a1) (d_imm_Fits a0 a1)) {c_imm_Sign : Nat → Int → Int → Option Int} {d_imm_Sign : Int → Int → Option Int} (h_imm_Sign : ∀ (a0 : Int) (a1 : Int), Cv (fun k => c_imm_Sign k a0 a1) (d_imm_Sign a0 a1))  : Cv (fun k => w1_known_b (c_imm_Sci8 k) (c_imm_Split k) (c_imm_Back k) (c_imm_Joined k) (c_imm_Fits k) (c_imm_Sign k) ) (w1_known_b d_imm_Sci8 d_imm_Split d_imm_Back d_imm_Joined d_imm_Fits d_imm_Sign ) := by
  unfold w1_known_b
  exact .bind (h_imm_Sci8 _) fun r1 => .bind (h_imm_Split _) fun r2 => .cond (.cond (.cond (.cond (.bind (h_imm_Back _ _ _) fun r3 => .cond (.cond (.cond (.cond (.bind (h_imm_Joined _ _ _) fun r4 => .cond (.bind (h_imm_Fits _ _) fun r5 => .cond (.bind (h_imm_Fits _ _) fun r6 => .cond (.bind (h_imm_Sign _ _) fun r7 => by exact .const _) (by exact .const _)) (by exact .const _)) (by exact .const _)) (by exact .const _)) (by exact .const _)) (by exact .const _)) (by exact .const _)) (by exact .const _)) (by exact .const _)) (by exact .const _)) (by exact .const _)
def w1_known.s : Nat → Option Bool
  | 0 => none
  | k + 1 => w1_known_b (fun a0 => imm_Sci8.s k a0) (fun a0 => imm_Split.s k a0) (fun a0 a1 a2 => imm_Back.s k a0 a1 a2) (fun a0 a1 a2 => imm_Joined.s k a0 a1 a2) (fun a0 a1 => imm_Fits.s k a0 a1) (fun a0 a1 => imm_Sign.s k a0 a1) 
theorem w1_known.ok : ∀ (k : Nat), ∀  (r : Bool), w1_known.s k  = some r → evalFn Try.prog G k 4 [] [] = some (w1_known_e r)
  | 0, _, h => (nomatch h)
  | k + 1, r, h => fn_ok rfl (w1_known_t Try.prog (evalFn Try.prog G k) (fun a0 => imm_Sci8.s k a0) (fun a0 => imm_Split.s k a0) (fun a0 a1 a2 => imm_Back.s k a0 a1 a2) (fun a0 a1 a2 => imm_Joined.s k a0 a1 a2) (fun a0 a1 => imm_Fits.s k a0 a1) (fun a0 a1 => imm_Sign.s k a0 a1) ) (w1_known_n _ (fun a0 => imm_Sci8.s k a0) (fun a0 => imm_Split.s k a0) (fun a0 a1 a2 => imm_Back.s k a0 a1 a2) (fun a0 a1 a2 => imm_Joined.s k a0 a1 a2) (fun a0 a1 => imm_Fits.s k a0 a1) (fun a0 a1 => imm_Sign.s k a0 a1) ) (w1_known_k _ _ _ (fun a0 => imm_Sci8.s k a0) (fun a0 => imm_Split.s k a0) (fun a0 a1 a2 => imm_Back.s k a0 a1 a2) (fun a0 a1 a2 => imm_Joined.s k a0 a1 a2) (fun a0 a1 => imm_Fits.s k a0 a1) (fun a0 a1 => imm_Sign.s k a0 a1) (imm_Sci8.ok k) (imm_Split.ok k) (imm_Back.ok k) (imm_Joined.ok k) (imm_Fits.ok k) (imm_Sign.ok k)  ) ((w1_known_d _ _ (fun a0 => imm_Sci8.s k a0) (fun a0 => imm_Split.s k a0) (fun a0 a1 a2 => imm_Back.s k a0 a1 a2) (fun a0 a1 a2 => imm_Joined.s k a0 a1 a2) (fun a0 a1 => imm_Fits.s k a0 a1) (fun a0 a1 => imm_Sign.s k a0 a1) ).trans h)
theorem w1_known.mono : ∀ (k : Nat), Le (w1_known.s k ) (w1_known.s (k + 1) )
  | 0 => fun r h => (nomatch h)
  | k + 1 => w1_known_m (imm_Sci8.mono k) (imm_Split.mono k) (imm_Back.mono k) (imm_Joined.mono k) (imm_Fits.mono k) (imm_Sign.mono k) 
noncomputable def w1_known  : Option Bool := lim fun k => w1_known.s k 
theorem w1_known.cv  : Cv (fun k => w1_known.s k ) (w1_known ) := .lim fun k => w1_known.mono k 
theorem w1_known.eq  : w1_known  = w1_known_b imm_Sci8 imm_Split imm_Back imm_Joined imm_Fits imm_Sign  := Cv.uniq (w1_known.cv ).shift (w1_known_c imm_Sci8.cv imm_Split.cv imm_Back.cv imm_Joined.cv imm_Fits.cv imm_Sign.cv )
def w1_within_e (r : Int) : AV × Heap := (.sc (.int .i64 r), [])
def w1_within_b  (a0 : Int) (a1 : Int) : Option Int := (bif (decide (a1 ≠ 0)) then (bif (decide ((Int.tmod a0 a1) < (0 : Int))) then (some (w64 ((Int.tmod a0 a1) + a1))) else (some (Int.tmod a0 a1))) else none)
def w1_within_t (P : Program) (call : CallF)  (a0 : Int) (a1 : Int) : Tr Int (AV × Heap) := (.as (decide (a1 ≠ 0)) (.as (decide ((Int.tmod a0 a1) < (0 : Int))) (rt w1_within_e (w64 ((Int.tmod a0 a1) + a1))) (rt w1_within_e (Int.tmod a0 a1))) .fail)
theorem w1_within_d (P : Program) (call : CallF)  (a0 : Int) (a1 : Int) : (w1_within_t P call  a0 a1).den = w1_within_b  a0 a1 := rfl
theorem w1_within_n (call : CallF)  (a0 : Int) (a1 : Int) : (w1_within_t Try.prog call  a0 a1).norm (bodyT Try.prog call G 5 [.sc (.int .i64 a0), .sc (.int .i64 a1)] []) = w1_within_t Try.prog call  a0 a1 := by kernel_rfl
theorem w1_within_k (P : Program) (call : CallF) (lp : Loops)   (a0 : Int) (a1 : Int) : (w1_within_t P call  a0 a1).ok lp w1_within_e := ⟨rfl, fun h0 => ⟨rfl, fun h1 => rfl, fun h1 => rfl⟩, fun h0 => trivial⟩
def w1_within.s : Nat → Int → Int → Option Int
  | 0, _, _ => none
  | k + 1, a0, a1 => w1_within_b  a0 a1
theorem w1_within.ok : ∀ (k : Nat), ∀ (a0 : Int) (a1 : Int) (r : Int), w1_within.s k a0 a1 = some r → evalFn Try.prog G k 5 [.sc (.int .i64 a0), .sc (.int .i64 a1)] [] = some (w1_within_e r)
  | 0, _, _, _, h => (nomatch h)
  | k + 1, a0, a1, r, h => fn_ok rfl (w1_within_t Try.prog (evalFn Try.prog G k)  a0 a1) (w1_within_n _  a0 a1) (w1_within_k _ _ _    a0 a1) ((w1_within_d _ _  a0 a1).trans h)
theorem w1_within.mono : ∀ (k : Nat) (a0 : Int) (a1 : Int), Le (w1_within.s k a0 a1) (w1_within.s (k + 1) a0 a1)
  | 0, _, _ => fun r h => (nomatch h)
  | k + 1, a0, a1 => .refl _
noncomputable def w1_within (a0 : Int) (a1 : Int) : Option Int := lim fun k => w1_within.s k a0 a1
theorem w1_within.cv (a0 : Int) (a1 : Int) : Cv (fun k => w1_within.s k a0 a1) (w1_within a0 a1) := .lim fun k => w1_within.mono k a0 a1
theorem w1_within.eq (a0 : Int) (a1 : Int) : w1_within a0 a1 = w1_within_b  a0 a1 := Cv.uniq (w1_within.cv a0 a1).shift (by exact .const _)
def w1_ImmBytes_e (r : Bool) : AV × Heap := (.sc (.bool r), [])
structure w1_ImmBytes_L1_A where
  x9 : (List Int)
  x10 : Int
  x11 : Int
  x12 : Int
  x13 : Int
structure w1_ImmBytes_L1_O0 where
  x10 : Int
  x11 : Int
  x12 : Int
def w1_ImmBytes_L1_s (a : w1_ImmBytes_L1_A) : St := { n := 90, nx := 0, env := [(9, .sl (R_i64 a.x9)), (10, .sc (.int .i64 a.x10)), (11, .sc (.int .i64 a.x11)), (12, .sc (.int .i64 a.x12)), (13, .sc (.int .i64 a.x13))], heap := [] }
def w1_ImmBytes_L1_e (a : w1_ImmBytes_L1_O0) : Ex × St := (.exit 0, { n := 90, nx := 0, env := [(10, .sc (.int .i64 a.x10)), (11, .sc (.int .i64 a.x11)), (12, .sc (.int .i64 a.x12))], heap := [] })
def w1_ImmBytes_L1_b  (a : w1_ImmBytes_L1_A) : Option (w1_ImmBytes_L1_A ⊕ w1_ImmBytes_L1_O0) := (bif (decide (a.x13 < (4 : Int))) then (bif (decide (0 ≤ a.x13)) then ((a.x9[(Int.toNat a.x13)]?).bind fun (e1 : Int) => ((a.x9[(Int.toNat a.x13)]?).bind fun (e2 : Int) => (bif (e2 == (0 : Int)) then ((a.x9[(Int.toNat a.x13)]?).bind fun (e3 : Int) => (bif (e3 == (255 : Int)) then (some (.inl (w1_ImmBytes_L1_A.mk a.x9 (w64 ((w64 (a.x10 * (256 : Int))) + e1)) (w64 (a.x11 + (1 : Int))) (w64 (a.x12 + (1 : Int))) (w64 (a.x13 + (1 : Int)))))) else (some (.inl (w1_ImmBytes_L1_A.mk a.x9 (w64 ((w64 (a.x10 * (256 : Int))) + e1)) (w64 (a.x11 + (1 : Int))) a.x12 (w64 (a.x13 + (1 : Int)))))))) else ((a.x9[(Int.toNat a.x13)]?).bind fun (e4 : Int) => (bif (e4 == (255 : Int)) then (some (.inl (w1_ImmBytes_L1_A.mk a.x9 (w64 ((w64 (a.x10 * (256 : Int))) + e1)) a.x11 (w64 (a.x12 + (1 : Int))) (w64 (a.x13 + (1 : Int)))))) else (some (.inl (w1_ImmBytes_L1_A.mk a.x9 (w64 ((w64 (a.x10 * (256 : Int))) + e1)) a.x11 a.x12 (w64 (a.x13 + (1 : Int))))))))))) else none) else (some (.inr (w1_ImmBytes_L1_O0.mk a.x10 a.x11 a.x12))))
def w1_ImmBytes_L1_t (P : Program) (call : CallF)  (a : w1_ImmBytes_L1_A) : Tr (w1_ImmBytes_L1_A ⊕ w1_ImmBytes_L1_O0) (Ex × St) := (.as (decide (a.x13 < (4 : Int))) (.as (decide (0 ≤ a.x13)) (.row ((R_i64 a.x9)[(Int.toNat a.x13)]?) (a.x9[(Int.toNat a.x13)]?) C_i64 fun (e1 : Int) => (.yes (decide (0 ≤ a.x13)) (.row ((R_i64 a.x9)[(Int.toNat a.x13)]?) (a.x9[(Int.toNat a.x13)]?) C_i64 fun (e2 : Int) => (.as (e2 == (0 : Int)) (.yes (decide (0 ≤ a.x13)) (.row ((R_i64 a.x9)[(Int.toNat a.x13)]?) (a.x9[(Int.toNat a.x13)]?) C_i64 fun (e3 : Int) => (.as (e3 == (255 : Int)) (lf w1_ImmBytes_L1_s (w1_ImmBytes_L1_A.mk a.x9 (w64 ((w64 (a.x10 * (256 : Int))) + e1)) (w64 (a.x11 + (1 : Int))) (w64 (a.x12 + (1 : Int))) (w64 (a.x13 + (1 : Int))))) (lf w1_ImmBytes_L1_s (w1_ImmBytes_L1_A.mk a.x9 (w64 ((w64 (a.x10 * (256 : Int))) + e1)) (w64 (a.x11 + (1 : Int))) a.x12 (w64 (a.x13 + (1 : Int)))))))) (.yes (decide (0 ≤ a.x13)) (.row ((R_i64 a.x9)[(Int.toNat a.x13)]?) (a.x9[(Int.toNat a.x13)]?) C_i64 fun (e4 : Int) => (.as (e4 == (255 : Int)) (lf w1_ImmBytes_L1_s (w1_ImmBytes_L1_A.mk a.x9 (w64 ((w64 (a.x10 * (256 : Int))) + e1)) a.x11 (w64 (a.x12 + (1 : Int))) (w64 (a.x13 + (1 : Int))))) (lf w1_ImmBytes_L1_s (w1_ImmBytes_L1_A.mk a.x9 (w64 ((w64 (a.x10 * (256 : Int))) + e1)) a.x11 a.x12 (w64 (a.x13 + (1 : Int)))))))))))) .fail) (rx w1_ImmBytes_L1_e (w1_ImmBytes_L1_O0.mk a.x10 a.x11 a.x12)))
theorem w1_ImmBytes_L1_d (P : Program) (call : CallF)  (a : w1_ImmBytes_L1_A) : (w1_ImmBytes_L1_t P call  a).den = w1_ImmBytes_L1_b  a := rfl
theorem w1_ImmBytes_L1_n (call : CallF)  (a : w1_ImmBytes_L1_A) : (w1_ImmBytes_L1_t Try.prog call  a).norm (roundT Try.prog G.kd call 0 (G.an 3) (loopAt Try.prog 3 7) (w1_ImmBytes_L1_s a)) = w1_ImmBytes_L1_t Try.prog call  a := by kernel_rfl
theorem w1_ImmBytes_L1_k (P : Program) (call : CallF) (lp : Loops)   (a : w1_ImmBytes_L1_A) : (w1_ImmBytes_L1_t P call  a).ok lp (Sum.elim (fun a => (.norm, w1_ImmBytes_L1_s a)) w1_ImmBytes_L1_e) := ⟨rfl, fun h0 => ⟨rfl, fun h1 => fun e1 he1 => ⟨R_i64_get he1, ⟨h1, fun e2 he2 => ⟨R_i64_get he2, ⟨rfl, fun h2 => ⟨h1, fun e3 he3 => ⟨R_i64_get he3, ⟨rfl, fun h3 => rfl, fun h3 => rfl⟩⟩⟩, fun h2 => ⟨h1, fun e4 he4 => ⟨R_i64_get he4, ⟨rfl, fun h3 => rfl, fun h3 => rfl⟩⟩⟩⟩⟩⟩⟩, fun h1 => trivial⟩, fun h0 => rfl⟩
def w1_ImmBytes_L1.s (k : Nat)  : w1_ImmBytes_L1_A → Option w1_ImmBytes_L1_O0 := iter (w1_ImmBytes_L1_b ) k
theorem w1_ImmBytes_L1_ok (call : CallF) (k : Nat)   (a : w1_ImmBytes_L1_A) (r : w1_ImmBytes_L1_O0) (h : w1_ImmBytes_L1.s k  a = some r) : loopsF Try.prog G.kd call 0 (G.an 3) k (loopAt Try.prog 3 7) (w1_ImmBytes_L1_s a) = some (w1_ImmBytes_L1_e r) :=
  loop_ok (fun a => w1_ImmBytes_L1_t Try.prog call  a) (fun a => w1_ImmBytes_L1_d _ call  a) (fun a => w1_ImmBytes_L1_n call  a) (fun a => w1_ImmBytes_L1_k _ call _   a) (fun r => nofun) h
theorem w1_ImmBytes_L1.m {j k : Nat} (hj : j ≤ k)    (a : w1_ImmBytes_L1_A) : Le (w1_ImmBytes_L1.s j  a) (w1_ImmBytes_L1.s k  a) := Le.iter (fun a => .refl _) hj a
noncomputable def w1_ImmBytes_L1.w  : w1_ImmBytes_L1_A → Option w1_ImmBytes_L1_O0 := loopW (w1_ImmBytes_L1_b )
theorem w1_ImmBytes_L1.cv    (a : w1_ImmBytes_L1_A) : Cv (fun k => w1_ImmBytes_L1.s k  a) (w1_ImmBytes_L1.w  a) := Cv.iter (fun a => by exact .const _) a
def w1_ImmBytes_b (c_w1_known : Option Bool) (c_w1_within : Int → Int → Option Int) (c_imm_Sign : Int → Int → Option Int) (c_imm_Sci8 : Int → Option (Int × Int × Int × Bool)) (l_w1_ImmBytes_L1 : w1_ImmBytes_L1_A → Option w1_ImmBytes_L1_O0) (a0 : Int) (a1 : Int) (a2 : Int) (a3 : Int) : Option Bool := ((c_w1_known).bind fun (r1 : Bool) => (bif (!r1) then (some false) else ((c_w1_within a0 (3 : Int)).bind fun (r2 : Int) => (bif (decide (0 ≤ r2 ∧ r2 < (([(0 : Int), (255 : Int), a0].length : Nat) : Int))) then (([(0 : Int), (255 : Int), a0][(Int.toNat r2)]?).bind fun (e3 : Int) => ((c_w1_within a1 (3 : Int)).bind fun (r4 : Int) => (bif (decide (0 ≤ r4 ∧ r4 < (([(0 : Int), (255 : Int), a1].length : Nat) : Int))) then (([(0 : Int), (255 : Int), a1][(Int.toNat r4)]?).bind fun (e5 : Int) => ((c_w1_within a2 (3 : Int)).bind fun (r6 : Int) => (bif (decide (0 ≤ r6 ∧ r6 < (([(0 : Int), (255 : Int), a2].length : Nat) : Int))) then (([(0 : Int), (255 : Int), a2][(Int.toNat r6)]?).bind fun (e7 : Int) => ((c_w1_within a3 (3 : Int)).bind fun (r8 : Int) => (bif (decide (0 ≤ r8 ∧ r8 < (([(0 : Int), (255 : Int), a3].length : Nat) : Int))) then (([(0 : Int), (255 : Int), a3][(Int.toNat r8)]?).bind fun (e9 : Int) => ((l_w1_ImmBytes_L1 (w1_ImmBytes_L1_A.mk [(andI .i64 e3 (255 : Int)), (andI .i64 e5 (255 : Int)), (andI .i64 e7 (255 : Int)), (andI .i64 e9 (255 : Int))] (0 : Int) (0 : Int) (0 : Int) (0 : Int))).bind (fun (o10 : w1_ImmBytes_L1_O0) => ((c_imm_Sign o10.x10 (32 : Int)).bind fun (r11 : Int) => ((c_imm_Sci8 r11).bind fun (r12 : (Int × Int × Int × Bool)) => (bif (decide (o10.x11 ≥ (3 : Int))) then (some (r12.2.2.2 == true)) else (some (r12.2.2.2 == (decide (o10.x12 ≥ (3 : Int))))))))))) else none))) else none))) else none))) else none))))
def w1_ImmBytes_t (P : Program) (call : CallF) (c_w1_known : Option Bool) (c_w1_within : Int → Int → Option Int) (c_imm_Sign : Int → Int → Option Int) (c_imm_Sci8 : Int → Option (Int × Int × Int × Bool)) (l_w1_ImmBytes_L1 : w1_ImmBytes_L1_A → Option w1_ImmBytes_L1_O0) (a0 : Int) (a1 : Int) (a2 : Int) (a3 : Int) : Tr Bool (AV × Heap) := (.call (call 4 [] []) (c_w1_known) w1_known_e fun (r1 : Bool) => (.as (!r1) (rt w1_ImmBytes_e false) (.rows [[.sc (.int .i64 (0 : Int))], [.sc (.int .i64 (255 : Int))], [.sc (.int .i64 a0)]] (R_i64 [(0 : Int), (255 : Int), a0]) (.call (call 5 [.sc (.int .i64 a0), .sc (.int .i64 (3 : Int))] []) (c_w1_within a0 (3 : Int)) w1_within_e fun (r2 : Int) => (.ask (decide (0 ≤ r2 ∧ r2 < (((R_i64 [(0 : Int), (255 : Int), a0]).length : Nat) : Int))) (decide (0 ≤ r2 ∧ r2 < (([(0 : Int), (255 : Int), a0].length : Nat) : Int))) (.row ((R_i64 [(0 : Int), (255 : Int), a0])[(Int.toNat r2)]?) ([(0 : Int), (255 : Int), a0][(Int.toNat r2)]?) C_i64 fun (e3 : Int) => (.rows [[.sc (.int .i64 (0 : Int))], [.sc (.int .i64 (255 : Int))], [.sc (.int .i64 a1)]] (R_i64 [(0 : Int), (255 : Int), a1]) (.call (call 5 [.sc (.int .i64 a1), .sc (.int .i64 (3 : Int))] []) (c_w1_within a1 (3 : Int)) w1_within_e fun (r4 : Int) => (.ask (decide (0 ≤ r4 ∧ r4 < (((R_i64 [(0 : Int), (255 : Int), a1]).length : Nat) : Int))) (decide (0 ≤ r4 ∧ r4 < (([(0 : Int), (255 : Int), a1].length : Nat) : Int))) (.row ((R_i64 [(0 : Int), (255 : Int), a1])[(Int.toNat r4)]?) ([(0 : Int), (255 : Int), a1][(Int.toNat r4)]?) C_i64 fun (e5 : Int) => (.rows [[.sc (.int .i64 (0 : Int))], [.sc (.int .i64 (255 : Int))], [.sc (.int .i64 a2)]] (R_i64 [(0 : Int), (255 : Int), a2]) (.call (call 5 [.sc (.int .i64 a2), .sc (.int .i64 (3 : Int))] []) (c_w1_within a2 (3 : Int)) w1_within_e fun (r6 : Int) => (.ask (decide (0 ≤ r6 ∧ r6 < (((R_i64 [(0 : Int), (255 : Int), a2]).length : Nat) : Int))) (decide (0 ≤ r6 ∧ r6 < (([(0 : Int), (255 : Int), a2].length : Nat) : Int))) (.row ((R_i64 [(0 : Int), (255 : Int), a2])[(Int.toNat r6)]?) ([(0 : Int), (255 : Int), a2][(Int.toNat r6)]?) C_i64 fun (e7 : Int) => (.rows [[.sc (.int .i64 (0 : Int))], [.sc (.int .i64 (255 : Int))], [.sc (.int .i64 a3)]] (R_i64 [(0 : Int), (255 : Int), a3]) (.call (call 5 [.sc (.int .i64 a3), .sc (.int .i64 (3 : Int))] []) (c_w1_within a3 (3 : Int)) w1_within_e fun (r8 : Int) => (.ask (decide (0 ≤ r8 ∧ r8 < (((R_i64 [(0 : Int), (255 : Int), a3]).length : Nat) : Int))) (decide (0 ≤ r8 ∧ r8 < (([(0 : Int), (255 : Int), a3].length : Nat) : Int))) (.row ((R_i64 [(0 : Int), (255 : Int), a3])[(Int.toNat r8)]?) ([(0 : Int), (255 : Int), a3][(Int.toNat r8)]?) C_i64 fun (e9 : Int) => (.rows [[.sc (.int .i64 (andI .i64 e3 (255 : Int)))], [.sc (.int .i64 (andI .i64 e5 (255 : Int)))], [.sc (.int .i64 (andI .i64 e7 (255 : Int)))], [.sc (.int .i64 (andI .i64 e9 (255 : Int)))]] (R_i64 [(andI .i64 e3 (255 : Int)), (andI .i64 e5 (255 : Int)), (andI .i64 e7 (255 : Int)), (andI .i64 e9 (255 : Int))]) (.loop (loopAt P 3 7) (w1_ImmBytes_L1_s (w1_ImmBytes_L1_A.mk [(andI .i64 e3 (255 : Int)), (andI .i64 e5 (255 : Int)), (andI .i64 e7 (255 : Int)), (andI .i64 e9 (255 : Int))] (0 : Int) (0 : Int) (0 : Int) (0 : Int))) (l_w1_ImmBytes_L1 (w1_ImmBytes_L1_A.mk [(andI .i64 e3 (255 : Int)), (andI .i64 e5 (255 : Int)), (andI .i64 e7 (255 : Int)), (andI .i64 e9 (255 : Int))] (0 : Int) (0 : Int) (0 : Int) (0 : Int))) w1_ImmBytes_L1_e (fun (o10 : w1_ImmBytes_L1_O0) => (.call (call 7 [.sc (.int .i64 o10.x10), .sc (.int .i64 (32 : Int))] []) (c_imm_Sign o10.x10 (32 : Int)) imm_Sign_e fun (r11 : Int) => (.call (call 6 [.sc (.int .i64 r11)] []) (c_imm_Sci8 r11) imm_Sci8_e fun (r12 : (Int × Int × Int × Bool)) => (.as (decide (o10.x11 ≥ (3 : Int))) (yesN 2 (decide (o10.x11 ≥ (3 : Int))) (rt w1_ImmBytes_e (r12.2.2.2 == true))) (noN 2 (decide (o10.x11 ≥ (3 : Int))) (rt w1_ImmBytes_e (r12.2.2.2 == (decide (o10.x12 ≥ (3 : Int))))))))))))) .fail)))) .fail)))) .fail)))) .fail)))))
theorem w1_ImmBytes_d (P : Program) (call : CallF) (c_w1_known : Option Bool) (c_w1_within : Int → Int → Option Int) (c_imm_Sign : Int → Int → Option Int) (c_imm_Sci8 : Int → Option (Int × Int × Int × Bool)) (l_w1_ImmBytes_L1 : w1_ImmBytes_L1_A → Option w1_ImmBytes_L1_O0) (a0 : Int) (a1 : Int) (a2 : Int) (a3 : Int) : (w1_ImmBytes_t P call c_w1_known c_w1_within c_imm_Sign c_imm_Sci8 l_w1_ImmBytes_L1 a0 a1 a2 a3).den = w1_ImmBytes_b c_w1_known c_w1_within c_imm_Sign c_imm_Sci8 l_w1_ImmBytes_L1 a0 a1 a2 a3 := rfl
theorem w1_ImmBytes_n (call : CallF) (c_w1_known : Option Bool) (c_w1_within : Int → Int → Option Int) (c_imm_Sign : Int → Int → Option Int) (c_imm_Sci8 : Int → Option (Int × Int × Int × Bool)) (l_w1_ImmBytes_L1 : w1_ImmBytes_L1_A → Option w1_ImmBytes_L1_O0) (a0 : Int) (a1 : Int) (a2 : Int) (a3 : Int) : (w1_ImmBytes_t Try.prog call c_w1_known c_w1_within c_imm_Sign c_imm_Sci8 l_w1_ImmBytes_L1 a0 a1 a2 a3).norm (bodyT Try.prog call G 3 [.sc (.int .i64 a0), .sc (.int .i64 a1), .sc (.int .i64 a2), .sc (.int .i64 a3)] []) = w1_ImmBytes_t Try.prog call c_w1_known c_w1_within c_imm_Sign c_imm_Sci8 l_w1_ImmBytes_L1 a0 a1 a2 a3 := by kernel_rfl
theorem w1_ImmBytes_k (P : Program) (call : CallF) (lp : Loops) (c_w1_known : Option Bool) (c_w1_within : Int → Int → Option Int) (c_imm_Sign : Int → Int → Option Int) (c_imm_Sci8 : Int → Option (Int × Int × Int × Bool)) (l_w1_ImmBytes_L1 : w1_ImmBytes_L1_A → Option w1_ImmBytes_L1_O0) (hc_w1_known : ∀  (r : Bool), c_w1_known = some r → (call 4 [] []) = some (w1_known_e r)) (hc_w1_within : ∀ (a0 : Int) (a1 : Int) (r : Int), c_w1_within a0 a1 = some r → (call 5 [.sc (.int .i64 a0), .sc (.int .i64 a1)] []) = some (w1_within_e r)) (hc_imm_Sign : ∀ (a0 : Int) (a1 : Int) (r : Int), c_imm_Sign a0 a1 = some r → (call 7 [.sc (.int .i64 a0), .sc (.int .i64 a1)] []) = some (imm_Sign_e r)) (hc_imm_Sci8 : ∀ (a0 : Int) (r : (Int × Int × Int × Bool)), c_imm_Sci8 a0 = some r → (call 6 [.sc (.int .i64 a0)] []) = some (imm_Sci8_e r)) (hl_w1_ImmBytes_L1 : ∀ (a : w1_ImmBytes_L1_A) (r : w1_ImmBytes_L1_O0), l_w1_ImmBytes_L1 a = some r → lp (loopAt P 3 7) (w1_ImmBytes_L1_s a) = some (w1_ImmBytes_L1_e r)) (a0 : Int) (a1 : Int) (a2 : Int) (a3 : Int) : (w1_ImmBytes_t P call c_w1_known c_w1_within c_imm_Sign c_imm_Sci8 l_w1_ImmBytes_L1 a0 a1 a2 a3).ok lp w1_ImmBytes_e := fun r1 hr1 => ⟨hc_w1_known _ hr1, ⟨rfl, fun h0 => rfl, fun h0 => ⟨(R_i64_map [(0 : Int), (255 : Int), a0]), fun r2 hr2 => ⟨hc_w1_within _ _ _ hr2, ⟨(by rw [R_i64_len]), fun h1 => fun e3 he3 => ⟨R_i64_get he3, ⟨(R_i64_map [(0 : Int), (255 : Int), a1]), fun r4 hr4 => ⟨hc_w1_within _ _ _ hr4, ⟨(by rw [R_i64_len]), fun h2 => fun e5 he5 => ⟨R_i64_get he5, ⟨(R_i64_map [(0 : Int), (255 : Int), a2]), fun r6 hr6 => ⟨hc_w1_within _ _ _ hr6, ⟨(by rw [R_i64_len]), fun h3 => fun e7 he7 => ⟨R_i64_get he7, ⟨(R_i64_map [(0 : Int), (255 : Int), a3]), fun r8 hr8 => ⟨hc_w1_within _ _ _ hr8, ⟨(by rw [R_i64_len]), fun h4 => fun e9 he9 => ⟨R_i64_get he9, ⟨(R_i64_map [(andI .i64 e3 (255 : Int)), (andI .i64 e5 (255 : Int)), (andI .i64 e7 (255 : Int)), (andI .i64 e9 (255 : Int))]), fun o10 ho10 => ⟨hl_w1_ImmBytes_L1 _ _ ho10, fun r11 hr11 => ⟨hc_imm_Sign _ _ _ hr11, fun r12 hr12 => ⟨hc_imm_Sci8 _ _ hr12, ⟨rfl, fun h5 => yesN_ok 2 (h5) (rfl), fun h5 => noN_ok 2 (h5) (rfl)⟩⟩⟩⟩⟩⟩, fun h4 => trivial⟩⟩⟩⟩, fun h3 => trivial⟩⟩⟩⟩, fun h2 => trivial⟩⟩⟩⟩, fun h1 => trivial⟩⟩⟩⟩⟩
theorem w1_ImmBytes_m {c_w1_known d_w1_known : Option Bool} (h_w1_known : Le (c_w1_known ) (d_w1_known )) {c_w1_within d_w1_within : Int → Int → Option Int} (h_w1_within : ∀ (a0 : Int) (a1 : Int), Le (c_w1_within a0 a1) (d_w1_within a0 a1)) {c_imm_Sign d_imm_Sign : Int → Int → Option Int} (h_imm_Sign : ∀ (a0 : Int) (a1 : Int), Le (c_imm_Sign a0 a1) (d_imm_Sign a0 a1)) {c_imm_Sci8 d_imm_Sci8 : Int → Option (Int × Int × Int × Bool)} (h_imm_Sci8 : ∀ (a0 : Int), Le (c_imm_Sci8 a0) (d_imm_Sci8 a0)) {l_w1_ImmBytes_L1 m_w1_ImmBytes_L1 : w1_ImmBytes_L1_A → Option w1_ImmBytes_L1_O0} (hl_w1_ImmBytes_L1 : ∀ a, Le (l_w1_ImmBytes_L1 a) (m_w1_ImmBytes_L1 a)) (a0 : Int) (a1 : Int) (a2 : Int) (a3 : Int) : Le (w1_ImmBytes_b c_w1_known c_w1_within c_imm_Sign c_imm_Sci8 l_w1_ImmBytes_L1 a0 a1 a2 a3) (w1_ImmBytes_b d_w1_known d_w1_within d_imm_Sign d_imm_Sci8 m_w1_ImmBytes_L1 a0 a1 a2 a3) := by
  unfold w1_ImmBytes_b
  exact .bind (h_w1_known) fun r1 => .cond (.refl _) (.bind (h_w1_within _ _) fun r2 => .cond (.bind (.refl ([(0 : Int), (255 : Int), a0][(Int.toNat r2)]?)) fun e3 => .bind (h_w1_within _ _) fun r4 => .cond (.bind (.refl ([(0 : Int), (255 : Int), a1][(Int.toNat r4)]?)) fun e5 => .bind (h_w1_within _ _) fun r6 => .cond (.bind (.refl ([(0 : Int), (255 : Int), a2][(Int.toNat r6)]?)) fun e7 => .bind (h_w1_within _ _) fun r8 => .cond (.bind (.refl ([(0 : Int), (255 : Int), a3][(Int.toNat r8)]?)) fun e9 => .bind (hl_w1_ImmBytes_L1 _) (fun o10 => .bind (h_imm_Sign _ _) fun r11 => .bind (h_imm_Sci8 _) fun r12 => .refl _)) (.refl _)) (.refl _)) (.refl _)) (.refl _))
theorem w1_ImmBytes_c {c_w1_known : Nat → Option Bool} {d_w1_known : Option Bool} (h_w1_known : Cv (fun k => c_w1_known k ) (d_w1_known )) {c_w1_within : Nat → Int → Int → Option Int} {d_w1_within : Int → Int → Option Int} (h_w1_within : ∀ (a0 : Int) (a1 : Int), Cv (fun k => c_w1_within k a0 a1) (d_w1_within a0 a1)) {c_imm_Sign : Nat → Int → Int → Option Int} {d_imm_Sign : Int → Int → Option Int} (h_imm_Sign : ∀ (a0 : Int) (a1 : Int), Cv (fun k => c_imm_Sign k a0 a1) (d_imm_Sign a0 a1)) {c_imm_Sci8 : Nat → Int → Option (Int × Int × Int × Bool)} {d_imm_Sci8 : Int → Option (Int × Int × Int × Bool)} (h_imm_Sci8 : ∀ (a0 : Int), Cv (fun k => c_imm_Sci8 k a0) (d_imm_Sci8 a0)) {l_w1_ImmBytes_L1 : Nat → w1_ImmBytes_L1_A → Option w1_ImmBytes_L1_O0} {m_w1_ImmBytes_L1 : w1_ImmBytes_L1_A → Option w1_ImmBytes_L1_O0} (hl_w1_ImmBytes_L1 : ∀ a, Cv (fun k => l_w1_ImmBytes_L1 k a) (m_w1_ImmBytes_L1 a)) (a0 : Int) (a1 : Int) (a2 : Int) (a3 : Int) : Cv (fun k => w1_ImmBytes_b (c_w1_known k) (c_w1_within k) (c_imm_Sign k) (c_imm_Sci8 k) (l_w1_ImmBytes_L1 k) a0 a1 a2 a3) (w1_ImmBytes_b d_w1_known d_w1_within d_imm_Sign d_imm_Sci8 m_w1_ImmBytes_L1 a0 a1 a2 a3) := by
  unfold w1_ImmBytes_b
  exact .bind (h_w1_known) fun r1 => .cond (by exact .const _) (.bind (h_w1_within _ _) fun r2 => .cond (.bind (.const ([(0 : Int), (255 : Int), a0][(Int.toNat r2)]?)) fun e3 => .bind (h_w1_within _ _) fun r4 => .cond (.bind (.const ([(0 : Int), (255 : Int), a1][(Int.toNat r4)]?)) fun e5 => .bind (h_w1_within _ _) fun r6 => .cond (.bind (.const ([(0 : Int), (255 : Int), a2][(Int.toNat r6)]?)) fun e7 => .bind (h_w1_within _ _) fun r8 => .cond (.bind (.const ([(0 : Int), (255 : Int), a3][(Int.toNat r8)]?)) fun e9 => .bind (hl_w1_ImmBytes_L1 _) (fun o10 => .bind (h_imm_Sign _ _) fun r11 => .bind (h_imm_Sci8 _) fun r12 => by exact .const _)) (by exact .const _)) (by exact .const _)) (by exact .const _)) (by exact .const _))
def w1_ImmBytes.s : Nat → Int → Int → Int → Int → Option Bool
  | 0, _, _, _, _ => none
  | k + 1, a0, a1, a2, a3 => w1_ImmBytes_b (w1_known.s k) (fun a0 a1 => w1_within.s k a0 a1) (fun a0 a1 => imm_Sign.s k a0 a1) (fun a0 => imm_Sci8.s k a0) (w1_ImmBytes_L1.s k) a0 a1 a2 a3
theorem w1_ImmBytes.ok : ∀ (k : Nat), ∀ (a0 : Int) (a1 : Int) (a2 : Int) (a3 : Int) (r : Bool), w1_ImmBytes.s k a0 a1 a2 a3 = some r → evalFn Try.prog G k 3 [.sc (.int .i64 a0), .sc (.int .i64 a1), .sc (.int .i64 a2), .sc (.int .i64 a3)] [] = some (w1_ImmBytes_e r)
  | 0, _, _, _, _, _, h => (nomatch h)
  | k + 1, a0, a1, a2, a3, r, h => fn_ok rfl (w1_ImmBytes_t Try.prog (evalFn Try.prog G k) (w1_known.s k) (fun a0 a1 => w1_within.s k a0 a1) (fun a0 a1 => imm_Sign.s k a0 a1) (fun a0 => imm_Sci8.s k a0) (w1_ImmBytes_L1.s k) a0 a1 a2 a3) (w1_ImmBytes_n _ (w1_known.s k) (fun a0 a1 => w1_within.s k a0 a1) (fun a0 a1 => imm_Sign.s k a0 a1) (fun a0 => imm_Sci8.s k a0) (w1_ImmBytes_L1.s k) a0 a1 a2 a3) (w1_ImmBytes_k _ _ _ (w1_known.s k) (fun a0 a1 => w1_within.s k a0 a1) (fun a0 a1 => imm_Sign.s k a0 a1) (fun a0 => imm_Sci8.s k a0) (w1_ImmBytes_L1.s k) (w1_known.ok k) (w1_within.ok k) (imm_Sign.ok k) (imm_Sci8.ok k) (w1_ImmBytes_L1_ok _ k) a0 a1 a2 a3) ((w1_ImmBytes_d _ _ (w1_known.s k) (fun a0 a1 => w1_within.s k a0 a1) (fun a0 a1 => imm_Sign.s k a0 a1) (fun a0 => imm_Sci8.s k a0) (w1_ImmBytes_L1.s k) a0 a1 a2 a3).trans h)
theorem w1_ImmBytes.mono : ∀ (k : Nat) (a0 : Int) (a1 : Int) (a2 : Int) (a3 : Int), Le (w1_ImmBytes.s k a0 a1 a2 a3) (w1_ImmBytes.s (k + 1) a0 a1 a2 a3)
  | 0, _, _, _, _ => fun r h => (nomatch h)
  | k + 1, a0, a1, a2, a3 => w1_ImmBytes_m (w1_known.mono k) (w1_within.mono k) (imm_Sign.mono k) (imm_Sci8.mono k) (w1_ImmBytes_L1.m (Nat.le_succ k)) a0 a1 a2 a3
noncomputable def w1_ImmBytes (a0 : Int) (a1 : Int) (a2 : Int) (a3 : Int) : Option Bool := lim fun k => w1_ImmBytes.s k a0 a1 a2 a3
theorem w1_ImmBytes.cv (a0 : Int) (a1 : Int) (a2 : Int) (a3 : Int) : Cv (fun k => w1_ImmBytes.s k a0 a1 a2 a3) (w1_ImmBytes a0 a1 a2 a3) := .lim fun k => w1_ImmBytes.mono k a0 a1 a2 a3
noncomputable def w1_ImmBytes_L1 : w1_ImmBytes_L1_A → Option w1_ImmBytes_L1_O0 := w1_ImmBytes_L1.w 
theorem w1_ImmBytes_L1.eq (a : w1_ImmBytes_L1_A) : w1_ImmBytes_L1 a = (w1_ImmBytes_L1_b  a).bind (Sum.elim w1_ImmBytes_L1 some) := loopW_eq _ _
theorem w1_ImmBytes.eq (a0 : Int) (a1 : Int) (a2 : Int) (a3 : Int) : w1_ImmBytes a0 a1 a2 a3 = w1_ImmBytes_b w1_known w1_within imm_Sign imm_Sci8 w1_ImmBytes_L1 a0 a1 a2 a3 := Cv.uniq (w1_ImmBytes.cv a0 a1 a2 a3).shift (w1_ImmBytes_c w1_known.cv w1_within.cv imm_Sign.cv imm_Sci8.cv (w1_ImmBytes_L1.cv) a0 a1 a2 a3)
theorem w1_ImmBytes.run (a0 : Int) (a1 : Int) (a2 : Int) (a3 : Int) {r : Bool} (h : w1_ImmBytes a0 a1 a2 a3 = some r) : ∃ k, evalFn Try.prog G k 3 [.sc (.int .i64 a0), .sc (.int .i64 a1), .sc (.int .i64 a2), .sc (.int .i64 a3)] [] = some (w1_ImmBytes_e r) :=
  let ⟨k, hk⟩ := ((w1_ImmBytes.cv a0 a1 a2 a3).2 r).1 h
  ⟨k, w1_ImmBytes.ok k a0 a1 a2 a3 r hk⟩
end Go.Ab
namespace Go.Ab
theorem w1_within_eq (a n : Int) (hn : 0 < n) (hn2 : n ≤ 4611686018427387904) : w1_within a n = some (a % n) := by
  rw [w1_within.eq]; exact withinV_eq a n hn hn2
theorem w1_within_nat (a : Int) (n : Nat) (hn : 0 < n) (hn2 : n ≤ 4611686018427387904) : ∃ i : Nat, i < n ∧ w1_within a n = some (i : Int) := by
  have h1 := Int.emod_nonneg a (by omega : (n : Int) ≠ 0)
  have h2 := Int.emod_lt_of_pos a (by omega : (0 : Int) < n)
  exact ⟨(a % n).toNat, by omega, by rw [w1_within_eq a n (by omega) (by omega), Int.toNat_of_nonneg h1]⟩
theorem w1_known_true : w1_known = some true := cv_some w1_known.cv 2000 (by kernel_rfl)
abbrev Ui (x : Int) : Nat := (BitVec.ofInt 64 x).toNat
theorem Ui_eq (x : Int) : (Ui x : Int) = x % 18446744073709551616 := by
  show (((BitVec.ofInt 64 x).toNat : Nat) : Int) = _
  rw [BitVec.toNat_ofInt]; simp; omega
theorem andI_255 (x : Int) : andI .i64 x 255 = x % 256 := by
  have e : andI .i64 x 255 = w64 ((Ui x &&& Ui 255 : Nat) : Int) := by
    show IntKind.i64.wrap _ = IntKind.i64.wrap _
    rw [← BitVec.toNat_and]; rfl
  have h255 : Ui 255 = 2 ^ 8 - 1 := by decide
  rw [e, h255, Nat.and_two_pow_sub_one_eq_mod]
  have := Ui_eq x
  rw [w64_in (by omega) (by omega)]; omega
theorem or_byte {x b : Int} (hx : 0 ≤ x ∧ x < 16777216) (hb : 0 ≤ b ∧ b < 256) : orI .i64 (shlI .i64 x 8) b = x * 256 + b := by
  have hs : shlI .i64 x 8 = x * 256 := by
    unfold shlI
    rw [show min (Int.toNat 8) IntKind.i64.bits = 8 from rfl, show ((2 : Int) ^ 8) = 256 from rfl]
    exact w64_in (by omega) (by omega)
  rw [hs]
  have e : orI .i64 (x * 256) b = w64 ((Ui (x * 256) ||| Ui b : Nat) : Int) := by
    show IntKind.i64.wrap _ = IntKind.i64.wrap _
    rw [← BitVec.toNat_or]; rfl
  have h1 := Ui_eq (x * 256)
  have h2 := Ui_eq b
  obtain ⟨n, rfl⟩ := Int.eq_ofNat_of_zero_le hx.1
  obtain ⟨m, rfl⟩ := Int.eq_ofNat_of_zero_le hb.1
  have e1 : Ui ((n : Int) * 256) = n <<< 8 := by rw [Nat.shiftLeft_eq]; omega
  have e2 : Ui (m : Int) = m := by omega
  rw [e, e1, e2, ← Nat.shiftLeft_add_eq_or_of_lt (by omega : m < 2 ^ 8), Nat.shiftLeft_eq, w64_in (by omega) (by omega)]
  omega
def sgn32 (v : Int) : Int := if v < 2147483648 then v else v - 4294967296
theorem sign32 {v : Int} (h0 : 0 ≤ v) (h1 : v < 4294967296) : imm_Sign v 32 = some (sgn32 v) := by
  rw [imm_Sign.eq]; unfold imm_Sign_b
  have e : w64 (64 - (if (64 : Int) < (if (1 : Int) > 32 then 1 else 32) then 64 else (if (1 : Int) > 32 then 1 else 32))) = 32 := by decide
  rw [e]
  have c1 : decide ((0 : Int) ≤ 32) = true := rfl
  rw [c1, cond_true]
  congr 1
  unfold shlI shrI
  rw [show min (Int.toNat 32) IntKind.i64.bits = 32 from rfl, show ((2 : Int) ^ 32) = 4294967296 from rfl, Int.fdiv_eq_ediv_of_nonneg _ (by decide)]
  have hw : IntKind.i64.wrap (v * 4294967296) = v * 4294967296 - (if v * 4294967296 ≥ 9223372036854775808 then 18446744073709551616 else 0) := by
    have e : (v * 4294967296) % 18446744073709551616 = v * 4294967296 := Int.emod_eq_of_lt (by omega) (by omega)
    unfold IntKind.wrap
    simp [IntKind.bits, IntKind.signed, e]
    split <;> omega
  rw [hw]; unfold sgn32
  split <;> split <;> omega
/-- four bytes as a number -/
def pk4 (a b c d : Int) : Int := ((a * 256 + b) * 256 + c) * 256 + d
/-- the number that a form gives for a byte -/
def fb (f : Bool) : Int := if f then 255 else 0
def bk (f : Bool) (s : Nat) (u : Int) : Int := pk4 (if s = 3 then u else fb f) (if s = 2 then u else fb f) (if s = 1 then u else fb f) (if s = 0 then u else fb f)
abbrev byt (x : Int) : Prop := 0 ≤ x ∧ x < 256
theorem back_step (f : Bool) (s : Nat) {u x : Int} (hu : byt u) (hx : 0 ≤ x ∧ x < 16777216) (k : Nat) (hk : k < 4) :
    imm_Back_L1 ⟨if f then 1 else 0, s, u, x, k⟩ = imm_Back_L1 ⟨if f then 1 else 0, s, u, x * 256 + (if k = s then u else fb f), (k : Int) - 1⟩ := by
  rw [imm_Back_L1.eq ⟨if f then 1 else 0, s, u, x, k⟩]; unfold imm_Back_L1_b
  have c1 : decide ((k : Int) ≥ 0) = true := decide_eq_true (by omega)
  have e1 : w64 ((k : Int) - 1) = (k : Int) - 1 := w64_in (by omega) (by omega)
  have e2 : andI .i64 u 255 = u := by rw [andI_255]; omega
  have c2 : ((k : Int) == (s : Int)) = decide (k = s) := by rw [Bool.eq_iff_iff, beq_iff_eq, decide_eq_true_iff]; omega
  simp only
  rw [c1, cond_true, e1, e2, c2, or_byte hx hu, or_byte hx (b := 255) (by decide), or_byte hx (b := 0) (by decide)]
  cases f with
  | true =>
    rw [show ((if true = true then (1 : Int) else 0) == 1) = true from rfl, cond_true]
    by_cases h : k = s
    · rw [decide_eq_true h, cond_true, if_pos h]; rfl
    · rw [decide_eq_false h, cond_false, if_neg h]; rfl
  | false =>
    rw [show ((if false = true then (1 : Int) else 0) == 1) = false from rfl, cond_false]
    by_cases h : k = s
    · rw [decide_eq_true h, cond_true, if_pos h]; rfl
    · rw [decide_eq_false h, cond_false, if_neg h]; rfl
theorem fb_byt (f : Bool) : byt (fb f) := by cases f <;> decide
theorem back_eq (f : Bool) (s : Nat) {u : Int} (hu : byt u) : imm_Back (if f then 1 else 0) s u = some (sgn32 (bk f s u)) := by
  have hf := fb_byt f
  have hb : ∀ k : Nat, byt (if k = s then u else fb f) := fun k => by split <;> assumption
  have h3 := hb 3
  have h2 := hb 2
  have h1 := hb 1
  have h0 := hb 0
  have e : bk f s u = pk4 (if 3 = s then u else fb f) (if 2 = s then u else fb f) (if 1 = s then u else fb f) (if 0 = s then u else fb f) := by
    unfold bk; simp only [eq_comm (a := s)]
  rw [e]
  rw [imm_Back.eq]; unfold imm_Back_b
  have s3 := back_step f s hu (x := 0) (by omega) 3 (by omega)
  rw [show (⟨if f then 1 else 0, (s : Int), u, 0, ((3 : Nat) : Int)⟩ : imm_Back_L1_A) = ⟨if f then 1 else 0, (s : Int), u, 0, 3⟩ from rfl] at s3
  rw [s3]
  generalize (if 3 = s then u else fb f) = b3 at h3
  rw [show (((3 : Nat) : Int) - 1) = ((2 : Nat) : Int) from rfl, back_step f s hu (by omega) 2 (by omega)]
  generalize (if 2 = s then u else fb f) = b2 at h2
  rw [show (((2 : Nat) : Int) - 1) = ((1 : Nat) : Int) from rfl, back_step f s hu (by omega) 1 (by omega)]
  generalize (if 1 = s then u else fb f) = b1 at h1
  rw [show (((1 : Nat) : Int) - 1) = ((0 : Nat) : Int) from rfl, back_step f s hu (by omega) 0 (by omega)]
  generalize (if 0 = s then u else fb f) = b0 at h0
  rw [imm_Back_L1.eq]; unfold imm_Back_L1_b
  have c1 : decide (((0 : Nat) : Int) - 1 ≥ 0) = false := rfl
  simp only
  rw [c1, cond_false]
  simp only [Option.bind_some, Sum.elim_inr]
  rw [show (((0 * 256 + b3) * 256 + b2) * 256 + b1) * 256 + b0 = pk4 b3 b2 b1 b0 from by unfold pk4; omega, sign32 (by unfold pk4; omega) (by unfold pk4; omega)]; rfl
theorem sgn_inj {x y : Int} (hx : 0 ≤ x ∧ x < 4294967296) (hy : 0 ≤ y ∧ y < 4294967296) (h : sgn32 x = sgn32 y) : x = y := by
  unfold sgn32 at h; split at h <;> split at h <;> omega
theorem found_eq (v : Int) (f : Bool) (s : Nat) : ∃ r, imm_found v ⟨if f then 1 else 0, s⟩ = some r ∧ ((0 ≤ r ∧ ∃ u, byt u ∧ sgn32 (bk f s u) = v) ∨ (r = -1 ∧ ∀ u, byt u → sgn32 (bk f s u) ≠ v)) := by
  obtain ⟨r, h1, h2⟩ := loop_ind imm_found_L1.eq (fun a => ∃ i : Nat, i ≤ 256 ∧ a = ⟨v, ⟨if f then 1 else 0, s⟩, i⟩ ∧ ∀ j : Nat, j < i → sgn32 (bk f s j) ≠ v)
    (fun _ r => (∃ i : Nat, i < 256 ∧ r = .inl (i : Int) ∧ sgn32 (bk f s i) = v) ∨ (r = .inr () ∧ ∀ j : Nat, j < 256 → sgn32 (bk f s j) ≠ v)) (fun a => 256 - a.x6.toNat) (by
    rintro a ⟨i, hi, rfl, hq⟩
    unfold imm_found_L1_b
    simp only
    by_cases h : i < 256
    · have c1 : decide ((i : Int) < 256) = true := decide_eq_true (by omega)
      have hb := back_eq f s (u := (i : Int)) ⟨by omega, by omega⟩
      rw [c1, cond_true, imm_form_of.eq]; unfold imm_form_of_b
      simp only
      rw [hb]
      simp only [Option.bind_some]
      by_cases he : sgn32 (bk f s i) = v
      · refine .inr ⟨.inl (i : Int), ?_, .inl ⟨i, h, rfl, he⟩⟩
        rw [beq_iff_eq.2 he]; rfl
      · refine .inl ⟨⟨v, ⟨if f then 1 else 0, s⟩, (i + 1 : Nat)⟩, ?_, ⟨i + 1, by omega, rfl, fun j hj => ?_⟩, by simp only [Int.toNat_natCast]; omega, fun r hr => hr⟩
        · rw [beq_eq_false_iff_ne.2 he, cond_false, w64_in (n := (i : Int) + 1) (by omega) (by omega)]; rfl
        · rcases Nat.lt_or_ge j i with h' | h'
          · exact hq j h'
          · obtain rfl : j = i := by omega
            exact he
    · have c1 : decide ((i : Int) < 256) = false := decide_eq_false (by omega)
      obtain rfl : i = 256 := by omega
      exact .inr ⟨.inr (), by rw [c1]; rfl, .inr ⟨rfl, hq⟩⟩) ⟨v, ⟨if f then 1 else 0, s⟩, 0⟩ ⟨0, by omega, rfl, fun j hj => by omega⟩
  rw [imm_found.eq]; unfold imm_found_b
  rw [h1]
  rcases h2 with ⟨i, hi, rfl, he⟩ | ⟨rfl, hn⟩
  · exact ⟨i, rfl, .inl ⟨by omega, i, ⟨by omega, by omega⟩, he⟩⟩
  · refine ⟨-1, rfl, .inr ⟨rfl, fun u hu => ?_⟩⟩
    obtain ⟨j, rfl⟩ := Int.eq_ofNat_of_zero_le hu.1
    exact hn j (by omega)
def forms8 : List (Bool × Nat) := [(false, 0), (false, 1), (false, 2), (false, 3), (true, 0), (true, 1), (true, 2), (true, 3)]
theorem forms_eq : imm_forms = some (forms8.map fun p => ⟨if p.1 then 1 else 0, (p.2 : Int)⟩) := by rw [imm_forms.eq]; rfl
theorem sci8_eq (v : Int) : ∃ r, imm_Sci8 v = some r ∧ (r.2.2.2 = true ↔ ∃ p ∈ forms8, ∃ u, byt u ∧ sgn32 (bk p.1 p.2 u) = v) := by
  obtain ⟨r, h1, h2⟩ := loop_ind imm_Sci8_L1.eq (fun a => ∃ i : Nat, i ≤ 8 ∧ a = ⟨v, forms8.map fun p => ⟨if p.1 then 1 else 0, (p.2 : Int)⟩, 8, i⟩ ∧ ∀ p ∈ forms8.take i, ∀ u, byt u → sgn32 (bk p.1 p.2 u) ≠ v)
    (fun _ r => (∃ o, r = .inl o ∧ o.x5 = true ∧ ∃ p ∈ forms8, ∃ u, byt u ∧ sgn32 (bk p.1 p.2 u) = v) ∨ (r = .inr () ∧ ∀ p ∈ forms8, ∀ u, byt u → sgn32 (bk p.1 p.2 u) ≠ v)) (fun a => 8 - a.x10.toNat) (by
    rintro a ⟨i, hi, rfl, hq⟩
    unfold imm_Sci8_L1_b
    simp only
    have hlen : forms8.length = 8 := rfl
    by_cases h : i < 8
    · have c1 : decide ((i : Int) < 8) = true := decide_eq_true (by omega)
      have c2 : decide (0 ≤ (i : Int)) = true := decide_eq_true (by omega)
      have h' : i < forms8.length := by omega
      obtain ⟨r, e1, e2⟩ := found_eq v forms8[i].1 forms8[i].2
      rw [c1, cond_true, c2, cond_true, Int.toNat_natCast, List.getElem?_map, List.getElem?_eq_getElem h', Option.map_some, Option.bind_some, e1, Option.bind_some]
      rcases e2 with ⟨e2, e3⟩ | ⟨rfl, e3⟩
      · rw [decide_eq_true (show r ≥ 0 from e2)]
        exact .inr ⟨_, rfl, .inl ⟨_, rfl, rfl, forms8[i], List.getElem_mem h', e3⟩⟩
      · refine .inl ⟨⟨v, forms8.map fun p => ⟨if p.1 then 1 else 0, (p.2 : Int)⟩, 8, (i + 1 : Nat)⟩, ?_, ⟨i + 1, by omega, rfl, fun p hp => ?_⟩, by simp only [Int.toNat_natCast]; omega, fun r hr => hr⟩
        · rw [show decide ((-1 : Int) ≥ 0) = false from rfl, cond_false, w64_in (n := (i : Int) + 1) (by omega) (by omega)]; rfl
        · rw [List.take_succ_eq_append_getElem h', List.mem_append] at hp
          rcases hp with hp | hp
          · exact hq p hp
          · simp only [List.mem_singleton] at hp; subst hp; exact e3
    · have c1 : decide ((i : Int) < 8) = false := decide_eq_false (by omega)
      rw [List.take_of_length_le (by omega)] at hq
      exact .inr ⟨_, by rw [c1]; rfl, .inr ⟨rfl, hq⟩⟩) ⟨v, forms8.map fun p => ⟨if p.1 then 1 else 0, (p.2 : Int)⟩, 8, 0⟩ ⟨0, by omega, rfl, fun p hp => by simp at hp⟩
  rw [imm_Sci8.eq]; unfold imm_Sci8_b
  rw [forms_eq, Option.bind_some]
  have e0 : imm_Sci8_L1 ⟨v, forms8.map fun p => ⟨if p.1 then 1 else 0, (p.2 : Int)⟩, (((forms8.map fun p => (⟨if p.1 then 1 else 0, (p.2 : Int)⟩ : T_imm_form)).length : Nat) : Int), 0⟩ = some r := h1
  rw [e0, Option.bind_some]
  rcases h2 with ⟨o, rfl, ho, h⟩ | ⟨rfl, h⟩
  · exact ⟨_, rfl, by simp only [Sum.elim_inl]; rw [ho]; exact ⟨fun _ => h, fun _ => rfl⟩⟩
  · refine ⟨_, rfl, ⟨fun e => (nomatch e), fun ⟨p, hp, u, hu, e⟩ => absurd e (h p hp u hu)⟩⟩
def ct (x y : Int) : Nat := if x = y then 1 else 0
theorem bytes_law {a b c d : Int} (ha : byt a) (hb : byt b) (hc : byt c) (hd : byt d) : (∃ p ∈ forms8, ∃ u, byt u ∧ sgn32 (bk p.1 p.2 u) = sgn32 (pk4 a b c d)) ↔ (ct a 0 + ct b 0 + ct c 0 + ct d 0 ≥ 3 ∨ ct a 255 + ct b 255 + ct c 255 + ct d 255 ≥ 3) := by
  constructor
  · rintro ⟨⟨f, s⟩, hp, u, hu, e⟩
    have hf := fb_byt f
    have e2 : bk f s u = pk4 a b c d := by
      apply sgn_inj _ _ e
      · show 0 ≤ bk f s u ∧ bk f s u < 4294967296
        unfold bk pk4
        have : ∀ k : Nat, byt (if s = k then u else fb f) := fun k => by split <;> assumption
        have h3 := this 3
        have h2 := this 2
        have h1 := this 1
        have h0 := this 0
        omega
      · unfold pk4; omega
    simp only [forms8, List.mem_cons, List.not_mem_nil, or_false, Prod.mk.injEq] at hp
    rcases hp with ⟨rfl, rfl⟩ | ⟨rfl, rfl⟩ | ⟨rfl, rfl⟩ | ⟨rfl, rfl⟩ | ⟨rfl, rfl⟩ | ⟨rfl, rfl⟩ | ⟨rfl, rfl⟩ | ⟨rfl, rfl⟩ <;> simp [bk, pk4, fb] at e2 <;> unfold ct
    · left; rw [if_pos (show a = 0 by omega), if_pos (show b = 0 by omega), if_pos (show c = 0 by omega)]; omega
    · left; rw [if_pos (show a = 0 by omega), if_pos (show b = 0 by omega), if_pos (show d = 0 by omega)]; omega
    · left; rw [if_pos (show a = 0 by omega), if_pos (show c = 0 by omega), if_pos (show d = 0 by omega)]; omega
    · left; rw [if_pos (show b = 0 by omega), if_pos (show c = 0 by omega), if_pos (show d = 0 by omega)]; omega
    · right; rw [if_pos (show a = 255 by omega), if_pos (show b = 255 by omega), if_pos (show c = 255 by omega)]; omega
    · right; rw [if_pos (show a = 255 by omega), if_pos (show b = 255 by omega), if_pos (show d = 255 by omega)]; omega
    · right; rw [if_pos (show a = 255 by omega), if_pos (show c = 255 by omega), if_pos (show d = 255 by omega)]; omega
    · right; rw [if_pos (show b = 255 by omega), if_pos (show c = 255 by omega), if_pos (show d = 255 by omega)]; omega
  · have key : ∀ f : Bool, ct a (fb f) + ct b (fb f) + ct c (fb f) + ct d (fb f) ≥ 3 → ∃ s u, s < 4 ∧ byt u ∧ bk f s u = pk4 a b c d := by
      intro f h
      by_cases ea : a = fb f
      · by_cases eb : b = fb f
        · by_cases ec : c = fb f
          · exact ⟨0, d, by omega, hd, by simp [bk, ea, eb, ec]⟩
          · have ed : d = fb f := by
              by_cases ed : d = fb f
              · exact ed
              · simp only [ct, ea, eb, if_true, if_neg ec, if_neg ed] at h; omega
            exact ⟨1, c, by omega, hc, by simp [bk, ea, eb, ed]⟩
        · have ec : c = fb f := by
            by_cases ec : c = fb f
            · exact ec
            · simp only [ct, ea, if_true, if_neg eb, if_neg ec] at h; split at h <;> omega
          have ed : d = fb f := by
            by_cases ed : d = fb f
            · exact ed
            · simp only [ct, ea, ec, if_true, if_neg eb, if_neg ed] at h; omega
          exact ⟨2, b, by omega, hb, by simp [bk, ea, ec, ed]⟩
      · have eb : b = fb f := by
          by_cases eb : b = fb f
          · exact eb
          · simp only [ct, if_neg ea, if_neg eb] at h; split at h <;> split at h <;> omega
        have ec : c = fb f := by
          by_cases ec : c = fb f
          · exact ec
          · simp only [ct, if_neg ea, eb, if_true, if_neg ec] at h; split at h <;> omega
        have ed : d = fb f := by
          by_cases ed : d = fb f
          · exact ed
          · simp only [ct, if_neg ea, eb, ec, if_true, if_neg ed] at h; omega
        exact ⟨3, a, by omega, ha, by simp [bk, eb, ec, ed]⟩
    have mem : ∀ (f : Bool) (s : Nat), s < 4 → (f, s) ∈ forms8 := by
      intro f s hs
      have : s = 0 ∨ s = 1 ∨ s = 2 ∨ s = 3 := by omega
      cases f <;> rcases this with rfl | rfl | rfl | rfl <;> simp [forms8]
    rintro (h | h)
    · obtain ⟨s, u, hs, hu, e⟩ := key false h
      exact ⟨(false, s), mem _ _ hs, u, hu, by simp only [e]⟩
    · obtain ⟨s, u, hs, hu, e⟩ := key true h
      exact ⟨(true, s), mem _ _ hs, u, hu, by simp only [e]⟩
theorem bytes_round (l : List Int) (v : Int) (n m i : Nat) (hi : i < 4) (hl : l.length = 4) (hv : 0 ≤ v ∧ v < 16777216) (hb : byt (l[i]'(by omega))) (hn : n ≤ 4) (hm : m ≤ 4) :
    w1_ImmBytes_L1 ⟨l, v, n, m, i⟩ = w1_ImmBytes_L1 ⟨l, v * 256 + l[i]'(by omega), (n + ct (l[i]'(by omega)) 0 : Nat), (m + ct (l[i]'(by omega)) 255 : Nat), (i + 1 : Nat)⟩ := by
  rw [w1_ImmBytes_L1.eq ⟨l, v, n, m, i⟩]; unfold w1_ImmBytes_L1_b
  have c1 : decide ((i : Int) < 4) = true := decide_eq_true (by omega)
  have c2 : decide (0 ≤ (i : Int)) = true := decide_eq_true (by omega)
  simp only
  rw [c1, cond_true, c2, cond_true, get_nat l (by omega), Option.bind_some, Option.bind_some]
  generalize l[i]'(by omega) = b at hb
  rw [w64_in (n := v * 256) (by omega) (by omega), w64_in (n := v * 256 + b) (by omega) (by omega), w64_in (n := (n : Int) + 1) (by omega) (by omega), w64_in (n := (m : Int) + 1) (by omega) (by omega), w64_in (n := (i : Int) + 1) (by omega) (by omega)]
  by_cases h0 : b = 0
  · rw [beq_iff_eq.2 h0, cond_true]
    have h1 : (b == 255) = false := by rw [beq_eq_false_iff_ne]; omega
    simp only [Option.bind_some]
    rw [h1, cond_false]
    have e1 : ct b 0 = 1 := if_pos h0
    have e2 : ct b 255 = 0 := if_neg (by omega)
    rw [e1, e2]; rfl
  · rw [beq_eq_false_iff_ne.2 h0, cond_false]
    have e1 : ct b 0 = 0 := if_neg h0
    simp only [Option.bind_some]
    by_cases h1 : b = 255
    · rw [beq_iff_eq.2 h1, cond_true]
      have e2 : ct b 255 = 1 := if_pos h1
      rw [e1, e2]; rfl
    · rw [beq_eq_false_iff_ne.2 h1, cond_false]
      have e2 : ct b 255 = 0 := if_neg h1
      rw [e1, e2]; rfl
theorem bytes_loop {a b c d : Int} (ha : byt a) (hb : byt b) (hc : byt c) (hd : byt d) : w1_ImmBytes_L1 ⟨[a, b, c, d], 0, 0, 0, 0⟩ = some ⟨pk4 a b c d, ((ct a 0 + ct b 0 + ct c 0 + ct d 0 : Nat) : Int), ((ct a 255 + ct b 255 + ct c 255 + ct d 255 : Nat) : Int)⟩ := by
  have l1 : ∀ x y : Int, ct x y ≤ 1 := fun x y => by unfold ct; split <;> omega
  have q := l1 a 0
  have q2 := l1 a 255
  have q3 := l1 b 0
  have q4 := l1 b 255
  have q5 := l1 c 0
  have q6 := l1 c 255
  have s0 := bytes_round [a, b, c, d] 0 0 0 0 (by omega) rfl (by omega) ha (by omega) (by omega)
  have s1 := bytes_round [a, b, c, d] (0 * 256 + a) (0 + ct a 0) (0 + ct a 255) 1 (by omega) rfl (by omega) hb (by omega) (by omega)
  have s2 := bytes_round [a, b, c, d] ((0 * 256 + a) * 256 + b) (0 + ct a 0 + ct b 0) (0 + ct a 255 + ct b 255) 2 (by omega) rfl (by omega) hc (by omega) (by omega)
  have s3 := bytes_round [a, b, c, d] (((0 * 256 + a) * 256 + b) * 256 + c) (0 + ct a 0 + ct b 0 + ct c 0) (0 + ct a 255 + ct b 255 + ct c 255) 3 (by omega) rfl (by omega) hd (by omega) (by omega)
  have e0 : w1_ImmBytes_L1 ⟨[a, b, c, d], 0, 0, 0, 0⟩ = _ := s0
  rw [e0]
  refine s1.trans (s2.trans (s3.trans ?_))
  rw [w1_ImmBytes_L1.eq]; unfold w1_ImmBytes_L1_b
  have c1 : decide (((3 + 1 : Nat) : Int) < 4) = false := rfl
  simp only
  rw [c1, cond_false]
  simp only [Option.bind_some, Sum.elim_inr, List.getElem_cons_succ, List.getElem_cons_zero, Nat.zero_add]
  unfold pk4
  simp
theorem pick3 (x : Int) : ∃ e, (∃ j : Nat, w1_within x 3 = some (j : Int) ∧ j < 3 ∧ ([0, 255, x] : List Int)[j]? = some e) := by
  obtain ⟨j, hj, ej⟩ := w1_within_nat x 3 (by decide) (by decide)
  have hl : j < ([0, 255, x] : List Int).length := by simpa using hj
  exact ⟨_, j, ej, hj, List.getElem?_eq_getElem hl⟩
theorem w1_ImmBytes_true (a b c d : Int) (w1 : IntKind.i64.min ≤ a ∧ a ≤ IntKind.i64.max) (w2 : IntKind.i64.min ≤ b ∧ b ≤ IntKind.i64.max) (w3 : IntKind.i64.min ≤ c ∧ c ≤ IntKind.i64.max) (w4 : IntKind.i64.min ≤ d ∧ d ≤ IntKind.i64.max) : w1_ImmBytes a b c d = some true := by
  rw [w1_ImmBytes.eq]; unfold w1_ImmBytes_b
  obtain ⟨ea, ja, pa, qa, ra⟩ := pick3 a
  obtain ⟨eb, jb, pb, qb, rb⟩ := pick3 b
  obtain ⟨ec, jc, pc, qc, rc⟩ := pick3 c
  obtain ⟨ed, jd, pd, qd, rd⟩ := pick3 d
  have cl : ∀ (x : Int) (j : Nat), j < 3 → decide (0 ≤ (j : Int) ∧ (j : Int) < ((([0, 255, x] : List Int).length : Nat) : Int)) = true := fun x j h => decide_eq_true (by simp; omega)
  have hm : ∀ x : Int, byt (andI .i64 x 255) := fun x => by rw [andI_255]; constructor <;> omega
  rw [w1_known_true, Option.bind_some]
  simp only [Bool.not_true, cond_false]
  rw [pa, Option.bind_some, cl a ja qa, cond_true, Int.toNat_natCast, ra, Option.bind_some, pb, Option.bind_some, cl b jb qb, cond_true, Int.toNat_natCast, rb, Option.bind_some]
  rw [pc, Option.bind_some, cl c jc qc, cond_true, Int.toNat_natCast, rc, Option.bind_some, pd, Option.bind_some, cl d jd qd, cond_true, Int.toNat_natCast, rd, Option.bind_some]
  have ha := hm ea
  have hb := hm eb
  have hc := hm ec
  have hd := hm ed
  generalize andI .i64 ea 255 = A at ha
  generalize andI .i64 eb 255 = B at hb
  generalize andI .i64 ec 255 = C at hc
  generalize andI .i64 ed 255 = D at hd
  rw [bytes_loop ha hb hc hd, Option.bind_some]
  simp only
  rw [sign32 (by unfold pk4; omega) (by unfold pk4; omega), Option.bind_some]
  obtain ⟨r, e1, e2⟩ := sci8_eq (sgn32 (pk4 A B C D))
  rw [e1, Option.bind_some]
  have hlaw := bytes_law ha hb hc hd
  rw [← e2] at hlaw
  generalize ct A 0 + ct B 0 + ct C 0 + ct D 0 = N at hlaw
  generalize ct A 255 + ct B 255 + ct C 255 + ct D 255 = M at hlaw
  by_cases h1 : N ≥ 3
  · rw [decide_eq_true (show (N : Int) ≥ 3 by omega), cond_true, hlaw.2 (.inl h1)]; rfl
  · rw [decide_eq_false (show ¬ (N : Int) ≥ 3 by omega), cond_false]
    by_cases h2 : M ≥ 3
    · rw [decide_eq_true (show (M : Int) ≥ 3 by omega), hlaw.2 (.inr h2)]; rfl
    · rw [decide_eq_false (show ¬ (M : Int) ≥ 3 by omega)]
      cases hr : r.2.2.2 with
      | false => rfl
      | true => rcases hlaw.1 hr with h | h <;> omega
end Go.Ab
namespace Go.Proofs.Ytcgjdpeodjodcaa
open Go Go.Ab Go.RowKit
structure Dr (w w' : World) : Prop where mk :: (out : ∃ n, w' = w.drewN n)
theorem Dr.refl (w : World) : Dr w w := ⟨⟨0, rfl⟩⟩
theorem Dr.step {w w' : World} (h : Dr w w') (n : Nat) : Dr w (w'.drewN n) := by
  obtain ⟨⟨k, rfl⟩⟩ := h
  exact ⟨⟨k + n, World.drewN_drewN ..⟩⟩
theorem Dr.below {w w' : World} (h : Dr w w') : Below w.heap.size w w' := by
  obtain ⟨⟨n, rfl⟩⟩ := h; exact Joins.below_draws _ _ _
open Go.Fl (ldw)
theorem fl_tobits (c : Nat) (w : World) : (callFunc 21 #[.float .f64 c]).run Try.prog w = .ok (.value (.int .u64 c)) w := by kernel_rfl
theorem fl_frombits (n : Int) (w : World) : (callFunc 24 #[.int .u64 n]).run Try.prog w = .ok (.value (.float .f64 n.toNat)) w := by kernel_rfl
theorem fl_absone : Go.bits .andNot .u64 4607182418800017408 9223372036854775808 = 4607182418800017408 := by decide +kernel
theorem fl_mulfmt : ∀ n : Fin 41, FloatKind.f64.format.mul 4607182418800017408 (Go.bits .or .u64 0 (((n.val : Int) + 1023) * 4503599627370496)).toNat = some (ldw n.val) := by decide +kernel
theorem fl_mulone (k : Int) (h0 : 0 ≤ k) (h1 : k ≤ 40) (w : World) : (binOp .mul 39 (.float .f64 4607182418800017408) (.float .f64 (Go.bits .or .u64 0 ((k + 1023) * 4503599627370496)).toNat)).run Try.prog w = .ok (.float .f64 (ldw k)) w := by
  have h := fl_mulfmt ⟨k.toNat, by omega⟩
  simp only [Int.toNat_of_nonneg h0] at h
  simp [binOp, Op.floatArith, h]
theorem fl_negfmt : ∀ n : Fin 41, Op.negFloat .f64 (ldw n.val) = 9223372036854775808 + ldw n.val := by decide +kernel
theorem fl_neg (k : Int) (h0 : 0 ≤ k) (h1 : k ≤ 40) (w : World) : (Op.unary .neg (.float .f64 (ldw k))).run Try.prog w = .ok (.float .f64 (9223372036854775808 + ldw k)) w := by
  have h := fl_negfmt ⟨k.toNat, by omega⟩
  simp only [Int.toNat_of_nonneg h0] at h
  simp [Op.unary, h]
set_option maxHeartbeats 2000000 in
theorem fl_ldexp (k : Int) (h0 : 0 ≤ k) (h1 : k ≤ 40) (w : World) : Calls Try.prog 15 #[.float .f64 4607182418800017408, .int .i64 k] w fun e w' => e = .returned (.float .f64 (ldw k)) ∧ w = w' := by
  have tb := fl_tobits
  have fb := fl_frombits
  have ao := fl_absone
  have a1 : Go.bits .and .i64 1023 2047 = 1023 := by decide +kernel
  have a2 : Go.bits .andNot .u64 4607182418800017408 9218868437227405312 = 0 := by decide +kernel
  have hm := fl_mulone k h0 h1
  go_enter Try.func15, Try.ntmps15
  go_wp2
  go_ret
  exact ⟨rfl, rfl⟩
theorem fl_close (a0 a1 : Int) (h0 : 1 ≤ a1) (h1 : a1 ≤ 41) :
    ((FloatKind.f64.format.order (floatOfInt FloatKind.f64 a0) (9223372036854775808 + ldw (a1 - 1)) == some Ordering.gt || FloatKind.f64.format.order (floatOfInt FloatKind.f64 a0) (9223372036854775808 + ldw (a1 - 1)) == some Ordering.eq) && FloatKind.f64.format.order (floatOfInt FloatKind.f64 a0) (ldw (a1 - 1)) == some Ordering.lt) = decide (-(2 ^ (a1 - 1).toNat) ≤ a0 ∧ a0 < 2 ^ (a1 - 1).toNat) := by
  have h := Go.Fl.fits_is a0 (a1 - 1).toNat (by omega)
  rw [Int.toNat_of_nonneg (by omega)] at h
  exact h
theorem fl_ret {a b : Bool} (h : a = b) : Ending.returned (.bool a) = Ending.returned (.bool b) := by rw [h]
theorem fl_no {a b : Option Ordering} (h : ¬(a = some Ordering.gt ∨ a = some Ordering.eq)) : false = ((a == some Ordering.gt || a == some Ordering.eq) && b == some Ordering.lt) := by
  symm
  rw [Bool.and_eq_false_iff]
  left
  rw [Bool.or_eq_false_iff]
  constructor
  · exact beq_eq_false_iff_ne.2 (fun e => h (.inl e))
  · exact beq_eq_false_iff_ne.2 (fun e => h (.inr e))
set_option maxHeartbeats 2000000 in
theorem imm_Fits.calls (a0 : Int) (a1 : Int) (r : Bool) (w : World) (h : fitsS a0 a1 = some r) :
    Calls Try.prog 11 #[.int .i64 a0, .int .i64 a1] w fun e w' => e = .returned (.bool r) ∧ Dr w w' := by
  unfold fitsS at h
  by_cases h0 : 1 ≤ a1
  · rw [if_pos h0] at h
    by_cases h1 : a1 ≤ 41
    · rw [if_pos h1] at h
      obtain rfl := Option.some.inj h
      clear h
      have hneg := fl_neg (a1 - 1) (by omega) (by omega)
      go_enter Try.func11, Try.ntmps11
      go_wp2_with (go_at_call 15; refine (fl_ldexp _ (by omega) (by omega) _).mono ?_; rintro e w' ⟨rfl, rfl⟩)
      all_goals
        go_ret
        refine ⟨fl_ret ?_, by repeat (first | exact Dr.refl _ | apply Dr.step)⟩
        first
        | exact fl_close a0 a1 h0 h1
        | exact (fl_no (by assumption)).trans (fl_close a0 a1 h0 h1)
    · rw [if_neg h1] at h; cases h
  · rw [if_neg h0] at h; cases h
def told : Ab.Told := ⟨fun _ _ => True, fun _ _ => trivial⟩
theorem ok_fits : FnOK1 told Try.prog 11 fitsX := fnOK1_fits fun v b r w h => (imm_Fits.calls v b r w h).mono fun e w' h => ⟨h.1, h.2.below⟩
theorem ext_ok (f : FuncId) (x : List AV → Heap → Option (AV × Heap)) (h : G.ext f = some x) : FnOK1 told Try.prog f x := by
  have h' : Go.Ab.get f extT = some x := h
  simp only [extT, Go.Ab.get] at h'
  repeat' split at h'
  all_goals first
    | cases h'; done
    | (rename_i e; subst e; cases h'; exact ok_fits)
end Go.Proofs.Ytcgjdpeodjodcaa
namespace Go.Proofs.Ytcgjdpeodjodcaa.immBytes
open Go Go.Ab Go.ChangeShapes Go.WideShapes Go.ChangeAt Go.RowKit
open Go.ChangeMaps (open_string shut_string)
theorem lw {a : Int} (h : (Lit.int IntKind.i64 a).wf = true) : IntKind.i64.min ≤ a ∧ a ≤ IntKind.i64.max := by
  simpa [Lit.wf] using h
theorem own : ownKnob Try.prog.godebug = none := by kernel_rfl
set_option maxRecDepth 100000 in
theorem lifted (os : Os) (started : os.Started) (H : Type) (enc : TypeId × Value → H) :
    ReturnsInHanded {} Try.checked os 3 .any (Rows.immBytesSpec.pre6 enc Try.prog Try.f3 Rows.immBytesRow.domain false) (Rows.immBytesSpec.post enc Try.prog Try.f3 false true false false) := by
  refine returnsInHanded_of_change_sized (C := Try.checked) own started (by kernel_rfl) Try.func3
    (ChangeSpec.witness6 (enc := enc) (C := Try.checked) false ⟨#[], #[.int .i64 0, .int .i64 0, .int .i64 0, .int .i64 0], []⟩ 8 (by kernel_rfl) (by kernel_rfl) (by kernel_rfl) (by kernel_rfl)) ?_
  intro W base args ds gs before hval0 hW hcnd hsz0 _
  have hval : ∀ (j : Nat) t v, Try.f3.params[j]? = some t → args[j]? = some v → Value.okWide Try.prog W .any base t v := hval0
  have hW' := hW
  obtain ⟨p, q, hA0, hV, rfl, hfz, hnd⟩ := hW
  have hA : DataW.TrodAll enc Try.prog W 0 (fun _ => true) true Try.f3.params.toList args.toList ds p := hA0
  rw [Try.params3] at hA hval
  obtain ⟨v0, vs0, d0, ds0, p0, q0, hargs, rfl, rfl, h0, r0⟩ := trodAll_cons hA
  obtain ⟨v1, vs1, d1, ds1, p1, q1, rfl, rfl, rfl, h1, r1⟩ := trodAll_cons r0
  obtain ⟨v2, vs2, d2, ds2, p2, q2, rfl, rfl, rfl, h2, r2⟩ := trodAll_cons r1
  obtain ⟨v3, vs3, d3, ds3, p3, q3, rfl, rfl, rfl, h3, r3⟩ := trodAll_cons r2
  obtain ⟨rfl, rfl, rfl⟩ := trodAll_nil r3
  obtain rfl : args = #[v0, v1, v2, v3] := by cases args; simp_all
  obtain ⟨rfl, rfl⟩ := trodVars_none hV
  obtain ⟨a0, rfl, rfl, rfl, w0⟩ := open_int Try.underlying3 (hval 0 3 v0 rfl rfl) h0
  obtain ⟨a1, rfl, rfl, rfl, w1⟩ := open_int Try.underlying3 (hval 1 3 v1 rfl rfl) h1
  obtain ⟨a2, rfl, rfl, rfl, w2⟩ := open_int Try.underlying3 (hval 2 3 v2 rfl rfl) h2
  obtain ⟨a3, rfl, rfl, rfl, w3⟩ := open_int Try.underlying3 (hval 3 3 v3 rfl rfl) h3
  clear hA0 hval0 hsz0
  obtain ⟨k, hk⟩ := w1_ImmBytes.run a0 a1 a2 a3 (w1_ImmBytes_true a0 a1 a2 a3 (lw w0) (lw w1) (lw w2) (lw w3))
  refine (calls_of_eval (T := told) (by kernel_rfl) ext_ok hk trivial (.cons _ _ _ _ (.sc _ rfl) (.cons _ _ _ _ (.sc _ rfl) (.cons _ _ _ _ (.sc _ rfl) (.cons _ _ _ _ (.sc _ rfl) .nil))))).mono fun e W' ⟨he, bel⟩ => ?_
  subst he
  exact ⟨_, rfl, _, _, _, [], _, [], hW', trodAll_mk1 (shut_bool Try.underlying4 _), (trodAll_cons_mk (shut_int Try.underlying3 w0) (trodAll_cons_mk (shut_int Try.underlying3 w1) (trodAll_cons_mk (shut_int Try.underlying3 w2) (trodAll_cons_mk (shut_int Try.underlying3 w3) trodAll_mk0)))), rfl, bel.frame _, fun h => by cases h⟩
theorem over : Rows.immBytesRow.holds Try.pinned (OpenSpec.ofChange Rows.immBytesSpec) :=
  OpenClaim.holds_of_wide 3 Try.f3 rfl rfl rfl rfl rfl rfl rfl ⟨rfl, rfl, rfl, rfl, rfl⟩ rfl rfl rfl rfl rfl (by kernel_rfl) Try.func3 (by kernel_rfl)
    (of_decide_eq_true (by kernel_rfl)) (by unfold Func.isWrapper; first | (rw [if_pos (by decide +kernel)]; kernel_rfl) | (rw [if_neg (by decide +kernel)]; exact ⟨rfl, rfl⟩))
    (fun os started H enc _ => lifted os started H enc)
theorem proved : Rows.ImmBytesSaid := over
end Go.Proofs.Ytcgjdpeodjodcaa.immBytes
namespace Go.Proofs.Ytcgjdpeodjodcaa
/-- The row, under a short name, for the claim. -/
theorem immBytes_holds : Rows.ImmBytesSaid := immBytes.proved
end Go.Proofs.Ytcgjdpeodjodcaa
