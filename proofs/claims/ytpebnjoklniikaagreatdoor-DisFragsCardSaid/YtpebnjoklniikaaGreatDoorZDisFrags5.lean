/- DisFrags: part 5 of the proof that, whatever the input, the law returns true and the input reads as it did; its conditions are those of the given row. -/
import Derived.Test.YtpebnjoklniikaaGreatDoorZDisFrags4
import Derived.Test.YtpebnjoklniikaaGreatDoorTie
import Derived.Test.YtpebnjoklniikaaGreatDoorCards
import Derived.ProofKit
import Derived.OpenShut
import Derived.Stop.Joined
import Derived.Lay
import Derived.SevenTiedAt
set_option linter.unusedVariables false
set_option linter.unusedSimpArgs false
set_option maxRecDepth 100000
namespace Go.Ab
/-! ### No line holds a line's end -/
theorem dec_nl (u : Nat) : (10 : UInt8) ∉ Lib.decDigits u := by
  have dig : ∀ d : Nat, d < 10 → (10 : UInt8) ≠ UInt8.ofNat (48 + d) := by
    intro d hd e
    have : ∀ d : Fin 10, (10 : UInt8) ≠ UInt8.ofNat (48 + d.val) := by decide
    exact this ⟨d, hd⟩ e
  induction u using Nat.strongRecOn with
  | _ u ih =>
    rw [Lib.decDigits]
    by_cases c : u < 10
    · rw [dif_pos c]
      intro h
      exact dig u c (List.mem_singleton.1 h)
    · rw [dif_neg c]
      intro h
      rcases List.mem_append.1 h with h | h
      · exact ih (u / 10) (by omega) h
      · exact dig (u % 10) (Nat.mod_lt _ (by decide)) (List.mem_singleton.1 h)
theorem dg_nl (v : Int) : (10 : UInt8) ∉ dg v := by
  unfold dg Lib.itoa
  split
  · intro h
    rcases List.mem_cons.1 h with h | h
    · exact absurd h (by decide)
    · exact dec_nl _ h
  · exact dec_nl _
theorem app_nl {a b : List UInt8} (ha : (10 : UInt8) ∉ a) (hb : (10 : UInt8) ∉ b) : (10 : UInt8) ∉ a ++ b := fun h => by
  rcases List.mem_append.1 h with h | h
  · exact ha h
  · exact hb h
theorem opT_nl (K : Kn) (v : Int) : (10 : UInt8) ∉ opT K v := by
  unfold opT
  split
  · exact app_nl (a := [114]) (by decide) (dg_nl v)
  · split
    · split
      · exact app_nl (by decide) (dg_nl _)
      · exact app_nl (by decide) (dg_nl _)
    · exact dg_nl _
theorem nm_nl : ∀ i : Fin 66, (10 : UInt8) ∉ nmB i.val := by decide +kernel
theorem go_nl : ∀ (Ks : List Kn) (l : List Int) (j : Nat), (10 : UInt8) ∉ goT j (List.zipWith opT Ks l)
  | [], l, j => by cases l <;> exact List.not_mem_nil
  | K :: Ks, [], j => List.not_mem_nil
  | K :: Ks, v :: l, j => by
    rw [List.zipWith_cons_cons, goT]
    have hs : (10 : UInt8) ∉ sepT j := by unfold sepT; split <;> decide
    exact app_nl (app_nl hs (opT_nl K v)) (go_nl Ks l (j + 1))
theorem line_nl {k : Nat} (hk : k < 66) (l : List Int) : (10 : UInt8) ∉ lineI k l := by
  rw [line_go]
  exact app_nl (nm_nl ⟨k, hk⟩) (go_nl _ _ _)
theorem step_nl (b : List Int) (hb : U8 b) : (10 : UInt8) ∉ (step b).1 := by
  unfold step
  rcases dec_cases b hb with ⟨k, n, s, h, h1, h2, h3, h3', h4, h5⟩ | h
  · rw [h]; simp only
    rw [Int.toNat_natCast]
    exact line_nl h2 _
  · rw [h]; simp only
    split
    · exact app_nl (by decide) (dg_nl _)
    · exact app_nl (by decide) (dg_nl _)
theorem lsF_nl : ∀ (n : Nat) (b : List Int), U8 b → ∀ t ∈ lsF n b, (10 : UInt8) ∉ t
  | 0, b, _ => fun t ht => (nomatch ht)
  | n + 1, b, hb => by
    unfold lsF
    by_cases c : b = []
    · rw [if_pos c]; exact fun t ht => (nomatch ht)
    · rw [if_neg c]
      intro t ht
      rcases List.mem_cons.1 ht with rfl | ht
      · exact step_nl b hb
      · exact lsF_nl n _ (drop_u8 hb _) t ht
/-! ### Fragments -/
def flL (t : List UInt8) : Nat := (t.takeWhile (fun c => c != 10)).length
theorem fl_app {t : List UInt8} (h : (10 : UInt8) ∈ t) (u : List UInt8) : flL (t ++ u) = flL t := by
  induction t with
  | nil => cases h
  | cons a t ih =>
    unfold flL at *
    rw [List.cons_append, List.takeWhile_cons, List.takeWhile_cons]
    by_cases e : a = 10
    · rw [e]; rfl
    · have hb : (a != 10) = true := bne_iff_ne.2 e
      rw [hb, if_pos rfl, if_pos rfl, List.length_cons, List.length_cons, ih (by
        rcases List.mem_cons.1 h with h | h
        · exact absurd h.symm e
        · exact h)]
theorem fl_line {l : List UInt8} (h : (10 : UInt8) ∉ l) : flL (l ++ [10]) = l.length := by
  induction l with
  | nil => rfl
  | cons a t ih =>
    unfold flL at *
    have e : a ≠ 10 := fun e => h (e ▸ List.mem_cons_self ..)
    have hb : (a != 10) = true := bne_iff_ne.2 e
    rw [List.cons_append, List.takeWhile_cons, hb, if_pos rfl, List.length_cons, List.length_cons, ih (fun h' => h (List.mem_cons_of_mem _ h'))]
def lastN (t : List UInt8) : Prop := ∃ s, t = s ++ [10]
def goodT (T : List (List UInt8)) : Prop := (∀ t ∈ T, t.length ≤ 600 ∧ lastN t) ∧ ∀ (i : Nat) (t u : List UInt8), T[i]? = some t → T[i + 1]? = some u → 600 < t.length + flL u + 1
def txs (st : Fs) : List (List UInt8) := if st.2 = [] then st.1 else st.1 ++ [st.2]
theorem app_get {A B : List (List UInt8)} {i : Nat} {t : List UInt8} (h : (A ++ B)[i]? = some t) : (i < A.length ∧ A[i]? = some t) ∨ (A.length ≤ i ∧ B[i - A.length]? = some t) := by
  rw [List.getElem?_append] at h
  split at h
  · rename_i c; exact .inl ⟨c, h⟩
  · rename_i c; exact .inr ⟨by omega, h⟩
theorem one_get {x t : List UInt8} {i : Nat} (h : [x][i]? = some t) : i = 0 ∧ t = x := by
  cases i with
  | zero => exact ⟨rfl, by cases h; rfl⟩
  | succ i => cases h
theorem good_in {A : List (List UInt8)} {x y : List UInt8} (h : goodT (A ++ [x])) (hf : flL y = flL x) (hy : y.length ≤ 600 ∧ lastN y) : goodT (A ++ [y]) := by
  obtain ⟨h1, h2⟩ := h
  refine ⟨fun t ht => ?_, fun i t u ht hu => ?_⟩
  · rcases List.mem_append.1 ht with ht | ht
    · exact h1 t (List.mem_append_left _ ht)
    · rw [List.mem_singleton.1 ht]; exact hy
  · rcases app_get ht with ⟨c, ht⟩ | ⟨c, ht⟩
    · have g1 : (A ++ [x])[i]? = some t := by rw [List.getElem?_append_left c]; exact ht
      rcases app_get hu with ⟨d, hu⟩ | ⟨d, hu⟩
      · exact h2 i t u g1 (by rw [List.getElem?_append_left d]; exact hu)
      · obtain ⟨e, rfl⟩ := one_get hu
        have g2 : (A ++ [x])[i + 1]? = some x := by rw [List.getElem?_append_right d, e]; rfl
        rw [hf]; exact h2 i t x g1 g2
    · rcases app_get hu with ⟨d, hu⟩ | ⟨d, hu⟩
      · omega
      · have := (one_get hu).1
        omega
theorem good_new {A : List (List UInt8)} {x y : List UInt8} (h : goodT (A ++ [x])) (hf : 600 < x.length + flL y + 1) (hy : y.length ≤ 600 ∧ lastN y) : goodT ((A ++ [x]) ++ [y]) := by
  obtain ⟨h1, h2⟩ := h
  refine ⟨fun t ht => ?_, fun i t u ht hu => ?_⟩
  · rcases List.mem_append.1 ht with ht | ht
    · exact h1 t ht
    · rw [List.mem_singleton.1 ht]; exact hy
  · rcases app_get hu with ⟨d, hu⟩ | ⟨d, hu⟩
    · rcases app_get ht with ⟨c, ht⟩ | ⟨c, ht⟩
      · exact h2 i t u ht hu
      · omega
    · obtain ⟨e, rfl⟩ := one_get hu
      rcases app_get ht with ⟨c, ht⟩ | ⟨c, ht⟩
      · have hl : (A ++ [x]).length = A.length + 1 := by rw [List.length_append, List.length_singleton]
        rcases app_get ht with ⟨c', ht⟩ | ⟨c', ht⟩
        · omega
        · rw [(one_get ht).2]; exact hf
      · have := (one_get ht).1
        omega
def allT (ls : List (List UInt8)) : List UInt8 := (ls.map (fun l => l ++ [10])).flatten
theorem allT_snoc (a : List (List UInt8)) (l : List UInt8) : allT (a ++ [l]) = allT a ++ (l ++ [10]) := by
  unfold allT; rw [List.map_append, List.flatten_append]; simp
def FsOk (st : Fs) (ls : List (List UInt8)) : Prop := (st.2 = [] → st.1 = []) ∧ goodT (txs st) ∧ (txs st).flatten = allT ls
theorem fs_add {st : Fs} {ls : List (List UInt8)} (h : FsOk st ls) {l : List UInt8} (hl : l.length ≤ 39) (hn : (10 : UInt8) ∉ l) : FsOk (addF st l) (ls ++ [l]) := by
  obtain ⟨h1, h2, h3⟩ := h
  obtain ⟨cl, cur⟩ := st
  have hy : (l ++ [10]).length ≤ 600 ∧ lastN (l ++ [10]) := ⟨by rw [List.length_append, List.length_singleton]; omega, l, rfl⟩
  have ne : ∀ s : List UInt8, s ++ [10] ≠ [] := fun s => by simp
  by_cases g : cur = []
  · subst g
    have := h1 rfl
    simp only at this
    subst this
    have ha : addF ([], []) l = ([], l ++ [10]) := by
      unfold addF
      rw [if_neg (by simp; omega)]; simp
    have ht : txs ([], l ++ [10]) = [l ++ [10]] := by unfold txs; rw [if_neg (ne l)]; rfl
    have h3' : allT ls = [] := by rw [← h3]; rfl
    rw [ha]
    refine ⟨fun e => absurd e (ne l), ?_, ?_⟩
    · rw [ht]
      refine ⟨fun t ht => by rw [List.mem_singleton.1 ht]; exact hy, fun i t u _ hu => ?_⟩
      cases hu
    · rw [ht, allT_snoc, h3']; simp
  · have ht0 : txs (cl, cur) = cl ++ [cur] := by unfold txs; rw [if_neg g]
    rw [ht0] at h2 h3
    obtain ⟨hc1, s, hc2⟩ := h2.1 cur (by simp)
    by_cases q : cur.length + l.length + 1 > 600
    · have ha : addF (cl, cur) l = (cl ++ [cur], l ++ [10]) := by unfold addF; rw [if_pos q]
      have ht : txs (cl ++ [cur], l ++ [10]) = (cl ++ [cur]) ++ [l ++ [10]] := by unfold txs; rw [if_neg (ne l)]
      rw [ha]
      refine ⟨fun e => absurd e (ne l), ?_, ?_⟩
      · rw [ht]; exact good_new h2 (by rw [fl_line hn]; omega) hy
      · rw [ht, List.flatten_append, h3, allT_snoc]; simp
    · have ha : addF (cl, cur) l = (cl, cur ++ l ++ [10]) := by unfold addF; rw [if_neg q]
      have ht : txs (cl, cur ++ l ++ [10]) = cl ++ [cur ++ l ++ [10]] := by unfold txs; rw [if_neg (ne _)]
      rw [ha]
      refine ⟨fun e => absurd e (ne _), ?_, ?_⟩
      · rw [ht]
        refine good_in h2 ?_ ⟨by simp only [List.length_append, List.length_singleton]; omega, _, rfl⟩
        rw [List.append_assoc]
        exact fl_app (by rw [hc2]; simp) _
      · rw [ht, allT_snoc, ← h3]; simp
theorem fs_fold : ∀ (ls pre : List (List UInt8)) (st : Fs), FsOk st pre → (∀ t ∈ ls, t.length ≤ 39 ∧ (10 : UInt8) ∉ t) → FsOk (ls.foldl addF st) (pre ++ ls)
  | [], pre, st, h, _ => by rw [List.append_nil]; exact h
  | l :: ls, pre, st, h, hl => by
    have := fs_fold ls (pre ++ [l]) (addF st l) (fs_add h (hl l (List.mem_cons_self ..)).1 (hl l (List.mem_cons_self ..)).2) (fun t ht => hl t (List.mem_cons_of_mem _ ht))
    rw [List.append_assoc] at this
    exact this
theorem fs_0 : FsOk ([], []) [] := ⟨fun _ => rfl, ⟨fun t ht => (nomatch ht), fun i t u h => by cases h⟩, rfl⟩
theorem frV_txs (st : Fs) : frV st = frG 0 (txs st) := by unfold frV txs; split <;> rfl
theorem frG_get : ∀ (T : List (List UInt8)) (j i : Nat), (frG j T)[i]? = (T[i]?).map fun t => ⟨nmF (j + i), ba t⟩
  | [], j, i => by rw [frG]; rfl
  | t :: T, j, 0 => rfl
  | t :: T, j, i + 1 => by
    rw [frG, List.getElem?_cons_succ, List.getElem?_cons_succ, frG_get T (j + 1) i, show j + 1 + i = j + (i + 1) by omega]
/-! ### Names -/
def wdChk (i : Nat) : Bool := match r4_Word.s 60 (nmF i) with | some b => b | none => false
theorem wd_all : ((List.range 300).all wdChk) = true := by kernel_rfl
theorem wd_is {i : Nat} (h : i < 300) : r4_Word (nmF i) = some true := by
  have h' := List.all_eq_true.1 wd_all i (List.mem_range.2 h)
  unfold wdChk at h'
  split at h'
  · rename_i b e; rw [h'] at e; exact cv_some (r4_Word.cv _) _ e
  · cases h'
def upChk (i : Nat) : Bool := Op.bytesLess (nmF i).data.toList (nmF (i + 1)).data.toList
theorem up_all : ((List.range 299).all upChk) = true := by kernel_rfl
theorem up_is {i : Nat} (h : i < 299) : Op.bytesLess (nmF i).toList (nmF (i + 1)).toList = true := by
  rw [ByteArray.toList_eq, ByteArray.toList_eq]
  exact List.all_eq_true.1 up_all i (List.mem_range.2 h)
/-! ### The law's loops -/
theorem fr_1 (f : List T_api_Frag) (ls : List (List UInt8)) (hl : ls.length ≤ 4200) (hm : ∀ t ∈ ls, t.length ≤ 39) : ∀ (d i : Nat) (s : List UInt8), i + d = ls.length → s.length ≤ 40 * i → w6_DisFrags_L1 ⟨f, ls.map ba, ba s, (i : Int)⟩ = some ⟨f, ba (s ++ allT (ls.drop i))⟩
  | 0, i, s, hd, hs => by
    rw [w6_DisFrags_L1.eq]; unfold w6_DisFrags_L1_b; simp only
    rw [show decide ((i : Int) < (((ls.map ba).length : Nat) : Int)) = false from decide_eq_false (by rw [List.length_map]; omega), List.drop_eq_nil_of_le (by omega), show allT [] = [] from rfl, List.append_nil]; rfl
  | d + 1, i, s, hd, hs => by
    have hi1 : i < ls.length := by omega
    have hi2 : i < (ls.map ba).length := by rw [List.length_map]; exact hi1
    have hx := hm _ (List.getElem_mem hi1)
    have ih := fr_1 f ls hl hm d (i + 1) (s ++ ls[i] ++ [10]) (by omega) (by simp only [List.length_append, List.length_singleton]; omega)
    rw [w6_DisFrags_L1.eq]; unfold w6_DisFrags_L1_b; simp only
    rw [show decide ((i : Int) < (((ls.map ba).length : Nat) : Int)) = true from decide_eq_true (by omega), cond_true, show decide (0 ≤ (i : Int)) = true from decide_eq_true (by omega), cond_true, Int.toNat_natCast, List.getElem?_eq_getElem hi2, Option.bind_some, List.getElem_map, guardS s _ (by omega), cond_true, ba_append, show h_0a = ba [10] from rfl, guardS _ [10] (by simp only [List.length_append, List.length_singleton]; omega), cond_true, ba_append, w64_in (n := (i : Int) + 1) (by omega) (by omega), Option.bind_some, Sum.elim_inl]
    refine Eq.trans ih ?_
    have ha : allT (ls[i] :: ls.drop (i + 1)) = ls[i] ++ [10] ++ allT (ls.drop (i + 1)) := rfl
    rw [List.drop_eq_getElem_cons hi1, ha, List.append_assoc, List.append_assoc, List.append_assoc]
theorem ba_get (s : List UInt8) {i : Nat} (h : i < s.length) : (ba s).data.getD i 0 = s[i] := by
  unfold ba
  simp [Array.getD, h]
theorem fl_le (t : List UInt8) : flL t ≤ t.length := by
  unfold flL
  induction t with
  | nil => simp
  | cons a t ih =>
    rw [List.takeWhile_cons]
    split
    · simp only [List.length_cons]; omega
    · simp
theorem fr_3 (f : List T_api_Frag) (all got : ByteArray) (x : Int) (t : List UInt8) (ht : t.length ≤ 600) : ∀ (d i : Nat), i + d = t.length → w6_DisFrags_L3 ⟨f, all, got, x, ba t, (i : Int)⟩ = some ⟨f, all, got, x, ba t, ((i + flL (t.drop i) : Nat) : Int)⟩
  | 0, i, hd => by
    rw [w6_DisFrags_L3.eq]; unfold w6_DisFrags_L3_b; simp only
    rw [ba_size, show decide ((i : Int) < ((t.length : Nat) : Int)) = false from decide_eq_false (by omega), List.drop_eq_nil_of_le (by omega)]; rfl
  | d + 1, i, hd => by
    have hi : i < t.length := by omega
    have ih := fr_3 f all got x t ht d (i + 1) (by omega)
    rw [w6_DisFrags_L3.eq]; unfold w6_DisFrags_L3_b; simp only
    rw [ba_size, show decide ((i : Int) < ((t.length : Nat) : Int)) = true from decide_eq_true (by omega), cond_true, show decide (0 ≤ (i : Int) ∧ (i : Int) < ((t.length : Nat) : Int)) = true from decide_eq_true (by omega), cond_true, Int.toNat_natCast, ba_get t hi, List.drop_eq_getElem_cons hi]
    by_cases e : t[i] = 10
    · rw [show (((t[i].toNat : Nat) : Int) != 10) = false by rw [e]; rfl, cond_false, show flL (t[i] :: t.drop (i + 1)) = 0 by rw [e]; rfl]; rfl
    · have e2 : (((t[i].toNat : Nat) : Int) != 10) = true := bne_iff_ne.2 (fun h => e (by
        have h' : t[i].toNat = 10 := by omega
        exact UInt8.toNat_inj.1 h'))
      rw [e2, cond_true, w64_in (n := (i : Int) + 1) (by omega) (by omega), Option.bind_some, Sum.elim_inl]
      refine Eq.trans ih ?_
      have e3 : flL (t[i] :: t.drop (i + 1)) = flL (t.drop (i + 1)) + 1 := by
        unfold flL
        rw [List.takeWhile_cons, show (t[i] != 10) = true from bne_iff_ne.2 e, if_pos rfl, List.length_cons]
      rw [e3]; congr 3; omega
theorem fr_2 (all : ByteArray) (T : List (List UInt8)) (hT : goodT T) (hn : T.length ≤ 300) : ∀ (d i : Nat) (s : List UInt8), i + d = T.length → s.length ≤ 600 * i → w6_DisFrags_L2 ⟨frG 0 T, all, ba s, (i : Int)⟩ = some (.inr ⟨all, ba (s ++ (T.drop i).flatten)⟩)
  | 0, i, s, hd, hs => by
    rw [w6_DisFrags_L2.eq]; unfold w6_DisFrags_L2_b; simp only
    rw [frG_len, show decide ((i : Int) < ((T.length : Nat) : Int)) = false from decide_eq_false (by omega), List.drop_eq_nil_of_le (by omega), List.flatten_nil, List.append_nil]; rfl
  | d + 1, i, s, hd, hs => by
    have hi : i < T.length := by omega
    obtain ⟨hl, u, hu⟩ := hT.1 _ (List.getElem_mem hi)
    have hg : (frG 0 T)[i]? = some ⟨nmF i, ba T[i]⟩ := by rw [frG_get, List.getElem?_eq_getElem hi, Nat.zero_add]; rfl
    have hpos : T[i].length = u.length + 1 := by rw [hu, List.length_append, List.length_singleton]
    have hlast : (ba T[i]).data.getD u.length 0 = 10 := by
      rw [ba_get _ (by omega)]
      have : T[i][u.length]? = some 10 := by rw [hu, List.getElem?_append_right (Nat.le_refl _), Nat.sub_self]; rfl
      rw [List.getElem?_eq_getElem (by omega)] at this
      exact Option.some.inj this
    have ih := fr_2 all T hT hn d (i + 1) (s ++ T[i]) (by omega) (by rw [List.length_append]; omega)
    have hfin : s ++ T[i] ++ (T.drop (i + 1)).flatten = s ++ (T.drop i).flatten := by rw [List.drop_eq_getElem_cons hi, List.flatten_cons, List.append_assoc]
    rw [hfin] at ih
    rw [w6_DisFrags_L2.eq]; unfold w6_DisFrags_L2_b; simp only
    rw [frG_len, show decide ((i : Int) < ((T.length : Nat) : Int)) = true from decide_eq_true (by omega), cond_true, show decide (0 ≤ (i : Int)) = true from decide_eq_true (by omega), cond_true, Int.toNat_natCast, hg, Option.bind_some]
    simp only
    rw [ba_size, show decide (((T[i].length : Nat) : Int) < 1) = false from decide_eq_false (by omega), cond_false, show decide (((T[i].length : Nat) : Int) > 600) = false from decide_eq_false (by omega), cond_false, show w64 (((T[i].length : Nat) : Int) - 1) = ((u.length : Nat) : Int) from by rw [w64_in (by omega) (by omega)]; omega, show decide (0 ≤ ((u.length : Nat) : Int) ∧ ((u.length : Nat) : Int) < ((T[i].length : Nat) : Int)) = true from decide_eq_true (by omega), cond_true, Int.toNat_natCast, hlast, show ((((10 : UInt8).toNat : Nat) : Int) != 10) = false from rfl, cond_false, Option.bind_some]
    simp only
    rw [wd_is (by omega), Option.bind_some, show (!true) = false from rfl, cond_false]
    cases i with
    | zero =>
      rw [show decide (((0 : Nat) : Int) > 0) = false from rfl, cond_false, ba_size, guard_ok (by omega), cond_true, ba_append, w64_in (n := ((0 : Nat) : Int) + 1) (by omega) (by omega), Option.bind_some, Sum.elim_inl]
      exact ih
    | succ i =>
      have hi' : i < T.length := by omega
      have hg' : (frG 0 T)[i]? = some ⟨nmF i, ba T[i]⟩ := by rw [frG_get, List.getElem?_eq_getElem hi', Nat.zero_add]; rfl
      have hl' := (hT.1 _ (List.getElem_mem hi')).1
      have hc := hT.2 i T[i] T[i + 1] (List.getElem?_eq_getElem hi') (List.getElem?_eq_getElem hi)
      have e3 := fr_3 (frG 0 T) all (ba s) (((i + 1 : Nat)) : Int) T[i + 1] hl T[i + 1].length 0 (Nat.zero_add _)
      rw [List.drop_zero, Nat.zero_add] at e3
      have e3' : w6_DisFrags_L3 ⟨frG 0 T, all, ba s, (((i + 1 : Nat)) : Int), ba T[i + 1], 0⟩ = _ := e3
      have hfl := fl_le T[i + 1]
      have em : w64 ((((i + 1 : Nat)) : Int) - 1) = ((i : Nat) : Int) := by rw [w64_in (by omega) (by omega)]; omega
      have ew : w64 (w64 (((T[i].length : Nat) : Int) + ((flL T[i + 1] : Nat) : Int)) + 1) = ((T[i].length + flL T[i + 1] + 1 : Nat) : Int) := by
        rw [w64_in (n := ((T[i].length : Nat) : Int) + ((flL T[i + 1] : Nat) : Int)) (by omega) (by omega), w64_in (by omega) (by omega)]; omega
      rw [show decide ((((i + 1 : Nat)) : Int) > 0) = true from decide_eq_true (by omega), cond_true, em, show decide (0 ≤ ((i : Nat) : Int)) = true from decide_eq_true (by omega), cond_true, Int.toNat_natCast, hg', Option.bind_some, Option.bind_some]
      simp only
      rw [up_is (by omega), show (!true) = false from rfl, cond_false, e3', Option.bind_some]
      simp only
      rw [em, show decide (0 ≤ ((i : Nat) : Int)) = true from decide_eq_true (by omega), cond_true, Int.toNat_natCast, hg', Option.bind_some]
      simp only
      rw [ba_size, ew, show decide (((T[i].length + flL T[i + 1] + 1 : Nat) : Int) ≤ 600) = false from decide_eq_false (by omega), cond_false, guardS s _ (by omega), cond_true, ba_append, w64_in (n := (((i + 1 : Nat)) : Int) + 1) (by omega) (by omega), Option.bind_some, Sum.elim_inl]
      exact ih
theorem wf_u8f {l : List Int} (h : ∀ y ∈ l, IntKind.u8.min ≤ y ∧ y ≤ IntKind.u8.max) : U8 l := fun x hx => by
  have h := h x hx
  have h0 : 0 ≤ x := h.1
  have h1 : x ≤ 255 := h.2
  exact ⟨h0, by omega⟩
theorem w6_DisFrags_true (a0 a1 a2 : List Int) (w0 : a0.length ≤ maxLen ∧ ∀ y ∈ a0, IntKind.i64.min ≤ y ∧ y ≤ IntKind.i64.max) (w1 : a1.length ≤ maxLen ∧ ∀ y ∈ a1, IntKind.i64.min ≤ y ∧ y ≤ IntKind.i64.max) (w2 : a2.length ≤ maxLen ∧ ∀ y ∈ a2, IntKind.u8.min ≤ y ∧ y ≤ IntKind.u8.max) : w6_DisFrags a0 a1 a2 = some true := by
  have hu := wf_u8f w2.2
  rw [w6_DisFrags.eq]; unfold w6_DisFrags_b
  rw [w6_known_true, Option.bind_some, show (!true) = false from rfl, cond_false]
  by_cases c : ((a2.length : Nat) : Int) > 200
  · rw [decide_eq_true c, cond_true]
  obtain ⟨b, hr, hb, lr, _⟩ := bytes_is a0 a1 a2 (by omega) hu
  rw [decide_eq_false c, cond_false, hr, Option.bind_some]
  by_cases c8 : ((b.length : Nat) : Int) > 8192
  · rw [decide_eq_true c8, cond_true]
  obtain ⟨m1, m2⟩ := listing_mx hb
  have hok := foldF_ok (listing b) 0 ([], []) okF_0 m1
  have hfl := frV_len hok (by omega)
  have hfs := fs_fold (listing b) [] ([], []) fs_0 (fun t ht => ⟨m1 t ht, lsF_nl _ b hb t ht⟩)
  rw [List.nil_append] at hfs
  obtain ⟨f1, f2, f3⟩ := hfs
  have e1 := list_prog b hb (by omega)
  have e4 := frags_prog b hb (by omega)
  have hV : fragsV b = frG 0 (txs ((listing b).foldl addF ([], []))) := frV_txs _
  rw [frV_txs, frG_len] at hfl
  generalize (listing b).foldl addF ([], []) = st at *
  have l1 := fr_1 (fragsV b) (listing b) (by omega) m1 (listing b).length 0 [] (Nat.zero_add _) (by simp)
  have l1' : w6_DisFrags_L1 ⟨fragsV b, (listing b).map ba, s_, 0⟩ = _ := l1
  have l2 := fr_2 (ba ([] ++ allT ((listing b).drop 0))) (txs st) f2 hfl (txs st).length 0 [] (Nat.zero_add _) (by simp)
  have l2' : w6_DisFrags_L2 ⟨frG 0 (txs st), ba ([] ++ allT ((listing b).drop 0)), s_, 0⟩ = _ := l2
  rw [decide_eq_false c8, cond_false, e4, Option.bind_some, e1, Option.bind_some, l1', Option.bind_some]
  simp only
  rw [hV, l2', Option.bind_some, Sum.elim_inr]
  simp only
  rw [List.drop_zero, List.drop_zero, List.nil_append, List.nil_append, f3]
  exact congrArg some (eqS_iff.2 rfl)
end Go.Ab
namespace Go.Proofs.YtpebnjoklniikaaGreatDoor
open Go Go.Ab Go.ChangeShapes Go.WideShapes Go.ChangeAt Go.RowKit
open Go.ChangeMaps (open_string shut_string)
theorem repL_one {c : Ctx} {w : World} {a : AV} {v : Value} (h : RepL c w [a] [v]) : Rep c w a v := by cases h; assumption
theorem laidOut : laidOutB Tryz.prog = true := by kernel_rfl
theorem own : ownKnob Tryz.prog.godebug = none := by kernel_rfl
theorem door_met (os : Os) (args : Array Value) : laidMetH Tryz.prog [("math/bits.deBruijn32tab", Rows.laid_math_bits_deBruijn32tab), ("math/bits.deBruijn64tab", Rows.laid_math_bits_deBruijn64tab), ("internal/strconv.uint64pow10", Rows.laid_internal_strconv_uint64pow10), ("unicode.White_Space", Rows.laid_unicode_White_Space), ("strings.asciiSpace", Rows.laid_strings_asciiSpace)] ((World.doorLaid Tryz.prog 48 os).forCall (fun _ _ => 0) ⟨#[], args, []⟩).memory :=
  laidMetH_of_parts3 (fuel := 8) (laidMet_of_run' 8 (by kernel_rfl) (by kernel_rfl)) (by kernel_rfl) (by kernel_rfl)
namespace disFrags
set_option maxRecDepth 100000 in
theorem lifted (os : Os) (started : os.Started) (H : Type) (enc : TypeId × Value → H) :
    ReturnsInHanded {} Tryz.checked os 4 .any (fun w args => (Rows.disFragsSpec.pre enc Tryz.prog Tryz.f4 [] false w args ∧ laidMetH Tryz.prog [("math/bits.deBruijn32tab", Rows.laid_math_bits_deBruijn32tab), ("math/bits.deBruijn64tab", Rows.laid_math_bits_deBruijn64tab), ("internal/strconv.uint64pow10", Rows.laid_internal_strconv_uint64pow10), ("unicode.White_Space", Rows.laid_unicode_White_Space), ("strings.asciiSpace", Rows.laid_strings_asciiSpace)] w) ∧ sizedMet enc Tryz.prog Tryz.f4 (OpenSpec.ofChange Rows.disFragsSpec) false w args) (Rows.disFragsSpec.post enc Tryz.prog Tryz.f4 false true false false) := by
  refine returns_shaped (C := Tryz.checked) (X := fun w _ => laidMetH Tryz.prog [("math/bits.deBruijn32tab", Rows.laid_math_bits_deBruijn32tab), ("math/bits.deBruijn64tab", Rows.laid_math_bits_deBruijn64tab), ("internal/strconv.uint64pow10", Rows.laid_internal_strconv_uint64pow10), ("unicode.White_Space", Rows.laid_unicode_White_Space), ("strings.asciiSpace", Rows.laid_strings_asciiSpace)] w) (fun _ _ _ hh h => h.of_heap hh) own started (by kernel_rfl) Tryz.func4
    (ChangeSpec.witness_shaped (enc := enc) (C := Tryz.checked) (os := os) (X := fun w _ => laidMetH Tryz.prog [("math/bits.deBruijn32tab", Rows.laid_math_bits_deBruijn32tab), ("math/bits.deBruijn64tab", Rows.laid_math_bits_deBruijn64tab), ("internal/strconv.uint64pow10", Rows.laid_internal_strconv_uint64pow10), ("unicode.White_Space", Rows.laid_unicode_White_Space), ("strings.asciiSpace", Rows.laid_strings_asciiSpace)] w) false (World.doorLaid Tryz.prog 48 os) #[.slice none 0 0, .slice none 0 0, .slice none 0 0] 8 rfl (World.shaped_of_RefB (by kernel_rfl) (by kernel_rfl)) (by kernel_rfl) (by kernel_rfl) (by kernel_rfl) (door_met os _)) ?_
  intro W base args ds gs before hval0 hW hcnd hsz0 hL _
  have hT := told_of hL
  have hW' := hW
  obtain ⟨p, q, hA0, hV, rfl, hfz, hnd⟩ := hW
  have hA : DataW.TrodAll enc Tryz.prog W 0 (fun _ => true) true Tryz.f4.params.toList args.toList ds p := hA0
  rw [Tryz.params4] at hA
  obtain ⟨v0, vs0, d0, ds0, p0, q0, hargs, rfl, rfl, h0, r0⟩ := trodAll_cons hA
  obtain ⟨v1, vs1, d1, ds1, p1, q1, rfl, rfl, rfl, h1, r1⟩ := trodAll_cons r0
  obtain ⟨v2, vs2, d2, ds2, p2, q2, rfl, rfl, rfl, h2, r2⟩ := trodAll_cons r1
  obtain ⟨rfl, rfl, rfl⟩ := trodAll_nil r2
  obtain rfl : args = #[v0, v1, v2] := by cases args; simp_all
  obtain ⟨rfl, rfl⟩ := trodVars_none hV
  obtain ⟨u0, len0, cap0, rfl⟩ := okWide_slice Tryz.underlying22 (hval0 0 22 v0 rfl rfl)
  obtain ⟨a0, w0, y0⟩ := rd_fuel (enc := enc) (P := Tryz.prog) (W := W) (fun fuel => (show Rd enc Tryz.prog W fuel 22 (fun l : List Int => [.sl (l.map C_i64)]) (fun l => l.length ≤ maxLen ∧ ∀ y ∈ l, IntKind.i64.min ≤ y ∧ y ≤ IntKind.i64.max) from by
      cases fuel with
      | zero => exact rd_zero _ _
      | succ m => exact rd_slice (s := 1) Tryz.underlying22 (by kernel_rfl) (by decide) (fun _ => rfl) (rd_int Tryz.underlying3 m))) h0
  replace y0 := repL_one (show RepL (oldCtx W) W [_] [_] from y0)
  obtain ⟨u1, len1, cap1, rfl⟩ := okWide_slice Tryz.underlying22 (hval0 1 22 v1 rfl rfl)
  obtain ⟨a1, w1, y1⟩ := rd_fuel (enc := enc) (P := Tryz.prog) (W := W) (fun fuel => (show Rd enc Tryz.prog W fuel 22 (fun l : List Int => [.sl (l.map C_i64)]) (fun l => l.length ≤ maxLen ∧ ∀ y ∈ l, IntKind.i64.min ≤ y ∧ y ≤ IntKind.i64.max) from by
      cases fuel with
      | zero => exact rd_zero _ _
      | succ m => exact rd_slice (s := 1) Tryz.underlying22 (by kernel_rfl) (by decide) (fun _ => rfl) (rd_int Tryz.underlying3 m))) h1
  replace y1 := repL_one (show RepL (oldCtx W) W [_] [_] from y1)
  obtain ⟨u2, len2, cap2, rfl⟩ := okWide_slice Tryz.underlying23 (hval0 2 23 v2 rfl rfl)
  obtain ⟨a2, w2, y2⟩ := rd_fuel (enc := enc) (P := Tryz.prog) (W := W) (fun fuel => (show Rd enc Tryz.prog W fuel 23 (fun l : List Int => [.sl (l.map C_u8)]) (fun l => l.length ≤ maxLen ∧ ∀ y ∈ l, IntKind.u8.min ≤ y ∧ y ≤ IntKind.u8.max) from by
      cases fuel with
      | zero => exact rd_zero _ _
      | succ m => exact rd_slice (s := 1) Tryz.underlying23 (by kernel_rfl) (by decide) (fun _ => rfl) (rd_int Tryz.underlying5 m))) h2
  replace y2 := repL_one (show RepL (oldCtx W) W [_] [_] from y2)
  obtain ⟨k, hk⟩ := w6_DisFrags.run a0 a1 a2 (w6_DisFrags_true a0 a1 a2 w0 w1 w2)
  rw [R_i64_map] at y0
  rw [R_i64_map] at y1
  rw [R_u8_map] at y2
  have lt0 : ∀ x ∈ p0, x.block < W.heap.size := by obtain ⟨m, hm⟩ := h0; exact DataW.trod_lt m _ _ _ hm
  have lt1 : ∀ x ∈ p1, x.block < W.heap.size := by obtain ⟨m, hm⟩ := h1; exact DataW.trod_lt m _ _ _ hm
  have lt2 : ∀ x ∈ p2, x.block < W.heap.size := by obtain ⟨m, hm⟩ := h2; exact DataW.trod_lt m _ _ _ hm
  refine (calls_of_eval (T := told) (by kernel_rfl) ext_ok hk hT (.cons _ _ _ _ y0 (.cons _ _ _ _ y1 (.cons _ _ _ _ y2 .nil)))).mono fun e W' ⟨he, bel⟩ => ?_
  subst he
  exact ⟨_, rfl, _, _, _, [], _, [], hW', trodAll_mk1 (shut_bool Tryz.underlying4 _), (trodAll_cons_mk (Below.trod laidOut (by kernel_rfl) (of_decide_eq_true (by kernel_rfl)) h0 bel lt0) (trodAll_cons_mk (Below.trod laidOut (by kernel_rfl) (of_decide_eq_true (by kernel_rfl)) h1 bel lt1) (trodAll_cons_mk (Below.trod laidOut (by kernel_rfl) (of_decide_eq_true (by kernel_rfl)) h2 bel lt2) trodAll_mk0))), rfl, bel.frame _, fun h => by cases h⟩
theorem over : Rows.disFragsRow.holds Tryz.pinned (OpenSpec.ofChange Rows.disFragsSpec) :=
  OpenClaim.holds_of_wide 4 Tryz.f4 rfl rfl rfl rfl rfl rfl rfl ⟨rfl, rfl, rfl, rfl, rfl⟩ rfl rfl rfl rfl rfl (by kernel_rfl) Tryz.func4 (by kernel_rfl)
    (of_decide_eq_true (by kernel_rfl)) (by unfold Func.isWrapper; first | (rw [if_pos (by decide +kernel)]; kernel_rfl) | (rw [if_neg (by decide +kernel)]; exact ⟨rfl, rfl⟩))
    (fun os started H enc _ => lifted os started H enc)
theorem proved : Rows.DisFragsSaid := over
theorem card : Rows.DisFragsCardSaid :=
  Claim7.holds_tied_plain_at .later [] [.data, .data, .data, .listed, .data] true (true, "c6665a5671b2589f65b76f32388a5d43b9129fe7c56d5e2eb1ee1a399ca42f6a") false
    proved (fun _ h => by cases h) (by kernel_rfl) (fun _ h => by cases h) disFrags_row_tie rfl ⟨rfl, rfl⟩ (by kernel_rfl) rfl
    (fun f fn hf hfn => by
      obtain rfl : f = 4 := Option.some.inj ((show Tryz.prog.funcNamed Tryz.f4.name = some 4 by kernel_rfl).symm.trans hf) |>.symm
      obtain rfl : fn = Tryz.f4 := (Option.some.inj (Tryz.func4.symm.trans hfn)).symm
      exact ⟨by kernel_rfl, fun j t ht => by
        rw [Tryz.params4] at ht
        have hm : t ∈ [22, 22, 23] := by simpa using Array.mem_of_getElem? ht
        have hall : ([22, 22, 23].all fun u => !Tryz.prog.wantsStandIn u) = true := by kernel_rfl
        exact (show Tryz.prog.wantsStandIn t = false by simpa using List.all_eq_true.1 hall t hm)⟩)
    (by kernel_rfl)
end disFrags
theorem disFrags_holds : Rows.DisFragsCardSaid := disFrags.card
end Go.Proofs.YtpebnjoklniikaaGreatDoor
