/- Texts of this proof, one after the other; no conditions. -/
import Derived.Sort.OwnSortedInts
import Derived.Sort.EveryDepth
import Derived.Lib.SlicesCompact
import Derived.Lib.RowBridge
import Derived.Shelf.Slices.In.SortNone
import Derived.Test.YtjbebmealbnmgaaWB3
import Derived.Test.YtjbebmealbnmgaaWB4
import Derived.Test.YtjbebmealbnmgaaWB2
set_option linter.all false
/- Changes noted in a map, and their times. No program in sight. No conditions. -/
namespace Go.Step
open Go.Eng
theorem mget_mset (k v x : Int) : ∀ m : List (Int × Int), mget x (mset k v m) = if x = k then some v else mget x m
  | [] => by
    unfold mget mset midx
    by_cases h : x = k
    · simp [h]
    · simp [h, midx]
  | (a, w) :: m => by
    have ih := mget_mset k v x m
    unfold mget at ih ⊢
    by_cases hk : k = a
    · subst hk
      simp only [mset, if_true, midx]
      by_cases h : x = k <;> simp [h]
    · simp only [mset, if_neg hk, midx]
      by_cases h : x = a
      · subst h
        simp [Ne.symm hk]
      · simp only [if_neg h, Option.map_map]
        have e : ((fun p : Nat × Int => p.2) ∘ fun p : Nat × Int => (p.1 + 1, p.2)) = fun p => p.2 := rfl
        rw [e]
        exact ih
def noteT (m : List (Int × Int)) (T : List Int) (t : Int) : List Int := if mget t m = none then T ++ [t] else T
structure InvD (D : Int → Int) (T : List Int) (m : List (Int × Int)) : Prop where
  get : ∀ t, mget t m = if t ∈ T then some (D t) else none
  out : ∀ t, t ∉ T → D t = 0
  nd : T.Pairwise (· ≠ ·)
theorem InvD.zero : InvD (fun _ => 0) [] [] := ⟨fun t => rfl, fun _ _ => rfl, List.Pairwise.nil⟩
theorem InvD.val {D : Int → Int} {T : List Int} {m : List (Int × Int)} (h : InvD D T m) (t : Int) : (mget t m).getD 0 = D t := by
  rw [h.get t]
  split
  · rfl
  · rename_i hn; rw [h.out t hn]; rfl
theorem InvD.step {D : Int → Int} {T : List Int} {m : List (Int × Int)} (h : InvD D T m) (t d : Int) : InvD (fun x => D x + if x = t then d else 0) (noteT m T t) (mset t ((mget t m).getD 0 + d) m) ∧ (∀ x, x ∈ noteT m T t ↔ x ∈ T ∨ x = t) ∧ (noteT m T t).length ≤ T.length + 1 := by
  have hm : ∀ x, x ∈ noteT m T t ↔ x ∈ T ∨ x = t := fun x => by
    unfold noteT
    rw [h.get t]
    by_cases ht : t ∈ T
    · rw [if_pos ht, if_neg (by simp)]
      constructor
      · exact .inl
      · rintro (h | rfl) <;> assumption
    · rw [if_neg ht, if_pos rfl]; simp
  refine ⟨⟨fun x => ?_, fun x hx => ?_, ?_⟩, hm, ?_⟩
  · rw [mget_mset, h.val, h.get x]
    by_cases hx : x = t
    · subst hx
      rw [if_pos rfl, if_pos ((hm x).2 (.inr rfl))]; simp
    · rw [if_neg hx]
      by_cases hT : x ∈ T
      · rw [if_pos hT, if_pos ((hm x).2 (.inl hT))]; simp [hx]
      · rw [if_neg hT, if_neg (fun hh => by rcases (hm x).1 hh with h | h <;> contradiction)]
  · have hx1 : x ∉ T := fun hh => hx ((hm x).2 (.inl hh))
    have hx2 : x ≠ t := fun hh => hx ((hm x).2 (.inr hh))
    rw [h.out x hx1, if_neg hx2]; rfl
  · unfold noteT
    rw [h.get t]
    by_cases ht : t ∈ T
    · rw [if_pos ht, if_neg (by simp)]; exact h.nd
    · rw [if_neg ht, if_pos rfl]
      refine List.pairwise_append.2 ⟨h.nd, by simp, fun a ha b hb => ?_⟩
      simp at hb; subst hb
      intro e; subst e; exact ht ha
  · unfold noteT
    split <;> simp
theorem delta_snoc (n x : Int) (h : Hd) : ∀ l : List Hd, delta (l ++ [h]) n x = delta l n x + if h.n = n then (if h.a = x then h.s else 0) - (if h.b = x then h.s else 0) else 0
  | [] => by simp [delta]
  | g :: l => by
    have ih := delta_snoc n x h l
    simp only [List.cons_append, delta, ih]
    omega
theorem tmH_snoc (n x : Int) (h : Hd) (l : List Hd) : x ∈ tmH (l ++ [h]) n ↔ x ∈ tmH l n ∨ (h.n = n ∧ (x = h.a ∨ x = h.b)) := by
  rw [mem_tmH, mem_tmH]
  constructor
  · rintro ⟨g, hg, k⟩
    rcases List.mem_append.1 hg with hg | hg
    · exact .inl ⟨g, hg, k⟩
    · simp at hg; subst hg; exact .inr k
  · rintro (⟨g, hg, k⟩ | k)
    · exact ⟨g, by simp [hg], k⟩
    · exact ⟨h, by simp, k⟩
structure InvL (l : List Hd) (n : Int) (T : List Int) (m : List (Int × Int)) : Prop where
  d : InvD (delta l n) T m
  mem : ∀ x, x ∈ T ↔ x ∈ tmH l n
  len : T.length ≤ 2 * l.length
theorem InvL.zero (n : Int) : InvL [] n [] [] := ⟨InvD.zero, fun x => by simp [tmH], by simp⟩
theorem InvL.skip {l : List Hd} {n : Int} {T : List Int} {m : List (Int × Int)} {h : Hd} (H : InvL l n T m) (hn : h.n ≠ n) : InvL (l ++ [h]) n T m := by
  refine ⟨?_, fun x => ?_, by have := H.len; simp; omega⟩
  · have e : delta (l ++ [h]) n = delta l n := by funext x; rw [delta_snoc, if_neg hn]; omega
    rw [e]; exact H.d
  · rw [tmH_snoc, H.mem x]; simp [hn]
theorem InvL.note {l : List Hd} {n : Int} {T : List Int} {m : List (Int × Int)} {h : Hd} (H : InvL l n T m) (hn : h.n = n) :
    let m1 := mset h.a ((mget h.a m).getD 0 + h.s) m
    let T1 := noteT m T h.a
    InvL (l ++ [h]) n (noteT m1 T1 h.b) (mset h.b ((mget h.b m1).getD 0 + -h.s) m1) := by
  intro m1 T1
  obtain ⟨d1, e1, l1⟩ := H.d.step h.a h.s
  obtain ⟨d2, e2, l2⟩ := d1.step h.b (-h.s)
  refine ⟨?_, fun x => ?_, ?_⟩
  · have e : delta (l ++ [h]) n = fun x => (fun x => delta l n x + if x = h.a then h.s else 0) x + if x = h.b then -h.s else 0 := by
      funext x
      rw [delta_snoc, if_pos hn]
      dsimp only
      by_cases ha : h.a = x <;> by_cases hb : h.b = x
      · rw [if_pos ha, if_pos hb, if_pos ha.symm, if_pos hb.symm]; omega
      · rw [if_pos ha, if_neg hb, if_pos ha.symm, if_neg (fun e => hb e.symm)]; omega
      · rw [if_neg ha, if_pos hb, if_neg (fun e => ha e.symm), if_pos hb.symm]; omega
      · rw [if_neg ha, if_neg hb, if_neg (fun e => ha e.symm), if_neg (fun e => hb e.symm)]; omega
    rw [e]; exact d2
  · rw [e2, e1, tmH_snoc, H.mem x]
    constructor
    · rintro ((h | h) | h)
      · exact .inl h
      · exact .inr ⟨hn, .inl h⟩
      · exact .inr ⟨hn, .inr h⟩
    · rintro (h | ⟨_, h | h⟩)
      · exact .inl (.inl h)
      · exact .inl (.inr h)
      · exact .inr h
  · have := H.len
    show (noteT (mset h.a ((mget h.a m).getD 0 + h.s) m) (noteT m T h.a) h.b).length ≤ _
    rw [List.length_append, List.length_singleton]; omega
theorem InvL.sorted {l : List Hd} {n : Int} {T : List Int} {m : List (Int × Int)} (H : InvL l n T m) : (T.mergeSort fun x y => decide (x ≤ y)) = hts l n := by
  obtain ⟨h1, h2⟩ := hts_sa l n
  have hp : (T.mergeSort fun x y => decide (x ≤ y)).Pairwise (· ≤ ·) := by
    have := List.pairwise_mergeSort (le := fun x y : Int => decide (x ≤ y)) (by intro a b c h1 h2; simp at *; omega) (by intro a b; simp; omega) T
    exact this.imp (fun h => by simpa using h)
  have hn : (T.mergeSort fun x y => decide (x ≤ y)).Pairwise (· ≠ ·) := (List.mergeSort_perm T _).symm.pairwise H.d.nd (fun h => Ne.symm h)
  refine SA.unique ?_ h1 (fun x => ?_)
  · exact (hp.and hn).imp (fun ⟨a, b⟩ => by omega)
  · rw [List.mem_mergeSort, h2 x, H.mem x]
theorem stored_snoc (n t : Int) (h : Hd) : ∀ l : List Hd, stored (l ++ [h]) n t = stored l n t + if h.n = n ∧ h.a ≤ t ∧ t < h.b then h.s else 0
  | [] => by simp [stored]
  | g :: l => by
    have ih := stored_snoc n t h l
    simp only [List.cons_append, stored, ih]
    omega
def mostL (f : List Lv) : Int := f.foldl (fun n x => max n x.v) 0
theorem mostL_take {f : List Lv} {k : Nat} {x : Lv} (h : f[k]? = some x) : mostL (f.take (k + 1)) = max (mostL (f.take k)) x.v := by
  obtain ⟨hk, rfl⟩ := List.getElem?_eq_some_iff.1 h
  unfold mostL
  rw [List.take_succ_eq_append_getElem hk, List.foldl_append]; rfl
/-- the next time behind t -/
structure InvN (l : List Hd) (n t nx : Int) : Prop where
  no : nx < 0 → nx = -1 ∧ ∀ x ∈ tmH l n, x ≤ t
  yes : 0 ≤ nx → nx ∈ tmH l n ∧ t < nx ∧ ∀ x ∈ tmH l n, t < x → nx ≤ x
theorem InvN.zero (n t : Int) : InvN [] n t (-1) := ⟨fun _ => ⟨rfl, fun x hx => by simp [tmH] at hx⟩, fun h => by omega⟩
theorem InvN.skip {l : List Hd} {n t nx : Int} {h : Hd} (H : InvN l n t nx) (hn : h.n ≠ n) : InvN (l ++ [h]) n t nx := by
  refine ⟨fun k => ⟨(H.no k).1, fun x hx => ?_⟩, fun k => ⟨(tmH_snoc _ _ _ _).2 (.inl (H.yes k).1), (H.yes k).2.1, fun x hx => ?_⟩⟩
  · rcases (tmH_snoc _ _ _ _).1 hx with hx | hx
    · exact (H.no k).2 x hx
    · exact absurd hx.1 hn
  · rcases (tmH_snoc _ _ _ _).1 hx with hx | hx
    · exact (H.yes k).2.2 x hx
    · exact absurd hx.1 hn
def pickN (t nx x : Int) : Int := if t < x ∧ (nx < 0 ∨ x < nx) then x else nx
theorem InvN.note {l : List Hd} {n t nx : Int} {h : Hd} (H : InvN l n t nx) (hn : h.n = n) (h0 : 0 ≤ h.a ∧ 0 ≤ h.b) : InvN (l ++ [h]) n t (pickN t (pickN t nx h.a) h.b) := by
  have hm : ∀ x, x ∈ tmH (l ++ [h]) n ↔ x ∈ tmH l n ∨ x = h.a ∨ x = h.b := fun x => by rw [tmH_snoc]; simp [hn]
  unfold pickN
  by_cases c1 : t < h.a ∧ (nx < 0 ∨ h.a < nx)
  · rw [if_pos c1]
    by_cases c2 : t < h.b ∧ (h.a < 0 ∨ h.b < h.a)
    · rw [if_pos c2]
      refine ⟨fun k => by omega, fun _ => ⟨(hm _).2 (by simp), c2.1, fun x hx hx2 => ?_⟩⟩
      rcases (hm _).1 hx with hx | hx | hx
      · by_cases hk : nx < 0
        · have := (H.no hk).2 x hx; omega
        · have := (H.yes (by omega)).2.2 x hx hx2; omega
      · omega
      · omega
    · rw [if_neg c2]
      refine ⟨fun k => by omega, fun _ => ⟨(hm _).2 (by simp), c1.1, fun x hx hx2 => ?_⟩⟩
      rcases (hm _).1 hx with hx | hx | hx
      · by_cases hk : nx < 0
        · have := (H.no hk).2 x hx; omega
        · have := (H.yes (by omega)).2.2 x hx hx2; omega
      · omega
      · omega
  · rw [if_neg c1]
    by_cases c2 : t < h.b ∧ (nx < 0 ∨ h.b < nx)
    · rw [if_pos c2]
      refine ⟨fun k => by omega, fun _ => ⟨(hm _).2 (by simp), c2.1, fun x hx hx2 => ?_⟩⟩
      rcases (hm _).1 hx with hx | hx | hx
      · by_cases hk : nx < 0
        · have := (H.no hk).2 x hx; omega
        · have := (H.yes (by omega)).2.2 x hx hx2; omega
      · omega
      · omega
    · rw [if_neg c2]
      refine ⟨fun k => ⟨(H.no k).1, fun x hx => ?_⟩, fun k => ⟨(hm _).2 (.inl (H.yes k).1), (H.yes k).2.1, fun x hx hx2 => ?_⟩⟩
      · rcases (hm _).1 hx with hx | hx | hx
        · exact (H.no k).2 x hx
        · omega
        · omega
      · rcases (hm _).1 hx with hx | hx | hx
        · exact (H.yes k).2.2 x hx hx2
        · omega
        · omega
theorem SA.gap {ts : List Int} (h : SA ts) {k : Nat} (hk : k < ts.length) {x : Int} (hx : x ∈ ts) : (0 < k ∧ x ≤ ts.getD (k - 1) 0) ∨ ts[k] ≤ x := by
  obtain ⟨j, hj, rfl⟩ := List.getElem_of_mem hx
  have hp := List.pairwise_iff_getElem.1 h
  by_cases hjk : j < k
  · left
    refine ⟨by omega, ?_⟩
    rw [List.getD_eq_getElem?_getD, List.getElem?_eq_getElem (by omega : k - 1 < ts.length)]
    by_cases e : j = k - 1
    · subst e; simp
    · have := hp j (k - 1) hj (by omega) (by omega)
      simp; omega
  · right
    by_cases e : j = k
    · subst e; omega
    · have := hp k j hk hj (by omega)
      omega
theorem stored_next {l : List Hd} {n : Int} {nq : Nat} (hok : ∀ h ∈ l, okHd nq h) {k : Nat} (hk : k < (hts l n).length) : stored l n (hts l n)[k] = prevF (stored l n) (hts l n) k + delta l n (hts l n)[k] := by
  obtain ⟨h1, h2⟩ := hts_sa l n
  have hmem : ∀ h ∈ l, h.n = n → h.a ∈ hts l n ∧ h.b ∈ hts l n := fun h hl hn => ⟨(h2 _).2 (mem_tmH.2 ⟨h, hl, hn, .inl rfl⟩), (h2 _).2 (mem_tmH.2 ⟨h, hl, hn, .inr rfl⟩)⟩
  by_cases h0 : k = 0
  · subst h0
    have e : stored l n (-1) = 0 := stored_early (fun h hl hn => by have := (hok h hl).2.1; omega)
    have ht : (-1 : Int) < (hts l n)[0] := by
      obtain ⟨h, hl, hn, hx⟩ := mem_tmH.1 ((h2 _).1 (List.getElem_mem hk))
      have := (hok h hl).2.1
      rcases hx with hx | hx <;> omega
    have := stored_step ht (l := l) (n := n) (fun h hl hn => by
      have hv := (hok h hl).2.1
      obtain ⟨ma, mb⟩ := hmem h hl hn
      rcases h1.gap hk ma with g | g
      · omega
      · rcases h1.gap hk mb with g2 | g2
        · omega
        · omega)
    rw [this, e]; unfold prevF; rw [if_pos rfl]
  · have hk1 : k - 1 < (hts l n).length := by omega
    have hlt : (hts l n)[k - 1] < (hts l n)[k] := List.pairwise_iff_getElem.1 h1 (k - 1) k hk1 hk (by omega)
    have hd : (hts l n).getD (k - 1) 0 = (hts l n)[k - 1] := by rw [List.getD_eq_getElem?_getD, List.getElem?_eq_getElem hk1]; rfl
    unfold prevF
    rw [if_neg h0, hd]
    refine stored_step hlt (fun h hl hn => ?_)
    have hv := (hok h hl).2.1
    obtain ⟨ma, mb⟩ := hmem h hl hn
    have g := h1.gap hk ma
    have g2 := h1.gap hk mb
    rw [hd] at g g2
    omega
theorem hts_len (l : List Hd) (n : Int) {T : List Int} {m : List (Int × Int)} (H : InvL l n T m) : (hts l n).length ≤ 2 * l.length := by
  rw [← H.sorted, List.length_mergeSort]; exact H.len
def lastT (ts : List Int) (k : Nat) : Int := if k = 0 then -1 else ts.getD (k - 1) 0
theorem next_is {l : List Hd} {n nx : Int} {k : Nat} (h0 : ∀ x ∈ tmH l n, 0 ≤ x) (hk : k ≤ (hts l n).length) (H : InvN l n (lastT (hts l n) k) nx) : (nx < 0 → k = (hts l n).length) ∧ (0 ≤ nx → (hts l n)[k]? = some nx) := by
  obtain ⟨h1, h2⟩ := hts_sa l n
  have hlt : ∀ j, k ≤ j → ∀ hj : j < (hts l n).length, lastT (hts l n) k < (hts l n)[j] := fun j hkj hj => by
    unfold lastT
    split
    · have := h0 _ ((h2 _).1 (List.getElem_mem hj)); omega
    · rename_i hne
      rw [List.getD_eq_getElem?_getD, List.getElem?_eq_getElem (by omega : k - 1 < (hts l n).length)]
      exact List.pairwise_iff_getElem.1 h1 (k - 1) j (by omega) hj (by omega)
  constructor
  · intro hn
    by_cases e : k = (hts l n).length
    · exact e
    · exfalso
      have hk' : k < (hts l n).length := by omega
      have := (H.no hn).2 _ ((h2 _).1 (List.getElem_mem hk'))
      have := hlt k (by omega) hk'
      omega
  · intro hn
    obtain ⟨ym, yt, ymin⟩ := H.yes hn
    obtain ⟨j, hj, rfl⟩ := List.getElem_of_mem ((h2 _).2 ym)
    have hkj : k ≤ j := by
      by_cases hh : k ≤ j
      · exact hh
      · exfalso
        have hle : (hts l n)[j] ≤ lastT (hts l n) k := by
          unfold lastT
          rw [if_neg (by omega), List.getD_eq_getElem?_getD, List.getElem?_eq_getElem (by omega : k - 1 < (hts l n).length)]
          by_cases e : j = k - 1
          · subst e; simp
          · have := List.pairwise_iff_getElem.1 h1 j (k - 1) hj (by omega) (by omega)
            simp; omega
        omega
    have hkl : k < (hts l n).length := by omega
    have := ymin _ ((h2 _).1 (List.getElem_mem hkl)) (hlt k (by omega) hkl)
    by_cases e : j = k
    · subst e; rw [List.getElem?_eq_getElem hj]
    · have := List.pairwise_iff_getElem.1 h1 k j hkl hj (by omega)
      omega
end Go.Step
/- What a node stores, by a map of changes. -/
namespace Go.Proofs.Ytjbebmealbnmgaa
open Go.Eng Go.Step
set_option maxRecDepth 100000
set_option maxHeartbeats 4000000

set_option maxHeartbeats 16000000 in
theorem note_spec (bm bt b : Nat) (m : List (Int × Int)) (T : List Int) (u : Value) (σ : PH) (t d : Int) (hO : OwnS 3 1 u T.length (T.flatMap Eng.encI) σ) (hT : T.length ≤ 100000) (hd : -4611686018427387904 ≤ (mget t m).getD 0 + d ∧ (mget t m).getD 0 + d ≤ 4611686018427387904) :
    Eng.Spec Try.prog (.func (.func 94) #[] #[.pointer (some ⟨bm, 0, none⟩), .pointer (some ⟨bt, 0, none⟩)]) [int t, int d] [] [sng bm (.cells #[.map (some b)] 139 (0, 0)), sng b (mapO m), sng bt (.cells #[u] 22 (0, 0)), σ]
      (fun r H' => r = .tuple #[] ∧ ∃ u' σ', OwnS 3 1 u' (noteT m T t).length ((noteT m T t).flatMap Eng.encI) σ' ∧ H' = [sng bm (.cells #[.map (some b)] 139 (0, 0)), sng b (mapO (mset t ((mget t m).getD 0 + d) m)), sng bt (.cells #[u'] 22 (0, 0)), σ']) := by
  obtain ⟨pu, cu, rfl⟩ := SlAt.cap hO.at
  refine spec_in (cap := [.pointer (some ⟨bm, 0, none⟩), .pointer (some ⟨bt, 0, none⟩)]) Try.func94 rfl rfl Try.ntmps94 rfl (by (repeat (first | exact EnvA.nil EnvI.nil | apply EnvA.cons | apply EnvA.nil | exact EnvI.nil | apply EnvI.cons)); first | done | fail) (fun N β => ?_)
  unfold noteT
  cases hm : mget t m with
  | some w =>
    rw [hm] at hd
    rw [if_neg (by simp)]
    refine jk_seq ?_
    refine jk_seq ?_
    refine jk_region ?_
    refine zq_load ?_
    refine zq_move ?_
    focus ((refine' jk_q _ rfl rfl rfl _; rotate_left; (apply q_lookup2 (l := m); exact rfl; exact rfl; exact rfl; exact rfl; exact rfl; exact mapAt_own memZ); rw [hm]))
    refine zq_move ?_
    refine zq_extract ?_
    refine zq_extract ?_
    refine zq_assign ?_
    refine zq_assign ?_
    refine jk_nil ?_
    refine jk_seq ?_
    refine jk_region ?_
    refine zq_move ?_
    refine zq_not ?_
    refine jk_nil ?_
    refine jk_if_f rfl ?_
    refine jk_skip ?_
    refine jk_region ?_
    refine zq_load ?_
    refine zq_move ?_
    focus ((refine' jk_q _ rfl rfl rfl _; rotate_left; (apply q_lookup (l := m); exact rfl; exact rfl; exact rfl; exact rfl; exact rfl; exact mapAt_own memZ); rw [hm]))
    refine zq_move ?_
    refine zq_add ?_
    focus ((refine' jk_op_none _ rfl rfl _; rotate_left; (apply l_mapUpdate (l := m); exact rfl; exact rfl; exact rfl; exact rfl; exact rfl; exact takeZ); rintro _ _ ⟨rfl, rfl⟩))
    refine jk_nil ?_
    exact jk_end_any (res0 rfl) (by (repeat (first | exact rs_nil | (refine rs_cons ?_ ?_; (focus ((repeat (first | exact .here | apply Mem.there | apply Take.there)); first | done | fail))) | exact fun ρ hρ => hρ | (intro ρ hρ; repeat (first | exact hρ | refine List.mem_cons_of_mem _ ?_)))); first | done | fail) selZ ⟨rfl, _, _, hO, rfl⟩
  | none =>
    rw [hm] at hd
    rw [if_pos rfl]
    refine jk_seq ?_
    refine jk_seq ?_
    refine jk_region ?_
    refine zq_load ?_
    refine zq_move ?_
    focus ((refine' jk_q _ rfl rfl rfl _; rotate_left; (apply q_lookup2 (l := m); exact rfl; exact rfl; exact rfl; exact rfl; exact rfl; exact mapAt_own memZ); rw [hm]))
    refine zq_move ?_
    refine zq_extract ?_
    refine zq_extract ?_
    refine zq_assign ?_
    refine zq_assign ?_
    refine jk_nil ?_
    refine jk_seq ?_
    refine jk_region ?_
    refine zq_move ?_
    refine zq_not ?_
    refine jk_nil ?_
    refine jk_if_t rfl ?_
    refine jk_region ?_
    refine zq_load ?_
    refine zq_move ?_
    refine zl_buildSlice ?_; rintro _ _ ⟨b, rfl, rfl⟩
    refine jk_op (l_append (by_ := 8) (s := 1) (news := [int t]) rfl rfl rfl rfl rfl rfl rfl hO takeZ (cells_own memZ) rfl (by (repeat (first | exact (fun v hv => absurd hv List.not_mem_nil) | (refine List.forall_mem_cons.2 ⟨?_, ?_⟩; (focus (first | exact rfl | assumption))))); first | done | fail) (by omega) (by simp only [maxLen]; omega) (by omega)) rfl rfl rfl ?_
    rintro u1 _ ⟨σ1, hO1, rfl⟩
    have hu1 : u1.oneCell' = true := by obtain ⟨p, c, rfl⟩ := SlAt.cap hO1.at; rfl
    refine zs_storeL ?_; rintro _ _ ⟨rfl, rfl⟩
    refine jk_nil ?_
    refine jk_region ?_
    refine zq_load ?_
    refine zq_move ?_
    focus ((refine' jk_q _ rfl rfl rfl _; rotate_left; (apply q_lookup (l := m); exact rfl; exact rfl; exact rfl; exact rfl; exact rfl; exact mapAt_own memZ); rw [hm]))
    refine zq_move ?_
    refine zq_add ?_
    focus ((refine' jk_op_none _ rfl rfl _; rotate_left; (apply l_mapUpdate (l := m); exact rfl; exact rfl; exact rfl; exact rfl; exact rfl; exact takeZ); rintro _ _ ⟨rfl, rfl⟩))
    refine jk_nil ?_
    refine jk_end_any (res0 rfl) (by (repeat (first | exact rs_nil | (refine rs_cons ?_ ?_; (focus ((repeat (first | exact .here | apply Mem.there | apply Take.there)); first | done | fail))) | exact fun ρ hρ => hρ | (intro ρ hρ; repeat (first | exact hρ | refine List.mem_cons_of_mem _ ?_)))); first | done | fail) selZ ⟨rfl, u1, σ1, ?_, rfl⟩
    rw [List.length_append, List.flatMap_append]
    exact hO1
end Go.Proofs.Ytjbebmealbnmgaa
/- The library's sort of numbers, as a contract of this engine. No conditions. -/
namespace Go.Eng
open Go.Sort
theorem calls_v {P : Program} {f : FuncId} {fn : Func} {c : Code} {args : List Value} {w : World} {R : Value → World → Prop} (hf : P.funcs[f]? = some fn) (hb : fn.body = some c) (hname : (fn.name == "runtime.NumGoroutine") = false)
    (h : Calls P f args.toArray w (fun e w' => ∃ v, e = .returned v ∧ R v w')) : CallsV P (fv f) args w R := by
  unfold CallsV
  have hrun : ((do let d ← Deferred.ofValue (fv f) args.toArray; invoke d.target d.args : Sem Next).run P w) = .ok (.enter f args.toArray) w := by
    have hname' : ¬ fn.name = "runtime.NumGoroutine" := by simpa using hname
    simp [Deferred.ofValue, invoke, callFunc, program, Sem.run, bind, Sem.bind, pure, hf, hb, hname']
  rw [hrun]
  exact callsIn_wide.2 h
abbrev sortd (l : List Int) : List Int := l.mergeSort fun x y => decide (x ≤ y)
theorem flatI (l : List Int) : l.flatMap encI = l.map (Value.int .i64) := by induction l <;> simp_all [encI]
theorem sortI_of {P : Program} {f : FuncId} {fn : Func} {c : Code} (hf : P.funcs[f]? = some fn) (hb : fn.body = some c) (hname : (fn.name == "runtime.NumGoroutine") = false)
    (hany : ∀ (blk cap : Nat) (zs : List Int) (w : World), Holds (Value.int .i64) w blk 0 zs.toArray → blk < w.heap.size → zs.length < 4611686018427387904 →
      Calls P f #[.slice (some ⟨blk, 0, none⟩) zs.length cap] w (fun e w' => e = .returned (.tuple #[]) ∧ ∃ n os, w' = grow (putRow (Value.int .i64) (Sort.ahead w n) blk 0 (sortd zs).toArray) os))
    (hnone : ∀ (p : Option Addr) (cap : Nat) (w : World), Calls P f #[.slice p 0 cap] w (fun e w' => e = .returned (.tuple #[]) ∧ w' = w))
    {e : TypeId} {σ : PH} {v : Value} {l : List Int} (hO : OwnS e 1 v l.length (l.flatMap encI) σ) (hl : l.length < 4611686018427387904) :
    Spec P (fv f) [v] [] [σ] (fun r H' => r = .tuple #[] ∧ ∃ σ', OwnS e 1 v (sortd l).length ((sortd l).flatMap encI) σ' ∧ H' = [σ']) := by
  have hsl : (sortd l).length = l.length := List.length_mergeSort ..
  intro N w hs
  obtain ⟨β, hsat, hup⟩ := exists_base hs
  rcases hO.block with ⟨rfl, rfl, rfl⟩ | ⟨b, cap, cur, rfl, rfl, h1, h2, h3, h4⟩
  · refine calls_v hf hb hname (Calls.mono (hnone none 0 w) ?_)
    rintro _ _ ⟨rfl, rfl⟩
    exact ⟨_, rfl, [emp], ⟨rfl, emp, by simpa [sortd] using OwnS.nil e 1, rfl⟩, hup _ _ hsat⟩
  · have hg : w.heap[b]? = some (.cells cur e (0, 0)) := hs.own .here
    have hblt : b < w.heap.size := (Array.getElem?_eq_some_iff.1 hg).1
    rw [Nat.mul_one, flatI] at h4
    rw [Nat.mul_one] at h3
    have hH : Holds (Value.int .i64) w b 0 l.toArray := by
      intro j hj
      simp only [List.size_toArray] at hj
      have hj' : (cur.toList.take l.length)[j]? = some (Value.int .i64 l[j]) := by rw [h4, List.getElem?_map, List.getElem?_eq_getElem hj]; rfl
      rw [List.getElem?_take_of_lt hj, Array.getElem?_toList] at hj'
      refine ⟨?_, ?_⟩
      · rw [cell_of_row w b _ cur e (0, 0) hg, Nat.zero_add, hj']
        simp [hj]
      · simp [World.frozen?, hg]
    refine calls_v hf hb hname (Calls.mono (hany b cap l w hH hblt hl) ?_)
    rintro _ _ ⟨rfl, n, os, rfl⟩
    have hheap : (grow (putRow (Value.int .i64) (Sort.ahead w n) b 0 (sortd l).toArray) os).heap = (w.heap.modify b (onCells (putCells (Value.int .i64) 0 (sortd l).toArray))) ++ os := rfl
    refine ⟨_, rfl, [sng b (.cells (putCells (Value.int .i64) 0 (sortd l).toArray cur) e (0, 0))], ⟨rfl, _, ⟨by rw [flat_len encI_len], .inr ⟨b, cap, _, by rw [hsl], rfl, by omega, h2, ?_, ?_⟩⟩, rfl⟩, ?_⟩
    · simp [putCells, h3]
    · rw [flatI, Nat.mul_one]
      exact take_putCellsI cur (sortd l) (by rw [hsl, h3]; exact h1)
    · refine ⟨⟨?_, rfl, rfl, rfl⟩, fun k hk hno => ?_, fun ρ hρ => ?_, by simp, fun ρ hρ k hk => ?_⟩
      · rw [hheap]; simp
      · have hne : k ≠ b := fun e => by
          subst e
          have := hno (sng k (.cells cur e (0, 0))) (by simp)
          simp [sng_self] at this
        rw [hheap, Array.getElem?_append_left (by simpa using hk), Array.getElem?_modify, if_neg (Ne.symm hne)]
      · simp at hρ; subst hρ
        intro k o hk
        obtain ⟨rfl, rfl⟩ := sng_some hk
        rw [hheap, Array.getElem?_append_left (by simpa using hblt), Array.getElem?_modify, if_pos rfl, hg]
        rfl
      · simp at hρ; subst hρ
        left
        refine ⟨sng b (.cells cur e (0, 0)), by simp, ?_⟩
        cases hks : sng b (Obj.cells (putCells (Value.int .i64) 0 (sortd l).toArray cur) e (0, 0)) k with
        | none => exact absurd hks hk
        | some o =>
          obtain ⟨rfl, _⟩ := sng_some hks
          simp [sng_self]
end Go.Eng
namespace Go.Eng
open Go.Sort
theorem compactI_of {P : Program} {f : FuncId} {fn : Func} {c : Code} (hf : P.funcs[f]? = some fn) (hb : fn.body = some c) (hname : (fn.name == "runtime.NumGoroutine") = false)
    (hany : ∀ (blk cap : Nat) (zs : List Int) (w : World), Holds (Value.int .i64) w blk 0 zs.toArray → zs.length ≤ 9223372036854775807 → zs.length ≤ cap →
      Calls P f #[.slice (some ⟨blk, 0, none⟩) zs.length cap] w (fun e w' => e = .returned (.slice (some ⟨blk, 0, none⟩) (Lib.compact zs).length cap) ∧ ∃ q, w' = putRow (Value.int .i64) (Sort.ahead w q) blk 0 (Lib.compact zs ++ List.replicate (zs.length - (Lib.compact zs).length) 0).toArray))
    (hnone : ∀ (p : Option Addr) (cap : Nat) (w : World), Calls P f #[.slice p 0 cap] w (fun e w' => e = .returned (.slice p 0 cap) ∧ w' = w))
    {e : TypeId} {σ : PH} {v : Value} {l : List Int} (hO : OwnS e 1 v l.length (l.flatMap encI) σ) (hl : l.length ≤ 9223372036854775807) :
    Spec P (fv f) [v] [] [σ] (fun r H' => ∃ σ', OwnS e 1 r (Lib.compact l).length ((Lib.compact l).flatMap encI) σ' ∧ H' = [σ']) := by
  have hcl : (Lib.compact l).length ≤ l.length := Lib.compact_length_le l
  intro N w hs
  obtain ⟨β, hsat, hup⟩ := exists_base hs
  rcases hO.block with ⟨rfl, rfl, rfl⟩ | ⟨b, cap, cur, rfl, rfl, h1, h2, h3, h4⟩
  · refine calls_v hf hb hname (Calls.mono (hnone none 0 w) ?_)
    rintro _ _ ⟨rfl, rfl⟩
    exact ⟨_, rfl, [emp], ⟨emp, OwnS.nil e 1, rfl⟩, hup _ _ hsat⟩
  · have hg : w.heap[b]? = some (.cells cur e (0, 0)) := hs.own .here
    have hblt : b < w.heap.size := (Array.getElem?_eq_some_iff.1 hg).1
    rw [Nat.mul_one, flatI] at h4
    rw [Nat.mul_one] at h3
    have hH : Holds (Value.int .i64) w b 0 l.toArray := by
      intro j hj
      simp only [List.size_toArray] at hj
      have hj' : (cur.toList.take l.length)[j]? = some (Value.int .i64 l[j]) := by rw [h4, List.getElem?_map, List.getElem?_eq_getElem hj]; rfl
      rw [List.getElem?_take_of_lt hj, Array.getElem?_toList] at hj'
      refine ⟨?_, ?_⟩
      · rw [cell_of_row w b _ cur e (0, 0) hg, Nat.zero_add, hj']
        simp [hj]
      · simp [World.frozen?, hg]
    refine calls_v hf hb hname (Calls.mono (hany b cap l w hH hl h1) ?_)
    rintro _ _ ⟨rfl, n, rfl⟩
    generalize hnew : Lib.compact l ++ List.replicate (l.length - (Lib.compact l).length) 0 = new
    have hnl : new.length = l.length := by rw [← hnew]; simp; omega
    have hheap : (putRow (Value.int .i64) (Sort.ahead w n) b 0 new.toArray).heap = w.heap.modify b (onCells (putCells (Value.int .i64) 0 new.toArray)) := rfl
    refine ⟨_, rfl, [sng b (.cells (putCells (Value.int .i64) 0 new.toArray cur) e (0, 0))], ⟨_, ⟨by rw [flat_len encI_len], .inr ⟨b, cap, _, rfl, rfl, by omega, h2, ?_, ?_⟩⟩, rfl⟩, ?_⟩
    · simp [putCells, h3]
    · have ht := take_putCellsI cur new (by rw [hnl, h3]; exact h1)
      have := congrArg (List.take (Lib.compact l).length) ht
      rw [List.take_take, Nat.min_eq_left (by omega), ← List.map_take, ← hnew, List.take_left] at this
      rw [flatI, Nat.mul_one, ← this, hnew]
    · refine ⟨⟨?_, rfl, rfl, rfl⟩, fun k hk hno => ?_, fun ρ hρ => ?_, by simp, fun ρ hρ k hk => ?_⟩
      · rw [hheap]; simp
      · have hne : k ≠ b := fun e => by
          subst e
          have := hno (sng k (.cells cur e (0, 0))) (by simp)
          simp [sng_self] at this
        rw [hheap, Array.getElem?_modify, if_neg (Ne.symm hne)]
      · simp at hρ; subst hρ
        intro k o hk
        obtain ⟨rfl, rfl⟩ := sng_some hk
        rw [hheap, Array.getElem?_modify, if_pos rfl, hg]
        rfl
      · simp at hρ; subst hρ
        left
        refine ⟨sng b (.cells cur e (0, 0)), by simp, ?_⟩
        cases hks : sng b (Obj.cells (putCells (Value.int .i64) 0 new.toArray cur) e (0, 0)) k with
        | none => exact absurd hks hk
        | some o =>
          obtain ⟨rfl, _⟩ := sng_some hks
          simp [sng_self]
end Go.Eng
/- The levels of a node, of the program. -/
namespace Go.Proofs
open Go.Shelf
def Try.laysSort_ren : Go.Shelf.Ren := ⟨fun | 189 => 95 | 125 => 98 | 257 => 97 | 128 => 108 | 129 => 109 | 294 => 99 | 295 => 100 | 296 => 101 | 297 => 102 | 298 => 103 | 299 => 104 | 216 => 105 | 300 => 106 | 301 => 107 | 328 => 110 | 329 => 111 | 330 => 112 | 331 => 113 | 332 => 114 | 215 => 96 | 343 => 115 | n => n, fun | 28 => 22 | 3 => 3 | 46 => 144 | 0 => 0 | 51 => 154 | 53 => 156 | 4 => 4 | 183 => 147 | 182 => 146 | 131 => 130 | 5 => 5 | 9 => 9 | 218 => 157 | 222 => 161 | 228 => 163 | 229 => 164 | n => n, fun | n => n⟩
theorem Try.laysSort : Go.Proofs.Lays.n189 Try.prog Try.laysSort_ren := {
  mixed := by kernel_rfl
  f125 := Try.func98.trans (congrArg some (by kernel_rfl))
  f128 := Try.func108.trans (congrArg some (by kernel_rfl))
  f129 := Try.func109.trans (congrArg some (by kernel_rfl))
  f189 := Try.func95.trans (congrArg some (by kernel_rfl))
  f215 := Try.func96.trans (congrArg some (by kernel_rfl))
  f216 := Try.func105.trans (congrArg some (by kernel_rfl))
  f257 := Try.func97.trans (congrArg some (by kernel_rfl))
  f294 := Try.func99.trans (congrArg some (by kernel_rfl))
  f295 := Try.func100.trans (congrArg some (by kernel_rfl))
  f296 := Try.func101.trans (congrArg some (by kernel_rfl))
  f297 := Try.func102.trans (congrArg some (by kernel_rfl))
  f298 := Try.func103.trans (congrArg some (by kernel_rfl))
  f299 := Try.func104.trans (congrArg some (by kernel_rfl))
  f300 := Try.func106.trans (congrArg some (by kernel_rfl))
  f301 := Try.func107.trans (congrArg some (by kernel_rfl))
  f328 := Try.func110.trans (congrArg some (by kernel_rfl))
  f329 := Try.func111.trans (congrArg some (by kernel_rfl))
  f330 := Try.func112.trans (congrArg some (by kernel_rfl))
  f331 := Try.func113.trans (congrArg some (by kernel_rfl))
  f332 := Try.func114.trans (congrArg some (by kernel_rfl))
  f343 := Try.func115.trans (congrArg some (by kernel_rfl))
  t0 := Try.underlying0
  a0 := Try.isAgg0
  z0 := Try.sizeOf0
  v0 := Try.zeroValue0
  t3 := Try.underlying3
  a3 := Try.isAgg3
  z3 := Try.sizeOf3
  v3 := Try.zeroValue3
  t4 := Try.underlying4
  a4 := Try.isAgg4
  z4 := Try.sizeOf4
  v4 := Try.zeroValue4
  t5 := Try.underlying5
  a5 := Try.isAgg5
  z5 := Try.sizeOf5
  v5 := Try.zeroValue5
  t9 := Try.underlying9
  a9 := Try.isAgg9
  z9 := Try.sizeOf9
  v9 := Try.zeroValue9
  t28 := Try.underlying22
  a28 := Try.isAgg22
  z28 := Try.sizeOf22
  v28 := Try.zeroValue22
  t46 := Try.underlying144
  a46 := Try.isAgg144
  z46 := Try.sizeOf144
  v46 := Try.zeroValue144
  t51 := Try.underlying154
  a51 := Try.isAgg154
  z51 := Try.sizeOf154
  v51 := Try.zeroValue154
  t53 := Try.underlying156
  a53 := Try.isAgg156
  z53 := Try.sizeOf156
  v53 := Try.zeroValue156
  t131 := Try.underlying130
  a131 := Try.isAgg130
  z131 := Try.sizeOf130
  v131 := Try.zeroValue130
  t182 := Try.underlying146
  a182 := Try.isAgg146
  z182 := Try.sizeOf146
  v182 := Try.zeroValue146
  t183 := Try.underlying147
  a183 := Try.isAgg147
  z183 := Try.sizeOf147
  v183 := Try.zeroValue147
  t218 := Try.underlying157
  a218 := Try.isAgg157
  z218 := Try.sizeOf157
  v218 := Try.zeroValue157
  t222 := Try.underlying161
  a222 := Try.isAgg161
  z222 := Try.sizeOf161
  v222 := Try.zeroValue161
  t228 := Try.underlying163
  a228 := Try.isAgg163
  z228 := Try.sizeOf163
  v228 := Try.zeroValue163
  t229 := Try.underlying164
  a229 := Try.isAgg164
  z229 := Try.sizeOf164
  v229 := Try.zeroValue164 }
end Go.Proofs
namespace Go.Proofs.Ytjbebmealbnmgaa
open Go.Eng Go.Step
set_option maxRecDepth 100000
set_option maxHeartbeats 4000000

theorem sortI_spec (σ : PH) (v : Value) (l : List Int) (hO : OwnS 3 1 v l.length (l.flatMap Eng.encI) σ) (hl : l.length ≤ 1000000) :
    Eng.Spec Try.prog (fv 95) [v] [] [σ] (fun r H' => r = .tuple #[] ∧ ∃ σ', OwnS 3 1 v (sortd l).length ((sortd l).flatMap Eng.encI) σ' ∧ H' = [σ']) :=
  sortI_of (f := 95) Try.func95 rfl rfl
    (fun blk cap zs w hH hb hl => calls_of_every_depth (fun D => Go.Proofs.AnyS.slices_Sort_int_alone Try.laysSort D blk 0 cap zs w hH hb hl))
    (fun p cap w => calls_of_every_depth (fun D => Go.Proofs.AnyS.slices_Sort_int_none_alone Try.laysSort D p cap w)) hO (by omega)
def encV (l : Lv) : List Value := [int l.a, int l.v]
theorem encV_len (l : Lv) : (encV l).length = 2 := rfl
abbrev LvAt (ρ : PH) (v : Value) (f : List Lv) : Prop := SlE encV 2 ρ v f
set_option maxHeartbeats 16000000 in
theorem levels_spec (ρ : PH) (v : Value) (l : List Hd) (n : Int) (nq : Nat) (hv : HdAt ρ v l) (hok : ∀ h ∈ l, okHd nq h) (hl : l.length ≤ 600) :
    Makes Try.prog (fv 80) [v, int n] [ρ] (fun r σ => OwnS 138 2 r (lvH l n).length ((lvH l n).flatMap encV) σ) := by
  obtain ⟨q, c, rfl, hr⟩ := hv.val encH_len
  refine spec_in (cap := []) Try.func80 rfl rfl Try.ntmps80 rfl (by (repeat (first | exact EnvA.nil EnvI.nil | apply EnvA.cons | apply EnvA.nil | exact EnvI.nil | apply EnvI.cons)); first | done | fail) (fun N β => ?_)
  refine jk_emp ?_
  refine jk_emp ?_
  refine jk_seq ?_
  refine jk_region ?_
  refine zq_assign ?_
  refine jk_nil ?_
  refine jk_seq ?_
  refine jk_region ?_
  focus ((refine' jk_op _ rfl rfl rfl _; rotate_left; (exact l_makeMap); rintro _ _ ⟨bb, rfl, rfl⟩))
  refine zl_alloc1 ?_; rintro _ _ ⟨b, rfl, rfl⟩
  refine zs_storeL ?_; rintro _ _ ⟨rfl, rfl⟩
  refine jk_nil ?_
  refine jk_seq ?_
  refine jk_region ?_
  refine zl_alloc1 ?_; rintro _ _ ⟨b, rfl, rfl⟩
  refine jk_nil ?_
  refine jk_seq ?_
  refine jk_region ?_
  refine zq_makeFunc ?_
  refine zq_assign ?_
  refine jk_nil ?_
  refine jk_seq ?_
  refine jk_seq ?_
  refine jk_region ?_
  refine zq_move ?_
  refine zq_len ?_
  refine zq_move ?_
  refine jk_nil ?_
  refine jk_block ?_
  revert b; intro bt
  revert b; intro bm
  refine jk_loop [1, 5, 6, 7, 16, 17] (X := Nat × (List (Int × Int) × (List Int × (Value × PH)))) (0, ([], ([], (.slice none 0 0, emp)))) (fun x => x.1 ≤ l.length ∧ InvL (l.take x.1) n x.2.2.1 x.2.1 ∧ OwnS 3 1 x.2.2.2.1 x.2.2.1.length (x.2.2.1.flatMap Eng.encI) x.2.2.2.2) (fun x => [(18, int x.1)]) (fun x => [sng bm (.cells #[.map (some bb)] 139 (0, 0)), sng bb (mapO x.2.1), sng bt (.cells #[x.2.2.2.1] 22 (0, 0)), x.2.2.2.2, emp]) (fun x => l.length - x.1)
    pickZ ⟨by dsimp only; omega, InvL.zero n, OwnS.nil _ _⟩ covZ selZ ?_
  rintro ⟨k, m, T, u, σ⟩ ⟨hk, hI, hO⟩
  dsimp only at hk hI hO ⊢
  by_cases hlt : k < l.length
  · have hx := List.getElem?_eq_getElem hlt
    have hh := hok _ (List.getElem_mem hlt)
    obtain ⟨b2, o2, rfl, hrd⟩ := hdRow hr hx
    have htk : l.take (k + 1) = l.take k ++ [l[k]] := List.take_succ_eq_append_getElem hlt
    have hTl := hI.len
    rw [List.length_take, Nat.min_eq_left hk] at hTl
    have hdb : ∀ t, -39321600 ≤ delta (l.take k) n t ∧ delta (l.take k) n t ≤ 39321600 := fun t => by
      have := delta_bd (n := n) (t := t) (l := l.take k) (fun h hm => hok h (List.mem_of_mem_take hm))
      rw [List.length_take, Nat.min_eq_left hk] at this
      omega
    obtain ⟨hh1, hh2, hh3, hh4⟩ := hh
    generalize l[k] = h at hrd htk hh1 hh2 hh3 hh4
    by_cases hn : h.n = n
    · have hI2 := hI.note hn
      rw [← htk] at hI2
      obtain ⟨d1, _, l1⟩ := hI.d.step h.a h.s
      have hv1 := hI.d.val h.a
      have hv2 := d1.val h.b
      have b1 := hdb h.a
      have b2' := hdb h.b
      have r1 : -4611686018427387904 ≤ (mget h.a m).getD 0 + h.s ∧ (mget h.a m).getD 0 + h.s ≤ 4611686018427387904 := by rw [hv1]; omega
      have r2 : -4611686018427387904 ≤ (mget h.b (mset h.a ((mget h.a m).getD 0 + h.s) m)).getD 0 + -h.s ∧ (mget h.b (mset h.a ((mget h.a m).getD 0 + h.s) m)).getD 0 + -h.s ≤ 4611686018427387904 := by
        rw [hv2]
        split <;> omega
      refine jk_seq ?_
      refine jk_region ?_
      refine zq_lt ?_
      refine jk_nil ?_
      refine jk_seq ?_
      refine jk_if_t rfl ?_
      refine jk_skip ?_
      refine jk_seq ?_
      refine jk_block ?_
      refine jk_seq ?_
      refine jk_region ?_
      refine zq_idxN ?_
      refine zq_loadS ?_
      refine zl_allocS ?_; rintro _ _ ⟨b, rfl, rfl⟩
      refine zs_storeS ?_; rintro _ _ ⟨rfl, rfl⟩
      refine jk_nil ?_
      refine jk_seq ?_
      refine jk_region ?_
      refine zq_fld0 ?_
      refine zq_load ?_
      refine zq_move ?_
      refine zq_eq ?_
      refine jk_nil ?_
      refine jk_if_t rfl ?_
      refine jk_seq ?_
      refine jk_region ?_
      refine zq_move ?_
      refine zq_fld0 ?_
      refine zq_load ?_
      refine zq_fld0 ?_
      refine zq_load ?_
      refine jk_callH (note_spec bm bt bb m T u σ h.a h.s hO (by omega) r1) rfl rfl (by (repeat (first | exact Takes.nil | (apply Takes.cons; exact (by (repeat (first | exact .here | apply Take.there)); first | done | fail)))); first | done | fail) (fun τ hτ => by simp at hτ) rfl rfl ?_
      rintro _ _ ⟨rfl, u1, σ1, hO1, rfl⟩
      refine jk_nil ?_
      refine jk_region ?_
      refine zq_move ?_
      refine zq_fld0 ?_
      refine zq_load ?_
      refine zq_fld0 ?_
      refine zq_load ?_
      refine zq_neg ?_
      refine jk_callH (note_spec bm bt bb _ _ u1 σ1 h.b (-h.s) hO1 (by omega) r2) rfl rfl (by (repeat (first | exact Takes.nil | (apply Takes.cons; exact (by (repeat (first | exact .here | apply Take.there)); first | done | fail)))); first | done | fail) (fun τ hτ => by simp at hτ) rfl rfl ?_
      rintro _ _ ⟨rfl, u2, σ2, hO2, rfl⟩
      refine jk_nil ?_
      refine jk_blk ?_
      refine jk_region ?_
      refine zq_inc ?_
      refine zq_move ?_
      refine jk_nil ?_
      exact jk_round (k + 1, (_, (_, (u2, σ2)))) ⟨by dsimp only; omega, hI2, hO2⟩ (by dsimp only; omega) covZ selZ
    · have hI2 := hI.skip hn
      rw [← htk] at hI2
      refine jk_seq ?_
      refine jk_region ?_
      refine zq_lt ?_
      refine jk_nil ?_
      refine jk_seq ?_
      refine jk_if_t rfl ?_
      refine jk_skip ?_
      refine jk_seq ?_
      refine jk_block ?_
      refine jk_seq ?_
      refine jk_region ?_
      refine zq_idxN ?_
      refine zq_loadS ?_
      refine zl_allocS ?_; rintro _ _ ⟨b, rfl, rfl⟩
      refine zs_storeS ?_; rintro _ _ ⟨rfl, rfl⟩
      refine jk_nil ?_
      refine jk_seq ?_
      refine jk_region ?_
      refine zq_fld0 ?_
      refine zq_load ?_
      refine zq_move ?_
      refine zq_eqF ?_
      refine jk_nil ?_
      refine jk_if_f rfl ?_
      refine jk_skip ?_
      refine jk_blk ?_
      refine jk_region ?_
      refine zq_inc ?_
      refine zq_move ?_
      refine jk_nil ?_
      exact jk_round (k + 1, (m, (T, (u, σ)))) ⟨by dsimp only; omega, hI2, hO⟩ (by dsimp only; omega) covZ selZ
  have hke : k = l.length := by omega
  subst hke
  rw [List.take_length] at hI
  have hTl := hI.len
  have hs := hI.sorted
  have htl := hts_len l n hI
  obtain ⟨pu, cu, rfl⟩ := SlAt.cap hO.at
  refine jk_seq ?_
  refine jk_region ?_
  refine zq_ltF ?_
  refine jk_nil ?_
  refine jk_seq ?_
  refine jk_if_f rfl ?_
  refine jk_exit rfl ?_
  refine jk_seq ?_
  refine jk_region ?_
  refine zq_load ?_
  refine jk_callH (sortI_spec σ _ T hO (by omega)) rfl rfl (by (repeat (first | exact Takes.nil | (apply Takes.cons; exact (by (repeat (first | exact .here | apply Take.there)); first | done | fail)))); first | done | fail) (fun τ hτ => by simp at hτ) rfl rfl ?_
  rintro _ _ ⟨rfl, σs, hS, rfl⟩
  have hSd : sortd T = hts l n := hs
  rw [hSd] at hS
  have htl2 : T.length = (hts l n).length := by rw [← hSd, List.length_mergeSort]
  rw [htl2] at hS
  have hNs : IntsAt σs _ (Step.hts l n) := hS.at
  obtain ⟨_, _, e, hrs⟩ := hNs.val Eng.encI_len
  simp only [Value.slice.injEq] at e
  obtain ⟨rfl, _, rfl⟩ := e
  have hsb : ∀ t, 0 ≤ Step.stored l n t ∧ Step.stored l n t ≤ 39321600 := fun t => by
    have := stored_bd (n := n) (t := t) hok
    omega
  have hnx := @stored_next l n nq hok
  have hget := hI.d.val
  unfold lvH
  rw [htl2]
  generalize Step.hts l n = ts at hS htl2 hNs hrs hnx htl
  refine jk_freeze (ρ := sng bm (.cells #[.map (some bb)] 139 (0, 0))) takeZ ?_
  have cm : rdc (sng bm (.cells #[.map (some bb)] 139 (0, 0))) bm 0 = some (.map (some bb)) := by rw [rdc_sng]; rfl
  refine jk_freeze (ρ := sng bb (mapO m)) takeZ ?_
  refine jk_freeze (ρ := σs) takeZ ?_
  refine jk_nil ?_
  refine jk_seq ?_
  refine jk_region ?_
  refine zq_assign ?_
  refine jk_nil ?_
  refine jk_seq ?_
  refine jk_region ?_
  refine zq_assign ?_
  refine jk_nil ?_
  refine jk_seq ?_
  refine jk_seq ?_
  refine jk_region ?_
  refine zq_load ?_
  refine zq_len ?_
  refine zq_move ?_
  refine jk_nil ?_
  refine jk_block ?_
  refine jk_loop [5, 42, 43] (X := Nat × (Value × PH)) (0, (.slice none 0 0, emp)) (fun x => x.1 ≤ ts.length ∧ OwnS 138 2 x.2.1 (comb (Step.stored l n) 0 (ts.take x.1)).length ((comb (Step.stored l n) 0 (ts.take x.1)).flatMap encV) x.2.2) (fun x => [(44, int x.1), (10, x.2.1), (11, int (prevF (Step.stored l n) ts x.1))]) (fun x => [x.2.2]) (fun x => ts.length - x.1)
    pickZ ⟨by dsimp only; omega, OwnS.nil _ _⟩ covZ selZ ?_
  rintro ⟨k, u, σ'⟩ ⟨hk', hO'⟩
  dsimp only at hk' hO' ⊢
  by_cases hlt' : k < ts.length
  · have hx := List.getElem?_eq_getElem hlt'
    obtain ⟨b2, o2, rfl, g1⟩ := hrs.int hx
    have hsn := comb_snoc (Step.stored l n) hx
    have hnk := hnx hlt'
    have hpn : prevF (Step.stored l n) ts (k + 1) = Step.stored l n ts[k] := by
      unfold prevF
      rw [if_neg (by omega), List.getD_eq_getElem?_getD, Nat.add_sub_cancel, hx]; rfl
    have hp1 : 0 ≤ prevF (Step.stored l n) ts k ∧ prevF (Step.stored l n) ts k ≤ 39321600 := by
      unfold prevF
      split
      · omega
      · exact hsb _
    generalize ts[k] = t at g1 hsn hnk hpn
    have hg := hget t
    have hst := hsb t
    have hcl := comb_len (Step.stored l n) (ts.take k) 0
    rw [List.length_take, Nat.min_eq_left hk'] at hcl
    generalize prevF (Step.stored l n) ts k = p at hsn hnk hp1
    obtain ⟨pu', cu', rfl⟩ := SlAt.cap hO'.at
    by_cases hz : delta l n t = 0
    · rw [if_pos (by omega), List.append_nil] at hsn
      refine jk_seq ?_
      refine jk_region ?_
      refine zq_lt ?_
      refine jk_nil ?_
      refine jk_seq ?_
      refine jk_if_t rfl ?_
      refine jk_skip ?_
      refine jk_seq ?_
      refine jk_block ?_
      refine jk_seq ?_
      refine jk_region ?_
      refine zq_idx1 ?_
      refine zq_load ?_
      refine zq_assign ?_
      refine jk_nil ?_
      refine jk_seq ?_
      refine jk_seq ?_
      refine jk_region ?_
      refine zq_load ?_
      refine zq_move ?_
      focus ((refine' jk_q _ rfl rfl rfl _; rotate_left; (apply q_lookup (l := m); exact rfl; exact rfl; exact rfl; exact rfl; exact rfl; exact mapAt_rd memZ); rw [hg]))
      refine zq_eq ?_
      refine jk_nil ?_
      refine jk_if_t rfl ?_
      refine jk_exit rfl ?_
      refine jk_region ?_
      refine zq_inc ?_
      refine zq_move ?_
      refine jk_nil ?_
      refine jk_round (k + 1, (_, σ')) ⟨by dsimp only; omega, by dsimp only; rw [hsn]; exact hO'⟩ (by dsimp only; omega) ?_ selZ
      dsimp only
      rw [hpn, show Step.stored l n t = p by omega]
      exact covZ
    · rw [if_neg (by omega)] at hsn
      refine jk_seq ?_
      refine jk_region ?_
      refine zq_lt ?_
      refine jk_nil ?_
      refine jk_seq ?_
      refine jk_if_t rfl ?_
      refine jk_skip ?_
      refine jk_seq ?_
      refine jk_block ?_
      refine jk_seq ?_
      refine jk_region ?_
      refine zq_idx1 ?_
      refine zq_load ?_
      refine zq_assign ?_
      refine jk_nil ?_
      refine jk_seq ?_
      refine jk_seq ?_
      refine jk_region ?_
      refine zq_load ?_
      refine zq_move ?_
      focus ((refine' jk_q _ rfl rfl rfl _; rotate_left; (apply q_lookup (l := m); exact rfl; exact rfl; exact rfl; exact rfl; exact rfl; exact mapAt_rd memZ); rw [hg]))
      refine zq_eqF ?_
      refine jk_nil ?_
      refine jk_if_f rfl ?_
      refine jk_skip ?_
      refine jk_seq ?_
      refine jk_region ?_
      refine zq_move ?_
      refine zq_load ?_
      refine zq_move ?_
      focus ((refine' jk_q _ rfl rfl rfl _; rotate_left; (apply q_lookup (l := m); exact rfl; exact rfl; exact rfl; exact rfl; exact rfl; exact mapAt_rd memZ); rw [hg]))
      refine zq_add ?_
      refine zq_assign ?_
      refine jk_nil ?_
      refine jk_region ?_
      refine zq_move ?_
      refine zq_move ?_
      refine zq_move ?_
      refine zq_build ?_
      refine zl_buildSlice ?_; rintro _ _ ⟨b, rfl, rfl⟩
      rw [← hnk]
      refine jk_op (l_append (by_ := 16) (s := 2) (news := [int t, int (Step.stored l n t)]) rfl rfl rfl rfl rfl rfl rfl hO' takeZ (cells_own memZ) rfl (by (repeat (first | exact (fun v hv => absurd hv List.not_mem_nil) | (refine List.forall_mem_cons.2 ⟨?_, ?_⟩; (focus (first | exact rfl | assumption))))); first | done | fail) (by omega) (by simp only [maxLen]; omega) (by omega)) rfl rfl rfl ?_
      rintro u1 _ ⟨σ1, hO1, rfl⟩
      refine zq_assign ?_
      refine jk_nil ?_
      refine jk_blk ?_
      refine jk_region ?_
      refine zq_inc ?_
      refine zq_move ?_
      refine jk_nil ?_
      refine jk_round (k + 1, (u1, σ1)) ⟨by dsimp only; omega, ?_⟩ (by dsimp only; omega) ?_ selZ
      · dsimp only
        rw [hsn, List.length_append, List.flatMap_append]
        exact hO1
      · dsimp only
        rw [hpn]
        exact covZ
  · have hke : k = ts.length := by omega
    subst hke
    rw [List.take_length] at hO'
    refine jk_seq ?_
    refine jk_region ?_
    refine zq_ltF ?_
    refine jk_nil ?_
    refine jk_seq ?_
    refine jk_if_f rfl ?_
    refine jk_exit rfl ?_
    refine jk_seq ?_
    refine jk_region ?_
    refine zq_move ?_
    refine zq_assign ?_
    refine jk_nil ?_
    exact jk_ret_any (res1 rfl rfl) (by (repeat (first | exact rs_nil | (refine rs_cons ?_ ?_; (focus ((repeat (first | exact .here | apply Mem.there | apply Take.there)); first | done | fail))) | exact fun ρ hρ => hρ | (intro ρ hρ; repeat (first | exact hρ | refine List.mem_cons_of_mem _ ?_)))); first | done | fail) selZ ⟨σ', hO', rfl⟩
end Go.Proofs.Ytjbebmealbnmgaa
/- The greatest value; what the reference says is stored. -/
namespace Go.Proofs.Ytjbebmealbnmgaa
open Go.Eng Go.Step
set_option maxRecDepth 100000
set_option maxHeartbeats 4000000

theorem lvRow {ρ : PH} {p : Option Addr} {l : List Lv} (h : RowsE encV 2 ρ p l) {i : Nat} {x : Lv} (hx : l[i]? = some x) :
    ∃ b o, p = some ⟨b, o, none⟩ ∧ RdN ρ b (o + i * 2) [int x.a, int x.v] ∧ rdc ρ b (o + i * 2) = some (int x.a) ∧ rdc ρ b (o + i * 2 + 1) = some (int x.v) := by
  obtain ⟨b, o, e, hr⟩ := h i x hx
  exact ⟨b, o, e, hr, hr.get0, hr.get (j := 1) rfl⟩
theorem most_spec (ρ : PH) (v : Value) (f : List Lv) (hv : LvAt ρ v f) (hl : f.length ≤ 9223372036854775807) : Ans Try.prog (fv 79) [v] [ρ] (fun r => r = int (mostL f)) := by
  obtain ⟨q, c, rfl, hr⟩ := hv.val encV_len
  refine spec_in (cap := []) Try.func79 rfl rfl Try.ntmps79 rfl (by (repeat (first | exact EnvA.nil EnvI.nil | apply EnvA.cons | apply EnvA.nil | exact EnvI.nil | apply EnvI.cons)); first | done | fail) (fun N β => ?_)
  refine jk_seq ?_
  refine jk_region ?_
  refine zq_assign ?_
  refine jk_nil ?_
  refine jk_seq ?_
  refine jk_region ?_
  refine zq_assign ?_
  refine jk_nil ?_
  refine jk_seq ?_
  refine jk_seq ?_
  refine jk_region ?_
  refine zq_move ?_
  refine zq_len ?_
  refine zq_move ?_
  refine jk_nil ?_
  refine jk_block ?_
  refine jk_loop [6, 7] (0 : Nat) (fun k => k ≤ f.length) (fun k => [(8, int k), (3, int (mostL (f.take k)))]) (fun _ => []) (fun k => f.length - k) pickZ (by omega) covZ selZ ?_
  intro k hk
  by_cases hlt : k < f.length
  · have hx := List.getElem?_eq_getElem hlt
    obtain ⟨b1, o1, rfl, hrd, _, _⟩ := lvRow hr hx
    have hm := mostL_take hx
    generalize f[k] = x at hrd hm
    refine jk_seq ?_
    refine jk_region ?_
    refine zq_lt ?_
    refine jk_nil ?_
    refine jk_seq ?_
    refine jk_if_t rfl ?_
    refine jk_skip ?_
    refine jk_seq ?_
    refine jk_block ?_
    refine jk_seq ?_
    refine jk_region ?_
    refine zq_idxN ?_
    refine zq_loadS ?_
    refine zl_allocS ?_; rintro _ _ ⟨b, rfl, rfl⟩
    refine zs_storeS ?_; rintro _ _ ⟨rfl, rfl⟩
    refine jk_nil ?_
    refine jk_region ?_
    refine zq_move ?_
    refine zq_fld0 ?_
    refine zq_load ?_
    refine zq_max ?_
    refine zq_assign ?_
    refine jk_nil ?_
    refine jk_blk ?_
    refine jk_region ?_
    refine zq_inc ?_
    refine zq_move ?_
    refine jk_nil ?_
    refine jk_round (k + 1) (by omega) (by omega) ?_ selZ
    rw [hm]
    exact covZ
  · have hke : k = f.length := by omega
    subst hke
    rw [List.take_length]
    refine jk_seq ?_
    refine jk_region ?_
    refine zq_ltF ?_
    refine jk_nil ?_
    refine jk_seq ?_
    refine jk_if_f rfl ?_
    refine jk_exit rfl ?_
    refine jk_seq ?_
    refine jk_region ?_
    refine zq_move ?_
    refine zq_assign ?_
    refine jk_nil ?_
    exact jk_ret_any (res1 rfl rfl) (by (repeat (first | exact rs_nil | (refine rs_cons ?_ ?_; (focus ((repeat (first | exact .here | apply Mem.there | apply Take.there)); first | done | fail))) | exact fun ρ hρ => hρ | (intro ρ hρ; repeat (first | exact hρ | refine List.mem_cons_of_mem _ ?_)))); first | done | fail) selZ ⟨rfl, rfl⟩
theorem hdRow5 {ρ : PH} {p : Option Addr} {l : List Hd} (h : RowsE encH 5 ρ p l) {i : Nat} {x : Hd} (hx : l[i]? = some x) :
    ∃ b o, p = some ⟨b, o, none⟩ ∧ RdN ρ b (o + i * 5) [int x.n, int x.a, int x.b, int x.s, int x.k] ∧ rdc ρ b (o + i * 5) = some (int x.n) ∧ rdc ρ b (o + i * 5 + 1) = some (int x.a) ∧ rdc ρ b (o + i * 5 + 2) = some (int x.b) ∧ rdc ρ b (o + i * 5 + 3) = some (int x.s) ∧ rdc ρ b (o + i * 5 + 4) = some (int x.k) := by
  obtain ⟨b, o, e, hr⟩ := h i x hx
  exact ⟨b, o, e, hr, hr.get0, hr.get (j := 1) rfl, hr.get (j := 2) rfl, hr.get (j := 3) rfl, hr.get (j := 4) rfl⟩
theorem stored_spec (ρ : PH) (v : Value) (l : List Hd) (n t : Int) (nq : Nat) (hv : HdAt ρ v l) (hok : ∀ h ∈ l, okHd nq h) (hl : l.length ≤ 600) : Ans Try.prog (fv 44) [v, int n, int t] [ρ] (fun r => r = int (Step.stored l n t)) := by
  obtain ⟨q, c, rfl, hr⟩ := hv.val encH_len
  refine spec_in (cap := []) Try.func44 rfl rfl Try.ntmps44 rfl (by (repeat (first | exact EnvA.nil EnvI.nil | apply EnvA.cons | apply EnvA.nil | exact EnvI.nil | apply EnvI.cons)); first | done | fail) (fun N β => ?_)
  refine jk_seq ?_
  refine jk_region ?_
  refine zq_assign ?_
  refine jk_nil ?_
  refine jk_seq ?_
  refine jk_region ?_
  refine zq_assign ?_
  refine jk_nil ?_
  refine jk_seq ?_
  refine jk_seq ?_
  refine jk_region ?_
  refine zq_assign ?_
  refine jk_nil ?_
  refine jk_block ?_
  refine jk_loop [0, 1, 2] (0 : Nat) (fun k => k ≤ l.length) (fun k => [(8, int k), (7, int (Step.stored (l.take k) n t))]) (fun _ => []) (fun k => l.length - k) pickZ (by omega) covZ selZ ?_
  intro k hk
  by_cases hlt : k < l.length
  · have hx := List.getElem?_eq_getElem hlt
    have hh := (hok _ (List.getElem_mem hlt)).2.2.1
    obtain ⟨b1, o1, rfl, _, g0, g1, g2, g3, _⟩ := hdRow5 hr hx
    have hm := stored_snoc n t l[k] (l.take k)
    rw [← List.take_succ_eq_append_getElem hlt] at hm
    have hb := stored_bd (n := n) (t := t) (l := l.take k) (fun h hm => hok h (List.mem_of_mem_take hm))
    rw [List.length_take, Nat.min_eq_left hk] at hb
    generalize l[k] = h at g0 g1 g2 g3 hm hh
    generalize Step.stored (l.take k) n t = s at hm hb
    by_cases c1 : h.n = n
    · by_cases c2 : h.a ≤ t
      · by_cases c3 : t < h.b
        · rw [if_pos ⟨c1, c2, c3⟩] at hm
          refine jk_seq ?_
          refine jk_seq ?_
          refine jk_region ?_
          refine zq_move ?_
          refine zq_move ?_
          refine zq_len ?_
          refine zq_lt ?_
          refine jk_nil ?_
          refine jk_if_t rfl ?_
          refine jk_skip ?_
          refine jk_seq ?_
          refine jk_block ?_
          refine jk_seq ?_
          refine jk_region ?_
          refine zq_move ?_
          refine zq_move ?_
          refine zq_idxN ?_
          refine zq_fldZ ?_
          refine zq_load ?_
          refine zq_move ?_
          refine zq_eq ?_
          refine zq_move ?_
          refine zq_move ?_
          refine zq_move ?_
          refine zq_idxN ?_
          refine zq_fld ?_
          refine zq_load ?_
          refine zq_move ?_
          refine zq_le ?_
          refine zq_pick_t ?_
          refine zq_move ?_
          refine zq_move ?_
          refine zq_move ?_
          refine zq_move ?_
          refine zq_idxN ?_
          refine zq_fld ?_
          refine zq_load ?_
          refine zq_lt ?_
          refine zq_pick_t ?_
          refine jk_nil ?_
          refine jk_if_t rfl ?_
          refine jk_region ?_
          refine zq_move ?_
          refine zq_move ?_
          refine zq_move ?_
          refine zq_idxN ?_
          refine zq_fld ?_
          refine zq_load ?_
          refine zq_add ?_
          refine zq_assign ?_
          refine jk_nil ?_
          refine jk_blk ?_
          refine jk_region ?_
          refine zq_move ?_
          refine zq_inc ?_
          refine zq_assign ?_
          refine jk_nil ?_
          refine jk_round (k + 1) (by omega) (by omega) ?_ selZ
          rw [hm]
          exact covZ
        · rw [if_neg (by omega), Int.add_zero] at hm
          refine jk_seq ?_
          refine jk_seq ?_
          refine jk_region ?_
          refine zq_move ?_
          refine zq_move ?_
          refine zq_len ?_
          refine zq_lt ?_
          refine jk_nil ?_
          refine jk_if_t rfl ?_
          refine jk_skip ?_
          refine jk_seq ?_
          refine jk_block ?_
          refine jk_seq ?_
          refine jk_region ?_
          refine zq_move ?_
          refine zq_move ?_
          refine zq_idxN ?_
          refine zq_fldZ ?_
          refine zq_load ?_
          refine zq_move ?_
          refine zq_eq ?_
          refine zq_move ?_
          refine zq_move ?_
          refine zq_move ?_
          refine zq_idxN ?_
          refine zq_fld ?_
          refine zq_load ?_
          refine zq_move ?_
          refine zq_le ?_
          refine zq_pick_t ?_
          refine zq_move ?_
          refine zq_move ?_
          refine zq_move ?_
          refine zq_move ?_
          refine zq_idxN ?_
          refine zq_fld ?_
          refine zq_load ?_
          refine zq_ltF ?_
          refine zq_pick_t ?_
          refine jk_nil ?_
          refine jk_if_f rfl ?_
          refine jk_skip ?_
          refine jk_blk ?_
          refine jk_region ?_
          refine zq_move ?_
          refine zq_inc ?_
          refine zq_assign ?_
          refine jk_nil ?_
          refine jk_round (k + 1) (by omega) (by omega) ?_ selZ
          rw [hm]
          exact covZ
      · rw [if_neg (by omega), Int.add_zero] at hm
        refine jk_seq ?_
        refine jk_seq ?_
        refine jk_region ?_
        refine zq_move ?_
        refine zq_move ?_
        refine zq_len ?_
        refine zq_lt ?_
        refine jk_nil ?_
        refine jk_if_t rfl ?_
        refine jk_skip ?_
        refine jk_seq ?_
        refine jk_block ?_
        refine jk_seq ?_
        refine jk_region ?_
        refine zq_move ?_
        refine zq_move ?_
        refine zq_idxN ?_
        refine zq_fldZ ?_
        refine zq_load ?_
        refine zq_move ?_
        refine zq_eq ?_
        refine zq_move ?_
        refine zq_move ?_
        refine zq_move ?_
        refine zq_idxN ?_
        refine zq_fld ?_
        refine zq_load ?_
        refine zq_move ?_
        refine zq_leF ?_
        refine zq_pick_t ?_
        refine zq_move ?_
        refine jk_pass rfl rfl rfl ?_
        refine jk_pass rfl rfl rfl ?_
        refine jk_pass rfl rfl rfl ?_
        refine jk_pass rfl rfl rfl ?_
        refine jk_pass rfl rfl rfl ?_
        refine jk_pass rfl rfl rfl ?_
        refine jk_pass rfl rfl rfl ?_
        refine zq_pick_f ?_
        refine jk_nil ?_
        refine jk_if_f rfl ?_
        refine jk_skip ?_
        refine jk_blk ?_
        refine jk_region ?_
        refine zq_move ?_
        refine zq_inc ?_
        refine zq_assign ?_
        refine jk_nil ?_
        refine jk_round (k + 1) (by omega) (by omega) ?_ selZ
        rw [hm]
        exact covZ
    · rw [if_neg (by omega), Int.add_zero] at hm
      refine jk_seq ?_
      refine jk_seq ?_
      refine jk_region ?_
      refine zq_move ?_
      refine zq_move ?_
      refine zq_len ?_
      refine zq_lt ?_
      refine jk_nil ?_
      refine jk_if_t rfl ?_
      refine jk_skip ?_
      refine jk_seq ?_
      refine jk_block ?_
      refine jk_seq ?_
      refine jk_region ?_
      refine zq_move ?_
      refine zq_move ?_
      refine zq_idxN ?_
      refine zq_fldZ ?_
      refine zq_load ?_
      refine zq_move ?_
      refine zq_eqF ?_
      refine zq_move ?_
      refine jk_pass rfl rfl rfl ?_
      refine jk_pass rfl rfl rfl ?_
      refine jk_pass rfl rfl rfl ?_
      refine jk_pass rfl rfl rfl ?_
      refine jk_pass rfl rfl rfl ?_
      refine jk_pass rfl rfl rfl ?_
      refine jk_pass rfl rfl rfl ?_
      refine zq_pick_f ?_
      refine zq_move ?_
      refine jk_pass rfl rfl rfl ?_
      refine jk_pass rfl rfl rfl ?_
      refine jk_pass rfl rfl rfl ?_
      refine jk_pass rfl rfl rfl ?_
      refine jk_pass rfl rfl rfl ?_
      refine jk_pass rfl rfl rfl ?_
      refine jk_pass rfl rfl rfl ?_
      refine zq_pick_f ?_
      refine jk_nil ?_
      refine jk_if_f rfl ?_
      refine jk_skip ?_
      refine jk_blk ?_
      refine jk_region ?_
      refine zq_move ?_
      refine zq_inc ?_
      refine zq_assign ?_
      refine jk_nil ?_
      refine jk_round (k + 1) (by omega) (by omega) ?_ selZ
      rw [hm]
      exact covZ
  · have hke : k = l.length := by omega
    subst hke
    rw [List.take_length]
    refine jk_seq ?_
    refine jk_seq ?_
    refine jk_region ?_
    refine zq_move ?_
    refine zq_move ?_
    refine zq_len ?_
    refine zq_ltF ?_
    refine jk_nil ?_
    refine jk_if_f rfl ?_
    refine jk_exit rfl ?_
    refine jk_seq ?_
    refine jk_region ?_
    refine zq_move ?_
    refine zq_assign ?_
    refine jk_nil ?_
    exact jk_ret_any (res1 rfl rfl) (by (repeat (first | exact rs_nil | (refine rs_cons ?_ ?_; (focus ((repeat (first | exact .here | apply Mem.there | apply Take.there)); first | done | fail))) | exact fun ρ hρ => hρ | (intro ρ hρ; repeat (first | exact hρ | refine List.mem_cons_of_mem _ ?_)))); first | done | fail) selZ ⟨rfl, rfl⟩
end Go.Proofs.Ytjbebmealbnmgaa
/- The times and the levels of a node, of the reference. -/
namespace Go.Proofs.Ytjbebmealbnmgaa
open Go.Eng Go.Step
set_option maxRecDepth 100000
set_option maxHeartbeats 4000000

theorem pick_cases (t nx x : Int) : (t < x ∧ nx < 0 ∧ pickN t nx x = x) ∨ (t < x ∧ 0 ≤ nx ∧ x < nx ∧ pickN t nx x = x) ∨ (t < x ∧ 0 ≤ nx ∧ nx ≤ x ∧ pickN t nx x = nx) ∨ (x ≤ t ∧ pickN t nx x = nx) := by
  unfold pickN
  by_cases h1 : t < x
  · by_cases h2 : nx < 0
    · exact .inl ⟨h1, h2, by rw [if_pos ⟨h1, .inl h2⟩]⟩
    · by_cases h3 : x < nx
      · exact .inr (.inl ⟨h1, by omega, h3, by rw [if_pos ⟨h1, .inr h3⟩]⟩)
      · exact .inr (.inr (.inl ⟨h1, by omega, by omega, by rw [if_neg (by omega)]⟩))
  · exact .inr (.inr (.inr ⟨by omega, by rw [if_neg (by omega)]⟩))
theorem tmH_ok {l : List Hd} {n : Int} {nq : Nat} (hok : ∀ h ∈ l, okHd nq h) : ∀ x ∈ tmH l n, 0 ≤ x := fun x hx => by
  obtain ⟨h, hl, _, hx⟩ := mem_tmH.1 hx
  have := (hok h hl).2.1
  omega
theorem tmH_len (n : Int) : ∀ l : List Hd, (tmH l n).length ≤ 2 * l.length
  | [] => by simp [tmH]
  | h :: l => by
    have ih := tmH_len n l
    unfold tmH at ih ⊢
    rw [List.flatMap_cons, List.length_append, List.length_cons]
    split
    · simp only [List.length_cons, List.length_nil]; omega
    · simp only [List.length_nil]; omega
theorem sa_len : ∀ {out f : List Int}, SA out → (∀ x ∈ out, x ∈ f) → out.length ≤ f.length
  | [], _, _, _ => by simp
  | a :: out, f, h, hm => by
    have h2 := List.pairwise_cons.1 h
    have ih := sa_len (out := out) (f := f.erase a) h2.2 (fun x hx => by
      have := h2.1 x hx
      exact (List.mem_erase_of_ne (by omega)).2 (hm x (by simp [hx])))
    rw [List.length_erase_of_mem (hm a (by simp))] at ih
    have := List.length_pos_of_mem (hm a (by simp))
    rw [List.length_cons]; omega
theorem hts_len2 (l : List Hd) (n : Int) : (hts l n).length ≤ 2 * l.length := by
  obtain ⟨h1, h2⟩ := hts_sa l n
  have := sa_len h1 (fun x hx => (h2 x).1 hx)
  have := tmH_len n l
  omega
end Go.Proofs.Ytjbebmealbnmgaa
/- Holds that fit the quotas. No program in sight. No conditions. -/
namespace Go.Step
theorem cmpI_neg (a b : Int) : cmpI a b = -cmpI b a := by
  unfold cmpI
  by_cases h1 : a < b
  · rw [if_pos h1, if_neg (by omega), if_pos h1]
  · rw [if_neg h1]
    by_cases h2 : b < a
    · rw [if_pos h2, if_pos h2]; rfl
    · rw [if_neg h2, if_neg h2, if_neg h1]; rfl
theorem orI_neg : ∀ l : List Int, orI (l.map (fun x => -x)) = -orI l
  | [] => rfl
  | x :: l => by
    have ih := orI_neg l
    simp only [List.map_cons, orI]
    by_cases h : x = 0
    · subst h; simp [ih]
    · rw [if_pos h, if_pos (by omega)]
theorem cmpHd_neg (x y : Hd) : cmpHd x y = -cmpHd y x := by
  unfold cmpHd
  rw [← orI_neg]
  simp only [List.map_cons, List.map_nil]
  rw [cmpI_neg x.n, cmpI_neg x.a, cmpI_neg x.b, cmpI_neg x.k, cmpI_neg x.s]
def hdE (nq : Nat) (l : List Hd) (i : Nat) : Int := match l[i]? with
  | some h => if ¬ okHd nq h then 2 else if 0 < i ∧ 0 < cmpHd (l.getD (i - 1) h) h then 9 else 0
  | none => 0
theorem hdE_at {nq : Nat} {l : List Hd} {i : Nat} {h : Hd} (e : l[i]? = some h) : hdE nq l i = if ¬ okHd nq h then 2 else if 0 < i ∧ 0 < cmpHd (l.getD (i - 1) h) h then 9 else 0 := by unfold hdE; rw [e]
def fitB (qs : List Int) (l : List Hd) : Bool := l.all (fun h => decide (stored l h.n h.a ≤ qs.getD h.n.toNat 0))
/-- what is wrong with holds -/
def chkH (qs : List Int) (cs : List Ct) (l : List Hd) : Int :=
  if chkPl qs cs ≠ 0 then 1 else if 512 < l.length then 4 else if firstE (hdE qs.length l) l.length ≠ 0 then firstE (hdE qs.length l) l.length else if fitB qs l then 0 else 15
theorem hdE_ok {nq : Nat} {l : List Hd} {m : Nat} (h : firstE (hdE nq l) m = 0) : ∀ x ∈ l.take m, okHd nq x := fun x hx => by
  obtain ⟨i, hi, rfl⟩ := List.getElem_of_mem hx
  rw [List.length_take] at hi
  have h2 := firstE_zero h i (by omega)
  rw [List.getElem_take]
  rw [hdE_at (List.getElem?_eq_getElem (by omega : i < l.length))] at h2
  by_cases hc : okHd nq l[i]
  · exact hc
  · rw [if_pos hc] at h2; omega
theorem mostL_le {f : List Lv} {Q : Int} (hQ : 0 ≤ Q) : mostL f ≤ Q ↔ ∀ x ∈ f, x.v ≤ Q := by
  have h : ∀ (f : List Lv) (a : Int), f.foldl (fun n x => max n x.v) a ≤ Q ↔ a ≤ Q ∧ ∀ x ∈ f, x.v ≤ Q := by
    intro f
    induction f with
    | nil => intro a; simp
    | cons y f ih =>
      intro a
      rw [List.foldl_cons, ih]
      constructor
      · rintro ⟨h1, h2⟩
        refine ⟨by omega, fun x hx => ?_⟩
        rcases List.mem_cons.1 hx with rfl | hx
        · omega
        · exact h2 x hx
      · rintro ⟨h1, h2⟩
        have := h2 y (by simp)
        exact ⟨by omega, fun x hx => h2 x (by simp [hx])⟩
  unfold mostL
  rw [h f 0]
  exact ⟨fun h => h.2, fun h => ⟨hQ, h⟩⟩
theorem comb_le {F : Int → Int} {Q : Int} : ∀ {ts : List Int} {last : Int}, last ≤ Q → ((∀ x ∈ comb F last ts, x.v ≤ Q) ↔ ∀ t ∈ ts, F t ≤ Q)
  | [], last, _ => by simp [comb]
  | t :: ts, last, h => by
    by_cases hc : F t = last
    · have e : comb F last (t :: ts) = comb F (F t) ts := by simp only [comb]; rw [if_neg (fun hh => hh hc)]
      rw [e, comb_le (by omega)]
      constructor
      · intro hh x hx
        rcases List.mem_cons.1 hx with rfl | hx
        · omega
        · exact hh x hx
      · exact fun hh x hx => hh x (by simp [hx])
    · have e : comb F last (t :: ts) = ⟨t, F t⟩ :: comb F (F t) ts := by simp only [comb]; rw [if_pos hc]
      rw [e]
      constructor
      · intro hh
        have h1 := hh ⟨t, F t⟩ (by simp)
        dsimp only at h1
        have h2 := (comb_le (F := F) (ts := ts) h1).1 (fun x hx => hh x (by simp [hx]))
        intro x hx
        rcases List.mem_cons.1 hx with rfl | hx
        · exact h1
        · exact h2 x hx
      · intro hh
        have h1 := hh t (by simp)
        have h2 := (comb_le (F := F) (ts := ts) h1).2 (fun x hx => hh x (by simp [hx]))
        intro x hx
        rcases List.mem_cons.1 hx with rfl | hx
        · exact h1
        · exact h2 x hx
theorem stored_mono {n t s : Int} : ∀ {l : List Hd}, (∀ g ∈ l, 0 ≤ g.s ∧ (g.n = n → g.a ≤ t → t < g.b → g.a ≤ s ∧ s < g.b)) → stored l n t ≤ stored l n s
  | [], _ => by simp [stored]
  | g :: l, H => by
    have ih := stored_mono (l := l) (fun x hx => H x (by simp [hx]))
    obtain ⟨h1, h2⟩ := H g (by simp)
    simp only [stored]
    by_cases c : g.n = n ∧ g.a ≤ t ∧ t < g.b
    · have := h2 c.1 c.2.1 c.2.2
      rw [if_pos c, if_pos ⟨c.1, this⟩]; omega
    · rw [if_neg c]; split <;> omega
/-- the active hold that begins last -/
theorem last_active {n t : Int} : ∀ (l : List Hd), (∀ g ∈ l, g.n = n → ¬ (g.a ≤ t ∧ t < g.b)) ∨ ∃ h ∈ l, h.n = n ∧ h.a ≤ t ∧ ∀ g ∈ l, g.n = n → g.a ≤ t → t < g.b → g.a ≤ h.a
  | [] => .inl (by simp)
  | g :: l => by
    rcases last_active (n := n) (t := t) l with h | ⟨h, hl, h1, h2, h3⟩
    · by_cases c : g.n = n ∧ g.a ≤ t ∧ t < g.b
      · refine .inr ⟨g, by simp, c.1, c.2.1, fun x hx k1 k2 k3 => ?_⟩
        rcases List.mem_cons.1 hx with rfl | hx
        · exact Int.le_refl _
        · exact absurd ⟨k2, k3⟩ (h x hx k1)
      · refine .inl (fun x hx k1 k2 => ?_)
        rcases List.mem_cons.1 hx with rfl | hx
        · exact c ⟨k1, k2⟩
        · exact h x hx k1 k2
    · by_cases c : (g.n = n ∧ g.a ≤ t ∧ t < g.b) ∧ h.a < g.a
      · refine .inr ⟨g, by simp, c.1.1, c.1.2.1, fun x hx k1 k2 k3 => ?_⟩
        rcases List.mem_cons.1 hx with rfl | hx
        · exact Int.le_refl _
        · have := h3 x hx k1 k2 k3; omega
      · refine .inr ⟨h, by simp [hl], h1, h2, fun x hx k1 k2 k3 => ?_⟩
        rcases List.mem_cons.1 hx with rfl | hx
        · omega
        · exact h3 x hx k1 k2 k3
theorem most_fits {l : List Hd} {n Q : Int} {nq : Nat} (hok : ∀ h ∈ l, okHd nq h) (hQ : 0 ≤ Q) : mostL (lvH l n) ≤ Q ↔ ∀ h ∈ l, h.n = n → stored l n h.a ≤ Q := by
  unfold lvH
  rw [mostL_le hQ, comb_le hQ]
  obtain ⟨h1, h2⟩ := hts_sa l n
  constructor
  · exact fun H h hl hn => H _ ((h2 _).2 (mem_tmH.2 ⟨h, hl, hn, .inl rfl⟩))
  · intro H t ht
    rcases last_active (n := n) (t := t) l with c | ⟨h, hl, k1, k2, k3⟩
    · have : stored l n t ≤ stored l n (-1) := stored_mono (fun g hg => ⟨by have := (hok g hg).2.2.1; omega, fun a b d => absurd ⟨b, d⟩ (c g hg a)⟩)
      have e0 : stored l n (-1) = 0 := stored_early (fun h hl hn => by have := (hok h hl).2.1; omega)
      omega
    · have : stored l n t ≤ stored l n h.a := stored_mono (fun g hg => ⟨by have := (hok g hg).2.2.1; omega, fun a b d => ⟨k3 g hg a b d, by omega⟩⟩)
      have := H h hl k1
      omega
end Go.Step
/- What is wrong with holds, of the program and of the reference. -/
namespace Go.Proofs.Ytjbebmealbnmgaa
open Go.Eng Go.Step
set_option maxRecDepth 100000
set_option maxHeartbeats 4000000

theorem fitB_hit {qs : List Int} {l : List Hd} {h : Hd} (hm : h ∈ l) (hc : qs.getD h.n.toNat 0 < Step.stored l h.n h.a) : fitB qs l = false := by
  unfold fitB
  rw [List.all_eq_false]
  exact ⟨h, hm, by rw [decide_eq_false (by omega)]; simp⟩
set_option maxHeartbeats 16000000 in
theorem fits_spec (ρ σ : PH) (pq pc : Option Addr) (kq nc kc : Nat) (qs : List Int) (v : Value) (l : List Hd) (hq : IntsAt ρ (.slice pq qs.length kq) qs) (hv : HdAt σ v l) (hok : ∀ h ∈ l, okHd qs.length h) (hl : l.length ≤ 600) :
    Ans Try.prog (fv 86) [.agg #[.slice pq qs.length kq, .slice pc nc kc], v] [ρ, σ] (fun r => r = .bool (fitB qs l)) := by
  have hv2 := hv
  obtain ⟨q, c, rfl, hr⟩ := hv.val encH_len
  obtain ⟨_, _, e, hrq⟩ := hq.val Eng.encI_len
  simp only [Value.slice.injEq] at e
  obtain ⟨rfl, _, rfl⟩ := e
  refine spec_in (cap := []) Try.func86 rfl rfl Try.ntmps86 rfl (by (repeat (first | exact EnvA.nil EnvI.nil | apply EnvA.cons | apply EnvA.nil | exact EnvI.nil | apply EnvI.cons)); first | done | fail) (fun N β => ?_)
  refine jk_seq ?_
  refine jk_region ?_
  refine jk_op (l_boxS rfl) rfl rfl rfl ?_
  rintro _ _ ⟨b1, rfl, rfl⟩
  refine jk_freeze (ρ := sng b1 _) takeZ ?_
  have c10 : rdc (sng b1 (.cells #[.slice pq qs.length kq, .slice pc nc kc] 25 (0, 0))) b1 0 = some (.slice pq qs.length kq) := by rw [rdc_sng]; rfl
  refine zq_assign ?_
  refine jk_nil ?_
  refine jk_seq ?_
  refine jk_seq ?_
  refine jk_region ?_
  refine zq_assign ?_
  refine jk_nil ?_
  refine jk_block ?_
  refine jk_loop [1, 2] (0 : Nat) (fun k => k ≤ l.length ∧ ∀ h ∈ l.take k, Step.stored l h.n h.a ≤ qs.getD h.n.toNat 0) (fun k => [(5, int k)]) (fun _ => []) (fun k => l.length - k) pickZ ⟨by omega, by simp⟩ covZ selZ ?_
  rintro k ⟨hk, hI⟩
  by_cases hlt : k < l.length
  · have hx := List.getElem?_eq_getElem hlt
    have hmem := List.getElem_mem hlt
    have hh := (hok _ hmem).1
    have htk : l.take (k + 1) = l.take k ++ [l[k]] := List.take_succ_eq_append_getElem hlt
    obtain ⟨b2, o2, rfl, _, g0, g1, _⟩ := hdRow5 hr hx
    generalize l[k] = h at g0 g1 hh hmem htk
    obtain ⟨nn, hnn⟩ := Int.eq_ofNat_of_zero_le hh.1
    have hnl : nn < qs.length := by omega
    have hqx := List.getElem?_eq_getElem hnl
    obtain ⟨b3, o3, rfl, gq⟩ := hrq.int hqx
    have hgd : qs.getD h.n.toNat 0 = qs[nn] := by rw [hnn, Int.toNat_natCast, List.getD_eq_getElem?_getD, hqx]; rfl
    have hs := stored_spec σ _ l h.n h.a qs.length hv2 hok hl
    have hhit := @fitB_hit qs l h hmem
    have hnext : Step.stored l h.n h.a ≤ qs.getD h.n.toNat 0 → ∀ g ∈ l.take (k + 1), Step.stored l g.n g.a ≤ qs.getD g.n.toNat 0 := fun hle g hg => by
      rw [htk] at hg
      rcases List.mem_append.1 hg with hg | hg
      · exact hI g hg
      · simp at hg; subst hg; exact hle
    rw [hgd] at hhit hnext
    generalize Step.stored l h.n h.a = s at hs hhit hnext
    generalize qs[nn] = qv at gq hhit hnext
    rw [hnn] at g0 hs
    refine jk_seq ?_
    refine jk_seq ?_
    refine jk_region ?_
    refine zq_move ?_
    refine zq_move ?_
    refine zq_len ?_
    refine zq_lt ?_
    refine jk_nil ?_
    refine jk_if_t rfl ?_
    refine jk_skip ?_
    refine jk_seq ?_
    refine jk_block ?_
    refine jk_seq ?_
    refine jk_draw (.q 0 (.q 1 (.q 2 (.q 3 (.q 4 (.q 5 (.q 6 (.q 7 (.q 8 (.q 9 (.q 10 (.q 12 (.q 13 (.q 14 (.q 15 (.q 16 (.q 17 (.q 18 (.q 19 (.q 20 (.l 11 .e (.q 21 .nil)))))))))))))))))))))) [] rfl (by kernel_rfl) Sel.nil ?_
    refine zd_move ?_
    refine zd_move ?_
    refine zd_move ?_
    refine zd_idxN ?_
    refine zd_fldZ ?_
    refine zd_load ?_
    refine zd_move ?_
    refine zd_move ?_
    refine zd_idxN ?_
    refine zd_fld ?_
    refine zd_load ?_
    refine zd_fld0 ?_
    refine zd_load ?_
    refine zd_move ?_
    refine zd_move ?_
    refine zd_idxN ?_
    refine zd_fldZ ?_
    refine zd_load ?_
    refine zd_idx1 ?_
    refine zd_load ?_
    refine dj_l (a_call rfl hs rfl rfl rdZ rfl rfl ?_)
    rintro _ rfl
    by_cases hc : qv < s
    · rw [hhit hc]
      refine zd_gt ?_
      refine dj_end ?_
      refine jk_if_t rfl ?_
      refine jk_seq ?_
      refine jk_region ?_
      refine zq_assign ?_
      refine jk_nil ?_
      exact jk_ret_any (res1 rfl rfl) (by (repeat (first | exact rs_nil | (refine rs_cons ?_ ?_; (focus ((repeat (first | exact .here | apply Mem.there | apply Take.there)); first | done | fail))) | exact fun ρ hρ => hρ | (intro ρ hρ; repeat (first | exact hρ | refine List.mem_cons_of_mem _ ?_)))); first | done | fail) selZ ⟨rfl, rfl⟩
    · have hn2 := hnext (by omega)
      refine zd_gtF ?_
      refine dj_end ?_
      refine jk_if_f rfl ?_
      refine jk_skip ?_
      refine jk_blk ?_
      refine jk_region ?_
      refine zq_move ?_
      refine zq_inc ?_
      refine zq_assign ?_
      refine jk_nil ?_
      exact jk_round (k + 1) ⟨by omega, hn2⟩ (by omega) covZ selZ
  · have hke : k = l.length := by omega
    subst hke
    rw [List.take_length] at hI
    have : fitB qs l = true := List.all_eq_true.2 (fun h hm => decide_eq_true (hI h hm))
    rw [this]
    refine jk_seq ?_
    refine jk_seq ?_
    refine jk_region ?_
    refine zq_move ?_
    refine zq_move ?_
    refine zq_len ?_
    refine zq_ltF ?_
    refine jk_nil ?_
    refine jk_if_f rfl ?_
    refine jk_exit rfl ?_
    refine jk_seq ?_
    refine jk_region ?_
    refine zq_assign ?_
    refine jk_nil ?_
    exact jk_ret_any (res1 rfl rfl) (by (repeat (first | exact rs_nil | (refine rs_cons ?_ ?_; (focus ((repeat (first | exact .here | apply Mem.there | apply Take.there)); first | done | fail))) | exact fun ρ hρ => hρ | (intro ρ hρ; repeat (first | exact hρ | refine List.mem_cons_of_mem _ ?_)))); first | done | fail) selZ ⟨rfl, rfl⟩
set_option maxHeartbeats 16000000 in
theorem refCheck28_spec (ρ τ σ : PH) (pq pc : Option Addr) (kq kc : Nat) (qs : List Int) (cs : List Ct) (v : Value) (l : List Hd) (hq : IntsAt ρ (.slice pq qs.length kq) qs) (hc : CtAt τ (.slice pc cs.length kc) cs) (lq : qs.length ≤ 9223372036854775807) (lc : cs.length ≤ 9223372036854775807) (hv : HdAt σ v l) (hl : l.length ≤ 9223372036854775807) :
    Ans Try.prog (fv 64) [.agg #[.slice pq qs.length kq, .slice pc cs.length kc], v] [ρ, τ, σ] (fun r => r = int (chkH qs cs l)) := by
  have hv2 := hv
  obtain ⟨q, c, rfl, hr⟩ := hv.val encH_len
  refine spec_in (cap := []) Try.func64 rfl rfl Try.ntmps64 rfl (by (repeat (first | exact EnvA.nil EnvI.nil | apply EnvA.cons | apply EnvA.nil | exact EnvI.nil | apply EnvI.cons)); first | done | fail) (fun N β => ?_)
  refine jk_seq ?_
  refine jk_region ?_
  refine jk_op (l_boxS rfl) rfl rfl rfl ?_
  rintro _ _ ⟨b1, rfl, rfl⟩
  refine jk_freeze (ρ := sng b1 _) takeZ ?_
  have c1 : RdN (sng b1 (.cells #[.slice pq qs.length kq, .slice pc cs.length kc] 25 (0, 0))) b1 0 [.slice pq qs.length kq, .slice pc cs.length kc] := fun j u hu => by rw [rdc_sng, Nat.zero_add]; simpa using hu
  refine zq_assign ?_
  refine jk_nil ?_
  refine jk_seq ?_
  refine jk_seq ?_
  refine jk_region ?_
  refine zq_loadS ?_
  refine jk_call (refPlanCheck_spec ρ τ pq pc kq kc qs cs hq hc lq lc) rfl rfl rdZ rfl rfl ?_
  rintro _ rfl
  unfold chkH
  by_cases hp : chkPl qs cs = 0
  rotate_left
  · rw [if_pos hp]
    generalize chkPl qs cs = z at hp
    refine zq_ne ?_
    refine jk_nil ?_
    refine jk_if_t rfl ?_
    refine jk_seq ?_
    refine jk_region ?_
    refine zq_assign ?_
    refine jk_nil ?_
    exact jk_ret_any (res1 rfl rfl) (by (repeat (first | exact rs_nil | (refine rs_cons ?_ ?_; (focus ((repeat (first | exact .here | apply Mem.there | apply Take.there)); first | done | fail))) | exact fun ρ hρ => hρ | (intro ρ hρ; repeat (first | exact hρ | refine List.mem_cons_of_mem _ ?_)))); first | done | fail) selZ ⟨rfl, rfl⟩
  rw [if_neg (fun h => h hp), hp]
  by_cases hbig : 512 < l.length
  · rw [if_pos hbig]
    refine zq_neF ?_
    refine jk_nil ?_
    refine jk_if_f rfl ?_
    refine jk_skip ?_
    refine jk_seq ?_
    refine jk_seq ?_
    refine jk_region ?_
    refine zq_move ?_
    refine zq_len ?_
    refine zq_gt ?_
    refine jk_nil ?_
    refine jk_if_t rfl ?_
    refine jk_seq ?_
    refine jk_region ?_
    refine zq_assign ?_
    refine jk_nil ?_
    exact jk_ret_any (res1 rfl rfl) (by (repeat (first | exact rs_nil | (refine rs_cons ?_ ?_; (focus ((repeat (first | exact .here | apply Mem.there | apply Take.there)); first | done | fail))) | exact fun ρ hρ => hρ | (intro ρ hρ; repeat (first | exact hρ | refine List.mem_cons_of_mem _ ?_)))); first | done | fail) selZ ⟨rfl, rfl⟩
  rw [if_neg hbig]
  refine zq_neF ?_
  refine jk_nil ?_
  refine jk_if_f rfl ?_
  refine jk_skip ?_
  refine jk_seq ?_
  refine jk_seq ?_
  refine jk_region ?_
  refine zq_move ?_
  refine zq_len ?_
  refine zq_gtF ?_
  refine jk_nil ?_
  refine jk_if_f rfl ?_
  refine jk_skip ?_
  refine jk_seq ?_
  refine jk_seq ?_
  refine jk_region ?_
  refine zq_assign ?_
  refine jk_nil ?_
  refine jk_block ?_
  refine jk_loop [1, 2] (0 : Nat) (fun k => k ≤ l.length ∧ firstE (hdE qs.length l) k = 0) (fun k => [(5, int k)]) (fun _ => []) (fun k => l.length - k) pickZ ⟨by omega, rfl⟩ covZ selZ ?_
  rintro k ⟨hk, hI⟩
  by_cases hlt : k < l.length
  · have hx := List.getElem?_eq_getElem hlt
    obtain ⟨b2, o2, rfl, hrd, _⟩ := hdRow5 hr hx
    have hE := hdE_at (nq := qs.length) hx
    generalize l[k] = h at hrd hE
    have hva := refValid28_spec (.slice pq qs.length kq) (.slice pc cs.length kc) ρ qs kq pq h rfl rfl
    refine jk_seq ?_
    refine jk_seq ?_
    refine jk_region ?_
    refine zq_move ?_
    refine zq_move ?_
    refine zq_len ?_
    refine zq_lt ?_
    refine jk_nil ?_
    refine jk_if_t rfl ?_
    refine jk_skip ?_
    refine jk_seq ?_
    refine jk_block ?_
    refine jk_seq ?_
    refine jk_seq ?_
    refine jk_draw (.q 0 (.q 1 (.q 2 (.q 3 (.q 4 (.l 5 .e (.q 6 .nil))))))) [] rfl (by kernel_rfl) Sel.nil ?_
    refine zd_loadS ?_
    refine zd_move ?_
    refine zd_move ?_
    refine zd_idxN ?_
    refine zd_loadS ?_
    refine dj_l (a_call rfl hva rfl rfl rdZ rfl rfl ?_)
    rintro _ rfl
    by_cases hok : okHd qs.length h
    rotate_left
    · rw [if_pos hok] at hE
      have hh := firstE_hit hI (by rw [hE]; decide) _ hlt
      rw [if_pos (by rw [hh, hE]; decide), hh, hE, decide_eq_false hok]
      refine zd_not ?_
      refine dj_end ?_
      refine jk_if_t rfl ?_
      refine jk_seq ?_
      refine jk_region ?_
      refine zq_assign ?_
      refine jk_nil ?_
      exact jk_ret_any (res1 rfl rfl) (by (repeat (first | exact rs_nil | (refine rs_cons ?_ ?_; (focus ((repeat (first | exact .here | apply Mem.there | apply Take.there)); first | done | fail))) | exact fun ρ hρ => hρ | (intro ρ hρ; repeat (first | exact hρ | refine List.mem_cons_of_mem _ ?_)))); first | done | fail) selZ ⟨rfl, rfl⟩
    rw [if_neg (fun hh => hh hok)] at hE
    rw [decide_eq_true hok]
    refine zd_not ?_
    refine dj_end ?_
    refine jk_if_f rfl ?_
    refine jk_skip ?_
    refine jk_seq ?_
    by_cases h0 : k = 0
    · subst h0
      rw [if_neg (by omega)] at hE
      refine jk_draw (.q 0 (.q 1 (.q 2 (.q 3 (.q 4 (.q 5 (.q 6 (.q 7 (.q 8 (.q 9 (.q 10 (.q 11 (.q 12 (.q 13 .nil)))))))))))))) [] rfl (by kernel_rfl) Sel.nil ?_
      refine zd_move ?_
      refine zd_gtF ?_
      refine zd_move ?_
      refine dj_pass rfl rfl rfl rfl rfl ?_
      refine dj_pass rfl rfl rfl rfl rfl ?_
      refine dj_pass rfl rfl rfl rfl rfl ?_
      refine dj_pass rfl rfl rfl rfl rfl ?_
      refine dj_pass rfl rfl rfl rfl rfl ?_
      refine dj_pass rfl rfl rfl rfl rfl ?_
      refine dj_pass rfl rfl rfl rfl rfl ?_
      refine dj_pass rfl rfl rfl rfl rfl ?_
      refine dj_pass rfl rfl rfl rfl rfl ?_
      refine dj_pass rfl rfl rfl rfl rfl ?_
      refine zd_pick_f ?_
      refine dj_end ?_
      refine jk_if_f rfl ?_
      refine jk_skip ?_
      refine jk_blk ?_
      refine jk_region ?_
      refine zq_move ?_
      refine zq_inc ?_
      refine zq_assign ?_
      refine jk_nil ?_
      exact jk_round (0 + 1) ⟨by omega, firstE_ok hI hE⟩ (by omega) covZ selZ
    · have hlt' : k - 1 < l.length := by omega
      have hx' := List.getElem?_eq_getElem hlt'
      obtain ⟨_, _, e, hrd', _⟩ := hdRow5 hr hx'
      simp only [Option.some.injEq, Addr.mk.injEq, and_true] at e
      obtain ⟨rfl, rfl⟩ := e
      rw [List.getD_eq_getElem?_getD, hx', Option.getD_some, cmpHd_neg] at hE
      generalize l[k - 1] = g at hrd' hE
      have hle := less_spec h g
      refine jk_draw (.q 0 (.q 1 (.q 2 (.q 3 (.q 4 (.q 5 (.q 6 (.q 7 (.q 8 (.q 9 (.q 10 (.q 11 (.l 12 .e (.q 13 .nil)))))))))))))) [] rfl (by kernel_rfl) Sel.nil ?_
      refine zd_move ?_
      refine zd_gt ?_
      refine zd_move ?_
      refine zd_move ?_
      refine zd_move ?_
      refine zd_idxN ?_
      refine zd_loadS ?_
      refine zd_move ?_
      refine zd_move ?_
      refine zd_sub_nat ?_
      refine zd_idxN ?_
      refine zd_loadS ?_
      refine dj_l (a_call rfl hle rfl rfl rdZ rfl rfl ?_)
      rintro _ rfl
      by_cases hc9 : cmpHd h g < 0
      · rw [if_pos (by omega)] at hE
        have hh := firstE_hit hI (by rw [hE]; decide) _ hlt
        rw [if_pos (by rw [hh, hE]; decide), hh, hE, decide_eq_true hc9]
        refine zd_pick_t ?_
        refine dj_end ?_
        refine jk_if_t rfl ?_
        refine jk_seq ?_
        refine jk_region ?_
        refine zq_assign ?_
        refine jk_nil ?_
        exact jk_ret_any (res1 rfl rfl) (by (repeat (first | exact rs_nil | (refine rs_cons ?_ ?_; (focus ((repeat (first | exact .here | apply Mem.there | apply Take.there)); first | done | fail))) | exact fun ρ hρ => hρ | (intro ρ hρ; repeat (first | exact hρ | refine List.mem_cons_of_mem _ ?_)))); first | done | fail) selZ ⟨rfl, rfl⟩
      · rw [if_neg (by omega)] at hE
        rw [decide_eq_false hc9]
        refine zd_pick_t ?_
        refine dj_end ?_
        refine jk_if_f rfl ?_
        refine jk_skip ?_
        refine jk_blk ?_
        refine jk_region ?_
        refine zq_move ?_
        refine zq_inc ?_
        refine zq_assign ?_
        refine jk_nil ?_
        exact jk_round (k + 1) ⟨by omega, firstE_ok hI hE⟩ (by omega) covZ selZ
  have hke : k = l.length := by omega
  subst hke
  have hok := hdE_ok hI
  rw [List.take_length] at hok
  rw [if_neg (by rw [hI]; simp)]
  refine jk_seq ?_
  refine jk_seq ?_
  refine jk_region ?_
  refine zq_move ?_
  refine zq_move ?_
  refine zq_len ?_
  refine zq_ltF ?_
  refine jk_nil ?_
  refine jk_if_f rfl ?_
  refine jk_exit rfl ?_
  refine jk_seq ?_
  refine jk_seq ?_
  refine jk_region ?_
  refine zq_loadS ?_
  refine zq_move ?_
  refine jk_call (fits_spec ρ σ pq pc kq cs.length kc qs _ l hq hv2 hok (by omega)) rfl rfl rdZ rfl rfl ?_
  rintro _ rfl
  cases fitB qs l with
  | true =>
    refine zq_not ?_
    refine jk_nil ?_
    refine jk_if_f rfl ?_
    refine jk_skip ?_
    refine jk_seq ?_
    refine jk_region ?_
    refine zq_assign ?_
    refine jk_nil ?_
    exact jk_ret_any (res1 rfl rfl) (by (repeat (first | exact rs_nil | (refine rs_cons ?_ ?_; (focus ((repeat (first | exact .here | apply Mem.there | apply Take.there)); first | done | fail))) | exact fun ρ hρ => hρ | (intro ρ hρ; repeat (first | exact hρ | refine List.mem_cons_of_mem _ ?_)))); first | done | fail) selZ ⟨rfl, rfl⟩
  | false =>
    refine zq_not ?_
    refine jk_nil ?_
    refine jk_if_t rfl ?_
    refine jk_seq ?_
    refine jk_region ?_
    refine zq_assign ?_
    refine jk_nil ?_
    exact jk_ret_any (res1 rfl rfl) (by (repeat (first | exact rs_nil | (refine rs_cons ?_ ?_; (focus ((repeat (first | exact .here | apply Mem.there | apply Take.there)); first | done | fail))) | exact fun ρ hρ => hρ | (intro ρ hρ; repeat (first | exact hρ | refine List.mem_cons_of_mem _ ?_)))); first | done | fail) selZ ⟨rfl, rfl⟩
end Go.Proofs.Ytjbebmealbnmgaa
/- What is wrong with holds, of the program. -/
namespace Go.Proofs.Ytjbebmealbnmgaa
open Go.Eng Go.Step
set_option maxRecDepth 100000
set_option maxHeartbeats 4000000

theorem chkPl_quo {qs : List Int} {cs : List Ct} (h : chkPl qs cs = 0) : (1 ≤ qs.length ∧ qs.length ≤ 16) ∧ ∀ (j : Nat) (q : Int), qs[j]? = some q → 0 ≤ q ∧ q ≤ 1073741824 := by
  unfold chkPl at h
  split at h
  · omega
  · rename_i hl
    split at h
    · rename_i h2; exact absurd h h2
    · rename_i h2
      have h3 : firstE (quoE qs) qs.length = 0 := Decidable.not_not.1 h2
      refine ⟨by omega, fun j q hj => ?_⟩
      have := firstE_zero h3 j (List.getElem?_eq_some_iff.1 hj).1
      rw [quoE_at hj] at this
      split at this <;> omega
theorem fit_all {qs : List Int} {l : List Hd} (hok : ∀ h ∈ l, okHd qs.length h) (hq : ∀ (j : Nat) (q : Int), qs[j]? = some q → 0 ≤ q ∧ q ≤ 1073741824) (H : ∀ (j : Nat) (q : Int), qs[j]? = some q → mostL (lvH l j) ≤ q) : fitB qs l = true :=
  List.all_eq_true.2 (fun h hm => decide_eq_true (by
    have hn := (hok h hm).1
    obtain ⟨nn, hnn⟩ := Int.eq_ofNat_of_zero_le hn.1
    have hx := List.getElem?_eq_getElem (show nn < qs.length by omega)
    have := (most_fits hok (hq nn _ hx).1).1 (H nn _ hx) h hm hnn
    rw [hnn, Int.toNat_natCast, List.getD_eq_getElem?_getD, hx]
    exact this))
theorem fit_bad {qs : List Int} {l : List Hd} (hok : ∀ h ∈ l, okHd qs.length h) {j : Nat} {q : Int} (hj : qs[j]? = some q) (hq : 0 ≤ q) (H : q < mostL (lvH l j)) : fitB qs l = false := by
  cases hf : fitB qs l with
  | false => rfl
  | true =>
    exfalso
    have : mostL (lvH l j) ≤ q := (most_fits hok hq).2 (fun h hm hn => by
      have := of_decide_eq_true (List.all_eq_true.1 hf h hm)
      rw [hn, Int.toNat_natCast, List.getD_eq_getElem?_getD, hj] at this
      exact this)
    omega
theorem lvH_len (l : List Hd) (n : Int) : (lvH l n).length ≤ 2 * l.length := by
  have := comb_len (Step.stored l n) (hts l n) 0
  have := hts_len2 l n
  unfold lvH; omega
set_option maxHeartbeats 16000000 in
theorem check28_spec (ρ τ σ : PH) (pq pc : Option Addr) (kq kc : Nat) (qs : List Int) (cs : List Ct) (v : Value) (l : List Hd) (hq : IntsAt ρ (.slice pq qs.length kq) qs) (hc : CtAt τ (.slice pc cs.length kc) cs) (hcap : cs.length ≤ kc) (lq : qs.length ≤ 9223372036854775807) (lc : cs.length ≤ 9223372036854775807) (hv : HdAt σ v l) (hl : l.length ≤ 9223372036854775807) :
    Ans Try.prog (fv 60) [.agg #[.slice pq qs.length kq, .slice pc cs.length kc], v] [ρ, τ, σ] (fun r => r = int (chkH qs cs l)) := by
  have hv2 := hv
  obtain ⟨q, c, rfl, hr⟩ := hv.val encH_len
  obtain ⟨_, _, e, hrq⟩ := hq.val Eng.encI_len
  simp only [Value.slice.injEq] at e
  obtain ⟨rfl, _, rfl⟩ := e
  refine spec_in (cap := []) Try.func60 rfl rfl Try.ntmps60 rfl (by (repeat (first | exact EnvA.nil EnvI.nil | apply EnvA.cons | apply EnvA.nil | exact EnvI.nil | apply EnvI.cons)); first | done | fail) (fun N β => ?_)
  refine jk_seq ?_
  refine jk_region ?_
  refine jk_op (l_boxS rfl) rfl rfl rfl ?_
  rintro _ _ ⟨b1, rfl, rfl⟩
  refine jk_freeze (ρ := sng b1 _) takeZ ?_
  have c1 : RdN (sng b1 (.cells #[.slice pq qs.length kq, .slice pc cs.length kc] 25 (0, 0))) b1 0 [.slice pq qs.length kq, .slice pc cs.length kc] := fun j u hu => by rw [rdc_sng, Nat.zero_add]; simpa using hu
  have c10 : rdc (sng b1 (.cells #[.slice pq qs.length kq, .slice pc cs.length kc] 25 (0, 0))) b1 0 = some (.slice pq qs.length kq) := by rw [rdc_sng]; rfl
  refine zq_assign ?_
  refine jk_nil ?_
  refine jk_seq ?_
  refine jk_seq ?_
  refine jk_region ?_
  refine zq_loadS ?_
  refine jk_call (planCheck_spec ρ τ pq pc kq kc qs cs hq hc hcap lq lc) rfl rfl rdZ rfl rfl ?_
  rintro _ rfl
  unfold chkH
  by_cases hp : chkPl qs cs = 0
  rotate_left
  · rw [if_pos hp]
    generalize chkPl qs cs = z at hp
    refine zq_ne ?_
    refine jk_nil ?_
    refine jk_if_t rfl ?_
    refine jk_seq ?_
    refine jk_region ?_
    refine zq_assign ?_
    refine jk_nil ?_
    exact jk_ret_any (res1 rfl rfl) (by (repeat (first | exact rs_nil | (refine rs_cons ?_ ?_; (focus ((repeat (first | exact .here | apply Mem.there | apply Take.there)); first | done | fail))) | exact fun ρ hρ => hρ | (intro ρ hρ; repeat (first | exact hρ | refine List.mem_cons_of_mem _ ?_)))); first | done | fail) selZ ⟨rfl, rfl⟩
  obtain ⟨hql, hquo⟩ := chkPl_quo hp
  rw [if_neg (fun h => h hp), hp]
  by_cases hbig : 512 < l.length
  · rw [if_pos hbig]
    refine zq_neF ?_
    refine jk_nil ?_
    refine jk_if_f rfl ?_
    refine jk_skip ?_
    refine jk_seq ?_
    refine jk_seq ?_
    refine jk_region ?_
    refine zq_move ?_
    refine zq_len ?_
    refine zq_gt ?_
    refine jk_nil ?_
    refine jk_if_t rfl ?_
    refine jk_seq ?_
    refine jk_region ?_
    refine zq_assign ?_
    refine jk_nil ?_
    exact jk_ret_any (res1 rfl rfl) (by (repeat (first | exact rs_nil | (refine rs_cons ?_ ?_; (focus ((repeat (first | exact .here | apply Mem.there | apply Take.there)); first | done | fail))) | exact fun ρ hρ => hρ | (intro ρ hρ; repeat (first | exact hρ | refine List.mem_cons_of_mem _ ?_)))); first | done | fail) selZ ⟨rfl, rfl⟩
  rw [if_neg hbig]
  refine zq_neF ?_
  refine jk_nil ?_
  refine jk_if_f rfl ?_
  refine jk_skip ?_
  refine jk_seq ?_
  refine jk_seq ?_
  refine jk_region ?_
  refine zq_move ?_
  refine zq_len ?_
  refine zq_gtF ?_
  refine jk_nil ?_
  refine jk_if_f rfl ?_
  refine jk_skip ?_
  refine jk_seq ?_
  refine jk_seq ?_
  refine jk_region ?_
  refine zq_move ?_
  refine zq_len ?_
  refine zq_move ?_
  refine jk_nil ?_
  refine jk_block ?_
  refine jk_loop [1, 2, 15, 16] (0 : Nat) (fun k => k ≤ l.length ∧ firstE (hdE qs.length l) k = 0) (fun k => [(17, int k)]) (fun _ => []) (fun k => l.length - k) pickZ ⟨by omega, rfl⟩ covZ selZ ?_
  rintro k ⟨hk, hI⟩
  by_cases hlt : k < l.length
  · have hx := List.getElem?_eq_getElem hlt
    obtain ⟨b2, o2, rfl, hrd, _⟩ := hdRow5 hr hx
    have hE := hdE_at (nq := qs.length) hx
    generalize l[k] = h at hrd hE
    have hva := valid28_spec (.slice pq qs.length kq) (.slice pc cs.length kc) ρ qs kq pq h rfl rfl
    refine jk_seq ?_
    refine jk_region ?_
    refine zq_lt ?_
    refine jk_nil ?_
    refine jk_seq ?_
    refine jk_if_t rfl ?_
    refine jk_skip ?_
    refine jk_seq ?_
    refine jk_block ?_
    refine jk_seq ?_
    refine jk_region ?_
    refine zq_move ?_
    refine zq_idxN ?_
    refine zq_loadS ?_
    refine zl_allocS ?_; rintro _ _ ⟨b, rfl, rfl⟩
    refine zq_assign ?_
    refine zs_storeS ?_; rintro _ _ ⟨rfl, rfl⟩
    refine jk_nil ?_
    refine jk_seq ?_
    refine jk_seq ?_
    refine jk_region ?_
    refine zq_loadS ?_
    refine zq_loadS ?_
    revert b; intro b6
    refine jk_call hva rfl rfl rdZ rfl rfl ?_
    rintro _ rfl
    by_cases hok : okHd qs.length h
    rotate_left
    · rw [if_pos hok] at hE
      have hh := firstE_hit hI (by rw [hE]; decide) _ hlt
      rw [if_pos (by rw [hh, hE]; decide), hh, hE, decide_eq_false hok]
      refine zq_not ?_
      refine jk_nil ?_
      refine jk_if_t rfl ?_
      refine jk_seq ?_
      refine jk_region ?_
      refine zq_assign ?_
      refine jk_nil ?_
      exact jk_ret_any (res1 rfl rfl) (by (repeat (first | exact rs_nil | (refine rs_cons ?_ ?_; (focus ((repeat (first | exact .here | apply Mem.there | apply Take.there)); first | done | fail))) | exact fun ρ hρ => hρ | (intro ρ hρ; repeat (first | exact hρ | refine List.mem_cons_of_mem _ ?_)))); first | done | fail) selZ ⟨rfl, rfl⟩
    rw [if_neg (fun hh => hh hok)] at hE
    rw [decide_eq_true hok]
    refine zq_not ?_
    refine jk_nil ?_
    refine jk_if_f rfl ?_
    refine jk_skip ?_
    refine jk_seq ?_
    by_cases h0 : k = 0
    · subst h0
      rw [if_neg (by omega)] at hE
      refine jk_draw (.q 0 (.q 1 (.q 2 (.q 3 (.q 4 (.q 5 (.q 6 (.q 7 (.q 8 (.q 9 (.q 10 (.q 11 .nil)))))))))))) [sng b6 _] rfl (by kernel_rfl) selZ ?_
      refine zd_move ?_
      refine zd_gtF ?_
      refine zd_move ?_
      refine dj_pass rfl rfl rfl rfl rfl ?_
      refine dj_pass rfl rfl rfl rfl rfl ?_
      refine dj_pass rfl rfl rfl rfl rfl ?_
      refine dj_pass rfl rfl rfl rfl rfl ?_
      refine dj_pass rfl rfl rfl rfl rfl ?_
      refine dj_pass rfl rfl rfl rfl rfl ?_
      refine dj_pass rfl rfl rfl rfl rfl ?_
      refine dj_pass rfl rfl rfl rfl rfl ?_
      refine zd_pick_f ?_
      refine dj_end ?_
      refine jk_if_f rfl ?_
      refine jk_skip ?_
      refine jk_blk ?_
      refine jk_region ?_
      refine zq_inc ?_
      refine zq_move ?_
      refine jk_nil ?_
      exact jk_round (0 + 1) ⟨by omega, firstE_ok hI hE⟩ (by omega) covZ selZ
    · have hlt' : k - 1 < l.length := by omega
      have hx' := List.getElem?_eq_getElem hlt'
      obtain ⟨_, _, e, hrd', _⟩ := hdRow5 hr hx'
      simp only [Option.some.injEq, Addr.mk.injEq, and_true] at e
      obtain ⟨rfl, rfl⟩ := e
      rw [List.getD_eq_getElem?_getD, hx', Option.getD_some] at hE
      generalize l[k - 1] = g at hrd' hE
      have hle := compare_spec g h
      generalize cmpHd g h = z at hle hE
      refine jk_draw (.q 0 (.q 1 (.q 2 (.q 3 (.q 4 (.q 5 (.q 6 (.q 7 (.q 8 (.l 9 .e (.q 10 (.q 11 .nil)))))))))))) [sng b6 _] rfl (by kernel_rfl) selZ ?_
      refine zd_move ?_
      refine zd_gt ?_
      refine zd_move ?_
      refine zd_move ?_
      refine zd_move ?_
      refine zd_sub_nat ?_
      refine zd_idxN ?_
      refine zd_loadS ?_
      refine zd_loadS ?_
      refine dj_l (a_call rfl hle rfl rfl rdZ rfl rfl ?_)
      rintro _ rfl
      by_cases hc9 : 0 < z
      · rw [if_pos (by omega)] at hE
        have hh := firstE_hit hI (by rw [hE]; decide) _ hlt
        rw [if_pos (by rw [hh, hE]; decide), hh, hE]
        refine zd_gt ?_
        refine zd_pick_t ?_
        refine dj_end ?_
        refine jk_if_t rfl ?_
        refine jk_seq ?_
        refine jk_region ?_
        refine zq_assign ?_
        refine jk_nil ?_
        exact jk_ret_any (res1 rfl rfl) (by (repeat (first | exact rs_nil | (refine rs_cons ?_ ?_; (focus ((repeat (first | exact .here | apply Mem.there | apply Take.there)); first | done | fail))) | exact fun ρ hρ => hρ | (intro ρ hρ; repeat (first | exact hρ | refine List.mem_cons_of_mem _ ?_)))); first | done | fail) selZ ⟨rfl, rfl⟩
      · rw [if_neg (by omega)] at hE
        refine zd_gtF ?_
        refine zd_pick_t ?_
        refine dj_end ?_
        refine jk_if_f rfl ?_
        refine jk_skip ?_
        refine jk_blk ?_
        refine jk_region ?_
        refine zq_inc ?_
        refine zq_move ?_
        refine jk_nil ?_
        exact jk_round (k + 1) ⟨by omega, firstE_ok hI hE⟩ (by omega) covZ selZ
  have hke : k = l.length := by omega
  subst hke
  have hok := hdE_ok hI
  rw [List.take_length] at hok
  rw [if_neg (by rw [hI]; simp)]
  clear hI hk hlt
  refine jk_seq ?_
  refine jk_region ?_
  refine zq_ltF ?_
  refine jk_nil ?_
  refine jk_seq ?_
  refine jk_if_f rfl ?_
  refine jk_exit rfl ?_
  refine jk_seq ?_
  refine jk_seq ?_
  refine jk_region ?_
  refine zq_fld0 ?_
  refine zq_load ?_
  refine zq_len ?_
  refine zq_move ?_
  refine jk_nil ?_
  refine jk_block ?_
  refine jk_loop [1, 40, 41] (0 : Nat) (fun k => k ≤ qs.length ∧ ∀ (j : Nat) (q : Int), j < k → qs[j]? = some q → mostL (lvH l j) ≤ q) (fun k => [(42, int k)]) (fun _ => []) (fun k => qs.length - k) pickZ ⟨by omega, fun j q h => by omega⟩ covZ selZ ?_
  rintro k ⟨hk, hI⟩
  by_cases hlt : k < qs.length
  · have hx := List.getElem?_eq_getElem hlt
    obtain ⟨b2, o2, rfl, g1⟩ := hrq.int hx
    have hq0 := hquo k _ hx
    have hbad := @fit_bad qs l hok k _ hx hq0.1
    have hnext : mostL (lvH l k) ≤ qs[k] → ∀ (j : Nat) (q : Int), j < k + 1 → qs[j]? = some q → mostL (lvH l j) ≤ q := fun hle j q hj hjq => by
      by_cases e : j = k
      · subst e; rw [hx] at hjq; injection hjq with hjq; rw [← hjq]; exact hle
      · exact hI j q (by omega) hjq
    generalize qs[k] = qv at g1 hbad hnext
    refine jk_seq ?_
    refine jk_region ?_
    refine zq_lt ?_
    refine jk_nil ?_
    refine jk_seq ?_
    refine jk_if_t rfl ?_
    refine jk_skip ?_
    refine jk_seq ?_
    refine jk_block ?_
    refine jk_seq ?_
    refine jk_region ?_
    refine zq_move ?_
    refine zq_idx1 ?_
    refine zq_load ?_
    refine zq_assign ?_
    refine zq_assign ?_
    refine jk_nil ?_
    refine jk_seq ?_
    refine jk_region ?_
    refine zq_move ?_
    refine zq_move ?_
    refine jk_callM (levels_spec σ _ l k qs.length hv2 hok (by omega)) rfl rfl rdZ rfl rfl ?_
    rintro ul σl hOl
    have hL : LvAt σl ul (lvH l k) := hOl.at
    have hll := lvH_len l k
    refine jk_call (most_spec σl ul (lvH l k) hL (by omega)) rfl rfl rdZ rfl rfl ?_
    rintro _ rfl
    generalize mostL (lvH l k) = mv at hbad hnext
    by_cases hcq : qv < mv
    · rw [hbad hcq]
      refine zq_move ?_
      refine zq_gt ?_
      refine jk_nil ?_
      refine jk_if_t rfl ?_
      refine jk_seq ?_
      refine jk_region ?_
      refine zq_assign ?_
      refine jk_nil ?_
      exact jk_ret_any (res1 rfl rfl) (by (repeat (first | exact rs_nil | (refine rs_cons ?_ ?_; (focus ((repeat (first | exact .here | apply Mem.there | apply Take.there)); first | done | fail))) | exact fun ρ hρ => hρ | (intro ρ hρ; repeat (first | exact hρ | refine List.mem_cons_of_mem _ ?_)))); first | done | fail) selZ ⟨rfl, rfl⟩
    · have hn2 := hnext (by omega)
      refine zq_move ?_
      refine zq_gtF ?_
      refine jk_nil ?_
      refine jk_if_f rfl ?_
      refine jk_skip ?_
      refine jk_blk ?_
      refine jk_region ?_
      refine zq_inc ?_
      refine zq_move ?_
      refine jk_nil ?_
      exact jk_round (k + 1) ⟨by omega, hn2⟩ (by omega) covZ selZ
  have hke : k = qs.length := by omega
  subst hke
  rw [fit_all hok hquo (fun j q hj => hI j q (List.getElem?_eq_some_iff.1 hj).1 hj)]
  refine jk_seq ?_
  refine jk_region ?_
  refine zq_ltF ?_
  refine jk_nil ?_
  refine jk_seq ?_
  refine jk_if_f rfl ?_
  refine jk_exit rfl ?_
  refine jk_seq ?_
  refine jk_region ?_
  refine zq_assign ?_
  refine jk_nil ?_
  exact jk_ret_any (res1 rfl rfl) (by (repeat (first | exact rs_nil | (refine rs_cons ?_ ?_; (focus ((repeat (first | exact .here | apply Mem.there | apply Take.there)); first | done | fail))) | exact fun ρ hρ => hρ | (intro ρ hρ; repeat (first | exact hρ | refine List.mem_cons_of_mem _ ?_)))); first | done | fail) selZ ⟨rfl, rfl⟩
end Go.Proofs.Ytjbebmealbnmgaa
/- Where a node can store more: two ways to say it. No program in sight. No conditions. -/
namespace Go.Step
def frA (Q s : Int) (st : Int × List (Int × Int)) (t v : Int) : Int × List (Int × Int) :=
  if Q - v < s then (-1, if 0 ≤ st.1 ∧ st.1 < t then st.2 ++ [(st.1, t)] else st.2) else (if st.1 < 0 then t else st.1, st.2)
def frL (Q s : Int) (st : Int × List (Int × Int)) (x : Lv) : Int × List (Int × Int) := if x.a < 1099511627776 then frA Q s st x.a x.v else st
def finA (st : Int × List (Int × Int)) : List (Int × Int) := if 0 ≤ st.1 ∧ st.1 < 1099511627776 then st.2 ++ [(st.1, 1099511627776)] else st.2
def freeP (Q s : Int) (f : List Lv) : List (Int × Int) := finA (f.foldl (frL Q s) (frA Q s (-1, []) 0 0))
def frB (Q s : Int) (st : (Int × Bool) × List (Int × Int)) (x : Lv) : (Int × Bool) × List (Int × Int) :=
  ((if s ≤ Q - x.v ∧ st.1.2 = false then x.a else st.1.1, decide (s ≤ Q - x.v)), if st.1.2 = true ∧ Q - x.v < s ∧ st.1.1 < x.a then st.2 ++ [(st.1.1, x.a)] else st.2)
def finB (st : (Int × Bool) × List (Int × Int)) : List (Int × Int) := if st.1.2 = true ∧ st.1.1 < 1099511627776 then st.2 ++ [(st.1.1, 1099511627776)] else st.2
def freeR (Q s : Int) (f : List Lv) : List (Int × Int) := finB (f.foldl (frB Q s) ((0, decide (s ≤ Q)), []))
structure RlF (A : Int × List (Int × Int)) (B : (Int × Bool) × List (Int × Int)) : Prop where
  o : A.2 = B.2
  p : 0 ≤ B.1.1
  f : A.1 = if B.1.2 = true then B.1.1 else -1
theorem RlF.step {Q s : Int} {A : Int × List (Int × Int)} {B : (Int × Bool) × List (Int × Int)} (h : RlF A B) {x : Lv} (h0 : 0 ≤ x.a) : RlF (frA Q s A x.a x.v) (frB Q s B x) := by
  obtain ⟨a1, a2⟩ := A
  obtain ⟨⟨b1, b2⟩, b3⟩ := B
  obtain ⟨h1, h2, h3⟩ := h
  dsimp only at h1 h2 h3
  subst h1
  unfold frA frB
  dsimp only
  by_cases hr : Q - x.v < s
  · rw [if_pos hr]
    have hd : decide (s ≤ Q - x.v) = false := decide_eq_false (by omega)
    cases b2 with
    | true =>
      simp only [if_true] at h3
      subst h3
      refine ⟨?_, ?_, ?_⟩
      · dsimp only
        by_cases hl : a1 < x.a
        · rw [if_pos ⟨h2, hl⟩, if_pos ⟨rfl, hr, hl⟩]
        · rw [if_neg (by omega), if_neg (by omega)]
      · dsimp only; rw [if_neg (by simp)]; exact h2
      · dsimp only; rw [hd]; rfl
    | false =>
      have h3' : a1 = -1 := by simpa using h3
      subst h3'
      refine ⟨?_, ?_, ?_⟩
      · dsimp only
        rw [if_neg (by omega), if_neg (by simp)]
      · dsimp only; rw [if_neg (by omega)]; exact h2
      · dsimp only; rw [hd]; rfl
  · rw [if_neg hr]
    have hd : decide (s ≤ Q - x.v) = true := decide_eq_true (by omega)
    cases b2 with
    | true =>
      simp only [if_true] at h3
      subst h3
      refine ⟨?_, ?_, ?_⟩
      · dsimp only; rw [if_neg (by omega)]
      · dsimp only; rw [if_neg (by simp)]; exact h2
      · dsimp only; rw [hd, if_pos rfl, if_neg (by omega), if_neg (by simp)]
    | false =>
      have h3' : a1 = -1 := by simpa using h3
      subst h3'
      refine ⟨?_, ?_, ?_⟩
      · dsimp only; rw [if_neg (by simp)]
      · dsimp only; rw [if_pos ⟨by omega, rfl⟩]; exact h0
      · dsimp only; rw [hd, if_pos rfl, if_pos (by omega), if_pos ⟨by omega, rfl⟩]
theorem RlF.fin {A : Int × List (Int × Int)} {B : (Int × Bool) × List (Int × Int)} (h : RlF A B) : finA A = finB B := by
  obtain ⟨a1, a2⟩ := A
  obtain ⟨⟨b1, b2⟩, b3⟩ := B
  obtain ⟨h1, h2, h3⟩ := h
  dsimp only at h1 h2 h3
  subst h1
  unfold finA finB
  dsimp only
  cases b2 with
  | true =>
    simp only [if_true] at h3
    subst h3
    by_cases hl : a1 < 1099511627776
    · rw [if_pos ⟨h2, hl⟩, if_pos ⟨rfl, hl⟩]
    · rw [if_neg (by omega), if_neg (by omega)]
  | false =>
    have h3' : a1 = -1 := by simpa using h3
    subst h3'
    rw [if_neg (by omega), if_neg (by simp)]
theorem RlF.last {Q s : Int} {A : Int × List (Int × Int)} {B : (Int × Bool) × List (Int × Int)} (h : RlF A B) {x : Lv} (hx : x.a = 1099511627776) : finA A = finB (frB Q s B x) := by
  obtain ⟨a1, a2⟩ := A
  obtain ⟨⟨b1, b2⟩, b3⟩ := B
  obtain ⟨h1, h2, h3⟩ := h
  dsimp only at h1 h2 h3
  subst h1
  unfold finA finB frB
  dsimp only
  rw [hx]
  by_cases hr : Q - x.v < s
  · have hd : decide (s ≤ Q - x.v) = false := decide_eq_false (by omega)
    rw [hd]
    cases b2 with
    | true =>
      simp only [if_true] at h3
      subst h3
      by_cases hl : a1 < 1099511627776
      · rw [if_pos ⟨h2, hl⟩, if_neg (by simp), if_pos ⟨rfl, hr, hl⟩]
      · rw [if_neg (by omega), if_neg (by simp), if_neg (by omega)]
    | false =>
      have h3' : a1 = -1 := by simpa using h3
      subst h3'
      rw [if_neg (by omega), if_neg (by simp), if_neg (by simp)]
  · have hd : decide (s ≤ Q - x.v) = true := decide_eq_true (by omega)
    rw [hd]
    cases b2 with
    | true =>
      simp only [if_true] at h3
      subst h3
      rw [if_neg (by simp : ¬ (s ≤ Q - x.v ∧ true = false)), if_neg (by omega : ¬ (true = true ∧ Q - x.v < s ∧ a1 < 1099511627776))]
      by_cases hl : a1 < 1099511627776
      · rw [if_pos ⟨h2, hl⟩, if_pos ⟨rfl, hl⟩]
      · rw [if_neg (by omega), if_neg (by omega)]
    | false =>
      have h3' : a1 = -1 := by simpa using h3
      subst h3'
      rw [if_pos (⟨by omega, rfl⟩ : s ≤ Q - x.v ∧ false = false), if_neg (by omega), if_neg (by omega), if_neg (by simp)]
theorem free_fold {Q s : Int} : ∀ {f : List Lv} {p : Int} {A : Int × List (Int × Int)} {B : (Int × Bool) × List (Int × Int)}, AscT p f → -1 ≤ p → RlF A B → finA (f.foldl (frL Q s) A) = finB (f.foldl (frB Q s) B)
  | [], _, _, _, _, _, h => h.fin
  | x :: f, p, A, B, hA, hp, h => by
    have hx := hA.gt x (by simp)
    rw [List.foldl_cons, List.foldl_cons]
    by_cases hl : x.a < 1099511627776
    · have e : frL Q s A x = frA Q s A x.a x.v := by unfold frL; rw [if_pos hl]
      rw [e]
      exact free_fold hA.2.2 (by omega) (h.step (by omega))
    · have e : frL Q s A x = A := by unfold frL; rw [if_neg hl]
      have hf : f = [] := by
        cases f with
        | nil => rfl
        | cons y f =>
          have h1 := hA.2.2.gt y (by simp)
          omega
      subst hf
      rw [e]
      exact h.last (by omega)
theorem free_same {Q s : Int} {f : List Lv} (hA : AscT (-1) f) : freeP Q s f = freeR Q s f := by
  unfold freeP freeR
  refine free_fold hA (by omega) ?_
  unfold frA
  by_cases h : Q - 0 < s
  · rw [if_pos h, decide_eq_false (by omega)]
    exact ⟨by dsimp only; rw [if_neg (by omega)], by dsimp only; omega, rfl⟩
  · rw [if_neg h, decide_eq_true (by omega)]
    exact ⟨rfl, by dsimp only; omega, by dsimp only; rw [if_pos (by omega), if_pos rfl]⟩
theorem frA_len (Q s : Int) (st : Int × List (Int × Int)) (t v : Int) : (frA Q s st t v).2.length ≤ st.2.length + 1 := by
  unfold frA
  split
  · dsimp only; split <;> simp
  · dsimp only; omega
theorem frL_len (Q s : Int) (st : Int × List (Int × Int)) (x : Lv) : (frL Q s st x).2.length ≤ st.2.length + 1 := by
  unfold frL
  split
  · exact frA_len ..
  · omega
def frS (Q s : Int) (f : List Lv) (k : Nat) : Int × List (Int × Int) := (f.take k).foldl (frL Q s) (frA Q s (-1, []) 0 0)
theorem frS_next (Q s : Int) {f : List Lv} {k : Nat} {x : Lv} (h : f[k]? = some x) : frS Q s f (k + 1) = frL Q s (frS Q s f k) x := by
  obtain ⟨hk, rfl⟩ := List.getElem?_eq_some_iff.1 h
  unfold frS
  rw [List.take_succ_eq_append_getElem hk, List.foldl_append]; rfl
theorem frS_len (Q s : Int) (f : List Lv) : ∀ k, (frS Q s f k).2.length ≤ k + 1
  | 0 => by
    have := frA_len Q s (-1, []) 0 0
    unfold frS; simpa using this
  | k + 1 => by
    have ih := frS_len Q s f k
    by_cases h : k < f.length
    · rw [frS_next Q s (List.getElem?_eq_getElem h)]
      have := frL_len Q s (frS Q s f k) f[k]
      omega
    · have e : frS Q s f (k + 1) = frS Q s f k := by unfold frS; rw [List.take_of_length_le (by omega), List.take_of_length_le (by omega)]
      rw [e]; omega
theorem comb_mem {F : Int → Int} : ∀ {ts : List Int} {last : Int} {x : Lv}, x ∈ comb F last ts → x.v = F x.a ∧ x.a ∈ ts
  | [], _, x, h => by simp [comb] at h
  | t :: ts, last, x, h => by
    simp only [comb] at h
    split at h
    · rcases List.mem_cons.1 h with rfl | h
      · exact ⟨rfl, by simp⟩
      · have := comb_mem h
        exact ⟨this.1, by simp [this.2]⟩
    · have := comb_mem h
      exact ⟨this.1, by simp [this.2]⟩
theorem lvH_ok {l : List Hd} {n : Int} {nq : Nat} (hok : ∀ h ∈ l, okHd nq h) (hl : l.length ≤ 600) : chkL (-1) 0 (lvH l n) = 0 := by
  unfold lvH
  obtain ⟨h1, h2⟩ := hts_sa l n
  refine comb_chk h1 (fun t ht => ?_)
  obtain ⟨h, hm, _, hx⟩ := mem_tmH.1 ((h2 t).1 ht)
  have hv := (hok h hm).2.1
  have hb := stored_bd (n := n) (t := t) hok
  unfold okV
  rcases hx with rfl | rfl <;> omega
theorem lvH_asc {l : List Hd} {n : Int} {nq : Nat} (hok : ∀ h ∈ l, okHd nq h) (hl : l.length ≤ 600) : AscT (-1) (lvH l n) := (chkL_asc _ _ _ (lvH_ok hok hl)).t
def frT (Q s : Int) (f : List Lv) (k : Nat) : (Int × Bool) × List (Int × Int) := (f.take k).foldl (frB Q s) ((0, decide (s ≤ Q)), [])
theorem frT_next (Q s : Int) {f : List Lv} {k : Nat} {x : Lv} (h : f[k]? = some x) : frT Q s f (k + 1) = frB Q s (frT Q s f k) x := by
  obtain ⟨hk, rfl⟩ := List.getElem?_eq_some_iff.1 h
  unfold frT
  rw [List.take_succ_eq_append_getElem hk, List.foldl_append]; rfl
theorem frT_len (Q s : Int) (f : List Lv) : ∀ k, (frT Q s f k).2.length ≤ k
  | 0 => by simp [frT]
  | k + 1 => by
    have ih := frT_len Q s f k
    by_cases h : k < f.length
    · rw [frT_next Q s (List.getElem?_eq_getElem h)]
      unfold frB
      dsimp only
      split
      · rw [List.length_append, List.length_singleton]; omega
      · omega
    · have e : frT Q s f (k + 1) = frT Q s f k := by unfold frT; rw [List.take_of_length_le (by omega), List.take_of_length_le (by omega)]
      rw [e]; omega
def freeRes (qs : List Int) (cs : List Ct) (l : List Hd) (n s : Int) : List (Int × Int) × Int :=
  if chkH qs cs l ≠ 0 then ([], 1) else if n < 0 ∨ (qs.length : Int) ≤ n ∨ s < 1 ∨ 65536 < s then ([], 2) else (freeP (qs.getD n.toNat 0) s (lvH l n), 0)
end Go.Step
