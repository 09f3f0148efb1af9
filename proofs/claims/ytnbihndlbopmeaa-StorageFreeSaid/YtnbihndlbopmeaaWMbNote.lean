/- Changes noted in a map, and their times. No program in sight. No conditions. -/
import Derived.Test.YtnbihndlbopmeaaWMbMap
import Derived.Test.YtnbihndlbopmeaaWMbHold
set_option linter.all false
namespace Go.Step
open Go.Eng
theorem mget_mset (k v x : Int) : ∀ m : List (Int × Int), mget x (mset k v m) = if x = k then some v else mget x m
  | [] => by
    unfold mget mset midx
    by_cases h : x = k
    · simp [h]
    · simp [h, midx]
  | (a, w) :: m => by
    have ih := mget_mset k v x m
    unfold mget at ih ⊢
    by_cases hk : k = a
    · subst hk
      simp only [mset, if_true, midx]
      by_cases h : x = k <;> simp [h]
    · simp only [mset, if_neg hk, midx]
      by_cases h : x = a
      · subst h
        simp [Ne.symm hk]
      · simp only [if_neg h, Option.map_map]
        have e : ((fun p : Nat × Int => p.2) ∘ fun p : Nat × Int => (p.1 + 1, p.2)) = fun p => p.2 := rfl
        rw [e]
        exact ih
def noteT (m : List (Int × Int)) (T : List Int) (t : Int) : List Int := if mget t m = none then T ++ [t] else T
structure InvD (D : Int → Int) (T : List Int) (m : List (Int × Int)) : Prop where
  get : ∀ t, mget t m = if t ∈ T then some (D t) else none
  out : ∀ t, t ∉ T → D t = 0
  nd : T.Pairwise (· ≠ ·)
theorem InvD.zero : InvD (fun _ => 0) [] [] := ⟨fun t => rfl, fun _ _ => rfl, List.Pairwise.nil⟩
theorem InvD.val {D : Int → Int} {T : List Int} {m : List (Int × Int)} (h : InvD D T m) (t : Int) : (mget t m).getD 0 = D t := by
  rw [h.get t]
  split
  · rfl
  · rename_i hn; rw [h.out t hn]; rfl
theorem InvD.step {D : Int → Int} {T : List Int} {m : List (Int × Int)} (h : InvD D T m) (t d : Int) : InvD (fun x => D x + if x = t then d else 0) (noteT m T t) (mset t ((mget t m).getD 0 + d) m) ∧ (∀ x, x ∈ noteT m T t ↔ x ∈ T ∨ x = t) ∧ (noteT m T t).length ≤ T.length + 1 := by
  have hm : ∀ x, x ∈ noteT m T t ↔ x ∈ T ∨ x = t := fun x => by
    unfold noteT
    rw [h.get t]
    by_cases ht : t ∈ T
    · rw [if_pos ht, if_neg (by simp)]
      constructor
      · exact .inl
      · rintro (h | rfl) <;> assumption
    · rw [if_neg ht, if_pos rfl]; simp
  refine ⟨⟨fun x => ?_, fun x hx => ?_, ?_⟩, hm, ?_⟩
  · rw [mget_mset, h.val, h.get x]
    by_cases hx : x = t
    · subst hx
      rw [if_pos rfl, if_pos ((hm x).2 (.inr rfl))]; simp
    · rw [if_neg hx]
      by_cases hT : x ∈ T
      · rw [if_pos hT, if_pos ((hm x).2 (.inl hT))]; simp [hx]
      · rw [if_neg hT, if_neg (fun hh => by rcases (hm x).1 hh with h | h <;> contradiction)]
  · have hx1 : x ∉ T := fun hh => hx ((hm x).2 (.inl hh))
    have hx2 : x ≠ t := fun hh => hx ((hm x).2 (.inr hh))
    rw [h.out x hx1, if_neg hx2]; rfl
  · unfold noteT
    rw [h.get t]
    by_cases ht : t ∈ T
    · rw [if_pos ht, if_neg (by simp)]; exact h.nd
    · rw [if_neg ht, if_pos rfl]
      refine List.pairwise_append.2 ⟨h.nd, by simp, fun a ha b hb => ?_⟩
      simp at hb; subst hb
      intro e; subst e; exact ht ha
  · unfold noteT
    split <;> simp
theorem delta_snoc (n x : Int) (h : Hd) : ∀ l : List Hd, delta (l ++ [h]) n x = delta l n x + if h.n = n then (if h.a = x then h.s else 0) - (if h.b = x then h.s else 0) else 0
  | [] => by simp [delta]
  | g :: l => by
    have ih := delta_snoc n x h l
    simp only [List.cons_append, delta, ih]
    omega
theorem tmH_snoc (n x : Int) (h : Hd) (l : List Hd) : x ∈ tmH (l ++ [h]) n ↔ x ∈ tmH l n ∨ (h.n = n ∧ (x = h.a ∨ x = h.b)) := by
  rw [mem_tmH, mem_tmH]
  constructor
  · rintro ⟨g, hg, k⟩
    rcases List.mem_append.1 hg with hg | hg
    · exact .inl ⟨g, hg, k⟩
    · simp at hg; subst hg; exact .inr k
  · rintro (⟨g, hg, k⟩ | k)
    · exact ⟨g, by simp [hg], k⟩
    · exact ⟨h, by simp, k⟩
structure InvL (l : List Hd) (n : Int) (T : List Int) (m : List (Int × Int)) : Prop where
  d : InvD (delta l n) T m
  mem : ∀ x, x ∈ T ↔ x ∈ tmH l n
  len : T.length ≤ 2 * l.length
theorem InvL.zero (n : Int) : InvL [] n [] [] := ⟨InvD.zero, fun x => by simp [tmH], by simp⟩
theorem InvL.skip {l : List Hd} {n : Int} {T : List Int} {m : List (Int × Int)} {h : Hd} (H : InvL l n T m) (hn : h.n ≠ n) : InvL (l ++ [h]) n T m := by
  refine ⟨?_, fun x => ?_, by have := H.len; simp; omega⟩
  · have e : delta (l ++ [h]) n = delta l n := by funext x; rw [delta_snoc, if_neg hn]; omega
    rw [e]; exact H.d
  · rw [tmH_snoc, H.mem x]; simp [hn]
theorem InvL.note {l : List Hd} {n : Int} {T : List Int} {m : List (Int × Int)} {h : Hd} (H : InvL l n T m) (hn : h.n = n) :
    let m1 := mset h.a ((mget h.a m).getD 0 + h.s) m
    let T1 := noteT m T h.a
    InvL (l ++ [h]) n (noteT m1 T1 h.b) (mset h.b ((mget h.b m1).getD 0 + -h.s) m1) := by
  intro m1 T1
  obtain ⟨d1, e1, l1⟩ := H.d.step h.a h.s
  obtain ⟨d2, e2, l2⟩ := d1.step h.b (-h.s)
  refine ⟨?_, fun x => ?_, ?_⟩
  · have e : delta (l ++ [h]) n = fun x => (fun x => delta l n x + if x = h.a then h.s else 0) x + if x = h.b then -h.s else 0 := by
      funext x
      rw [delta_snoc, if_pos hn]
      dsimp only
      by_cases ha : h.a = x <;> by_cases hb : h.b = x
      · rw [if_pos ha, if_pos hb, if_pos ha.symm, if_pos hb.symm]; omega
      · rw [if_pos ha, if_neg hb, if_pos ha.symm, if_neg (fun e => hb e.symm)]; omega
      · rw [if_neg ha, if_pos hb, if_neg (fun e => ha e.symm), if_pos hb.symm]; omega
      · rw [if_neg ha, if_neg hb, if_neg (fun e => ha e.symm), if_neg (fun e => hb e.symm)]; omega
    rw [e]; exact d2
  · rw [e2, e1, tmH_snoc, H.mem x]
    constructor
    · rintro ((h | h) | h)
      · exact .inl h
      · exact .inr ⟨hn, .inl h⟩
      · exact .inr ⟨hn, .inr h⟩
    · rintro (h | ⟨_, h | h⟩)
      · exact .inl (.inl h)
      · exact .inl (.inr h)
      · exact .inr h
  · have := H.len
    show (noteT (mset h.a ((mget h.a m).getD 0 + h.s) m) (noteT m T h.a) h.b).length ≤ _
    rw [List.length_append, List.length_singleton]; omega
theorem InvL.sorted {l : List Hd} {n : Int} {T : List Int} {m : List (Int × Int)} (H : InvL l n T m) : (T.mergeSort fun x y => decide (x ≤ y)) = hts l n := by
  obtain ⟨h1, h2⟩ := hts_sa l n
  have hp : (T.mergeSort fun x y => decide (x ≤ y)).Pairwise (· ≤ ·) := by
    have := List.pairwise_mergeSort (le := fun x y : Int => decide (x ≤ y)) (by intro a b c h1 h2; simp at *; omega) (by intro a b; simp; omega) T
    exact this.imp (fun h => by simpa using h)
  have hn : (T.mergeSort fun x y => decide (x ≤ y)).Pairwise (· ≠ ·) := (List.mergeSort_perm T _).symm.pairwise H.d.nd (fun h => Ne.symm h)
  refine SA.unique ?_ h1 (fun x => ?_)
  · exact (hp.and hn).imp (fun ⟨a, b⟩ => by omega)
  · rw [List.mem_mergeSort, h2 x, H.mem x]
theorem stored_snoc (n t : Int) (h : Hd) : ∀ l : List Hd, stored (l ++ [h]) n t = stored l n t + if h.n = n ∧ h.a ≤ t ∧ t < h.b then h.s else 0
  | [] => by simp [stored]
  | g :: l => by
    have ih := stored_snoc n t h l
    simp only [List.cons_append, stored, ih]
    omega
def mostL (f : List Lv) : Int := f.foldl (fun n x => max n x.v) 0
theorem mostL_take {f : List Lv} {k : Nat} {x : Lv} (h : f[k]? = some x) : mostL (f.take (k + 1)) = max (mostL (f.take k)) x.v := by
  obtain ⟨hk, rfl⟩ := List.getElem?_eq_some_iff.1 h
  unfold mostL
  rw [List.take_succ_eq_append_getElem hk, List.foldl_append]; rfl
/-- the next time behind t -/
structure InvN (l : List Hd) (n t nx : Int) : Prop where
  no : nx < 0 → nx = -1 ∧ ∀ x ∈ tmH l n, x ≤ t
  yes : 0 ≤ nx → nx ∈ tmH l n ∧ t < nx ∧ ∀ x ∈ tmH l n, t < x → nx ≤ x
theorem InvN.zero (n t : Int) : InvN [] n t (-1) := ⟨fun _ => ⟨rfl, fun x hx => by simp [tmH] at hx⟩, fun h => by omega⟩
theorem InvN.skip {l : List Hd} {n t nx : Int} {h : Hd} (H : InvN l n t nx) (hn : h.n ≠ n) : InvN (l ++ [h]) n t nx := by
  refine ⟨fun k => ⟨(H.no k).1, fun x hx => ?_⟩, fun k => ⟨(tmH_snoc _ _ _ _).2 (.inl (H.yes k).1), (H.yes k).2.1, fun x hx => ?_⟩⟩
  · rcases (tmH_snoc _ _ _ _).1 hx with hx | hx
    · exact (H.no k).2 x hx
    · exact absurd hx.1 hn
  · rcases (tmH_snoc _ _ _ _).1 hx with hx | hx
    · exact (H.yes k).2.2 x hx
    · exact absurd hx.1 hn
def pickN (t nx x : Int) : Int := if t < x ∧ (nx < 0 ∨ x < nx) then x else nx
theorem InvN.note {l : List Hd} {n t nx : Int} {h : Hd} (H : InvN l n t nx) (hn : h.n = n) (h0 : 0 ≤ h.a ∧ 0 ≤ h.b) : InvN (l ++ [h]) n t (pickN t (pickN t nx h.a) h.b) := by
  have hm : ∀ x, x ∈ tmH (l ++ [h]) n ↔ x ∈ tmH l n ∨ x = h.a ∨ x = h.b := fun x => by rw [tmH_snoc]; simp [hn]
  unfold pickN
  by_cases c1 : t < h.a ∧ (nx < 0 ∨ h.a < nx)
  · rw [if_pos c1]
    by_cases c2 : t < h.b ∧ (h.a < 0 ∨ h.b < h.a)
    · rw [if_pos c2]
      refine ⟨fun k => by omega, fun _ => ⟨(hm _).2 (by simp), c2.1, fun x hx hx2 => ?_⟩⟩
      rcases (hm _).1 hx with hx | hx | hx
      · by_cases hk : nx < 0
        · have := (H.no hk).2 x hx; omega
        · have := (H.yes (by omega)).2.2 x hx hx2; omega
      · omega
      · omega
    · rw [if_neg c2]
      refine ⟨fun k => by omega, fun _ => ⟨(hm _).2 (by simp), c1.1, fun x hx hx2 => ?_⟩⟩
      rcases (hm _).1 hx with hx | hx | hx
      · by_cases hk : nx < 0
        · have := (H.no hk).2 x hx; omega
        · have := (H.yes (by omega)).2.2 x hx hx2; omega
      · omega
      · omega
  · rw [if_neg c1]
    by_cases c2 : t < h.b ∧ (nx < 0 ∨ h.b < nx)
    · rw [if_pos c2]
      refine ⟨fun k => by omega, fun _ => ⟨(hm _).2 (by simp), c2.1, fun x hx hx2 => ?_⟩⟩
      rcases (hm _).1 hx with hx | hx | hx
      · by_cases hk : nx < 0
        · have := (H.no hk).2 x hx; omega
        · have := (H.yes (by omega)).2.2 x hx hx2; omega
      · omega
      · omega
    · rw [if_neg c2]
      refine ⟨fun k => ⟨(H.no k).1, fun x hx => ?_⟩, fun k => ⟨(hm _).2 (.inl (H.yes k).1), (H.yes k).2.1, fun x hx hx2 => ?_⟩⟩
      · rcases (hm _).1 hx with hx | hx | hx
        · exact (H.no k).2 x hx
        · omega
        · omega
      · rcases (hm _).1 hx with hx | hx | hx
        · exact (H.yes k).2.2 x hx hx2
        · omega
        · omega
theorem SA.gap {ts : List Int} (h : SA ts) {k : Nat} (hk : k < ts.length) {x : Int} (hx : x ∈ ts) : (0 < k ∧ x ≤ ts.getD (k - 1) 0) ∨ ts[k] ≤ x := by
  obtain ⟨j, hj, rfl⟩ := List.getElem_of_mem hx
  have hp := List.pairwise_iff_getElem.1 h
  by_cases hjk : j < k
  · left
    refine ⟨by omega, ?_⟩
    rw [List.getD_eq_getElem?_getD, List.getElem?_eq_getElem (by omega : k - 1 < ts.length)]
    by_cases e : j = k - 1
    · subst e; simp
    · have := hp j (k - 1) hj (by omega) (by omega)
      simp; omega
  · right
    by_cases e : j = k
    · subst e; omega
    · have := hp k j hk hj (by omega)
      omega
theorem stored_next {l : List Hd} {n : Int} {nq : Nat} (hok : ∀ h ∈ l, okHd nq h) {k : Nat} (hk : k < (hts l n).length) : stored l n (hts l n)[k] = prevF (stored l n) (hts l n) k + delta l n (hts l n)[k] := by
  obtain ⟨h1, h2⟩ := hts_sa l n
  have hmem : ∀ h ∈ l, h.n = n → h.a ∈ hts l n ∧ h.b ∈ hts l n := fun h hl hn => ⟨(h2 _).2 (mem_tmH.2 ⟨h, hl, hn, .inl rfl⟩), (h2 _).2 (mem_tmH.2 ⟨h, hl, hn, .inr rfl⟩)⟩
  by_cases h0 : k = 0
  · subst h0
    have e : stored l n (-1) = 0 := stored_early (fun h hl hn => by have := (hok h hl).2.1; omega)
    have ht : (-1 : Int) < (hts l n)[0] := by
      obtain ⟨h, hl, hn, hx⟩ := mem_tmH.1 ((h2 _).1 (List.getElem_mem hk))
      have := (hok h hl).2.1
      rcases hx with hx | hx <;> omega
    have := stored_step ht (l := l) (n := n) (fun h hl hn => by
      have hv := (hok h hl).2.1
      obtain ⟨ma, mb⟩ := hmem h hl hn
      rcases h1.gap hk ma with g | g
      · omega
      · rcases h1.gap hk mb with g2 | g2
        · omega
        · omega)
    rw [this, e]; unfold prevF; rw [if_pos rfl]
  · have hk1 : k - 1 < (hts l n).length := by omega
    have hlt : (hts l n)[k - 1] < (hts l n)[k] := List.pairwise_iff_getElem.1 h1 (k - 1) k hk1 hk (by omega)
    have hd : (hts l n).getD (k - 1) 0 = (hts l n)[k - 1] := by rw [List.getD_eq_getElem?_getD, List.getElem?_eq_getElem hk1]; rfl
    unfold prevF
    rw [if_neg h0, hd]
    refine stored_step hlt (fun h hl hn => ?_)
    have hv := (hok h hl).2.1
    obtain ⟨ma, mb⟩ := hmem h hl hn
    have g := h1.gap hk ma
    have g2 := h1.gap hk mb
    rw [hd] at g g2
    omega
theorem hts_len (l : List Hd) (n : Int) {T : List Int} {m : List (Int × Int)} (H : InvL l n T m) : (hts l n).length ≤ 2 * l.length := by
  rw [← H.sorted, List.length_mergeSort]; exact H.len
def lastT (ts : List Int) (k : Nat) : Int := if k = 0 then -1 else ts.getD (k - 1) 0
theorem next_is {l : List Hd} {n nx : Int} {k : Nat} (h0 : ∀ x ∈ tmH l n, 0 ≤ x) (hk : k ≤ (hts l n).length) (H : InvN l n (lastT (hts l n) k) nx) : (nx < 0 → k = (hts l n).length) ∧ (0 ≤ nx → (hts l n)[k]? = some nx) := by
  obtain ⟨h1, h2⟩ := hts_sa l n
  have hlt : ∀ j, k ≤ j → ∀ hj : j < (hts l n).length, lastT (hts l n) k < (hts l n)[j] := fun j hkj hj => by
    unfold lastT
    split
    · have := h0 _ ((h2 _).1 (List.getElem_mem hj)); omega
    · rename_i hne
      rw [List.getD_eq_getElem?_getD, List.getElem?_eq_getElem (by omega : k - 1 < (hts l n).length)]
      exact List.pairwise_iff_getElem.1 h1 (k - 1) j (by omega) hj (by omega)
  constructor
  · intro hn
    by_cases e : k = (hts l n).length
    · exact e
    · exfalso
      have hk' : k < (hts l n).length := by omega
      have := (H.no hn).2 _ ((h2 _).1 (List.getElem_mem hk'))
      have := hlt k (by omega) hk'
      omega
  · intro hn
    obtain ⟨ym, yt, ymin⟩ := H.yes hn
    obtain ⟨j, hj, rfl⟩ := List.getElem_of_mem ((h2 _).2 ym)
    have hkj : k ≤ j := by
      by_cases hh : k ≤ j
      · exact hh
      · exfalso
        have hle : (hts l n)[j] ≤ lastT (hts l n) k := by
          unfold lastT
          rw [if_neg (by omega), List.getD_eq_getElem?_getD, List.getElem?_eq_getElem (by omega : k - 1 < (hts l n).length)]
          by_cases e : j = k - 1
          · subst e; simp
          · have := List.pairwise_iff_getElem.1 h1 j (k - 1) hj (by omega) (by omega)
            simp; omega
        omega
    have hkl : k < (hts l n).length := by omega
    have := ymin _ ((h2 _).1 (List.getElem_mem hkl)) (hlt k (by omega) hkl)
    by_cases e : j = k
    · subst e; rw [List.getElem?_eq_getElem hj]
    · have := List.pairwise_iff_getElem.1 h1 k j hkl hj (by omega)
      omega
end Go.Step
