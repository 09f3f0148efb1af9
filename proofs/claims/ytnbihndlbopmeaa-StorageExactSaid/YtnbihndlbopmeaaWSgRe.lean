/- Texts of this proof, one after the other; no conditions. -/
import Derived.Test.YtnbihndlbopmeaaWB8
import Derived.Test.YtnbihndlbopmeaaWB7
import Derived.Test.YtnbihndlbopmeaaWB3
import Derived.Test.YtnbihndlbopmeaaWB2
import Derived.Test.YtnbihndlbopmeaaWB5
set_option linter.all false
/- Where a function is low: intervals apart from each other. No program in sight. No conditions. -/
namespace Go.Step
/-- parts that follow on each other -/
def Chn (a : Int) : List Pt → Int → Prop
  | [], b => a = b
  | p :: ps, b => p.1.1 = a ∧ a < p.1.2 ∧ Chn p.1.2 ps b
theorem parts_chn (to : Int) : ∀ (g : List Lv) (fr now : Int), fr ≤ to → Chn fr (partsFrom fr to now g) to
  | [], fr, now, h => by
    unfold partsFrom
    split
    · exact ⟨rfl, by assumption, rfl⟩
    · show fr = to; omega
  | l :: g, fr, now, h => by
    unfold partsFrom
    split
    · exact parts_chn to g fr now h
    · rename_i hc
      exact ⟨rfl, by dsimp only; omega, parts_chn to g (min l.a to) l.v (by omega)⟩
theorem chn_ge {b : Int} : ∀ {ps : List Pt} {a : Int}, Chn a ps b → ∀ q ∈ ps, a ≤ q.1.1
  | [], _, _, q, hq => by simp at hq
  | p :: ps, a, ⟨h1, h2, h3⟩, q, hq => by
    rcases List.mem_cons.1 hq with rfl | hq
    · omega
    · have := chn_ge h3 q hq; omega
theorem chn_one {b t : Int} : ∀ {ps : List Pt} {a : Int}, Chn a ps b → ∀ {q r : Pt}, q ∈ ps → r ∈ ps → q.1.1 ≤ t ∧ t < q.1.2 → r.1.1 ≤ t ∧ t < r.1.2 → q = r
  | [], _, _, q, _, hq, _, _, _ => by simp at hq
  | p :: ps, a, ⟨h1, h2, h3⟩, q, r, hq, hr, k, k' => by
    rcases List.mem_cons.1 hq with e | hq'
    · rcases List.mem_cons.1 hr with e' | hr'
      · rw [e, e']
      · have := chn_ge h3 r hr'; subst e; omega
    · rcases List.mem_cons.1 hr with e' | hr'
      · have := chn_ge h3 q hq'; subst e'; omega
      · exact chn_one h3 hq' hr' k k'
def Cov (l : List (Int × Int)) (t : Int) : Prop := ∃ s ∈ l, s.1 ≤ t ∧ t < s.2
structure Apart (lo a : Int) (l : List (Int × Int)) : Prop where
  ok : ∀ s ∈ l, lo ≤ s.1 ∧ s.1 < s.2 ∧ s.2 ≤ a
  sep : l.Pairwise (fun s t => s.2 < t.1)
theorem bstep_ok {lim lo a : Int} {out : List (Int × Int)} {p : Pt} (h : Apart lo a out) (hlo : lo ≤ a) (h1 : p.1.1 = a) (h2 : a < p.1.2) :
    Apart lo p.1.2 (bstep lim out p) ∧ ∀ t, Cov (bstep lim out p) t ↔ Cov out t ∨ (p.2 ≤ lim ∧ p.1.1 ≤ t ∧ t < p.1.2) := by
  obtain ⟨⟨p1, p2⟩, pv⟩ := p
  dsimp only at h1 h2 ⊢
  subst h1
  by_cases hc : lim < pv
  · have e : bstep lim out ((p1, p2), pv) = out := by unfold bstep; rw [if_pos hc]
    rw [e]
    refine ⟨⟨fun s hs => ?_, h.sep⟩, fun t => ?_⟩
    · have := h.ok s hs; omega
    · constructor
      · exact fun h => .inl h
      · rintro (h | h)
        · exact h
        · omega
  · cases hg : out.getLast? with
    | none =>
      have ho : out = [] := List.getLast?_eq_none_iff.1 hg
      subst ho
      have e : bstep lim [] ((p1, p2), pv) = [(p1, p2)] := by unfold bstep; rw [if_neg hc]; rfl
      rw [e]
      refine ⟨⟨fun s hs => ?_, by simp⟩, fun t => ?_⟩
      · simp at hs; subst hs; exact ⟨hlo, h2, Int.le_refl _⟩
      · constructor
        · rintro ⟨s, hs, k⟩
          simp at hs; subst hs
          exact .inr ⟨by omega, k⟩
        · rintro (⟨s, hs, _⟩ | k)
          · simp at hs
          · exact ⟨(p1, p2), by simp, k.2⟩
    | some q =>
      obtain ⟨m, rfl⟩ : ∃ m, out = m ++ [q] := by
        have := List.getLast?_eq_some_iff.1 hg
        exact this
      have hq := h.ok q (by simp)
      have hsep := List.pairwise_append.1 h.sep
      by_cases he : q.2 = p1
      · have e : bstep lim (m ++ [q]) ((p1, p2), pv) = m ++ [(q.1, p2)] := by unfold bstep; rw [if_neg hc, hg]; simp [he]
        rw [e]
        refine ⟨⟨fun s hs => ?_, List.pairwise_append.2 ⟨hsep.1, by simp, fun s hs t ht => ?_⟩⟩, fun t => ?_⟩
        · rcases List.mem_append.1 hs with hs | hs
          · have := h.ok s (by simp [hs]); omega
          · simp at hs; subst hs; dsimp only; omega
        · simp at ht; subst ht
          exact hsep.2.2 s hs q (by simp)
        · constructor
          · rintro ⟨s, hs, k⟩
            rcases List.mem_append.1 hs with hs | hs
            · exact .inl ⟨s, by simp [hs], k⟩
            · simp at hs; subst hs
              dsimp only at k
              by_cases ht : t < p1
              · exact .inl ⟨q, by simp, by omega⟩
              · exact .inr (by omega)
          · rintro (⟨s, hs, k⟩ | k)
            · rcases List.mem_append.1 hs with hs | hs
              · exact ⟨s, by simp [hs], k⟩
              · simp at hs; subst hs
                exact ⟨(s.1, p2), by simp, by dsimp only; omega⟩
            · exact ⟨(q.1, p2), by simp, by dsimp only; omega⟩
      · have e : bstep lim (m ++ [q]) ((p1, p2), pv) = m ++ [q] ++ [(p1, p2)] := by unfold bstep; rw [if_neg hc, hg]; simp [he]
        rw [e]
        refine ⟨⟨fun s hs => ?_, List.pairwise_append.2 ⟨h.sep, by simp, fun s hs t ht => ?_⟩⟩, fun t => ?_⟩
        · rcases List.mem_append.1 hs with hs | hs
          · have := h.ok s hs; omega
          · simp at hs; subst hs; dsimp only; omega
        · simp at ht; subst ht
          dsimp only
          rcases List.mem_append.1 hs with hs | hs
          · have := hsep.2.2 s hs q (by simp)
            omega
          · simp at hs; subst hs; omega
        · constructor
          · rintro ⟨s, hs, k⟩
            rcases List.mem_append.1 hs with hs | hs
            · exact .inl ⟨s, hs, k⟩
            · simp at hs; subst hs
              exact .inr ⟨by omega, k⟩
          · rintro (⟨s, hs, k⟩ | k)
            · exact ⟨s, List.mem_append.2 (.inl hs), k⟩
            · exact ⟨(p1, p2), by simp, k.2⟩
theorem low_fold {lim lo b : Int} : ∀ (ps : List Pt) (a : Int) (out : List (Int × Int)), Apart lo a out → lo ≤ a → Chn a ps b →
    Apart lo b (ps.foldl (bstep lim) out) ∧ ∀ t, Cov (ps.foldl (bstep lim) out) t ↔ Cov out t ∨ ∃ q ∈ ps, q.2 ≤ lim ∧ q.1.1 ≤ t ∧ t < q.1.2
  | [], a, out, h, _, hc => by
    have : a = b := hc
    subst this
    exact ⟨h, fun t => by simp⟩
  | p :: ps, a, out, h, hlo, hc => by
    obtain ⟨c1, c2, c3⟩ := hc
    obtain ⟨b1, b2⟩ := bstep_ok (lim := lim) h hlo c1 c2
    obtain ⟨f1, f2⟩ := low_fold ps p.1.2 (bstep lim out p) b1 (by omega) c3
    refine ⟨f1, fun t => ?_⟩
    rw [List.foldl_cons, f2 t, b2 t]
    simp only [List.mem_cons, exists_eq_or_imp, or_assoc]
theorem low_ok {f : List Lv} {lim fr to : Int} (h0 : chkS f = 0) (hs : 0 ≤ fr ∧ fr ≤ to ∧ to ≤ 1099511627776) :
    Apart fr to (lowP lim (parts f fr to)) ∧ ∀ t, Cov (lowP lim (parts f fr to)) t ↔ (fr ≤ t ∧ t < to) ∧ val f t ≤ lim := by
  obtain ⟨_, hA⟩ := chkS_ok h0
  obtain ⟨a1, a2⟩ := low_fold (lim := lim) (lo := fr) (b := to) (parts f fr to) fr [] ⟨fun s hs => by simp at hs, by simp⟩ (Int.le_refl _) (parts_chn to f fr _ hs.2.1)
  refine ⟨a1, fun t => ?_⟩
  have a2t := a2 t
  unfold lowP
  rw [a2t]
  have hq := (parts_area hA hs.1 hs.2.1).2
  constructor
  · rintro (⟨s, hs, _⟩ | ⟨q, hm, h1, h2, h3⟩)
    · simp at hs
    · have q4 := hq q hm
      obtain ⟨q', hm', g1, g2, g3⟩ := parts_cover hA hs.2.1 (t := t) (by omega) (by omega)
      refine ⟨by omega, ?_⟩
      have e := chn_one (parts_chn to f fr (val f fr) hs.2.1) hm hm' ⟨h2, h3⟩ ⟨g1, g2⟩
      subst e
      omega
  · rintro ⟨⟨h1, h2⟩, h3⟩
    obtain ⟨q', hm', g1, g2, g3⟩ := parts_cover hA hs.2.1 h1 h2
    exact .inr ⟨q', hm', by omega, g1, g2⟩
theorem cov_one {lo a : Int} {l : List (Int × Int)} (h : Apart lo a l) {x y : Int} (hxy : x < y) (hc : ∀ t, x ≤ t → t < y → Cov l t) : ∃ s ∈ l, s.1 ≤ x ∧ y ≤ s.2 := by
  obtain ⟨s, hs, h1, h2⟩ := hc x (Int.le_refl _) hxy
  by_cases hy : y ≤ s.2
  · exact ⟨s, hs, h1, hy⟩
  · obtain ⟨u, hu, k1, k2⟩ := hc s.2 (by omega) (by omega)
    have hsu : s = u ∨ s.2 < u.1 ∨ u.2 < s.1 := by
      obtain ⟨i, hi, rfl⟩ := List.getElem_of_mem hs
      obtain ⟨j, hj, rfl⟩ := List.getElem_of_mem hu
      have := List.pairwise_iff_getElem.1 h.sep
      by_cases e : i = j
      · subst e; exact .inl rfl
      · by_cases e2 : i < j
        · exact .inr (.inl (this i j hi hj e2))
        · exact .inr (.inr (this j i hj hi (by omega)))
    have := h.ok s hs
    rcases hsu with rfl | h | h <;> omega
theorem low_more {f : List Lv} {lim d fr to : Int} (hd : 0 ≤ d) (h0 : chkS f = 0) (hs : 0 ≤ fr ∧ fr ≤ to ∧ to ≤ 1099511627776) :
    ∀ s ∈ lowP lim (parts f fr to), ∃ u ∈ lowP (lim + d) (parts f fr to), u.1 ≤ s.1 ∧ s.2 ≤ u.2 := fun s hm => by
  obtain ⟨a1, a2⟩ := low_ok (lim := lim) h0 hs
  obtain ⟨b1, b2⟩ := low_ok (lim := lim + d) h0 hs
  have := a1.ok s hm
  refine cov_one b1 this.2.1 (fun t h1 h2 => (b2 t).2 ?_)
  have := (a2 t).1 ⟨s, hm, h1, h2⟩
  omega
end Go.Step
/- The free spans of a node are exactly the times with room. No program in sight. No conditions. -/
namespace Go.Step
structure InvF (Q s : Int) (G : Int → Int) (T v : Int) (st : Int × List (Int × Int)) : Prop where
  ap : Apart 0 T st.2
  fr : st.1 = -1 ∨ (0 ≤ st.1 ∧ st.1 ≤ T ∧ ∀ u ∈ st.2, u.2 < st.1)
  cov : ∀ t, 0 ≤ t → t < T → ((Cov st.2 t ∨ (0 ≤ st.1 ∧ st.1 ≤ t)) ↔ G t + s ≤ Q)
  now : 0 ≤ st.1 ↔ v + s ≤ Q
theorem cov_snoc (l : List (Int × Int)) (x : Int × Int) (t : Int) : Cov (l ++ [x]) t ↔ Cov l t ∨ (x.1 ≤ t ∧ t < x.2) := by
  unfold Cov
  constructor
  · rintro ⟨s, hs, h⟩
    rcases List.mem_append.1 hs with hs | hs
    · exact .inl ⟨s, hs, h⟩
    · simp only [List.mem_singleton] at hs; subst hs; exact .inr h
  · rintro (⟨s, hs, h⟩ | h)
    · exact ⟨s, by simp [hs], h⟩
    · exact ⟨x, by simp, h⟩
theorem apart_snoc {T T' : Int} {l : List (Int × Int)} {x : Int × Int} (h : Apart 0 T l) (hT : T ≤ T') (hx : 0 ≤ x.1 ∧ x.1 < x.2 ∧ x.2 ≤ T') (hs : ∀ u ∈ l, u.2 < x.1) : Apart 0 T' (l ++ [x]) := by
  refine ⟨fun s hm => ?_, List.pairwise_append.2 ⟨h.sep, by simp, fun a ha b hb => ?_⟩⟩
  · rcases List.mem_append.1 hm with hm | hm
    · have := h.ok s hm; omega
    · simp only [List.mem_singleton] at hm; subst hm; exact hx
  · simp only [List.mem_singleton] at hb; subst hb; exact hs a ha
theorem apart_mono {T T' : Int} {l : List (Int × Int)} (h : Apart 0 T l) (hT : T ≤ T') : Apart 0 T' l := ⟨fun s hm => by have := h.ok s hm; omega, h.sep⟩
theorem InvF.step {Q s : Int} {G : Int → Int} {T v : Int} {st : Int × List (Int × Int)} (h : InvF Q s G T v st) {T' v' : Int} (h0 : 0 ≤ T) (hT : T < T' ∨ (T = T' ∧ st.2 = [])) (hG : ∀ t, T ≤ t → t < T' → G t = v) : InvF Q s G T' v' (frA Q s st T' v') := by
  have hle : T ≤ T' := by omega
  obtain ⟨fr, out⟩ := st
  obtain ⟨hap, hfr, hcov, hnow⟩ := h
  dsimp only at hap hfr hcov hnow hT
  unfold frA
  by_cases hc : Q - v' < s
  · rw [if_pos hc]
    dsimp only
    by_cases ho : 0 ≤ fr ∧ fr < T'
    · rw [if_pos ho]
      have hsep : ∀ u ∈ out, u.2 < fr := by rcases hfr with h | h; omega; exact h.2.2
      refine ⟨apart_snoc hap hle ⟨ho.1, ho.2, Int.le_refl _⟩ hsep, .inl rfl, fun t ht ht2 => ?_, by constructor <;> intro h <;> omega⟩
      dsimp only
      rw [cov_snoc]
      dsimp only
      by_cases c : t < T
      · have := hcov t ht c
        rw [← this]
        constructor
        · rintro ((h | h) | h)
          · exact .inl h
          · exact .inr ⟨ho.1, h.1⟩
          · omega
        · rintro (h | h)
          · exact .inl (.inl h)
          · exact .inl (.inr ⟨h.2, ht2⟩)
      · rw [hG t (by omega) ht2]
        have := hnow.1 ho.1
        constructor
        · intro _; exact this
        · intro _
          refine .inl (.inr ⟨?_, ht2⟩)
          rcases hfr with h | h <;> omega
    · rw [if_neg ho]
      refine ⟨apart_mono hap hle, .inl rfl, fun t ht ht2 => ?_, by constructor <;> intro h <;> dsimp only at * <;> omega⟩
      dsimp only
      by_cases c : t < T
      · rw [← hcov t ht c]
        constructor
        · rintro (h | h)
          · exact .inl h
          · omega
        · rintro (h | h)
          · exact .inl h
          · omega
      · rw [hG t (by omega) ht2]
        constructor
        · rintro (⟨u, hu, h⟩ | h)
          · have := hap.ok u hu; omega
          · omega
        · intro h
          have := hnow.2 h
          exact absurd ⟨this, by rcases hfr with k | k <;> omega⟩ ho
  · rw [if_neg hc]
    dsimp only
    by_cases ho : fr < 0
    · rw [if_pos ho]
      refine ⟨apart_mono hap hle, .inr ⟨by dsimp only; omega, Int.le_refl _, fun u hu => ?_⟩, fun t ht ht2 => ?_, by constructor <;> intro h <;> dsimp only at * <;> omega⟩
      · dsimp only at hu ⊢
        have := hap.ok u hu
        rcases hT with h | h
        · omega
        · rw [h.2] at hu; simp at hu
      · dsimp only
        by_cases c : t < T
        · rw [← hcov t ht c]
          constructor
          · rintro (h | h)
            · exact .inl h
            · omega
          · rintro (h | h)
            · exact .inl h
            · omega
        · rw [hG t (by omega) ht2]
          constructor
          · rintro (⟨u, hu, h⟩ | h)
            · have := hap.ok u hu; omega
            · omega
          · intro h
            have := hnow.2 h; omega
    · rw [if_neg ho]
      have hf : 0 ≤ fr ∧ fr ≤ T ∧ ∀ u ∈ out, u.2 < fr := by
        rcases hfr with h | h
        · omega
        · exact h
      refine ⟨apart_mono hap hle, .inr ⟨hf.1, by dsimp only; omega, hf.2.2⟩, fun t ht ht2 => ?_, by constructor <;> intro h <;> dsimp only at * <;> omega⟩
      dsimp only
      by_cases c : t < T
      · exact hcov t ht c
      · rw [hG t (by omega) ht2]
        have := hnow.1 hf.1
        constructor
        · intro _; exact this
        · intro _; exact .inr ⟨hf.1, by omega⟩
theorem InvF.fin {Q s : Int} {G : Int → Int} {T v : Int} {st : Int × List (Int × Int)} (h : InvF Q s G T v st) (h0 : 0 ≤ T) (hT : T ≤ 1099511627776) (hG : ∀ t, T ≤ t → t < 1099511627776 → G t = v) :
    Apart 0 1099511627776 (finA st) ∧ ∀ t, 0 ≤ t → t < 1099511627776 → (Cov (finA st) t ↔ G t + s ≤ Q) := by
  obtain ⟨fr, out⟩ := st
  obtain ⟨hap, hfr, hcov, hnow⟩ := h
  dsimp only at hap hfr hcov hnow
  unfold finA
  dsimp only
  by_cases ho : 0 ≤ fr ∧ fr < 1099511627776
  · rw [if_pos ho]
    have hf : fr ≤ T ∧ ∀ u ∈ out, u.2 < fr := by rcases hfr with h | h; omega; exact h.2
    refine ⟨apart_snoc hap hT ⟨ho.1, ho.2, Int.le_refl _⟩ hf.2, fun t ht ht2 => ?_⟩
    rw [cov_snoc]
    dsimp only
    by_cases c : t < T
    · rw [← hcov t ht c]
      constructor
      · rintro (h | h)
        · exact .inl h
        · exact .inr ⟨ho.1, h.1⟩
      · rintro (h | h)
        · exact .inl h
        · exact .inr ⟨h.2, ht2⟩
    · rw [hG t (by omega) ht2]
      have := hnow.1 ho.1
      constructor
      · intro _; exact this
      · intro _; exact .inr ⟨by omega, ht2⟩
  · rw [if_neg ho]
    refine ⟨apart_mono hap hT, fun t ht ht2 => ?_⟩
    by_cases c : t < T
    · rw [← hcov t ht c]
      constructor
      · exact fun h => .inl h
      · rintro (h | h)
        · exact h
        · omega
    · rw [hG t (by omega) ht2]
      constructor
      · rintro ⟨u, hu, h⟩
        have := hap.ok u hu; omega
      · intro h
        have := hnow.2 h
        exact absurd ⟨this, by rcases hfr with k | k <;> omega⟩ ho
theorem free_fold2 {Q s : Int} {G : Int → Int} : ∀ {f : List Lv} {p T v : Int} {st : Int × List (Int × Int)}, AscT p f → InvF Q s G T v st → 0 ≤ T → T ≤ 1099511627776 → (T = p ∨ (p = -1 ∧ T = 0 ∧ st.2 = [])) → (∀ t, T ≤ t → G t = vat v f t) →
    Apart 0 1099511627776 (finA (f.foldl (frL Q s) st)) ∧ ∀ t, 0 ≤ t → t < 1099511627776 → (Cov (finA (f.foldl (frL Q s) st)) t ↔ G t + s ≤ Q)
  | [], p, T, v, st, _, h, h0, h1, _, hG => h.fin h0 h1 (fun t ht _ => hG t ht)
  | x :: f, p, T, v, st, hA, h, h0, h1, hp, hG => by
    have hxa : p < x.a ∧ x.a ≤ 1099511627776 := hA.gt x (by simp)
    have hA2 : AscT x.a f := hA.2.2
    have hv1 : ∀ t, T ≤ t → t < x.a → G t = v := fun t ht h2 => by
      rw [hG t ht]
      exact vat_late (x :: f) v t (fun l hl => by simp at hl; subst hl; exact h2)
    rw [List.foldl_cons]
    by_cases c : x.a < 1099511627776
    · have e : frL Q s st x = frA Q s st x.a x.v := by unfold frL; rw [if_pos c]
      rw [e]
      refine free_fold2 (p := x.a) (T := x.a) (v := x.v) hA2 (h.step h0 (by rcases hp with h | ⟨h, k, m⟩; exact .inl (by omega); exact if c : T < x.a then .inl c else .inr ⟨by omega, m⟩) hv1) (by omega) hxa.2 (.inl rfl) (fun t ht => ?_)
      rw [hG t (by omega)]
      have := vat_append [x] f v t (by simpa using ht)
      rw [List.singleton_append] at this
      have e2 : vat v [x] t = x.v := vat_last [] x v t (by simp) ht
      rw [this, e2]
    · have e : frL Q s st x = st := by unfold frL; rw [if_neg c]
      have hf : f = [] := by
        cases f with
        | nil => rfl
        | cons y f => have := hA2.gt y (by simp); omega
      subst hf
      rw [e]
      exact h.fin h0 h1 (fun t ht h2 => hv1 t ht (by omega))
theorem free_exact {Q s : Int} {f : List Lv} (hA : AscT (-1) f) : Apart 0 1099511627776 (freeP Q s f) ∧ ∀ t, 0 ≤ t → t < 1099511627776 → (Cov (freeP Q s f) t ↔ val f t + s ≤ Q) := by
  unfold freeP
  refine free_fold2 (G := val f) (p := -1) (T := 0) (v := 0) hA ?_ (by omega) (by omega) ?_ (fun t _ => rfl)
  · unfold frA
    by_cases c : Q - 0 < s
    · rw [if_pos c]
      exact ⟨⟨by simp, by simp⟩, .inl rfl, fun t h1 h2 => by omega, by constructor <;> intro h <;> dsimp only at * <;> omega⟩
    · rw [if_neg c]
      exact ⟨⟨by simp, by simp⟩, .inr ⟨by simp, by simp, by simp⟩, fun t h1 h2 => by omega, by constructor <;> intro h <;> simp at * <;> omega⟩
  · refine .inr ⟨rfl, rfl, ?_⟩
    unfold frA
    by_cases c : Q - 0 < s
    · rw [if_pos c]; rfl
    · rw [if_neg c]
theorem stored_const {n a b : Int} (hab : a ≤ b) : ∀ {l : List Hd}, (∀ y ∈ tmH l n, ¬ (a < y ∧ y ≤ b)) → stored l n b = stored l n a
  | [], _ => rfl
  | h :: l, H => by
    have ih := stored_const hab (l := l) (fun y hy => H y (by
      obtain ⟨g, hg, k⟩ := mem_tmH.1 hy
      exact mem_tmH.2 ⟨g, by simp [hg], k⟩))
    simp only [stored, ih]
    by_cases hn : h.n = n
    · have h1 := H h.a (mem_tmH.2 ⟨h, by simp, hn, .inl rfl⟩)
      have h2 := H h.b (mem_tmH.2 ⟨h, by simp, hn, .inr rfl⟩)
      simp only [hn, true_and]
      split <;> split <;> omega
    · simp only [hn, false_and, if_false]
theorem lvH_val {l : List Hd} {n : Int} {nq : Nat} (hok : ∀ h ∈ l, okHd nq h) {t : Int} (ht : -1 ≤ t) : val (lvH l n) t = stored l n t := by
  obtain ⟨h1, h2⟩ := hts_sa l n
  have e0 : stored l n (-1) = 0 := stored_early (fun h hl hn => by have := (hok h hl).2.1; omega)
  unfold lvH val
  rw [vat_comb h1]
  have := tv_eq (F := stored l n) (p := -1) (t := t) h1 (fun x hx => by
    obtain ⟨h, hl, _, hx⟩ := mem_tmH.1 ((h2 x).1 hx)
    have := (hok h hl).2.1
    omega) ht (fun a b _ hab hy => stored_const hab (fun y hm => hy y ((h2 y).2 hm)))
  rw [e0] at this
  exact this
/-- the free spans of a node, for holds -/
theorem free_holds {l : List Hd} {n Q s : Int} {nq : Nat} (hok : ∀ h ∈ l, okHd nq h) (hl : l.length ≤ 600) : Apart 0 1099511627776 (freeP Q s (lvH l n)) ∧ ∀ t, 0 ≤ t → t < 1099511627776 → (Cov (freeP Q s (lvH l n)) t ↔ stored l n t + s ≤ Q) := by
  obtain ⟨h1, h2⟩ := free_exact (Q := Q) (s := s) (lvH_asc (n := n) hok hl)
  refine ⟨h1, fun t ht ht2 => ?_⟩
  rw [h2 t ht ht2, lvH_val hok (by omega)]
end Go.Step
/- Laws on holds: some released, one more, in whatever order. No program in sight. No conditions. -/
namespace Go.Step
theorem chkH_of {qs : List Int} {cs : List Ct} {l : List Hd} (hp : chkPl qs cs = 0) (hl : l.length ≤ 512) (hok : ∀ x ∈ l, okHd qs.length x) (hs : SortH l) (hf : fitB qs l = true) : chkH qs cs l = 0 := by
  unfold chkH
  rw [if_neg (by simpa using hp), if_neg (by omega), if_neg (by simpa using sortH_first hok hs), if_pos hf]
theorem fit_filter {qs : List Int} {l : List Hd} (p : Hd → Bool) (hok : ∀ x ∈ l, okHd qs.length x) (hf : fitB qs l = true) : fitB qs (l.filter p) = true := by
  rw [fitB_iff] at *
  intro h hh
  have h1 := hf h (List.mem_filter.1 hh).1
  have h2 := stored_filter p h.n h.a l (fun x hx => by have := (hok x hx).2.2.1; omega)
  omega
theorem rel_ins {l : List Hd} {h : Hd} (hn : ∀ x ∈ l, x.k ≠ h.k) : relH (insH l h) h.k = l := by
  have e := List.takeWhile_append_dropWhile (p := fun x => decide (cmpHd x h ≤ 0)) (l := l)
  unfold relH insH insW
  rw [List.filter_append, List.filter_cons_of_neg (by simp), ← List.filter_append, e]
  exact List.filter_eq_self.2 (fun x hx => by simpa using hn x hx)
theorem relH_none (l : List Hd) (k : Int) : ∀ x ∈ relH l k, x.k ≠ k := fun x hx => by
  have := (List.mem_filter.1 hx).2
  simpa using this
/-- what fits at the beginnings fits always -/
theorem fits_t {l : List Hd} {n Q : Int} {nq : Nat} (hok : ∀ h ∈ l, okHd nq h) (hQ : 0 ≤ Q) : (∀ h ∈ l, h.n = n → stored l n h.a ≤ Q) ↔ ∀ t, stored l n t ≤ Q := by
  constructor
  · intro H t
    rcases last_active (n := n) (t := t) l with c | ⟨h, hl, k1, k2, k3⟩
    · have : stored l n t ≤ stored l n (-1) := stored_mono (fun g hg => ⟨by have := (hok g hg).2.2.1; omega, fun a b d => absurd ⟨b, d⟩ (c g hg a)⟩)
      have e0 : stored l n (-1) = 0 := stored_early (fun h hl hn => by have := (hok h hl).2.1; omega)
      omega
    · have : stored l n t ≤ stored l n h.a := stored_mono (fun g hg => ⟨by have := (hok g hg).2.2.1; omega, fun a b d => ⟨k3 g hg a b d, by omega⟩⟩)
      have := H h hl k1
      omega
  · exact fun H h _ _ => H h.a
theorem fit_iff_t {qs : List Int} {l : List Hd} {h : Hd} (hok : ∀ x ∈ l, okHd qs.length x) (hh : okHd qs.length h) (hf : fitB qs l = true) (hQ : 0 ≤ qs.getD h.n.toNat 0) :
    fitB qs (insH l h) = true ↔ ∀ t, h.a ≤ t → t < h.b → stored l h.n t + h.s ≤ qs.getD h.n.toNat 0 := by
  have hok2 : ∀ x ∈ insH l h, okHd qs.length x := fun x hx => by
    rcases (insW_mem _ l h x).1 hx with rfl | hx
    · exact hh
    · exact hok x hx
  rw [fit_ins hok hh hf hQ, decide_eq_true_iff, most_fits hok2 hQ, fits_t hok2 hQ]
  have hl : ∀ t, stored l h.n t ≤ qs.getD h.n.toNat 0 := (fits_t hok hQ).1 (fun x hx e => by
    have := fitB_iff.1 hf x hx
    rw [e] at this; exact this)
  constructor
  · intro H t h1 h2
    have := H t
    rw [stored_ins, if_pos ⟨rfl, h1, h2⟩] at this
    exact this
  · intro H t
    rw [stored_ins]
    by_cases c : h.a ≤ t ∧ t < h.b
    · rw [if_pos ⟨rfl, c⟩]; exact H t c.1 c.2
    · rw [if_neg (fun k => c k.2)]; have := hl t; omega
def insideB (F : List (Int × Int)) (a b : Int) : Bool := F.any (fun s => decide (s.1 ≤ a) && decide (b ≤ s.2))
theorem inside_iff {F : List (Int × Int)} (hF : Apart 0 1099511627776 F) {a b : Int} (hab : a < b) : insideB F a b = true ↔ ∀ t, a ≤ t → t < b → Cov F t := by
  unfold insideB
  rw [List.any_eq_true]
  constructor
  · rintro ⟨s, hs, h⟩ t h1 h2
    simp only [Bool.and_eq_true, decide_eq_true_eq] at h
    exact ⟨s, hs, by omega, by omega⟩
  · intro H
    obtain ⟨s, hs, h1, h2⟩ := cov_one hF hab H
    exact ⟨s, hs, by simp [h1, h2]⟩
/-- one more fits exactly if it lies within a free span -/
theorem add_inside {qs : List Int} {l : List Hd} {h : Hd} (hok : ∀ x ∈ l, okHd qs.length x) (hh : okHd qs.length h) (hf : fitB qs l = true) (hQ : 0 ≤ qs.getD h.n.toNat 0) (hl : l.length ≤ 600) :
    fitB qs (insH l h) = insideB (freeP (qs.getD h.n.toNat 0) h.s (lvH l h.n)) h.a h.b := by
  obtain ⟨k1, k2⟩ := free_holds (n := h.n) (Q := qs.getD h.n.toNat 0) (s := h.s) hok hl
  have hab := hh.2.1
  rw [Bool.eq_iff_iff, fit_iff_t hok hh hf hQ, inside_iff k1 hab.2.1]
  constructor
  · intro H t h1 h2
    exact (k2 t (by omega) (by omega)).2 (H t h1 h2)
  · intro H t h1 h2
    exact (k2 t (by omega) (by omega)).1 (H t h1 h2)
theorem insH_perm (l : List Hd) (h : Hd) : (insH l h).Perm (h :: l) := by
  have e := List.takeWhile_append_dropWhile (p := fun x => decide (cmpHd x h ≤ 0)) (l := l)
  have := List.perm_middle (a := h) (l₁ := l.takeWhile (fun x => decide (cmpHd x h ≤ 0))) (l₂ := l.dropWhile (fun x => decide (cmpHd x h ≤ 0)))
  rw [e] at this
  exact this
theorem ins_comm {l : List Hd} (hs : SortH l) (a b : Hd) : insH (insH l a) b = insH (insH l b) a := by
  refine List.Perm.eq_of_pairwise (le := fun x y => cmpHd x y ≤ 0) (fun x y _ _ h1 h2 => cmpHd_anti (by have := cmpHd_neg x y; omega)) (insH_sort (insH_sort hs a) b) (insH_sort (insH_sort hs b) a) ?_
  exact ((insH_perm _ b).trans ((insH_perm l a).cons b)).trans ((List.Perm.swap a b l).trans ((((insH_perm l b).cons a).symm).trans (insH_perm _ a).symm))
theorem add_ok {qs : List Int} {cs : List Ct} {l : List Hd} {h : Hd} (h0 : chkH qs cs l = 0) (hl : l.length < 512) (hok : ∀ x ∈ l, okHd qs.length x) (hs : SortH l) (hp : chkPl qs cs = 0) (hh : okHd qs.length h) (hf : fitB qs (insH l h) = true) : chkH qs cs (insH l h) = 0 :=
  chkH_of hp (by rw [show (insH l h).length = l.length + 1 from insW_len _ _ _]; omega) (fun x hx => by
    rcases (insW_mem _ l h x).1 hx with rfl | hx
    · exact hh
    · exact hok x hx) (insH_sort hs h) hf
theorem add_res {qs : List Int} {cs : List Ct} {l : List Hd} {h : Hd} (h0 : chkH qs cs l = 0) (hl : l.length < 512) (hh : okHd qs.length h) : addR qs cs l h = if fitB qs (insH l h) then (insH l h, 0) else ([], 15) := by
  unfold addR
  rw [if_neg (fun h => h h0), if_neg (fun h => h hh), if_neg (by omega)]
end Go.Step
/- Laws on holds that are released and added. -/
namespace Go.Proofs.Ytnbihndlbopmeaa
open Go.Eng Go.Step
set_option maxRecDepth 100000
set_option maxHeartbeats 4000000

theorem indexS_spec (ρ : PH) (Rs : List PH) (v fn : Value) (l : List (Int × Int)) (p : (Int × Int) → Bool) (hv : SlE encS 2 ρ v l) (hl : l.length ≤ 9223372036854775807) (hfn : ∀ (i : Nat) (x : (Int × Int)), l[i]? = some x → Ans Try.prog fn [.agg (encS x).toArray] Rs (fun r => r = .bool (p x))) :
    Ans Try.prog (fv 53) [v, fn] (ρ :: Rs) (fun r => (∃ (i : Nat) (x : (Int × Int)), l[i]? = some x ∧ p x = true ∧ (∀ (j : Nat) (y : (Int × Int)), j < i → l[j]? = some y → p y = false) ∧ r = int i) ∨ ((∀ x ∈ l, p x = false) ∧ r = int (-1))) := by
  obtain ⟨q, c, rfl, hr⟩ := hv.val encS_len
  refine spec_in (cap := []) Try.func53 rfl rfl Try.ntmps53 rfl (by (repeat (first | exact EnvA.nil EnvI.nil | apply EnvA.cons | apply EnvA.nil | exact EnvI.nil | apply EnvI.cons)); first | done | fail) (fun N β => ?_)
  refine jk_seq ?_
  refine jk_region ?_
  refine zq_assign ?_
  refine jk_nil ?_
  refine jk_seq ?_
  refine jk_seq ?_
  refine jk_region ?_
  refine zq_move ?_
  refine zq_len ?_
  refine zq_move ?_
  refine jk_nil ?_
  refine jk_block ?_
  refine jk_loop [0, 1, 7] (0 : Nat) (fun k => k ≤ l.length ∧ ∀ (i : Nat) (x : (Int × Int)), i < k → l[i]? = some x → p x = false) (fun k => [(8, int k)]) (fun _ => []) (fun k => l.length - k) pickZ ⟨by omega, fun i x h => by omega⟩ covZ selZ ?_
  rintro k ⟨hk, hI⟩
  by_cases hlt : k < l.length
  · have hx := List.getElem?_eq_getElem hlt
    obtain ⟨b1, o1, rfl, hrd⟩ := hr k _ hx
    have hrd2 : RdN ρ b1 (o1 + k * 2) (encS l[k]) := hrd
    have hf := hfn k _ hx
    refine jk_seq ?_
    refine jk_region ?_
    refine zq_lt ?_
    refine jk_nil ?_
    refine jk_seq ?_
    refine jk_if_t rfl ?_
    refine jk_skip ?_
    refine jk_seq ?_
    refine jk_block ?_
    refine jk_seq ?_
    refine jk_region ?_
    refine zq_move ?_
    refine zq_assign ?_
    refine jk_nil ?_
    refine jk_seq ?_
    refine jk_region ?_
    refine zq_move ?_
    refine zq_move ?_
    refine zq_move ?_
    refine zq_idxN ?_
    refine zq_loadS ?_
    refine jk_call hf rfl rfl (fun τ hτ => .inl (by simp [hτ])) rfl rfl ?_
    rintro _ rfl
    cases hp : p l[k] with
    | true =>
      refine jk_nil ?_
      refine jk_if_t rfl ?_
      refine jk_seq ?_
      refine jk_region ?_
      refine zq_move ?_
      refine zq_assign ?_
      refine jk_nil ?_
      exact jk_ret_any (res1 rfl rfl) (by (repeat (first | exact rs_nil | (refine rs_cons ?_ ?_; (focus ((repeat (first | exact .here | apply Mem.there | apply Take.there)); first | done | fail))) | exact fun ρ hρ => hρ | (intro ρ hρ; repeat (first | exact hρ | refine List.mem_cons_of_mem _ ?_)))); first | done | fail) selZ ⟨rfl, .inl ⟨k, l[k], hx, hp, hI, rfl⟩⟩
    | false =>
      refine jk_nil ?_
      refine jk_if_f rfl ?_
      refine jk_skip ?_
      refine jk_blk ?_
      refine jk_region ?_
      refine zq_inc ?_
      refine zq_move ?_
      refine jk_nil ?_
      refine jk_round (k + 1) ⟨by omega, fun i x hi hix => ?_⟩ (by omega) covZ selZ
      by_cases e : i = k
      · subst e; rw [hx] at hix; injection hix with hix; rw [← hix]; exact hp
      · exact hI i x (by omega) hix
  · refine jk_seq ?_
    refine jk_region ?_
    refine zq_ltF ?_
    refine jk_nil ?_
    refine jk_seq ?_
    refine jk_if_f rfl ?_
    refine jk_exit rfl ?_
    refine jk_seq ?_
    refine jk_region ?_
    refine zq_assign ?_
    refine jk_nil ?_
    refine jk_ret_any (res1 rfl rfl) (by (repeat (first | exact rs_nil | (refine rs_cons ?_ ?_; (focus ((repeat (first | exact .here | apply Mem.there | apply Take.there)); first | done | fail))) | exact fun ρ hρ => hρ | (intro ρ hρ; repeat (first | exact hρ | refine List.mem_cons_of_mem _ ?_)))); first | done | fail) selZ ⟨rfl, .inr ⟨fun x hx => ?_, rfl⟩⟩
    obtain ⟨i, hi, rfl⟩ := List.getElem_of_mem hx
    exact hI i _ (by omega) (List.getElem?_eq_getElem hi)
theorem contS_spec (ρ : PH) (Rs : List PH) (v fn : Value) (l : List (Int × Int)) (p : (Int × Int) → Bool) (hv : SlE encS 2 ρ v l) (hl : l.length ≤ 9223372036854775807) (hfn : ∀ (i : Nat) (x : (Int × Int)), l[i]? = some x → Ans Try.prog fn [.agg (encS x).toArray] Rs (fun r => r = .bool (p x))) :
    Ans Try.prog (fv 26) [v, fn] (ρ :: Rs) (fun r => r = .bool (l.any p)) := by
  have hix := indexS_spec ρ Rs v fn l p hv hl hfn
  obtain ⟨q, c, rfl, hr⟩ := hv.val encS_len
  refine spec_in (cap := []) Try.func26 rfl rfl Try.ntmps26 rfl (by (repeat (first | exact EnvA.nil EnvI.nil | apply EnvA.cons | apply EnvA.nil | exact EnvI.nil | apply EnvI.cons)); first | done | fail) (fun N β => ?_)
  refine jk_seq ?_
  refine jk_region ?_
  refine zq_assign ?_
  refine jk_nil ?_
  refine jk_seq ?_
  refine jk_region ?_
  refine zq_move ?_
  refine zq_move ?_
  refine jk_call hix rfl rfl (fun τ hτ => .inl (List.mem_cons_of_mem _ hτ)) rfl rfl ?_
  rintro _ (⟨i, x, hi, hp, _, rfl⟩ | ⟨hall2, rfl⟩)
  · have hfl : l.any p = true := List.any_eq_true.2 ⟨x, List.mem_of_getElem? hi, hp⟩
    refine zq_ge ?_
    refine zq_assign ?_
    refine jk_nil ?_
    exact jk_ret_any (res1 rfl rfl) (by (repeat (first | exact rs_nil | (refine rs_cons ?_ ?_; (focus ((repeat (first | exact .here | apply Mem.there | apply Take.there)); first | done | fail))) | exact fun ρ hρ => hρ | (intro ρ hρ; repeat (first | exact hρ | refine List.mem_cons_of_mem _ ?_)))); first | done | fail) selZ ⟨rfl, by rw [hfl]⟩
  · have hfl : l.any p = false := List.any_eq_false.2 (fun x hx => by rw [hall2 x hx]; simp)
    refine zq_geF ?_
    refine zq_assign ?_
    refine jk_nil ?_
    exact jk_ret_any (res1 rfl rfl) (by (repeat (first | exact rs_nil | (refine rs_cons ?_ ?_; (focus ((repeat (first | exact .here | apply Mem.there | apply Take.there)); first | done | fail))) | exact fun ρ hρ => hρ | (intro ρ hρ; repeat (first | exact hρ | refine List.mem_cons_of_mem _ ?_)))); first | done | fail) selZ ⟨rfl, by rw [hfl]⟩
theorem indexH_spec (ρ : PH) (Rs : List PH) (v fn : Value) (l : List Hd) (p : Hd → Bool) (hv : SlE encH 5 ρ v l) (hl : l.length ≤ 9223372036854775807) (hfn : ∀ (i : Nat) (x : Hd), l[i]? = some x → Ans Try.prog fn [.agg (encH x).toArray] Rs (fun r => r = .bool (p x))) :
    Ans Try.prog (fv 58) [v, fn] (ρ :: Rs) (fun r => (∃ (i : Nat) (x : Hd), l[i]? = some x ∧ p x = true ∧ (∀ (j : Nat) (y : Hd), j < i → l[j]? = some y → p y = false) ∧ r = int i) ∨ ((∀ x ∈ l, p x = false) ∧ r = int (-1))) := by
  obtain ⟨q, c, rfl, hr⟩ := hv.val encH_len
  refine spec_in (cap := []) Try.func58 rfl rfl Try.ntmps58 rfl (by (repeat (first | exact EnvA.nil EnvI.nil | apply EnvA.cons | apply EnvA.nil | exact EnvI.nil | apply EnvI.cons)); first | done | fail) (fun N β => ?_)
  refine jk_seq ?_
  refine jk_region ?_
  refine zq_assign ?_
  refine jk_nil ?_
  refine jk_seq ?_
  refine jk_seq ?_
  refine jk_region ?_
  refine zq_move ?_
  refine zq_len ?_
  refine zq_move ?_
  refine jk_nil ?_
  refine jk_block ?_
  refine jk_loop [0, 1, 7] (0 : Nat) (fun k => k ≤ l.length ∧ ∀ (i : Nat) (x : Hd), i < k → l[i]? = some x → p x = false) (fun k => [(8, int k)]) (fun _ => []) (fun k => l.length - k) pickZ ⟨by omega, fun i x h => by omega⟩ covZ selZ ?_
  rintro k ⟨hk, hI⟩
  by_cases hlt : k < l.length
  · have hx := List.getElem?_eq_getElem hlt
    obtain ⟨b1, o1, rfl, hrd⟩ := hr k _ hx
    have hrd2 : RdN ρ b1 (o1 + k * 5) (encH l[k]) := hrd
    have hf := hfn k _ hx
    refine jk_seq ?_
    refine jk_region ?_
    refine zq_lt ?_
    refine jk_nil ?_
    refine jk_seq ?_
    refine jk_if_t rfl ?_
    refine jk_skip ?_
    refine jk_seq ?_
    refine jk_block ?_
    refine jk_seq ?_
    refine jk_region ?_
    refine zq_move ?_
    refine zq_assign ?_
    refine jk_nil ?_
    refine jk_seq ?_
    refine jk_region ?_
    refine zq_move ?_
    refine zq_move ?_
    refine zq_move ?_
    refine zq_idxN ?_
    refine zq_loadS ?_
    refine jk_call hf rfl rfl (fun τ hτ => .inl (by simp [hτ])) rfl rfl ?_
    rintro _ rfl
    cases hp : p l[k] with
    | true =>
      refine jk_nil ?_
      refine jk_if_t rfl ?_
      refine jk_seq ?_
      refine jk_region ?_
      refine zq_move ?_
      refine zq_assign ?_
      refine jk_nil ?_
      exact jk_ret_any (res1 rfl rfl) (by (repeat (first | exact rs_nil | (refine rs_cons ?_ ?_; (focus ((repeat (first | exact .here | apply Mem.there | apply Take.there)); first | done | fail))) | exact fun ρ hρ => hρ | (intro ρ hρ; repeat (first | exact hρ | refine List.mem_cons_of_mem _ ?_)))); first | done | fail) selZ ⟨rfl, .inl ⟨k, l[k], hx, hp, hI, rfl⟩⟩
    | false =>
      refine jk_nil ?_
      refine jk_if_f rfl ?_
      refine jk_skip ?_
      refine jk_blk ?_
      refine jk_region ?_
      refine zq_inc ?_
      refine zq_move ?_
      refine jk_nil ?_
      refine jk_round (k + 1) ⟨by omega, fun i x hi hix => ?_⟩ (by omega) covZ selZ
      by_cases e : i = k
      · subst e; rw [hx] at hix; injection hix with hix; rw [← hix]; exact hp
      · exact hI i x (by omega) hix
  · refine jk_seq ?_
    refine jk_region ?_
    refine zq_ltF ?_
    refine jk_nil ?_
    refine jk_seq ?_
    refine jk_if_f rfl ?_
    refine jk_exit rfl ?_
    refine jk_seq ?_
    refine jk_region ?_
    refine zq_assign ?_
    refine jk_nil ?_
    refine jk_ret_any (res1 rfl rfl) (by (repeat (first | exact rs_nil | (refine rs_cons ?_ ?_; (focus ((repeat (first | exact .here | apply Mem.there | apply Take.there)); first | done | fail))) | exact fun ρ hρ => hρ | (intro ρ hρ; repeat (first | exact hρ | refine List.mem_cons_of_mem _ ?_)))); first | done | fail) selZ ⟨rfl, .inr ⟨fun x hx => ?_, rfl⟩⟩
    obtain ⟨i, hi, rfl⟩ := List.getElem_of_mem hx
    exact hI i _ (by omega) (List.getElem?_eq_getElem hi)
theorem contH_spec (ρ : PH) (Rs : List PH) (v fn : Value) (l : List Hd) (p : Hd → Bool) (hv : SlE encH 5 ρ v l) (hl : l.length ≤ 9223372036854775807) (hfn : ∀ (i : Nat) (x : Hd), l[i]? = some x → Ans Try.prog fn [.agg (encH x).toArray] Rs (fun r => r = .bool (p x))) :
    Ans Try.prog (fv 34) [v, fn] (ρ :: Rs) (fun r => r = .bool (l.any p)) := by
  have hix := indexH_spec ρ Rs v fn l p hv hl hfn
  obtain ⟨q, c, rfl, hr⟩ := hv.val encH_len
  refine spec_in (cap := []) Try.func34 rfl rfl Try.ntmps34 rfl (by (repeat (first | exact EnvA.nil EnvI.nil | apply EnvA.cons | apply EnvA.nil | exact EnvI.nil | apply EnvI.cons)); first | done | fail) (fun N β => ?_)
  refine jk_seq ?_
  refine jk_region ?_
  refine zq_assign ?_
  refine jk_nil ?_
  refine jk_seq ?_
  refine jk_region ?_
  refine zq_move ?_
  refine zq_move ?_
  refine jk_call hix rfl rfl (fun τ hτ => .inl (List.mem_cons_of_mem _ hτ)) rfl rfl ?_
  rintro _ (⟨i, x, hi, hp, _, rfl⟩ | ⟨hall2, rfl⟩)
  · have hfl : l.any p = true := List.any_eq_true.2 ⟨x, List.mem_of_getElem? hi, hp⟩
    refine zq_ge ?_
    refine zq_assign ?_
    refine jk_nil ?_
    exact jk_ret_any (res1 rfl rfl) (by (repeat (first | exact rs_nil | (refine rs_cons ?_ ?_; (focus ((repeat (first | exact .here | apply Mem.there | apply Take.there)); first | done | fail))) | exact fun ρ hρ => hρ | (intro ρ hρ; repeat (first | exact hρ | refine List.mem_cons_of_mem _ ?_)))); first | done | fail) selZ ⟨rfl, by rw [hfl]⟩
  · have hfl : l.any p = false := List.any_eq_false.2 (fun x hx => by rw [hall2 x hx]; simp)
    refine zq_geF ?_
    refine zq_assign ?_
    refine jk_nil ?_
    exact jk_ret_any (res1 rfl rfl) (by (repeat (first | exact rs_nil | (refine rs_cons ?_ ?_; (focus ((repeat (first | exact .here | apply Mem.there | apply Take.there)); first | done | fail))) | exact fun ρ hρ => hρ | (intro ρ hρ; repeat (first | exact hρ | refine List.mem_cons_of_mem _ ?_)))); first | done | fail) selZ ⟨rfl, by rw [hfl]⟩
theorem relTicket_spec (bt : Nat) (h x : Hd) : Ans Try.prog (.func (.func 35) #[] #[.pointer (some ⟨bt, 0, none⟩)]) [.agg (encH x).toArray] [sng bt (.cells #[int h.n, int h.a, int h.b, int h.s, int h.k] 47 (0, 0))] (fun r => r = .bool (decide (x.k = h.k))) := by
  refine spec_in (cap := [.pointer (some ⟨bt, 0, none⟩)]) Try.func35 rfl rfl Try.ntmps35 rfl (by (repeat (first | exact EnvA.nil EnvI.nil | apply EnvA.cons | apply EnvA.nil | exact EnvI.nil | apply EnvI.cons)); first | done | fail) (fun N β => ?_)
  have c4 : rdc (sng bt (.cells #[int h.n, int h.a, int h.b, int h.s, int h.k] 47 (0, 0))) bt 4 = some (int h.k) := by rw [rdc_sng]; rfl
  by_cases hc : x.k = h.k
  · rw [decide_eq_true hc]
    refine jk_seq ?_
    refine jk_region ?_
    refine zl_boxS ?_; rintro _ _ ⟨b, rfl, rfl⟩
    refine zq_assign ?_
    refine jk_nil ?_
    refine jk_seq ?_
    refine jk_region ?_
    refine zq_fld0 ?_
    refine zq_load ?_
    refine zq_fld0 ?_
    refine zq_load ?_
    refine zq_eq ?_
    refine zq_assign ?_
    refine jk_nil ?_
    exact jk_ret_any (res1 rfl rfl) (by (repeat (first | exact rs_nil | (refine rs_cons ?_ ?_; (focus ((repeat (first | exact .here | apply Mem.there | apply Take.there)); first | done | fail))) | exact fun ρ hρ => hρ | (intro ρ hρ; repeat (first | exact hρ | refine List.mem_cons_of_mem _ ?_)))); first | done | fail) selZ ⟨rfl, rfl⟩
  · rw [decide_eq_false hc]
    refine jk_seq ?_
    refine jk_region ?_
    refine zl_boxS ?_; rintro _ _ ⟨b, rfl, rfl⟩
    refine zq_assign ?_
    refine jk_nil ?_
    refine jk_seq ?_
    refine jk_region ?_
    refine zq_fld0 ?_
    refine zq_load ?_
    refine zq_fld0 ?_
    refine zq_load ?_
    refine zq_eqF ?_
    refine zq_assign ?_
    refine jk_nil ?_
    exact jk_ret_any (res1 rfl rfl) (by (repeat (first | exact rs_nil | (refine rs_cons ?_ ?_; (focus ((repeat (first | exact .here | apply Mem.there | apply Take.there)); first | done | fail))) | exact fun ρ hρ => hρ | (intro ρ hρ; repeat (first | exact hρ | refine List.mem_cons_of_mem _ ?_)))); first | done | fail) selZ ⟨rfl, rfl⟩
theorem inside_spec (bt : Nat) (h : Hd) (x : Int × Int) : Ans Try.prog (.func (.func 27) #[] #[.pointer (some ⟨bt, 0, none⟩)]) [.agg (encS x).toArray] [sng bt (.cells #[int h.n, int h.a, int h.b, int h.s, int h.k] 47 (0, 0))] (fun r => r = .bool (decide (x.1 ≤ h.a) && decide (h.b ≤ x.2))) := by
  refine spec_in (cap := [.pointer (some ⟨bt, 0, none⟩)]) Try.func27 rfl rfl Try.ntmps27 rfl (by (repeat (first | exact EnvA.nil EnvI.nil | apply EnvA.cons | apply EnvA.nil | exact EnvI.nil | apply EnvI.cons)); first | done | fail) (fun N β => ?_)
  have c1 : rdc (sng bt (.cells #[int h.n, int h.a, int h.b, int h.s, int h.k] 47 (0, 0))) bt 1 = some (int h.a) := by rw [rdc_sng]; rfl
  have c2 : rdc (sng bt (.cells #[int h.n, int h.a, int h.b, int h.s, int h.k] 47 (0, 0))) bt 2 = some (int h.b) := by rw [rdc_sng]; rfl
  by_cases h1 : x.1 ≤ h.a
  · by_cases h2 : h.b ≤ x.2
    · rw [decide_eq_true h1, decide_eq_true h2]
      refine jk_seq ?_
      refine jk_region ?_
      refine zl_boxS ?_; rintro _ _ ⟨b, rfl, rfl⟩
      refine zq_assign ?_
      refine jk_nil ?_
      refine jk_seq ?_
      refine jk_region ?_
      refine zq_fld0 ?_
      refine zq_load ?_
      refine zq_fld0 ?_
      refine zq_load ?_
      refine zq_le ?_
      refine zq_move ?_
      refine zq_fld0 ?_
      refine zq_load ?_
      refine zq_fld0 ?_
      refine zq_load ?_
      refine zq_le ?_
      refine zq_pick_t ?_
      refine zq_assign ?_
      refine jk_nil ?_
      exact jk_ret_any (res1 rfl rfl) (by (repeat (first | exact rs_nil | (refine rs_cons ?_ ?_; (focus ((repeat (first | exact .here | apply Mem.there | apply Take.there)); first | done | fail))) | exact fun ρ hρ => hρ | (intro ρ hρ; repeat (first | exact hρ | refine List.mem_cons_of_mem _ ?_)))); first | done | fail) selZ ⟨rfl, rfl⟩
    · rw [decide_eq_true h1, decide_eq_false h2]
      refine jk_seq ?_
      refine jk_region ?_
      refine zl_boxS ?_; rintro _ _ ⟨b, rfl, rfl⟩
      refine zq_assign ?_
      refine jk_nil ?_
      refine jk_seq ?_
      refine jk_region ?_
      refine zq_fld0 ?_
      refine zq_load ?_
      refine zq_fld0 ?_
      refine zq_load ?_
      refine zq_le ?_
      refine zq_move ?_
      refine zq_fld0 ?_
      refine zq_load ?_
      refine zq_fld0 ?_
      refine zq_load ?_
      refine zq_leF ?_
      refine zq_pick_t ?_
      refine zq_assign ?_
      refine jk_nil ?_
      exact jk_ret_any (res1 rfl rfl) (by (repeat (first | exact rs_nil | (refine rs_cons ?_ ?_; (focus ((repeat (first | exact .here | apply Mem.there | apply Take.there)); first | done | fail))) | exact fun ρ hρ => hρ | (intro ρ hρ; repeat (first | exact hρ | refine List.mem_cons_of_mem _ ?_)))); first | done | fail) selZ ⟨rfl, rfl⟩
  · rw [decide_eq_false h1, Bool.false_and]
    refine jk_seq ?_
    refine jk_region ?_
    refine zl_boxS ?_; rintro _ _ ⟨b, rfl, rfl⟩
    refine zq_assign ?_
    refine jk_nil ?_
    refine jk_seq ?_
    refine jk_region ?_
    refine zq_fld0 ?_
    refine zq_load ?_
    refine zq_fld0 ?_
    refine zq_load ?_
    refine zq_leF ?_
    refine zq_move ?_
    refine jk_pass rfl rfl rfl ?_
    refine jk_pass rfl rfl rfl ?_
    refine jk_pass rfl rfl rfl ?_
    refine jk_pass rfl rfl rfl ?_
    refine jk_pass rfl rfl rfl ?_
    refine zq_pick_f ?_
    refine zq_assign ?_
    refine jk_nil ?_
    exact jk_ret_any (res1 rfl rfl) (by (repeat (first | exact rs_nil | (refine rs_cons ?_ ?_; (focus ((repeat (first | exact .here | apply Mem.there | apply Take.there)); first | done | fail))) | exact fun ρ hρ => hρ | (intro ρ hρ; repeat (first | exact hρ | refine List.mem_cons_of_mem _ ?_)))); first | done | fail) selZ ⟨rfl, rfl⟩
theorem isFree1_spec (bt : Nat) (t : Int) (x : Int × Int) : Ans Try.prog (.func (.func 52) #[] #[.pointer (some ⟨bt, 0, none⟩)]) [.agg (encS x).toArray] [sng bt (.cells #[int t] 3 (0, 0))] (fun r => r = .bool (decide (x.1 ≤ t) && decide (t < x.2))) := by
  refine spec_in (cap := [.pointer (some ⟨bt, 0, none⟩)]) Try.func52 rfl rfl Try.ntmps52 rfl (by (repeat (first | exact EnvA.nil EnvI.nil | apply EnvA.cons | apply EnvA.nil | exact EnvI.nil | apply EnvI.cons)); first | done | fail) (fun N β => ?_)
  have c1 : rdc (sng bt (.cells #[int t] 3 (0, 0))) bt 0 = some (int t) := by rw [rdc_sng]; rfl
  by_cases h1 : x.1 ≤ t
  · by_cases h2 : t < x.2
    · rw [decide_eq_true h1, decide_eq_true h2]
      refine jk_seq ?_
      refine jk_region ?_
      refine zl_boxS ?_; rintro _ _ ⟨b, rfl, rfl⟩
      refine zq_assign ?_
      refine jk_nil ?_
      refine jk_seq ?_
      refine jk_region ?_
      refine zq_fld0 ?_
      refine zq_load ?_
      refine zq_load ?_
      refine zq_le ?_
      refine zq_move ?_
      refine zq_load ?_
      refine zq_fld0 ?_
      refine zq_load ?_
      refine zq_lt ?_
      refine zq_pick_t ?_
      refine zq_assign ?_
      refine jk_nil ?_
      exact jk_ret_any (res1 rfl rfl) (by (repeat (first | exact rs_nil | (refine rs_cons ?_ ?_; (focus ((repeat (first | exact .here | apply Mem.there | apply Take.there)); first | done | fail))) | exact fun ρ hρ => hρ | (intro ρ hρ; repeat (first | exact hρ | refine List.mem_cons_of_mem _ ?_)))); first | done | fail) selZ ⟨rfl, rfl⟩
    · rw [decide_eq_true h1, decide_eq_false h2]
      refine jk_seq ?_
      refine jk_region ?_
      refine zl_boxS ?_; rintro _ _ ⟨b, rfl, rfl⟩
      refine zq_assign ?_
      refine jk_nil ?_
      refine jk_seq ?_
      refine jk_region ?_
      refine zq_fld0 ?_
      refine zq_load ?_
      refine zq_load ?_
      refine zq_le ?_
      refine zq_move ?_
      refine zq_load ?_
      refine zq_fld0 ?_
      refine zq_load ?_
      refine zq_ltF ?_
      refine zq_pick_t ?_
      refine zq_assign ?_
      refine jk_nil ?_
      exact jk_ret_any (res1 rfl rfl) (by (repeat (first | exact rs_nil | (refine rs_cons ?_ ?_; (focus ((repeat (first | exact .here | apply Mem.there | apply Take.there)); first | done | fail))) | exact fun ρ hρ => hρ | (intro ρ hρ; repeat (first | exact hρ | refine List.mem_cons_of_mem _ ?_)))); first | done | fail) selZ ⟨rfl, rfl⟩
  · rw [decide_eq_false h1, Bool.false_and]
    refine jk_seq ?_
    refine jk_region ?_
    refine zl_boxS ?_; rintro _ _ ⟨b, rfl, rfl⟩
    refine zq_assign ?_
    refine jk_nil ?_
    refine jk_seq ?_
    refine jk_region ?_
    refine zq_fld0 ?_
    refine zq_load ?_
    refine zq_load ?_
    refine zq_leF ?_
    refine zq_move ?_
    refine jk_pass rfl rfl rfl ?_
    refine jk_pass rfl rfl rfl ?_
    refine jk_pass rfl rfl rfl ?_
    refine jk_pass rfl rfl rfl ?_
    refine zq_pick_f ?_
    refine zq_assign ?_
    refine jk_nil ?_
    exact jk_ret_any (res1 rfl rfl) (by (repeat (first | exact rs_nil | (refine rs_cons ?_ ?_; (focus ((repeat (first | exact .here | apply Mem.there | apply Take.there)); first | done | fail))) | exact fun ρ hρ => hρ | (intro ρ hρ; repeat (first | exact hρ | refine List.mem_cons_of_mem _ ?_)))); first | done | fail) selZ ⟨rfl, rfl⟩
theorem isFree_spec (ρ : PH) (v : Value) (l : List (Int × Int)) (t : Int) (hv : SpAt ρ v l) (hl : l.length ≤ 9223372036854775807) : Ans Try.prog (fv 24) [v, int t] [ρ] (fun r => r = .bool (l.any (fun x => decide (x.1 ≤ t) && decide (t < x.2)))) := by
  have hv2 := hv
  obtain ⟨q, c, rfl, hr⟩ := hv.val encS_len
  refine spec_in (cap := []) Try.func24 rfl rfl Try.ntmps24 rfl (by (repeat (first | exact EnvA.nil EnvI.nil | apply EnvA.cons | apply EnvA.nil | exact EnvI.nil | apply EnvI.cons)); first | done | fail) (fun N β => ?_)
  refine jk_seq ?_
  refine jk_region ?_
  refine zl_box1 ?_; rintro _ _ ⟨b, rfl, rfl⟩
  refine zq_assign ?_
  refine jk_nil ?_
  refine jk_seq ?_
  refine jk_region ?_
  refine zq_move ?_
  refine zq_makeFunc ?_
  refine jk_call (contS_spec ρ [sng b (.cells #[int t] 3 (0, 0))] _ _ l (fun x => decide (x.1 ≤ t) && decide (t < x.2)) hv2 hl (fun i x _ => isFree1_spec b t x)) rfl rfl rdZ rfl rfl ?_
  rintro _ rfl
  refine zq_assign ?_
  refine jk_nil ?_
  exact jk_ret_any (res1 rfl rfl) (by (repeat (first | exact rs_nil | (refine rs_cons ?_ ?_; (focus ((repeat (first | exact .here | apply Mem.there | apply Take.there)); first | done | fail))) | exact fun ρ hρ => hρ | (intro ρ hρ; repeat (first | exact hρ | refine List.mem_cons_of_mem _ ?_)))); first | done | fail) selZ ⟨rfl, rfl⟩
def smallB (qs : List Int) (cs : List Ct) (l : List Hd) : Bool := decide (grtH qs cs l = false ∧ l.length ≤ 16 ∧ chkH qs cs l = 0)
set_option maxHeartbeats 8000000 in
theorem small_spec (ρ τ σ : PH) (pq pc : Option Addr) (kq kc : Nat) (qs : List Int) (cs : List Ct) (v : Value) (l : List Hd) (hq : IntsAt ρ (.slice pq qs.length kq) qs) (hc : CtAt τ (.slice pc cs.length kc) cs) (hcap : cs.length ≤ kc) (lq : qs.length ≤ 9223372036854775807) (lc : cs.length ≤ 9223372036854775807) (hv : HdAt σ v l) (hl : l.length ≤ 9223372036854775807) :
    Ans Try.prog (fv 19) [.agg #[.slice pq qs.length kq, .slice pc cs.length kc], v] [ρ, τ, σ] (fun r => r = .bool (smallB qs cs l)) := by
  have hv2 := hv
  obtain ⟨q, c, rfl, hr⟩ := hv.val encH_len
  refine spec_in (cap := []) Try.func19 rfl rfl Try.ntmps19 rfl (by (repeat (first | exact EnvA.nil EnvI.nil | apply EnvA.cons | apply EnvA.nil | exact EnvI.nil | apply EnvI.cons)); first | done | fail) (fun N β => ?_)
  refine jk_seq ?_
  refine jk_region ?_
  refine jk_op (l_boxS rfl) rfl rfl rfl ?_
  rintro _ _ ⟨b1, rfl, rfl⟩
  refine jk_freeze (ρ := sng b1 _) takeZ ?_
  have c1 : RdN (sng b1 (.cells #[.slice pq qs.length kq, .slice pc cs.length kc] 25 (0, 0))) b1 0 [.slice pq qs.length kq, .slice pc cs.length kc] := rdN_sng (vs := [.slice pq qs.length kq, .slice pc cs.length kc])
  refine zq_assign ?_
  refine jk_nil ?_
  refine jk_seq ?_
  refine jk_region ?_
  refine zq_loadS ?_
  refine zq_move ?_
  refine jk_call (great28_spec pq pc q kq kc c qs cs l) rfl rfl rdZ rfl rfl ?_
  rintro _ rfl
  unfold smallB
  cases hg : grtH qs cs l with
  | true =>
    refine zq_not ?_
    refine zq_move ?_
    refine jk_pass rfl rfl rfl ?_
    refine jk_pass rfl rfl rfl ?_
    refine jk_pass rfl rfl rfl ?_
    refine zq_pick_f ?_
    refine zq_move ?_
    refine jk_pass rfl rfl rfl ?_
    refine jk_pass rfl rfl rfl ?_
    refine jk_pass rfl rfl rfl ?_
    refine jk_pass rfl rfl rfl ?_
    refine zq_pick_f ?_
    refine zq_assign ?_
    refine jk_nil ?_
    exact jk_ret_any (res1 rfl rfl) (by (repeat (first | exact rs_nil | (refine rs_cons ?_ ?_; (focus ((repeat (first | exact .here | apply Mem.there | apply Take.there)); first | done | fail))) | exact fun ρ hρ => hρ | (intro ρ hρ; repeat (first | exact hρ | refine List.mem_cons_of_mem _ ?_)))); first | done | fail) selZ ⟨rfl, by rw [decide_eq_false (by simp)]⟩
  | false =>
    by_cases h16 : l.length ≤ 16
    · refine zq_not ?_
      refine zq_move ?_
      refine zq_move ?_
      refine zq_len ?_
      refine zq_le ?_
      refine zq_pick_t ?_
      refine zq_move ?_
      refine zq_loadS ?_
      refine zq_move ?_
      refine jk_call (refCheck28_spec ρ τ σ pq pc kq kc qs cs _ l hq hc lq lc hv2 hl) rfl rfl rdZ rfl rfl ?_
      rintro _ rfl
      generalize chkH qs cs l = z
      by_cases h0 : z = 0
      · refine zq_eq ?_
        refine zq_pick_t ?_
        refine zq_assign ?_
        refine jk_nil ?_
        exact jk_ret_any (res1 rfl rfl) (by (repeat (first | exact rs_nil | (refine rs_cons ?_ ?_; (focus ((repeat (first | exact .here | apply Mem.there | apply Take.there)); first | done | fail))) | exact fun ρ hρ => hρ | (intro ρ hρ; repeat (first | exact hρ | refine List.mem_cons_of_mem _ ?_)))); first | done | fail) selZ ⟨rfl, by rw [decide_eq_true ⟨rfl, h16, h0⟩]⟩
      · refine zq_eqF ?_
        refine zq_pick_t ?_
        refine zq_assign ?_
        refine jk_nil ?_
        exact jk_ret_any (res1 rfl rfl) (by (repeat (first | exact rs_nil | (refine rs_cons ?_ ?_; (focus ((repeat (first | exact .here | apply Mem.there | apply Take.there)); first | done | fail))) | exact fun ρ hρ => hρ | (intro ρ hρ; repeat (first | exact hρ | refine List.mem_cons_of_mem _ ?_)))); first | done | fail) selZ ⟨rfl, by rw [decide_eq_false (fun h => h0 h.2.2)]⟩
    · refine zq_not ?_
      refine zq_move ?_
      refine zq_move ?_
      refine zq_len ?_
      refine zq_leF ?_
      refine zq_pick_t ?_
      refine zq_move ?_
      refine jk_pass rfl rfl rfl ?_
      refine jk_pass rfl rfl rfl ?_
      refine jk_pass rfl rfl rfl ?_
      refine jk_pass rfl rfl rfl ?_
      refine zq_pick_f ?_
      refine zq_assign ?_
      refine jk_nil ?_
      exact jk_ret_any (res1 rfl rfl) (by (repeat (first | exact rs_nil | (refine rs_cons ?_ ?_; (focus ((repeat (first | exact .here | apply Mem.there | apply Take.there)); first | done | fail))) | exact fun ρ hρ => hρ | (intro ρ hρ; repeat (first | exact hρ | refine List.mem_cons_of_mem _ ?_)))); first | done | fail) selZ ⟨rfl, by rw [decide_eq_false (fun h => h16 h.2.1)]⟩
theorem small_ok {qs : List Int} {cs : List Ct} {l : List Hd} (h : smallB qs cs l = true) : l.length ≤ 16 ∧ chkH qs cs l = 0 := (of_decide_eq_true h).2
theorem rel_chk {qs : List Int} {cs : List Ct} {l : List Hd} (h0 : chkH qs cs l = 0) (k : Int) : chkH qs cs (relH l k) = 0 := by
  obtain ⟨hok, hlen, _⟩ := chkH_ok h0
  obtain ⟨hs, hf, _⟩ := chkH_sort h0
  have := relH_len l k
  exact chkH_of (chkH_pl h0) (by omega) (fun x hx => hok x (List.mem_filter.1 hx).1) (hs.filter _) (fit_filter _ hok hf)
set_option maxHeartbeats 16000000 in
theorem releases_law (ρ τ σ : PH) (pq pc : Option Addr) (kq kc : Nat) (qs : List Int) (cs : List Ct) (v : Value) (l : List Hd) (h : Hd) (hq : IntsAt ρ (.slice pq qs.length kq) qs) (hc : CtAt τ (.slice pc cs.length kc) cs) (hcap : cs.length ≤ kc) (lq : qs.length ≤ 9223372036854775807) (lc : cs.length ≤ 9223372036854775807) (hv : HdAt σ v l) (hl : l.length ≤ 9223372036854775807) :
    Ans Try.prog (fv 8) [.agg #[.slice pq qs.length kq, .slice pc cs.length kc], v, .agg #[int h.n, int h.a, int h.b, int h.s, int h.k]] [ρ, τ, σ] (fun r => r = .bool true) := by
  have hv2 := hv
  obtain ⟨q, c, rfl, hr⟩ := hv.val encH_len
  refine spec_in (cap := []) Try.func8 rfl rfl Try.ntmps8 rfl (by (repeat (first | exact EnvA.nil EnvI.nil | apply EnvA.cons | apply EnvA.nil | exact EnvI.nil | apply EnvI.cons)); first | done | fail) (fun N β => ?_)
  refine jk_seq ?_
  refine jk_region ?_
  refine jk_op (l_boxS rfl) rfl rfl rfl ?_
  rintro _ _ ⟨b1, rfl, rfl⟩
  refine jk_freeze (ρ := sng b1 _) takeZ ?_
  have c1 : RdN (sng b1 (.cells #[.slice pq qs.length kq, .slice pc cs.length kc] 25 (0, 0))) b1 0 [.slice pq qs.length kq, .slice pc cs.length kc] := rdN_sng (vs := [.slice pq qs.length kq, .slice pc cs.length kc])
  refine jk_op (l_boxS rfl) rfl rfl rfl ?_
  rintro _ _ ⟨b2, rfl, rfl⟩
  refine jk_freeze (ρ := sng b2 _) takeZ ?_
  have c2 : RdN (sng b2 (.cells #[int h.n, int h.a, int h.b, int h.s, int h.k] 47 (0, 0))) b2 0 [int h.n, int h.a, int h.b, int h.s, int h.k] := rdN_sng (vs := [int h.n, int h.a, int h.b, int h.s, int h.k])
  have c20 : rdc (sng b2 (.cells #[int h.n, int h.a, int h.b, int h.s, int h.k] 47 (0, 0))) b2 0 = some (int h.n) := by rw [rdc_sng]; rfl
  have c21 : rdc (sng b2 (.cells #[int h.n, int h.a, int h.b, int h.s, int h.k] 47 (0, 0))) b2 1 = some (int h.a) := by rw [rdc_sng]; rfl
  have c22 : rdc (sng b2 (.cells #[int h.n, int h.a, int h.b, int h.s, int h.k] 47 (0, 0))) b2 2 = some (int h.b) := by rw [rdc_sng]; rfl
  have c23 : rdc (sng b2 (.cells #[int h.n, int h.a, int h.b, int h.s, int h.k] 47 (0, 0))) b2 3 = some (int h.s) := by rw [rdc_sng]; rfl
  have c24 : rdc (sng b2 (.cells #[int h.n, int h.a, int h.b, int h.s, int h.k] 47 (0, 0))) b2 4 = some (int h.k) := by rw [rdc_sng]; rfl
  refine zq_assign ?_
  refine jk_nil ?_
  refine jk_seq ?_
  refine jk_seq ?_
  refine jk_region ?_
  refine zq_loadS ?_
  refine zq_move ?_
  refine jk_call (small_spec ρ τ σ pq pc kq kc qs cs _ l hq hc hcap lq lc hv2 hl) rfl rfl rdZ rfl rfl ?_
  rintro _ rfl
  cases hsm : smallB qs cs l with
  | false =>
    refine zq_not ?_
    refine jk_nil ?_
    refine jk_if_t rfl ?_
    refine jk_seq ?_
    refine jk_region ?_
    focus ((refine jk_call awake_spec rfl rfl rdZ rfl rfl ?_; rintro _ rfl))
    refine zq_assign ?_
    refine jk_nil ?_
    exact jk_ret_any (res1 rfl rfl) (by (repeat (first | exact rs_nil | (refine rs_cons ?_ ?_; (focus ((repeat (first | exact .here | apply Mem.there | apply Take.there)); first | done | fail))) | exact fun ρ hρ => hρ | (intro ρ hρ; repeat (first | exact hρ | refine List.mem_cons_of_mem _ ?_)))); first | done | fail) selZ ⟨rfl, rfl⟩
  | true =>
  obtain ⟨h16, h0⟩ := small_ok hsm
  have hrc := rel_chk h0 h.k
  have hrn := relH_none l h.k
  have hrl := relH_len l h.k
  refine zq_not ?_
  refine jk_nil ?_
  refine jk_if_f rfl ?_
  refine jk_skip ?_
  refine jk_seq ?_
  refine jk_region ?_
  refine zq_move ?_
  refine zq_fld0 ?_
  refine zq_load ?_
  refine jk_callM (release_spec σ _ l h.k hv2 (by omega)) rfl rfl rdZ rfl rfl ?_
  rintro u1 σ1 hO1
  refine jk_freeze (ρ := σ1) takeZ ?_
  generalize hm : relH l h.k = m at hO1 hrc hrn hrl
  obtain ⟨p1, k1, rfl⟩ := SlAt.cap hO1.at
  refine zq_assign ?_
  refine jk_nil ?_
  refine jk_seq ?_
  refine jk_seq ?_
  refine jk_region ?_
  refine zq_loadS ?_
  refine zq_move ?_
  refine jk_call (check28_spec ρ τ σ1 pq pc kq kc qs cs _ m hq hc hcap lq lc hO1.at (by omega)) rfl rfl rdZ rfl rfl ?_
  rw [hrc]
  rintro _ rfl
  have hany : m.any (fun x => decide (x.k = h.k)) = false := List.any_eq_false.2 (fun x hx => by simpa using hrn x hx)
  refine zq_neF ?_
  refine zq_move ?_
  refine zq_move ?_
  refine zq_makeFunc ?_
  refine jk_call (contH_spec σ1 [sng b2 _] _ _ m (fun x => decide (x.k = h.k)) hO1.at (by omega) (fun i x _ => relTicket_spec b2 h x)) rfl rfl rdZ rfl rfl ?_
  rw [hany]
  rintro _ rfl
  refine zq_pick_f ?_
  refine jk_nil ?_
  refine jk_if_f rfl ?_
  refine jk_skip ?_
  refine jk_seq ?_
  refine jk_region ?_
  refine zq_loadS ?_
  refine zq_move ?_
  refine zq_loadS ?_
  refine jk_callM (add28_spec ρ τ σ1 pq pc kq kc qs cs _ m h hq hc hcap lq lc hO1.at (by omega)) rfl rfl rdZ rfl rfl ?_
  rintro _ σ2 ⟨u2, rfl, hO2⟩
  refine jk_freeze (ρ := σ2) takeZ ?_
  by_cases he : (addR qs cs m h).2 = 0
  · have hadd : (addR qs cs m h).1 = insH m h := by
      unfold addR at he ⊢
      rw [if_neg (fun h => h hrc)] at he ⊢
      by_cases hh : okHd qs.length h
      · rw [if_neg (fun h => h hh)] at he ⊢
        rw [if_neg (by omega)] at he ⊢
        by_cases hf : fitB qs (insH m h) = true
        · rw [if_pos hf]
        · rw [if_neg hf] at he; simp at he
      · rw [if_pos hh] at he; simp at he
    rw [hadd] at hO2
    rw [he]
    have hri : relH (insH m h) h.k = m := rel_ins hrn
    refine zq_move ?_
    refine zq_extract ?_
    refine zq_extract ?_
    refine zq_assign ?_
    refine zq_assign ?_
    refine jk_nil ?_
    refine jk_seq ?_
    refine jk_region ?_
    refine zq_move ?_
    refine zq_neF ?_
    refine zq_move ?_
    refine zq_move ?_
    refine zq_fld0 ?_
    refine zq_load ?_
    refine jk_callM (release_spec σ2 _ (insH m h) h.k hO2.at (by rw [insH_len]; omega)) rfl rfl rdZ rfl rfl ?_
    rintro u3 σ3 hO3
    rw [hri] at hO3
    refine zq_move ?_
    refine jk_call (same28_spec σ3 σ1 _ _ m m hO3.at hO1.at (by omega)) rfl rfl rdZ rfl rfl ?_
    rw [decide_eq_true rfl]
    rintro _ rfl
    refine zq_pick_f ?_
    refine zq_move ?_
    focus ((refine jk_call awake_spec rfl rfl rdZ rfl rfl ?_; rintro _ rfl))
    refine zq_pick_t ?_
    refine zq_assign ?_
    refine jk_nil ?_
    exact jk_ret_any (res1 rfl rfl) (by (repeat (first | exact rs_nil | (refine rs_cons ?_ ?_; (focus ((repeat (first | exact .here | apply Mem.there | apply Take.there)); first | done | fail))) | exact fun ρ hρ => hρ | (intro ρ hρ; repeat (first | exact hρ | refine List.mem_cons_of_mem _ ?_)))); first | done | fail) selZ ⟨rfl, rfl⟩
  · generalize (addR qs cs m h).2 = z at he
    refine zq_move ?_
    refine zq_extract ?_
    refine zq_extract ?_
    refine zq_assign ?_
    refine zq_assign ?_
    refine jk_nil ?_
    refine jk_seq ?_
    refine jk_region ?_
    refine zq_move ?_
    refine zq_ne ?_
    refine zq_move ?_
    refine jk_pass rfl rfl rfl ?_
    refine jk_pass rfl rfl rfl ?_
    refine jk_pass rfl rfl rfl ?_
    refine jk_pass rfl rfl rfl ?_
    refine jk_pass rfl rfl rfl ?_
    refine jk_pass rfl rfl rfl ?_
    refine zq_pick_t ?_
    refine zq_move ?_
    focus ((refine jk_call awake_spec rfl rfl rdZ rfl rfl ?_; rintro _ rfl))
    refine zq_pick_t ?_
    refine zq_assign ?_
    refine jk_nil ?_
    exact jk_ret_any (res1 rfl rfl) (by (repeat (first | exact rs_nil | (refine rs_cons ?_ ?_; (focus ((repeat (first | exact .here | apply Mem.there | apply Take.there)); first | done | fail))) | exact fun ρ hρ => hρ | (intro ρ hρ; repeat (first | exact hρ | refine List.mem_cons_of_mem _ ?_)))); first | done | fail) selZ ⟨rfl, rfl⟩
end Go.Proofs.Ytnbihndlbopmeaa
/- Laws on holds that are released and added. -/
namespace Go.Proofs.Ytnbihndlbopmeaa
open Go.Eng Go.Step
set_option maxRecDepth 100000
set_option maxHeartbeats 4000000

theorem free_val {qs : List Int} {cs : List Ct} {l : List Hd} {h : Hd} (h0 : chkH qs cs l = 0) (hh : okHd qs.length h) : freeRes qs cs l h.n h.s = (freeP (qs.getD h.n.toNat 0) h.s (lvH l h.n), 0) := by
  have h1 := hh.1
  have h2 := hh.2.2.1
  unfold freeRes
  rw [if_neg (fun h => h h0), if_neg (by omega)]
theorem quo_pos {qs : List Int} {cs : List Ct} {l : List Hd} {h : Hd} (h0 : chkH qs cs l = 0) (hh : okHd qs.length h) : 0 ≤ qs.getD h.n.toNat 0 := by
  have h1 := hh.1
  have hlt : h.n.toNat < qs.length := by omega
  have := (chkH_sort h0).2.2 h.n.toNat _ (List.getElem?_eq_getElem hlt)
  rw [List.getD_eq_getElem?_getD, List.getElem?_eq_getElem hlt]
  exact this.1
set_option maxHeartbeats 16000000 in
theorem adds_law (ρ τ σ : PH) (pq pc : Option Addr) (kq kc : Nat) (qs : List Int) (cs : List Ct) (v : Value) (l : List Hd) (a b : Hd) (hq : IntsAt ρ (.slice pq qs.length kq) qs) (hc : CtAt τ (.slice pc cs.length kc) cs) (hcap : cs.length ≤ kc) (lq : qs.length ≤ 9223372036854775807) (lc : cs.length ≤ 9223372036854775807) (hv : HdAt σ v l) (hl : l.length ≤ 9223372036854775807) :
    Ans Try.prog (fv 6) [.agg #[.slice pq qs.length kq, .slice pc cs.length kc], v, .agg #[int a.n, int a.a, int a.b, int a.s, int a.k], .agg #[int b.n, int b.a, int b.b, int b.s, int b.k]] [ρ, τ, σ] (fun r => r = .bool true) := by
  have hv2 := hv
  obtain ⟨q, c, rfl, hr⟩ := hv.val encH_len
  refine spec_in (cap := []) Try.func6 rfl rfl Try.ntmps6 rfl (by (repeat (first | exact EnvA.nil EnvI.nil | apply EnvA.cons | apply EnvA.nil | exact EnvI.nil | apply EnvI.cons)); first | done | fail) (fun N β => ?_)
  refine jk_seq ?_
  refine jk_region ?_
  refine jk_op (l_boxS rfl) rfl rfl rfl ?_
  rintro _ _ ⟨b1, rfl, rfl⟩
  refine jk_freeze (ρ := sng b1 _) takeZ ?_
  have c1 : RdN (sng b1 (.cells #[.slice pq qs.length kq, .slice pc cs.length kc] 25 (0, 0))) b1 0 [.slice pq qs.length kq, .slice pc cs.length kc] := rdN_sng (vs := [.slice pq qs.length kq, .slice pc cs.length kc])
  refine jk_op (l_boxS rfl) rfl rfl rfl ?_
  rintro _ _ ⟨b2, rfl, rfl⟩
  refine jk_freeze (ρ := sng b2 _) takeZ ?_
  have c2 : RdN (sng b2 (.cells #[int a.n, int a.a, int a.b, int a.s, int a.k] 47 (0, 0))) b2 0 [int a.n, int a.a, int a.b, int a.s, int a.k] := rdN_sng (vs := [int a.n, int a.a, int a.b, int a.s, int a.k])
  have c20 : rdc (sng b2 (.cells #[int a.n, int a.a, int a.b, int a.s, int a.k] 47 (0, 0))) b2 0 = some (int a.n) := by rw [rdc_sng]; rfl
  have c21 : rdc (sng b2 (.cells #[int a.n, int a.a, int a.b, int a.s, int a.k] 47 (0, 0))) b2 1 = some (int a.a) := by rw [rdc_sng]; rfl
  have c22 : rdc (sng b2 (.cells #[int a.n, int a.a, int a.b, int a.s, int a.k] 47 (0, 0))) b2 2 = some (int a.b) := by rw [rdc_sng]; rfl
  have c23 : rdc (sng b2 (.cells #[int a.n, int a.a, int a.b, int a.s, int a.k] 47 (0, 0))) b2 3 = some (int a.s) := by rw [rdc_sng]; rfl
  have c24 : rdc (sng b2 (.cells #[int a.n, int a.a, int a.b, int a.s, int a.k] 47 (0, 0))) b2 4 = some (int a.k) := by rw [rdc_sng]; rfl
  refine jk_op (l_boxS rfl) rfl rfl rfl ?_
  rintro _ _ ⟨b3, rfl, rfl⟩
  refine jk_freeze (ρ := sng b3 _) takeZ ?_
  have c3 : RdN (sng b3 (.cells #[int b.n, int b.a, int b.b, int b.s, int b.k] 47 (0, 0))) b3 0 [int b.n, int b.a, int b.b, int b.s, int b.k] := rdN_sng (vs := [int b.n, int b.a, int b.b, int b.s, int b.k])
  have c30 : rdc (sng b3 (.cells #[int b.n, int b.a, int b.b, int b.s, int b.k] 47 (0, 0))) b3 0 = some (int b.n) := by rw [rdc_sng]; rfl
  have c31 : rdc (sng b3 (.cells #[int b.n, int b.a, int b.b, int b.s, int b.k] 47 (0, 0))) b3 1 = some (int b.a) := by rw [rdc_sng]; rfl
  have c32 : rdc (sng b3 (.cells #[int b.n, int b.a, int b.b, int b.s, int b.k] 47 (0, 0))) b3 2 = some (int b.b) := by rw [rdc_sng]; rfl
  have c33 : rdc (sng b3 (.cells #[int b.n, int b.a, int b.b, int b.s, int b.k] 47 (0, 0))) b3 3 = some (int b.s) := by rw [rdc_sng]; rfl
  have c34 : rdc (sng b3 (.cells #[int b.n, int b.a, int b.b, int b.s, int b.k] 47 (0, 0))) b3 4 = some (int b.k) := by rw [rdc_sng]; rfl
  refine zq_assign ?_
  refine jk_nil ?_
  refine jk_seq ?_
  refine jk_seq ?_
  refine jk_region ?_
  refine zq_loadS ?_
  refine zq_move ?_
  refine jk_call (small_spec ρ τ σ pq pc kq kc qs cs _ l hq hc hcap lq lc hv2 hl) rfl rfl rdZ rfl rfl ?_
  rintro _ rfl
  cases hsm : smallB qs cs l with
  | false =>
    refine zq_not ?_
    refine zq_move ?_
    refine jk_pass rfl rfl rfl ?_
    refine jk_pass rfl rfl rfl ?_
    refine jk_pass rfl rfl rfl ?_
    refine zq_pick_t ?_
    refine zq_move ?_
    refine jk_pass rfl rfl rfl ?_
    refine jk_pass rfl rfl rfl ?_
    refine jk_pass rfl rfl rfl ?_
    refine jk_pass rfl rfl rfl ?_
    refine zq_pick_t ?_
    refine zq_move ?_
    refine jk_pass rfl rfl rfl ?_
    refine jk_pass rfl rfl rfl ?_
    refine jk_pass rfl rfl rfl ?_
    refine jk_pass rfl rfl rfl ?_
    refine zq_pick_t ?_
    refine jk_nil ?_
    refine jk_if_t rfl ?_
    refine jk_seq ?_
    refine jk_region ?_
    focus ((refine jk_call awake_spec rfl rfl rdZ rfl rfl ?_; rintro _ rfl))
    refine zq_assign ?_
    refine jk_nil ?_
    exact jk_ret_any (res1 rfl rfl) (by (repeat (first | exact rs_nil | (refine rs_cons ?_ ?_; (focus ((repeat (first | exact .here | apply Mem.there | apply Take.there)); first | done | fail))) | exact fun ρ hρ => hρ | (intro ρ hρ; repeat (first | exact hρ | refine List.mem_cons_of_mem _ ?_)))); first | done | fail) selZ ⟨rfl, rfl⟩
  | true =>
  obtain ⟨h16, h0⟩ := small_ok hsm
  obtain ⟨hok, _, _⟩ := chkH_ok h0
  obtain ⟨hsort, hfit, _⟩ := chkH_sort h0
  have hpl := chkH_pl h0
  by_cases h15 : 15 < l.length
  · refine zq_not ?_
    refine zq_move ?_
    refine zq_move ?_
    refine zq_len ?_
    refine zq_gt ?_
    refine zq_pick_f ?_
    refine zq_move ?_
    refine jk_pass rfl rfl rfl ?_
    refine jk_pass rfl rfl rfl ?_
    refine jk_pass rfl rfl rfl ?_
    refine jk_pass rfl rfl rfl ?_
    refine zq_pick_t ?_
    refine zq_move ?_
    refine jk_pass rfl rfl rfl ?_
    refine jk_pass rfl rfl rfl ?_
    refine jk_pass rfl rfl rfl ?_
    refine jk_pass rfl rfl rfl ?_
    refine zq_pick_t ?_
    refine jk_nil ?_
    refine jk_if_t rfl ?_
    refine jk_seq ?_
    refine jk_region ?_
    focus ((refine jk_call awake_spec rfl rfl rdZ rfl rfl ?_; rintro _ rfl))
    refine zq_assign ?_
    refine jk_nil ?_
    exact jk_ret_any (res1 rfl rfl) (by (repeat (first | exact rs_nil | (refine rs_cons ?_ ?_; (focus ((repeat (first | exact .here | apply Mem.there | apply Take.there)); first | done | fail))) | exact fun ρ hρ => hρ | (intro ρ hρ; repeat (first | exact hρ | refine List.mem_cons_of_mem _ ?_)))); first | done | fail) selZ ⟨rfl, rfl⟩
  refine zq_not ?_
  refine zq_move ?_
  refine zq_move ?_
  refine zq_len ?_
  refine zq_gtF ?_
  refine zq_pick_f ?_
  refine zq_move ?_
  refine zq_loadS ?_
  refine zq_loadS ?_
  refine jk_call (refValid28_spec (.slice pq qs.length kq) (.slice pc cs.length kc) ρ qs kq pq a rfl rfl) rfl rfl rdZ rfl rfl ?_
  rintro _ rfl
  by_cases ha : okHd qs.length a
  rotate_left
  · rw [decide_eq_false ha]
    refine zq_not ?_
    refine zq_pick_f ?_
    refine zq_move ?_
    refine jk_pass rfl rfl rfl ?_
    refine jk_pass rfl rfl rfl ?_
    refine jk_pass rfl rfl rfl ?_
    refine jk_pass rfl rfl rfl ?_
    refine zq_pick_t ?_
    refine jk_nil ?_
    refine jk_if_t rfl ?_
    refine jk_seq ?_
    refine jk_region ?_
    focus ((refine jk_call awake_spec rfl rfl rdZ rfl rfl ?_; rintro _ rfl))
    refine zq_assign ?_
    refine jk_nil ?_
    exact jk_ret_any (res1 rfl rfl) (by (repeat (first | exact rs_nil | (refine rs_cons ?_ ?_; (focus ((repeat (first | exact .here | apply Mem.there | apply Take.there)); first | done | fail))) | exact fun ρ hρ => hρ | (intro ρ hρ; repeat (first | exact hρ | refine List.mem_cons_of_mem _ ?_)))); first | done | fail) selZ ⟨rfl, rfl⟩
  rw [decide_eq_true ha]
  refine zq_not ?_
  refine zq_pick_f ?_
  refine zq_move ?_
  refine zq_loadS ?_
  refine zq_loadS ?_
  refine jk_call (refValid28_spec (.slice pq qs.length kq) (.slice pc cs.length kc) ρ qs kq pq b rfl rfl) rfl rfl rdZ rfl rfl ?_
  rintro _ rfl
  by_cases hb : okHd qs.length b
  rotate_left
  · rw [decide_eq_false hb]
    refine zq_not ?_
    refine zq_pick_f ?_
    refine jk_nil ?_
    refine jk_if_t rfl ?_
    refine jk_seq ?_
    refine jk_region ?_
    focus ((refine jk_call awake_spec rfl rfl rdZ rfl rfl ?_; rintro _ rfl))
    refine zq_assign ?_
    refine jk_nil ?_
    exact jk_ret_any (res1 rfl rfl) (by (repeat (first | exact rs_nil | (refine rs_cons ?_ ?_; (focus ((repeat (first | exact .here | apply Mem.there | apply Take.there)); first | done | fail))) | exact fun ρ hρ => hρ | (intro ρ hρ; repeat (first | exact hρ | refine List.mem_cons_of_mem _ ?_)))); first | done | fail) selZ ⟨rfl, rfl⟩
  rw [decide_eq_true hb]
  have hin := add_inside hok ha hfit (quo_pos h0 ha) (by omega)
  have hra := add_res h0 (by omega) ha
  have hrb := add_res h0 (by omega) hb
  have hka := fun hf => add_ok (h := a) h0 (by omega) hok hsort hpl ha hf
  have hkb := fun hf => add_ok (h := b) h0 (by omega) hok hsort hpl hb hf
  refine zq_not ?_
  refine zq_pick_f ?_
  refine jk_nil ?_
  refine jk_if_f rfl ?_
  refine jk_skip ?_
  refine jk_seq ?_
  refine jk_region ?_
  refine zq_loadS ?_
  refine zq_move ?_
  refine zq_fld0 ?_
  refine zq_load ?_
  refine zq_fld0 ?_
  refine zq_load ?_
  refine jk_callM (free_spec ρ τ σ pq pc kq kc qs cs _ l a.n a.s hq hc hcap lq lc hv2 hl) rfl rfl rdZ rfl rfl ?_
  rw [free_val h0 ha]
  rintro _ σ1 ⟨u1, rfl, hO1⟩
  refine jk_freeze (ρ := σ1) takeZ ?_
  refine zq_move ?_
  refine zq_extract ?_
  refine zq_extract ?_
  refine zq_assign ?_
  refine zq_assign ?_
  refine jk_nil ?_
  refine jk_seq ?_
  refine jk_region ?_
  refine zq_loadS ?_
  refine zq_move ?_
  refine zq_loadS ?_
  refine jk_callM (add28_spec ρ τ σ pq pc kq kc qs cs _ l a hq hc hcap lq lc hv2 hl) rfl rfl rdZ rfl rfl ?_
  rintro _ σ2 ⟨u2, rfl, hO2⟩
  refine jk_freeze (ρ := σ2) takeZ ?_
  dsimp only at hO1 ⊢
  unfold insideB at hin
  generalize freeP (qs.getD a.n.toNat 0) a.s (lvH l a.n) = F at hO1 hin
  refine zq_move ?_
  refine zq_extract ?_
  refine zq_extract ?_
  refine zq_assign ?_
  refine zq_assign ?_
  refine jk_nil ?_
  refine jk_seq ?_
  refine jk_region ?_
  refine zq_move ?_
  refine zq_makeFunc ?_
  refine jk_call (contS_spec σ1 [sng b2 _] _ _ F (fun x => decide (x.1 ≤ a.a) && decide (a.b ≤ x.2)) hO1.at (lenOK hO1) (fun i x _ => inside_spec b2 a x)) rfl rfl rdZ rfl rfl ?_
  rw [← hin]
  rintro _ rfl
  have NB : True := trivial
  cases hfa : fitB qs (insH l a) with
  | false =>
    rw [hra, hfa] at hO2
    rw [hra, hfa, if_neg (by simp)]
    refine zq_assign ?_
    refine jk_nil ?_
    refine jk_seq ?_
    refine jk_seq ?_
    refine jk_region ?_
    refine zq_move ?_
    refine zq_neF ?_
    refine zq_move ?_
    refine zq_move ?_
    refine zq_eqF ?_
    refine zq_move ?_
    focus ((refine' jk_q _ rfl rfl rfl _; rotate_left; (apply q_neBool; exact rfl; exact rfl; exact rfl)))
    refine zq_pick_f ?_
    refine zq_move ?_
    refine zq_move ?_
    refine zq_eqF ?_
    refine zq_move ?_
    refine jk_pass rfl rfl rfl ?_
    refine jk_pass rfl rfl rfl ?_
    refine jk_pass rfl rfl rfl ?_
    refine jk_pass rfl rfl rfl ?_
    refine jk_pass rfl rfl rfl ?_
    refine jk_pass rfl rfl rfl ?_
    refine jk_pass rfl rfl rfl ?_
    refine jk_pass rfl rfl rfl ?_
    refine jk_pass rfl rfl rfl ?_
    refine jk_pass rfl rfl rfl ?_
    refine jk_pass rfl rfl rfl ?_
    refine jk_pass rfl rfl rfl ?_
    refine zq_pick_f ?_
    refine zq_pick_f ?_
    refine jk_nil ?_
    refine jk_if_f rfl ?_
    refine jk_skip ?_
    refine jk_seq ?_
    refine jk_region ?_
    refine zq_loadS ?_
    refine zq_move ?_
    refine zq_loadS ?_
    refine jk_callM (add28_spec ρ τ σ pq pc kq kc qs cs _ l b hq hc hcap lq lc hv2 hl) rfl rfl rdZ rfl rfl ?_
    rintro _ σ3 ⟨u3, rfl, hO3⟩
    refine zq_move ?_
    refine zq_extract ?_
    refine zq_extract ?_
    refine zq_assign ?_
    refine zq_assign ?_
    refine jk_nil ?_
    refine jk_seq ?_
    refine jk_seq ?_
    refine jk_region ?_
    refine zq_move ?_
    refine zq_ne ?_
    refine zq_move ?_
    refine jk_pass rfl rfl rfl ?_
    refine jk_pass rfl rfl rfl ?_
    refine zq_pick_t ?_
    refine jk_nil ?_
    refine jk_if_t rfl ?_
    refine jk_seq ?_
    refine jk_region ?_
    focus ((refine jk_call awake_spec rfl rfl rdZ rfl rfl ?_; rintro _ rfl))
    refine zq_assign ?_
    refine jk_nil ?_
    exact jk_ret_any (res1 rfl rfl) (by (repeat (first | exact rs_nil | (refine rs_cons ?_ ?_; (focus ((repeat (first | exact .here | apply Mem.there | apply Take.there)); first | done | fail))) | exact fun ρ hρ => hρ | (intro ρ hρ; repeat (first | exact hρ | refine List.mem_cons_of_mem _ ?_)))); first | done | fail) selZ ⟨rfl, rfl⟩
  | true =>
    rw [hra, hfa, if_pos rfl] at hO2
    rw [hra, hfa, if_pos rfl]
    dsimp only at hO2 ⊢
    obtain ⟨p2, k2, rfl⟩ := SlAt.cap hO2.at
    have hl2 := insH_len l a
    refine zq_assign ?_
    refine jk_nil ?_
    refine jk_seq ?_
    refine jk_seq ?_
    refine jk_region ?_
    refine zq_move ?_
    refine zq_neF ?_
    refine zq_move ?_
    refine zq_move ?_
    refine zq_eq ?_
    refine zq_move ?_
    focus ((refine' jk_q _ rfl rfl rfl _; rotate_left; (apply q_neBool; exact rfl; exact rfl; exact rfl)))
    refine zq_pick_f ?_
    refine zq_move ?_
    refine zq_move ?_
    refine zq_eq ?_
    refine zq_move ?_
    refine zq_loadS ?_
    refine zq_move ?_
    refine jk_call (check28_spec ρ τ σ2 pq pc kq kc qs cs _ (insH l a) hq hc hcap lq lc hO2.at (by omega)) rfl rfl rdZ rfl rfl ?_
    rw [hka hfa]
    rintro _ rfl
    refine zq_neF ?_
    refine zq_move ?_
    refine zq_move ?_
    refine zq_len ?_
    refine zq_move ?_
    refine zq_len ?_
    refine zq_inc ?_
    refine zq_neF ?_
    refine zq_pick_f ?_
    refine zq_pick_t ?_
    refine zq_pick_f ?_
    refine jk_nil ?_
    refine jk_if_f rfl ?_
    refine jk_skip ?_
    refine jk_seq ?_
    refine jk_region ?_
    refine zq_loadS ?_
    refine zq_move ?_
    refine zq_loadS ?_
    refine jk_callM (add28_spec ρ τ σ pq pc kq kc qs cs _ l b hq hc hcap lq lc hv2 hl) rfl rfl rdZ rfl rfl ?_
    rintro _ σ3 ⟨u3, rfl, hO3⟩
    refine jk_freeze (ρ := σ3) takeZ ?_
    cases hfb : fitB qs (insH l b) with
    | false =>
      rw [hrb, hfb, if_neg (by simp)]
      refine zq_move ?_
      refine zq_extract ?_
      refine zq_extract ?_
      refine zq_assign ?_
      refine zq_assign ?_
      refine jk_nil ?_
      refine jk_seq ?_
      refine jk_seq ?_
      refine jk_region ?_
      refine zq_move ?_
      refine zq_neF ?_
      refine zq_move ?_
      refine zq_move ?_
      refine zq_ne ?_
      refine zq_pick_f ?_
      refine jk_nil ?_
      refine jk_if_t rfl ?_
      refine jk_seq ?_
      refine jk_region ?_
      focus ((refine jk_call awake_spec rfl rfl rdZ rfl rfl ?_; rintro _ rfl))
      refine zq_assign ?_
      refine jk_nil ?_
      exact jk_ret_any (res1 rfl rfl) (by (repeat (first | exact rs_nil | (refine rs_cons ?_ ?_; (focus ((repeat (first | exact .here | apply Mem.there | apply Take.there)); first | done | fail))) | exact fun ρ hρ => hρ | (intro ρ hρ; repeat (first | exact hρ | refine List.mem_cons_of_mem _ ?_)))); first | done | fail) selZ ⟨rfl, rfl⟩
    | true =>
      rw [hrb, hfb, if_pos rfl] at hO3
      rw [hrb, hfb, if_pos rfl]
      dsimp only at hO3 ⊢
      have hl3 := insH_len l b
      have e1 : addR qs cs (insH l a) b = addR qs cs (insH l b) a := by
        rw [add_res (hka hfa) (by omega) hb, add_res (hkb hfb) (by omega) ha, ins_comm hsort]
      refine zq_move ?_
      refine zq_extract ?_
      refine zq_extract ?_
      refine zq_assign ?_
      refine zq_assign ?_
      refine jk_nil ?_
      refine jk_seq ?_
      refine jk_seq ?_
      refine jk_region ?_
      refine zq_move ?_
      refine zq_neF ?_
      refine zq_move ?_
      refine zq_move ?_
      refine zq_neF ?_
      refine zq_pick_f ?_
      refine jk_nil ?_
      refine jk_if_f rfl ?_
      refine jk_skip ?_
      refine jk_seq ?_
      refine jk_region ?_
      refine zq_loadS ?_
      refine zq_move ?_
      refine zq_loadS ?_
      refine jk_callM (add28_spec ρ τ σ2 pq pc kq kc qs cs _ (insH l a) b hq hc hcap lq lc hO2.at (by omega)) rfl rfl rdZ rfl rfl ?_
      rintro _ σ4 ⟨u4, rfl, hO4⟩
      refine jk_freeze (ρ := σ4) takeZ ?_
      refine zq_move ?_
      refine zq_extract ?_
      refine zq_extract ?_
      refine zq_assign ?_
      refine zq_assign ?_
      refine jk_nil ?_
      refine jk_seq ?_
      refine jk_region ?_
      refine zq_loadS ?_
      refine zq_move ?_
      refine zq_loadS ?_
      refine jk_callM (add28_spec ρ τ σ3 pq pc kq kc qs cs _ (insH l b) a hq hc hcap lq lc hO3.at (by omega)) rfl rfl rdZ rfl rfl ?_
      rintro _ σ5 ⟨u5, rfl, hO5⟩
      refine jk_freeze (ρ := σ5) takeZ ?_
      rw [e1] at hO4
      rw [e1]
      generalize addR qs cs (insH l b) a = R at hO4 hO5
      obtain ⟨f1, e2⟩ := R
      dsimp only at hO4 hO5 ⊢
      refine zq_move ?_
      refine zq_extract ?_
      refine zq_extract ?_
      refine zq_assign ?_
      refine zq_assign ?_
      refine jk_nil ?_
      refine jk_seq ?_
      refine jk_region ?_
      refine zq_move ?_
      refine zq_move ?_
      refine zq_eq ?_
      refine zq_move ?_
      refine zq_move ?_
      refine zq_move ?_
      refine jk_call (same28_spec σ4 σ5 _ _ f1 f1 hO4.at hO5.at (lenOK hO4)) rfl rfl rdZ rfl rfl ?_
      rw [decide_eq_true rfl]
      rintro _ rfl
      refine zq_pick_t ?_
      refine zq_move ?_
      focus ((refine jk_call awake_spec rfl rfl rdZ rfl rfl ?_; rintro _ rfl))
      refine zq_pick_t ?_
      refine zq_assign ?_
      refine jk_nil ?_
      exact jk_ret_any (res1 rfl rfl) (by (repeat (first | exact rs_nil | (refine rs_cons ?_ ?_; (focus ((repeat (first | exact .here | apply Mem.there | apply Take.there)); first | done | fail))) | exact fun ρ hρ => hρ | (intro ρ hρ; repeat (first | exact hρ | refine List.mem_cons_of_mem _ ?_)))); first | done | fail) selZ ⟨rfl, rfl⟩
end Go.Proofs.Ytnbihndlbopmeaa
/- Laws on holds that are released and added. -/
namespace Go.Proofs.Ytnbihndlbopmeaa
open Go.Eng Go.Step
set_option maxRecDepth 100000
set_option maxHeartbeats 4000000

theorem any_tick (F : List (Int × Int)) (x : Int) : insideB F x (x + 1) = F.any (fun s => decide (s.1 ≤ x) && decide (x < s.2)) := by
  unfold insideB
  congr 1
def timesE (t : Int) (l : List Hd) : List Int := [t, 0, 1099511627775] ++ l.flatMap (fun h => [h.a - 1, h.a, h.b - 1, h.b])
theorem timesE_next (t : Int) {l : List Hd} {k : Nat} {x : Hd} (h : l[k]? = some x) : timesE t (l.take (k + 1)) = timesE t (l.take k) ++ [x.a - 1, x.a, x.b - 1, x.b] := by
  obtain ⟨hk, rfl⟩ := List.getElem?_eq_some_iff.1 h
  unfold timesE
  rw [List.take_succ_eq_append_getElem hk, List.flatMap_append, ← List.append_assoc]
  simp
theorem timesE_len (t : Int) (l : List Hd) : (timesE t l).length = 3 + 4 * l.length := by
  unfold timesE
  rw [List.length_append]
  have : (l.flatMap (fun h => [h.a - 1, h.a, h.b - 1, h.b])).length = 4 * l.length := by
    induction l with
    | nil => rfl
    | cons h l ih => rw [List.flatMap_cons, List.length_append, ih, List.length_cons]; simp only [List.length_cons, List.length_nil]; omega
  rw [this]; rfl
set_option maxHeartbeats 32000000 in
theorem exact_law (ρ τ σ : PH) (pq pc : Option Addr) (kq kc : Nat) (qs : List Int) (cs : List Ct) (v : Value) (l : List Hd) (n s t : Int) (hq : IntsAt ρ (.slice pq qs.length kq) qs) (hc : CtAt τ (.slice pc cs.length kc) cs) (hcap : cs.length ≤ kc) (lq : qs.length ≤ 9223372036854775807) (lc : cs.length ≤ 9223372036854775807) (hv : HdAt σ v l) (hl : l.length ≤ 9223372036854775807) :
    Ans Try.prog (fv 5) [.agg #[.slice pq qs.length kq, .slice pc cs.length kc], v, int n, int s, int t] [ρ, τ, σ] (fun r => r = .bool true) := by
  have hv2 := hv
  obtain ⟨q, c, rfl, hr⟩ := hv.val encH_len
  refine spec_in (cap := []) Try.func5 rfl rfl Try.ntmps5 rfl (by (repeat (first | exact EnvA.nil EnvI.nil | apply EnvA.cons | apply EnvA.nil | exact EnvI.nil | apply EnvI.cons)); first | done | fail) (fun N β => ?_)
  refine jk_seq ?_
  refine jk_region ?_
  refine jk_op (l_boxS rfl) rfl rfl rfl ?_
  rintro _ _ ⟨b1, rfl, rfl⟩
  refine jk_freeze (ρ := sng b1 _) takeZ ?_
  have c1 : RdN (sng b1 (.cells #[.slice pq qs.length kq, .slice pc cs.length kc] 25 (0, 0))) b1 0 [.slice pq qs.length kq, .slice pc cs.length kc] := rdN_sng (vs := [.slice pq qs.length kq, .slice pc cs.length kc])
  refine zq_assign ?_
  refine jk_nil ?_
  refine jk_seq ?_
  refine jk_seq ?_
  refine jk_region ?_
  refine zq_loadS ?_
  refine zq_move ?_
  refine jk_call (small_spec ρ τ σ pq pc kq kc qs cs _ l hq hc hcap lq lc hv2 hl) rfl rfl rdZ rfl rfl ?_
  rintro _ rfl
  cases hsm : smallB qs cs l with
  | false =>
    refine zq_not ?_
    refine jk_nil ?_
    refine jk_if_t rfl ?_
    refine jk_seq ?_
    refine jk_region ?_
    focus ((refine jk_call awake_spec rfl rfl rdZ rfl rfl ?_; rintro _ rfl))
    refine zq_assign ?_
    refine jk_nil ?_
    exact jk_ret_any (res1 rfl rfl) (by (repeat (first | exact rs_nil | (refine rs_cons ?_ ?_; (focus ((repeat (first | exact .here | apply Mem.there | apply Take.there)); first | done | fail))) | exact fun ρ hρ => hρ | (intro ρ hρ; repeat (first | exact hρ | refine List.mem_cons_of_mem _ ?_)))); first | done | fail) selZ ⟨rfl, rfl⟩
  | true =>
  obtain ⟨h16, h0⟩ := small_ok hsm
  obtain ⟨hok, _, _⟩ := chkH_ok h0
  obtain ⟨hsort, hfit, _⟩ := chkH_sort h0
  refine zq_not ?_
  refine jk_nil ?_
  refine jk_if_f rfl ?_
  refine jk_skip ?_
  refine jk_seq ?_
  refine jk_region ?_
  refine zq_loadS ?_
  refine zq_move ?_
  refine zq_move ?_
  refine zq_move ?_
  refine jk_callM (free_spec ρ τ σ pq pc kq kc qs cs _ l n s hq hc hcap lq lc hv2 hl) rfl rfl rdZ rfl rfl ?_
  rintro _ σ1 ⟨u1, rfl, hO1⟩
  by_cases hbad : n < 0 ∨ (qs.length : Int) ≤ n ∨ s < 1 ∨ 65536 < s
  · have hR : freeRes qs cs l n s = ([], 2) := by unfold freeRes; rw [if_neg (fun h => h h0), if_pos hbad]
    rw [hR] at hO1
    rw [hR]
    dsimp only [List.length_nil] at hO1 ⊢
    obtain ⟨p1, k1, rfl⟩ := SlAt.cap hO1.at
    refine zq_move ?_
    refine zq_extract ?_
    refine zq_extract ?_
    refine zq_assign ?_
    refine zq_assign ?_
    refine jk_nil ?_
    refine jk_seq ?_
    refine jk_seq ?_
    refine jk_region ?_
    refine zq_move ?_
    refine zq_ne ?_
    refine jk_nil ?_
    refine jk_if_t rfl ?_
    refine jk_seq ?_
    refine jk_region ?_
    refine zq_move ?_
    refine zq_len ?_
    refine zq_eq ?_
    refine zq_move ?_
    focus ((refine jk_call awake_spec rfl rfl rdZ rfl rfl ?_; rintro _ rfl))
    refine zq_pick_t ?_
    refine zq_assign ?_
    refine jk_nil ?_
    exact jk_ret_any (res1 rfl rfl) (by (repeat (first | exact rs_nil | (refine rs_cons ?_ ?_; (focus ((repeat (first | exact .here | apply Mem.there | apply Take.there)); first | done | fail))) | exact fun ρ hρ => hρ | (intro ρ hρ; repeat (first | exact hρ | refine List.mem_cons_of_mem _ ?_)))); first | done | fail) selZ ⟨rfl, rfl⟩
  have hokx : ∀ x : Int, 0 ≤ x → x < 1099511627776 → okHd qs.length ⟨n, x, x + 1, s, 0⟩ := fun x h1 h2 => by
    unfold okHd
    dsimp only
    omega
  have hR : freeRes qs cs l n s = (freeP (qs.getD n.toNat 0) s (lvH l n), 0) := by unfold freeRes; rw [if_neg (fun h => h h0), if_neg hbad]
  have hadd : ∀ x : Int, 0 ≤ x → x < 1099511627776 → (addR qs cs l ⟨n, x, x + 1, s, 0⟩).2 = if (freeP (qs.getD n.toNat 0) s (lvH l n)).any (fun s => decide (s.1 ≤ x) && decide (x < s.2)) then 0 else 15 := fun x h1 h2 => by
    have hh := hokx x h1 h2
    have hin := add_inside hok hh hfit (quo_pos h0 hh) (by omega)
    dsimp only at hin
    rw [any_tick] at hin
    rw [add_res h0 (by omega) hh, hin]
    split <;> rfl
  have hap := (free_holds (n := n) (Q := qs.getD n.toNat 0) (s := s) hok (by omega)).1
  rw [hR] at hO1
  rw [hR]
  dsimp only at hO1 ⊢
  generalize freeP (qs.getD n.toNat 0) s (lvH l n) = F at hO1 hadd hap
  have hlF := lenOK hO1
  have hF : SpAt σ1 u1 F := hO1.at
  have hF2 := hF
  obtain ⟨p1, k1, rfl, hrF⟩ := hF.val encS_len
  refine jk_freeze (ρ := σ1) takeZ ?_
  refine zq_move ?_
  refine zq_extract ?_
  refine zq_extract ?_
  refine zq_assign ?_
  refine zq_assign ?_
  refine jk_nil ?_
  refine jk_seq ?_
  refine jk_seq ?_
  refine jk_region ?_
  refine zq_move ?_
  refine zq_neF ?_
  refine jk_nil ?_
  refine jk_if_f rfl ?_
  refine jk_skip ?_
  refine jk_seq ?_
  refine jk_seq ?_
  refine jk_region ?_
  refine zq_move ?_
  refine zq_len ?_
  refine zq_move ?_
  refine jk_nil ?_
  refine jk_block ?_
  refine jk_loop [1, 2, 3, 4, 5, 11, 43, 44] (0 : Nat) (fun k => k ≤ F.length) (fun k => [(45, int k)]) (fun _ => []) (fun k => F.length - k) pickZ (by omega) covZ selZ ?_
  intro k hk
  by_cases hlt : k < F.length
  · have hx := List.getElem?_eq_getElem hlt
    have hox := hap.ok _ (List.getElem_mem hlt)
    have hse := List.pairwise_iff_getElem.1 hap.sep
    obtain ⟨b4, o4, rfl, hrd, g0, g1⟩ := spRow hrF hx
    by_cases hk0 : k = 0
    · subst hk0
      generalize F[0] = x at hrd g0 g1 hox
      refine jk_seq ?_
      refine jk_region ?_
      refine zq_lt ?_
      refine jk_nil ?_
      refine jk_seq ?_
      refine jk_if_t rfl ?_
      refine jk_skip ?_
      refine jk_seq ?_
      refine jk_block ?_
      refine jk_seq ?_
      refine jk_region ?_
      refine zq_move ?_
      refine zq_idxN ?_
      refine zq_loadS ?_
      refine zl_allocS ?_; rintro _ _ ⟨b, rfl, rfl⟩
      refine zq_assign ?_
      refine zs_storeS ?_; rintro _ _ ⟨rfl, rfl⟩
      refine jk_nil ?_
      refine jk_seq ?_
      refine jk_draw (.q 0 (.q 1 (.q 2 (.q 3 (.q 4 (.q 5 (.q 6 (.q 7 (.q 8 (.q 9 (.q 10 (.q 11 (.q 12 (.q 13 (.q 14 (.q 15 (.q 16 (.q 17 (.q 18 (.q 19 (.q 20 (.q 21 (.q 22 (.q 23 (.q 24 (.q 25 (.q 26 (.q 27 (.q 28 (.q 29 .nil)))))))))))))))))))))))))))))) [sng b _] rfl (by kernel_rfl) selZ ?_
      refine zd_fld0 ?_
      refine zd_load ?_
      refine zd_fld0 ?_
      refine zd_load ?_
      refine zd_geF ?_
      refine zd_move ?_
      refine zd_fld0 ?_
      refine zd_load ?_
      refine zd_ltF ?_
      refine zd_pick_f ?_
      refine zd_move ?_
      refine zd_fld0 ?_
      refine zd_load ?_
      refine zd_gtF ?_
      refine zd_pick_f ?_
      refine zd_move ?_
      refine zd_move ?_
      refine zd_gtF ?_
      refine zd_move ?_
      refine dj_pass rfl rfl rfl rfl rfl ?_
      refine dj_pass rfl rfl rfl rfl rfl ?_
      refine dj_pass rfl rfl rfl rfl rfl ?_
      refine dj_pass rfl rfl rfl rfl rfl ?_
      refine dj_pass rfl rfl rfl rfl rfl ?_
      refine dj_pass rfl rfl rfl rfl rfl ?_
      refine dj_pass rfl rfl rfl rfl rfl ?_
      refine dj_pass rfl rfl rfl rfl rfl ?_
      refine dj_pass rfl rfl rfl rfl rfl ?_
      refine zd_pick_f ?_
      refine zd_pick_f ?_
      refine dj_end ?_
      refine jk_if_f rfl ?_
      refine jk_skip ?_
      refine jk_blk ?_
      refine jk_region ?_
      refine zq_inc ?_
      refine zq_move ?_
      refine jk_nil ?_
      exact jk_round (0 + 1) (by omega) (by omega) covZ selZ
    · have hx2 := List.getElem?_eq_getElem (show k - 1 < F.length by omega)
      have hlt2 := hse (k - 1) k (by omega) hlt (by omega)
      obtain ⟨_, _, e, _, g3, g4⟩ := spRow hrF hx2
      simp only [Option.some.injEq, Addr.mk.injEq, and_true] at e
      obtain ⟨rfl, rfl⟩ := e
      generalize F[k] = x at hrd g0 g1 hox hlt2
      generalize F[k - 1] = y at g3 g4 hlt2
      refine jk_seq ?_
      refine jk_region ?_
      refine zq_lt ?_
      refine jk_nil ?_
      refine jk_seq ?_
      refine jk_if_t rfl ?_
      refine jk_skip ?_
      refine jk_seq ?_
      refine jk_block ?_
      refine jk_seq ?_
      refine jk_region ?_
      refine zq_move ?_
      refine zq_idxN ?_
      refine zq_loadS ?_
      refine zl_allocS ?_; rintro _ _ ⟨b, rfl, rfl⟩
      refine zq_assign ?_
      refine zs_storeS ?_; rintro _ _ ⟨rfl, rfl⟩
      refine jk_nil ?_
      refine jk_seq ?_
      refine jk_draw (.q 0 (.q 1 (.q 2 (.q 3 (.q 4 (.q 5 (.q 6 (.q 7 (.q 8 (.q 9 (.q 10 (.q 11 (.q 12 (.q 13 (.q 14 (.q 15 (.q 16 (.q 17 (.q 18 (.q 19 (.q 20 (.q 21 (.q 22 (.q 23 (.q 24 (.q 25 (.q 26 (.q 27 (.q 28 (.q 29 .nil)))))))))))))))))))))))))))))) [sng b _] rfl (by kernel_rfl) selZ ?_
      refine zd_fld0 ?_
      refine zd_load ?_
      refine zd_fld0 ?_
      refine zd_load ?_
      refine zd_geF ?_
      refine zd_move ?_
      refine zd_fld0 ?_
      refine zd_load ?_
      refine zd_ltF ?_
      refine zd_pick_f ?_
      refine zd_move ?_
      refine zd_fld0 ?_
      refine zd_load ?_
      refine zd_gtF ?_
      refine zd_pick_f ?_
      refine zd_move ?_
      refine zd_move ?_
      refine zd_gt ?_
      refine zd_move ?_
      refine zd_move ?_
      refine zd_move ?_
      refine zd_sub_nat ?_
      refine zd_idxN ?_
      refine zd_fld ?_
      refine zd_load ?_
      refine zd_fld0 ?_
      refine zd_load ?_
      refine zd_geF ?_
      refine zd_pick_t ?_
      refine zd_pick_f ?_
      refine dj_end ?_
      refine jk_if_f rfl ?_
      refine jk_skip ?_
      refine jk_blk ?_
      refine jk_region ?_
      refine zq_inc ?_
      refine zq_move ?_
      refine jk_nil ?_
      exact jk_round (k + 1) (by omega) (by omega) covZ selZ
  refine jk_seq ?_
  refine jk_region ?_
  refine zq_ltF ?_
  refine jk_nil ?_
  refine jk_seq ?_
  refine jk_if_f rfl ?_
  refine jk_exit rfl ?_
  refine jk_seq ?_
  refine jk_region ?_
  refine zq_move ?_
  refine zl_buildSlice ?_; rintro _ _ ⟨b, rfl, rfl⟩
  refine zq_assign ?_
  refine jk_nil ?_
  refine jk_seq ?_
  refine jk_seq ?_
  refine jk_region ?_
  refine zq_move ?_
  refine zq_len ?_
  refine zq_move ?_
  refine jk_nil ?_
  refine jk_block ?_
  revert b; intro bt
  refine jk_loop [1, 2, 3, 5, 11, 83, 84] (X := Nat × (Value × PH)) (0, (.slice (some ⟨bt, 0, none⟩) 3 3, sng bt (.cells #[int t, int 0, int 1099511627775] 3 (0, 0)))) (fun x => x.1 ≤ l.length ∧ OwnS 3 1 x.2.1 (timesE t (l.take x.1)).length ((timesE t (l.take x.1)).flatMap Eng.encI) x.2.2) (fun x => [(85, int x.1), (15, x.2.1)]) (fun x => [x.2.2]) (fun x => l.length - x.1) pickZ ⟨by dsimp only; omega, ⟨by simp [timesE, Eng.encI], .inr ⟨bt, 3, _, rfl, rfl, by simp [timesE], by simp [maxLen], rfl, by simp [timesE, Eng.encI]⟩⟩⟩ covZ selZ ?_
  rintro ⟨k2, u2, σ2⟩ ⟨hk2, hO2⟩
  dsimp only at hk2 hO2 ⊢
  have htl := timesE_len t (l.take k2)
  rw [List.length_take, Nat.min_eq_left hk2] at htl
  by_cases hlt2 : k2 < l.length
  · have hx := List.getElem?_eq_getElem hlt2
    have hn := timesE_next t hx
    have hox := (hok _ (List.getElem_mem hlt2)).2.1
    obtain ⟨b1', o1', rfl, hrd, g0, g1, g2, g3, g4⟩ := hdRow5 hr hx
    generalize l[k2] = x at hrd g0 g1 g2 g3 g4 hn hox
    refine jk_seq ?_
    refine jk_region ?_
    refine zq_lt ?_
    refine jk_nil ?_
    refine jk_seq ?_
    refine jk_if_t rfl ?_
    refine jk_skip ?_
    refine jk_seq ?_
    refine jk_block ?_
    refine jk_seq ?_
    refine jk_region ?_
    refine zq_idxN ?_
    refine zq_loadS ?_
    refine zl_allocS ?_; rintro _ _ ⟨b, rfl, rfl⟩
    refine zs_storeS ?_; rintro _ _ ⟨rfl, rfl⟩
    refine jk_nil ?_
    refine jk_region ?_
    refine zq_move ?_
    refine zq_fld0 ?_
    refine zq_load ?_
    refine zq_sub ?_
    refine zq_fld0 ?_
    refine zq_load ?_
    refine zq_fld0 ?_
    refine zq_load ?_
    refine zq_sub ?_
    refine zq_fld0 ?_
    refine zq_load ?_
    refine zl_buildSlice ?_; rintro _ _ ⟨b, rfl, rfl⟩
    refine jk_op (l_append (by_ := 8) (s := 1) (news := [int (x.a - 1), int x.a, int (x.b - 1), int x.b]) rfl rfl rfl rfl rfl rfl rfl hO2 takeZ (cells_own memZ) rfl (by (repeat (first | exact (fun v hv => absurd hv List.not_mem_nil) | (refine List.forall_mem_cons.2 ⟨?_, ?_⟩; (focus (first | exact rfl | assumption))))); first | done | fail) (by omega) (by simp only [maxLen]; omega) (by omega)) rfl rfl rfl ?_
    rintro u3 _ ⟨σ3, hO3, rfl⟩
    refine zq_assign ?_
    refine jk_nil ?_
    refine jk_blk ?_
    refine jk_region ?_
    refine zq_inc ?_
    refine zq_move ?_
    refine jk_nil ?_
    refine jk_round (k2 + 1, (u3, σ3)) ⟨by dsimp only; omega, ?_⟩ (by dsimp only; omega) covZ selZ
    dsimp only
    rw [hn, List.length_append, List.flatMap_append]
    exact hO3
  have hke : k2 = l.length := by omega
  subst hke
  rw [List.take_length] at hO2 htl
  have hT : IntsAt σ2 u2 (timesE t l) := hO2.at
  generalize timesE t l = T at hO2 htl hT
  obtain ⟨pT, kT, rfl, hrT⟩ := hT.val Eng.encI_len
  refine jk_freeze (ρ := σ2) takeZ ?_
  refine jk_seq ?_
  refine jk_region ?_
  refine zq_ltF ?_
  refine jk_nil ?_
  refine jk_seq ?_
  refine jk_if_f rfl ?_
  refine jk_exit rfl ?_
  refine jk_seq ?_
  refine jk_seq ?_
  refine jk_region ?_
  refine zq_move ?_
  refine zq_len ?_
  refine zq_move ?_
  refine jk_nil ?_
  refine jk_block ?_
  refine jk_loop [1, 2, 3, 5, 11, 103, 104] (0 : Nat) (fun k => k ≤ T.length) (fun k => [(105, int k)]) (fun _ => []) (fun k => T.length - k) pickZ (by omega) covZ selZ ?_
  intro k3 hk3
  by_cases hlt3 : k3 < T.length
  · obtain ⟨bT, oT, rfl, gT⟩ := hrT.int (List.getElem?_eq_getElem hlt3)
    generalize T[k3] = x at gT
    by_cases hx1 : x < 0
    · refine jk_seq ?_
      refine jk_region ?_
      refine zq_lt ?_
      refine jk_nil ?_
      refine jk_seq ?_
      refine jk_if_t rfl ?_
      refine jk_skip ?_
      refine jk_seq ?_
      refine jk_block ?_
      refine jk_seq ?_
      refine jk_region ?_
      refine zq_idx1 ?_
      refine zq_load ?_
      refine zq_assign ?_
      refine jk_nil ?_
      refine jk_seq ?_
      refine jk_seq ?_
      refine jk_region ?_
      refine zq_move ?_
      refine zq_lt ?_
      refine zq_move ?_
      refine jk_pass rfl rfl rfl ?_
      refine jk_pass rfl rfl rfl ?_
      refine zq_pick_t ?_
      refine jk_nil ?_
      refine jk_if_t rfl ?_
      refine jk_exit rfl ?_
      refine jk_region ?_
      refine zq_inc ?_
      refine zq_move ?_
      refine jk_nil ?_
      exact jk_round (k3 + 1) (by omega) (by omega) covZ selZ
    by_cases hx2 : 1099511627776 ≤ x
    · refine jk_seq ?_
      refine jk_region ?_
      refine zq_lt ?_
      refine jk_nil ?_
      refine jk_seq ?_
      refine jk_if_t rfl ?_
      refine jk_skip ?_
      refine jk_seq ?_
      refine jk_block ?_
      refine jk_seq ?_
      refine jk_region ?_
      refine zq_idx1 ?_
      refine zq_load ?_
      refine zq_assign ?_
      refine jk_nil ?_
      refine jk_seq ?_
      refine jk_seq ?_
      refine jk_region ?_
      refine zq_move ?_
      refine zq_ltF ?_
      refine zq_move ?_
      refine zq_move ?_
      refine zq_ge ?_
      refine zq_pick_f ?_
      refine jk_nil ?_
      refine jk_if_t rfl ?_
      refine jk_exit rfl ?_
      refine jk_region ?_
      refine zq_inc ?_
      refine zq_move ?_
      refine jk_nil ?_
      exact jk_round (k3 + 1) (by omega) (by omega) covZ selZ
    have hax := hadd x (by omega) (by omega)
    refine jk_seq ?_
    refine jk_region ?_
    refine zq_lt ?_
    refine jk_nil ?_
    refine jk_seq ?_
    refine jk_if_t rfl ?_
    refine jk_skip ?_
    refine jk_seq ?_
    refine jk_block ?_
    refine jk_seq ?_
    refine jk_region ?_
    refine zq_idx1 ?_
    refine zq_load ?_
    refine zq_assign ?_
    refine jk_nil ?_
    refine jk_seq ?_
    refine jk_seq ?_
    refine jk_region ?_
    refine zq_move ?_
    refine zq_ltF ?_
    refine zq_move ?_
    refine zq_move ?_
    refine zq_geF ?_
    refine zq_pick_f ?_
    refine jk_nil ?_
    refine jk_if_f rfl ?_
    refine jk_skip ?_
    refine jk_seq ?_
    refine jk_region ?_
    refine zq_loadS ?_
    refine zq_move ?_
    refine zq_move ?_
    refine zq_move ?_
    refine zq_move ?_
    refine zq_add ?_
    refine zq_move ?_
    refine zq_build ?_
    refine jk_callM (add28_spec ρ τ σ pq pc kq kc qs cs _ l ⟨n, x, x + 1, s, 0⟩ hq hc hcap lq lc hv2 hl) rfl rfl rdZ rfl rfl ?_
    rintro _ σ4 ⟨u4, rfl, hO4⟩
    rw [hax]
    cases hfr : F.any (fun s => decide (s.1 ≤ x) && decide (x < s.2)) with
    | true =>
      rw [if_pos rfl]
      refine zq_move ?_
      refine zq_extract ?_
      refine zq_extract ?_
      refine zq_assign ?_
      refine zq_assign ?_
      refine jk_nil ?_
      refine jk_seq ?_
      refine jk_region ?_
      refine zq_move ?_
      refine zq_eq ?_
      refine zq_move ?_
      refine zq_move ?_
      refine jk_call (isFree_spec σ1 _ F x hF2 hlF) rfl rfl rdZ rfl rfl ?_
      rw [hfr]
      rintro _ rfl
      focus ((refine' jk_q _ rfl rfl rfl _; rotate_left; (apply q_neBool; exact rfl; exact rfl; exact rfl)))
      refine zq_move ?_
      refine zq_move ?_
      refine zq_neF ?_
      refine zq_move ?_
      refine jk_pass rfl rfl rfl ?_
      refine jk_pass rfl rfl rfl ?_
      refine zq_pick_f ?_
      refine zq_pick_f ?_
      refine jk_nil ?_
      refine jk_if_f rfl ?_
      refine jk_skip ?_
      refine jk_blk ?_
      refine jk_region ?_
      refine zq_inc ?_
      refine zq_move ?_
      refine jk_nil ?_
      exact jk_round (k3 + 1) (by omega) (by omega) covZ selZ
    | false =>
      rw [if_neg (by simp)]
      refine zq_move ?_
      refine zq_extract ?_
      refine zq_extract ?_
      refine zq_assign ?_
      refine zq_assign ?_
      refine jk_nil ?_
      refine jk_seq ?_
      refine jk_region ?_
      refine zq_move ?_
      refine zq_eqF ?_
      refine zq_move ?_
      refine zq_move ?_
      refine jk_call (isFree_spec σ1 _ F x hF2 hlF) rfl rfl rdZ rfl rfl ?_
      rw [hfr]
      rintro _ rfl
      focus ((refine' jk_q _ rfl rfl rfl _; rotate_left; (apply q_neBool; exact rfl; exact rfl; exact rfl)))
      refine zq_move ?_
      refine zq_move ?_
      refine zq_ne ?_
      refine zq_move ?_
      refine zq_move ?_
      refine zq_neF ?_
      refine zq_pick_t ?_
      refine zq_pick_f ?_
      refine jk_nil ?_
      refine jk_if_f rfl ?_
      refine jk_skip ?_
      refine jk_blk ?_
      refine jk_region ?_
      refine zq_inc ?_
      refine zq_move ?_
      refine jk_nil ?_
      exact jk_round (k3 + 1) (by omega) (by omega) covZ selZ
  refine jk_seq ?_
  refine jk_region ?_
  refine zq_ltF ?_
  refine jk_nil ?_
  refine jk_seq ?_
  refine jk_if_f rfl ?_
  refine jk_exit rfl ?_
  refine jk_seq ?_
  refine jk_region ?_
  focus ((refine jk_call awake_spec rfl rfl rdZ rfl rfl ?_; rintro _ rfl))
  refine zq_assign ?_
  refine jk_nil ?_
  exact jk_ret_any (res1 rfl rfl) (by (repeat (first | exact rs_nil | (refine rs_cons ?_ ?_; (focus ((repeat (first | exact .here | apply Mem.there | apply Take.there)); first | done | fail))) | exact fun ρ hρ => hρ | (intro ρ hρ; repeat (first | exact hρ | refine List.mem_cons_of_mem _ ?_)))); first | done | fail) selZ ⟨rfl, rfl⟩
end Go.Proofs.Ytnbihndlbopmeaa
/- The rows: each law, for every input. -/
namespace Go.Proofs.Ytnbihndlbopmeaa
open Go.Eng Go.Step
set_option maxRecDepth 100000
set_option maxHeartbeats 4000000
open Go.ChangeShapes Go.WideShapes Go.ChangeAt Go.RowKit

set_option maxRecDepth 100000 in
theorem storageExact_lifted (os : Os) (started : os.Started) (H : Type) (enc : TypeId × Value → H) :
    ReturnsInHanded {} Try.checked os 5 .any (Rows.storageExactSpec.pre6 enc Try.prog Try.f5 Rows.storageExactRow.domain false) (Rows.storageExactSpec.post enc Try.prog Try.f5 false true false false) := by
  refine returnsInHanded_of_change (C := Try.checked) Try.own started (by kernel_rfl) Try.func5
    (ChangeSpec.witness6 (enc := enc) (C := Try.checked) false ⟨#[], #[.agg #[.slice none 0 0, .slice none 0 0], .slice none 0 0, .int .i64 0, .int .i64 0, .int .i64 0], []⟩ 8 (by kernel_rfl) (by kernel_rfl) (by kernel_rfl) (by kernel_rfl)) ?_
  intro W base args ds gs before hval0 hW hcnd _
  have hval : ∀ (j : Nat) t v, Try.f5.params[j]? = some t → args[j]? = some v → Value.okWide Try.prog W .any base t v := hval0
  have hW' := hW
  obtain ⟨p, q, hA0, hV, rfl, hfz, hnd⟩ := hW
  have hA : DataW.TrodAll enc Try.prog W 0 (fun _ => true) true Try.f5.params.toList args.toList ds p := hA0
  rw [Try.params5] at hA hval
  obtain ⟨v0, vs0, d0, ds0, p0, q0, hargs, rfl, rfl, h0, r0⟩ := trodAll_cons hA
  obtain ⟨v1, vs1, d1, ds1, p1, q1, rfl, rfl, rfl, h1, r1⟩ := trodAll_cons r0
  obtain ⟨v2, vs2, d2, ds2, p2, q2, rfl, rfl, rfl, h2, r2⟩ := trodAll_cons r1
  obtain ⟨v3, vs3, d3, ds3, p3, q3, rfl, rfl, rfl, h3, r3⟩ := trodAll_cons r2
  obtain ⟨v4, vs4, d4, ds4, p4, q4, rfl, rfl, rfl, h4, r4⟩ := trodAll_cons r3
  obtain ⟨rfl, rfl, rfl⟩ := trodAll_nil r4
  obtain rfl : args = #[v0, v1, v2, v3, v4] := by cases args; simp_all
  obtain ⟨rfl, rfl⟩ := trodVars_none hV
  have lt0 : ∀ x ∈ p0, x.block < W.heap.size := by obtain ⟨m, hm⟩ := h0; exact DataW.trod_lt m _ _ _ hm
  have lt1 : ∀ x ∈ p1, x.block < W.heap.size := by obtain ⟨m, hm⟩ := h1; exact DataW.trod_lt m _ _ _ hm
  have lt2 : ∀ x ∈ p2, x.block < W.heap.size := by obtain ⟨m, hm⟩ := h2; exact DataW.trod_lt m _ _ _ hm
  have lt3 : ∀ x ∈ p3, x.block < W.heap.size := by obtain ⟨m, hm⟩ := h3; exact DataW.trod_lt m _ _ _ hm
  have lt4 : ∀ x ∈ p4, x.block < W.heap.size := by obtain ⟨m, hm⟩ := h4; exact DataW.trod_lt m _ _ _ hm
  have hlaw : Ans Try.prog (fv 5) [v0, v1, v2, v3, v4] [heapPH W] (fun v => v = .bool true) := by
    obtain ⟨pq, pc, kq, kc, qs, cs, rfl, hq, hc, hcap, lq, lc⟩ := plan_of (hval 0 _ v0 rfl rfl) (RdT.of h0)
    obtain ⟨l, hl, cl, ll⟩ := holds_of (hval 1 _ v1 rfl rfl) (RdT.of h1)
    obtain ⟨n, rfl, _, _, wn⟩ := open_int Try.underlying3 (hval 2 _ v2 rfl rfl) h2
    obtain ⟨s, rfl, _, _, ws⟩ := open_int Try.underlying3 (hval 3 _ v3 rfl rfl) h3
    obtain ⟨t, rfl, _, _, wt⟩ := open_int Try.underlying3 (hval 4 _ v4 rfl rfl) h4
    exact (exact_law _ _ _ pq pc kq kc qs cs v1 l n s t hq hc hcap lq lc hl ll).rsub (fun _ h => by simpa using h)
  refine (law_calls Try.func5 rfl rfl hlaw).mono fun e W' ⟨he, bel⟩ => ?_
  subst he
  exact ⟨_, rfl, _, _, _, [], _, [], hW', trodAll_mk1 (shut_bool Try.underlying4 _), (trodAll_cons_mk (Below.trod Try.laidOut (by kernel_rfl) (of_decide_eq_true (by kernel_rfl)) h0 bel lt0) (trodAll_cons_mk (Below.trod Try.laidOut (by kernel_rfl) (of_decide_eq_true (by kernel_rfl)) h1 bel lt1) (trodAll_cons_mk (Below.trod Try.laidOut (by kernel_rfl) (of_decide_eq_true (by kernel_rfl)) h2 bel lt2) (trodAll_cons_mk (Below.trod Try.laidOut (by kernel_rfl) (of_decide_eq_true (by kernel_rfl)) h3 bel lt3) (trodAll_cons_mk (Below.trod Try.laidOut (by kernel_rfl) (of_decide_eq_true (by kernel_rfl)) h4 bel lt4) trodAll_mk0))))), rfl, bel.frame _, fun h => by cases h⟩
theorem storageExact_holds : Rows.StorageExactSaid :=
  OpenClaim.holds_of_wide 5 Try.f5 rfl rfl rfl rfl rfl rfl rfl ⟨rfl, rfl, rfl, rfl, rfl⟩ rfl rfl rfl rfl rfl (by kernel_rfl) Try.func5 (by kernel_rfl)
    (of_decide_eq_true (by kernel_rfl)) (by unfold Func.isWrapper; first | (rw [if_pos (by decide +kernel)]; kernel_rfl) | (rw [if_neg (by decide +kernel)]; exact ⟨rfl, rfl⟩))
    (fun os started H enc _ => storageExact_lifted os started H enc)
end Go.Proofs.Ytnbihndlbopmeaa
