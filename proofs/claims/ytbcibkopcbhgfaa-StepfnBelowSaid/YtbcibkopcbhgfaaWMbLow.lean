/- Where a function is low: intervals apart from each other. No program in sight. No conditions. -/
import Derived.Test.YtbcibkopcbhgfaaWMbCover
import Derived.Test.YtbcibkopcbhgfaaWMbBelow
set_option linter.all false
namespace Go.Step
/-- parts that follow on each other -/
def Chn (a : Int) : List Pt → Int → Prop
  | [], b => a = b
  | p :: ps, b => p.1.1 = a ∧ a < p.1.2 ∧ Chn p.1.2 ps b
theorem parts_chn (to : Int) : ∀ (g : List Lv) (fr now : Int), fr ≤ to → Chn fr (partsFrom fr to now g) to
  | [], fr, now, h => by
    unfold partsFrom
    split
    · exact ⟨rfl, by assumption, rfl⟩
    · show fr = to; omega
  | l :: g, fr, now, h => by
    unfold partsFrom
    split
    · exact parts_chn to g fr now h
    · rename_i hc
      exact ⟨rfl, by dsimp only; omega, parts_chn to g (min l.a to) l.v (by omega)⟩
theorem chn_ge {b : Int} : ∀ {ps : List Pt} {a : Int}, Chn a ps b → ∀ q ∈ ps, a ≤ q.1.1
  | [], _, _, q, hq => by simp at hq
  | p :: ps, a, ⟨h1, h2, h3⟩, q, hq => by
    rcases List.mem_cons.1 hq with rfl | hq
    · omega
    · have := chn_ge h3 q hq; omega
theorem chn_one {b t : Int} : ∀ {ps : List Pt} {a : Int}, Chn a ps b → ∀ {q r : Pt}, q ∈ ps → r ∈ ps → q.1.1 ≤ t ∧ t < q.1.2 → r.1.1 ≤ t ∧ t < r.1.2 → q = r
  | [], _, _, q, _, hq, _, _, _ => by simp at hq
  | p :: ps, a, ⟨h1, h2, h3⟩, q, r, hq, hr, k, k' => by
    rcases List.mem_cons.1 hq with e | hq'
    · rcases List.mem_cons.1 hr with e' | hr'
      · rw [e, e']
      · have := chn_ge h3 r hr'; subst e; omega
    · rcases List.mem_cons.1 hr with e' | hr'
      · have := chn_ge h3 q hq'; subst e'; omega
      · exact chn_one h3 hq' hr' k k'
def Cov (l : List (Int × Int)) (t : Int) : Prop := ∃ s ∈ l, s.1 ≤ t ∧ t < s.2
structure Apart (lo a : Int) (l : List (Int × Int)) : Prop where
  ok : ∀ s ∈ l, lo ≤ s.1 ∧ s.1 < s.2 ∧ s.2 ≤ a
  sep : l.Pairwise (fun s t => s.2 < t.1)
theorem bstep_ok {lim lo a : Int} {out : List (Int × Int)} {p : Pt} (h : Apart lo a out) (hlo : lo ≤ a) (h1 : p.1.1 = a) (h2 : a < p.1.2) :
    Apart lo p.1.2 (bstep lim out p) ∧ ∀ t, Cov (bstep lim out p) t ↔ Cov out t ∨ (p.2 ≤ lim ∧ p.1.1 ≤ t ∧ t < p.1.2) := by
  obtain ⟨⟨p1, p2⟩, pv⟩ := p
  dsimp only at h1 h2 ⊢
  subst h1
  by_cases hc : lim < pv
  · have e : bstep lim out ((p1, p2), pv) = out := by unfold bstep; rw [if_pos hc]
    rw [e]
    refine ⟨⟨fun s hs => ?_, h.sep⟩, fun t => ?_⟩
    · have := h.ok s hs; omega
    · constructor
      · exact fun h => .inl h
      · rintro (h | h)
        · exact h
        · omega
  · cases hg : out.getLast? with
    | none =>
      have ho : out = [] := List.getLast?_eq_none_iff.1 hg
      subst ho
      have e : bstep lim [] ((p1, p2), pv) = [(p1, p2)] := by unfold bstep; rw [if_neg hc]; rfl
      rw [e]
      refine ⟨⟨fun s hs => ?_, by simp⟩, fun t => ?_⟩
      · simp at hs; subst hs; exact ⟨hlo, h2, Int.le_refl _⟩
      · constructor
        · rintro ⟨s, hs, k⟩
          simp at hs; subst hs
          exact .inr ⟨by omega, k⟩
        · rintro (⟨s, hs, _⟩ | k)
          · simp at hs
          · exact ⟨(p1, p2), by simp, k.2⟩
    | some q =>
      obtain ⟨m, rfl⟩ : ∃ m, out = m ++ [q] := by
        have := List.getLast?_eq_some_iff.1 hg
        exact this
      have hq := h.ok q (by simp)
      have hsep := List.pairwise_append.1 h.sep
      by_cases he : q.2 = p1
      · have e : bstep lim (m ++ [q]) ((p1, p2), pv) = m ++ [(q.1, p2)] := by unfold bstep; rw [if_neg hc, hg]; simp [he]
        rw [e]
        refine ⟨⟨fun s hs => ?_, List.pairwise_append.2 ⟨hsep.1, by simp, fun s hs t ht => ?_⟩⟩, fun t => ?_⟩
        · rcases List.mem_append.1 hs with hs | hs
          · have := h.ok s (by simp [hs]); omega
          · simp at hs; subst hs; dsimp only; omega
        · simp at ht; subst ht
          exact hsep.2.2 s hs q (by simp)
        · constructor
          · rintro ⟨s, hs, k⟩
            rcases List.mem_append.1 hs with hs | hs
            · exact .inl ⟨s, by simp [hs], k⟩
            · simp at hs; subst hs
              dsimp only at k
              by_cases ht : t < p1
              · exact .inl ⟨q, by simp, by omega⟩
              · exact .inr (by omega)
          · rintro (⟨s, hs, k⟩ | k)
            · rcases List.mem_append.1 hs with hs | hs
              · exact ⟨s, by simp [hs], k⟩
              · simp at hs; subst hs
                exact ⟨(s.1, p2), by simp, by dsimp only; omega⟩
            · exact ⟨(q.1, p2), by simp, by dsimp only; omega⟩
      · have e : bstep lim (m ++ [q]) ((p1, p2), pv) = m ++ [q] ++ [(p1, p2)] := by unfold bstep; rw [if_neg hc, hg]; simp [he]
        rw [e]
        refine ⟨⟨fun s hs => ?_, List.pairwise_append.2 ⟨h.sep, by simp, fun s hs t ht => ?_⟩⟩, fun t => ?_⟩
        · rcases List.mem_append.1 hs with hs | hs
          · have := h.ok s hs; omega
          · simp at hs; subst hs; dsimp only; omega
        · simp at ht; subst ht
          dsimp only
          rcases List.mem_append.1 hs with hs | hs
          · have := hsep.2.2 s hs q (by simp)
            omega
          · simp at hs; subst hs; omega
        · constructor
          · rintro ⟨s, hs, k⟩
            rcases List.mem_append.1 hs with hs | hs
            · exact .inl ⟨s, hs, k⟩
            · simp at hs; subst hs
              exact .inr ⟨by omega, k⟩
          · rintro (⟨s, hs, k⟩ | k)
            · exact ⟨s, List.mem_append.2 (.inl hs), k⟩
            · exact ⟨(p1, p2), by simp, k.2⟩
theorem low_fold {lim lo b : Int} : ∀ (ps : List Pt) (a : Int) (out : List (Int × Int)), Apart lo a out → lo ≤ a → Chn a ps b →
    Apart lo b (ps.foldl (bstep lim) out) ∧ ∀ t, Cov (ps.foldl (bstep lim) out) t ↔ Cov out t ∨ ∃ q ∈ ps, q.2 ≤ lim ∧ q.1.1 ≤ t ∧ t < q.1.2
  | [], a, out, h, _, hc => by
    have : a = b := hc
    subst this
    exact ⟨h, fun t => by simp⟩
  | p :: ps, a, out, h, hlo, hc => by
    obtain ⟨c1, c2, c3⟩ := hc
    obtain ⟨b1, b2⟩ := bstep_ok (lim := lim) h hlo c1 c2
    obtain ⟨f1, f2⟩ := low_fold ps p.1.2 (bstep lim out p) b1 (by omega) c3
    refine ⟨f1, fun t => ?_⟩
    rw [List.foldl_cons, f2 t, b2 t]
    simp only [List.mem_cons, exists_eq_or_imp, or_assoc]
theorem low_ok {f : List Lv} {lim fr to : Int} (h0 : chkS f = 0) (hs : 0 ≤ fr ∧ fr ≤ to ∧ to ≤ 1099511627776) :
    Apart fr to (lowP lim (parts f fr to)) ∧ ∀ t, Cov (lowP lim (parts f fr to)) t ↔ (fr ≤ t ∧ t < to) ∧ val f t ≤ lim := by
  obtain ⟨_, hA⟩ := chkS_ok h0
  obtain ⟨a1, a2⟩ := low_fold (lim := lim) (lo := fr) (b := to) (parts f fr to) fr [] ⟨fun s hs => by simp at hs, by simp⟩ (Int.le_refl _) (parts_chn to f fr _ hs.2.1)
  refine ⟨a1, fun t => ?_⟩
  have a2t := a2 t
  unfold lowP
  rw [a2t]
  have hq := (parts_area hA hs.1 hs.2.1).2
  constructor
  · rintro (⟨s, hs, _⟩ | ⟨q, hm, h1, h2, h3⟩)
    · simp at hs
    · have q4 := hq q hm
      obtain ⟨q', hm', g1, g2, g3⟩ := parts_cover hA hs.2.1 (t := t) (by omega) (by omega)
      refine ⟨by omega, ?_⟩
      have e := chn_one (parts_chn to f fr (val f fr) hs.2.1) hm hm' ⟨h2, h3⟩ ⟨g1, g2⟩
      subst e
      omega
  · rintro ⟨⟨h1, h2⟩, h3⟩
    obtain ⟨q', hm', g1, g2, g3⟩ := parts_cover hA hs.2.1 h1 h2
    exact .inr ⟨q', hm', by omega, g1, g2⟩
theorem cov_one {lo a : Int} {l : List (Int × Int)} (h : Apart lo a l) {x y : Int} (hxy : x < y) (hc : ∀ t, x ≤ t → t < y → Cov l t) : ∃ s ∈ l, s.1 ≤ x ∧ y ≤ s.2 := by
  obtain ⟨s, hs, h1, h2⟩ := hc x (Int.le_refl _) hxy
  by_cases hy : y ≤ s.2
  · exact ⟨s, hs, h1, hy⟩
  · obtain ⟨u, hu, k1, k2⟩ := hc s.2 (by omega) (by omega)
    have hsu : s = u ∨ s.2 < u.1 ∨ u.2 < s.1 := by
      obtain ⟨i, hi, rfl⟩ := List.getElem_of_mem hs
      obtain ⟨j, hj, rfl⟩ := List.getElem_of_mem hu
      have := List.pairwise_iff_getElem.1 h.sep
      by_cases e : i = j
      · subst e; exact .inl rfl
      · by_cases e2 : i < j
        · exact .inr (.inl (this i j hi hj e2))
        · exact .inr (.inr (this j i hj hi (by omega)))
    have := h.ok s hs
    rcases hsu with rfl | h | h <;> omega
theorem low_more {f : List Lv} {lim d fr to : Int} (hd : 0 ≤ d) (h0 : chkS f = 0) (hs : 0 ≤ fr ∧ fr ≤ to ∧ to ≤ 1099511627776) :
    ∀ s ∈ lowP lim (parts f fr to), ∃ u ∈ lowP (lim + d) (parts f fr to), u.1 ≤ s.1 ∧ s.2 ≤ u.2 := fun s hm => by
  obtain ⟨a1, a2⟩ := low_ok (lim := lim) h0 hs
  obtain ⟨b1, b2⟩ := low_ok (lim := lim + d) h0 hs
  have := a1.ok s hm
  refine cov_one b1 this.2.1 (fun t h1 h2 => (b2 t).2 ?_)
  have := (a2 t).1 ⟨s, hm, h1, h2⟩
  omega
end Go.Step
