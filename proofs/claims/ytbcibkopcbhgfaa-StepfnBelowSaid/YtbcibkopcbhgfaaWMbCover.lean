/- Parts cover an interval; greatest and least values are values. No program in sight. No conditions. -/
import Derived.Test.YtbcibkopcbhgfaaWMbBelow
set_option linter.all false
namespace Go.Step
theorem parts_cover0 (f : List Lv) (to : Int) : ∀ (g : List Lv) (p fr now : Int), Asc p g → fr ≤ to → (∀ t : Int, fr ≤ t → t < to → val f t = vat now (g.dropWhile (fun l => decide (l.a ≤ fr))) t) →
    (∀ t : Int, fr ≤ t → t < to → ∃ q ∈ partsFrom fr to now g, q.1.1 ≤ t ∧ t < q.1.2 ∧ val f t = q.2)
  | [], p, fr, now, _, h1, H => by
    intro t a b
    simp only [partsFrom]
    rw [if_pos (by omega)]
    exact ⟨_, List.mem_singleton.2 rfl, a, b, by rw [H t a b]; rfl⟩
  | l :: g, p, fr, now, hA, h1, H => by
    intro t a b
    simp only [partsFrom]
    by_cases hs : l.a ≤ fr ∨ to ≤ fr
    · rw [if_pos hs]
      refine parts_cover0 f to g l.a fr now hA.2.2.2 h1 (fun t a b => ?_) t a b
      rcases hs with hs | hs
      · rw [H t a b, List.dropWhile_cons_of_pos (by simpa using hs)]
      · omega
    · rw [if_neg hs]
      simp only [not_or] at hs
      have hdr : (l :: g).dropWhile (fun l => decide (l.a ≤ fr)) = l :: g := List.dropWhile_cons_of_neg (by simpa using hs.1)
      by_cases hlt : t < min l.a to
      · refine ⟨_, List.mem_cons_self .., a, hlt, ?_⟩
        rw [H t a b, hdr]
        simp only [vat]
        rw [if_neg (by omega)]
      · have hm : min l.a to = l.a := by omega
        obtain ⟨q, hq, k⟩ := parts_cover0 f to g l.a l.a l.v hA.2.2.2 (by omega) (fun t a b => by
          rw [H t (by omega) b, hdr, drop_none g l.a l.a hA.2.2.2 (Int.le_refl _)]
          simp only [vat]
          rw [if_pos a]) t (by omega) b
        exact ⟨q, List.mem_cons_of_mem _ (by rw [hm]; exact hq), k⟩
theorem parts_cover {f : List Lv} {p fr to : Int} (hA : Asc p f) (h1 : fr ≤ to) {t : Int} (a : fr ≤ t) (b : t < to) : ∃ q ∈ parts f fr to, q.1.1 ≤ t ∧ t < q.1.2 ∧ val f t = q.2 :=
  parts_cover0 f to f p fr (val f fr) hA h1 (fun t a _ => vat_drop f p 0 fr t hA a) t a b
theorem parts_starts {to : Int} : ∀ (g : List Lv) (fr now : Int), ∀ q ∈ partsFrom fr to now g, q.1.1 = fr ∨ ∃ l ∈ g, l.a = q.1.1
  | [], fr, now, q, hq => by
    simp only [partsFrom] at hq
    split at hq
    · simp at hq; subst hq; exact .inl rfl
    · simp at hq
  | l :: g, fr, now, q, hq => by
    simp only [partsFrom] at hq
    split at hq
    · rcases parts_starts g fr now q hq with h | ⟨m, hm, h⟩
      · exact .inl h
      · exact .inr ⟨m, by simp [hm], h⟩
    · simp only [List.mem_cons] at hq
      rcases hq with rfl | hq
      · exact .inl rfl
      · by_cases hlt : l.a < to
        · have hm : min l.a to = l.a := by omega
          rw [hm] at hq
          rcases parts_starts g l.a l.v q hq with h | ⟨m, hm, h⟩
          · exact .inr ⟨l, by simp, h.symm⟩
          · exact .inr ⟨m, by simp [hm], h⟩
        · have hm : min l.a to = to := by omega
          rw [hm, partsFrom_end] at hq
          simp at hq
theorem foldMax (ps : List Pt) : ∀ a : Int, a ≤ foldP max a ps ∧ (∀ q ∈ ps, q.2 ≤ foldP max a ps) ∧ (foldP max a ps = a ∨ ∃ q ∈ ps, foldP max a ps = q.2) := by
  induction ps with
  | nil => intro a; simp [foldP]
  | cons p ps ih =>
    intro a
    obtain ⟨h1, h2, h3⟩ := ih (max a p.2)
    have e : foldP max a (p :: ps) = foldP max (max a p.2) ps := rfl
    rw [e]
    refine ⟨by omega, fun q hq => ?_, ?_⟩
    · simp only [List.mem_cons] at hq
      rcases hq with rfl | hq
      · omega
      · exact h2 q hq
    · rcases h3 with h3 | ⟨q, hq, h3⟩
      · by_cases hc : a ≤ p.2
        · exact .inr ⟨p, by simp, by rw [h3]; omega⟩
        · exact .inl (by rw [h3]; omega)
      · exact .inr ⟨q, by simp [hq], h3⟩
theorem foldMin (ps : List Pt) : ∀ a : Int, foldP min a ps ≤ a ∧ (∀ q ∈ ps, foldP min a ps ≤ q.2) ∧ (foldP min a ps = a ∨ ∃ q ∈ ps, foldP min a ps = q.2) := by
  induction ps with
  | nil => intro a; simp [foldP]
  | cons p ps ih =>
    intro a
    obtain ⟨h1, h2, h3⟩ := ih (min a p.2)
    have e : foldP min a (p :: ps) = foldP min (min a p.2) ps := rfl
    rw [e]
    refine ⟨by omega, fun q hq => ?_, ?_⟩
    · simp only [List.mem_cons] at hq
      rcases hq with rfl | hq
      · omega
      · exact h2 q hq
    · rcases h3 with h3 | ⟨q, hq, h3⟩
      · by_cases hc : p.2 ≤ a
        · exact .inr ⟨p, by simp, by rw [h3]; omega⟩
        · exact .inl (by rw [h3]; omega)
      · exact .inr ⟨q, by simp [hq], h3⟩
/-- the times that a law looks at -/
def nearL (w1 x1 w2 x2 : Int) (ls : List (List Lv)) : List Int := [0, w1, x1, w2, x2, 1099511627776] ++ ls.flatMap (fun f => f.flatMap (fun l => [l.a - 1, l.a]))
theorem mem_near {w1 x1 w2 x2 : Int} {ls : List (List Lv)} {f : List Lv} {l : Lv} (hf : f ∈ ls) (hl : l ∈ f) : l.a ∈ nearL w1 x1 w2 x2 ls := by
  unfold nearL
  rw [List.mem_append]
  right
  rw [List.mem_flatMap]
  exact ⟨f, hf, List.mem_flatMap.2 ⟨l, hl, by simp⟩⟩
theorem best_laws {f : List Lv} {fr to : Int} (h0 : chkS f = 0) (hs : 0 ≤ fr ∧ fr ≤ to ∧ to ≤ 1099511627776) (hne : fr ≠ to) :
    (∀ t : Int, fr ≤ t → t < to → val f t ≤ bestR max f fr to ∧ bestR min f fr to ≤ val f t) ∧ (∃ t : Int, (t = fr ∨ ∃ l ∈ f, l.a = t) ∧ fr ≤ t ∧ t < to ∧ val f t = bestR max f fr to) ∧ (∃ t : Int, (t = fr ∨ ∃ l ∈ f, l.a = t) ∧ fr ≤ t ∧ t < to ∧ val f t = bestR min f fr to) := by
  have hA := (chkS_ok h0).2
  have e1 : bestR max f fr to = foldP max (val f fr) (parts f fr to) := by unfold bestR; rw [if_pos ⟨h0, hs, hne⟩]
  have e2 : bestR min f fr to = foldP min (val f fr) (parts f fr to) := by unfold bestR; rw [if_pos ⟨h0, hs, hne⟩]
  obtain ⟨m1, m2, m3⟩ := foldMax (parts f fr to) (val f fr)
  obtain ⟨n1, n2, n3⟩ := foldMin (parts f fr to) (val f fr)
  obtain ⟨_, hq⟩ := parts_area hA hs.1 hs.2.1
  rw [e1, e2]
  refine ⟨fun t a b => ?_, ?_, ?_⟩
  · obtain ⟨q, h1, _, _, h4⟩ := parts_cover hA hs.2.1 a b
    rw [h4]
    exact ⟨m2 q h1, n2 q h1⟩
  · rcases m3 with h | ⟨q, h1, h⟩
    · exact ⟨fr, .inl rfl, Int.le_refl _, by omega, h.symm⟩
    · obtain ⟨a1, a2, a3, a4⟩ := hq q h1
      exact ⟨q.1.1, parts_starts f fr _ q h1, a1, by omega, by rw [← a4, h]⟩
  · rcases n3 with h | ⟨q, h1, h⟩
    · exact ⟨fr, .inl rfl, Int.le_refl _, by omega, h.symm⟩
    · obtain ⟨a1, a2, a3, a4⟩ := hq q h1
      exact ⟨q.1.1, parts_starts f fr _ q h1, a1, by omega, by rw [← a4, h]⟩
end Go.Step
