/- The parts of an interval, found one by one. No program in sight. No conditions. -/
import Derived.Test.YtbcibkopcbhgfaaWMbStep
set_option linter.all false
namespace Go.Step
theorem partsFrom_end (to : Int) : ∀ (g : List Lv) (now : Int), partsFrom to to now g = []
  | [], _ => by simp [partsFrom]
  | l :: g, now => by simp only [partsFrom]; rw [if_pos (.inr (Int.le_refl _))]; exact partsFrom_end to g now
theorem partsFrom_skip {n to now : Int} : ∀ (g1 g2 : List Lv), (∀ l ∈ g1, l.a ≤ n) → partsFrom n to now (g1 ++ g2) = partsFrom n to now g2
  | [], _, _ => rfl
  | l :: g1, g2, h => by
    simp only [List.cons_append, partsFrom]
    rw [if_pos (.inl (h l (by simp)))]
    exact partsFrom_skip g1 g2 (fun m hm => h m (by simp [hm]))
/-- where the part that begins at fr ends -/
def nx (fr to : Int) : List Lv → Int
  | [] => to
  | l :: f => if fr < l.a then min l.a to else nx fr to f
theorem nx_bd {fr to : Int} (h : fr < to) : ∀ f : List Lv, fr < nx fr to f ∧ nx fr to f ≤ to
  | [] => ⟨h, Int.le_refl _⟩
  | l :: f => by
    simp only [nx]
    split
    · omega
    · exact nx_bd h f
theorem nx_asc {fr to : Int} : ∀ {f : List Lv} {p : Int}, Asc p f → fr < p → p < nx fr to f ∨ nx fr to f = to
  | [], _, _, _ => .inr rfl
  | l :: f, p, h, hp => by
    simp only [nx]
    have := h.1
    rw [if_pos (by omega)]
    omega
theorem nx_step {fr to : Int} {l : Lv} {f : List Lv} {p : Int} (h : Asc p (l :: f)) : nx fr to (l :: f) = if fr < l.a ∧ l.a < nx fr to f then l.a else nx fr to f := by
  have hle : fr < l.a → ∀ g : List Lv, Asc l.a g → min l.a to ≤ nx fr to g := by
    intro h1 g hg
    rcases nx_asc (to := to) hg h1 with h2 | h2 <;> omega
  have hle2 : ∀ g : List Lv, nx fr to g ≤ to := by
    intro g
    induction g with
    | nil => exact Int.le_refl _
    | cons m g ih => simp only [nx]; split <;> omega
  simp only [nx]
  by_cases h1 : fr < l.a
  · rw [if_pos h1]
    have h3 := hle h1 f h.2.2.2
    have h4 := hle2 f
    rcases nx_asc (to := to) h.2.2.2 h1 with h2 | h2
    · rw [if_pos ⟨h1, h2⟩]; omega
    · by_cases h5 : l.a < to
      · rw [if_pos ⟨h1, by omega⟩]; omega
      · rw [if_neg (by omega)]; omega
  · rw [if_neg h1, if_neg (by omega)]
theorem nx_split {fr to : Int} : ∀ (g1 g2 : List Lv), (∀ l ∈ g1, l.a ≤ fr) → nx fr to (g1 ++ g2) = nx fr to g2
  | [], _, _ => rfl
  | l :: g1, g2, h => by
    simp only [List.cons_append, nx]
    rw [if_neg (by have := h l (by simp); omega)]
    exact nx_split g1 g2 (fun m hm => h m (by simp [hm]))
theorem asc_split {fr : Int} : ∀ {f : List Lv} {p : Int}, Asc p f → ∃ g1 g2, f = g1 ++ g2 ∧ (∀ l ∈ g1, l.a ≤ fr) ∧ (∀ l, g2.head? = some l → fr < l.a) ∧ ∃ q, Asc q g2
  | [], p, h => ⟨[], [], rfl, by simp, by simp, p, h⟩
  | l :: f, p, h => by
    by_cases hl : l.a ≤ fr
    · obtain ⟨g1, g2, h1, h2, h3, h4⟩ := asc_split (fr := fr) h.2.2.2
      refine ⟨l :: g1, g2, by rw [h1]; rfl, fun m hm => ?_, h3, h4⟩
      simp at hm
      rcases hm with rfl | hm
      · exact hl
      · exact h2 m hm
    · exact ⟨[], l :: f, rfl, by simp, fun m hm => by simp at hm; subst hm; omega, p, h⟩
theorem parts_step {f : List Lv} {p fr to : Int} (hA : Asc p f) (h : fr < to) : partsFrom fr to (val f fr) f = ((fr, nx fr to f), val f fr) :: partsFrom (nx fr to f) to (val f (nx fr to f)) f := by
  obtain ⟨g1, g2, rfl, h1, h2, q, h3⟩ := asc_split (fr := fr) hA
  have hn := nx_split (to := to) g1 g2 h1
  generalize hv : val (g1 ++ g2) fr = now
  rw [hn, partsFrom_skip g1 g2 h1]
  cases g2 with
  | nil =>
    simp only [nx, partsFrom]
    rw [if_pos h, partsFrom_end]
  | cons l g3 =>
    have hl := h2 l rfl
    simp only [nx]
    rw [if_pos hl]
    simp only [partsFrom]
    rw [if_neg (by omega)]
    congr 1
    by_cases hlt : l.a < to
    · have hm : min l.a to = l.a := by omega
      rw [hm]
      have hall : ∀ m ∈ g1 ++ [l], m.a ≤ l.a := fun m hm => by
        simp at hm
        rcases hm with hm | rfl
        · have := h1 m hm; omega
        · exact Int.le_refl _
      have e : g1 ++ l :: g3 = (g1 ++ [l]) ++ g3 := by simp
      have hval : val (g1 ++ l :: g3) l.a = l.v := by
        unfold val
        rw [e, vat_append _ _ 0 l.a hall, vat_late _ _ l.a (fun m hm => (h3.2.2.2.gt m (List.mem_of_mem_head? (by simpa using hm))).1)]
        exact vat_last g1 l 0 l.a (fun m hm => hall m (by simp [hm])) (Int.le_refl _)
      rw [hval, e, partsFrom_skip _ g3 hall]
    · have hm : min l.a to = to := by omega
      rw [hm, partsFrom_end, partsFrom_end]
theorem partsFrom_len {to : Int} : ∀ (g : List Lv) (fr now : Int), (partsFrom fr to now g).length ≤ g.length + 1
  | [], fr, now => by simp only [partsFrom]; split <;> simp
  | l :: g, fr, now => by
    simp only [partsFrom]
    split
    · have := partsFrom_len (to := to) g fr now; simp; omega
    · have := partsFrom_len (to := to) g (min l.a to) l.v; simp; omega
def lens (ps : List ((Int × Int) × Int)) : Int := ps.foldr (fun p s => (p.1.2 - p.1.1) + s) 0
theorem lens_cons (p : (Int × Int) × Int) (ps : List ((Int × Int) × Int)) : lens (p :: ps) = (p.1.2 - p.1.1) + lens ps := rfl
theorem area_cons (p : (Int × Int) × Int) (ps : List ((Int × Int) × Int)) : area (p :: ps) = p.2 * (p.1.2 - p.1.1) + area ps := rfl
theorem partsFrom_lens {to : Int} : ∀ (g : List Lv) (fr now : Int), fr ≤ to → lens (partsFrom fr to now g) = to - fr
  | [], fr, now, h => by
    simp only [partsFrom]
    split
    · simp [lens]
    · simp [lens]; omega
  | l :: g, fr, now, h => by
    simp only [partsFrom]
    split
    · exact partsFrom_lens g fr now h
    · rename_i hs
      rw [lens_cons, partsFrom_lens g (min l.a to) l.v (by omega)]
      dsimp only; omega
theorem area_bd {M : Int} (hM : 0 ≤ M) : ∀ (ps : List ((Int × Int) × Int)), (∀ q ∈ ps, -M ≤ q.2 ∧ q.2 ≤ M ∧ q.1.1 ≤ q.1.2) → -(M * lens ps) ≤ area ps ∧ area ps ≤ M * lens ps ∧ 0 ≤ lens ps ∧ ∀ i, lens (ps.take i) ≤ lens ps
  | [], _ => by simp [lens, area]
  | q :: ps, h => by
    obtain ⟨h1, h2, h3, h4⟩ := area_bd hM ps (fun x hx => h x (by simp [hx]))
    obtain ⟨a1, a2, a3⟩ := h q (by simp)
    have e1 : q.2 * (q.1.2 - q.1.1) ≤ M * (q.1.2 - q.1.1) := Int.mul_le_mul_of_nonneg_right a2 (by omega)
    have e2 : (-M) * (q.1.2 - q.1.1) ≤ q.2 * (q.1.2 - q.1.1) := Int.mul_le_mul_of_nonneg_right a1 (by omega)
    rw [Int.neg_mul] at e2
    rw [area_cons, lens_cons, Int.mul_add]
    refine ⟨by omega, by omega, by omega, fun i => ?_⟩
    cases i with
    | zero => simp [lens] at h3 ⊢; omega
    | succ i => rw [List.take_succ_cons, lens_cons]; have := h4 i; omega
end Go.Step
