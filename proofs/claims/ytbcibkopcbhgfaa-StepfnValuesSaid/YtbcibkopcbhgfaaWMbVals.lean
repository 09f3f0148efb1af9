/- Functions that are equal at their times. No program in sight. No conditions. -/
import Derived.Test.YtbcibkopcbhgfaaWMbCover
set_option linter.all false
namespace Go.Step
theorem tv_mem (F : Int → Int) : ∀ (ts : List Int) (cur t : Int), tv F cur ts t = cur ∨ ∃ x ∈ ts, tv F cur ts t = F x
  | [], cur, t => .inl rfl
  | x :: xs, cur, t => by
    simp only [tv]
    split
    · rcases tv_mem F xs (F x) t with h | ⟨y, hy, h⟩
      · exact .inr ⟨x, by simp, h⟩
      · exact .inr ⟨y, by simp [hy], h⟩
    · exact .inl rfl
theorem eq_of_times {f g : List Lv} (hf : chkS f = 0) (hg : chkS g = 0) (h : ∀ x ∈ tms f g, val f x = val g x) : f = g := by
  have hA := (chkS_ok hf).2.t
  have hB := (chkS_ok hg).2.t
  obtain ⟨h1, h2⟩ := tms_sa f g
  refine chkS_unique hf hg (fun t ht => ?_)
  have e0 : val f (-1) - val g (-1) = 0 := by rw [val_earlyT hA (Int.le_refl _), val_earlyT hB (Int.le_refl _)]; rfl
  have hp : ∀ x ∈ tms f g, -1 < x := fun x hx => by have := tms_rng hA hB x hx; omega
  have := tv_eq (F := fun t => val f t - val g t) (p := -1) (t := t) h1 hp ht (fun a b ha hab hn => by
    have e1 : val f b = val f a := vat_same hA hab (fun l hl hx => hn l.a ((h2 l.a).2 ⟨l, by simp [hl], rfl⟩) hx)
    have e2 : val g b = val g a := vat_same hB hab (fun l hl hx => hn l.a ((h2 l.a).2 ⟨l, by simp [hl], rfl⟩) hx)
    simp only [e1, e2])
  simp only [e0] at this
  rcases tv_mem (fun t => val f t - val g t) (tms f g) 0 t with h3 | ⟨x, hx, h3⟩
  · omega
  · have := h x hx
    omega
/-- the value at any time, 0 where the levels are no function -/
def atV (f : List Lv) (t : Int) : Int := if chkS f = 0 ∧ 0 ≤ t then val f (min t 1099511627776) else 0
theorem atV_bd (f : List Lv) (t : Int) : okV (atV f t) := by
  unfold atV
  split
  · rename_i h; exact okV_val h.1 _
  · unfold okV; omega
theorem atV_in {f : List Lv} (h0 : chkS f = 0) {t : Int} (h : 0 ≤ t) (h2 : t ≤ 1099511627776) : atV f t = val f t := by
  unfold atV
  rw [if_pos ⟨h0, h⟩, show min t 1099511627776 = t by omega]
theorem SumR.atV {f g o : List Lv} (h : SumR f g o 0) (t : Int) : atV o t = Step.atV f t + Step.atV g t := by
  obtain ⟨h1, h2, h3, h4⟩ := h.ok
  unfold Step.atV
  by_cases ht : 0 ≤ t
  · rw [if_pos ⟨h3, ht⟩, if_pos ⟨h1, ht⟩, if_pos ⟨h2, ht⟩, h4 _ (by omega)]
  · rw [if_neg (fun h => ht h.2), if_neg (fun h => ht h.2), if_neg (fun h => ht h.2)]; rfl
theorem AddR.atV {f o : List Lv} {fr to d : Int} (h : AddR f fr to d o 0) {t : Int} (h0 : 0 ≤ t) (h1 : t ≤ 1099511627776) : atV o t = Step.atV f t + if fr ≤ t ∧ t < to then d else 0 := by
  obtain ⟨a, b, c⟩ := h.ok
  rw [atV_in b h0 h1, atV_in a h0 h1, c t (by omega)]
def allT (p : Int → Bool) (l : List Int) : Bool := l.all p
theorem allT_take (p : Int → Bool) {l : List Int} {k : Nat} (h : k < l.length) : allT p (l.take (k + 1)) = (allT p (l.take k) && p l[k]) := by
  unfold allT
  rw [List.take_succ_eq_append_getElem h, List.all_append]; simp
theorem same_iff {f g : List Lv} (hf : chkS f = 0) (hg : chkS g = 0) {ns : List Int} (h : ∀ l, l ∈ f ∨ l ∈ g → l.a ∈ ns) : allT (fun t => decide (atV f t = atV g t)) ns = decide (f = g) := by
  by_cases e : f = g
  · subst e
    rw [decide_eq_true rfl]
    unfold allT
    rw [List.all_eq_true]
    intro t _
    simp
  · rw [decide_eq_false e]
    cases hc : allT (fun t => decide (atV f t = atV g t)) ns with
    | false => rfl
    | true =>
      exfalso
      unfold allT at hc
      rw [List.all_eq_true] at hc
      refine e (eq_of_times hf hg (fun x hx => ?_))
      obtain ⟨l, hl, rfl⟩ := ((tms_sa f g).2 x).1 hx
      have hr := tms_rng (chkS_ok hf).2.t (chkS_ok hg).2.t l.a hx
      have := hc l.a (h l (List.mem_append.1 hl))
      rw [decide_eq_true_eq, atV_in hf hr.1 hr.2, atV_in hg hr.1 hr.2] at this
      exact this
end Go.Step
