/- Functions that are equal at their times. No program in sight. No conditions. -/
import Derived.Test.YtbcibkopcbhgfaaWMbCover
set_option linter.all false
namespace Go.Step
theorem tv_mem (F : Int → Int) : ∀ (ts : List Int) (cur t : Int), tv F cur ts t = cur ∨ ∃ x ∈ ts, tv F cur ts t = F x
  | [], cur, t => .inl rfl
  | x :: xs, cur, t => by
    simp only [tv]
    split
    · rcases tv_mem F xs (F x) t with h | ⟨y, hy, h⟩
      · exact .inr ⟨x, by simp, h⟩
      · exact .inr ⟨y, by simp [hy], h⟩
    · exact .inl rfl
theorem eq_of_times {f g : List Lv} (hf : chkS f = 0) (hg : chkS g = 0) (h : ∀ x ∈ tms f g, val f x = val g x) : f = g := by
  have hA := (chkS_ok hf).2.t
  have hB := (chkS_ok hg).2.t
  obtain ⟨h1, h2⟩ := tms_sa f g
  refine chkS_unique hf hg (fun t ht => ?_)
  have e0 : val f (-1) - val g (-1) = 0 := by rw [val_earlyT hA (Int.le_refl _), val_earlyT hB (Int.le_refl _)]; rfl
  have hp : ∀ x ∈ tms f g, -1 < x := fun x hx => by have := tms_rng hA hB x hx; omega
  have := tv_eq (F := fun t => val f t - val g t) (p := -1) (t := t) h1 hp ht (fun a b ha hab hn => by
    have e1 : val f b = val f a := vat_same hA hab (fun l hl hx => hn l.a ((h2 l.a).2 ⟨l, by simp [hl], rfl⟩) hx)
    have e2 : val g b = val g a := vat_same hB hab (fun l hl hx => hn l.a ((h2 l.a).2 ⟨l, by simp [hl], rfl⟩) hx)
    simp only [e1, e2])
  simp only [e0] at this
  rcases tv_mem (fun t => val f t - val g t) (tms f g) 0 t with h3 | ⟨x, hx, h3⟩
  · omega
  · have := h x hx
    omega
/-- the value at any time, 0 where the levels are no function -/
def atV (f : List Lv) (t : Int) : Int := if chkS f = 0 ∧ 0 ≤ t then val f (min t 1099511627776) else 0
theorem atV_bd (f : List Lv) (t : Int) : okV (atV f t) := by
  unfold atV
  split
  · rename_i h; exact okV_val h.1 _
  · unfold okV; omega
theorem atV_in {f : List Lv} (h0 : chkS f = 0) {t : Int} (h : 0 ≤ t) (h2 : t ≤ 1099511627776) : atV f t = val f t := by
  unfold atV
  rw [if_pos ⟨h0, h⟩, show min t 1099511627776 = t by omega]
theorem SumR.atV {f g o : List Lv} (h : SumR f g o 0) (t : Int) : atV o t = Step.atV f t + Step.atV g t := by
  obtain ⟨h1, h2, h3, h4⟩ := h.ok
  unfold Step.atV
  by_cases ht : 0 ≤ t
  · rw [if_pos ⟨h3, ht⟩, if_pos ⟨h1, ht⟩, if_pos ⟨h2, ht⟩, h4 _ (by omega)]
  · rw [if_neg (fun h => ht h.2), if_neg (fun h => ht h.2), if_neg (fun h => ht h.2)]; rfl
theorem AddR.atV {f o : List Lv} {fr to d : Int} (h : AddR f fr to d o 0) {t : Int} (h0 : 0 ≤ t) (h1 : t ≤ 1099511627776) : atV o t = Step.atV f t + if fr ≤ t ∧ t < to then d else 0 := by
  obtain ⟨a, b, c⟩ := h.ok
  rw [atV_in b h0 h1, atV_in a h0 h1, c t (by omega)]
def allT (p : Int → Bool) (l : List Int) : Bool := l.all p
theorem allT_take (p : Int → Bool) {l : List Int} {k : Nat} (h : k < l.length) : allT p (l.take (k + 1)) = (allT p (l.take k) && p l[k]) := by
  unfold allT
  rw [List.take_succ_eq_append_getElem h, List.all_append]; simp
theorem same_iff {f g : List Lv} (hf : chkS f = 0) (hg : chkS g = 0) {ns : List Int} (h : ∀ l, l ∈ f ∨ l ∈ g → l.a ∈ ns) : allT (fun t => decide (atV f t = atV g t)) ns = decide (f = g) := by
  by_cases e : f = g
  · subst e
    rw [decide_eq_true rfl]
    unfold allT
    rw [List.all_eq_true]
    intro t _
    simp
  · rw [decide_eq_false e]
    cases hc : allT (fun t => decide (atV f t = atV g t)) ns with
    | false => rfl
    | true =>
      exfalso
      unfold allT at hc
      rw [List.all_eq_true] at hc
      refine e (eq_of_times hf hg (fun x hx => ?_))
      obtain ⟨l, hl, rfl⟩ := ((tms_sa f g).2 x).1 hx
      have hr := tms_rng (chkS_ok hf).2.t (chkS_ok hg).2.t l.a hx
      have := hc l.a (h l (List.mem_append.1 hl))
      rw [decide_eq_true_eq, atV_in hf hr.1 hr.2, atV_in hg hr.1 hr.2] at this
      exact this
end Go.Step
namespace Go.Step
theorem val_abs {f : List Lv} {B : Int} (hB : 0 ≤ B) (h : ∀ l ∈ f, -B ≤ l.v ∧ l.v ≤ B) (t : Int) : -B ≤ val f t ∧ val f t ≤ B := by
  rcases vat_mem f 0 t with e | ⟨l, hl, e⟩
  · unfold val; rw [e]; omega
  · unfold val; rw [e]; exact h l hl
theorem cum_abs {f : List Lv} {B : Int} (h : ∀ t : Int, -B ≤ val f t ∧ val f t ≤ B) : ∀ n : Nat, -(B * n) ≤ cum f n ∧ cum f n ≤ B * n
  | 0 => by simp [cum]
  | n + 1 => by
    have := cum_abs h n
    have := h n
    simp only [cum]
    rw [Int.natCast_add, Int.mul_add]
    simp only [Int.natCast_one, Int.mul_one]
    omega
theorem cum_sum {f g o : List Lv} (h : ∀ t : Int, -1 ≤ t → val o t = val f t + val g t) : ∀ n : Nat, cum o n = cum f n + cum g n
  | 0 => by simp [cum]
  | n + 1 => by
    have := cum_sum h n
    have := h n (by omega)
    simp only [cum]; omega
theorem cum_le {f : List Lv} {M : Int} {a : Nat} : ∀ (d : Nat), (∀ u : Nat, a ≤ u → u < a + d → val f u ≤ M) → cum f (a + d) - cum f a ≤ M * d
  | 0, _ => by simp
  | d + 1, h => by
    have ih := cum_le d (fun u h1 h2 => h u h1 (by omega))
    have := h (a + d) (by omega) (by omega)
    have e : M * ((d + 1 : Nat) : Int) = M * (d : Int) + M := by rw [Int.natCast_add, Int.mul_add]; simp
    rw [e]
    show cum f (a + d + 1) - cum f a ≤ M * (d : Int) + M
    simp only [cum]
    omega
theorem cum_ge {f : List Lv} {M : Int} {a : Nat} : ∀ (d : Nat), (∀ u : Nat, a ≤ u → u < a + d → M ≤ val f u) → M * d ≤ cum f (a + d) - cum f a
  | 0, _ => by simp
  | d + 1, h => by
    have ih := cum_ge d (fun u h1 h2 => h u h1 (by omega))
    have := h (a + d) (by omega) (by omega)
    have e : M * ((d + 1 : Nat) : Int) = M * (d : Int) + M := by rw [Int.natCast_add, Int.mul_add]; simp
    rw [e]
    show M * (d : Int) + M ≤ cum f (a + d + 1) - cum f a
    simp only [cum]
    omega
theorem SumR.err0 {f g o : List Lv} {e : Int} (h : SumR f g o e) (hf : chkS f = 0) (hg : chkS g = 0) (hv : ∀ t, okV (val f t + val g t)) (hl : f.length + g.length ≤ 1000) : e = 0 := by
  rcases h with ⟨a, _⟩ | ⟨_, _, c⟩
  · rcases a with a | a
    · exact absurd hf a
    · exact absurd hg a
  · rcases c with ⟨⟨t, _, ht⟩, _⟩ | ⟨_, hb, _⟩ | ⟨_, _, _, he⟩
    · exact absurd (hv t) ht
    · have := comb_len (fun t => val f t + val g t) (tms f g) 0
      have := tms_len f g
      omega
    · exact he
/-- an integral lies between the length times the least, and the greatest value -/
theorem cum_best {f : List Lv} {a b : Int} (h0 : chkS f = 0) (hs : 0 ≤ a ∧ a ≤ b ∧ b ≤ 1099511627776) : cum f b.toNat - cum f a.toNat ≤ (b - a) * bestR max f a b ∧ (b - a) * bestR min f a b ≤ cum f b.toNat - cum f a.toNat := by
  by_cases he : a = b
  · subst he; simp
  · obtain ⟨h1, _, _⟩ := best_laws h0 hs he
    have e : b.toNat = a.toNat + (b - a).toNat := by omega
    have e2 : ((b - a).toNat : Int) = b - a := by omega
    have k1 := cum_le (f := f) (M := bestR max f a b) (a := a.toNat) (b - a).toNat (fun u hu1 hu2 => (h1 u (by omega) (by omega)).1)
    have k2 := cum_ge (f := f) (M := bestR min f a b) (a := a.toNat) (b - a).toNat (fun u hu1 hu2 => (h1 u (by omega) (by omega)).2)
    rw [← e, e2] at k1 k2
    rw [Int.mul_comm (b - a), Int.mul_comm (b - a)]
    exact ⟨k1, k2⟩
theorem best_abs {f : List Lv} {B a b : Int} (hB : 0 ≤ B) (h : ∀ t : Int, -B ≤ val f t ∧ val f t ≤ B) (op : Int → Int → Int) (hop : ∀ x y, op x y = x ∨ op x y = y) (hA : ∀ q ∈ parts f a b, -B ≤ q.2 ∧ q.2 ≤ B) : -B ≤ bestR op f a b ∧ bestR op f a b ≤ B := by
  unfold bestR
  split
  · have : ∀ (ps : List Pt) (s : Int), (∀ q ∈ ps, -B ≤ q.2 ∧ q.2 ≤ B) → -B ≤ s ∧ s ≤ B → -B ≤ foldP op s ps ∧ foldP op s ps ≤ B := by
      intro ps
      induction ps with
      | nil => intro s _ hs; exact hs
      | cons p ps ih =>
        intro s hp hs
        refine ih (op s p.2) (fun q hq => hp q (by simp [hq])) ?_
        rcases hop s p.2 with e | e
        · rw [e]; exact hs
        · rw [e]; exact hp p (by simp)
    exact this _ _ hA (h a)
  · omega
end Go.Step
