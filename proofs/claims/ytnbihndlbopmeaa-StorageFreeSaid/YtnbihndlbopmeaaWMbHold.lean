/- Holds: what a node stores, as a function of time. No program in sight. No conditions. -/
import Derived.Test.YtnbihndlbopmeaaWMbComb
import Derived.Test.YtnbihndlbopmeaaWMbPlan
set_option linter.all false
namespace Go.Step
/-- a hold: node, from, to, size, ticket -/
structure Hd where
  n : Int
  a : Int
  b : Int
  s : Int
  k : Int
deriving DecidableEq
def okHd (nq : Nat) (h : Hd) : Prop := (0 ≤ h.n ∧ h.n < nq) ∧ (0 ≤ h.a ∧ h.a < h.b ∧ h.b ≤ 1099511627776) ∧ (1 ≤ h.s ∧ h.s ≤ 65536) ∧ (0 ≤ h.k ∧ h.k ≤ 1152921504606846976)
instance (nq : Nat) (h : Hd) : Decidable (okHd nq h) := inferInstanceAs (Decidable (_ ∧ _))
def cmpI (a b : Int) : Int := if a < b then -1 else if b < a then 1 else 0
def orI : List Int → Int
  | [] => 0
  | x :: l => if x ≠ 0 then x else orI l
def cmpHd (x y : Hd) : Int := orI [cmpI x.n y.n, cmpI x.a y.a, cmpI x.b y.b, cmpI x.k y.k, cmpI x.s y.s]
def stored (l : List Hd) (n t : Int) : Int := match l with
  | [] => 0
  | h :: l => (if h.n = n ∧ h.a ≤ t ∧ t < h.b then h.s else 0) + stored l n t
def delta (l : List Hd) (n t : Int) : Int := match l with
  | [] => 0
  | h :: l => (if h.n = n then (if h.a = t then h.s else 0) - (if h.b = t then h.s else 0) else 0) + delta l n t
theorem stored_step {n p t : Int} (hpt : p < t) : ∀ {l : List Hd}, (∀ h ∈ l, h.n = n → (h.a ≤ p ∨ t ≤ h.a) ∧ (h.b ≤ p ∨ t ≤ h.b) ∧ h.a < h.b) → stored l n t = stored l n p + delta l n t
  | [], _ => rfl
  | h :: l, H => by
    have ih := stored_step hpt (l := l) (fun x hx => H x (by simp [hx]))
    have h0 := H h (by simp)
    simp only [stored, delta, ih]
    by_cases hn : h.n = n
    · have := h0 hn
      simp only [hn, true_and, if_true]
      split <;> split <;> split <;> split <;> omega
    · simp only [hn, false_and, if_false]
      omega
theorem stored_early {n t : Int} : ∀ {l : List Hd}, (∀ h ∈ l, h.n = n → t < h.a) → stored l n t = 0
  | [], _ => rfl
  | h :: l, H => by
    have ih := stored_early (l := l) (fun x hx => H x (by simp [hx]))
    have h0 := H h (by simp)
    simp only [stored, ih]
    by_cases hn : h.n = n
    · have := h0 hn
      rw [if_neg (by omega)]; rfl
    · rw [if_neg (by omega)]; rfl
theorem stored_bd {n t : Int} {nq : Nat} : ∀ {l : List Hd}, (∀ h ∈ l, okHd nq h) → 0 ≤ stored l n t ∧ stored l n t ≤ 65536 * l.length
  | [], _ => by simp [stored]
  | h :: l, H => by
    have ih := stored_bd (n := n) (t := t) (l := l) (fun x hx => H x (by simp [hx]))
    have h0 := (H h (by simp)).2.2.1
    simp only [stored, List.length_cons, Int.natCast_add, Int.mul_add]
    split <;> omega
theorem delta_bd {n t : Int} {nq : Nat} : ∀ {l : List Hd}, (∀ h ∈ l, okHd nq h) → -(65536 * (l.length : Int)) ≤ delta l n t ∧ delta l n t ≤ 65536 * l.length
  | [], _ => by simp [delta]
  | h :: l, H => by
    have ih := delta_bd (n := n) (t := t) (l := l) (fun x hx => H x (by simp [hx]))
    have h0 := (H h (by simp)).2.2.1
    have h1 := (H h (by simp)).2.1
    simp only [delta, List.length_cons, Int.natCast_add, Int.mul_add]
    split
    · split <;> split <;> omega
    · omega
/-- the times of the holds of a node -/
def tmH (l : List Hd) (n : Int) : List Int := l.flatMap (fun h => if h.n = n then [h.a, h.b] else [])
theorem mem_tmH {l : List Hd} {n x : Int} : x ∈ tmH l n ↔ ∃ h ∈ l, h.n = n ∧ (x = h.a ∨ x = h.b) := by
  unfold tmH
  rw [List.mem_flatMap]
  constructor
  · rintro ⟨h, hm, hx⟩
    by_cases hn : h.n = n
    · rw [if_pos hn] at hx
      exact ⟨h, hm, hn, by simpa using hx⟩
    · rw [if_neg hn] at hx; simp at hx
  · rintro ⟨h, hm, hn, hx⟩
    exact ⟨h, hm, by rw [if_pos hn]; simpa using hx⟩
def hts (l : List Hd) (n : Int) : List Int := Lib.compact ((tmH l n).mergeSort fun x y => decide (x ≤ y))
theorem hts_sa (l : List Hd) (n : Int) : SA (hts l n) ∧ ∀ x, x ∈ hts l n ↔ x ∈ tmH l n := by
  have hp : ((tmH l n).mergeSort fun x y => decide (x ≤ y)).Pairwise (· ≤ ·) := by
    have := List.pairwise_mergeSort (le := fun x y : Int => decide (x ≤ y)) (by intro a b c h1 h2; simp at *; omega) (by intro a b; simp; omega) (tmH l n)
    exact this.imp (fun h => by simpa using h)
  obtain ⟨h1, h2⟩ := compact_sa hp
  exact ⟨h1, fun x => by unfold hts; rw [h2 x, List.mem_mergeSort]⟩
/-- the levels of a node -/
def lvH (l : List Hd) (n : Int) : List Lv := comb (stored l n) 0 (hts l n)
def prevF (F : Int → Int) (ts : List Int) (k : Nat) : Int := if k = 0 then 0 else F (ts.getD (k - 1) 0)
theorem comb_snoc (F : Int → Int) {ts : List Int} {k : Nat} {t : Int} (h : ts[k]? = some t) : comb F 0 (ts.take (k + 1)) = comb F 0 (ts.take k) ++ (if F t = prevF F ts k then [] else [⟨t, F t⟩]) := by
  obtain ⟨hk, rfl⟩ := List.getElem?_eq_some_iff.1 h
  rw [List.take_succ_eq_append_getElem hk, comb_append]
  congr 1
  have e : (if ts.take k = [] then (0 : Int) else F ((ts.take k).getLastD 0)) = prevF F ts k := by
    unfold prevF
    by_cases h0 : k = 0
    · subst h0; simp
    · have hne : ts.take k ≠ [] := by
        intro hh
        have := congrArg List.length hh
        rw [List.length_take, List.length_nil] at this
        omega
      rw [if_neg hne, if_neg h0]
      congr 1
      rw [List.getLastD_eq_getLast?, List.getLast?_eq_getElem?, List.length_take, Nat.min_eq_left (by omega), List.getElem?_take_of_lt (by omega)]
      rw [List.getD_eq_getElem?_getD]
  rw [e]
  by_cases hc : F ts[k] = prevF F ts k
  · rw [if_pos hc]; simp only [comb]; rw [if_neg (fun h => h hc)]
  · rw [if_neg hc]; simp only [comb]; rw [if_pos hc]
end Go.Step
