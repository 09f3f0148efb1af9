/- Shortest paths: the first open link that leads nearer. No program in sight. No conditions. -/
import Derived.Test.YtnbihndlbopmeaaWMbBfs
set_option linter.all false
namespace Go.Flow
/-- the test of the search for the next link -/
def near (D : List Int) (v : Nat) (x : Lk) : Bool := decide (D.getD x.t 0 = D.getD v 0 - 1)
/-- the next link of all links, by their numbers -/
def nxt (ls : List Lk) (rm : Nat → Int) (D : List Int) (v : Nat) : Option Lk := ls.find? (fun x => decide (0 < rm x.k) && decide (x.f = v) && near D v x)
def pathP (nx : Nat → Option Lk) : Nat → Nat → List Lk
  | 0, _ => []
  | fuel + 1, v => match nx v with
    | some x => x :: pathP nx fuel x.t
    | none => []
/-- the path of s, for distances D -/
def pathD (nx : Nat → Option Lk) (D : List Int) (v : Nat) : List Lk := pathP nx (D.getD v 0).toNat v
theorem pathD_step {nx : Nat → Option Lk} {D : List Int} {v : Nat} {x : Lk} (h : nx v = some x) (hd : 0 < D.getD v 0) (hn : D.getD x.t 0 = D.getD v 0 - 1) : pathD nx D v = x :: pathD nx D x.t := by
  unfold pathD
  rw [hn, show (D.getD v 0).toNat = (D.getD v 0 - 1).toNat + 1 from by omega]
  simp only [pathP, h]
theorem pathD_end {nx : Nat → Option Lk} {D : List Int} {v : Nat} (h : D.getD v 0 ≤ 0) : pathD nx D v = [] := by
  unfold pathD
  rw [show (D.getD v 0).toNat = 0 from by omega]
  rfl
theorem find_filter {α : Type} (p q : α → Bool) (l : List α) : (l.filter p).find? q = l.find? (fun x => p x && q x) := by
  induction l with
  | nil => rfl
  | cons x l ih =>
    rw [List.filter_cons, List.find?_cons]
    cases hp : p x
    · simpa using ih
    · simp only [if_true, List.find?_cons, Bool.true_and, ih]
/-- how a search goes on -/
theorem find_of_take {α : Type} {p : α → Bool} {l : List α} {i : Nat} {x : α} (hx : l[i]? = some x) (hp : p x = true) (hn : ∀ y ∈ l.take i, p y = false) : l.find? p = some x := by
  obtain ⟨hlt, he⟩ := List.getElem?_eq_some_iff.1 hx
  have e : l = l.take i ++ (l[i] :: l.drop (i + 1)) := by rw [← List.drop_eq_getElem_cons hlt, List.take_append_drop]
  rw [e, List.find?_append]
  have : (l.take i).find? p = none := by
    rw [List.find?_eq_none]
    intro y hy; rw [hn y hy]; simp
  rw [this, he]
  simp [List.find?_cons, hp]
theorem count_split (j : Int) (hj : 0 ≤ j) (l : List Int) : l.countP (fun x => decide (0 ≤ x) && decide (x ≤ j + 1)) = l.countP (fun x => decide (0 ≤ x) && decide (x ≤ j)) + l.countP (fun x => decide (x = j + 1)) := by
  induction l with
  | nil => rfl
  | cons x l ih =>
    simp only [List.countP_cons, ih]
    by_cases h1 : x = j + 1
    · subst h1
      simp [show (0 : Int) ≤ j + 1 from by omega, show ¬ (j + 1 ≤ j) from by omega]; omega
    · by_cases h2 : 0 ≤ x ∧ x ≤ j
      · simp [h1, h2.1, h2.2, show x ≤ j + 1 from by omega]; omega
      · have h3 : ¬ (0 ≤ x ∧ x ≤ j + 1) := by omega
        have e1 : (decide (0 ≤ x) && decide (x ≤ j)) = false := by
          rw [Bool.eq_false_iff]; intro h; simp at h; exact h2 h
        have e2 : (decide (0 ≤ x) && decide (x ≤ j + 1)) = false := by
          rw [Bool.eq_false_iff]; intro h; simp at h; exact h3 h
        simp [h1, e1, e2]
theorem IsDist.lt {n t : Nat} {E : Lk → Prop} (hE : ∀ x, E x → x.f < n ∧ x.t < n) {D : List Int} (h : IsDist n t E D) (ht : t < n) {v : Nat} (hv : v < n) : D.getD v 0 < n := by
  have all : ∀ (d : Nat) (v : Nat), v < n → D.getD v 0 = (d : Int) → d + 1 ≤ D.countP (fun x => decide (0 ≤ x) && decide (x ≤ (d : Int))) := by
    intro d
    induction d with
    | zero =>
      intro v hv e
      have : 0 < D.countP (fun x => decide (0 ≤ x) && decide (x ≤ ((0 : Nat) : Int))) := by
        rw [List.countP_pos_iff]
        have hl : v < D.length := by rw [h.len]; exact hv
        refine ⟨D[v], List.getElem_mem hl, ?_⟩
        have : D.getD v 0 = D[v] := by simp [List.getD_eq_getElem?_getD, hl]
        rw [← this, e]; rfl
      omega
    | succ d ih =>
      intro v hv e
      obtain ⟨x, hx, hf, hxt⟩ := h.step v hv (by omega)
      have := ih x.t (hE x hx).2 (by rw [hxt, e]; omega)
      have hs := count_split (d : Int) (by omega) D
      have hp : 0 < D.countP (fun x => decide (x = (d : Int) + 1)) := by
        rw [List.countP_pos_iff]
        have hl : v < D.length := by rw [h.len]; exact hv
        refine ⟨D[v], List.getElem_mem hl, ?_⟩
        have : D.getD v 0 = D[v] := by simp [List.getD_eq_getElem?_getD, hl]
        rw [← this, e]; simp
      rw [show ((d + 1 : Nat) : Int) = (d : Int) + 1 from by omega]
      omega
  by_cases hd : D.getD v 0 < 0
  · omega
  · obtain ⟨d, hk⟩ := Int.eq_ofNat_of_zero_le (show 0 ≤ D.getD v 0 by omega)
    have h1 := all d v hv hk
    have h2 := List.countP_le_length (p := fun x => decide (0 ≤ x) && decide (x ≤ (d : Int))) (l := D)
    rw [h.len] at h2
    omega
end Go.Flow
