/- The reference's list of residual arcs, as it is filled; rooms are bounded. No program in sight. No conditions. -/
import Derived.Test.YtoccdekghjoldaaWMbBd
set_option linter.all false
namespace Go.Flow
/-- a link that is not filled in yet -/
def zLk (l : List Arc) : Lk := ⟨2 * l.length, 0, 0⟩
theorem rm_zLk (l : List Arc) (fl : List Int) (h : fl.length = l.length) : rmR l fl (zLk l).k = 0 := by
  unfold rmR zLk
  dsimp only
  rw [if_pos (by omega), show 2 * l.length / 2 = l.length from by omega, List.getD_eq_getElem?_getD, List.getElem?_eq_none (by omega), List.getD_eq_getElem?_getD, List.getElem?_eq_none (by omega)]
  rfl
def fillR (l : List Arc) (i : Nat) : List Lk := rlinks (l.take i) ++ List.replicate (2 * l.length - 2 * i) (zLk l)
theorem fillR_zero (l : List Arc) : fillR l 0 = List.replicate (2 * l.length) (zLk l) := by simp [fillR, rlinks, rlFrom]
theorem fillR_len (l : List Arc) {i : Nat} (h : i ≤ l.length) : (fillR l i).length = 2 * l.length := by
  unfold fillR
  rw [List.length_append, rlinks_len, List.length_replicate, List.length_take]
  omega
theorem fillR_end (l : List Arc) : fillR l l.length = rlinks l := by simp [fillR]
theorem fillR_step {l : List Arc} {i : Nat} (h : i < l.length) : ((fillR l i).set (2 * i) ⟨2 * i, l[i].f.toNat, l[i].t.toNat⟩).set (2 * i + 1) ⟨2 * i + 1, l[i].t.toNat, l[i].f.toNat⟩ = fillR l (i + 1) := by
  have hlen : (rlinks (l.take i)).length = 2 * i := by rw [rlinks_len, List.length_take]; omega
  unfold fillR
  rw [take_snoc' h, rlinks_snoc]
  obtain ⟨r, hr⟩ : ∃ r, 2 * l.length - 2 * i = r + 2 := ⟨2 * l.length - 2 * i - 2, by omega⟩
  have hr2 : 2 * l.length - 2 * (i + 1) = r := by omega
  have hti : (l.take i).length = i := by rw [List.length_take]; omega
  rw [hr, hr2, List.replicate_succ, List.replicate_succ, List.set_append_right _ _ (by omega), List.set_append_right _ _ (by omega), hlen, hti]
  rw [show 2 * i - 2 * i = 0 from by omega, show 2 * i + 1 - 2 * i = 1 from by omega]
  simp
theorem rmR_le {n : Nat} {l : List Arc} {fl : List Int} (hok : ∀ a ∈ l, okArc n a = true) (hl : l.length = fl.length) (hc : inCap l fl = true) {x : Lk} (hx : x ∈ rlinks l) : rmR l fl x.k ≤ 1099511627776 := by
  obtain ⟨j, a, ha, hxe⟩ := rlinks_iff.1 hx
  have hjl : j < l.length := (List.getElem?_eq_some_iff.1 ha).1
  have hfj : fl[j]? = some (fl.getD j 0) := by simp [List.getD_eq_getElem?_getD, show j < fl.length by omega]
  have hlj : l.getD j default = a := by simp [List.getD_eq_getElem?_getD, ha]
  have hin := inCap_get l fl hc j a _ ha hfj
  have := okArc_iff.1 (hok a (List.mem_of_getElem? ha))
  unfold rmR
  rcases hxe with rfl | rfl
  · dsimp only
    rw [if_pos (by omega), show 2 * j / 2 = j from by omega, hlj]; omega
  · dsimp only
    rw [if_neg (by omega), show (2 * j + 1) / 2 = j from by omega]; omega
/-- where a search ends -/
theorem find_at {α : Type} {p : α → Bool} : ∀ {l : List α} {x : α}, l.find? p = some x → ∃ i : Nat, l[i]? = some x ∧ p x = true ∧ ∀ (j : Nat) (y : α), j < i → l[j]? = some y → p y = false
  | [], x, h => by simp at h
  | a :: l, x, h => by
    rw [List.find?_cons] at h
    cases hp : p a with
    | true =>
      rw [hp] at h
      simp at h; subst h
      exact ⟨0, rfl, hp, fun j y hj => by omega⟩
    | false =>
      rw [hp] at h
      simp only at h
      obtain ⟨i, h1, h2, h3⟩ := find_at h
      refine ⟨i + 1, by simpa using h1, h2, fun j y hj hy => ?_⟩
      cases j with
      | zero => simp at hy; subst hy; exact hp
      | succ j => exact h3 j y (by omega) (by simpa using hy)
end Go.Flow
