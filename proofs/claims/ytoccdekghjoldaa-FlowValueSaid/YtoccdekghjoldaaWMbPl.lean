/- The reference's list of arcs with what is left on each. No program in sight. No conditions. -/
import Derived.Test.YtoccdekghjoldaaWMbPO
import Derived.Test.YtoccdekghjoldaaWMbRef7
set_option linter.all false
namespace Go.Flow
def leftL (l : List Arc) (rest : List Int) : List (Lk × Int) := (plinks l).map (fun x => (x, rmP rest x.k))
theorem leftL_len (l : List Arc) (rest : List Int) : (leftL l rest).length = l.length := by simp [leftL, plinks_len]
theorem leftL_get {l : List Arc} {rest : List Int} {k : Nat} {x : Lk} (hx : (plinks l)[k]? = some x) : (leftL l rest)[k]? = some (x, rmP rest k) := by
  unfold leftL
  rw [List.getElem?_map, hx]
  simp [plinks_at l k x hx]
theorem leftL_set {l : List Arc} {rest : List Int} {k : Nat} {x : Lk} (y : Int) (hx : (plinks l)[k]? = some x) (hl : l.length = rest.length) : (leftL l rest).set k (x, y) = leftL l (rest.set k y) := by
  have hkl : k < l.length := by
    have := (List.getElem?_eq_some_iff.1 hx).1
    rwa [plinks_len] at this
  apply List.ext_getElem?
  intro j
  rw [List.getElem?_set]
  by_cases e : k = j
  · subst e
    rw [if_pos rfl, leftL_len, if_pos hkl, leftL_get hx]
    unfold rmP
    rw [getD_set (by omega), if_pos rfl]
  · rw [if_neg e]
    by_cases hj : j < l.length
    · obtain ⟨z, hz⟩ : ∃ z, (plinks l)[j]? = some z := ⟨_, List.getElem?_eq_getElem (by rw [plinks_len]; exact hj)⟩
      rw [leftL_get hz, leftL_get hz]
      unfold rmP
      rw [getD_set' e]
    · rw [List.getElem?_eq_none (by rw [leftL_len]; omega), List.getElem?_eq_none (by rw [leftL_len]; omega)]
theorem leftL_snoc {l : List Arc} {fl : List Int} {i : Nat} (h : i < l.length) (h2 : i < fl.length) : leftL (l.take (i + 1)) fl = leftL (l.take i) fl ++ [((⟨i, l[i].f.toNat, l[i].t.toNat⟩ : Lk), fl[i])] := by
  unfold leftL
  rw [take_snoc' h, plinks_snoc, List.map_append]
  have hti : (l.take i).length = i := by rw [List.length_take]; omega
  simp only [List.map_cons, List.map_nil, hti]
  congr 3
  unfold rmP
  simp [List.getD_eq_getElem?_getD, h2]
theorem rmP_le {n : Nat} {l : List Arc} {fl : List Int} (hok : ∀ a ∈ l, okArc n a = true) (hl : l.length = fl.length) (hc : inCap l fl = true) {x : Lk} (hx : x ∈ plinks l) : rmP fl x.k ≤ 1099511627776 := by
  obtain ⟨j, a, ha, rfl⟩ := plinks_iff.1 hx
  have hjl : j < l.length := (List.getElem?_eq_some_iff.1 ha).1
  have hfj : fl[j]? = some (fl.getD j 0) := by simp [List.getD_eq_getElem?_getD, show j < fl.length by omega]
  have hin := inCap_get l fl hc j a _ ha hfj
  have := okArc_iff.1 (hok a (List.mem_of_getElem? ha))
  unfold rmP
  dsimp only
  omega
end Go.Flow
