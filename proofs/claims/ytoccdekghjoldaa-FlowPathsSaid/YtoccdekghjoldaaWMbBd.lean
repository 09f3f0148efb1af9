/- Bounds on what Max hands back; a capacity raised. No program in sight. No conditions. -/
import Derived.Test.YtoccdekghjoldaaWMbEx
set_option linter.all false
namespace Go.Flow
theorem max_bd {n s t m e : Int} {l : List Arc} {F : List Int} (h : MaxOK n l s t F m e) : -(1099511627776 * (2 * (l.length : Int))) ≤ m ∧ m ≤ 1099511627776 * (2 * (l.length : Int)) := by
  rcases h with ⟨_, _, _, rfl⟩ | ⟨a1, _, a3, rfl⟩
  · omega
  · obtain ⟨n', s', t', g⟩ := maxErr_good a1
    obtain ⟨rfl, rfl, rfl⟩ := And.intro g.en (And.intro g.es g.et)
    simp only [Int.toNat_natCast] at a3
    have hF := (a3.flw g.ok g.sn g.ne (flw_zeros g.ok)).1
    have := fval_bd s' l F (inCap_small l F hF.len hF.cap g.ok)
    rw [← hF.len] at this
    exact this
theorem max_caps {n s t m : Int} {l : List Arc} {F : List Int} (h : MaxOK n l s t F m 0) : ∀ a ∈ l, 0 ≤ a.c ∧ a.c ≤ 1099511627776 := by
  rcases h with ⟨a1, a2, _⟩ | ⟨a1, _⟩
  · exact absurd a2.symm a1
  · obtain ⟨n', s', t', g⟩ := maxErr_good a1
    intro a ha
    have := okArc_iff.1 (g.ok a ha)
    omega
theorem set_raise {l : List Arc} {i : Nat} (hi : i < l.length) (b : Int) : l.set i { l[i] with c := l[i].c + b } = raise l i b := by
  unfold raise
  rw [List.getD_eq_getElem?_getD, List.getElem?_eq_getElem hi]
  rfl
end Go.Flow
