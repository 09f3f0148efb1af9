/- Arguments that are slices: their room. No conditions. -/
import Derived.Test.YtnbihndlbopmeaaWMbRow
import Derived.Test.YtnbihndlbopmeaaWMbCuts
set_option linter.all false
namespace Go.Eng
open Go.ChangeShapes Go.WideShapes Go.RowKit
variable {P : Program} {W : World} {t : TypeId}
theorem RdT.capOK {e : TypeId} {v : Value} (ht : P.underlying t = some (.slice e)) (h : RdT P W t [v]) : CapOK v := by
  obtain ⟨H, enc, fuel, x, h⟩ := h
  rcases Deep.open_slice ht h with ⟨e, _⟩ | ⟨a, len, cap, m, n, D, Pl, e, _, hlc, _⟩
  · simp only [List.cons.injEq, and_true] at e
    exact ⟨_, _, _, e, Nat.le_refl _⟩
  · simp only [List.cons.injEq, and_true] at e
    exact ⟨_, _, _, e, hlc⟩
end Go.Eng
