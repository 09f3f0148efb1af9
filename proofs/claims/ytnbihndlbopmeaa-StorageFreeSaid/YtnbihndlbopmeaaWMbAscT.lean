/- Levels whose times rise. No program in sight. No conditions. -/
import Derived.Test.YtnbihndlbopmeaaWMbStep
set_option linter.all false
namespace Go.Step
def AscT (pa : Int) : List Lv → Prop
  | [] => True
  | l :: f => pa < l.a ∧ l.a ≤ 1099511627776 ∧ AscT l.a f
theorem Asc.t : ∀ {f : List Lv} {p : Int}, Asc p f → AscT p f
  | [], _, _ => trivial
  | _ :: _, _, h => ⟨h.1, h.2.1, h.2.2.2.t⟩
theorem AscT.gt : ∀ {f : List Lv} {p : Int}, AscT p f → ∀ l ∈ f, p < l.a ∧ l.a ≤ 1099511627776
  | [], _, _, l, hl => by simp at hl
  | m :: f, p, h, l, hl => by
    simp at hl
    rcases hl with rfl | hl
    · exact ⟨h.1, h.2.1⟩
    · have h9 := h.2.2.gt l hl
      have := h.1
      exact ⟨by omega, h9.2⟩
theorem AscT.idx : ∀ {f : List Lv} {p : Int}, AscT p f → ∀ (i j : Nat) (x y : Lv), f[i]? = some x → f[j]? = some y → i < j → x.a < y.a
  | [], _, _, i, j, x, y, h, _, _ => by simp at h
  | l :: f, p, hA, 0, j + 1, x, y, h1, h2, _ => by
    simp at h1; subst h1
    exact (hA.2.2.gt y (List.mem_of_getElem? (by simpa using h2))).1
  | l :: f, p, hA, i + 1, j + 1, x, y, h1, h2, hij => hA.2.2.idx i j x y (by simpa using h1) (by simpa using h2) (by omega)
  | l :: f, p, hA, i, 0, x, y, h1, h2, hij => by omega
end Go.Step
