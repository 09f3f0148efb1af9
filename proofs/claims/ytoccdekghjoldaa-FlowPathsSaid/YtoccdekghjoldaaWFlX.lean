/- The rows: each law, for every input. -/
import Derived.Test.YtoccdekghjoldaaWFlA
import Derived.Test.YtoccdekghjoldaaWMbRow
import Derived.Test.YtoccdekghjoldaaRows
set_option linter.all false
namespace Go.Proofs.Ytoccdekghjoldaa
open Go.Eng Go.Flow
set_option maxRecDepth 100000
set_option maxHeartbeats 4000000
open Go.ChangeShapes Go.WideShapes Go.ChangeAt Go.RowKit

theorem Try.own : ownKnob Try.prog.godebug = none := by kernel_rfl
theorem Try.laidOut : laidOutB Try.prog = true := by kernel_rfl
theorem arc_of {W : World} {x : List Value} (h : RdT Try.prog W 36 x) : ∃ a : Arc, x = encA a ∧ True := by
  obtain ⟨h1, _⟩ := h.struct Try.underlying36
  have hc : Try.prog.cellsOf 36 = 3 := by kernel_rfl
  rw [hc] at h1
  match x, h1 with
  | [c0, c1, c2], _ =>
    have k : Try.prog.cellsOf 3 = 1 := by kernel_rfl
    obtain ⟨f, e0, _⟩ := (h.fld1 Try.underlying36 0 rfl rfl rfl k rfl).i64 Try.underlying3
    obtain ⟨t, e1, _⟩ := (h.fld1 Try.underlying36 1 rfl rfl rfl k rfl).i64 Try.underlying3
    obtain ⟨c, e2, _⟩ := (h.fld1 Try.underlying36 2 rfl rfl rfl k rfl).i64 Try.underlying3
    simp at e0 e1 e2
    subst e0 e1 e2
    exact ⟨⟨f, t, c⟩, rfl, trivial⟩
theorem arcs_of {W : World} {x : List Value} (h : RdT Try.prog W 22 x) : ∃ v, x = [v] ∧ ∃ l : List Arc, ArcsAt (heapPH W) v l := by
  obtain ⟨v, e, l, h1, _⟩ := h.sliceE Try.underlying22 (s := 3) (by kernel_rfl) (by omega) (fun x hx => arc_of hx)
  exact ⟨v, e, l, h1⟩
theorem graph_of {W : World} {r : Reach} {base : Nat} {v0 : Value} (hv : Value.okWide Try.prog W r base 24 v0) (h : RdT Try.prog W 24 v0.cells.toList) :
    ∃ (n : Int) (v : Value) (s t : Int) (l : List Arc), v0 = .agg #[int n, v, int s, int t] ∧ ArcsAt (heapPH W) v l := by
  obtain ⟨cs, rfl⟩ := okWide_agg Try.underlying24 hv
  obtain ⟨h1, _⟩ := h.struct Try.underlying24
  have hc : Try.prog.cellsOf 24 = 4 := by kernel_rfl
  rw [hc] at h1
  obtain ⟨x⟩ := cs
  match x, h1 with
  | [c0, c1, c2, c3], _ =>
    have k : Try.prog.cellsOf 3 = 1 := by kernel_rfl
    have k2 : Try.prog.cellsOf 22 = 1 := by kernel_rfl
    obtain ⟨n, e0, _⟩ := (h.fld1 Try.underlying24 0 rfl rfl rfl k rfl).i64 Try.underlying3
    obtain ⟨v, e1, l, hl⟩ := arcs_of (h.fld1 Try.underlying24 1 rfl rfl rfl k2 rfl)
    obtain ⟨s, e2, _⟩ := (h.fld1 Try.underlying24 2 rfl rfl rfl k rfl).i64 Try.underlying3
    obtain ⟨t, e3, _⟩ := (h.fld1 Try.underlying24 3 rfl rfl rfl k rfl).i64 Try.underlying3
    simp at e0 e1 e2 e3
    subst e0 e1 e2 e3
    exact ⟨n, _, s, t, l, rfl, hl⟩
theorem ints_of {W : World} {r : Reach} {base : Nat} {v0 : Value} (hv : Value.okWide Try.prog W r base 26 v0) (h : RdT Try.prog W 26 v0.cells.toList) : ∃ l : List Int, IntsAt (heapPH W) v0 l := by
  obtain ⟨a, len, cap, rfl⟩ := okWide_slice Try.underlying26 hv
  obtain ⟨v, e, l, hl, _⟩ := h.ints Try.underlying26 Try.underlying3 (by kernel_rfl)
  have e2 : [Value.slice a len cap] = [v] := e
  simp only [List.cons.injEq, and_true] at e2
  subst e2
  exact ⟨l, hl⟩
end Go.Proofs.Ytoccdekghjoldaa
