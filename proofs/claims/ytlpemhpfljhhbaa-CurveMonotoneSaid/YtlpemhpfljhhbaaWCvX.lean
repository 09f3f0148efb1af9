/- The rows: each law, for every input. -/
import Derived.Test.YtlpemhpfljhhbaaWCvI
import Derived.Test.YtlpemhpfljhhbaaWMbRowC
import Derived.Test.YtlpemhpfljhhbaaRows
set_option linter.all false
namespace Go.Proofs.Ytlpemhpfljhhbaa
open Go.Eng Go.Step
set_option maxRecDepth 100000
set_option maxHeartbeats 4000000
open Go.ChangeShapes Go.WideShapes Go.ChangeAt Go.RowKit

theorem Try.own : ownKnob Try.prog.godebug = none := by kernel_rfl
theorem Try.laidOut : laidOutB Try.prog = true := by kernel_rfl
theorem wf_u8 {n : Int} (h : (Lit.int .u8 n).wf = true) : 0 ≤ n ∧ n ≤ 255 := by
  simp only [Lit.wf, Bool.and_eq_true, decide_eq_true_eq] at h
  exact ⟨h.1, h.2⟩
theorem wf_u16 {n : Int} (h : (Lit.int .u16 n).wf = true) : 0 ≤ n ∧ n ≤ 65535 := by
  simp only [Lit.wf, Bool.and_eq_true, decide_eq_true_eq] at h
  exact ⟨h.1, h.2⟩
theorem wf_u32 {n : Int} (h : (Lit.int .u32 n).wf = true) : 0 ≤ n ∧ n ≤ 4294967295 := by
  simp only [Lit.wf, Bool.and_eq_true, decide_eq_true_eq] at h
  exact ⟨h.1, h.2⟩
theorem lv_of {W : World} {x : List Value} (h : RdT Try.prog W 48 x) : ∃ a : Lv, x = encV a ∧ True := by
  obtain ⟨h1, _⟩ := h.struct Try.underlying48
  have hc : Try.prog.cellsOf 48 = 2 := by kernel_rfl
  rw [hc] at h1
  match x, h1 with
  | [c0, c1], _ =>
    have k : Try.prog.cellsOf 3 = 1 := by kernel_rfl
    obtain ⟨f, e0, _⟩ := (h.fld1 Try.underlying48 0 rfl rfl rfl k rfl).i64 Try.underlying3
    obtain ⟨t, e1, _⟩ := (h.fld1 Try.underlying48 1 rfl rfl rfl k rfl).i64 Try.underlying3
    simp at e0 e1
    subst e0 e1
    exact ⟨⟨f, t⟩, rfl, trivial⟩
theorem levels_of {W : World} {r : Reach} {base : Nat} {v0 : Value} (hv : Value.okWide Try.prog W r base 22 v0) (h : RdT Try.prog W 22 v0.cells.toList) : ∃ l : List Lv, LvAt (heapPH W) v0 l ∧ CapOK v0 ∧ l.length ≤ 9223372036854775807 := by
  obtain ⟨a, len, cap, rfl⟩ := okWide_slice Try.underlying22 hv
  have h' : RdT Try.prog W 22 [Value.slice a len cap] := h
  obtain ⟨v, e, l, h1, h2, h3⟩ := h'.sliceE Try.underlying22 (s := 2) (by kernel_rfl) (by omega) (fun x hx => lv_of hx)
  simp only [List.cons.injEq, and_true] at e
  subst e
  exact ⟨l, h1, h'.capOK Try.underlying22, by simp only [maxLen] at h3; omega⟩
theorem jb_of {W : World} {x : List Value} (h : RdT Try.prog W 31 x) : ∃ a : Jb, x = encJ a ∧ True := by
  obtain ⟨h1, _⟩ := h.struct Try.underlying31
  have hc : Try.prog.cellsOf 31 = 2 := by kernel_rfl
  rw [hc] at h1
  match x, h1 with
  | [c0, c1], _ =>
    have k : Try.prog.cellsOf 3 = 1 := by kernel_rfl
    obtain ⟨f, e0, _⟩ := (h.fld1 Try.underlying31 0 rfl rfl rfl k rfl).i64 Try.underlying3
    obtain ⟨t, e1, _⟩ := (h.fld1 Try.underlying31 1 rfl rfl rfl k rfl).i64 Try.underlying3
    simp at e0 e1
    subst e0 e1
    exact ⟨⟨f, t⟩, rfl, trivial⟩
theorem jobs_of {W : World} {r : Reach} {base : Nat} {v0 : Value} (hv : Value.okWide Try.prog W r base 23 v0) (h : RdT Try.prog W 23 v0.cells.toList) : ∃ l : List Jb, JbAt (heapPH W) v0 l ∧ CapOK v0 ∧ l.length ≤ 9223372036854775807 := by
  obtain ⟨a, len, cap, rfl⟩ := okWide_slice Try.underlying23 hv
  have h' : RdT Try.prog W 23 [Value.slice a len cap] := h
  obtain ⟨v, e, l, h1, h2, h3⟩ := h'.sliceE Try.underlying23 (s := 2) (by kernel_rfl) (by omega) (fun x hx => jb_of hx)
  simp only [List.cons.injEq, and_true] at e
  subst e
  exact ⟨l, h1, h'.capOK Try.underlying23, by simp only [maxLen] at h3; omega⟩
theorem span_of {W : World} {r : Reach} {base : Nat} {v0 : Value} (hv : Value.okWide Try.prog W r base 42 v0) (h : RdT Try.prog W 42 v0.cells.toList) : ∃ a b : Int, v0 = .agg #[int a, int b] ∧ In64 a ∧ In64 b := by
  obtain ⟨cs, rfl⟩ := okWide_agg Try.underlying42 hv
  obtain ⟨h1, _⟩ := h.struct Try.underlying42
  have hc : Try.prog.cellsOf 42 = 2 := by kernel_rfl
  rw [hc] at h1
  obtain ⟨x⟩ := cs
  match x, h1 with
  | [c0, c1], _ =>
    have k : Try.prog.cellsOf 3 = 1 := by kernel_rfl
    obtain ⟨f, e0, i0⟩ := (h.fld1 Try.underlying42 0 rfl rfl rfl k rfl).i64 Try.underlying3
    obtain ⟨t, e1, i1⟩ := (h.fld1 Try.underlying42 1 rfl rfl rfl k rfl).i64 Try.underlying3
    simp at e0 e1
    subst e0 e1
    exact ⟨f, t, rfl, i0, i1⟩
end Go.Proofs.Ytlpemhpfljhhbaa
