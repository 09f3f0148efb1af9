/- The rows: each law, for every input. -/
import Derived.Test.YtbcibkopcbhgfaaWCvA
import Derived.Test.YtbcibkopcbhgfaaWMbRowC
import Derived.Test.YtbcibkopcbhgfaaRows
set_option linter.all false
namespace Go.Proofs.Ytbcibkopcbhgfaa
open Go.Eng Go.Step
set_option maxRecDepth 100000
set_option maxHeartbeats 4000000
open Go.ChangeShapes Go.WideShapes Go.ChangeAt Go.RowKit

theorem Try.own : ownKnob Try.prog.godebug = none := by kernel_rfl
theorem Try.laidOut : laidOutB Try.prog = true := by kernel_rfl
theorem wf_u8 {n : Int} (h : (Lit.int .u8 n).wf = true) : 0 ≤ n ∧ n ≤ 255 := by
  simp only [Lit.wf, Bool.and_eq_true, decide_eq_true_eq] at h
  exact ⟨h.1, h.2⟩
theorem wf_u16 {n : Int} (h : (Lit.int .u16 n).wf = true) : 0 ≤ n ∧ n ≤ 65535 := by
  simp only [Lit.wf, Bool.and_eq_true, decide_eq_true_eq] at h
  exact ⟨h.1, h.2⟩
theorem wf_u32 {n : Int} (h : (Lit.int .u32 n).wf = true) : 0 ≤ n ∧ n ≤ 4294967295 := by
  simp only [Lit.wf, Bool.and_eq_true, decide_eq_true_eq] at h
  exact ⟨h.1, h.2⟩
theorem wf_i32 {n : Int} (h : (Lit.int .i32 n).wf = true) : -2147483648 ≤ n ∧ n ≤ 2147483647 := by
  simp only [Lit.wf, Bool.and_eq_true, decide_eq_true_eq] at h
  exact ⟨h.1, h.2⟩
theorem lv_of {W : World} {x : List Value} (h : RdT Try.prog W 33 x) : ∃ a : Lv, x = encV a ∧ True := by
  obtain ⟨h1, _⟩ := h.struct Try.underlying33
  have hc : Try.prog.cellsOf 33 = 2 := by kernel_rfl
  rw [hc] at h1
  match x, h1 with
  | [c0, c1], _ =>
    have k : Try.prog.cellsOf 3 = 1 := by kernel_rfl
    obtain ⟨f, e0, _⟩ := (h.fld1 Try.underlying33 0 rfl rfl rfl k rfl).i64 Try.underlying3
    obtain ⟨t, e1, _⟩ := (h.fld1 Try.underlying33 1 rfl rfl rfl k rfl).i64 Try.underlying3
    simp at e0 e1
    subst e0 e1
    exact ⟨⟨f, t⟩, rfl, trivial⟩
theorem levels_of {W : World} {r : Reach} {base : Nat} {v0 : Value} (hv : Value.okWide Try.prog W r base 22 v0) (h : RdT Try.prog W 22 v0.cells.toList) : ∃ l : List Lv, LvAt (heapPH W) v0 l ∧ CapOK v0 ∧ l.length ≤ 9223372036854775807 := by
  obtain ⟨a, len, cap, rfl⟩ := okWide_slice Try.underlying22 hv
  have h' : RdT Try.prog W 22 [Value.slice a len cap] := h
  obtain ⟨v, e, l, h1, h2, h3⟩ := h'.sliceE Try.underlying22 (s := 2) (by kernel_rfl) (by omega) (fun x hx => lv_of hx)
  simp only [List.cons.injEq, and_true] at e
  subst e
  exact ⟨l, h1, h'.capOK Try.underlying22, by simp only [maxLen] at h3; omega⟩
theorem span_of {W : World} {r : Reach} {base : Nat} {v0 : Value} (hv : Value.okWide Try.prog W r base 24 v0) (h : RdT Try.prog W 24 v0.cells.toList) : ∃ a b : Int, v0 = .agg #[int a, int b] ∧ In64 a ∧ In64 b := by
  obtain ⟨cs, rfl⟩ := okWide_agg Try.underlying24 hv
  obtain ⟨h1, _⟩ := h.struct Try.underlying24
  have hc : Try.prog.cellsOf 24 = 2 := by kernel_rfl
  rw [hc] at h1
  obtain ⟨x⟩ := cs
  match x, h1 with
  | [c0, c1], _ =>
    have k : Try.prog.cellsOf 3 = 1 := by kernel_rfl
    obtain ⟨f, e0, i0⟩ := (h.fld1 Try.underlying24 0 rfl rfl rfl k rfl).i64 Try.underlying3
    obtain ⟨t, e1, i1⟩ := (h.fld1 Try.underlying24 1 rfl rfl rfl k rfl).i64 Try.underlying3
    simp at e0 e1
    subst e0 e1
    exact ⟨f, t, rfl, i0, i1⟩
end Go.Proofs.Ytbcibkopcbhgfaa
