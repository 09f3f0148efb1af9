/- The rows: each law, for every input. -/
import Derived.Test.YtnbihndlbopmeaaWSgC
import Derived.Test.YtnbihndlbopmeaaWMbRowC
import Derived.Test.YtnbihndlbopmeaaRows
set_option linter.all false
namespace Go.Proofs.Ytnbihndlbopmeaa
open Go.Eng Go.Step
set_option maxRecDepth 100000
set_option maxHeartbeats 4000000
open Go.ChangeShapes Go.WideShapes Go.ChangeAt Go.RowKit

theorem Try.own : ownKnob Try.prog.godebug = none := by kernel_rfl
theorem Try.laidOut : laidOutB Try.prog = true := by kernel_rfl
theorem wf_u8 {n : Int} (h : (Lit.int .u8 n).wf = true) : 0 ≤ n ∧ n ≤ 255 := by
  simp only [Lit.wf, Bool.and_eq_true, decide_eq_true_eq] at h
  exact ⟨h.1, h.2⟩
theorem wf_u16 {n : Int} (h : (Lit.int .u16 n).wf = true) : 0 ≤ n ∧ n ≤ 65535 := by
  simp only [Lit.wf, Bool.and_eq_true, decide_eq_true_eq] at h
  exact ⟨h.1, h.2⟩
theorem wf_u32 {n : Int} (h : (Lit.int .u32 n).wf = true) : 0 ≤ n ∧ n ≤ 4294967295 := by
  simp only [Lit.wf, Bool.and_eq_true, decide_eq_true_eq] at h
  exact ⟨h.1, h.2⟩
theorem ct_of {W : World} {x : List Value} (h : RdT Try.prog W 71 x) : ∃ a : Ct, x = encC a ∧ True := by
  obtain ⟨h1, _⟩ := h.struct Try.underlying71
  have hc : Try.prog.cellsOf 71 = 7 := by kernel_rfl
  rw [hc] at h1
  match x, h1 with
  | [c0, c1, c2, c3, c4, c5, c6], _ =>
    have k : Try.prog.cellsOf 3 = 1 := by kernel_rfl
    obtain ⟨x0, e0, _⟩ := (h.fld1 Try.underlying71 0 rfl rfl rfl k rfl).i64 Try.underlying3
    obtain ⟨x1, e1, _⟩ := (h.fld1 Try.underlying71 1 rfl rfl rfl k rfl).i64 Try.underlying3
    obtain ⟨x2, e2, _⟩ := (h.fld1 Try.underlying71 2 rfl rfl rfl k rfl).i64 Try.underlying3
    obtain ⟨x3, e3, _⟩ := (h.fld1 Try.underlying71 3 rfl rfl rfl k rfl).i64 Try.underlying3
    obtain ⟨x4, e4, _⟩ := (h.fld1 Try.underlying71 4 rfl rfl rfl k rfl).i64 Try.underlying3
    obtain ⟨x5, e5, _⟩ := (h.fld1 Try.underlying71 5 rfl rfl rfl k rfl).i64 Try.underlying3
    obtain ⟨x6, e6, _⟩ := (h.fld1 Try.underlying71 6 rfl rfl rfl k rfl).i64 Try.underlying3
    simp at e0 e1 e2 e3 e4 e5 e6
    subst e0 e1 e2 e3 e4 e5 e6
    exact ⟨⟨x0, x1, x2, x3, x4, x5, x6⟩, rfl, trivial⟩
theorem hd_of {W : World} {x : List Value} (h : RdT Try.prog W 47 x) : ∃ a : Hd, x = encH a ∧ True := by
  obtain ⟨h1, _⟩ := h.struct Try.underlying47
  have hc : Try.prog.cellsOf 47 = 5 := by kernel_rfl
  rw [hc] at h1
  match x, h1 with
  | [c0, c1, c2, c3, c4], _ =>
    have k : Try.prog.cellsOf 3 = 1 := by kernel_rfl
    obtain ⟨x0, e0, _⟩ := (h.fld1 Try.underlying47 0 rfl rfl rfl k rfl).i64 Try.underlying3
    obtain ⟨x1, e1, _⟩ := (h.fld1 Try.underlying47 1 rfl rfl rfl k rfl).i64 Try.underlying3
    obtain ⟨x2, e2, _⟩ := (h.fld1 Try.underlying47 2 rfl rfl rfl k rfl).i64 Try.underlying3
    obtain ⟨x3, e3, _⟩ := (h.fld1 Try.underlying47 3 rfl rfl rfl k rfl).i64 Try.underlying3
    obtain ⟨x4, e4, _⟩ := (h.fld1 Try.underlying47 4 rfl rfl rfl k rfl).i64 Try.underlying3
    simp at e0 e1 e2 e3 e4
    subst e0 e1 e2 e3 e4
    exact ⟨⟨x0, x1, x2, x3, x4⟩, rfl, trivial⟩
theorem holds_of {W : World} {r : Reach} {base : Nat} {v0 : Value} (hv : Value.okWide Try.prog W r base 26 v0) (h : RdT Try.prog W 26 v0.cells.toList) : ∃ l : List Hd, HdAt (heapPH W) v0 l ∧ CapOK v0 ∧ l.length ≤ 9223372036854775807 := by
  obtain ⟨a, len, cap, rfl⟩ := okWide_slice Try.underlying26 hv
  have h' : RdT Try.prog W 26 [Value.slice a len cap] := h
  obtain ⟨v, e, l, h1, h2, h3⟩ := h'.sliceE Try.underlying26 (s := 5) (by kernel_rfl) (by omega) (fun x hx => hd_of hx)
  simp only [List.cons.injEq, and_true] at e
  subst e
  exact ⟨l, h1, h'.capOK Try.underlying26, by simp only [maxLen] at h3; omega⟩
theorem int_of {W : World} {x : List Value} (h : RdT Try.prog W 3 x) : ∃ a : Int, x = Eng.encI a ∧ True := by
  obtain ⟨a, e, _⟩ := h.i64 Try.underlying3
  exact ⟨a, e, trivial⟩
theorem plan_of {W : World} {r : Reach} {base : Nat} {v0 : Value} (hv : Value.okWide Try.prog W r base 25 v0) (h : RdT Try.prog W 25 v0.cells.toList) :
    ∃ (pq pc : Option Addr) (kq kc : Nat) (qs : List Int) (cs : List Ct), v0 = .agg #[.slice pq qs.length kq, .slice pc cs.length kc] ∧ IntsAt (heapPH W) (.slice pq qs.length kq) qs ∧ CtAt (heapPH W) (.slice pc cs.length kc) cs ∧ cs.length ≤ kc ∧ qs.length ≤ 9223372036854775807 ∧ cs.length ≤ 9223372036854775807 := by
  obtain ⟨cs, rfl⟩ := okWide_agg Try.underlying25 hv
  obtain ⟨h1, _⟩ := h.struct Try.underlying25
  have hc : Try.prog.cellsOf 25 = 2 := by kernel_rfl
  rw [hc] at h1
  obtain ⟨x⟩ := cs
  match x, h1 with
  | [c0, c1], _ =>
    have k0 : Try.prog.cellsOf 22 = 1 := by kernel_rfl
    have k1 : Try.prog.cellsOf 23 = 1 := by kernel_rfl
    have f0 := h.fld1 Try.underlying25 0 rfl rfl rfl k0 rfl
    have f1 := h.fld1 Try.underlying25 1 rfl rfl rfl k1 rfl
    obtain ⟨v, e, qs, a1, a2, a3⟩ := f0.sliceE Try.underlying22 (s := 1) (by kernel_rfl) (by omega) (fun x hx => int_of hx)
    simp only [List.cons.injEq, and_true] at e
    obtain ⟨u, e', ct, b1, b2, b3⟩ := f1.sliceE Try.underlying23 (s := 7) (by kernel_rfl) (by omega) (fun x hx => ct_of hx)
    simp only [List.cons.injEq, and_true] at e'
    have cap := f1.capOK Try.underlying23
    have cap2 := cap
    subst e e'
    obtain ⟨pq, kq, rfl, _⟩ := a1.val Eng.encI_len
    obtain ⟨pc, kc, rfl, _⟩ := b1.val encC_len
    exact ⟨pq, pc, kq, kc, qs, ct, rfl, a1, b1, cap2.le, by simp only [maxLen] at a3; omega, by simp only [maxLen] at b3; omega⟩
end Go.Proofs.Ytnbihndlbopmeaa
