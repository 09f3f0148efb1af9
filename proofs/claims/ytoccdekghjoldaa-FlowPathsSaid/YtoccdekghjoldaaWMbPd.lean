/- What the paths use is a flow. No program in sight. No conditions. -/
import Derived.Test.YtoccdekghjoldaaWMbPO
set_option linter.all false
namespace Go.Flow
theorem inCap_diff : ∀ (l : List Arc) (a b : List Int), l.length = a.length → a.length = b.length → inCap l a = true → inCap l b = true → (∀ k : Nat, b.getD k 0 ≤ a.getD k 0) → inCap l (diffL a b) = true
  | [], [], [], _, _, _, _, _ => rfl
  | c :: l, x :: a, y :: b, h1, h2, h3, h4, h5 => by
    simp only [inCap, Bool.and_eq_true, decide_eq_true_eq] at h3 h4
    have ih := inCap_diff l a b (by simpa using h1) (by simpa using h2) h3.2 h4.2 (fun k => by simpa using h5 (k + 1))
    have h0 := h5 0
    simp only [List.getD_cons_zero] at h0
    simp only [diffL, List.zipWith_cons_cons, inCap, Bool.and_eq_true, decide_eq_true_eq]
    exact ⟨⟨by omega, by omega⟩, ih⟩
theorem flw_diff {n s t : Nat} {l : List Arc} {a b : List Int} (ha : Flw n l s t a) (hb : Flw n l s t b) (h : ∀ k : Nat, b.getD k 0 ≤ a.getD k 0) : Flw n l s t (diffL a b) := by
  have hl : a.length = b.length := by rw [← ha.len, hb.len]
  refine ⟨by rw [diffL_len hl]; exact ha.len, inCap_diff l a b ha.len hl ha.cap hb.cap h, fun v hv g1 g2 => ?_⟩
  rw [fval_diff v l a b hl, ha.bal v hv g1 g2, hb.bal v hv g1 g2]; rfl
theorem Chn.cons_iff {E : Lk → Prop} {v u : Nat} {x : Lk} {p : List Lk} (h : Chn E v (x :: p) u) : x.f = v ∧ E x ∧ Chn E x.t p u := by
  cases h with
  | cons h1 h2 h3 => exact ⟨h1, h2, h3⟩
theorem Chn.nil_eq {E : Lk → Prop} {v u : Nat} (h : Chn E v [] u) : v = u := by
  cases h with
  | nil => rfl
/-- the law on the paths of a maximum flow -/
theorem paths_max {n s t : Nat} {l : List Arc} (hok : ∀ a ∈ l, okArc n a = true) (hs : s < n) (ht : t < n) (hst : s ≠ t) {F r : List Int} (hr : RunR n l s t (List.replicate l.length 0) F) (hF : Flw n l s t F) (hr2 : Flw n l s t r) (h : ∀ k : Nat, r.getD k 0 ≤ F.getD k 0) : 0 ≤ fval s l r := by
  have h1 := run_max hok hs ht hst hr (flw_diff hF hr2 h)
  rw [fval_diff s l F r (by rw [← hF.len, hr2.len])] at h1
  omega
end Go.Flow
