/- Residual arcs, their rooms, paths in them. No program in sight. No conditions. -/
import Derived.Test.YtoccdekghjoldaaWMbPath
import Derived.Test.YtoccdekghjoldaaWMbFlowDefs
set_option linter.all false
namespace Go.Flow
def leastR (rm : Nat → Int) (p : List Lk) : Int := p.foldl (fun m x => min m (rm x.k)) 1099511627776
theorem leastR_snoc (rm : Nat → Int) (p : List Lk) (x : Lk) : leastR rm (p ++ [x]) = min (leastR rm p) (rm x.k) := by simp [leastR]
/-- the arcs and the flow of a residual graph, in their boxes -/
def rmR (l : List Arc) (fl : List Int) (k : Nat) : Int := if k % 2 = 0 then (l.getD (k / 2) default).c - fl.getD (k / 2) 0 else fl.getD (k / 2) 0
def outsOf (ls : List Lk) (v : Nat) : List Lk := ls.filter (fun x => decide (x.f = v))
def insOf (ls : List Lk) (v : Nat) : List Lk := ls.filter (fun x => decide (x.t = v))
theorem outsOf_snoc (ls : List Lk) (x : Lk) (v : Nat) : outsOf (ls ++ [x]) v = outsOf ls v ++ (if x.f = v then [x] else []) := by
  unfold outsOf; rw [List.filter_append]; by_cases h : x.f = v <;> simp [h]
theorem insOf_snoc (ls : List Lk) (x : Lk) (v : Nat) : insOf (ls ++ [x]) v = insOf ls v ++ (if x.t = v then [x] else []) := by
  unfold insOf; rw [List.filter_append]; by_cases h : x.t = v <;> simp [h]
theorem filter_le {α : Type} (p : α → Bool) (l : List α) {m : Nat} (h : l.length ≤ m) : (l.filter p).length ≤ m := Nat.le_trans (List.length_filter_le p l) h
/-- the links of a residual graph, from the number i on -/
def rlFrom : Nat → List Arc → List Lk
  | _, [] => []
  | i, a :: l => ⟨2 * i, a.f.toNat, a.t.toNat⟩ :: ⟨2 * i + 1, a.t.toNat, a.f.toNat⟩ :: rlFrom (i + 1) l
def rlinks (l : List Arc) : List Lk := rlFrom 0 l
theorem rlFrom_snoc (a : Arc) : ∀ (l : List Arc) (i : Nat), rlFrom i (l ++ [a]) = rlFrom i l ++ [(⟨2 * (i + l.length), a.f.toNat, a.t.toNat⟩ : Lk), ⟨2 * (i + l.length) + 1, a.t.toNat, a.f.toNat⟩]
  | [], i => by simp [rlFrom]
  | b :: l, i => by
    simp only [List.cons_append, rlFrom]
    rw [rlFrom_snoc a l (i + 1)]
    simp only [List.length_cons, List.cons_append]
    rw [show i + 1 + l.length = i + (l.length + 1) from by omega]
theorem rlinks_snoc (l : List Arc) (a : Arc) : rlinks (l ++ [a]) = rlinks l ++ [(⟨2 * l.length, a.f.toNat, a.t.toNat⟩ : Lk), ⟨2 * l.length + 1, a.t.toNat, a.f.toNat⟩] := by
  unfold rlinks; rw [rlFrom_snoc]; simp
theorem rlFrom_len : ∀ (l : List Arc) (i : Nat), (rlFrom i l).length = 2 * l.length
  | [], _ => rfl
  | a :: l, i => by simp [rlFrom, rlFrom_len l (i + 1)]; omega
theorem rlinks_len (l : List Arc) : (rlinks l).length = 2 * l.length := rlFrom_len l 0
theorem rlFrom_mem {n : Nat} : ∀ (l : List Arc) (i : Nat), (∀ a ∈ l, okArc n a = true) → ∀ x ∈ rlFrom i l, x.f < n ∧ x.t < n ∧ x.k < 2 * (i + l.length)
  | [], _, _, x, hx => by simp [rlFrom] at hx
  | a :: l, i, hok, x, hx => by
    have ha := okArc_iff.1 (hok a (by simp))
    simp only [rlFrom, List.mem_cons, List.length_cons] at hx ⊢
    rcases hx with rfl | rfl | hx
    · exact ⟨by simp only; omega, by simp only; omega, by simp only; omega⟩
    · exact ⟨by simp only; omega, by simp only; omega, by simp only; omega⟩
    · have := rlFrom_mem l (i + 1) (fun b hb => hok b (by simp [hb])) x hx
      exact ⟨this.1, this.2.1, by omega⟩
theorem rlinks_mem {n : Nat} {l : List Arc} (hok : ∀ a ∈ l, okArc n a = true) {x : Lk} (hx : x ∈ rlinks l) : x.f < n ∧ x.t < n ∧ x.k < 2 * l.length := by
  have := rlFrom_mem l 0 hok x hx
  simpa using this
end Go.Flow
