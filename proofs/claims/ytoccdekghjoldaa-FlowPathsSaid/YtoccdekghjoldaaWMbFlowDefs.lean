/- The plain words on flow networks: arcs, checks, values. No program in sight. No conditions. -/
set_option linter.all false
namespace Go.Flow
structure Arc where
  f : Int
  t : Int
  c : Int
  deriving DecidableEq, Inhabited
def okArc (n : Int) (a : Arc) : Bool := decide (0 ≤ a.f ∧ a.f < n ∧ 0 ≤ a.t ∧ a.t < n ∧ a.f ≠ a.t ∧ 0 ≤ a.c ∧ a.c ≤ 1099511627776)
def chk (n : Int) (l : List Arc) : Int := if n < 0 then 2 else if 2000 < n ∨ 20000 < l.length then 4 else if l.all (okArc n) then 0 else 2
def okEnds (n s t : Int) : Bool := decide (0 ≤ s ∧ s < n ∧ 0 ≤ t ∧ t < n ∧ s ≠ t)
theorem okArc_iff {n : Int} {a : Arc} : okArc n a = true ↔ (0 ≤ a.f ∧ a.f < n ∧ 0 ≤ a.t ∧ a.t < n ∧ a.f ≠ a.t ∧ 0 ≤ a.c ∧ a.c ≤ 1099511627776) := by unfold okArc; rw [decide_eq_true_eq]
theorem okEnds_iff {n s t : Int} : okEnds n s t = true ↔ (0 ≤ s ∧ s < n ∧ 0 ≤ t ∧ t < n ∧ s ≠ t) := by unfold okEnds; rw [decide_eq_true_eq]
theorem chk_ok {n : Int} {l : List Arc} (h : chk n l = 0) : 0 ≤ n ∧ n ≤ 2000 ∧ l.length ≤ 20000 ∧ ∀ a ∈ l, okArc n a = true := by
  unfold chk at h
  split at h
  · simp at h
  · split at h
    · simp at h
    · split at h
      · rename_i h3
        rw [List.all_eq_true] at h3
        exact ⟨by omega, by omega, by omega, h3⟩
      · simp at h
/-- what leaves a vertex, less what enters it -/
def fval (v : Int) : List Arc → List Int → Int
  | a :: l, x :: fl => ((if a.f = v then x else 0) - (if a.t = v then x else 0)) + fval v l fl
  | _, _ => 0
theorem fval_snoc (v : Int) (a : Arc) (x : Int) : ∀ (l : List Arc) (fl : List Int), l.length = fl.length → fval v (l ++ [a]) (fl ++ [x]) = fval v l fl + ((if a.f = v then x else 0) - (if a.t = v then x else 0))
  | [], [], _ => by simp [fval]
  | b :: l, y :: fl, h => by
    simp only [List.cons_append, fval]
    rw [fval_snoc v a x l fl (by simpa using h)]
    omega
def small (fl : List Int) : Prop := ∀ x ∈ fl, -1099511627776 ≤ x ∧ x ≤ 1099511627776
theorem fval_bd (v : Int) : ∀ (l : List Arc) (fl : List Int), small fl → -(1099511627776 * (2 * fl.length)) ≤ fval v l fl ∧ fval v l fl ≤ 1099511627776 * (2 * fl.length)
  | [], [], _ => by simp [fval]
  | [], _ :: _, _ => by simp [fval]; omega
  | _ :: _, [], _ => by simp [fval]
  | a :: l, x :: fl, h => by
    have ih := fval_bd v l fl (fun y hy => h y (by simp [hy]))
    have hx := h x (by simp)
    simp only [fval, List.length_cons]
    split <;> split <;> omega
theorem small_take {fl : List Int} (h : small fl) (k : Nat) : small (fl.take k) := fun x hx => h x (List.mem_of_mem_take hx)
theorem take_snoc' {α : Type} {l : List α} {k : Nat} (h : k < l.length) : l.take (k + 1) = l.take k ++ [l[k]] := List.take_succ_eq_append_getElem h
/-- of all vertices -/
def netL (n : Nat) (l : List Arc) (fl : List Int) : List Int := (List.range n).map (fun (v : Nat) => fval (v : Int) l fl)
theorem netL_len (n : Nat) (l : List Arc) (fl : List Int) : (netL n l fl).length = n := by simp [netL]
theorem netL_get {n : Nat} {l : List Arc} {fl : List Int} {v : Nat} (h : v < n) : (netL n l fl).getD v 0 = fval (v : Int) l fl := by simp [netL, h]
theorem netL_nil (n : Nat) : netL n [] [] = List.replicate n 0 := by
  apply List.ext_getElem
  · simp [netL]
  · intro i h1 h2; simp [netL, fval]
def negL (l : List Int) : List Int := l.map (fun x => -x)
theorem negL_len (l : List Int) : (negL l).length = l.length := by simp [negL]
theorem negL_get {l : List Int} {v : Nat} (h : v < l.length) : (negL l).getD v 0 = -(l.getD v 0) := by simp [negL, h]
theorem netL_snoc {n : Nat} {l : List Arc} {fl : List Int} {a : Arc} {x : Int} {f t : Nat} (hl : l.length = fl.length) (hf : a.f = f) (ht : a.t = t) (hne : f ≠ t) :
    netL n (l ++ [a]) (fl ++ [x]) = ((netL n l fl).set f (fval f l fl + x)).set t (fval t l fl - x) := by
  apply List.ext_getElem
  · simp [netL]
  · intro i h1 h2
    simp only [netL, List.length_map, List.length_range] at h1
    have e : (netL n (l ++ [a]) (fl ++ [x]))[i]'(by simp [netL]; exact h1) = fval (i : Int) l fl + ((if a.f = (i : Int) then x else 0) - (if a.t = (i : Int) then x else 0)) := by
      simp only [netL, List.getElem_map, List.getElem_range]; exact fval_snoc _ a x l fl hl
    rw [e, hf, ht]
    simp only [List.getElem_set]
    by_cases c1 : t = i
    · subst c1
      rw [if_pos rfl, if_neg (by omega), if_pos rfl]; omega
    · rw [if_neg c1]
      by_cases c2 : f = i
      · subst c2
        rw [if_pos rfl, if_pos rfl, if_neg (by omega)]; omega
      · rw [if_neg c2, if_neg (by omega), if_neg (by omega)]
        simp [netL]
theorem negL_set (l : List Int) (i : Nat) (x : Int) : negL (l.set i x) = (negL l).set i (-x) := by simp [negL, List.map_set]
/-- each number from 0 to the capacity -/
def inCap : List Arc → List Int → Bool
  | a :: l, x :: fl => decide (0 ≤ x ∧ x ≤ a.c) && inCap l fl
  | _, _ => true
theorem inCap_snoc (a : Arc) (x : Int) : ∀ (l : List Arc) (fl : List Int), l.length = fl.length → inCap (l ++ [a]) (fl ++ [x]) = (inCap l fl && decide (0 ≤ x ∧ x ≤ a.c))
  | [], [], _ => by simp [inCap]
  | b :: l, y :: fl, h => by
    simp only [List.cons_append, inCap]
    rw [inCap_snoc a x l fl (by simpa using h), Bool.and_assoc]
theorem inCap_get : ∀ (l : List Arc) (fl : List Int), inCap l fl = true → ∀ (i : Nat) (a : Arc) (x : Int), l[i]? = some a → fl[i]? = some x → 0 ≤ x ∧ x ≤ a.c
  | [], _, _, i, a, x, h1, _ => by simp at h1
  | _ :: _, [], _, i, a, x, _, h2 => by simp at h2
  | b :: l, y :: fl, h, i, a, x, h1, h2 => by
    simp only [inCap, Bool.and_eq_true, decide_eq_true_eq] at h
    cases i with
    | zero => simp at h1 h2; subst h1; subst h2; exact h.1
    | succ i => simp at h1 h2; exact inCap_get l fl h.2 i a x h1 h2
theorem inCap_small {n : Int} : ∀ (l : List Arc) (fl : List Int), l.length = fl.length → inCap l fl = true → (∀ a ∈ l, okArc n a = true) → small fl
  | [], [], _, _, _ => fun x hx => by simp at hx
  | a :: l, y :: fl, hl, h, hok => fun x hx => by
    simp only [inCap, Bool.and_eq_true, decide_eq_true_eq] at h
    have ha := okArc_iff.1 (hok a (by simp))
    simp at hx
    rcases hx with rfl | hx
    · omega
    · exact inCap_small l fl (by simpa using hl) h.2 (fun b hb => hok b (by simp [hb])) x hx
/-- balanced but at s and t -/
def balanced (n : Nat) (l : List Arc) (fl : List Int) (s t : Int) : Bool := (List.range n).all (fun (v : Nat) => decide ((v : Int) = s ∨ (v : Int) = t ∨ fval (v : Int) l fl = 0))
def valueSpec (n : Int) (l : List Arc) (fl : List Int) (s t : Int) : Int × Int :=
  if chk n l ≠ 0 then (0, chk n l) else if okEnds n s t = false then (0, 2) else if fl.length ≠ l.length then (0, 10) else if inCap l fl = false then (0, 2)
  else if balanced n.toNat l fl s t = false then (0, 24) else (fval s l fl, 0)
/-- the capacity of the arcs that leave a set -/
def capOf (p : Nat → Bool) : List Arc → Int
  | [] => 0
  | a :: l => (if p a.f.toNat = true ∧ p a.t.toNat = false then a.c else 0) + capOf p l
theorem capOf_snoc (p : Nat → Bool) (a : Arc) : ∀ l : List Arc, capOf p (l ++ [a]) = capOf p l + (if p a.f.toNat = true ∧ p a.t.toNat = false then a.c else 0)
  | [] => by simp [capOf]
  | b :: l => by simp only [List.cons_append, capOf]; rw [capOf_snoc p a l]; omega
theorem capOf_bd (n : Int) (p : Nat → Bool) : ∀ l : List Arc, (∀ a ∈ l, okArc n a = true) → 0 ≤ capOf p l ∧ capOf p l ≤ 1099511627776 * l.length
  | [], _ => by simp [capOf]
  | a :: l, h => by
    have ih := capOf_bd n p l (fun b hb => h b (by simp [hb]))
    have ha := okArc_iff.1 (h a (by simp))
    simp only [capOf, List.length_cons]
    split <;> omega
/-- why a list is no cut -/
def sideChk (n : Int) : Option Int → List Int → Int
  | _, [] => 0
  | prev, v :: r => if v < 0 ∨ n ≤ v then 2 else if (match prev with | some p => decide (v ≤ p) | none => false) = true then 9 else sideChk n (some v) r
def prevAt (l : List Int) (k : Nat) : Option Int := match k with
  | 0 => none
  | k + 1 => l[k]?
def capacitySpec (n : Int) (l : List Arc) (side : List Int) : Int × Int :=
  if chk n l ≠ 0 then (0, chk n l) else if sideChk n none side ≠ 0 then (0, sideChk n none side) else (capOf (fun j => decide ((j : Int) ∈ side)) l, 0)
theorem sideChk_step {n : Int} {side : List Int} {k : Nat} (h : k < side.length) (h1 : 0 ≤ side[k]) (h2 : side[k] < n) (h3 : ∀ p, prevAt side k = some p → p < side[k]) :
    sideChk n (prevAt side k) (side.drop k) = sideChk n (prevAt side (k + 1)) (side.drop (k + 1)) := by
  rw [List.drop_eq_getElem_cons h]
  simp only [sideChk]
  rw [if_neg (by omega), if_neg]
  · simp [prevAt, h]
  · cases hp : prevAt side k with
    | none => simp
    | some p => have := h3 p hp; simp; omega
theorem sideChk_two {n : Int} {side : List Int} {k : Nat} (p : Option Int) (h : k < side.length) (h1 : side[k] < 0 ∨ n ≤ side[k]) : sideChk n p (side.drop k) = 2 := by
  rw [List.drop_eq_getElem_cons h]
  simp only [sideChk]
  rw [if_pos h1]
theorem sideChk_nine {n : Int} {side : List Int} {k : Nat} {p : Int} (h : k < side.length) (h1 : 0 ≤ side[k]) (h2 : side[k] < n) (hp : prevAt side k = some p) (h3 : side[k] ≤ p) : sideChk n (prevAt side k) (side.drop k) = 9 := by
  rw [List.drop_eq_getElem_cons h]
  simp only [sideChk]
  rw [if_neg (by omega), if_pos (by rw [hp]; simp [h3])]
/-- the marks of a list -/
def marksOf (n : Nat) (side : List Int) : List Bool := (List.range n).map (fun (j : Nat) => decide ((j : Int) ∈ side))
theorem marksOf_len (n : Nat) (side : List Int) : (marksOf n side).length = n := by simp [marksOf]
theorem marksOf_get {n : Nat} {side : List Int} {j : Nat} (h : j < n) : (marksOf n side)[j]? = some (decide ((j : Int) ∈ side)) := by simp [marksOf, h]
theorem marksOf_nil (n : Nat) : marksOf n [] = List.replicate n false := by
  apply List.ext_getElem
  · simp [marksOf]
  · intro i h1 h2; simp [marksOf]
theorem marksOf_snoc {n : Nat} {side : List Int} {v : Nat} : marksOf n (side ++ [(v : Int)]) = (marksOf n side).set v true := by
  apply List.ext_getElem
  · simp [marksOf]
  · intro i h1 h2
    simp only [List.getElem_set]
    by_cases e : v = i
    · subst e; simp [marksOf]
    · rw [if_neg e]
      have : ¬ (i : Int) = (v : Int) := by omega
      simp [marksOf, this]
end Go.Flow
