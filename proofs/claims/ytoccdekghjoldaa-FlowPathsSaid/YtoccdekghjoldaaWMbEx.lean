/- The example of the chapter; the laws on maximum flows, cuts and paths, in plain words. No program in sight. No conditions. -/
import Derived.Test.YtoccdekghjoldaaWMbLevel
set_option linter.all false
namespace Go.Flow
/-- a test for distances -/
def distB (n t : Nat) (ls : List Lk) (rm : Nat → Int) (D : List Int) : Bool :=
  decide (D.length = n) && (List.range n).all (fun v => decide (-1 ≤ D.getD v 0) && (!(decide (D.getD v 0 = 0)) || decide (v = t)) && (!(decide (0 < D.getD v 0)) || ls.any (fun x => decide (0 < rm x.k) && decide (x.f = v) && decide (D.getD x.t 0 = D.getD v 0 - 1))))
    && decide (D.getD t 0 = 0) && ls.all (fun x => !(decide (0 < rm x.k)) || !(decide (0 ≤ D.getD x.t 0)) || (decide (0 ≤ D.getD x.f 0) && decide (D.getD x.f 0 ≤ D.getD x.t 0 + 1)))
theorem distB_ok {n t : Nat} {ls : List Lk} {rm : Nat → Int} {D : List Int} (h : distB n t ls rm D = true) : IsDist n t (opn ls rm) D := by
  unfold distB at h
  simp only [Bool.and_eq_true, decide_eq_true_eq, List.all_eq_true, List.mem_range, Bool.or_eq_true, Bool.not_eq_true', decide_eq_false_iff_not, List.any_eq_true] at h
  obtain ⟨⟨⟨h1, h2⟩, h3⟩, h4⟩ := h
  refine ⟨h1, fun v hv => (h2 v hv).1.1, h3, fun v hv h0 => ?_, fun x hx h0 => ?_, fun v hv h0 => ?_⟩
  · rcases (h2 v hv).1.2 with h | h
    · exact absurd h0 h
    · exact h
  · rcases h4 x hx.1 with (h | h) | h
    · exact absurd hx.2 h
    · exact absurd h0 h
    · exact h
  · rcases (h2 v hv).2 with h | ⟨x, hx, h⟩
    · exact absurd h0 h
    · exact ⟨x, ⟨hx, h.1.1⟩, h.1.2, h.2⟩
def exL : List Arc := [⟨0, 1, 3⟩, ⟨0, 2, 2⟩, ⟨1, 2, 5⟩, ⟨1, 3, 2⟩, ⟨2, 3, 3⟩]
theorem ex_run : RunR 4 exL 0 3 [0, 0, 0, 0, 0] [3, 2, 1, 2, 3] := by
  refine .step (D := [2, 1, 1, 0]) (distB_ok (by decide)) (by decide) ?_
  rw [show rNext exL [0, 0, 0, 0, 0] [2, 1, 1, 0] 0 = [2, 0, 0, 2, 0] from by decide]
  refine .step (D := [2, 2, 1, 0]) (distB_ok (by decide)) (by decide) ?_
  rw [show rNext exL [2, 0, 0, 2, 0] [2, 2, 1, 0] 0 = [2, 2, 0, 2, 2] from by decide]
  refine .step (D := [3, 2, 1, 0]) (distB_ok (by decide)) (by decide) ?_
  rw [show rNext exL [2, 2, 0, 2, 2] [3, 2, 1, 0] 0 = [3, 2, 1, 2, 3] from by decide]
  exact .done (D := [-1, -1, -1, 0]) (distB_ok (by decide)) (by decide)
theorem ex_max : MaxOK 4 exL 0 3 [3, 2, 1, 2, 3] 5 0 := .inr ⟨by decide, rfl, ex_run, by decide⟩
theorem reach_alone {n s : Nat} {ls : List Lk} {rm : Nat → Int} {B : List Bool} (hs : ∀ v, bget B v = true ↔ v = s) (h : ls.all (fun x => !(decide (0 < rm x.k)) || !(decide (x.f = s))) = true) : IsReach n (opn ls rm) s (bget B) := by
  intro v hv
  clear hv
  rw [hs]
  constructor
  · rintro rfl; exact .refl
  · intro hr
    induction hr with
    | refl => rfl
    | @step x _ hx ih =>
      simp only [List.all_eq_true, Bool.or_eq_true, Bool.not_eq_true', decide_eq_false_iff_not] at h
      rcases h x hx.1 with h | h
      · exact absurd hx.2 h
      · exact absurd ih h
theorem ex_cut : CutOK 4 exL 0 3 [0] 5 0 := by
  refine .inr ⟨by decide, rfl, [3, 2, 1, 2, 3], [true, false, false, false], ex_run, reach_alone (fun v => ?_) (by decide), by decide, by decide⟩
  match v with
  | 0 => decide
  | 1 => decide
  | 2 => decide
  | 3 => decide
  | v + 4 => simp [bget]
/-! ### the laws -/
section
variable {n s t : Int} {l : List Arc}
theorem flw_value {n' s' t' : Nat} {F : List Int} (g : Good n l s t n' s' t') (hF : Flw n' l s' t' F) : valueSpec n l F s t = (fval s l F, 0) := by
  obtain ⟨rfl, rfl, rfl⟩ := And.intro g.en (And.intro g.es g.et)
  unfold valueSpec
  rw [if_neg (by rw [g.chk]; simp), if_neg (by rw [g.ends]; simp), if_neg (by simp [hF.len]), if_neg (by rw [hF.cap]; simp), if_neg]
  rw [Bool.not_eq_false]
  unfold balanced
  rw [List.all_eq_true]
  intro v hv
  rw [decide_eq_true_eq]
  have hv' : v < n' := by simpa using hv
  by_cases h1 : v = s'
  · left; rw [h1]
  · by_cases h2 : v = t'
    · right; left; rw [h2]
    · right; right; exact hF.bal v hv' h1 h2
theorem value_flw {F : List Int} {v : Int} (h : valueSpec n l F s t = (v, 0)) : ∃ n' s' t' : Nat, Good n l s t n' s' t' ∧ Flw n' l s' t' F ∧ v = fval s l F := by
  unfold valueSpec at h
  split at h
  · rename_i h1; simp only [Prod.mk.injEq] at h; exact absurd h.2 h1
  · rename_i h1
    split at h
    · simp at h
    · rename_i h2
      split at h
      · simp at h
      · rename_i h3
        split at h
        · simp at h
        · rename_i h4
          split at h
          · simp at h
          · rename_i h5
            simp only [Prod.mk.injEq, and_true] at h
            have hm : maxErr n l s t = 0 := by
              unfold maxErr
              rw [if_neg h1, if_pos (by simpa using h2)]
            obtain ⟨n', s', t', g⟩ := maxErr_good hm
            obtain ⟨rfl, rfl, rfl⟩ := And.intro g.en (And.intro g.es g.et)
            refine ⟨n', s', t', g, ⟨by omega, by simpa using h4, fun v hv g1 g2 => ?_⟩, h.symm⟩
            simp only [Bool.not_eq_false] at h5
            unfold balanced at h5
            rw [List.all_eq_true] at h5
            have := h5 v (by simpa using hv)
            rw [decide_eq_true_eq] at this
            rcases this with h | h | h
            · exact absurd (by omega) g1
            · exact absurd (by omega) g2
            · exact h
theorem side_chk (B : List Bool) (n : Nat) : ∀ (k : Nat), k ≤ n → ∀ (r : List Int) (p : Option Int), (∀ q, p = some q → ∃ m : Nat, q = m ∧ m < k) → sideChk n p (((List.range' k (n - k)).filter (fun v => bget B v)).map (fun (v : Nat) => (v : Int))) = 0 := by
  intro k hk r p hp
  generalize hd : n - k = d
  induction d generalizing k p with
  | zero => simp [sideChk]
  | succ d ih =>
    rw [List.range'_succ, List.filter_cons]
    split
    · simp only [List.map_cons, sideChk]
      rw [if_neg (by omega), if_neg]
      · exact ih (k + 1) (by omega) _ (fun q hq => ⟨k, by simpa using hq.symm, by omega⟩) (by omega)
      · cases p with
        | none => simp
        | some q =>
          obtain ⟨m, rfl, hm⟩ := hp q rfl
          simp; omega
    · exact ih (k + 1) (by omega) _ (fun q hq => by obtain ⟨m, h1, h2⟩ := hp q hq; exact ⟨m, h1, by omega⟩) (by omega)
theorem sideOf_chk (B : List Bool) (n : Nat) : sideChk n none (sideOf B n) = 0 := by
  have := side_chk B n 0 (by omega) [] none (by simp)
  rw [Nat.sub_zero, ← List.range_eq_range'] at this
  exact this
theorem side_capacity {n' s' t' : Nat} {B : List Bool} (g : Good n l s t n' s' t') (hB : B.length = n' ∨ True) : capacitySpec n l (sideOf B n') = (capOf (bget B) l, 0) := by
  obtain ⟨rfl, rfl, rfl⟩ := And.intro g.en (And.intro g.es g.et)
  unfold capacitySpec
  rw [if_neg (by rw [g.chk]; simp), if_neg (by rw [sideOf_chk]; simp)]
  congr 1
  apply capOf_congr (n := n') _ l g.ok
  intro v hv
  cases hb : bget B v with
  | true => rw [decide_eq_true (mem_sideOf.2 ⟨v, rfl, hv, hb⟩)]
  | false =>
    apply decide_eq_false
    intro hm
    obtain ⟨u, h1, _, h3⟩ := mem_sideOf.1 hm
    have : u = v := by omega
    subst this
    rw [hb] at h3; simp at h3
/-- Duality, where there is no error -/
theorem law_dual {F side : List Int} {m c : Int} (h1 : MaxOK n l s t F m 0) (h2 : CutOK n l s t side c 0) :
    valueSpec n l F s t = (m, 0) ∧ capacitySpec n l side = (c, 0) ∧ m = c ∧ 0 ≤ m ∧ s ∈ side ∧ t ∉ side := by
  rcases h1 with ⟨a1, a2, _⟩ | ⟨a1, _, a3, a4⟩
  · exact absurd a2.symm a1
  rcases h2 with ⟨b1, b2, _⟩ | ⟨_, _, F2, B, r2, i2, d2, c2⟩
  · exact absurd b2.symm b1
  obtain ⟨n', s', t', g⟩ := maxErr_good a1
  have g' := g
  obtain ⟨rfl, rfl, rfl⟩ := And.intro g.en (And.intro g.es g.et)
  simp only [Int.toNat_natCast] at *
  have e := a3.uniq g.ok r2
  subst e
  obtain ⟨hF, k1, k2, k3⟩ := run_cut g.ok g.sn g.tn g.ne a3 i2
  refine ⟨by rw [flw_value g' hF, a4], by rw [d2, side_capacity g' (.inr trivial), c2], by rw [a4, c2, k3], ?_, ?_, ?_⟩
  · rw [a4, k3]; exact (capOf_bd n' _ l g.ok).1
  · rw [d2]; exact mem_sideOf.2 ⟨s', rfl, g.sn, k1⟩
  · rw [d2]
    intro hm
    obtain ⟨u, h1, _, h3⟩ := mem_sideOf.1 hm
    have : u = t' := by omega
    subst this
    rw [k2] at h3; simp at h3
theorem capacity_cut {side : List Int} {c : Int} (h : capacitySpec n l side = (c, 0)) : c = capOf (fun j => decide ((j : Int) ∈ side)) l := by
  unfold capacitySpec at h
  split at h
  · rename_i h1; simp only [Prod.mk.injEq] at h; exact absurd h.2 h1
  · split at h
    · rename_i h1; simp only [Prod.mk.injEq] at h; exact absurd h.2 h1
    · simp only [Prod.mk.injEq, and_true] at h; exact h.symm
/-- Bounds -/
theorem law_bounds1 {F G : List Int} {v m e : Int} (h1 : valueSpec n l G s t = (v, 0)) (h2 : MaxOK n l s t F m e) : e = 0 ∧ v ≤ m := by
  obtain ⟨n', s', t', g, hG, rfl⟩ := value_flw h1
  have hme : maxErr n l s t = 0 := by unfold maxErr; rw [if_neg (by rw [g.chk]; simp), if_pos g.ends]
  rcases h2 with ⟨a1, _⟩ | ⟨_, a2, a3, a4⟩
  · exact absurd hme a1
  refine ⟨a2, ?_⟩
  obtain ⟨rfl, rfl, rfl⟩ := And.intro g.en (And.intro g.es g.et)
  simp only [Int.toNat_natCast] at a3
  rw [a4]
  exact run_max g.ok g.sn g.tn g.ne a3 hG
theorem law_bounds2 {F side : List Int} {m c : Int} (h2 : MaxOK n l s t F m 0) (h3 : capacitySpec n l side = (c, 0)) (hs : s ∈ side) (ht : t ∉ side) : m ≤ c := by
  rcases h2 with ⟨a1, a2, _⟩ | ⟨a1, _, a3, a4⟩
  · exact absurd a2.symm a1
  obtain ⟨n', s', t', g⟩ := maxErr_good a1
  obtain ⟨rfl, rfl, rfl⟩ := And.intro g.en (And.intro g.es g.et)
  simp only [Int.toNat_natCast] at a3
  rw [a4, capacity_cut h3]
  exact (a3.flw g.ok g.sn g.ne (flw_zeros g.ok)).1.le_cap g.ok g.sn (decide_eq_true hs) (decide_eq_false ht)
/-- Least -/
theorem law_least {least side : List Int} {c d : Int} (h1 : CutOK n l s t least c 0) (h3 : capacitySpec n l side = (d, 0)) (hs : s ∈ side) (ht : t ∉ side) : c ≤ d ∧ (c < d ∨ ∀ v ∈ least, v ∈ side) := by
  rcases h1 with ⟨b1, b2, _⟩ | ⟨a1, _, F, B, r2, i2, d2, c2⟩
  · exact absurd b2.symm b1
  obtain ⟨n', s', t', g⟩ := maxErr_good a1
  obtain ⟨rfl, rfl, rfl⟩ := And.intro g.en (And.intro g.es g.et)
  simp only [Int.toNat_natCast] at *
  obtain ⟨hF, k1, k2, k3⟩ := run_cut g.ok g.sn g.tn g.ne r2 i2
  have hd := capacity_cut h3
  have hle := hF.le_cap g.ok g.sn (B := fun j => decide ((j : Int) ∈ side)) (decide_eq_true hs) (decide_eq_false ht)
  rw [← hd, k3, ← c2] at hle
  refine ⟨hle, ?_⟩
  by_cases hlt : c < d
  · exact .inl hlt
  · right
    intro v hv
    rw [d2] at hv
    obtain ⟨u, rfl, hu, hb⟩ := mem_sideOf.1 hv
    have := run_least g.ok g.sn hF (S := fun j => decide ((j : Int) ∈ side)) (decide_eq_true hs) (decide_eq_false ht) (by rw [k3, ← c2, ← hd]; omega) ((i2 u hu).1 hb)
    exact of_decide_eq_true this
/-- Monotone -/
theorem law_raise {i : Nat} {b : Int} {F G : List Int} {m k : Int} (hb : 0 ≤ b) (h1 : MaxOK n l s t F m 0) (h2 : MaxOK n (raise l i b) s t G k 0) : m ≤ k ∧ k ≤ m + b := by
  rcases h1 with ⟨a1, a2, _⟩ | ⟨a1, _, a3, a4⟩
  · exact absurd a2.symm a1
  rcases h2 with ⟨b1, b2, _⟩ | ⟨b1, _, b3, b4⟩
  · exact absurd b2.symm b1
  obtain ⟨n', s', t', g⟩ := maxErr_good a1
  obtain ⟨n2, s2, t2, g2⟩ := maxErr_good b1
  obtain ⟨rfl, rfl, rfl⟩ := And.intro g.en (And.intro g.es g.et)
  have en := g2.en
  have : n2 = n' := by omega
  subst this
  simp only [Int.toNat_natCast] at *
  rw [a4, b4]
  exact max_raise g.ok g2.ok g.sn g.tn g.ne hb a3 b3
/-- Reversed -/
theorem law_turn {F G : List Int} {m k e f : Int} (h1 : MaxOK n l s t F m e) (h2 : MaxOK n (l.map turnA) t s G k f) : e = f ∧ m = k := by
  have he : maxErr n (l.map turnA) t s = maxErr n l s t := by unfold maxErr; rw [chk_turn, okEnds_turn]
  rcases h1 with ⟨a1, a2, _, a4⟩ | ⟨a1, a2, a3, a4⟩
  · rcases h2 with ⟨b1, b2, _, b4⟩ | ⟨b1, _⟩
    · exact ⟨by rw [a2, b2, he], by rw [a4, b4]⟩
    · exact absurd (he ▸ b1) a1
  · rcases h2 with ⟨b1, _⟩ | ⟨b1, b2, b3, b4⟩
    · exact absurd (he ▸ a1) b1
    · obtain ⟨n', s', t', g⟩ := maxErr_good a1
      obtain ⟨rfl, rfl, rfl⟩ := And.intro g.en (And.intro g.es g.et)
      simp only [Int.toNat_natCast] at *
      refine ⟨by rw [a2, b2], ?_⟩
      rw [a4, b4]
      exact max_turn g.ok g.sn g.tn g.ne a3 b3
theorem law_rev {F G : List Int} {m k e f : Int} (h1 : MaxOK n l s t F m e) (h2 : MaxOK n l.reverse s t G k f) : e = f ∧ m = k := by
  have he : maxErr n l.reverse s t = maxErr n l s t := by unfold maxErr; rw [chk_rev]
  rcases h1 with ⟨a1, a2, _, a4⟩ | ⟨a1, a2, a3, a4⟩
  · rcases h2 with ⟨b1, b2, _, b4⟩ | ⟨b1, _⟩
    · exact ⟨by rw [a2, b2, he], by rw [a4, b4]⟩
    · exact absurd (he ▸ b1) a1
  · rcases h2 with ⟨b1, _⟩ | ⟨b1, b2, b3, b4⟩
    · exact absurd (he ▸ a1) b1
    · obtain ⟨n', s', t', g⟩ := maxErr_good a1
      obtain ⟨rfl, rfl, rfl⟩ := And.intro g.en (And.intro g.es g.et)
      simp only [Int.toNat_natCast] at *
      refine ⟨by rw [a2, b2], ?_⟩
      rw [a4, b4]
      exact max_rev g.ok g.sn g.tn g.ne a3 b3
theorem cut_len {side : List Int} {c e : Int} (h : CutOK n l s t side c e) : side.length ≤ 2000 := by
  rcases h with ⟨_, _, rfl, _⟩ | ⟨a1, _, F, B, _, _, rfl, _⟩
  · simp
  · obtain ⟨n', s', t', g⟩ := maxErr_good a1
    obtain ⟨rfl, rfl, rfl⟩ := And.intro g.en (And.intro g.es g.et)
    have := sideOf_len B n'
    have := g.n2
    simp only [Int.toNat_natCast]
    omega
theorem max_len {F : List Int} {c e : Int} (h : MaxOK n l s t F c e) : F.length ≤ l.length := by
  rcases h with ⟨_, _, rfl, _⟩ | ⟨a1, _, a3, _⟩
  · simp
  · obtain ⟨n', s', t', g⟩ := maxErr_good a1
    obtain ⟨rfl, rfl, rfl⟩ := And.intro g.en (And.intro g.es g.et)
    simp only [Int.toNat_natCast] at a3
    have := (a3.flw g.ok g.sn g.ne (flw_zeros g.ok)).1.len
    omega
/-- errors of Max and Cut are the same -/
theorem err_same {F side : List Int} {m c e f : Int} (h1 : MaxOK n l s t F m e) (h2 : CutOK n l s t side c f) : e = f ∧ (e ≠ 0 → F = [] ∧ side = [] ∧ m = 0 ∧ c = 0) := by
  rcases h1 with ⟨a1, a2, a3, a4⟩ | ⟨a1, a2, _⟩
  · rcases h2 with ⟨b1, b2, b3, b4⟩ | ⟨b1, _⟩
    · exact ⟨by rw [a2, b2], fun _ => ⟨a3, b3, a4, b4⟩⟩
    · exact absurd b1 a1
  · rcases h2 with ⟨b1, _⟩ | ⟨_, b2, _⟩
    · exact absurd a1 b1
    · exact ⟨by rw [a2, b2], fun h => absurd a2 h⟩
end
end Go.Flow
