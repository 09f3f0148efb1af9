/- What Paths hands back. No program in sight. No conditions. -/
import Derived.Test.YtoccdekghjoldaaWMbBd
set_option linter.all false
namespace Go.Flow
def PathsOK (n : Int) (l : List Arc) (fl : List Int) (s t : Int) (ps : List (List Lk × Int)) (e : Int) : Prop :=
  ((valueSpec n l fl s t).2 ≠ 0 ∧ e = (valueSpec n l fl s t).2 ∧ ps = []) ∨
  ((valueSpec n l fl s t).2 = 0 ∧ e = 0 ∧ ∃ r, RunP n.toNat l s.toNat t.toNat fl ps r)
theorem value_good {n s t : Int} {l : List Arc} {fl : List Int} (h : (valueSpec n l fl s t).2 = 0) : ∃ n' s' t' : Nat, Good n l s t n' s' t' ∧ Flw n' l s' t' fl ∧ (valueSpec n l fl s t).1 = fval s l fl := by
  obtain ⟨n', s', t', g, hF, hv⟩ := value_flw (F := fl) (v := (valueSpec n l fl s t).1) (by rw [← h])
  exact ⟨n', s', t', g, hF, hv⟩
theorem PathsOK.uniq {n s t e f : Int} {l : List Arc} {fl : List Int} {ps qs : List (List Lk × Int)} (h1 : PathsOK n l fl s t ps e) (h2 : PathsOK n l fl s t qs f) : ps = qs ∧ e = f := by
  rcases h1 with ⟨a1, a2, a3⟩ | ⟨a1, a2, r1, a3⟩ <;> rcases h2 with ⟨b1, b2, b3⟩ | ⟨b1, b2, r2, b3⟩
  · exact ⟨by rw [a3, b3], by rw [a2, b2]⟩
  · exact absurd b1 a1
  · exact absurd a1 b1
  · obtain ⟨n', s', t', g, _, _⟩ := value_good a1
    obtain ⟨rfl, rfl, rfl⟩ := And.intro g.en (And.intro g.es g.et)
    simp only [Int.toNat_natCast] at a3 b3
    exact ⟨(a3.uniq g.ok b3).1, by rw [a2, b2]⟩
/-- the sum of rooms; the number of paths is bounded by it -/
def roomSum (ps : List (List Lk × Int)) : Int := ps.foldr (fun p s => p.2 + s) 0
/-- what is known of the paths of a run, one by one -/
theorem RunP.cons {n s t : Nat} {l : List Arc} {fl r : List Int} {p : List Lk × Int} {ps : List (List Lk × Int)} (h : RunP n l s t fl (p :: ps) r) :
    ∃ D, IsDist n t (pE l fl) D ∧ 0 ≤ D.getD s 0 ∧ p.1 = pP l fl D s ∧ p.2 = pRoom l fl D s ∧ RunP n l s t (pNext l fl D s) ps r := by
  cases h with
  | step hD h0 hr => exact ⟨_, hD, h0, rfl, rfl, hr⟩
theorem RunP.nil {n s t : Nat} {l : List Arc} {fl r : List Int} (h : RunP n l s t fl [] r) : r = fl ∧ ∃ D, IsDist n t (pE l fl) D ∧ D.getD s 0 < 0 := by
  cases h with
  | done hD hn => exact ⟨rfl, _, hD, hn⟩
theorem pNext_le {n s t : Nat} {l : List Arc} (hok : ∀ a ∈ l, okArc n a = true) (hs : s < n) (hst : s ≠ t) {fl D : List Int} (hf : Flw n l s t fl) (hD : IsDist n t (pE l fl) D) (h0 : 0 ≤ D.getD s 0) (i : Nat) : (subAll (pRoom l fl D s) fl ((pP l fl D s).take i)).length = l.length := by
  rw [subAll_len]; exact hf.len.symm
end Go.Flow
namespace Go.Flow
/-! ### each path uses up an arc -/
def npos (l : List Int) : Nat := l.countP (fun x => decide (0 < x))
theorem npos_le : ∀ (a b : List Int), a.length = b.length → (∀ k : Nat, b.getD k 0 ≤ a.getD k 0) → npos b ≤ npos a
  | [], [], _, _ => Nat.le_refl _
  | x :: a, y :: b, hl, h => by
    have ih := npos_le a b (by simpa using hl) (fun k => by simpa using h (k + 1))
    have h0 := h 0
    simp only [List.getD_cons_zero] at h0
    unfold npos at ih ⊢
    simp only [List.countP_cons]
    by_cases h1 : 0 < y
    · rw [if_pos (by simpa using h1), if_pos (by simp; omega)]; omega
    · rw [if_neg (by simpa using h1)]; omega
theorem npos_lt : ∀ (a b : List Int), a.length = b.length → (∀ k : Nat, b.getD k 0 ≤ a.getD k 0) → ∀ j : Nat, 0 < a.getD j 0 → b.getD j 0 ≤ 0 → npos b + 1 ≤ npos a
  | [], [], _, _, j, h1, _ => by simp at h1
  | x :: a, y :: b, hl, h, 0, h1, h2 => by
    have ih := npos_le a b (by simpa using hl) (fun k => by simpa using h (k + 1))
    simp only [List.getD_cons_zero] at h1 h2
    unfold npos at ih ⊢
    simp only [List.countP_cons]
    rw [if_neg (by simp; omega), if_pos (by simpa using h1)]; omega
  | x :: a, y :: b, hl, h, j + 1, h1, h2 => by
    have ih := npos_lt a b (by simpa using hl) (fun k => by simpa using h (k + 1)) j (by simpa using h1) (by simpa using h2)
    have h0 := h 0
    simp only [List.getD_cons_zero] at h0
    unfold npos at ih ⊢
    simp only [List.countP_cons]
    by_cases h3 : 0 < y
    · rw [if_pos (by simpa using h3), if_pos (by simp; omega)]; omega
    · rw [if_neg (by simpa using h3)]; omega
theorem subP_le {room : Int} (h0 : 0 ≤ room) (rest : List Int) (x : Lk) (k : Nat) : (subP room rest x).getD k 0 ≤ rest.getD k 0 := by
  unfold subP
  by_cases e : x.k = k
  · subst e
    by_cases hl : x.k < rest.length
    · rw [getD_set hl, if_pos rfl]; omega
    · rw [List.set_eq_of_length_le (by omega)]; exact Int.le_refl _
  · rw [getD_set' e]; exact Int.le_refl _
theorem subAll_le {room : Int} (h0 : 0 ≤ room) : ∀ (p : List Lk) (rest : List Int) (k : Nat), (subAll room rest p).getD k 0 ≤ rest.getD k 0
  | [], rest, k => Int.le_refl _
  | x :: p, rest, k => Int.le_trans (subAll_le h0 p (subP room rest x) k) (subP_le h0 rest x k)
theorem subAll_used {room : Int} (h0 : 0 ≤ room) : ∀ (p : List Lk) (rest : List Int) (x : Lk), x ∈ p → x.k < rest.length → (subAll room rest p).getD x.k 0 ≤ rest.getD x.k 0 - room
  | [], rest, x, hx, _ => by simp at hx
  | y :: p, rest, x, hx, hl => by
    simp at hx
    rcases hx with rfl | hx
    · refine Int.le_trans (subAll_le h0 p (subP room rest x) x.k) ?_
      unfold subP
      rw [getD_set hl, if_pos rfl]; exact Int.le_refl _
    · have := subAll_used h0 p (subP room rest y) x hx (by rw [subP_len]; exact hl)
      have := subP_le h0 rest y x.k
      show (subAll room (subP room rest y) p).getD x.k 0 ≤ _
      omega
theorem least_attained (rm : Nat → Int) : ∀ (p : List Lk) (m : Int), p.foldl (fun m x => min m (rm x.k)) m = m ∨ ∃ x ∈ p, rm x.k = p.foldl (fun m x => min m (rm x.k)) m
  | [], m => .inl rfl
  | y :: p, m => by
    simp only [List.foldl_cons]
    rcases least_attained rm p (min m (rm y.k)) with h | ⟨x, hx, h⟩
    · rw [h]
      by_cases hc : m ≤ rm y.k
      · left; omega
      · right; exact ⟨y, by simp, by omega⟩
    · right; exact ⟨x, by simp [hx], h⟩
theorem pNext_pos {n s t : Nat} {l : List Arc} (hok : ∀ a ∈ l, okArc n a = true) (hs : s < n) (hst : s ≠ t) {fl D : List Int} (hf : Flw n l s t fl) (hD : IsDist n t (pE l fl) D) (h0 : 0 ≤ D.getD s 0) : npos (pNext l fl D s) + 1 ≤ npos fl := by
  obtain ⟨k, hk⟩ := Int.eq_ofNat_of_zero_le h0
  have hch := path_chn (pl_lt hok) hD k s hs hk
  have hlen : (pP l fl D s).length = k := path_len (pl_lt hok) hD k s hs hk
  have hpos := (pNext_ok hok hs hst hf hD h0).2.1
  have hk0 : k ≠ 0 := fun e => by
    subst e
    exact hst (hD.zero s hs (by omega))
  have hatt : ∃ x ∈ pP l fl D s, rmP fl x.k = pRoom l fl D s := by
    rcases least_attained (rmP fl) (pP l fl D s) 1099511627776 with h | h
    · have hne : pP l fl D s ≠ [] := fun e => by rw [e] at hlen; simp at hlen; omega
      obtain ⟨x, p, hxp⟩ := List.exists_cons_of_ne_nil hne
      refine ⟨x, by rw [hxp]; simp, ?_⟩
      have hle := (leastR_le (rmP fl) (pP l fl D s) 1099511627776).2 x (by rw [hxp]; simp)
      have hxP : x ∈ pP l fl D s := by rw [hxp]; simp
      have hxm := (hch.all x hxP).1.1
      obtain ⟨j, a, ha, rfl⟩ := plinks_iff.1 hxm
      have hjl : j < l.length := (List.getElem?_eq_some_iff.1 ha).1
      have hfj : fl[j]? = some (fl.getD j 0) := by have := hf.len; simp [List.getD_eq_getElem?_getD, show j < fl.length by omega]
      have hin := inCap_get l fl hf.cap j a _ ha hfj
      have hka := okArc_iff.1 (hok a (List.mem_of_getElem? ha))
      show fl.getD j 0 = _
      have h9 : pRoom l fl D s = 1099511627776 := h
      have h10 : pRoom l fl D s ≤ fl.getD j 0 := hle
      omega
    · exact h
  obtain ⟨x, hx, hxr⟩ := hatt
  have hxk : x.k < fl.length := by rw [← hf.len]; exact pl_k (hch.all x hx).1.1
  refine npos_lt fl _ (by rw [subAll_len]) (fun k => subAll_le (Int.le_of_lt hpos) _ _ k) x.k ?_ ?_
  · have h2 : fl.getD x.k 0 = pRoom l fl D s := hxr
    rw [h2]; exact hpos
  · have h1 := subAll_used (Int.le_of_lt hpos) (pP l fl D s) fl x hx hxk
    have h2 : fl.getD x.k 0 = pRoom l fl D s := hxr
    rw [h2, Int.sub_self] at h1
    exact h1
theorem npos_len (l : List Int) : npos l ≤ l.length := List.countP_le_length
end Go.Flow
namespace Go.Flow
theorem RunP.small {n s t : Nat} {l : List Arc} (hok : ∀ a ∈ l, okArc n a = true) (hs : s < n) (ht : t < n) (hst : s ≠ t) {fl r : List Int} {ps : List (List Lk × Int)} (h : RunP n l s t fl ps r) : Flw n l s t fl → ps.length ≤ npos fl ∧ ∀ p ∈ ps, p.1.length ≤ n := by
  induction h with
  | done => intro _; simp
  | @step fl D r ps hD h0 _ ih =>
    intro hf
    obtain ⟨hN1, _, _⟩ := pNext_ok hok hs hst hf hD h0
    have hp := pNext_pos hok hs hst hf hD h0
    obtain ⟨i1, i2⟩ := ih hN1
    refine ⟨by simp only [List.length_cons]; omega, fun p hp => ?_⟩
    simp at hp
    rcases hp with rfl | hp
    · obtain ⟨k, hk⟩ := Int.eq_ofNat_of_zero_le h0
      have h3 : (pP l fl D s).length = k := path_len (pl_lt hok) hD k s hs hk
      have h2 := hD.lt (fun x hx => pl_lt hok x hx.1) ht hs
      dsimp only
      omega
    · exact i2 p hp
theorem paths_small {n s t e : Int} {l : List Arc} {fl : List Int} {ps : List (List Lk × Int)} (h : PathsOK n l fl s t ps e) : ps.length ≤ 20000 ∧ ∀ p ∈ ps, p.1.length ≤ 2000 := by
  rcases h with ⟨_, _, rfl⟩ | ⟨a1, _, r, a3⟩
  · simp
  · obtain ⟨n', s', t', g, hF, _⟩ := value_good a1
    obtain ⟨rfl, rfl, rfl⟩ := And.intro g.en (And.intro g.es g.et)
    simp only [Int.toNat_natCast] at a3
    obtain ⟨h1, h2⟩ := a3.small g.ok g.sn g.tn g.ne hF
    have := npos_len fl
    have := hF.len
    have := g.l2
    have := g.n2
    exact ⟨by omega, fun p hp => by have := h2 p hp; omega⟩
end Go.Flow
