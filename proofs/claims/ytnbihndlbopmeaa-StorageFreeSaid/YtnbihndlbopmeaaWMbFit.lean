/- Holds that fit the quotas. No program in sight. No conditions. -/
import Derived.Test.YtnbihndlbopmeaaWMbNote
set_option linter.all false
namespace Go.Step
theorem cmpI_neg (a b : Int) : cmpI a b = -cmpI b a := by
  unfold cmpI
  by_cases h1 : a < b
  · rw [if_pos h1, if_neg (by omega), if_pos h1]
  · rw [if_neg h1]
    by_cases h2 : b < a
    · rw [if_pos h2, if_pos h2]; rfl
    · rw [if_neg h2, if_neg h2, if_neg h1]; rfl
theorem orI_neg : ∀ l : List Int, orI (l.map (fun x => -x)) = -orI l
  | [] => rfl
  | x :: l => by
    have ih := orI_neg l
    simp only [List.map_cons, orI]
    by_cases h : x = 0
    · subst h; simp [ih]
    · rw [if_pos h, if_pos (by omega)]
theorem cmpHd_neg (x y : Hd) : cmpHd x y = -cmpHd y x := by
  unfold cmpHd
  rw [← orI_neg]
  simp only [List.map_cons, List.map_nil]
  rw [cmpI_neg x.n, cmpI_neg x.a, cmpI_neg x.b, cmpI_neg x.k, cmpI_neg x.s]
def hdE (nq : Nat) (l : List Hd) (i : Nat) : Int := match l[i]? with
  | some h => if ¬ okHd nq h then 2 else if 0 < i ∧ 0 < cmpHd (l.getD (i - 1) h) h then 9 else 0
  | none => 0
theorem hdE_at {nq : Nat} {l : List Hd} {i : Nat} {h : Hd} (e : l[i]? = some h) : hdE nq l i = if ¬ okHd nq h then 2 else if 0 < i ∧ 0 < cmpHd (l.getD (i - 1) h) h then 9 else 0 := by unfold hdE; rw [e]
def fitB (qs : List Int) (l : List Hd) : Bool := l.all (fun h => decide (stored l h.n h.a ≤ qs.getD h.n.toNat 0))
/-- what is wrong with holds -/
def chkH (qs : List Int) (cs : List Ct) (l : List Hd) : Int :=
  if chkPl qs cs ≠ 0 then 1 else if 512 < l.length then 4 else if firstE (hdE qs.length l) l.length ≠ 0 then firstE (hdE qs.length l) l.length else if fitB qs l then 0 else 15
theorem hdE_ok {nq : Nat} {l : List Hd} {m : Nat} (h : firstE (hdE nq l) m = 0) : ∀ x ∈ l.take m, okHd nq x := fun x hx => by
  obtain ⟨i, hi, rfl⟩ := List.getElem_of_mem hx
  rw [List.length_take] at hi
  have h2 := firstE_zero h i (by omega)
  rw [List.getElem_take]
  rw [hdE_at (List.getElem?_eq_getElem (by omega : i < l.length))] at h2
  by_cases hc : okHd nq l[i]
  · exact hc
  · rw [if_pos hc] at h2; omega
theorem mostL_le {f : List Lv} {Q : Int} (hQ : 0 ≤ Q) : mostL f ≤ Q ↔ ∀ x ∈ f, x.v ≤ Q := by
  have h : ∀ (f : List Lv) (a : Int), f.foldl (fun n x => max n x.v) a ≤ Q ↔ a ≤ Q ∧ ∀ x ∈ f, x.v ≤ Q := by
    intro f
    induction f with
    | nil => intro a; simp
    | cons y f ih =>
      intro a
      rw [List.foldl_cons, ih]
      constructor
      · rintro ⟨h1, h2⟩
        refine ⟨by omega, fun x hx => ?_⟩
        rcases List.mem_cons.1 hx with rfl | hx
        · omega
        · exact h2 x hx
      · rintro ⟨h1, h2⟩
        have := h2 y (by simp)
        exact ⟨by omega, fun x hx => h2 x (by simp [hx])⟩
  unfold mostL
  rw [h f 0]
  exact ⟨fun h => h.2, fun h => ⟨hQ, h⟩⟩
theorem comb_le {F : Int → Int} {Q : Int} : ∀ {ts : List Int} {last : Int}, last ≤ Q → ((∀ x ∈ comb F last ts, x.v ≤ Q) ↔ ∀ t ∈ ts, F t ≤ Q)
  | [], last, _ => by simp [comb]
  | t :: ts, last, h => by
    by_cases hc : F t = last
    · have e : comb F last (t :: ts) = comb F (F t) ts := by simp only [comb]; rw [if_neg (fun hh => hh hc)]
      rw [e, comb_le (by omega)]
      constructor
      · intro hh x hx
        rcases List.mem_cons.1 hx with rfl | hx
        · omega
        · exact hh x hx
      · exact fun hh x hx => hh x (by simp [hx])
    · have e : comb F last (t :: ts) = ⟨t, F t⟩ :: comb F (F t) ts := by simp only [comb]; rw [if_pos hc]
      rw [e]
      constructor
      · intro hh
        have h1 := hh ⟨t, F t⟩ (by simp)
        dsimp only at h1
        have h2 := (comb_le (F := F) (ts := ts) h1).1 (fun x hx => hh x (by simp [hx]))
        intro x hx
        rcases List.mem_cons.1 hx with rfl | hx
        · exact h1
        · exact h2 x hx
      · intro hh
        have h1 := hh t (by simp)
        have h2 := (comb_le (F := F) (ts := ts) h1).2 (fun x hx => hh x (by simp [hx]))
        intro x hx
        rcases List.mem_cons.1 hx with rfl | hx
        · exact h1
        · exact h2 x hx
theorem stored_mono {n t s : Int} : ∀ {l : List Hd}, (∀ g ∈ l, 0 ≤ g.s ∧ (g.n = n → g.a ≤ t → t < g.b → g.a ≤ s ∧ s < g.b)) → stored l n t ≤ stored l n s
  | [], _ => by simp [stored]
  | g :: l, H => by
    have ih := stored_mono (l := l) (fun x hx => H x (by simp [hx]))
    obtain ⟨h1, h2⟩ := H g (by simp)
    simp only [stored]
    by_cases c : g.n = n ∧ g.a ≤ t ∧ t < g.b
    · have := h2 c.1 c.2.1 c.2.2
      rw [if_pos c, if_pos ⟨c.1, this⟩]; omega
    · rw [if_neg c]; split <;> omega
/-- the active hold that begins last -/
theorem last_active {n t : Int} : ∀ (l : List Hd), (∀ g ∈ l, g.n = n → ¬ (g.a ≤ t ∧ t < g.b)) ∨ ∃ h ∈ l, h.n = n ∧ h.a ≤ t ∧ ∀ g ∈ l, g.n = n → g.a ≤ t → t < g.b → g.a ≤ h.a
  | [] => .inl (by simp)
  | g :: l => by
    rcases last_active (n := n) (t := t) l with h | ⟨h, hl, h1, h2, h3⟩
    · by_cases c : g.n = n ∧ g.a ≤ t ∧ t < g.b
      · refine .inr ⟨g, by simp, c.1, c.2.1, fun x hx k1 k2 k3 => ?_⟩
        rcases List.mem_cons.1 hx with rfl | hx
        · exact Int.le_refl _
        · exact absurd ⟨k2, k3⟩ (h x hx k1)
      · refine .inl (fun x hx k1 k2 => ?_)
        rcases List.mem_cons.1 hx with rfl | hx
        · exact c ⟨k1, k2⟩
        · exact h x hx k1 k2
    · by_cases c : (g.n = n ∧ g.a ≤ t ∧ t < g.b) ∧ h.a < g.a
      · refine .inr ⟨g, by simp, c.1.1, c.1.2.1, fun x hx k1 k2 k3 => ?_⟩
        rcases List.mem_cons.1 hx with rfl | hx
        · exact Int.le_refl _
        · have := h3 x hx k1 k2 k3; omega
      · refine .inr ⟨h, by simp [hl], h1, h2, fun x hx k1 k2 k3 => ?_⟩
        rcases List.mem_cons.1 hx with rfl | hx
        · omega
        · exact h3 x hx k1 k2 k3
theorem most_fits {l : List Hd} {n Q : Int} {nq : Nat} (hok : ∀ h ∈ l, okHd nq h) (hQ : 0 ≤ Q) : mostL (lvH l n) ≤ Q ↔ ∀ h ∈ l, h.n = n → stored l n h.a ≤ Q := by
  unfold lvH
  rw [mostL_le hQ, comb_le hQ]
  obtain ⟨h1, h2⟩ := hts_sa l n
  constructor
  · exact fun H h hl hn => H _ ((h2 _).2 (mem_tmH.2 ⟨h, hl, hn, .inl rfl⟩))
  · intro H t ht
    rcases last_active (n := n) (t := t) l with c | ⟨h, hl, k1, k2, k3⟩
    · have : stored l n t ≤ stored l n (-1) := stored_mono (fun g hg => ⟨by have := (hok g hg).2.2.1; omega, fun a b d => absurd ⟨b, d⟩ (c g hg a)⟩)
      have e0 : stored l n (-1) = 0 := stored_early (fun h hl hn => by have := (hok h hl).2.1; omega)
      omega
    · have : stored l n t ≤ stored l n h.a := stored_mono (fun g hg => ⟨by have := (hok g hg).2.2.1; omega, fun a b d => ⟨k3 g hg a b d, by omega⟩⟩)
      have := H h hl k1
      omega
end Go.Step
