/- Plans: contacts, what is wrong with a plan. No program in sight. No conditions. -/
set_option linter.all false
namespace Go.Step
/-- a contact: from, to, start, end, rate, range, loss -/
structure Ct where
  f : Int
  t : Int
  s : Int
  e : Int
  r : Int
  g : Int
  l : Int
def okCt (c : Ct) : Prop := (0 ≤ c.f ∧ c.f ≤ 15) ∧ (0 ≤ c.t ∧ c.t ≤ 15) ∧ (1 ≤ c.r ∧ c.r ≤ 1000) ∧ (1 ≤ c.g ∧ c.g ≤ 1048576) ∧ (0 ≤ c.l ∧ c.l ≤ 16)
instance (c : Ct) : Decidable (okCt c) := inferInstanceAs (Decidable (_ ∧ _))
def chkCt (c : Ct) : Int := if ¬ okCt c then 2 else if c.f = c.t then 1 else if c.s < 0 ∨ c.e ≤ c.s ∨ 1099511627776 - 2 * c.g < c.e then 2 else 0
def ovl (c d : Ct) : Bool := decide (chkCt c = 0 ∧ chkCt d = 0 ∧ c.f = d.f ∧ c.t = d.t ∧ c.s < d.e ∧ d.s < c.e)
theorem ovl_comm (c d : Ct) : ovl c d = ovl d c := by
  unfold ovl
  by_cases h : chkCt c = 0 ∧ chkCt d = 0 ∧ c.f = d.f ∧ c.t = d.t ∧ c.s < d.e ∧ d.s < c.e
  · rw [decide_eq_true h, decide_eq_true (by omega)]
  · rw [decide_eq_false h, decide_eq_false (by omega)]
theorem chkCt_se {c : Ct} (h : chkCt c = 0) : 0 ≤ c.s ∧ c.s < c.e ∧ c.e ≤ 1099511627776 := by
  unfold chkCt at h
  split at h
  · omega
  · rename_i hk
    split at h
    · omega
    · split at h
      · omega
      · unfold okCt at hk
        omega
/-- the first that is not 0 -/
def firstE (e : Nat → Int) : Nat → Int
  | 0 => 0
  | n + 1 => if firstE e n ≠ 0 then firstE e n else e n
theorem firstE_ok {e : Nat → Int} {k : Nat} (h : firstE e k = 0) (h2 : e k = 0) : firstE e (k + 1) = 0 := by simp [firstE, h, h2]
theorem firstE_hit {e : Nat → Int} {k : Nat} (h : firstE e k = 0) (h2 : e k ≠ 0) : ∀ n, k < n → firstE e n = e k
  | 0, hn => by omega
  | n + 1, hn => by
    by_cases hk : k = n
    · subst hk; simp [firstE, h]
    · have ih := firstE_hit h h2 n (by omega)
      simp [firstE, ih, h2]
theorem firstE_zero {e : Nat → Int} : ∀ {n : Nat}, firstE e n = 0 → ∀ k, k < n → e k = 0
  | 0, _, k, hk => by omega
  | n + 1, h, k, hk => by
    unfold firstE at h
    split at h
    · contradiction
    · rename_i hc
      have hc' : firstE e n = 0 := Decidable.not_not.1 hc
      by_cases e' : k = n
      · subst e'; exact h
      · exact firstE_zero hc' k (by omega)
theorem firstE_all {e : Nat → Int} : ∀ {n : Nat}, (∀ k, k < n → e k = 0) → firstE e n = 0
  | 0, _ => rfl
  | n + 1, h => firstE_ok (firstE_all (fun k hk => h k (by omega))) (h n (by omega))
def quoE (qs : List Int) (i : Nat) : Int := match qs[i]? with
  | some q => if q < 0 ∨ 1073741824 < q then 2 else 0
  | none => 0
def ctE (n : Nat) (cs : List Ct) (i : Nat) : Int := match cs[i]? with
  | some c => if chkCt c ≠ 0 then chkCt c else if (n : Int) ≤ c.f ∨ (n : Int) ≤ c.t then 2 else if (cs.take i).any (ovl c) then 14 else 0
  | none => 0
/-- what is wrong with a plan -/
def chkPl (qs : List Int) (cs : List Ct) : Int :=
  if qs.length < 1 ∨ 16 < qs.length ∨ 64 < cs.length then 4 else if firstE (quoE qs) qs.length ≠ 0 then firstE (quoE qs) qs.length else firstE (ctE qs.length cs) cs.length
end Go.Step
