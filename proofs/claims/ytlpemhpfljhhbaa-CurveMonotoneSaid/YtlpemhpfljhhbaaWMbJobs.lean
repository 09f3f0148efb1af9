/- Jobs that are served by rates: marks, first times, the backlog. No program in sight. No conditions. -/
import Derived.Test.YtlpemhpfljhhbaaWMbStep
set_option linter.all false
namespace Go.Step
structure Jb where
  a : Int
  s : Int
  deriving DecidableEq, Inhabited
abbrev TM : Nat := 1099511627776
def badJ (j : Jb) : Prop := j.a < 0 ∨ 1099511627776 < j.a ∨ j.s < 0 ∨ 1099511627776 < j.s
instance (j : Jb) : Decidable (badJ j) := by unfold badJ; infer_instance
def chkJ (pa : Int) : List Jb → Int
  | [] => 0
  | j :: l => if badJ j then 2 else if j.a < pa then 9 else chkJ j.a l
/-- why jobs are not valid -/
def chkJs (l : List Jb) : Int := if 1000 < l.length then 4 else chkJ 0 l
/-- jobs in their order -/
def Jobs (pa : Int) : List Jb → Prop
  | [] => True
  | j :: l => pa ≤ j.a ∧ (0 ≤ j.a ∧ j.a ≤ 1099511627776 ∧ 0 ≤ j.s ∧ j.s ≤ 1099511627776) ∧ Jobs j.a l
theorem chkJ_iff : ∀ (l : List Jb) (pa : Int), chkJ pa l = 0 ↔ Jobs pa l
  | [], _ => by simp [chkJ, Jobs]
  | j :: l, pa => by
    simp only [chkJ, Jobs]
    by_cases h : badJ j
    · rw [if_pos h]; unfold badJ at h
      constructor
      · intro h; simp at h
      · rintro ⟨_, h2, _⟩; omega
    · rw [if_neg h]; unfold badJ at h
      by_cases h2 : j.a < pa
      · rw [if_pos h2]
        constructor
        · intro h; simp at h
        · rintro ⟨h3, _⟩; omega
      · rw [if_neg h2, chkJ_iff l j.a]
        constructor
        · intro h3; exact ⟨by omega, by omega, h3⟩
        · rintro ⟨_, _, h3⟩; exact h3
theorem chkJs_iff (l : List Jb) : chkJs l = 0 ↔ l.length ≤ 1000 ∧ Jobs 0 l := by
  unfold chkJs
  by_cases h : 1000 < l.length
  · rw [if_pos h]
    constructor
    · intro h; simp at h
    · rintro ⟨h1, _⟩; omega
  · rw [if_neg h, chkJ_iff]
    constructor
    · intro h1; exact ⟨by omega, h1⟩
    · rintro ⟨_, h1⟩; exact h1
theorem badJ_cases (j : Jb) : (j.a < 0 ∨ (0 ≤ j.a ∧ 1099511627776 < j.a) ∨ (0 ≤ j.a ∧ j.a ≤ 1099511627776 ∧ j.s < 0) ∨ (0 ≤ j.a ∧ j.a ≤ 1099511627776 ∧ 0 ≤ j.s ∧ 1099511627776 < j.s)) ∧ badJ j ∨ (¬ badJ j ∧ 0 ≤ j.a ∧ j.a ≤ 1099511627776 ∧ 0 ≤ j.s ∧ j.s ≤ 1099511627776) := by
  unfold badJ; omega
def pjA (l : List Jb) : Nat → Int
  | 0 => 0
  | k + 1 => (l.getD k default).a
theorem pjA_succ {l : List Jb} {k : Nat} (h : k < l.length) : pjA l (k + 1) = l[k].a := by simp [pjA, List.getD_eq_getElem?_getD, h]
/-- the next mark -/
def nextM (f : List Lv) (m : Int) (j : Jb) : Int := max m (cum f j.a.toNat) + j.s
/-- the jobs with their marks -/
def marks (f : List Lv) (m : Int) : List Jb → List (Jb × Int)
  | [] => []
  | j :: l => (j, nextM f m j) :: marks f (nextM f m j) l
theorem marks_len (f : List Lv) : ∀ (l : List Jb) (m : Int), (marks f m l).length = l.length
  | [], _ => rfl
  | j :: l, m => by simp [marks, marks_len f l]
/-- the first time from a on up to which m can be served -/
def First (f : List Lv) (a m : Int) (k : Nat) : Prop := k < 1099511627777 ∧ (a ≤ (k : Int) ∧ m ≤ cum f k) ∧ ∀ i : Nat, i < k → ¬ (a ≤ (i : Int) ∧ m ≤ cum f i)
def Never (f : List Lv) (a m : Int) : Prop := ∀ i : Nat, i < 1099511627777 → ¬ (a ≤ (i : Int) ∧ m ≤ cum f i)
theorem First.unique {f : List Lv} {a m : Int} {k k' : Nat} (h : First f a m k) (h' : First f a m k') : k = k' := by
  rcases Nat.lt_trichotomy k k' with h1 | h1 | h1
  · exact absurd h.2.1 (h'.2.2 k h1)
  · exact h1
  · exact absurd h'.2.1 (h.2.2 k' h1)
theorem least_nat (p : Nat → Prop) : ∀ m, p m → ∃ k, k ≤ m ∧ p k ∧ ∀ j, j < k → ¬ p j := by
  intro m
  induction m using Nat.strongRecOn with
  | _ m ih =>
    intro h
    by_cases hx : ∃ j, j < m ∧ p j
    · obtain ⟨j, hj, hp⟩ := hx
      obtain ⟨k, h1, h2, h3⟩ := ih j hj hp
      exact ⟨k, by omega, h2, h3⟩
    · exact ⟨m, Nat.le_refl _, h, fun j hj hp => hx ⟨j, hj, hp⟩⟩
theorem first_or (f : List Lv) (a m : Int) : (∃ k, First f a m k) ∨ Never f a m := by
  by_cases hx : ∃ i : Nat, i < 1099511627777 ∧ (a ≤ (i : Int) ∧ m ≤ cum f i)
  · obtain ⟨i, hi, hp⟩ := hx
    obtain ⟨k, h1, h2, h3⟩ := least_nat (fun i => a ≤ (i : Int) ∧ m ≤ cum f i) i hp
    exact .inl ⟨k, by omega, h2, h3⟩
  · exact .inr (fun i hi hp => hx ⟨i, hi, hp⟩)
theorem First.not_never {f : List Lv} {a m : Int} {k : Nat} (h : First f a m k) (h' : Never f a m) : False := h' k h.1 h.2.1
/-- when jobs are finished: Some times, or not at all -/
inductive Srv (f : List Lv) : Int → List Jb → Option (List Int) → Prop
  | nil {m : Int} : Srv f m [] (some [])
  | none {m : Int} {j : Jb} {l : List Jb} : Never f j.a (nextM f m j) → Srv f m (j :: l) none
  | skip {m : Int} {j : Jb} {l : List Jb} {k : Nat} : First f j.a (nextM f m j) k → Srv f (nextM f m j) l none → Srv f m (j :: l) none
  | cons {m : Int} {j : Jb} {l : List Jb} {k : Nat} {o : List Int} : First f j.a (nextM f m j) k → Srv f (nextM f m j) l (some o) → Srv f m (j :: l) (some ((k : Int) :: o))
theorem Srv.unique {f : List Lv} : ∀ {l : List Jb} {m : Int} {o o' : Option (List Int)}, Srv f m l o → Srv f m l o' → o = o'
  | [], _, _, _, h, h' => by cases h; cases h'; rfl
  | j :: l, m, _, _, h, h' => by
    cases h with
    | none h1 =>
      cases h' with
      | none _ => rfl
      | skip h2 _ => exact (h2.not_never h1).elim
      | cons h2 _ => exact (h2.not_never h1).elim
    | skip h1 h2 =>
      cases h' with
      | none _ => rfl
      | skip _ _ => rfl
      | cons h3 h4 => have := Srv.unique h2 h4; simp at this
    | cons h1 h2 =>
      cases h' with
      | none h3 => exact (h1.not_never h3).elim
      | skip h3 h4 => have := Srv.unique h2 h4; simp at this
      | cons h3 h4 =>
        have := Srv.unique h2 h4
        rw [h1.unique h3]
        simp at this; rw [this]
theorem srv_ex (f : List Lv) : ∀ (l : List Jb) (m : Int), ∃ o, Srv f m l o
  | [], _ => ⟨_, .nil⟩
  | j :: l, m => by
    rcases first_or f j.a (nextM f m j) with ⟨k, h⟩ | h
    · obtain ⟨o, ho⟩ := srv_ex f l (nextM f m j)
      cases o with
      | none => exact ⟨_, .skip h ho⟩
      | some o => exact ⟨_, .cons h ho⟩
    · exact ⟨_, .none h⟩
/-- the last mark up to a time -/
def lastM (f : List Lv) (t : Int) (m : Int) : List Jb → Int
  | [] => m
  | j :: l => if t < j.a then m else lastM f t (nextM f m j) l
theorem Srv.len {f : List Lv} : ∀ {l : List Jb} {m : Int} {o : List Int}, Srv f m l (some o) → o.length = l.length
  | [], _, _, h => by cases h; rfl
  | j :: l, m, _, h => by cases h with | cons _ h2 => simp [h2.len]
/-- marks stay in bounds -/
theorem nextM_bd {f : List Lv} (hr : rates f = true) {m B : Int} {j : Jb} (hj : 0 ≤ j.a ∧ j.a ≤ 1099511627776 ∧ 0 ≤ j.s ∧ j.s ≤ 1099511627776) (h0 : 0 ≤ m) (hm : m ≤ 1152921504606846976 + B) (hB : 0 ≤ B) :
    0 ≤ nextM f m j ∧ nextM f m j ≤ 1152921504606846976 + (B + 1099511627776) := by
  have := cum_bd hr j.a.toNat
  unfold nextM; omega
theorem marks_get {f : List Lv} (hr : rates f = true) : ∀ {l : List Jb} {m B pa : Int}, Jobs pa l → 0 ≤ m → m ≤ 1152921504606846976 + B → 0 ≤ B → ∀ (i : Nat) (x : Jb × Int), (marks f m l)[i]? = some x →
    l[i]? = some x.1 ∧ 0 ≤ x.2 ∧ x.2 ≤ 1152921504606846976 + (B + 1099511627776 * ((i : Int) + 1)) ∧ (0 ≤ x.1.a ∧ x.1.a ≤ 1099511627776 ∧ 0 ≤ x.1.s ∧ x.1.s ≤ 1099511627776)
  | [], _, _, _, _, _, _, _, i, x, h => by simp [marks] at h
  | j :: l, m, B, pa, hJ, h0, hm, hB, i, x, h => by
    have hb := nextM_bd hr hJ.2.1 h0 hm hB
    cases i with
    | zero => simp [marks] at h; subst h; exact ⟨rfl, hb.1, by simp only [Int.natCast_zero] ; omega, hJ.2.1⟩
    | succ i =>
      simp only [marks, List.getElem?_cons_succ] at h
      have := marks_get hr hJ.2.2 hb.1 hb.2 (by omega) i x h
      refine ⟨by simpa using this.1, this.2.1, ?_, this.2.2.2⟩
      have h3 := this.2.2.1
      rw [Int.natCast_add]
      omega
/-- the mark before a job -/
def mAtN (f : List Lv) : Nat → Int → List Jb → Int
  | 0, m, _ => m
  | _ + 1, m, [] => m
  | i + 1, m, j :: l => mAtN f i (nextM f m j) l
abbrev mAt (f : List Lv) (m : Int) (l : List Jb) (i : Nat) : Int := mAtN f i m l
theorem marks_at (f : List Lv) : ∀ (l : List Jb) (m : Int) (i : Nat) (x : Jb × Int), (marks f m l)[i]? = some x → l[i]? = some x.1 ∧ x.2 = nextM f (mAt f m l i) x.1 ∧ mAt f m l (i + 1) = x.2
  | [], _, i, x, h => by simp [marks] at h
  | j :: l, m, 0, x, h => by simp [marks] at h; subst h; simp [mAtN]
  | j :: l, m, i + 1, x, h => by
    simp only [marks, List.getElem?_cons_succ] at h
    have := marks_at f l _ i x h
    simpa [mAtN] using this
/-- why levels and jobs are not valid -/
def chkA (f : List Lv) (l : List Jb) : Int := if chkC f ≠ 0 then 1 else chkJs l
/-! laws -/
theorem Jobs.mono : ∀ {l : List Jb} {p q : Int}, Jobs p l → q ≤ p → Jobs q l
  | [], _, _, _, _ => trivial
  | _ :: _, _, _, h, hq => ⟨by have := h.1; omega, h.2⟩
theorem Jobs.ge : ∀ {l : List Jb} {p : Int}, Jobs p l → ∀ j ∈ l, p ≤ j.a
  | [], _, _, j, hj => by simp at hj
  | m :: l, p, h, j, hj => by
    simp at hj
    rcases hj with rfl | hj
    · exact h.1
    · have := h.2.2.ge j hj; have := h.1; omega
/-- finished not before, in their order -/
theorem Srv.order {f : List Lv} (hr : rates f = true) : ∀ {l : List Jb} {m pa : Int} {o : List Int}, Srv f m l (some o) → Jobs pa l → (∀ j ∈ l, 0 ≤ j.s) →
    (∀ (i : Nat) (t : Int), o[i]? = some t → ∃ j, l[i]? = some j ∧ j.a ≤ t ∧ 0 ≤ t ∧ t ≤ 1099511627776) ∧ (∀ (p : Nat), (∀ i : Nat, i < p → ¬ (pa ≤ (i : Int) ∧ m ≤ cum f i)) → ∀ t ∈ o, (p : Int) ≤ t) ∧ ∀ (i : Nat) (t u : Int), o[i]? = some t → o[i + 1]? = some u → t ≤ u
  | [], _, _, _, h, _, _ => by cases h; simp
  | j :: l, m, pa, _, h, hJ, hs => by
    cases h with
    | cons h1 h2 =>
      rename_i k o
      obtain ⟨i1, i2, i3⟩ := Srv.order hr h2 hJ.2.2 (fun j hj => hs j (by simp [hj]))
      have hk := i2 k (fun i hi => h1.2.2 i hi)
      refine ⟨fun i t ht => ?_, fun p hp t ht => ?_, fun i t u ht hu => ?_⟩
      · cases i with
        | zero => simp at ht; subst ht; exact ⟨j, rfl, h1.2.1.1, by omega, by have := h1.1; omega⟩
        | succ i => obtain ⟨j', h3⟩ := i1 i t (by simpa using ht); exact ⟨j', by simpa using h3⟩
      · have hpk : p ≤ k := by
          refine Classical.byContradiction fun hc => hp k (by omega) ⟨by have := hJ.1; have := h1.2.1.1; omega, ?_⟩
          have := h1.2.1.2
          have hj0 := hs j (by simp)
          unfold nextM at this
          omega
        simp at ht
        rcases ht with rfl | ht
        · omega
        · have := hk t ht; omega
      · cases i with
        | zero =>
          simp at ht; subst ht
          simp at hu
          exact hk u (List.mem_of_getElem? hu)
        | succ i => exact i3 i t u (by simpa using ht) (by simpa using hu)
/-- a beginning of the jobs -/
theorem Srv.take {f : List Lv} : ∀ {l : List Jb} {m : Int} {o : List Int} (k : Nat), Srv f m l (some o) → Srv f m (l.take k) (some (o.take k))
  | _, _, _, 0, _ => by simpa using Srv.nil
  | [], _, _, k + 1, h => by cases h; exact .nil
  | j :: l, m, _, k + 1, h => by
    cases h with
    | cons h1 h2 =>
      simp only [List.take_succ_cons]
      exact .cons h1 (h2.take k)
theorem Jobs.take : ∀ {l : List Jb} {p : Int} (k : Nat), Jobs p l → Jobs p (l.take k)
  | _, _, 0, _ => by simp [Jobs]
  | [], _, _ + 1, h => by simpa using h
  | j :: l, p, k + 1, h => ⟨h.1, h.2.1, h.2.2.take k⟩
/-- two jobs instead of one -/
theorem nextM_split (f : List Lv) (m a s p : Int) (h : 0 ≤ p) : nextM f (nextM f m ⟨a, p⟩) ⟨a, s - p⟩ = nextM f m ⟨a, s⟩ := by
  unfold nextM; dsimp only; omega
theorem Srv.split {f : List Lv} {p : Int} : ∀ {l : List Jb} {m : Int} {o : List Int} (k : Nat) (j : Jb), Srv f m l (some o) → l[k]? = some j → 0 ≤ p → p ≤ j.s → ∃ o' t, Srv f m (l.take k ++ ⟨j.a, p⟩ :: ⟨j.a, j.s - p⟩ :: l.drop (k + 1)) (some o') ∧ o' = o.take k ++ t :: o.drop k ∧ ∀ u, o[k]? = some u → t ≤ u
  | [], _, _, k, j, h, hk, _, _ => by simp at hk
  | x :: l, m, _, 0, j, h, hk, h0, h1 => by
    simp at hk; subst hk
    cases h with
    | cons h2 h3 =>
      rename_i k o
      obtain ⟨t, ht, hx⟩ : ∃ t, t ≤ (k : Int) ∧ Srv f m (⟨x.a, p⟩ :: ⟨x.a, x.s - p⟩ :: l) (some (t :: (k : Int) :: o)) := by
        have e := nextM_split f m x.a x.s p h0
        have hle : nextM f m ⟨x.a, p⟩ ≤ nextM f m x := by unfold nextM; dsimp only; omega
        rcases first_or f x.a (nextM f m ⟨x.a, p⟩) with ⟨k', h4⟩ | h4
        · have hk' : k' ≤ k := by
            refine Classical.byContradiction fun hc => h4.2.2 k (by omega) ⟨h2.2.1.1, by have := h2.2.1.2; omega⟩
          refine ⟨k', by omega, .cons h4 (.cons ?_ ?_)⟩
          · show First f x.a (nextM f (nextM f m ⟨x.a, p⟩) ⟨x.a, x.s - p⟩) k
            rw [e]; exact h2
          · rw [e]; exact h3
        · exact (h4 k h2.1 ⟨h2.2.1.1, by have := h2.2.1.2; omega⟩).elim
      exact ⟨_, t, hx, by simp, fun u hu => by simp at hu; omega⟩
  | x :: l, m, _, k + 1, j, h, hk, h0, h1 => by
    cases h with
    | cons h2 h3 =>
      obtain ⟨o', t, i1, i2, i3⟩ := Srv.split k j h3 (by simpa using hk) h0 h1
      refine ⟨_, t, .cons h2 i1, by rw [i2]; simp, fun u hu => i3 u (by simpa using hu)⟩
theorem Jobs.split {p : Int} : ∀ {l : List Jb} {q : Int} (k : Nat) (j : Jb), Jobs q l → l[k]? = some j → 0 ≤ p → p ≤ j.s → Jobs q (l.take k ++ ⟨j.a, p⟩ :: ⟨j.a, j.s - p⟩ :: l.drop (k + 1))
  | [], _, k, j, h, hk, _, _ => by simp at hk
  | x :: l, q, 0, j, h, hk, h0, h1 => by
    simp at hk; subst hk
    simp only [List.take_zero, List.nil_append, List.drop_succ_cons, List.drop_zero]
    obtain ⟨g1, g2, g3⟩ := h
    exact ⟨g1, by dsimp only; omega, Int.le_refl _, by dsimp only; omega, g3⟩
  | x :: l, q, k + 1, j, h, hk, h0, h1 => ⟨h.1, h.2.1, Jobs.split k j h.2.2 (by simpa using hk) h0 h1⟩
/-! the backlog -/
def sumS (l : List Jb) : Int := (l.map (·.s)).foldr (· + ·) 0
theorem sumS_cons (j : Jb) (l : List Jb) : sumS (j :: l) = j.s + sumS l := rfl
theorem sumS_nn : ∀ {l : List Jb} {p : Int}, Jobs p l → 0 ≤ sumS l
  | [], _, _ => by simp [sumS]
  | j :: l, p, h => by have := sumS_nn h.2.2; have := h.2.1; rw [sumS_cons]; omega
theorem lastM_le {f : List Lv} (hr : rates f = true) {t : Nat} : ∀ {l : List Jb} {m pa : Int}, Jobs pa l → lastM f t m l ≤ max m (cum f t) + sumS l ∧ m ≤ lastM f t m l
  | [], m, _, _ => by simp [lastM, sumS]; omega
  | j :: l, m, pa, h => by
    simp only [lastM]
    rw [sumS_cons]
    have hs := sumS_nn h.2.2
    have hj := h.2.1
    split
    · omega
    · rename_i hle
      obtain ⟨h1, h2⟩ := lastM_le hr (t := t) (m := nextM f m j) h.2.2
      have := cum_mono hr (show j.a.toNat ≤ t by omega)
      unfold nextM at h1 h2 ⊢
      omega
/-- a positive backlog: a job that is there, and not finished -/
theorem open_iff {f : List Lv} (hr : rates f = true) {t : Nat} (ht : t ≤ 1099511627776) : ∀ {l : List Jb} {m pa : Int} {o : List Int}, Srv f m l (some o) → Jobs pa l →
    (cum f t < lastM f t m l ↔ cum f t < m ∨ ∃ (i : Nat) (j : Jb) (u : Int), l[i]? = some j ∧ o[i]? = some u ∧ j.a ≤ t ∧ (t : Int) < u)
  | [], m, _, _, h, _ => by simp [lastM]
  | j :: l, m, pa, _, h, hJ => by
    cases h with
    | cons h1 h2 =>
      rename_i k o
      simp only [lastM]
      have hj := hJ.2.1
      split
      · rename_i hlt
        constructor
        · exact .inl
        · rintro (h | ⟨i, j', u, e1, e2, e3, e4⟩)
          · exact h
          · exfalso
            have := hJ.2.2.ge
            cases i with
            | zero => simp at e1; subst e1; omega
            | succ i =>
              simp at e1
              have := hJ.2.2.ge j' (List.mem_of_getElem? e1)
              omega
      · rename_i hle
        rw [open_iff hr ht h2 hJ.2.2]
        constructor
        · rintro (h | ⟨i, j', u, e1, e2, e3, e4⟩)
          · right
            refine ⟨0, j, k, rfl, rfl, by omega, ?_⟩
            refine Classical.byContradiction fun hc => ?_
            have := cum_mono hr (show k ≤ t by omega)
            have := h1.2.1.2
            omega
          · exact .inr ⟨i + 1, j', u, by simpa using e1, by simpa using e2, e3, e4⟩
        · rintro (h | ⟨i, j', u, e1, e2, e3, e4⟩)
          · left; unfold nextM; omega
          · cases i with
            | zero =>
              simp at e1 e2; subst e1; subst e2
              left
              refine Classical.byContradiction fun hc => h1.2.2 t (by omega) ⟨by omega, by omega⟩
            | succ i => exact .inr ⟨i, j', u, by simpa using e1, by simpa using e2, e3, e4⟩
/-- no backlog where a job is finished, and the next one is not there yet -/
theorem closed_at {f : List Lv} (hr : rates f = true) : ∀ {l : List Jb} {m pa : Int} {o : List Int}, Srv f m l (some o) → Jobs pa l → (∀ j ∈ l, 0 ≤ j.s) → ∀ (i : Nat) (u : Nat), o[i]? = some (u : Int) → (∀ j, l[i + 1]? = some j → (u : Int) < j.a) → lastM f u m l ≤ cum f u
  | [], _, _, _, h, _, _, i, u, hu, _ => by cases h; simp at hu
  | j :: l, m, pa, _, h, hJ, hs, i, u, hu, hn => by
    cases h with
    | cons h1 h2 =>
      rename_i k o
      have hj := hJ.2.1
      simp only [lastM]
      cases i with
      | zero =>
        simp at hu
        have : u = k := by omega
        subst this
        rw [if_neg (by have := h1.2.1.1; omega)]
        cases l with
        | nil => simp only [lastM]; exact h1.2.1.2
        | cons j2 l => simp only [lastM]; rw [if_pos (hn j2 (by simp))]; exact h1.2.1.2
      | succ i =>
        obtain ⟨i1, i2, i3⟩ := Srv.order hr h2 hJ.2.2 (fun j hj => hs j (by simp [hj]))
        have hu' : o[i]? = some (u : Int) := by simpa using hu
        have := i2 k (fun i hi => h1.2.2 i hi) u (List.mem_of_getElem? hu')
        rw [if_neg (by have := h1.2.1.1; omega)]
        exact closed_at hr h2 hJ.2.2 (fun j hj => hs j (by simp [hj])) i u hu' (fun j' hj' => hn j' (by simpa using hj'))
/-! greater rates, greater sizes -/
theorem Srv.rates {f g : List Lv} (hf : rates f = true) (hg : Step.rates g = true) (hD : ∀ {p q : Nat}, p ≤ q → cum g p - cum f p ≤ cum g q - cum f q) : ∀ {l : List Jb} {m m' pa : Int} {o : List Int}, Srv f m l (some o) → Jobs pa l → (0 ≤ pa) → m' ≤ m + (cum g pa.toNat - cum f pa.toNat) →
    ∃ o', Srv g m' l (some o') ∧ ∀ (i : Nat) (t u : Int), o[i]? = some t → o'[i]? = some u → u ≤ t
  | [], _, _, _, _, h, _, _, _ => by cases h; exact ⟨_, .nil, by simp⟩
  | j :: l, m, m', pa, _, h, hJ, hp, hm => by
    cases h with
    | cons h1 h2 =>
      rename_i k o
      have hj := hJ.2.1
      have hd1 := hD (show pa.toNat ≤ j.a.toNat by have := hJ.1; omega)
      have hd2 := hD (show j.a.toNat ≤ k by have := h1.2.1.1; omega)
      have hn : nextM g m' j ≤ nextM f m j + (cum g j.a.toNat - cum f j.a.toNat) := by unfold nextM; omega
      have hok : j.a ≤ (k : Int) ∧ nextM g m' j ≤ cum g k := ⟨h1.2.1.1, by have := h1.2.1.2; omega⟩
      rcases first_or g j.a (nextM g m' j) with ⟨k', h4⟩ | h4
      · obtain ⟨o', i1, i2⟩ := Srv.rates hf hg hD h2 hJ.2.2 (by omega) hn
        refine ⟨_, .cons h4 i1, fun i t u ht hu => ?_⟩
        cases i with
        | zero =>
          simp at ht hu; subst ht; subst hu
          have : k' ≤ k := Classical.byContradiction fun hc => h4.2.2 k (by omega) hok
          omega
        | succ i => exact i2 i t u (by simpa using ht) (by simpa using hu)
      · exact (h4 k h1.1 hok).elim
/-- sizes not less: nothing earlier -/
inductive Ge : List Jb → List Jb → Prop
  | nil : Ge [] []
  | cons {j j' : Jb} {l l' : List Jb} : j'.a = j.a → j.s ≤ j'.s → Ge l l' → Ge (j :: l) (j' :: l')
theorem Ge.refl : ∀ l, Ge l l
  | [] => .nil
  | _ :: l => .cons rfl (Int.le_refl _) (Ge.refl l)
theorem Ge.set : ∀ {l : List Jb} {k : Nat} {j : Jb} {s : Int}, l[k]? = some j → j.s ≤ s → Ge l (l.set k ⟨j.a, s⟩)
  | [], k, j, s, h, _ => by simp at h
  | x :: l, 0, j, s, h, hs => by simp at h; subst h; exact .cons rfl hs (Ge.refl l)
  | x :: l, k + 1, j, s, h, hs => .cons rfl (Int.le_refl _) (Ge.set (by simpa using h) hs)
theorem Srv.sizes {f : List Lv} : ∀ {l l' : List Jb} {m m' : Int} {o o' : List Int}, Ge l l' → m ≤ m' → Srv f m l (some o) → Srv f m' l' (some o') → ∀ (i : Nat) (t u : Int), o[i]? = some t → o'[i]? = some u → t ≤ u
  | [], _, _, _, _, _, hg, _, h, h', i, t, u, ht, hu => by cases h; simp at ht
  | j :: l, _, m, m', _, _, hg, hm, h, h', i, t, u, ht, hu => by
    cases hg with
    | cons e1 e2 hg =>
      rename_i j' l'
      cases h with
      | cons h1 h2 =>
        cases h' with
        | cons h3 h4 =>
          rename_i k o k' o'
          have hn : nextM f m j ≤ nextM f m' j' := by unfold nextM; rw [e1]; omega
          cases i with
          | zero =>
            simp at ht hu; subst ht; subst hu
            have : k ≤ k' := Classical.byContradiction fun hc => h1.2.2 k' (by omega) ⟨by have := h3.2.1.1; omega, by have := h3.2.1.2; omega⟩
            omega
          | succ i => exact Srv.sizes hg hn h2 h4 i t u (by simpa using ht) (by simpa using hu)
theorem Jobs.sized : ∀ {l : List Jb} {q : Int} {k : Nat} {j : Jb} {s : Int}, Jobs q l → l[k]? = some j → 0 ≤ s → s ≤ 1099511627776 → Jobs q (l.set k ⟨j.a, s⟩)
  | [], _, k, j, s, _, h, _, _ => by simp at h
  | x :: l, q, 0, j, s, hJ, h, h0, h1 => by simp at h; subst h; obtain ⟨g1, g2, g3⟩ := hJ; exact ⟨g1, by dsimp only; omega, g3⟩
  | x :: l, q, k + 1, j, s, hJ, h, h0, h1 => ⟨hJ.1, hJ.2.1, Jobs.sized hJ.2.2 (by simpa using h) h0 h1⟩
end Go.Step
namespace Go.Step
/-- what Serve answers: times and an error -/
def SrvR (f : List Lv) (l : List Jb) (o : List Int) (e : Int) : Prop :=
  (chkA f l ≠ 0 ∧ e = chkA f l ∧ o = []) ∨ (chkA f l = 0 ∧ Srv f 0 l none ∧ e = 7 ∧ o = []) ∨ (chkA f l = 0 ∧ e = 0 ∧ Srv f 0 l (some o))
theorem SrvR.unique {f : List Lv} {l : List Jb} {o o' : List Int} {e e' : Int} (h : SrvR f l o e) (h' : SrvR f l o' e') : o = o' ∧ e = e' := by
  rcases h with ⟨a, b, c⟩ | ⟨a, b, c, d⟩ | ⟨a, b, c⟩ <;> rcases h' with ⟨a', b', c'⟩ | ⟨a', b', c', d'⟩ | ⟨a', b', c'⟩
  · exact ⟨by rw [c, c'], by rw [b, b']⟩
  · exact absurd a' a
  · exact absurd a' a
  · exact absurd a a'
  · exact ⟨by rw [d, d'], by rw [c, c']⟩
  · have := b.unique c'; simp at this
  · exact absurd a a'
  · have := c.unique b'; simp at this
  · have := c.unique c'; simp at this; exact ⟨this, by rw [b, b']⟩
theorem chkA_ok {f : List Lv} {l : List Jb} (h : chkA f l = 0) : chkC f = 0 ∧ l.length ≤ 1000 ∧ Jobs 0 l := by
  unfold chkA at h
  by_cases h0 : chkC f = 0
  · rw [if_neg (by rw [h0]; simp)] at h
    exact ⟨h0, (chkJs_iff l).1 h⟩
  · rw [if_pos h0] at h; simp at h
theorem chkA_mk {f : List Lv} {l : List Jb} (h : chkC f = 0) (h1 : l.length ≤ 1000) (h2 : Jobs 0 l) : chkA f l = 0 := by
  unfold chkA
  rw [if_neg (by rw [h]; simp)]
  exact (chkJs_iff l).2 ⟨h1, h2⟩
/-- what Backlog answers -/
def blR (f : List Lv) (l : List Jb) (t : Int) : Int × Int :=
  if chkA f l ≠ 0 then (0, chkA f l) else if t < 0 ∨ 1099511627776 < t then (0, 2) else (max 0 (lastM f t 0 l - cum f t.toNat), 0)
end Go.Step
namespace Go.Step
/-! the chapter's example -/
def exF : List Lv := [⟨2, 3⟩, ⟨5, 0⟩, ⟨8, 1⟩]
def exJ : List Jb := [⟨0, 4⟩, ⟨3, 5⟩, ⟨4, 2⟩]
theorem exF_chk : chkC exF = 0 := by decide
theorem exF_9 : cum exF 9 = 10 := by decide
theorem ex_srv : SrvR exF exJ [4, 5, 10] 0 := by
  refine .inr (.inr ⟨by decide, rfl, ?_⟩)
  refine Srv.cons (k := 4) ⟨by decide, by decide, by decide⟩ (Srv.cons (k := 5) ⟨by decide, by decide, by decide⟩ (Srv.cons (k := 10) ⟨by decide, by decide, by decide⟩ Srv.nil))
end Go.Step
