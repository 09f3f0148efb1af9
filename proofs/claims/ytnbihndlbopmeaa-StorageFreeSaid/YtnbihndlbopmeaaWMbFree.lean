/- Where a node can store more: two ways to say it. No program in sight. No conditions. -/
import Derived.Test.YtnbihndlbopmeaaWMbFit
set_option linter.all false
namespace Go.Step
def frA (Q s : Int) (st : Int × List (Int × Int)) (t v : Int) : Int × List (Int × Int) :=
  if Q - v < s then (-1, if 0 ≤ st.1 ∧ st.1 < t then st.2 ++ [(st.1, t)] else st.2) else (if st.1 < 0 then t else st.1, st.2)
def frL (Q s : Int) (st : Int × List (Int × Int)) (x : Lv) : Int × List (Int × Int) := if x.a < 1099511627776 then frA Q s st x.a x.v else st
def finA (st : Int × List (Int × Int)) : List (Int × Int) := if 0 ≤ st.1 ∧ st.1 < 1099511627776 then st.2 ++ [(st.1, 1099511627776)] else st.2
def freeP (Q s : Int) (f : List Lv) : List (Int × Int) := finA (f.foldl (frL Q s) (frA Q s (-1, []) 0 0))
def frB (Q s : Int) (st : (Int × Bool) × List (Int × Int)) (x : Lv) : (Int × Bool) × List (Int × Int) :=
  ((if s ≤ Q - x.v ∧ st.1.2 = false then x.a else st.1.1, decide (s ≤ Q - x.v)), if st.1.2 = true ∧ Q - x.v < s ∧ st.1.1 < x.a then st.2 ++ [(st.1.1, x.a)] else st.2)
def finB (st : (Int × Bool) × List (Int × Int)) : List (Int × Int) := if st.1.2 = true ∧ st.1.1 < 1099511627776 then st.2 ++ [(st.1.1, 1099511627776)] else st.2
def freeR (Q s : Int) (f : List Lv) : List (Int × Int) := finB (f.foldl (frB Q s) ((0, decide (s ≤ Q)), []))
structure RlF (A : Int × List (Int × Int)) (B : (Int × Bool) × List (Int × Int)) : Prop where
  o : A.2 = B.2
  p : 0 ≤ B.1.1
  f : A.1 = if B.1.2 = true then B.1.1 else -1
theorem RlF.step {Q s : Int} {A : Int × List (Int × Int)} {B : (Int × Bool) × List (Int × Int)} (h : RlF A B) {x : Lv} (h0 : 0 ≤ x.a) : RlF (frA Q s A x.a x.v) (frB Q s B x) := by
  obtain ⟨a1, a2⟩ := A
  obtain ⟨⟨b1, b2⟩, b3⟩ := B
  obtain ⟨h1, h2, h3⟩ := h
  dsimp only at h1 h2 h3
  subst h1
  unfold frA frB
  dsimp only
  by_cases hr : Q - x.v < s
  · rw [if_pos hr]
    have hd : decide (s ≤ Q - x.v) = false := decide_eq_false (by omega)
    cases b2 with
    | true =>
      simp only [if_true] at h3
      subst h3
      refine ⟨?_, ?_, ?_⟩
      · dsimp only
        by_cases hl : a1 < x.a
        · rw [if_pos ⟨h2, hl⟩, if_pos ⟨rfl, hr, hl⟩]
        · rw [if_neg (by omega), if_neg (by omega)]
      · dsimp only; rw [if_neg (by simp)]; exact h2
      · dsimp only; rw [hd]; rfl
    | false =>
      have h3' : a1 = -1 := by simpa using h3
      subst h3'
      refine ⟨?_, ?_, ?_⟩
      · dsimp only
        rw [if_neg (by omega), if_neg (by simp)]
      · dsimp only; rw [if_neg (by omega)]; exact h2
      · dsimp only; rw [hd]; rfl
  · rw [if_neg hr]
    have hd : decide (s ≤ Q - x.v) = true := decide_eq_true (by omega)
    cases b2 with
    | true =>
      simp only [if_true] at h3
      subst h3
      refine ⟨?_, ?_, ?_⟩
      · dsimp only; rw [if_neg (by omega)]
      · dsimp only; rw [if_neg (by simp)]; exact h2
      · dsimp only; rw [hd, if_pos rfl, if_neg (by omega), if_neg (by simp)]
    | false =>
      have h3' : a1 = -1 := by simpa using h3
      subst h3'
      refine ⟨?_, ?_, ?_⟩
      · dsimp only; rw [if_neg (by simp)]
      · dsimp only; rw [if_pos ⟨by omega, rfl⟩]; exact h0
      · dsimp only; rw [hd, if_pos rfl, if_pos (by omega), if_pos ⟨by omega, rfl⟩]
theorem RlF.fin {A : Int × List (Int × Int)} {B : (Int × Bool) × List (Int × Int)} (h : RlF A B) : finA A = finB B := by
  obtain ⟨a1, a2⟩ := A
  obtain ⟨⟨b1, b2⟩, b3⟩ := B
  obtain ⟨h1, h2, h3⟩ := h
  dsimp only at h1 h2 h3
  subst h1
  unfold finA finB
  dsimp only
  cases b2 with
  | true =>
    simp only [if_true] at h3
    subst h3
    by_cases hl : a1 < 1099511627776
    · rw [if_pos ⟨h2, hl⟩, if_pos ⟨rfl, hl⟩]
    · rw [if_neg (by omega), if_neg (by omega)]
  | false =>
    have h3' : a1 = -1 := by simpa using h3
    subst h3'
    rw [if_neg (by omega), if_neg (by simp)]
theorem RlF.last {Q s : Int} {A : Int × List (Int × Int)} {B : (Int × Bool) × List (Int × Int)} (h : RlF A B) {x : Lv} (hx : x.a = 1099511627776) : finA A = finB (frB Q s B x) := by
  obtain ⟨a1, a2⟩ := A
  obtain ⟨⟨b1, b2⟩, b3⟩ := B
  obtain ⟨h1, h2, h3⟩ := h
  dsimp only at h1 h2 h3
  subst h1
  unfold finA finB frB
  dsimp only
  rw [hx]
  by_cases hr : Q - x.v < s
  · have hd : decide (s ≤ Q - x.v) = false := decide_eq_false (by omega)
    rw [hd]
    cases b2 with
    | true =>
      simp only [if_true] at h3
      subst h3
      by_cases hl : a1 < 1099511627776
      · rw [if_pos ⟨h2, hl⟩, if_neg (by simp), if_pos ⟨rfl, hr, hl⟩]
      · rw [if_neg (by omega), if_neg (by simp), if_neg (by omega)]
    | false =>
      have h3' : a1 = -1 := by simpa using h3
      subst h3'
      rw [if_neg (by omega), if_neg (by simp), if_neg (by simp)]
  · have hd : decide (s ≤ Q - x.v) = true := decide_eq_true (by omega)
    rw [hd]
    cases b2 with
    | true =>
      simp only [if_true] at h3
      subst h3
      rw [if_neg (by simp : ¬ (s ≤ Q - x.v ∧ true = false)), if_neg (by omega : ¬ (true = true ∧ Q - x.v < s ∧ a1 < 1099511627776))]
      by_cases hl : a1 < 1099511627776
      · rw [if_pos ⟨h2, hl⟩, if_pos ⟨rfl, hl⟩]
      · rw [if_neg (by omega), if_neg (by omega)]
    | false =>
      have h3' : a1 = -1 := by simpa using h3
      subst h3'
      rw [if_pos (⟨by omega, rfl⟩ : s ≤ Q - x.v ∧ false = false), if_neg (by omega), if_neg (by omega), if_neg (by simp)]
theorem free_fold {Q s : Int} : ∀ {f : List Lv} {p : Int} {A : Int × List (Int × Int)} {B : (Int × Bool) × List (Int × Int)}, AscT p f → -1 ≤ p → RlF A B → finA (f.foldl (frL Q s) A) = finB (f.foldl (frB Q s) B)
  | [], _, _, _, _, _, h => h.fin
  | x :: f, p, A, B, hA, hp, h => by
    have hx := hA.gt x (by simp)
    rw [List.foldl_cons, List.foldl_cons]
    by_cases hl : x.a < 1099511627776
    · have e : frL Q s A x = frA Q s A x.a x.v := by unfold frL; rw [if_pos hl]
      rw [e]
      exact free_fold hA.2.2 (by omega) (h.step (by omega))
    · have e : frL Q s A x = A := by unfold frL; rw [if_neg hl]
      have hf : f = [] := by
        cases f with
        | nil => rfl
        | cons y f =>
          have h1 := hA.2.2.gt y (by simp)
          omega
      subst hf
      rw [e]
      exact h.last (by omega)
theorem free_same {Q s : Int} {f : List Lv} (hA : AscT (-1) f) : freeP Q s f = freeR Q s f := by
  unfold freeP freeR
  refine free_fold hA (by omega) ?_
  unfold frA
  by_cases h : Q - 0 < s
  · rw [if_pos h, decide_eq_false (by omega)]
    exact ⟨by dsimp only; rw [if_neg (by omega)], by dsimp only; omega, rfl⟩
  · rw [if_neg h, decide_eq_true (by omega)]
    exact ⟨rfl, by dsimp only; omega, by dsimp only; rw [if_pos (by omega), if_pos rfl]⟩
theorem frA_len (Q s : Int) (st : Int × List (Int × Int)) (t v : Int) : (frA Q s st t v).2.length ≤ st.2.length + 1 := by
  unfold frA
  split
  · dsimp only; split <;> simp
  · dsimp only; omega
theorem frL_len (Q s : Int) (st : Int × List (Int × Int)) (x : Lv) : (frL Q s st x).2.length ≤ st.2.length + 1 := by
  unfold frL
  split
  · exact frA_len ..
  · omega
def frS (Q s : Int) (f : List Lv) (k : Nat) : Int × List (Int × Int) := (f.take k).foldl (frL Q s) (frA Q s (-1, []) 0 0)
theorem frS_next (Q s : Int) {f : List Lv} {k : Nat} {x : Lv} (h : f[k]? = some x) : frS Q s f (k + 1) = frL Q s (frS Q s f k) x := by
  obtain ⟨hk, rfl⟩ := List.getElem?_eq_some_iff.1 h
  unfold frS
  rw [List.take_succ_eq_append_getElem hk, List.foldl_append]; rfl
theorem frS_len (Q s : Int) (f : List Lv) : ∀ k, (frS Q s f k).2.length ≤ k + 1
  | 0 => by
    have := frA_len Q s (-1, []) 0 0
    unfold frS; simpa using this
  | k + 1 => by
    have ih := frS_len Q s f k
    by_cases h : k < f.length
    · rw [frS_next Q s (List.getElem?_eq_getElem h)]
      have := frL_len Q s (frS Q s f k) f[k]
      omega
    · have e : frS Q s f (k + 1) = frS Q s f k := by unfold frS; rw [List.take_of_length_le (by omega), List.take_of_length_le (by omega)]
      rw [e]; omega
theorem comb_mem {F : Int → Int} : ∀ {ts : List Int} {last : Int} {x : Lv}, x ∈ comb F last ts → x.v = F x.a ∧ x.a ∈ ts
  | [], _, x, h => by simp [comb] at h
  | t :: ts, last, x, h => by
    simp only [comb] at h
    split at h
    · rcases List.mem_cons.1 h with rfl | h
      · exact ⟨rfl, by simp⟩
      · have := comb_mem h
        exact ⟨this.1, by simp [this.2]⟩
    · have := comb_mem h
      exact ⟨this.1, by simp [this.2]⟩
theorem lvH_ok {l : List Hd} {n : Int} {nq : Nat} (hok : ∀ h ∈ l, okHd nq h) (hl : l.length ≤ 600) : chkL (-1) 0 (lvH l n) = 0 := by
  unfold lvH
  obtain ⟨h1, h2⟩ := hts_sa l n
  refine comb_chk h1 (fun t ht => ?_)
  obtain ⟨h, hm, _, hx⟩ := mem_tmH.1 ((h2 t).1 ht)
  have hv := (hok h hm).2.1
  have hb := stored_bd (n := n) (t := t) hok
  unfold okV
  rcases hx with rfl | rfl <;> omega
theorem lvH_asc {l : List Hd} {n : Int} {nq : Nat} (hok : ∀ h ∈ l, okHd nq h) (hl : l.length ≤ 600) : AscT (-1) (lvH l n) := (chkL_asc _ _ _ (lvH_ok hok hl)).t
def frT (Q s : Int) (f : List Lv) (k : Nat) : (Int × Bool) × List (Int × Int) := (f.take k).foldl (frB Q s) ((0, decide (s ≤ Q)), [])
theorem frT_next (Q s : Int) {f : List Lv} {k : Nat} {x : Lv} (h : f[k]? = some x) : frT Q s f (k + 1) = frB Q s (frT Q s f k) x := by
  obtain ⟨hk, rfl⟩ := List.getElem?_eq_some_iff.1 h
  unfold frT
  rw [List.take_succ_eq_append_getElem hk, List.foldl_append]; rfl
theorem frT_len (Q s : Int) (f : List Lv) : ∀ k, (frT Q s f k).2.length ≤ k
  | 0 => by simp [frT]
  | k + 1 => by
    have ih := frT_len Q s f k
    by_cases h : k < f.length
    · rw [frT_next Q s (List.getElem?_eq_getElem h)]
      unfold frB
      dsimp only
      split
      · rw [List.length_append, List.length_singleton]; omega
      · omega
    · have e : frT Q s f (k + 1) = frT Q s f k := by unfold frT; rw [List.take_of_length_le (by omega), List.take_of_length_le (by omega)]
      rw [e]; omega
def freeRes (qs : List Int) (cs : List Ct) (l : List Hd) (n s : Int) : List (Int × Int) × Int :=
  if chkH qs cs l ≠ 0 then ([], 1) else if n < 0 ∨ (qs.length : Int) ≤ n ∨ s < 1 ∨ 65536 < s then ([], 2) else (freeP (qs.getD n.toNat 0) s (lvH l n), 0)
end Go.Step
