/- Functions put together at their times. No program in sight. No conditions. -/
import Derived.Test.YtnbihndlbopmeaaWMbAscT
import Derived.Lib.SlicesCompact
set_option linter.all false
namespace Go.Step
open Go.Lib
abbrev SA (l : List Int) : Prop := l.Pairwise (· < ·)
theorem SA.unique : ∀ {l m : List Int}, SA l → SA m → (∀ x, x ∈ l ↔ x ∈ m) → l = m
  | [], [], _, _, _ => rfl
  | [], y :: m, _, _, h => by have := (h y).2 (by simp); simp at this
  | x :: l, [], _, _, h => by have := (h x).1 (by simp); simp at this
  | x :: l, y :: m, h1, h2, h => by
    have p1 := List.pairwise_cons.1 h1
    have p2 := List.pairwise_cons.1 h2
    have hxy : x = y := by
      have a := (h x).1 (by simp)
      have b := (h y).2 (by simp)
      simp at a b
      rcases a with a | a
      · exact a
      · rcases b with b | b
        · exact b.symm
        · have := p2.1 x a; have := p1.1 y b; omega
    subst hxy
    rw [SA.unique p1.2 p2.2 (fun z => ?_)]
    constructor
    · intro hz
      have := (h z).1 (by simp [hz])
      simp at this
      rcases this with rfl | this
      · have := p1.1 z hz; omega
      · exact this
    · intro hz
      have := (h z).2 (by simp [hz])
      simp at this
      rcases this with rfl | this
      · have := p2.1 z hz; omega
      · exact this
theorem compact_up {d : Array Int} (hs : ∀ i j, i ≤ j → j < d.size → d[i]! ≤ d[j]!) : ∀ m, m ≤ d.size → SA (compactUpTo d m) ∧ (∀ x, x ∈ compactUpTo d m ↔ ∃ j, j < m ∧ d[j]! = x)
  | 0, _ => by simp [compactUpTo]
  | m + 1, hm => by
    obtain ⟨h1, h2⟩ := compact_up hs m (by omega)
    rw [compactUpTo_succ]
    by_cases hk : keeps d m = true
    · rw [if_pos hk]
      have hlt : ∀ x ∈ compactUpTo d m, x < d[m]! := by
        intro x hx
        obtain ⟨j, hj, rfl⟩ := (h2 x).1 hx
        simp only [keeps, decide_eq_true_eq] at hk
        have a := hs j (m - 1) (by omega) (by omega)
        have b := hs (m - 1) m (by omega) (by omega)
        rcases hk with hk | hk
        · omega
        · have : d[m - 1]! ≠ d[m]! := fun e => hk e.symm
          omega
      refine ⟨List.pairwise_append.2 ⟨h1, by simp, fun x hx y hy => by simp at hy; subst hy; exact hlt x hx⟩, fun x => ?_⟩
      rw [List.mem_append, h2]
      constructor
      · rintro (⟨j, hj, e⟩ | hx)
        · exact ⟨j, by omega, e⟩
        · simp at hx; exact ⟨m, by omega, hx.symm⟩
      · rintro ⟨j, hj, e⟩
        by_cases hjm : j = m
        · subst hjm; right; simp [e]
        · left; exact ⟨j, by omega, e⟩
    · rw [if_neg hk, List.append_nil]
      simp only [keeps, decide_eq_true_eq, not_or] at hk
      refine ⟨h1, fun x => ?_⟩
      rw [h2]
      constructor
      · rintro ⟨j, hj, e⟩; exact ⟨j, by omega, e⟩
      · rintro ⟨j, hj, e⟩
        by_cases hjm : j = m
        · subst hjm
          exact ⟨j - 1, by omega, by have := Classical.not_not.1 hk.2; omega⟩
        · exact ⟨j, by omega, e⟩
theorem compact_sa {l : List Int} (h : l.Pairwise (· ≤ ·)) : SA (compact l) ∧ ∀ x, x ∈ compact l ↔ x ∈ l := by
  have hs : ∀ i j, i ≤ j → j < l.toArray.size → l.toArray[i]! ≤ l.toArray[j]! := by
    intro i j hij hj
    simp only [List.size_toArray] at hj
    rw [getElem!_pos l.toArray i (by simp; omega), getElem!_pos l.toArray j (by simpa using hj)]
    simp only [List.getElem_toArray]
    rcases Nat.lt_or_ge i j with h1 | h1
    · exact List.pairwise_iff_getElem.1 h i j (by omega) hj h1
    · have : i = j := by omega
      subst this; exact Int.le_refl _
  obtain ⟨h1, h2⟩ := compact_up hs l.length (by simp)
  refine ⟨h1, fun x => ?_⟩
  show x ∈ compactUpTo l.toArray l.length ↔ _
  rw [h2, List.mem_iff_getElem]
  constructor
  · rintro ⟨j, hj, e⟩
    refine ⟨j, hj, ?_⟩
    rw [getElem!_pos l.toArray j (by simpa using hj)] at e
    simpa using e
  · rintro ⟨j, hj, e⟩
    refine ⟨j, hj, ?_⟩
    rw [getElem!_pos l.toArray j (by simpa using hj)]
    simpa using e
/-- the times of two functions, each once, in ascending order -/
def tms (f g : List Lv) : List Int := compact (((f ++ g).map (·.a)).mergeSort fun x y => decide (x ≤ y))
theorem tms_sa (f g : List Lv) : SA (tms f g) ∧ ∀ x, x ∈ tms f g ↔ ∃ l ∈ f ++ g, l.a = x := by
  have hp : (((f ++ g).map (·.a)).mergeSort fun x y => decide (x ≤ y)).Pairwise (· ≤ ·) := by
    have := List.pairwise_mergeSort (le := fun x y : Int => decide (x ≤ y)) (by intro a b c h1 h2; simp at *; omega) (by intro a b; simp; omega) ((f ++ g).map (·.a))
    exact this.imp (fun h => by simpa using h)
  obtain ⟨h1, h2⟩ := compact_sa hp
  refine ⟨h1, fun x => ?_⟩
  unfold tms
  rw [h2, List.mem_mergeSort, List.mem_map]
/-- the values at some times, without repetitions -/
def comb (F : Int → Int) (last : Int) : List Int → List Lv
  | [] => []
  | t :: ts => if F t ≠ last then ⟨t, F t⟩ :: comb F (F t) ts else comb F (F t) ts
theorem comb_append (F : Int → Int) : ∀ (ts us : List Int) (last : Int), comb F last (ts ++ us) = comb F last ts ++ comb F (if ts = [] then last else F (ts.getLastD 0)) us
  | [], us, last => rfl
  | t :: ts, us, last => by
    have ih := comb_append F ts us (F t)
    have e : (if ts = [] then F t else F (ts.getLastD 0)) = F ((t :: ts).getLastD 0) := by
      cases ts with
      | nil => rfl
      | cons u ts => simp [List.getLastD]
    rw [e] at ih
    simp only [List.cons_append, comb]
    rw [ih, if_neg (by simp : ¬ (t :: ts = []))]
    split <;> rfl
theorem comb_len (F : Int → Int) : ∀ (ts : List Int) (last : Int), (comb F last ts).length ≤ ts.length
  | [], _ => by simp [comb]
  | t :: ts, last => by
    have := comb_len F ts (F t)
    simp only [comb]
    split <;> simp <;> omega
def okV (v : Int) : Prop := -1125899906842624 ≤ v ∧ v ≤ 1125899906842624
theorem comb_chk {F : Int → Int} : ∀ {ts : List Int} {pa pv : Int}, SA ts → (∀ t ∈ ts, pa < t ∧ 0 ≤ t ∧ t ≤ 1099511627776 ∧ okV (F t)) → chkL pa pv (comb F pv ts) = 0
  | [], _, _, _, _ => rfl
  | t :: ts, pa, pv, hs, h => by
    have p := List.pairwise_cons.1 hs
    have ht := h t (by simp)
    have hr : ∀ q : Int, q ≤ t → ∀ u ∈ ts, q < u ∧ 0 ≤ u ∧ u ≤ 1099511627776 ∧ okV (F u) := fun q hq u hu => by
      have := p.1 u hu
      have := h u (by simp [hu])
      exact ⟨by omega, this.2⟩
    simp only [comb]
    unfold okV at ht
    split
    · rename_i hne
      simp only [chkL]
      rw [if_neg (by unfold badL; dsimp only; omega), if_neg (by omega)]
      exact comb_chk p.2 (hr t (Int.le_refl _))
    · rename_i he
      have he : F t = pv := Classical.not_not.1 he
      rw [he]
      exact comb_chk p.2 (hr pa (by omega))
/-- the value at the last of some times that is not later -/
def tv (F : Int → Int) (cur : Int) : List Int → Int → Int
  | [], _ => cur
  | x :: xs, t => if x ≤ t then tv F (F x) xs t else cur
theorem comb_gt {F : Int → Int} : ∀ {ts : List Int} {last p : Int}, (∀ x ∈ ts, p < x) → ∀ l ∈ comb F last ts, p < l.a
  | [], _, _, _, l, hl => by simp [comb] at hl
  | t :: ts, last, p, h, l, hl => by
    simp only [comb] at hl
    split at hl
    · simp at hl
      rcases hl with rfl | hl
      · exact h t (by simp)
      · exact comb_gt (fun x hx => h x (by simp [hx])) l hl
    · exact comb_gt (fun x hx => h x (by simp [hx])) l hl
theorem vat_comb {F : Int → Int} {t : Int} : ∀ {ts : List Int} {cur : Int}, SA ts → vat cur (comb F cur ts) t = tv F cur ts t
  | [], _, _ => rfl
  | x :: xs, cur, hs => by
    have p := List.pairwise_cons.1 hs
    simp only [tv]
    by_cases hx : x ≤ t
    · rw [if_pos hx]
      simp only [comb]
      split
      · simp only [vat]; rw [if_pos hx]; exact vat_comb p.2
      · rename_i he
        have he : F x = cur := Classical.not_not.1 he
        rw [← he]; exact vat_comb p.2
    · rw [if_neg hx]
      refine vat_late _ _ _ (fun l hl => ?_)
      have hm : l ∈ comb F cur (x :: xs) := List.mem_of_mem_head? (by simpa using hl)
      have := comb_gt (p := x - 1) (fun y hy => by
        simp at hy
        rcases hy with rfl | hy
        · omega
        · have := p.1 y hy; omega) l hm
      omega
theorem tv_eq {F : Int → Int} : ∀ {ts : List Int} {p t : Int}, SA ts → (∀ x ∈ ts, p < x) → p ≤ t → (∀ a b : Int, p ≤ a → a ≤ b → (∀ y ∈ ts, ¬ (a < y ∧ y ≤ b)) → F b = F a) → tv F (F p) ts t = F t
  | [], p, t, _, _, ht, H => (H p t (Int.le_refl _) ht (by simp)).symm
  | x :: xs, p, t, hs, hp, ht, H => by
    have q := List.pairwise_cons.1 hs
    have hpx := hp x (by simp)
    simp only [tv]
    by_cases hx : x ≤ t
    · rw [if_pos hx]
      refine tv_eq q.2 q.1 hx (fun a b h1 h2 h3 => H a b (by omega) h2 (fun y hy => ?_))
      simp at hy
      rcases hy with rfl | hy
      · omega
      · exact h3 y hy
    · rw [if_neg hx]
      refine (H p t (Int.le_refl _) ht (fun y hy => ?_)).symm
      simp at hy
      rcases hy with rfl | hy
      · omega
      · have := q.1 y hy; omega
/-- no level between two times: the same value -/
theorem vat_same : ∀ {f : List Lv} {p cur a b : Int}, AscT p f → a ≤ b → (∀ l ∈ f, ¬ (a < l.a ∧ l.a ≤ b)) → vat cur f b = vat cur f a
  | [], _, _, _, _, _, _, _ => rfl
  | l :: f, p, cur, a, b, h, hab, hn => by
    simp only [vat]
    have hl := hn l (by simp)
    by_cases h1 : l.a ≤ a
    · rw [if_pos h1, if_pos (by omega)]
      exact vat_same h.2.2 hab (fun m hm => hn m (by simp [hm]))
    · rw [if_neg h1, if_neg (by omega)]
theorem val_earlyT {f : List Lv} {p x : Int} (h : AscT p f) (hx : x ≤ p) : val f x = 0 := vat_late f 0 x (fun l hl => by
  have := (h.gt l (List.mem_of_mem_head? (by simpa using hl))).1
  omega)
/-- a function's value at every time -/
theorem comb_val {f g : List Lv} (hf : AscT (-1) f) (hg : AscT (-1) g) {op : Int → Int → Int} (h0 : op 0 0 = 0) {t : Int} (ht : -1 ≤ t) : val (comb (fun t => op (val f t) (val g t)) 0 (tms f g)) t = op (val f t) (val g t) := by
  obtain ⟨h1, h2⟩ := tms_sa f g
  have e0 : op (val f (-1)) (val g (-1)) = 0 := by rw [val_earlyT hf (Int.le_refl _), val_earlyT hg (Int.le_refl _), h0]
  have hp : ∀ x ∈ tms f g, -1 < x := fun x hx => by
    obtain ⟨l, hl, rfl⟩ := (h2 x).1 hx
    rcases List.mem_append.1 hl with hl | hl
    · exact (hf.gt l hl).1
    · exact (hg.gt l hl).1
  show vat 0 _ t = _
  rw [vat_comb h1]
  have := tv_eq (F := fun t => op (val f t) (val g t)) (p := -1) (t := t) h1 hp ht (fun a b ha hab hn => by
    have e1 : val f b = val f a := vat_same hf hab (fun l hl hx => hn l.a ((h2 l.a).2 ⟨l, by simp [hl], rfl⟩) hx)
    have e2 : val g b = val g a := vat_same hg hab (fun l hl hx => hn l.a ((h2 l.a).2 ⟨l, by simp [hl], rfl⟩) hx)
    simp only [e1, e2])
  simp only [e0] at this
  exact this
theorem tms_rng {f g : List Lv} (hf : AscT (-1) f) (hg : AscT (-1) g) : ∀ x ∈ tms f g, 0 ≤ x ∧ x ≤ 1099511627776 := fun x hx => by
  obtain ⟨l, hl, rfl⟩ := ((tms_sa f g).2 x).1 hx
  rcases List.mem_append.1 hl with hl | hl
  · have := hf.gt l hl; omega
  · have := hg.gt l hl; omega
/-- normalized functions are equal if they are at all times -/
theorem chkL_unique : ∀ {f g : List Lv} {pa pv : Int}, chkL pa pv f = 0 → chkL pa pv g = 0 → (∀ t : Int, pa < t → t ≤ 1099511627776 → vat pv f t = vat pv g t) → f = g
  | [], [], _, _, _, _, _ => rfl
  | [], m :: g, pa, pv, _, h2, H => by
    exfalso
    have hA := chkL_asc _ _ _ h2
    have := H m.a hA.1 hA.2.1
    simp only [vat] at this
    rw [if_pos (Int.le_refl _), vat_late g m.v m.a (fun l hl => (hA.2.2.2.gt l (List.mem_of_mem_head? (by simpa using hl))).1)] at this
    simp only [chkL] at h2
    split at h2
    · simp at h2
    · rw [if_pos (.inr this.symm)] at h2; simp at h2
  | l :: f, [], pa, pv, h1, _, H => by
    exfalso
    have hA := chkL_asc _ _ _ h1
    have := H l.a hA.1 hA.2.1
    simp only [vat] at this
    rw [if_pos (Int.le_refl _), vat_late f l.v l.a (fun m hm => (hA.2.2.2.gt m (List.mem_of_mem_head? (by simpa using hm))).1)] at this
    simp only [chkL] at h1
    split at h1
    · simp at h1
    · rw [if_pos (.inr this)] at h1; simp at h1
  | l :: f, m :: g, pa, pv, h1, h2, H => by
    have hA := chkL_asc _ _ _ h1
    have hB := chkL_asc _ _ _ h2
    have e1 := H l.a hA.1 hA.2.1
    have e2 := H m.a hB.1 hB.2.1
    have q1 : vat l.v f l.a = l.v := vat_late f l.v l.a (fun x hx => (hA.2.2.2.gt x (List.mem_of_mem_head? (by simpa using hx))).1)
    have q2 : vat m.v g m.a = m.v := vat_late g m.v m.a (fun x hx => (hB.2.2.2.gt x (List.mem_of_mem_head? (by simpa using hx))).1)
    simp only [vat] at e1 e2
    rw [if_pos (Int.le_refl _), q1] at e1
    rw [if_pos (Int.le_refl (m.a)), q2] at e2
    simp only [chkL] at h1 h2
    split at h1
    · simp at h1
    · split at h1
      · simp at h1
      · rename_i hl
        split at h2
        · simp at h2
        · split at h2
          · simp at h2
          · rename_i hm
            have ha : l.a = m.a := by
              rcases Int.lt_trichotomy l.a m.a with h | h | h
              · rw [if_neg (by omega)] at e1
                exact absurd e1 (by omega)
              · exact h
              · rw [if_neg (by omega)] at e2
                exact absurd e2.symm (by omega)
            rw [if_pos (by omega), ha, q2] at e1
            obtain ⟨la, lv⟩ := l
            obtain ⟨ma, mv⟩ := m
            simp only at ha e1
            subst ha e1
            congr 1
            refine chkL_unique h1 h2 (fun t ht htm => ?_)
            have := H t (by have := hA.1; simp only at this ht; omega) htm
            simp only [vat] at this
            rw [if_pos (by simp only at ht; omega), if_pos (by simp only at ht; omega)] at this
            exact this
/-- what combining answers -/
def CombP (F : Int → Int) (ts : List Int) (out : List Lv) (e : Int) : Prop :=
  ((∃ t ∈ ts, ¬ okV (F t)) ∧ out = [] ∧ e = 5) ∨ ((∀ t ∈ ts, okV (F t)) ∧ 1000 < (comb F 0 ts).length ∧ out = [] ∧ e = 4) ∨ ((∀ t ∈ ts, okV (F t)) ∧ (comb F 0 ts).length ≤ 1000 ∧ out = comb F 0 ts ∧ e = 0)
theorem CombP.unique {F : Int → Int} {ts : List Int} {o o' : List Lv} {e e' : Int} (h : CombP F ts o e) (h' : CombP F ts o' e') : o = o' ∧ e = e' := by
  rcases h with ⟨⟨t, ht, a⟩, b, c⟩ | ⟨a, b, c, d⟩ | ⟨a, b, c, d⟩ <;> rcases h' with ⟨⟨t', ht', a'⟩, b', c'⟩ | ⟨a', b', c', d'⟩ | ⟨a', b', c', d'⟩
  · exact ⟨by rw [b, b'], by rw [c, c']⟩
  · exact absurd (a' t ht) a
  · exact absurd (a' t ht) a
  · exact absurd (a t' ht') a'
  · exact ⟨by rw [c, c'], by rw [d, d']⟩
  · omega
  · exact absurd (a t' ht') a'
  · omega
  · exact ⟨by rw [c, c'], by rw [d, d']⟩
theorem CombP.ok {f g : List Lv} (hf : AscT (-1) f) (hg : AscT (-1) g) {op : Int → Int → Int} (h0 : op 0 0 = 0) {out : List Lv} (h : CombP (fun t => op (val f t) (val g t)) (tms f g) out 0) : chkS out = 0 ∧ ∀ t : Int, -1 ≤ t → val out t = op (val f t) (val g t) := by
  rcases h with ⟨_, _, h⟩ | ⟨_, _, _, h⟩ | ⟨h1, h2, rfl, _⟩
  · simp at h
  · simp at h
  · refine ⟨?_, fun t ht => comb_val hf hg h0 ht⟩
    unfold chkS
    rw [if_neg (by omega)]
    exact comb_chk (tms_sa f g).1 (fun t ht => by
      have := tms_rng hf hg t ht
      exact ⟨by omega, this.1, this.2, h1 t ht⟩)
/-- what Sum answers -/
def SumR (f g out : List Lv) (e : Int) : Prop :=
  ((chkS f ≠ 0 ∨ chkS g ≠ 0) ∧ out = [] ∧ e = 1) ∨ (chkS f = 0 ∧ chkS g = 0 ∧ CombP (fun t => val f t + val g t) (tms f g) out e)
theorem SumR.unique {f g o o' : List Lv} {e e' : Int} (h : SumR f g o e) (h' : SumR f g o' e') : o = o' ∧ e = e' := by
  rcases h with ⟨a, b, c⟩ | ⟨a, b, c⟩ <;> rcases h' with ⟨a', b', c'⟩ | ⟨a', b', c'⟩
  · exact ⟨by rw [b, b'], by rw [c, c']⟩
  · rcases a with a | a
    · exact absurd a' a
    · exact absurd b' a
  · rcases a' with a' | a'
    · exact absurd a a'
    · exact absurd b a'
  · exact c.unique c'
/-- what is added in an interval -/
def bump (fr to d : Int) : List Lv := [⟨fr, d⟩, ⟨to, 0⟩]
theorem bump_asc {fr to d : Int} (h : 0 ≤ fr ∧ fr < to ∧ to ≤ 1099511627776) : AscT (-1) (bump fr to d) := ⟨by dsimp only; omega, by dsimp only; omega, by dsimp only; omega, by dsimp only; omega, trivial⟩
theorem bump_val (fr to d t : Int) (h : fr < to) : val (bump fr to d) t = if fr ≤ t ∧ t < to then d else 0 := by
  simp only [val, bump, vat]
  by_cases h1 : fr ≤ t
  · rw [if_pos h1]
    by_cases h2 : to ≤ t
    · rw [if_pos h2, if_neg (by omega)]
    · rw [if_neg h2, if_pos (by omega)]
  · rw [if_neg h1, if_neg (by omega)]
/-- what Add answers -/
def AddR (f : List Lv) (fr to d : Int) (out : List Lv) (e : Int) : Prop :=
  (chkS f ≠ 0 ∧ out = [] ∧ e = 1) ∨ (chkS f = 0 ∧ (¬ (0 ≤ fr ∧ fr ≤ to ∧ to ≤ 1099511627776) ∨ d < -2251799813685248 ∨ 2251799813685248 < d) ∧ out = [] ∧ e = 2) ∨
  (chkS f = 0 ∧ (0 ≤ fr ∧ fr ≤ to ∧ to ≤ 1099511627776) ∧ (-2251799813685248 ≤ d ∧ d ≤ 2251799813685248) ∧ fr = to ∧ out = f ∧ e = 0) ∨
  (chkS f = 0 ∧ (0 ≤ fr ∧ fr < to ∧ to ≤ 1099511627776) ∧ (-2251799813685248 ≤ d ∧ d ≤ 2251799813685248) ∧ CombP (fun t => val f t + val (bump fr to d) t) (tms f (bump fr to d)) out e)
theorem AddR.unique {f o o' : List Lv} {fr to d e e' : Int} (h : AddR f fr to d o e) (h' : AddR f fr to d o' e') : o = o' ∧ e = e' := by
  rcases h with ⟨a, b, c⟩ | ⟨a, b, c, x⟩ | ⟨a, b, c, x, y, z⟩ | ⟨a, b, c, x⟩ <;> rcases h' with ⟨a', b', c'⟩ | ⟨a', b', c', x'⟩ | ⟨a', b', c', x', y', z'⟩ | ⟨a', b', c', x'⟩
  all_goals first
    | exact absurd a' a
    | exact absurd a a'
    | exact ⟨by rw [b, b'], by rw [c, c']⟩
    | exact ⟨by rw [c, c'], by rw [x, x']⟩
    | exact ⟨by rw [y, y'], by rw [z, z']⟩
    | exact x.unique x'
    | omega
    | (clear x'; omega)
    | (clear x; omega)
/-- adding changes the value in the interval, and nothing else -/
theorem AddR.ok {f out : List Lv} {fr to d : Int} (h : AddR f fr to d out 0) : chkS f = 0 ∧ chkS out = 0 ∧ ∀ t : Int, -1 ≤ t → val out t = val f t + if fr ≤ t ∧ t < to then d else 0 := by
  rcases h with ⟨_, _, h⟩ | ⟨_, _, _, h⟩ | ⟨a, b, c, x, rfl, _⟩ | ⟨a, b, c, x⟩
  · simp at h
  · simp at h
  · exact ⟨a, a, fun t ht => by rw [if_neg (by omega)]; omega⟩
  · obtain ⟨h1, h2⟩ := CombP.ok (op := (· + ·)) (chkS_ok a).2.t (bump_asc b) rfl x
    refine ⟨a, h1, fun t ht => ?_⟩
    rw [h2 t ht, bump_val fr to d t b.2.1]
theorem chkS_unique {f g : List Lv} (hf : chkS f = 0) (hg : chkS g = 0) (h : ∀ t : Int, -1 ≤ t → val f t = val g t) : f = g := by
  have hf1 := (chkS_ok hf).1
  have hg1 := (chkS_ok hg).1
  unfold chkS at hf hg
  rw [if_neg (by omega)] at hf hg
  exact chkL_unique hf hg (fun t ht _ => h t (by omega))
end Go.Step
