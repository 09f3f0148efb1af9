/- Texts of this proof, one after the other; no conditions. -/
import Derived.Test.YthdoegkjifgegaaGreatRows
import Derived.Test.YthdoegkjifgegaaGreatWB4
import Derived.Test.YthdoegkjifgegaaGreatWB3
import Derived.Test.YthdoegkjifgegaaGreatWB2
import Derived.Test.YthdoegkjifgegaaGreatWB1
set_option linter.all false
/- One more hold, holds released: plain. No conditions. -/
namespace Go.Step
open Go.Eng
/-- an element put behind all that are not greater -/
def insW {α : Type} (p : α → Bool) (l : List α) (h : α) : List α := l.takeWhile p ++ h :: l.dropWhile p
theorem insW_len {α : Type} (p : α → Bool) (l : List α) (h : α) : (insW p l h).length = l.length + 1 := by
  have := congrArg List.length (List.takeWhile_append_dropWhile (p := p) (l := l))
  unfold insW
  rw [List.length_append] at *
  rw [List.length_cons]; omega
theorem insW_mem {α : Type} (p : α → Bool) (l : List α) (h x : α) : x ∈ insW p l h ↔ x = h ∨ x ∈ l := by
  have e := List.takeWhile_append_dropWhile (p := p) (l := l)
  have : x ∈ l ↔ x ∈ l.takeWhile p ++ l.dropWhile p := by rw [e]
  unfold insW
  rw [this]
  simp only [List.mem_append, List.mem_cons]
  constructor
  · rintro (h | h | h)
    · exact .inr (.inl h)
    · exact .inl h
    · exact .inr (.inr h)
  · rintro (h | h | h)
    · exact .inr (.inl h)
    · exact .inl h
    · exact .inr (.inr h)
theorem insW_tail {α : Type} {cmp : α → α → Int} {h : α} (hanti : ∀ x, cmp x h = 0 → x = h) : ∀ (m : List α), (∀ x ∈ m, 0 ≤ cmp x h) → insW (fun x => decide (cmp x h ≤ 0)) m h = h :: m
  | [], _ => rfl
  | x :: m, hm => by
    have ih := insW_tail hanti m (fun y hy => hm y (by simp [hy]))
    have hx := hm x (by simp)
    unfold insW at ih ⊢
    by_cases c : cmp x h ≤ 0
    · have e := hanti x (by omega)
      subst e
      rw [List.takeWhile_cons_of_pos (by simpa using c), List.dropWhile_cons_of_pos (by simpa using c), List.cons_append, ih]
    · rw [List.takeWhile_cons_of_neg (by simpa using c), List.dropWhile_cons_of_neg (by simpa using c)]
      rfl
theorem insW_pre {α : Type} {p : α → Bool} {h : α} : ∀ (a b : List α), (∀ x ∈ a, p x = true) → insW p (a ++ b) h = a ++ insW p b h
  | [], b, _ => rfl
  | x :: a, b, hm => by
    have ih := insW_pre (h := h) a b (fun y hy => hm y (by simp [hy]))
    have hx := hm x (by simp)
    unfold insW at ih ⊢
    rw [List.cons_append, List.takeWhile_cons_of_pos hx, List.dropWhile_cons_of_pos hx, List.cons_append, ih, List.cons_append]
theorem insL_W {α : Type} {cmp : α → α → Int} {h : α} (hanti : ∀ x, cmp x h = 0 → x = h) (l : List α) (k : Nat) (h1 : ∀ x ∈ l.take k, cmp x h < 0) (h2 : ∀ x ∈ l.drop k, 0 ≤ cmp x h) : insL l k h = insW (fun x => decide (cmp x h ≤ 0)) l h := by
  have e : insW (fun x => decide (cmp x h ≤ 0)) (l.take k ++ l.drop k) h = l.take k ++ insW (fun x => decide (cmp x h ≤ 0)) (l.drop k) h := insW_pre _ _ (fun x hx => by have := h1 x hx; simpa using (by omega : cmp x h ≤ 0))
  rw [List.take_append_drop] at e
  rw [e, insW_tail hanti _ h2]
  rfl
/-- the order of holds -/
def leH (x y : Hd) : Prop := x.n < y.n ∨ (x.n = y.n ∧ (x.a < y.a ∨ (x.a = y.a ∧ (x.b < y.b ∨ (x.b = y.b ∧ (x.k < y.k ∨ (x.k = y.k ∧ x.s ≤ y.s)))))))
theorem cmpI_cases (a b : Int) : (a < b ∧ cmpI a b = -1) ∨ (a = b ∧ cmpI a b = 0) ∨ (b < a ∧ cmpI a b = 1) := by
  unfold cmpI
  by_cases h : a < b
  · exact .inl ⟨h, by rw [if_pos h]⟩
  · by_cases h2 : b < a
    · exact .inr (.inr ⟨h2, by rw [if_neg h, if_pos h2]⟩)
    · exact .inr (.inl ⟨by omega, by rw [if_neg h, if_neg h2]⟩)
theorem orI_cmp (a b : Int) (l : List Int) : (a < b ∧ orI (cmpI a b :: l) = -1) ∨ (a = b ∧ orI (cmpI a b :: l) = orI l) ∨ (b < a ∧ orI (cmpI a b :: l) = 1) := by
  have e : orI (cmpI a b :: l) = if cmpI a b ≠ 0 then cmpI a b else orI l := rfl
  rcases cmpI_cases a b with ⟨h1, h2⟩ | ⟨h1, h2⟩ | ⟨h1, h2⟩
  · exact .inl ⟨h1, by rw [e, h2]; rfl⟩
  · exact .inr (.inl ⟨h1, by rw [e, h2]; rfl⟩)
  · exact .inr (.inr ⟨h1, by rw [e, h2]; rfl⟩)
theorem cmpHd_le (x y : Hd) : cmpHd x y ≤ 0 ↔ leH x y := by
  unfold cmpHd leH
  rcases orI_cmp x.n y.n [cmpI x.a y.a, cmpI x.b y.b, cmpI x.k y.k, cmpI x.s y.s] with ⟨h1, e⟩ | ⟨h1, e⟩ | ⟨h1, e⟩
  · rw [e]; omega
  · rw [e]
    rcases orI_cmp x.a y.a [cmpI x.b y.b, cmpI x.k y.k, cmpI x.s y.s] with ⟨h2, e⟩ | ⟨h2, e⟩ | ⟨h2, e⟩
    · rw [e]; omega
    · rw [e]
      rcases orI_cmp x.b y.b [cmpI x.k y.k, cmpI x.s y.s] with ⟨h3, e⟩ | ⟨h3, e⟩ | ⟨h3, e⟩
      · rw [e]; omega
      · rw [e]
        rcases orI_cmp x.k y.k [cmpI x.s y.s] with ⟨h4, e⟩ | ⟨h4, e⟩ | ⟨h4, e⟩
        · rw [e]; omega
        · rw [e]
          rcases orI_cmp x.s y.s [] with ⟨h5, e⟩ | ⟨h5, e⟩ | ⟨h5, e⟩
          · rw [e]; omega
          · rw [e]; simp only [orI]; omega
          · rw [e]; omega
        · rw [e]; omega
      · rw [e]; omega
    · rw [e]; omega
  · rw [e]; omega
theorem cmpHd_trans {x y z : Hd} (h1 : cmpHd x y ≤ 0) (h2 : cmpHd y z ≤ 0) : cmpHd x z ≤ 0 := by
  rw [cmpHd_le] at *
  unfold leH at *
  omega
theorem cmpHd_anti {x y : Hd} (h : cmpHd x y = 0) : x = y := by
  have h1 := (cmpHd_le x y).1 (by omega)
  have h2 := (cmpHd_le y x).1 (by have := cmpHd_neg x y; omega)
  unfold leH at *
  obtain ⟨a, b, c, d, e⟩ := x
  obtain ⟨a', b', c', d', e'⟩ := y
  simp only [Hd.mk.injEq] at *
  omega
theorem cmpHd_lt_trans {x y z : Hd} (h1 : cmpHd x y ≤ 0) (h2 : cmpHd y z < 0) : cmpHd x z < 0 := by
  have h3 := cmpHd_trans h1 (by omega : cmpHd y z ≤ 0)
  by_cases c : cmpHd x z = 0
  · have := cmpHd_anti c
    subst this
    have := cmpHd_neg x y
    omega
  · omega
abbrev SortH (l : List Hd) : Prop := l.Pairwise (fun x y => cmpHd x y ≤ 0)
theorem sortH_of {nq : Nat} {l : List Hd} (h : firstE (hdE nq l) l.length = 0) : SortH l := by
  rw [SortH, List.pairwise_iff_getElem]
  have step : ∀ i (hi : i + 1 < l.length), cmpHd l[i] l[i + 1] ≤ 0 := fun i hi => by
    have h2 := firstE_zero h (i + 1) hi
    rw [hdE_at (List.getElem?_eq_getElem hi)] at h2
    have e : l.getD (i + 1 - 1) l[i + 1] = l[i] := by simp [List.getD_eq_getElem?_getD, List.getElem?_eq_getElem (by omega : i < l.length)]
    rw [e] at h2
    by_cases c : okHd nq l[i + 1]
    · rw [if_neg (by simpa using c)] at h2
      by_cases c2 : 0 < cmpHd l[i] l[i + 1]
      · rw [if_pos ⟨by omega, c2⟩] at h2; omega
      · omega
    · rw [if_pos c] at h2; omega
  intro i j hi hj hij
  induction j with
  | zero => omega
  | succ j ih =>
    by_cases c : i = j
    · subst c; exact step i hj
    · exact cmpHd_trans (ih (by omega) (by omega)) (step j hj)
theorem sortH_first {nq : Nat} {l : List Hd} (hok : ∀ x ∈ l, okHd nq x) (hs : SortH l) : firstE (hdE nq l) l.length = 0 := by
  refine firstE_all (fun k hk => ?_)
  rw [hdE_at (List.getElem?_eq_getElem hk), if_neg (by simpa using hok _ (List.getElem_mem hk))]
  refine if_neg (fun ⟨h0, h1⟩ => ?_)
  have e : l.getD (k - 1) l[k] = l[k - 1] := by simp [List.getD_eq_getElem?_getD, List.getElem?_eq_getElem (by omega : k - 1 < l.length)]
  rw [e] at h1
  have := List.pairwise_iff_getElem.1 hs (k - 1) k (by omega) hk (by omega)
  omega
def insH (l : List Hd) (h : Hd) : List Hd := insW (fun x => decide (cmpHd x h ≤ 0)) l h
theorem insH_sort {l : List Hd} (hs : SortH l) (h : Hd) : SortH (insH l h) := by
  have e := List.takeWhile_append_dropWhile (p := fun x => decide (cmpHd x h ≤ 0)) (l := l)
  unfold insH insW
  have hs2 : SortH (l.takeWhile (fun x => decide (cmpHd x h ≤ 0)) ++ l.dropWhile (fun x => decide (cmpHd x h ≤ 0))) := by rw [e]; exact hs
  obtain ⟨p1, p2, p3⟩ := List.pairwise_append.1 hs2
  have ht : ∀ x ∈ l.takeWhile (fun x => decide (cmpHd x h ≤ 0)), cmpHd x h ≤ 0 := fun x hx => by
    have := List.all_eq_true.1 (List.all_takeWhile (p := fun x => decide (cmpHd x h ≤ 0)) (l := l)) x hx
    simpa using this
  have hd : ∀ x ∈ l.dropWhile (fun x => decide (cmpHd x h ≤ 0)), cmpHd h x ≤ 0 := by
    generalize hm : l.dropWhile (fun x => decide (cmpHd x h ≤ 0)) = m at *
    cases m with
    | nil => simp
    | cons y m =>
      have hy : ¬ cmpHd y h ≤ 0 := by
        have := List.head?_dropWhile_not (fun x => decide (cmpHd x h ≤ 0)) l
        rw [hm] at this
        simpa using this
      have hy2 : cmpHd h y ≤ 0 := by have := cmpHd_neg h y; omega
      intro x hx
      rcases List.mem_cons.1 hx with rfl | hx
      · exact hy2
      · exact cmpHd_trans hy2 ((List.pairwise_cons.1 p2).1 x hx)
  refine List.pairwise_append.2 ⟨p1, List.pairwise_cons.2 ⟨hd, p2⟩, fun x hx y hy => ?_⟩
  rcases List.mem_cons.1 hy with rfl | hy
  · exact ht x hx
  · exact p3 x hx y hy
theorem stored_append (a b : List Hd) (n t : Int) : stored (a ++ b) n t = stored a n t + stored b n t := by
  induction a with
  | nil => simp [stored]
  | cons h a ih => simp only [List.cons_append, stored, ih]; omega
theorem stored_ins (l : List Hd) (h : Hd) (n t : Int) : stored (insH l h) n t = stored l n t + if h.n = n ∧ h.a ≤ t ∧ t < h.b then h.s else 0 := by
  have e := List.takeWhile_append_dropWhile (p := fun x => decide (cmpHd x h ≤ 0)) (l := l)
  have e2 : stored l n t = stored (l.takeWhile (fun x => decide (cmpHd x h ≤ 0))) n t + stored (l.dropWhile (fun x => decide (cmpHd x h ≤ 0))) n t := by rw [← stored_append, e]
  unfold insH insW
  rw [stored_append, e2]
  simp only [stored]
  omega
theorem fitB_iff {qs : List Int} {l : List Hd} : fitB qs l = true ↔ ∀ h ∈ l, stored l h.n h.a ≤ qs.getD h.n.toNat 0 := by
  unfold fitB
  rw [List.all_eq_true]
  simp
/-- whether one more fits, by its node alone -/
theorem fit_ins {qs : List Int} {l : List Hd} {h : Hd} (hok : ∀ x ∈ l, okHd qs.length x) (hh : okHd qs.length h) (hf : fitB qs l = true) (hQ : 0 ≤ qs.getD h.n.toNat 0) : fitB qs (insH l h) = decide (mostL (lvH (insH l h) h.n) ≤ qs.getD h.n.toNat 0) := by
  have hok2 : ∀ x ∈ insH l h, okHd qs.length x := fun x hx => by
    rcases (insW_mem _ l h x).1 hx with rfl | hx
    · exact hh
    · exact hok x hx
  rw [fitB_iff] at hf
  by_cases c : mostL (lvH (insH l h) h.n) ≤ qs.getD h.n.toNat 0
  · rw [decide_eq_true c, fitB_iff]
    have c2 := (most_fits hok2 hQ).1 c
    intro x hx
    by_cases e : x.n = h.n
    · rw [e]; exact c2 x hx e
    · rcases (insW_mem _ l h x).1 hx with rfl | hx2
      · exact absurd rfl e
      · rw [stored_ins, if_neg (fun k => e k.1.symm), Int.add_zero]; exact hf x hx2
  · rw [decide_eq_false c]
    by_cases d : fitB qs (insH l h) = true
    · refine absurd ((most_fits hok2 hQ).2 (fun x hx e => ?_)) c
      have := fitB_iff.1 d x hx
      rw [e] at this; exact this
    · simpa using d
/-- one more hold -/
def addR (qs : List Int) (cs : List Ct) (l : List Hd) (h : Hd) : List Hd × Int :=
  if chkH qs cs l ≠ 0 then ([], 1) else if ¬ okHd qs.length h then ([], 2) else if l.length = 512 then ([], 4) else if fitB qs (insH l h) then (insH l h, 0) else ([], 15)
end Go.Step
/- The parts of an interval, found one by one. No program in sight. No conditions. -/
namespace Go.Step
/-- where the part that begins at fr ends -/
def nx (fr to : Int) : List Lv → Int
  | [] => to
  | l :: f => if fr < l.a then min l.a to else nx fr to f
end Go.Step
/- The greatest and the least value, where a function is low; the times of two functions, merged. No program in sight. No conditions. -/
namespace Go.Step
abbrev Pt := (Int × Int) × Int
/-! times, merged -/
structure TInv (f g : List Lv) (i k : Nat) (out : List Int) : Prop where
  sa : SA out
  mem : ∀ x, x ∈ out ↔ ∃ l ∈ f.take i ++ g.take k, l.a = x
  f : ∀ x ∈ out, ∀ l ∈ f.drop i, x ≤ l.a
  g : ∀ x ∈ out, ∀ l ∈ g.drop k, x ≤ l.a
theorem TInv.zero (f g : List Lv) : TInv f g 0 0 [] := ⟨by simp, by simp, by simp, by simp⟩
theorem TInv.done {f g : List Lv} {out : List Int} (h : TInv f g f.length g.length out) : out = tms f g := by
  obtain ⟨h1, h2⟩ := tms_sa f g
  refine SA.unique h.sa h1 (fun x => ?_)
  rw [h.mem, h2, List.take_length, List.take_length]
theorem SA.len : ∀ {out : List Int} {f : List Int}, SA out → (∀ x ∈ out, x ∈ f) → out.length ≤ f.length
  | [], _, _, _ => by simp
  | x :: out, f, h, hm => by
    have p := List.pairwise_cons.1 h
    have hx := hm x (by simp)
    have := SA.len (f := f.erase x) p.2 (fun y hy => by
      have h1 := hm y (by simp [hy])
      have h2 := p.1 y hy
      exact (List.mem_erase_of_ne (by omega)).2 h1)
    rw [List.length_erase_of_mem hx] at this
    have : 0 < f.length := List.length_pos_iff.2 (fun e => by subst e; simp at hx)
    simp; omega
theorem TInv.len {f g : List Lv} {i k : Nat} {out : List Int} (h : TInv f g i k out) : out.length ≤ f.length + g.length := by
  have := SA.len (f := (f ++ g).map (·.a)) h.sa (fun x hx => by
    obtain ⟨l, hl, rfl⟩ := (h.mem x).1 hx
    rw [List.mem_map]
    refine ⟨l, ?_, rfl⟩
    simp at hl ⊢
    rcases hl with hl | hl
    · exact .inl (List.mem_of_mem_take hl)
    · exact .inr (List.mem_of_mem_take hl))
  simpa using this
end Go.Step
namespace Go.Step
theorem AddR.err0 {f out : List Lv} {fr to d e : Int} (h : AddR f fr to d out e) (h0 : chkS f = 0) (hs : 0 ≤ fr ∧ fr ≤ to ∧ to ≤ 1099511627776) (hd : -2251799813685248 ≤ d ∧ d ≤ 2251799813685248) (hv : ∀ t, okV (val f t + if fr ≤ t ∧ t < to then d else 0)) (hl : f.length ≤ 998) : e = 0 := by
  rcases h with ⟨a, _⟩ | ⟨_, a, _⟩ | ⟨_, _, _, _, _, a⟩ | ⟨a, b, c, x⟩
  · exact absurd h0 a
  · omega
  · exact a
  · rcases x with ⟨⟨t, _, ht⟩, _⟩ | ⟨_, hbig, _⟩ | ⟨_, _, _, he⟩
    · have := hv t
      dsimp only at ht
      rw [bump_val fr to d t b.2.1] at ht
      exact absurd this ht
    · have h1 := comb_len (fun t => val f t + val (bump fr to d) t) (tms f (bump fr to d)) 0
      obtain ⟨hsa, hmem⟩ := tms_sa f (bump fr to d)
      have h2 := SA.len (f := (f ++ bump fr to d).map (·.a)) hsa (fun x hx => by
        obtain ⟨l, hl, rfl⟩ := (hmem x).1 hx
        exact List.mem_map.2 ⟨l, hl, rfl⟩)
      rw [List.length_map, List.length_append] at h2
      have : (bump fr to d).length = 2 := rfl
      omega
    · exact he
end Go.Step
namespace Go.Step
theorem CombP.len {F : Int → Int} {ts : List Int} {out : List Lv} {e : Int} (h : CombP F ts out e) : out.length ≤ 1000 := by
  rcases h with ⟨_, rfl, _⟩ | ⟨_, _, rfl, _⟩ | ⟨_, h, rfl, _⟩
  · simp
  · simp
  · exact h
theorem AddR.len {f out : List Lv} {fr to d e : Int} (h : AddR f fr to d out e) : out.length ≤ 1000 := by
  rcases h with ⟨_, rfl, _⟩ | ⟨_, _, rfl, _⟩ | ⟨a, _, _, _, rfl, _⟩ | ⟨_, _, _, hP⟩
  · simp
  · simp
  · exact (chkS_ok a).1
  · exact hP.len
theorem SumR.len {f g out : List Lv} {e : Int} (h : SumR f g out e) : out.length ≤ 1000 := by
  rcases h with ⟨_, rfl, _⟩ | ⟨_, _, hP⟩
  · simp
  · exact hP.len
end Go.Step
namespace Go.Step
theorem tms_len (f g : List Lv) : (tms f g).length ≤ f.length + g.length := by
  obtain ⟨hsa, hmem⟩ := tms_sa f g
  have h2 := SA.len (f := (f ++ g).map (·.a)) hsa (fun x hx => by
    obtain ⟨l, hl, rfl⟩ := (hmem x).1 hx
    exact List.mem_map.2 ⟨l, hl, rfl⟩)
  rw [List.length_map, List.length_append] at h2
  exact h2
theorem CombP.len2 {F : Int → Int} {ts : List Int} {out : List Lv} {e : Int} (h : CombP F ts out e) : out.length ≤ ts.length := by
  rcases h with ⟨_, rfl, _⟩ | ⟨_, _, rfl, _⟩ | ⟨_, _, rfl, _⟩
  · simp
  · simp
  · exact comb_len F ts 0
theorem AddR.len2 {f out : List Lv} {fr to d e : Int} (h : AddR f fr to d out e) : out.length ≤ f.length + 2 := by
  rcases h with ⟨_, rfl, _⟩ | ⟨_, _, rfl, _⟩ | ⟨a, _, _, _, rfl, _⟩ | ⟨_, _, _, hP⟩
  · simp
  · simp
  · omega
  · have := hP.len2
    have := tms_len f (bump fr to d)
    have : (bump fr to d).length = 2 := rfl
    omega
theorem okV_val {f : List Lv} (h : chkS f = 0) (t : Int) : okV (val f t) := by
  have hA := (chkS_ok h).2
  rcases vat_mem f 0 t with e | ⟨l, hl, e⟩
  · unfold okV val; rw [e]; omega
  · unfold okV val
    rw [e]
    have := hA.gt l hl
    omega
theorem AddR.cond {f out : List Lv} {fr to d : Int} (h : AddR f fr to d out 0) : (0 ≤ fr ∧ fr ≤ to ∧ to ≤ 1099511627776) ∧ -2251799813685248 ≤ d ∧ d ≤ 2251799813685248 := by
  rcases h with ⟨_, _, h⟩ | ⟨_, _, _, h⟩ | ⟨_, b, c, _⟩ | ⟨_, b, c, _⟩
  · simp at h
  · simp at h
  · exact ⟨b, c⟩
  · exact ⟨by omega, c⟩
/-- adding is undone -/
theorem AddR.back {f p out : List Lv} {fr to d e : Int} (h : AddR f fr to d p 0) (hl : f.length ≤ 900) (h' : AddR p fr to (-d) out e) : e = 0 ∧ out = f := by
  obtain ⟨c1, c2, c3⟩ := h.cond
  obtain ⟨h1, h2, h3⟩ := h.ok
  have hlp := h.len2
  have hneg : ∀ t : Int, -1 ≤ t → val p t + (if fr ≤ t ∧ t < to then -d else 0) = val f t := fun t ht => by
    rw [h3 t ht]
    by_cases hc : fr ≤ t ∧ t < to
    · rw [if_pos hc, if_pos hc]; omega
    · rw [if_neg hc, if_neg hc]; omega
  have he : e = 0 := h'.err0 h2 c1 (by omega) (fun t => by
    by_cases ht : -1 ≤ t
    · rw [hneg t ht]; exact okV_val h1 t
    · rw [if_neg (by omega)]
      have := okV_val h2 t
      unfold okV at this ⊢
      omega) (by omega)
  subst he
  obtain ⟨_, k2, k3⟩ := h'.ok
  exact ⟨rfl, chkS_unique k2 h1 (fun t ht => by rw [k3 t ht, hneg t ht])⟩
theorem AddR.swap {f p q r s : List Lv} {a1 a2 a b1 b2 b : Int} (h1 : AddR f a1 a2 a p 0) (h2 : AddR p b1 b2 b q 0) (h3 : AddR f b1 b2 b r 0) (h4 : AddR r a1 a2 a s 0) : q = s := by
  obtain ⟨_, _, e1⟩ := h1.ok
  obtain ⟨_, k2, e2⟩ := h2.ok
  obtain ⟨_, _, e3⟩ := h3.ok
  obtain ⟨_, k4, e4⟩ := h4.ok
  exact chkS_unique k2 k4 (fun t ht => by rw [e2 t ht, e1 t ht, e4 t ht, e3 t ht]; omega)
theorem SumR.ok {f g o : List Lv} (h : SumR f g o 0) : chkS f = 0 ∧ chkS g = 0 ∧ chkS o = 0 ∧ ∀ t : Int, -1 ≤ t → val o t = val f t + val g t := by
  rcases h with ⟨_, _, h⟩ | ⟨a, b, c⟩
  · simp at h
  · obtain ⟨h1, h2⟩ := CombP.ok (op := (· + ·)) (chkS_ok a).2.t (chkS_ok b).2.t rfl c
    exact ⟨a, b, h1, h2⟩
end Go.Step
/- Parts cover an interval; greatest and least values are values. No program in sight. No conditions. -/
namespace Go.Step
end Go.Step
/- Where a function is low: intervals apart from each other. No program in sight. No conditions. -/
namespace Go.Step
/-- parts that follow on each other -/
def Chn (a : Int) : List Pt → Int → Prop
  | [], b => a = b
  | p :: ps, b => p.1.1 = a ∧ a < p.1.2 ∧ Chn p.1.2 ps b
def Cov (l : List (Int × Int)) (t : Int) : Prop := ∃ s ∈ l, s.1 ≤ t ∧ t < s.2
structure Apart (lo a : Int) (l : List (Int × Int)) : Prop where
  ok : ∀ s ∈ l, lo ≤ s.1 ∧ s.1 < s.2 ∧ s.2 ≤ a
  sep : l.Pairwise (fun s t => s.2 < t.1)
end Go.Step
/- The free spans of a node are exactly the times with room. No program in sight. No conditions. -/
namespace Go.Step
structure InvF (Q s : Int) (G : Int → Int) (T v : Int) (st : Int × List (Int × Int)) : Prop where
  ap : Apart 0 T st.2
  fr : st.1 = -1 ∨ (0 ≤ st.1 ∧ st.1 ≤ T ∧ ∀ u ∈ st.2, u.2 < st.1)
  cov : ∀ t, 0 ≤ t → t < T → ((Cov st.2 t ∨ (0 ≤ st.1 ∧ st.1 ≤ t)) ↔ G t + s ≤ Q)
  now : 0 ≤ st.1 ↔ v + s ≤ Q
theorem cov_snoc (l : List (Int × Int)) (x : Int × Int) (t : Int) : Cov (l ++ [x]) t ↔ Cov l t ∨ (x.1 ≤ t ∧ t < x.2) := by
  unfold Cov
  constructor
  · rintro ⟨s, hs, h⟩
    rcases List.mem_append.1 hs with hs | hs
    · exact .inl ⟨s, hs, h⟩
    · simp only [List.mem_singleton] at hs; subst hs; exact .inr h
  · rintro (⟨s, hs, h⟩ | h)
    · exact ⟨s, by simp [hs], h⟩
    · exact ⟨x, by simp, h⟩
theorem apart_snoc {T T' : Int} {l : List (Int × Int)} {x : Int × Int} (h : Apart 0 T l) (hT : T ≤ T') (hx : 0 ≤ x.1 ∧ x.1 < x.2 ∧ x.2 ≤ T') (hs : ∀ u ∈ l, u.2 < x.1) : Apart 0 T' (l ++ [x]) := by
  refine ⟨fun s hm => ?_, List.pairwise_append.2 ⟨h.sep, by simp, fun a ha b hb => ?_⟩⟩
  · rcases List.mem_append.1 hm with hm | hm
    · have := h.ok s hm; omega
    · simp only [List.mem_singleton] at hm; subst hm; exact hx
  · simp only [List.mem_singleton] at hb; subst hb; exact hs a ha
theorem apart_mono {T T' : Int} {l : List (Int × Int)} (h : Apart 0 T l) (hT : T ≤ T') : Apart 0 T' l := ⟨fun s hm => by have := h.ok s hm; omega, h.sep⟩
theorem InvF.step {Q s : Int} {G : Int → Int} {T v : Int} {st : Int × List (Int × Int)} (h : InvF Q s G T v st) {T' v' : Int} (h0 : 0 ≤ T) (hT : T < T' ∨ (T = T' ∧ st.2 = [])) (hG : ∀ t, T ≤ t → t < T' → G t = v) : InvF Q s G T' v' (frA Q s st T' v') := by
  have hle : T ≤ T' := by omega
  obtain ⟨fr, out⟩ := st
  obtain ⟨hap, hfr, hcov, hnow⟩ := h
  dsimp only at hap hfr hcov hnow hT
  unfold frA
  by_cases hc : Q - v' < s
  · rw [if_pos hc]
    dsimp only
    by_cases ho : 0 ≤ fr ∧ fr < T'
    · rw [if_pos ho]
      have hsep : ∀ u ∈ out, u.2 < fr := by rcases hfr with h | h; omega; exact h.2.2
      refine ⟨apart_snoc hap hle ⟨ho.1, ho.2, Int.le_refl _⟩ hsep, .inl rfl, fun t ht ht2 => ?_, by constructor <;> intro h <;> omega⟩
      dsimp only
      rw [cov_snoc]
      dsimp only
      by_cases c : t < T
      · have := hcov t ht c
        rw [← this]
        constructor
        · rintro ((h | h) | h)
          · exact .inl h
          · exact .inr ⟨ho.1, h.1⟩
          · omega
        · rintro (h | h)
          · exact .inl (.inl h)
          · exact .inl (.inr ⟨h.2, ht2⟩)
      · rw [hG t (by omega) ht2]
        have := hnow.1 ho.1
        constructor
        · intro _; exact this
        · intro _
          refine .inl (.inr ⟨?_, ht2⟩)
          rcases hfr with h | h <;> omega
    · rw [if_neg ho]
      refine ⟨apart_mono hap hle, .inl rfl, fun t ht ht2 => ?_, by constructor <;> intro h <;> dsimp only at * <;> omega⟩
      dsimp only
      by_cases c : t < T
      · rw [← hcov t ht c]
        constructor
        · rintro (h | h)
          · exact .inl h
          · omega
        · rintro (h | h)
          · exact .inl h
          · omega
      · rw [hG t (by omega) ht2]
        constructor
        · rintro (⟨u, hu, h⟩ | h)
          · have := hap.ok u hu; omega
          · omega
        · intro h
          have := hnow.2 h
          exact absurd ⟨this, by rcases hfr with k | k <;> omega⟩ ho
  · rw [if_neg hc]
    dsimp only
    by_cases ho : fr < 0
    · rw [if_pos ho]
      refine ⟨apart_mono hap hle, .inr ⟨by dsimp only; omega, Int.le_refl _, fun u hu => ?_⟩, fun t ht ht2 => ?_, by constructor <;> intro h <;> dsimp only at * <;> omega⟩
      · dsimp only at hu ⊢
        have := hap.ok u hu
        rcases hT with h | h
        · omega
        · rw [h.2] at hu; simp at hu
      · dsimp only
        by_cases c : t < T
        · rw [← hcov t ht c]
          constructor
          · rintro (h | h)
            · exact .inl h
            · omega
          · rintro (h | h)
            · exact .inl h
            · omega
        · rw [hG t (by omega) ht2]
          constructor
          · rintro (⟨u, hu, h⟩ | h)
            · have := hap.ok u hu; omega
            · omega
          · intro h
            have := hnow.2 h; omega
    · rw [if_neg ho]
      have hf : 0 ≤ fr ∧ fr ≤ T ∧ ∀ u ∈ out, u.2 < fr := by
        rcases hfr with h | h
        · omega
        · exact h
      refine ⟨apart_mono hap hle, .inr ⟨hf.1, by dsimp only; omega, hf.2.2⟩, fun t ht ht2 => ?_, by constructor <;> intro h <;> dsimp only at * <;> omega⟩
      dsimp only
      by_cases c : t < T
      · exact hcov t ht c
      · rw [hG t (by omega) ht2]
        have := hnow.1 hf.1
        constructor
        · intro _; exact this
        · intro _; exact .inr ⟨hf.1, by omega⟩
end Go.Step
/- Laws on holds: some released, one more, in whatever order. No program in sight. No conditions. -/
namespace Go.Step
end Go.Step
/- Bookings of contacts; tables. No program in sight. No conditions. -/
namespace Go.Step
/-- a booking: contact, begin, end, ticket -/
structure Bk where
  c : Int
  a : Int
  b : Int
  k : Int
deriving DecidableEq
def okBk (cs : List Ct) (x : Bk) : Prop := (0 ≤ x.c ∧ x.c < cs.length ∧ 0 ≤ x.k ∧ x.k ≤ 1152921504606846976) ∧ ∃ c, cs[x.c.toNat]? = some c ∧ c.s ≤ x.a ∧ x.a < x.b ∧ x.b ≤ c.e
def okBkB (cs : List Ct) (x : Bk) : Bool := decide (0 ≤ x.c ∧ x.c < cs.length ∧ 0 ≤ x.k ∧ x.k ≤ 1152921504606846976) && (match cs[x.c.toNat]? with
  | some c => decide (c.s ≤ x.a ∧ x.a < x.b ∧ x.b ≤ c.e)
  | none => false)
theorem okBkB_iff (cs : List Ct) (x : Bk) : okBkB cs x = true ↔ okBk cs x := by
  unfold okBkB okBk
  rw [Bool.and_eq_true, decide_eq_true_iff]
  cases h : cs[x.c.toNat]? with
  | none => simp
  | some c => simp
def cmpBk (x y : Bk) : Int := orI [cmpI x.c y.c, cmpI x.a y.a]
theorem cmpBk_lt (x y : Bk) : cmpBk x y < 0 ↔ x.c < y.c ∨ (x.c = y.c ∧ x.a < y.a) := by
  unfold cmpBk
  rcases orI_cmp x.c y.c [cmpI x.a y.a] with ⟨h1, e⟩ | ⟨h1, e⟩ | ⟨h1, e⟩
  · rw [e]; omega
  · rw [e]
    rcases orI_cmp x.a y.a [] with ⟨h2, e⟩ | ⟨h2, e⟩ | ⟨h2, e⟩
    · rw [e]; omega
    · rw [e]; simp only [orI]; omega
    · rw [e]; omega
  · rw [e]; omega
/-- what is wrong with a booking behind another one -/
def bk2E (p x : Bk) : Int := if ¬ cmpBk p x < 0 then 9 else if p.c = x.c ∧ x.a < p.b then 14 else 0
def bkE (cs : List Ct) (l : List Bk) (i : Nat) : Int := match l[i]? with
  | some x => if okBkB cs x = false then 2 else if i = 0 then 0 else bk2E (l.getD (i - 1) x) x
  | none => 0
theorem bkE_at {cs : List Ct} {l : List Bk} {i : Nat} {x : Bk} (e : l[i]? = some x) : bkE cs l i = if okBkB cs x = false then 2 else if i = 0 then 0 else bk2E (l.getD (i - 1) x) x := by unfold bkE; rw [e]
/-- what is wrong with bookings -/
def chkB (qs : List Int) (cs : List Ct) (l : List Bk) : Int :=
  if chkPl qs cs ≠ 0 then 1 else if 512 < l.length then 4 else firstE (bkE cs l) l.length
/-- .. with tables -/
def chkT (qs : List Int) (cs : List Ct) (bs : List Bk) (hs : List Hd) : Int :=
  if chkPl qs cs ≠ 0 then chkPl qs cs else if chkB qs cs bs ≠ 0 then chkB qs cs bs else chkH qs cs hs
def busyL (l : List Bk) (c : Int) : List (Int × Int) := (l.filter (fun x => decide (x.c = c))).map (fun x => (x.a, x.b))
theorem busyL_next (c : Int) {l : List Bk} {k : Nat} {x : Bk} (h : l[k]? = some x) : busyL (l.take (k + 1)) c = busyL (l.take k) c ++ (if x.c = c then [(x.a, x.b)] else []) := by
  obtain ⟨hk, rfl⟩ := List.getElem?_eq_some_iff.1 h
  unfold busyL
  rw [List.take_succ_eq_append_getElem hk, List.filter_append, List.map_append]
  congr 1
  by_cases e : l[k].c = c
  · simp [e]
  · simp [e]
theorem busyL_len (l : List Bk) (c : Int) : (busyL l c).length ≤ l.length := by
  unfold busyL
  rw [List.length_map]
  exact List.length_filter_le _ _
def bookedB (l : List Bk) (c t : Int) : Bool := (busyL l c).any (fun x => decide (x.1 ≤ t) && decide (t < x.2))
theorem bkE_ok {cs : List Ct} {l : List Bk} (h : firstE (bkE cs l) l.length = 0) : ∀ x ∈ l, okBk cs x := fun x hx => by
  obtain ⟨i, hi, rfl⟩ := List.getElem_of_mem hx
  have h2 := firstE_zero h i hi
  rw [bkE_at (List.getElem?_eq_getElem hi)] at h2
  cases hc : okBkB cs l[i] with
  | true => exact (okBkB_iff _ _).1 hc
  | false => rw [if_pos hc] at h2; omega
theorem chkT_ok {qs : List Int} {cs : List Ct} {bs : List Bk} {hs : List Hd} (h : chkT qs cs bs hs = 0) : chkPl qs cs = 0 ∧ chkB qs cs bs = 0 ∧ chkH qs cs hs = 0 := by
  unfold chkT at h
  by_cases h1 : chkPl qs cs = 0
  · rw [if_neg (by simpa using h1)] at h
    by_cases h2 : chkB qs cs bs = 0
    · rw [if_neg (by simpa using h2)] at h
      exact ⟨h1, h2, h⟩
    · rw [if_pos h2] at h; exact absurd h h2
  · rw [if_pos h1] at h; exact absurd h h1
theorem chkB_ok {qs : List Int} {cs : List Ct} {bs : List Bk} (h : chkB qs cs bs = 0) : bs.length ≤ 512 ∧ firstE (bkE cs bs) bs.length = 0 := by
  unfold chkB at h
  by_cases h1 : chkPl qs cs = 0
  · rw [if_neg (by simpa using h1)] at h
    by_cases h2 : 512 < bs.length
    · rw [if_pos h2] at h; omega
    · rw [if_neg h2] at h; exact ⟨by omega, h⟩
  · rw [if_pos h1] at h; omega
end Go.Step
/- Bookings: checked. -/
namespace Go.Proofs.YthdoegkjifgegaaGreat
open Go.Eng Go.Step
set_option maxRecDepth 100000
set_option maxHeartbeats 4000000

set_option maxHeartbeats 16000000 in
theorem bkValid_spec (τ : PH) (pq pc : Option Addr) (nq kq kc : Nat) (cs : List Ct) (x : Bk) (hc : CtAt τ (.slice pc cs.length kc) cs) :
  Ans Tryz.prog (fv 72) [.agg #[.slice pq nq kq, .slice pc cs.length kc], .agg #[int x.c, int x.a, int x.b, int x.k]] [τ] (fun r => r = .bool (okBkB cs x)) := by
 obtain ⟨_, _, e, hrc⟩ := hc.val encC_len
 simp only [Value.slice.injEq] at e
 obtain ⟨rfl, _, rfl⟩ := e
 refine spec_in (cap := []) Tryz.func72 rfl rfl Tryz.ntmps72 rfl envZ (fun N β => ?_)
 refine AD ?_
 refine AA ?_
 refine BC (BK rfl) rfl rfl rfl ?_
 rintro _ _ ⟨b2, rfl, rfl⟩
 refine AR (ρ := sng b2 _) takeZ ?_
 have cp : RdN (sng b2 (.cells #[.slice pq nq kq, .slice pc cs.length kc] 25 (0, 0))) b2 0 [.slice pq nq kq, .slice pc cs.length kc] := rdN_sng (vs := [.slice pq nq kq, .slice pc cs.length kc])
 have cp1 : rdc (sng b2 (.cells #[.slice pq nq kq, .slice pc cs.length kc] 25 (0, 0))) b2 1 = some (.slice pc cs.length kc) := by rw [rdc_sng]; rfl
 refine BC (BK rfl) rfl rfl rfl ?_
 rintro _ _ ⟨b3, rfl, rfl⟩
 refine AR (ρ := sng b3 _) takeZ ?_
 have cx : RdN (sng b3 (.cells #[int x.c, int x.a, int x.b, int x.k] 73 (0, 0))) b3 0 [int x.c, int x.a, int x.b, int x.k] := rdN_sng (vs := [int x.c, int x.a, int x.b, int x.k])
 have cx0 : rdc (sng b3 (.cells #[int x.c, int x.a, int x.b, int x.k] 73 (0, 0))) b3 0 = some (int x.c) := by rw [rdc_sng]; rfl
 have cx1 : rdc (sng b3 (.cells #[int x.c, int x.a, int x.b, int x.k] 73 (0, 0))) b3 1 = some (int x.a) := by rw [rdc_sng]; rfl
 have cx2 : rdc (sng b3 (.cells #[int x.c, int x.a, int x.b, int x.k] 73 (0, 0))) b3 2 = some (int x.b) := by rw [rdc_sng]; rfl
 have cx3 : rdc (sng b3 (.cells #[int x.c, int x.a, int x.b, int x.k] 73 (0, 0))) b3 3 = some (int x.k) := by rw [rdc_sng]; rfl
 by_cases hin : 0 ≤ x.c ∧ x.c < cs.length ∧ 0 ≤ x.k ∧ x.k ≤ 1152921504606846976
 ·obtain ⟨nn, hnn⟩ : ∃ nn : Nat, x.c = nn := ⟨x.c.toNat, by omega⟩
  have hlt : nn < cs.length := by omega
  have hx := List.getElem?_eq_getElem hlt
  obtain ⟨b1, o1, rfl, hrd⟩ := ctRow hrc hx
  have hok : okBkB cs x = decide (cs[nn].s ≤ x.a ∧ x.a < x.b ∧ x.b ≤ cs[nn].e) := by
   unfold okBkB
   rw [decide_eq_true hin, Bool.true_and, hnn, Int.toNat_natCast, hx]
  rw [hok]
  have cn : rdc (sng b3 (.cells #[int x.c, int x.a, int x.b, int x.k] 73 (0, 0))) b3 0 = some (int nn) := by rw [rdc_sng, ← hnn]; rfl
  clear cx0 hok
  generalize cs[nn] = c at hrd
  refine AC ?_
  refine AE ?_
  refine AD ?_
  refine AD ?_
  refine AA ?_
  refine AG ?_
  refine AF ?_
  refine AZ ?_
  refine AB ?_
  refine AG ?_
  refine AF ?_
  refine AG ?_
  refine AF ?_
  refine AW ?_
  refine BH ?_
  refine AJ ?_
  refine AB ?_
  refine AG ?_
  refine AF ?_
  refine AZ ?_
  refine AJ ?_
  refine AB ?_
  refine AG ?_
  refine AF ?_
  refine BY ?_
  refine AJ ?_
  refine AE ?_
  refine AN rfl ?_
  refine AM ?_
  refine AD ?_
  refine AA ?_
  refine AG ?_
  refine AF ?_
  refine AG ?_
  refine AF ?_
  refine BL ?_
  refine AT ?_
  refine AY ?_; rintro _ _ ⟨b, rfl, rfl⟩
  refine AX ?_; rintro _ _ ⟨rfl, rfl⟩
  refine AE ?_
  refine AD ?_
  refine AA ?_
  refine AG ?_
  refine AF ?_
  refine AG ?_
  refine AF ?_
  by_cases h1 : c.s ≤ x.a
  ·by_cases h2 : x.a < x.b
   ·by_cases h3 : x.b ≤ c.e
    ·rw [decide_eq_true ⟨h1, h2, h3⟩]
     refine CB ?_
     refine AB ?_
     refine AG ?_
     refine AF ?_
     refine AG ?_
     refine AF ?_
     refine BI ?_
     refine AK ?_
     refine AB ?_
     refine AG ?_
     refine AF ?_
     refine AG ?_
     refine AF ?_
     refine CN ?_
     refine AK ?_
     refine AC ?_
     refine AE ?_
     exact AI (res1 rfl rfl) rsubZ selZ ⟨rfl, rfl⟩
    ·rw [decide_eq_false (fun h => h3 h.2.2)]
     refine CB ?_
     refine AB ?_
     refine AG ?_
     refine AF ?_
     refine AG ?_
     refine AF ?_
     refine BI ?_
     refine AK ?_
     refine AB ?_
     refine AG ?_
     refine AF ?_
     refine AG ?_
     refine AF ?_
     refine C0 ?_
     refine AK ?_
     refine AC ?_
     refine AE ?_
     exact AI (res1 rfl rfl) rsubZ selZ ⟨rfl, rfl⟩
   ·rw [decide_eq_false (fun h => h2 h.2.1)]
    refine CB ?_
    refine AB ?_
    refine AG ?_
    refine AF ?_
    refine AG ?_
    refine AF ?_
    refine AZ ?_
    refine AK ?_
    refine AB ?_
    refine AH rfl rfl rfl ?_
    refine AH rfl rfl rfl ?_
    refine AH rfl rfl rfl ?_
    refine AH rfl rfl rfl ?_
    refine AH rfl rfl rfl ?_
    refine AJ ?_
    refine AC ?_
    refine AE ?_
    exact AI (res1 rfl rfl) rsubZ selZ ⟨rfl, rfl⟩
  ·rw [decide_eq_false (fun h => h1 h.1)]
   refine BH ?_
   refine AB ?_
   refine AH rfl rfl rfl ?_
   refine AH rfl rfl rfl ?_
   refine AH rfl rfl rfl ?_
   refine AH rfl rfl rfl ?_
   refine AH rfl rfl rfl ?_
   refine AJ ?_
   refine AB ?_
   refine AH rfl rfl rfl ?_
   refine AH rfl rfl rfl ?_
   refine AH rfl rfl rfl ?_
   refine AH rfl rfl rfl ?_
   refine AH rfl rfl rfl ?_
   refine AJ ?_
   refine AC ?_
   refine AE ?_
   exact AI (res1 rfl rfl) rsubZ selZ ⟨rfl, rfl⟩
 ·have hok : okBkB cs x = false := by
   unfold okBkB
   rw [decide_eq_false hin, Bool.false_and]
  rw [hok]
  by_cases h1 : x.c < 0
  ·refine AC ?_
   refine AE ?_
   refine AD ?_
   refine AD ?_
   refine AA ?_
   refine AG ?_
   refine AF ?_
   refine BI ?_
   refine AB ?_
   refine AH rfl rfl rfl ?_
   refine AH rfl rfl rfl ?_
   refine AH rfl rfl rfl ?_
   refine AH rfl rfl rfl ?_
   refine AH rfl rfl rfl ?_
   refine AH rfl rfl rfl ?_
   refine AK ?_
   refine AB ?_
   refine AH rfl rfl rfl ?_
   refine AH rfl rfl rfl ?_
   refine AH rfl rfl rfl ?_
   refine AK ?_
   refine AB ?_
   refine AH rfl rfl rfl ?_
   refine AH rfl rfl rfl ?_
   refine AH rfl rfl rfl ?_
   refine AK ?_
   refine AE ?_
   refine AO rfl ?_
   refine AD ?_
   refine AA ?_
   refine AC ?_
   refine AE ?_
   exact AI (res1 rfl rfl) rsubZ selZ ⟨rfl, rfl⟩
  by_cases h2 : (cs.length : Int) ≤ x.c
  ·refine AC ?_
   refine AE ?_
   refine AD ?_
   refine AD ?_
   refine AA ?_
   refine AG ?_
   refine AF ?_
   refine AZ ?_
   refine AB ?_
   refine AG ?_
   refine AF ?_
   refine AG ?_
   refine AF ?_
   refine AW ?_
   refine CB ?_
   refine AJ ?_
   refine AB ?_
   refine AH rfl rfl rfl ?_
   refine AH rfl rfl rfl ?_
   refine AH rfl rfl rfl ?_
   refine AK ?_
   refine AB ?_
   refine AH rfl rfl rfl ?_
   refine AH rfl rfl rfl ?_
   refine AH rfl rfl rfl ?_
   refine AK ?_
   refine AE ?_
   refine AO rfl ?_
   refine AD ?_
   refine AA ?_
   refine AC ?_
   refine AE ?_
   exact AI (res1 rfl rfl) rsubZ selZ ⟨rfl, rfl⟩
  by_cases h3 : x.k < 0
  ·refine AC ?_
   refine AE ?_
   refine AD ?_
   refine AD ?_
   refine AA ?_
   refine AG ?_
   refine AF ?_
   refine AZ ?_
   refine AB ?_
   refine AG ?_
   refine AF ?_
   refine AG ?_
   refine AF ?_
   refine AW ?_
   refine BH ?_
   refine AJ ?_
   refine AB ?_
   refine AG ?_
   refine AF ?_
   refine BI ?_
   refine AJ ?_
   refine AB ?_
   refine AH rfl rfl rfl ?_
   refine AH rfl rfl rfl ?_
   refine AH rfl rfl rfl ?_
   refine AK ?_
   refine AE ?_
   refine AO rfl ?_
   refine AD ?_
   refine AA ?_
   refine AC ?_
   refine AE ?_
   exact AI (res1 rfl rfl) rsubZ selZ ⟨rfl, rfl⟩
  by_cases h4 : 1152921504606846976 < x.k
  ·refine AC ?_
   refine AE ?_
   refine AD ?_
   refine AD ?_
   refine AA ?_
   refine AG ?_
   refine AF ?_
   refine AZ ?_
   refine AB ?_
   refine AG ?_
   refine AF ?_
   refine AG ?_
   refine AF ?_
   refine AW ?_
   refine BH ?_
   refine AJ ?_
   refine AB ?_
   refine AG ?_
   refine AF ?_
   refine AZ ?_
   refine AJ ?_
   refine AB ?_
   refine AG ?_
   refine AF ?_
   refine CT ?_
   refine AJ ?_
   refine AE ?_
   refine AO rfl ?_
   refine AD ?_
   refine AA ?_
   refine AC ?_
   refine AE ?_
   exact AI (res1 rfl rfl) rsubZ selZ ⟨rfl, rfl⟩
  ·exfalso; omega
def encB (x : Bk) : List Value := [int x.c, int x.a, int x.b, int x.k]
theorem encB_len (x : Bk) : (encB x).length = 4 := rfl
abbrev BkAt (ρ : PH) (v : Value) (l : List Bk) : Prop := SlE encB 4 ρ v l
theorem bkRow {ρ : PH} {p : Option Addr} {l : List Bk} (h : RowsE encB 4 ρ p l) {i : Nat} {x : Bk} (hx : l[i]? = some x) :
  ∃ b o, p = some ⟨b, o, none⟩ ∧ RdN ρ b (o + i * 4) [int x.c, int x.a, int x.b, int x.k] ∧ rdc ρ b (o + i * 4) = some (int x.c) ∧ rdc ρ b (o + i * 4 + 1) = some (int x.a) ∧ rdc ρ b (o + i * 4 + 2) = some (int x.b) ∧ rdc ρ b (o + i * 4 + 3) = some (int x.k) := by
 obtain ⟨b, o, e, hr⟩ := h i x hx
 exact ⟨b, o, e, hr, hr.get0, hr.get (j := 1) rfl, hr.get (j := 2) rfl, hr.get (j := 3) rfl⟩
set_option maxHeartbeats 16000000 in
theorem bkCompare_spec (x y : Bk) : Ans Tryz.prog (fv 107) [.agg #[int x.c, int x.a, int x.b, int x.k], .agg #[int y.c, int y.a, int y.b, int y.k]] [] (fun r => r = int (cmpBk x y)) := by
 refine spec_in (cap := []) Tryz.func107 rfl rfl Tryz.ntmps107 rfl envZ (fun N β => ?_)
 refine AD ?_
 refine AA ?_
 refine B9 ?_; rintro _ _ ⟨b, rfl, rfl⟩
 refine B9 ?_; rintro _ _ ⟨b, rfl, rfl⟩
 refine AC ?_
 refine AE ?_
 refine AD ?_
 refine A3 (.q 0 (.q 1 (.q 2 (.q 3 (.q 5 (.q 6 (.q 7 (.q 8 (.l 4 .e (.l 9 .e (.l 10 .e (.l 11 .e (.q 12 .nil))))))))))))) [] rfl (by kernel_rfl) selZ ?_
 refine AU ?_
 refine AP ?_
 refine AU ?_
 refine AP ?_
 refine AU ?_
 refine AP ?_
 refine AU ?_
 refine AP ?_
 focus ((refine CE (CD rfl (cmpI_spec _ _) rfl rfl rdZ rfl rfl ?_); rintro _ rfl))
 focus ((refine CE (CD rfl (cmpI_spec _ _) rfl rfl rdZ rfl rfl ?_); rintro _ rfl))
 refine BP ?_; rintro _ _ ⟨b, rfl, rfl⟩
 revert b; intro bo
 refine CE (CD rfl (or_spec (sng bo _) _ [cmpI x.c y.c, cmpI x.a y.a] (slE_sng Eng.encI_len) (by simp)) rfl rfl rdZ rfl rfl ?_)
 rintro _ rfl
 refine A8 ?_
 refine A4 ?_
 skip
 exact AI (res1 rfl rfl) rsubZ selZ ⟨rfl, rfl⟩
set_option maxHeartbeats 32000000 in
theorem bkCheck_spec (ρ τ σ : PH) (pq pc : Option Addr) (kq kc : Nat) (qs : List Int) (cs : List Ct) (v : Value) (l : List Bk) (hq : IntsAt ρ (.slice pq qs.length kq) qs) (hc : CtAt τ (.slice pc cs.length kc) cs) (hcap : cs.length ≤ kc) (lq : qs.length ≤ 9223372036854775807) (lc : cs.length ≤ 9223372036854775807) (hv : BkAt σ v l) (hl : l.length ≤ 9223372036854775807) :
  Ans Tryz.prog (fv 71) [.agg #[.slice pq qs.length kq, .slice pc cs.length kc], v] [ρ, τ, σ] (fun r => r = int (chkB qs cs l)) := by
 have hv2 := hv
 obtain ⟨q, c, rfl, hr⟩ := hv.val encB_len
 refine spec_in (cap := []) Tryz.func71 rfl rfl Tryz.ntmps71 rfl envZ (fun N β => ?_)
 refine AD ?_
 refine AA ?_
 refine BC (BK rfl) rfl rfl rfl ?_
 rintro _ _ ⟨b1, rfl, rfl⟩
 refine AR (ρ := sng b1 _) takeZ ?_
 have c1 : RdN (sng b1 (.cells #[.slice pq qs.length kq, .slice pc cs.length kc] 25 (0, 0))) b1 0 [.slice pq qs.length kq, .slice pc cs.length kc] := rdN_sng (vs := [.slice pq qs.length kq, .slice pc cs.length kc])
 refine AC ?_
 refine AE ?_
 refine AD ?_
 refine AD ?_
 refine AA ?_
 refine AT ?_
 refine A2 (planCheck_spec ρ τ pq pc kq kc qs cs hq hc hcap lq lc) rfl rfl rdZ rfl rfl ?_
 rintro _ rfl
 unfold chkB
 by_cases hp : chkPl qs cs = 0
 rotate_left
 ·rw [if_pos hp]
  generalize chkPl qs cs = z at hp
  refine CX ?_
  refine AE ?_
  refine AO rfl ?_
  refine AD ?_
  refine AA ?_
  refine AC ?_
  refine AE ?_
  exact AI (res1 rfl rfl) rsubZ selZ ⟨rfl, rfl⟩
 rw [if_neg (fun h => h hp), hp]
 by_cases hbig : 512 < l.length
 ·rw [if_pos hbig]
  refine BM ?_
  refine AE ?_
  refine AN rfl ?_
  refine AM ?_
  refine AD ?_
  refine AD ?_
  refine AA ?_
  refine AB ?_
  refine AW ?_
  refine CT ?_
  refine AE ?_
  refine AO rfl ?_
  refine AD ?_
  refine AA ?_
  refine AC ?_
  refine AE ?_
  exact AI (res1 rfl rfl) rsubZ selZ ⟨rfl, rfl⟩
 rw [if_neg hbig]
 refine BM ?_
 refine AE ?_
 refine AN rfl ?_
 refine AM ?_
 refine AD ?_
 refine AD ?_
 refine AA ?_
 refine AB ?_
 refine AW ?_
 refine BY ?_
 refine AE ?_
 refine AN rfl ?_
 refine AM ?_
 refine AD ?_
 refine AD ?_
 refine AA ?_
 refine AB ?_
 refine AW ?_
 refine AB ?_
 refine AE ?_
 refine AS ?_
 refine BJ [1, 2, 13, 14] (0 : Nat) (fun k => k ≤ l.length ∧ firstE (bkE cs l) k = 0) (fun k => [(15, int k)]) (fun _ => []) (fun k => l.length - k) pickZ ⟨by omega, rfl⟩ covZ selZ ?_
 rintro k ⟨hk, hI⟩
 by_cases hlt : k < l.length
 ·have hx := List.getElem?_eq_getElem hlt
  obtain ⟨b2, o2, rfl, hrd, g0, g1, g2, g3⟩ := bkRow hr hx
  have hE := bkE_at (cs := cs) hx
  generalize l[k] = x at hrd g0 g1 g2 g3 hE
  refine AD ?_
  refine AA ?_
  refine BI ?_
  refine AE ?_
  refine AD ?_
  refine AO rfl ?_
  refine AM ?_
  refine AD ?_
  refine AS ?_
  refine AD ?_
  refine AA ?_
  refine AB ?_
  refine BL ?_
  refine AT ?_
  refine AY ?_; rintro _ _ ⟨b, rfl, rfl⟩
  refine AC ?_
  refine AX ?_; rintro _ _ ⟨rfl, rfl⟩
  refine AE ?_
  refine AD ?_
  refine AD ?_
  refine AA ?_
  refine AT ?_
  refine AT ?_
  revert b; intro b6
  refine A2 (bkValid_spec τ pq pc qs.length kq kc cs x hc) rfl rfl rdZ rfl rfl ?_
  rintro _ rfl
  cases hok : okBkB cs x with
  | false =>
   rw [if_pos hok] at hE
   have hh := firstE_hit hI (by rw [hE]; decide) _ hlt
   rw [hh, hE]
   refine A7 ?_
   refine AE ?_
   refine AO rfl ?_
   refine AD ?_
   refine AA ?_
   refine AC ?_
   refine AE ?_
   exact AI (res1 rfl rfl) rsubZ selZ ⟨rfl, rfl⟩
  | true =>
  rw [if_neg (by rw [hok]; simp)] at hE
  by_cases h0 : k = 0
  ·subst h0
   rw [if_pos rfl] at hE
   refine A7 ?_
   refine AE ?_
   refine AN rfl ?_
   refine AM ?_
   refine AD ?_
   refine AD ?_
   refine AA ?_
   refine AB ?_
   refine BQ ?_
   refine AE ?_
   refine AO rfl ?_
   refine BB rfl ?_
   refine AA ?_
   refine BA ?_
   refine AB ?_
   refine AE ?_
   exact A0 (0 + 1) ⟨by omega, firstE_ok hI hE⟩ (by omega) covZ selZ
  ·have hlt' : k - 1 < l.length := by omega
   have hx' := List.getElem?_eq_getElem hlt'
   obtain ⟨_, _, e, hrd', p0, p1, p2, p3⟩ := bkRow hr hx'
   simp only [Option.some.injEq, Addr.mk.injEq, and_true] at e
   obtain ⟨rfl, rfl⟩ := e
   rw [if_neg h0, List.getD_eq_getElem?_getD, hx', Option.getD_some] at hE
   generalize l[k - 1] = p at hrd' p0 p1 p2 p3 hE
   have hle := bkCompare_spec p x
   unfold bk2E at hE
   generalize cmpBk p x = z at hle hE
   refine A7 ?_
   refine AE ?_
   refine AN rfl ?_
   refine AM ?_
   refine AD ?_
   refine AD ?_
   refine AA ?_
   refine AB ?_
   refine BO ?_
   refine AE ?_
   refine AN rfl ?_
   refine AM ?_
   refine AD ?_
   refine AD ?_
   refine A3 (.q 0 (.q 1 (.q 2 (.q 3 (.q 4 (.q 5 (.l 6 .e (.q 7 .nil)))))))) [sng b6 _] rfl (by kernel_rfl) selZ ?_
   refine AQ ?_
   refine AQ ?_
   refine CC ?_
   refine BX ?_
   refine BN ?_
   refine BN ?_
   refine CE (CD rfl hle rfl rfl rdZ rfl rfl ?_)
   rintro _ rfl
   by_cases hc9 : z < 0
   rotate_left
   ·rw [if_pos hc9] at hE
    have hh := firstE_hit hI (by rw [hE]; decide) _ hlt
    rw [hh, hE]
    refine zd_ge ?_
    refine A4 ?_
    refine AO rfl ?_
    refine AD ?_
    refine AA ?_
    refine AC ?_
    refine AE ?_
    exact AI (res1 rfl rfl) rsubZ selZ ⟨rfl, rfl⟩
   rw [if_neg (fun h => h hc9)] at hE
   refine zd_geF ?_
   refine A4 ?_
   refine AN rfl ?_
   refine AM ?_
   refine AD ?_
   refine A3 (.q 0 (.q 1 (.q 2 (.q 3 (.q 4 (.q 5 (.q 6 (.q 7 (.q 8 (.q 9 (.q 10 (.q 11 (.q 12 (.q 13 (.q 14 (.q 15 (.q 16 (.q 17 (.q 18 (.q 19 .nil)))))))))))))))))))) [sng b6 _] rfl (by kernel_rfl) selZ ?_
   by_cases e1 : p.c = x.c
   ·by_cases e2 : x.a < p.b
    ·rw [if_pos ⟨e1, e2⟩] at hE
     have hh := firstE_hit hI (by rw [hE]; decide) _ hlt
     rw [hh, hE]
     refine AQ ?_
     refine AQ ?_
     refine CC ?_
     refine BX ?_
     refine C1 ?_
     refine AP ?_
     refine AU ?_
     refine AP ?_
     refine D8 ?_
     refine AQ ?_
     refine AU ?_
     refine AP ?_
     refine AQ ?_
     refine AQ ?_
     refine CC ?_
     refine BX ?_
     refine CL ?_
     refine AP ?_
     refine EI ?_
     refine BS ?_
     refine A4 ?_
     refine AO rfl ?_
     refine AD ?_
     refine AA ?_
     refine AC ?_
     refine AE ?_
     exact AI (res1 rfl rfl) rsubZ selZ ⟨rfl, rfl⟩
    ·rw [if_neg (by omega)] at hE
     refine AQ ?_
     refine AQ ?_
     refine CC ?_
     refine BX ?_
     refine C1 ?_
     refine AP ?_
     refine AU ?_
     refine AP ?_
     refine D8 ?_
     refine AQ ?_
     refine AU ?_
     refine AP ?_
     refine AQ ?_
     refine AQ ?_
     refine CC ?_
     refine BX ?_
     refine CL ?_
     refine AP ?_
     refine DN ?_
     refine BS ?_
     refine A4 ?_
     refine AN rfl ?_
     refine AM ?_
     refine A6 ?_
     refine AA ?_
     refine BA ?_
     refine AB ?_
     refine AE ?_
     exact A0 (k + 1) ⟨by omega, firstE_ok hI hE⟩ (by omega) covZ selZ
   ·rw [if_neg (by omega)] at hE
    refine AQ ?_
    refine AQ ?_
    refine CC ?_
    refine BX ?_
    refine C1 ?_
    refine AP ?_
    refine AU ?_
    refine AP ?_
    refine DA ?_
    refine AQ ?_
    refine A5 rfl rfl rfl rfl rfl ?_
    refine A5 rfl rfl rfl rfl rfl ?_
    refine A5 rfl rfl rfl rfl rfl ?_
    refine A5 rfl rfl rfl rfl rfl ?_
    refine A5 rfl rfl rfl rfl rfl ?_
    refine A5 rfl rfl rfl rfl rfl ?_
    refine A5 rfl rfl rfl rfl rfl ?_
    refine A5 rfl rfl rfl rfl rfl ?_
    refine A5 rfl rfl rfl rfl rfl ?_
    refine B8 ?_
    refine A4 ?_
    refine AN rfl ?_
    refine AM ?_
    refine A6 ?_
    refine AA ?_
    refine BA ?_
    refine AB ?_
    refine AE ?_
    exact A0 (k + 1) ⟨by omega, firstE_ok hI hE⟩ (by omega) covZ selZ
 have hke : k = l.length := by omega
 subst hke
 rw [hI]
 refine AD ?_
 refine AA ?_
 refine AZ ?_
 refine AE ?_
 refine AD ?_
 refine AN rfl ?_
 refine BB rfl ?_
 refine AD ?_
 refine AA ?_
 refine AC ?_
 refine AE ?_
 exact AI (res1 rfl rfl) rsubZ selZ ⟨rfl, rfl⟩
end Go.Proofs.YthdoegkjifgegaaGreat
/- Spans in memory. -/
namespace Go.Proofs.YthdoegkjifgegaaGreat
open Go.Eng Go.Step
set_option maxRecDepth 100000
set_option maxHeartbeats 4000000

def encS (x : Int × Int) : List Value := [int x.1, int x.2]
theorem encS_len (x : Int × Int) : (encS x).length = 2 := rfl
abbrev SpAt (ρ : PH) (v : Value) (l : List (Int × Int)) : Prop := SlE encS 2 ρ v l
theorem spRow {ρ : PH} {p : Option Addr} {l : List (Int × Int)} (h : RowsE encS 2 ρ p l) {i : Nat} {x : Int × Int} (hx : l[i]? = some x) :
  ∃ b o, p = some ⟨b, o, none⟩ ∧ RdN ρ b (o + i * 2) [int x.1, int x.2] ∧ rdc ρ b (o + i * 2) = some (int x.1) ∧ rdc ρ b (o + i * 2 + 1) = some (int x.2) := by
 obtain ⟨b, o, e, hr⟩ := h i x hx
 exact ⟨b, o, e, hr, hr.get0, hr.get (j := 1) rfl⟩
end Go.Proofs.YthdoegkjifgegaaGreat
/- Tables: checked; booked times. -/
namespace Go.Proofs.YthdoegkjifgegaaGreat
open Go.Eng Go.Step
set_option maxRecDepth 100000
set_option maxHeartbeats 4000000

/-- tables in memory -/
structure TbAt (ρ τ σ υ : PH) (pq pc pb ph : Option Addr) (kq kc kb kh : Nat) (qs : List Int) (cs : List Ct) (bs : List Bk) (hs : List Hd) : Prop where
 hq : IntsAt ρ (.slice pq qs.length kq) qs
 hc : CtAt τ (.slice pc cs.length kc) cs
 hcap : cs.length ≤ kc
 lq : qs.length ≤ 9223372036854775807
 lc : cs.length ≤ 9223372036854775807
 hb : BkAt σ (.slice pb bs.length kb) bs
 lb : bs.length ≤ 9223372036854775807
 hh : HdAt υ (.slice ph hs.length kh) hs
 lh : hs.length ≤ 9223372036854775807
theorem TbAt.rq {ρ τ σ υ : PH} {pq pc pb ph : Option Addr} {kq kc kb kh : Nat} {qs : List Int} {cs : List Ct} {bs : List Bk} {hs : List Hd} (hT : TbAt ρ τ σ υ pq pc pb ph kq kc kb kh qs cs bs hs) : RowsE Eng.encI 1 ρ pq qs := by
 obtain ⟨_, _, e, h⟩ := hT.hq.val Eng.encI_len
 simp only [Value.slice.injEq] at e
 rw [e.1]; exact h
theorem TbAt.rc {ρ τ σ υ : PH} {pq pc pb ph : Option Addr} {kq kc kb kh : Nat} {qs : List Int} {cs : List Ct} {bs : List Bk} {hs : List Hd} (hT : TbAt ρ τ σ υ pq pc pb ph kq kc kb kh qs cs bs hs) : RowsE encC 7 τ pc cs := by
 obtain ⟨_, _, e, h⟩ := hT.hc.val encC_len
 simp only [Value.slice.injEq] at e
 rw [e.1]; exact h
theorem TbAt.rh {ρ τ σ υ : PH} {pq pc pb ph : Option Addr} {kq kc kb kh : Nat} {qs : List Int} {cs : List Ct} {bs : List Bk} {hs : List Hd} (hT : TbAt ρ τ σ υ pq pc pb ph kq kc kb kh qs cs bs hs) : RowsE encH 5 υ ph hs := by
 obtain ⟨_, _, e, h⟩ := hT.hh.val encH_len
 simp only [Value.slice.injEq] at e
 rw [e.1]; exact h
set_option maxHeartbeats 16000000 in
theorem chkTab_spec {ρ τ σ υ : PH} {pq pc pb ph : Option Addr} {kq kc kb kh : Nat} {qs : List Int} {cs : List Ct} {bs : List Bk} {hs : List Hd} (hT : TbAt ρ τ σ υ pq pc pb ph kq kc kb kh qs cs bs hs) :
  Ans Tryz.prog (fv 52) [.agg #[.slice pq qs.length kq, .slice pc cs.length kc, .slice pb bs.length kb, .slice ph hs.length kh]] [ρ, τ, σ, υ] (fun r => r = int (chkT qs cs bs hs)) := by
 refine spec_in (cap := []) Tryz.func52 rfl rfl Tryz.ntmps52 rfl envZ (fun N β => ?_)
 refine AD ?_
 refine AA ?_
 refine BC (BK rfl) rfl rfl rfl ?_
 rintro _ _ ⟨b1, rfl, rfl⟩
 refine AR (ρ := sng b1 _) takeZ ?_
 have ct : RdN (sng b1 (.cells #[.slice pq qs.length kq, .slice pc cs.length kc, .slice pb bs.length kb, .slice ph hs.length kh] 29 (0, 0))) b1 0 [.slice pq qs.length kq, .slice pc cs.length kc, .slice pb bs.length kb, .slice ph hs.length kh] := rdN_sng (vs := [.slice pq qs.length kq, .slice pc cs.length kc, .slice pb bs.length kb, .slice ph hs.length kh])
 have ct0 : rdc (sng b1 (.cells #[.slice pq qs.length kq, .slice pc cs.length kc, .slice pb bs.length kb, .slice ph hs.length kh] 29 (0, 0))) b1 0 = some (.slice pq qs.length kq) := by rw [rdc_sng]; rfl
 have ct1 : rdc (sng b1 (.cells #[.slice pq qs.length kq, .slice pc cs.length kc, .slice pb bs.length kb, .slice ph hs.length kh] 29 (0, 0))) b1 1 = some (.slice pc cs.length kc) := by rw [rdc_sng]; rfl
 have ct2 : rdc (sng b1 (.cells #[.slice pq qs.length kq, .slice pc cs.length kc, .slice pb bs.length kb, .slice ph hs.length kh] 29 (0, 0))) b1 2 = some (.slice pb bs.length kb) := by rw [rdc_sng]; rfl
 have ct3 : rdc (sng b1 (.cells #[.slice pq qs.length kq, .slice pc cs.length kc, .slice pb bs.length kb, .slice ph hs.length kh] 29 (0, 0))) b1 3 = some (.slice ph hs.length kh) := by rw [rdc_sng]; rfl
 have ctp : RdP (sng b1 (.cells #[.slice pq qs.length kq, .slice pc cs.length kc, .slice pb bs.length kb, .slice ph hs.length kh] 29 (0, 0))) b1 0 [.slice pq qs.length kq, .slice pc cs.length kc] := rdP_sng (xs := [.slice pq qs.length kq, .slice pc cs.length kc, .slice pb bs.length kb, .slice ph hs.length kh]) rfl
 refine AC ?_
 refine AE ?_
 refine AD ?_
 refine AD ?_
 refine AA ?_
 refine AG ?_
 refine AT ?_
 refine A2 (planCheck_spec ρ τ pq pc kq kc qs cs hT.hq hT.hc hT.hcap hT.lq hT.lc) rfl rfl rdZ rfl rfl ?_
 rintro _ rfl
 unfold chkT
 by_cases h1 : chkPl qs cs = 0
 rotate_left
 ·rw [if_pos h1]
  generalize chkPl qs cs = z at h1
  refine AC ?_
  refine AE ?_
  refine AD ?_
  refine AA ?_
  refine AB ?_
  refine CX ?_
  refine AE ?_
  refine AO rfl ?_
  refine AD ?_
  refine AA ?_
  refine AB ?_
  refine AC ?_
  refine AE ?_
  exact AI (res1 rfl rfl) rsubZ selZ ⟨rfl, rfl⟩
 rw [if_neg (fun h => h h1), h1]
 refine AC ?_
 refine AE ?_
 refine AD ?_
 refine AA ?_
 refine AB ?_
 refine BM ?_
 refine AE ?_
 refine AN rfl ?_
 refine AM ?_
 refine AD ?_
 refine AD ?_
 refine AA ?_
 refine AG ?_
 refine AT ?_
 refine AG ?_
 refine AF ?_
 refine A2 (bkCheck_spec ρ τ σ pq pc kq kc qs cs _ bs hT.hq hT.hc hT.hcap hT.lq hT.lc hT.hb hT.lb) rfl rfl rdZ rfl rfl ?_
 rintro _ rfl
 by_cases h2 : chkB qs cs bs = 0
 rotate_left
 ·rw [if_pos h2]
  generalize chkB qs cs bs = z at h2
  refine AC ?_
  refine AE ?_
  refine AD ?_
  refine AA ?_
  refine AB ?_
  refine CX ?_
  refine AE ?_
  refine AO rfl ?_
  refine AD ?_
  refine AA ?_
  refine AB ?_
  refine AC ?_
  refine AE ?_
  exact AI (res1 rfl rfl) rsubZ selZ ⟨rfl, rfl⟩
 rw [if_neg (fun h => h h2), h2]
 refine AC ?_
 refine AE ?_
 refine AD ?_
 refine AA ?_
 refine AB ?_
 refine BM ?_
 refine AE ?_
 refine AN rfl ?_
 refine AM ?_
 refine AD ?_
 refine AA ?_
 refine AG ?_
 refine AT ?_
 refine AG ?_
 refine AF ?_
 refine A2 (check28_spec ρ τ υ pq pc kq kc qs cs _ hs hT.hq hT.hc hT.hcap hT.lq hT.lc hT.hh hT.lh) rfl rfl rdZ rfl rfl ?_
 rintro _ rfl
 refine AC ?_
 refine AE ?_
 exact AI (res1 rfl rfl) rsubZ selZ ⟨rfl, rfl⟩
theorem indexS_spec (ρ : PH) (Rs : List PH) (v fn : Value) (l : List (Int × Int)) (p : (Int × Int) → Bool) (hv : SlE encS 2 ρ v l) (hl : l.length ≤ 9223372036854775807) (hfn : ∀ (i : Nat) (x : (Int × Int)), l[i]? = some x → Ans Tryz.prog fn [.agg (encS x).toArray] Rs (fun r => r = .bool (p x))) :
  Ans Tryz.prog (fv 61) [v, fn] (ρ :: Rs) (fun r => (∃ (i : Nat) (x : (Int × Int)), l[i]? = some x ∧ p x = true ∧ (∀ (j : Nat) (y : (Int × Int)), j < i → l[j]? = some y → p y = false) ∧ r = int i) ∨ ((∀ x ∈ l, p x = false) ∧ r = int (-1))) := by
 obtain ⟨q, c, rfl, hr⟩ := hv.val encS_len
 refine spec_in (cap := []) Tryz.func61 rfl rfl Tryz.ntmps61 rfl envZ (fun N β => ?_)
 refine AD ?_
 refine AA ?_
 refine AC ?_
 refine AE ?_
 refine AD ?_
 refine AD ?_
 refine AA ?_
 refine AB ?_
 refine AW ?_
 refine AB ?_
 refine AE ?_
 refine AS ?_
 refine BJ [0, 1, 7] (0 : Nat) (fun k => k ≤ l.length ∧ ∀ (i : Nat) (x : (Int × Int)), i < k → l[i]? = some x → p x = false) (fun k => [(8, int k)]) (fun _ => []) (fun k => l.length - k) pickZ ⟨by omega, fun i x h => by omega⟩ covZ selZ ?_
 rintro k ⟨hk, hI⟩
 by_cases hlt : k < l.length
 ·have hx := List.getElem?_eq_getElem hlt
  obtain ⟨b1, o1, rfl, hrd⟩ := hr k _ hx
  have hrd2 : RdN ρ b1 (o1 + k * 2) (encS l[k]) := hrd
  have hf := hfn k _ hx
  refine AD ?_
  refine AA ?_
  refine BI ?_
  refine AE ?_
  refine AD ?_
  refine AO rfl ?_
  refine AM ?_
  refine AD ?_
  refine AS ?_
  refine AD ?_
  refine AA ?_
  refine AB ?_
  refine AC ?_
  refine AE ?_
  refine AD ?_
  refine AA ?_
  refine AB ?_
  refine AB ?_
  refine AB ?_
  refine BL ?_
  refine AT ?_
  refine A2 hf rfl rfl (fun τ hτ => .inl (by simp [hτ])) rfl rfl ?_
  rintro _ rfl
  cases hp : p l[k] with
  | true =>
   refine AE ?_
   refine AO rfl ?_
   refine AD ?_
   refine AA ?_
   refine AB ?_
   refine AC ?_
   refine AE ?_
   exact AI (res1 rfl rfl) rsubZ selZ ⟨rfl, .inl ⟨k, l[k], hx, hp, hI, rfl⟩⟩
  | false =>
   refine AE ?_
   refine AN rfl ?_
   refine AM ?_
   refine A6 ?_
   refine AA ?_
   refine BA ?_
   refine AB ?_
   refine AE ?_
   refine A0 (k + 1) ⟨by omega, fun i x hi hix => ?_⟩ (by omega) covZ selZ
   by_cases e : i = k
   ·subst e; rw [hx] at hix; injection hix with hix; rw [← hix]; exact hp
   ·exact hI i x (by omega) hix
 ·refine AD ?_
  refine AA ?_
  refine AZ ?_
  refine AE ?_
  refine AD ?_
  refine AN rfl ?_
  refine BB rfl ?_
  refine AD ?_
  refine AA ?_
  refine AC ?_
  refine AE ?_
  refine AI (res1 rfl rfl) rsubZ selZ ⟨rfl, .inr ⟨fun x hx => ?_, rfl⟩⟩
  obtain ⟨i, hi, rfl⟩ := List.getElem_of_mem hx
  exact hI i _ (by omega) (List.getElem?_eq_getElem hi)
theorem contS_spec (ρ : PH) (Rs : List PH) (v fn : Value) (l : List (Int × Int)) (p : (Int × Int) → Bool) (hv : SlE encS 2 ρ v l) (hl : l.length ≤ 9223372036854775807) (hfn : ∀ (i : Nat) (x : (Int × Int)), l[i]? = some x → Ans Tryz.prog fn [.agg (encS x).toArray] Rs (fun r => r = .bool (p x))) :
  Ans Tryz.prog (fv 27) [v, fn] (ρ :: Rs) (fun r => r = .bool (l.any p)) := by
 have hix := indexS_spec ρ Rs v fn l p hv hl hfn
 obtain ⟨q, c, rfl, hr⟩ := hv.val encS_len
 refine spec_in (cap := []) Tryz.func27 rfl rfl Tryz.ntmps27 rfl envZ (fun N β => ?_)
 refine AD ?_
 refine AA ?_
 refine AC ?_
 refine AE ?_
 refine AD ?_
 refine AA ?_
 refine AB ?_
 refine AB ?_
 refine A2 hix rfl rfl (fun τ hτ => .inl (List.mem_cons_of_mem _ hτ)) rfl rfl ?_
 rintro _ (⟨i, x, hi, hp, _, rfl⟩ | ⟨hall2, rfl⟩)
 ·have hfl : l.any p = true := List.any_eq_true.2 ⟨x, List.mem_of_getElem? hi, hp⟩
  refine CB ?_
  refine AC ?_
  refine AE ?_
  exact AI (res1 rfl rfl) rsubZ selZ ⟨rfl, by rw [hfl]⟩
 ·have hfl : l.any p = false := List.any_eq_false.2 (fun x hx => by rw [hall2 x hx]; simp)
  refine BH ?_
  refine AC ?_
  refine AE ?_
  exact AI (res1 rfl rfl) rsubZ selZ ⟨rfl, by rw [hfl]⟩
set_option maxHeartbeats 16000000 in
theorem busy_spec (ρ : PH) (v : Value) (l : List Bk) (c : Int) (hv : BkAt ρ v l) (hl : l.length ≤ 1000) :
  Makes Tryz.prog (fv 73) [v, int c] [ρ] (fun r σ => OwnS 61 2 r (busyL l c).length ((busyL l c).flatMap encS) σ) := by
 obtain ⟨q, cc, rfl, hr⟩ := hv.val encB_len
 refine spec_in (cap := []) Tryz.func73 rfl rfl Tryz.ntmps73 rfl envZ (fun N β => ?_)
 refine B5 ?_
 refine AD ?_
 refine AA ?_
 refine AC ?_
 refine AE ?_
 refine AD ?_
 refine AA ?_
 refine AC ?_
 refine AE ?_
 refine AD ?_
 refine AD ?_
 refine AA ?_
 refine AB ?_
 refine AW ?_
 refine AB ?_
 refine AE ?_
 refine AS ?_
 refine BJ [1, 8, 9] (X := Nat × (Value × PH)) (0, (.slice none 0 0, emp)) (fun x => x.1 ≤ l.length ∧ OwnS 61 2 x.2.1 (busyL (l.take x.1) c).length ((busyL (l.take x.1) c).flatMap encS) x.2.2) (fun x => [(10, int x.1), (5, x.2.1)]) (fun x => [x.2.2]) (fun x => l.length - x.1) pickZ ⟨by dsimp only; omega, OwnS.nil _ _⟩ covZ selZ ?_
 rintro ⟨k, u, σ⟩ ⟨hk, hO⟩
 dsimp only at hk hO ⊢
 by_cases hlt : k < l.length
 ·have hx := List.getElem?_eq_getElem hlt
  have hn := busyL_next c hx
  have hrl := busyL_len (l.take k) c
  rw [List.length_take, Nat.min_eq_left hk] at hrl
  obtain ⟨b1, o1, rfl, hRd1, g0, g1, g2, g3⟩ := bkRow hr hx
  generalize l[k] = x at hRd1 g0 g1 g2 g3 hn
  by_cases hc : x.c = c
  rotate_left
  ·rw [if_neg hc, List.append_nil] at hn
   refine AD ?_
   refine AA ?_
   refine BI ?_
   refine AE ?_
   refine AD ?_
   refine AO rfl ?_
   refine AM ?_
   refine AD ?_
   refine AS ?_
   refine AD ?_
   refine AA ?_
   refine BL ?_
   refine AT ?_
   refine AY ?_; rintro _ _ ⟨b, rfl, rfl⟩
   refine AX ?_; rintro _ _ ⟨rfl, rfl⟩
   refine AE ?_
   refine AD ?_
   refine AA ?_
   refine AG ?_
   refine AF ?_
   refine AB ?_
   refine BO ?_
   refine AE ?_
   refine AN rfl ?_
   refine AM ?_
   refine A6 ?_
   refine AA ?_
   refine BA ?_
   refine AB ?_
   refine AE ?_
   exact A0 (k + 1, (u, σ)) ⟨by dsimp only; omega, by dsimp only; rw [hn]; exact hO⟩ (by dsimp only; omega) covZ selZ
  ·rw [if_pos hc] at hn
   refine AD ?_
   refine AA ?_
   refine BI ?_
   refine AE ?_
   refine AD ?_
   refine AO rfl ?_
   refine AM ?_
   refine AD ?_
   refine AS ?_
   refine AD ?_
   refine AA ?_
   refine BL ?_
   refine AT ?_
   refine AY ?_; rintro _ _ ⟨b, rfl, rfl⟩
   refine AX ?_; rintro _ _ ⟨rfl, rfl⟩
   refine AE ?_
   refine AD ?_
   refine AA ?_
   refine AG ?_
   refine AF ?_
   refine AB ?_
   refine BQ ?_
   refine AE ?_
   refine AO rfl ?_
   refine AA ?_
   refine AB ?_
   refine AG ?_
   refine AF ?_
   refine AG ?_
   refine AF ?_
   refine BZ ?_
   refine BF ?_; rintro _ _ ⟨b, rfl, rfl⟩
   refine BC (BW (by_ := 16) (s := 2) (news := [int x.a, int x.b]) rfl rfl rfl rfl rfl rfl rfl hO takeZ (cells_own memZ) rfl (by (repeat (first | exact (fun v hv => absurd hv List.not_mem_nil) | (refine List.forall_mem_cons.2 ⟨?_, ?_⟩; (focus (first | exact rfl | assumption))))); first | done | fail) (by omega) (by simp only [maxLen]; omega) (by omega)) rfl rfl rfl ?_
   rintro u1 _ ⟨σ1, hO1, rfl⟩
   refine AC ?_
   refine AE ?_
   refine A6 ?_
   refine AA ?_
   refine BA ?_
   refine AB ?_
   refine AE ?_
   refine A0 (k + 1, (u1, σ1)) ⟨by dsimp only; omega, ?_⟩ (by dsimp only; omega) covZ selZ
   dsimp only
   rw [hn, List.length_append, List.flatMap_append]
   exact hO1
 ·have hke : k = l.length := by omega
  subst hke
  rw [List.take_length] at hO
  refine AD ?_
  refine AA ?_
  refine AZ ?_
  refine AE ?_
  refine AD ?_
  refine AN rfl ?_
  refine BB rfl ?_
  refine AD ?_
  refine AA ?_
  refine AB ?_
  refine AC ?_
  refine AE ?_
  exact AI (res1 rfl rfl) rsubZ selZ ⟨σ, hO, rfl⟩
end Go.Proofs.YthdoegkjifgegaaGreat
/- Demands, shipments, stocks. No program in sight. No conditions. -/
namespace Go.Step
/-- a demand: source, dest, volume, ready, deadline -/
structure Dm where
  s : Int
  d : Int
  v : Int
  r : Int
  e : Int
deriving DecidableEq
/-- a shipment: contact, at, bytes -/
structure Sh where
  c : Int
  t : Int
  n : Int
deriving DecidableEq
def okDm (nq : Nat) (d : Dm) : Prop := (0 ≤ d.s ∧ d.s < nq) ∧ (0 ≤ d.d ∧ d.d < nq) ∧ d.s ≠ d.d ∧ (1 ≤ d.v ∧ d.v ≤ 1099511627776) ∧ (0 ≤ d.r ∧ d.r < d.e ∧ d.e ≤ 1099511627776 ∧ d.e - d.r ≤ 100)
instance (nq : Nat) (d : Dm) : Decidable (okDm nq d) := inferInstanceAs (Decidable (_ ∧ _))
def validT (qs : List Int) (cs : List Ct) (bs : List Bk) (hs : List Hd) (d : Dm) : Bool := decide (chkT qs cs bs hs = 0 ∧ okDm qs.length d)
def roomT (qs : List Int) (hs : List Hd) (d : Dm) (n t : Int) : Int := if n = d.s ∨ n = d.d then 1099511627776 else qs.getD n.toNat 0 - stored hs n t
end Go.Step
/- The table of stocks, change by change. No program in sight. No conditions. -/
namespace Go.Step
end Go.Step
/- Sets of integers as spans. No program in sight. No conditions. -/
namespace Go.Step
def okSp (x : Int × Int) : Prop := x.1 < x.2 ∧ -1152921504606846976 ≤ x.1 ∧ x.2 ≤ 1152921504606846976
instance (x : Int × Int) : Decidable (okSp x) := inferInstanceAs (Decidable (_ ∧ _))
def spE (l : List (Int × Int)) (i : Nat) : Int := match l[i]? with
  | some x => if ¬ okSp x then 2 else if 0 < i ∧ x.1 ≤ (l.getD (i - 1) x).2 then 9 else 0
  | none => 0
theorem spE_at {l : List (Int × Int)} {i : Nat} {x : Int × Int} (e : l[i]? = some x) : spE l i = if ¬ okSp x then 2 else if 0 < i ∧ x.1 ≤ (l.getD (i - 1) x).2 then 9 else 0 := by unfold spE; rw [e]
/-- what is wrong with a set -/
def chkI (l : List (Int × Int)) : Int := if 1000 < l.length then 4 else firstE (spE l) l.length
def inSp (t : Int) (x : Int × Int) : Bool := decide (x.1 ≤ t) && decide (t < x.2)
end Go.Step
/- Sets of integers: checked, asked. -/
namespace Go.Proofs.YthdoegkjifgegaaGreat
open Go.Eng Go.Step
set_option maxRecDepth 100000
set_option maxHeartbeats 4000000

theorem ivValid_spec (x : Int × Int) : Ans Tryz.prog (fv 143) [.agg #[int x.1, int x.2]] [] (fun r => r = .bool (decide (okSp x))) := by
 refine spec_in (cap := []) Tryz.func143 rfl rfl Tryz.ntmps143 rfl envZ (fun N β => ?_)
 by_cases h1 : x.1 < x.2
 ·by_cases h2 : -1152921504606846976 ≤ x.1
  ·by_cases h3 : x.2 ≤ 1152921504606846976
   ·rw [decide_eq_true (show okSp x from ⟨h1, h2, h3⟩)]
    refine AD ?_
    refine AA ?_
    refine B9 ?_; rintro _ _ ⟨b, rfl, rfl⟩
    refine AC ?_
    refine AE ?_
    refine AD ?_
    refine AA ?_
    refine AG ?_
    refine AF ?_
    refine AG ?_
    refine AF ?_
    refine BI ?_
    refine AB ?_
    refine AG ?_
    refine AF ?_
    refine CB ?_
    refine AK ?_
    refine AB ?_
    refine AG ?_
    refine AF ?_
    refine CN ?_
    refine AK ?_
    refine AC ?_
    refine AE ?_
    exact AI (res1 rfl rfl) rsubZ selZ ⟨rfl, rfl⟩
   ·rw [decide_eq_false (fun h : okSp x => h3 h.2.2)]
    refine AD ?_
    refine AA ?_
    refine B9 ?_; rintro _ _ ⟨b, rfl, rfl⟩
    refine AC ?_
    refine AE ?_
    refine AD ?_
    refine AA ?_
    refine AG ?_
    refine AF ?_
    refine AG ?_
    refine AF ?_
    refine BI ?_
    refine AB ?_
    refine AG ?_
    refine AF ?_
    refine CB ?_
    refine AK ?_
    refine AB ?_
    refine AG ?_
    refine AF ?_
    refine C0 ?_
    refine AK ?_
    refine AC ?_
    refine AE ?_
    exact AI (res1 rfl rfl) rsubZ selZ ⟨rfl, rfl⟩
  ·rw [decide_eq_false (fun h : okSp x => h2 h.2.1)]
   refine AD ?_
   refine AA ?_
   refine B9 ?_; rintro _ _ ⟨b, rfl, rfl⟩
   refine AC ?_
   refine AE ?_
   refine AD ?_
   refine AA ?_
   refine AG ?_
   refine AF ?_
   refine AG ?_
   refine AF ?_
   refine BI ?_
   refine AB ?_
   refine AG ?_
   refine AF ?_
   refine BH ?_
   refine AK ?_
   refine AB ?_
   refine AH rfl rfl rfl ?_
   refine AH rfl rfl rfl ?_
   refine AH rfl rfl rfl ?_
   refine AJ ?_
   refine AC ?_
   refine AE ?_
   exact AI (res1 rfl rfl) rsubZ selZ ⟨rfl, rfl⟩
 ·rw [decide_eq_false (fun h : okSp x => h1 h.1)]
  refine AD ?_
  refine AA ?_
  refine B9 ?_; rintro _ _ ⟨b, rfl, rfl⟩
  refine AC ?_
  refine AE ?_
  refine AD ?_
  refine AA ?_
  refine AG ?_
  refine AF ?_
  refine AG ?_
  refine AF ?_
  refine AZ ?_
  refine AB ?_
  refine AH rfl rfl rfl ?_
  refine AH rfl rfl rfl ?_
  refine AH rfl rfl rfl ?_
  refine AJ ?_
  refine AB ?_
  refine AH rfl rfl rfl ?_
  refine AH rfl rfl rfl ?_
  refine AH rfl rfl rfl ?_
  refine AJ ?_
  refine AC ?_
  refine AE ?_
  exact AI (res1 rfl rfl) rsubZ selZ ⟨rfl, rfl⟩
set_option maxHeartbeats 16000000 in
theorem ivCheck_spec (ρ : PH) (v : Value) (l : List (Int × Int)) (hv : SpAt ρ v l) (hl : l.length ≤ 9223372036854775807) :
  Ans Tryz.prog (fv 121) [v] [ρ] (fun r => r = int (chkI l)) := by
 obtain ⟨q, c, rfl, hr⟩ := hv.val encS_len
 refine spec_in (cap := []) Tryz.func121 rfl rfl Tryz.ntmps121 rfl envZ (fun N β => ?_)
 unfold chkI
 by_cases hbig : 1000 < l.length
 ·rw [if_pos hbig]
  refine AD ?_
  refine AA ?_
  refine AC ?_
  refine AE ?_
  refine AD ?_
  refine AD ?_
  refine AA ?_
  refine AB ?_
  refine AW ?_
  refine CT ?_
  refine AE ?_
  refine AO rfl ?_
  refine AD ?_
  refine AA ?_
  refine AC ?_
  refine AE ?_
  exact AI (res1 rfl rfl) rsubZ selZ ⟨rfl, rfl⟩
 rw [if_neg hbig]
 refine AD ?_
 refine AA ?_
 refine AC ?_
 refine AE ?_
 refine AD ?_
 refine AD ?_
 refine AA ?_
 refine AB ?_
 refine AW ?_
 refine BY ?_
 refine AE ?_
 refine AN rfl ?_
 refine AM ?_
 refine AD ?_
 refine AD ?_
 refine AA ?_
 refine AB ?_
 refine AW ?_
 refine AB ?_
 refine AE ?_
 refine AS ?_
 refine BJ [0, 8, 9] (0 : Nat) (fun k => k ≤ l.length ∧ firstE (spE l) k = 0) (fun k => [(10, int k)]) (fun _ => []) (fun k => l.length - k) pickZ ⟨by omega, rfl⟩ covZ selZ ?_
 rintro k ⟨hk, hI⟩
 by_cases hlt : k < l.length
 ·have hx := List.getElem?_eq_getElem hlt
  obtain ⟨b4, o4, rfl, hrd, g0, g1⟩ := spRow hr hx
  have hE := spE_at hx
  generalize l[k] = x at hrd g0 g1 hE
  refine AD ?_
  refine AA ?_
  refine BI ?_
  refine AE ?_
  refine AD ?_
  refine AO rfl ?_
  refine AM ?_
  refine AD ?_
  refine AS ?_
  refine AD ?_
  refine AA ?_
  refine AB ?_
  refine BL ?_
  refine AT ?_
  refine AY ?_; rintro _ _ ⟨b, rfl, rfl⟩
  refine AC ?_
  refine AX ?_; rintro _ _ ⟨rfl, rfl⟩
  refine AE ?_
  refine AD ?_
  refine AD ?_
  refine AA ?_
  refine AT ?_
  revert b; intro b6
  refine A2 (ivValid_spec x) rfl rfl rdZ rfl rfl ?_
  rintro _ rfl
  by_cases hok : okSp x
  rotate_left
  ·rw [if_pos hok] at hE
   have hh := firstE_hit hI (by rw [hE]; decide) _ hlt
   rw [hh, hE, decide_eq_false hok]
   refine A7 ?_
   refine AE ?_
   refine AO rfl ?_
   refine AD ?_
   refine AA ?_
   refine AC ?_
   refine AE ?_
   exact AI (res1 rfl rfl) rsubZ selZ ⟨rfl, rfl⟩
  rw [if_neg (fun h => h hok)] at hE
  rw [decide_eq_true hok]
  refine A7 ?_
  refine AE ?_
  refine AN rfl ?_
  refine AM ?_
  refine AD ?_
  refine A3 (.q 0 (.q 1 (.q 2 (.q 3 (.q 4 (.q 5 (.q 6 (.q 7 (.q 8 (.q 9 (.q 10 (.q 11 (.q 12 .nil))))))))))))) [sng b6 _] rfl (by kernel_rfl) selZ ?_
  by_cases h0 : k = 0
  ·subst h0
   rw [if_neg (by omega)] at hE
   refine AQ ?_
   refine DU ?_
   refine AQ ?_
   refine A5 rfl rfl rfl rfl rfl ?_
   refine A5 rfl rfl rfl rfl rfl ?_
   refine A5 rfl rfl rfl rfl rfl ?_
   refine A5 rfl rfl rfl rfl rfl ?_
   refine A5 rfl rfl rfl rfl rfl ?_
   refine A5 rfl rfl rfl rfl rfl ?_
   refine A5 rfl rfl rfl rfl rfl ?_
   refine A5 rfl rfl rfl rfl rfl ?_
   refine A5 rfl rfl rfl rfl rfl ?_
   refine B8 ?_
   refine A4 ?_
   refine AN rfl ?_
   refine AM ?_
   refine A6 ?_
   refine AA ?_
   refine BA ?_
   refine AB ?_
   refine AE ?_
   exact A0 (0 + 1) ⟨by omega, firstE_ok hI hE⟩ (by omega) covZ selZ
  ·have hx' := List.getElem?_eq_getElem (show k - 1 < l.length by omega)
   obtain ⟨_, _, e, _, p0, p1⟩ := spRow hr hx'
   simp only [Option.some.injEq, Addr.mk.injEq, and_true] at e
   obtain ⟨rfl, rfl⟩ := e
   rw [List.getD_eq_getElem?_getD, hx', Option.getD_some] at hE
   generalize l[k - 1] = p at p0 p1 hE
   by_cases h9 : x.1 ≤ p.2
   ·rw [if_pos ⟨by omega, h9⟩] at hE
    have hh := firstE_hit hI (by rw [hE]; decide) _ hlt
    rw [hh, hE]
    refine AQ ?_
    refine EJ ?_
    refine AQ ?_
    refine AU ?_
    refine AP ?_
    refine AQ ?_
    refine AQ ?_
    refine CC ?_
    refine BX ?_
    refine CL ?_
    refine AP ?_
    refine zd_le ?_
    refine BS ?_
    refine A4 ?_
    refine AO rfl ?_
    refine AD ?_
    refine AA ?_
    refine AC ?_
    refine AE ?_
    exact AI (res1 rfl rfl) rsubZ selZ ⟨rfl, rfl⟩
   ·rw [if_neg (fun h => h9 h.2)] at hE
    refine AQ ?_
    refine EJ ?_
    refine AQ ?_
    refine AU ?_
    refine AP ?_
    refine AQ ?_
    refine AQ ?_
    refine CC ?_
    refine BX ?_
    refine CL ?_
    refine AP ?_
    refine GG ?_
    refine BS ?_
    refine A4 ?_
    refine AN rfl ?_
    refine AM ?_
    refine A6 ?_
    refine AA ?_
    refine BA ?_
    refine AB ?_
    refine AE ?_
    exact A0 (k + 1) ⟨by omega, firstE_ok hI hE⟩ (by omega) covZ selZ
 have hke : k = l.length := by omega
 subst hke
 rw [hI]
 refine AD ?_
 refine AA ?_
 refine AZ ?_
 refine AE ?_
 refine AD ?_
 refine AN rfl ?_
 refine BB rfl ?_
 refine AD ?_
 refine AA ?_
 refine AC ?_
 refine AE ?_
 exact AI (res1 rfl rfl) rsubZ selZ ⟨rfl, rfl⟩
end Go.Proofs.YthdoegkjifgegaaGreat
/- Demands: checked. -/
namespace Go.Proofs.YthdoegkjifgegaaGreat
open Go.Eng Go.Step
set_option maxRecDepth 100000
set_option maxHeartbeats 4000000

theorem chkPl_ct {qs : List Int} {cs : List Ct} (h : chkPl qs cs = 0) : cs.length ≤ 64 ∧ ∀ c ∈ cs, chkCt c = 0 ∧ c.f < qs.length ∧ c.t < qs.length := by
 unfold chkPl at h
 by_cases h1 : qs.length < 1 ∨ 16 < qs.length ∨ 64 < cs.length
 ·rw [if_pos h1] at h; omega
 rw [if_neg h1] at h
 by_cases h2 : firstE (quoE qs) qs.length = 0
 ·rw [if_neg (by simpa using h2)] at h
  refine ⟨by omega, fun c hc => ?_⟩
  obtain ⟨i, hi, rfl⟩ := List.getElem_of_mem hc
  have h3 := firstE_zero h i hi
  rw [ctE_at (List.getElem?_eq_getElem hi)] at h3
  by_cases h4 : chkCt cs[i] = 0
  ·rw [if_neg (by simpa using h4)] at h3
   by_cases h5 : (qs.length : Int) ≤ cs[i].f ∨ (qs.length : Int) ≤ cs[i].t
   ·rw [if_pos h5] at h3; omega
   ·exact ⟨h4, by omega, by omega⟩
  ·rw [if_pos h4] at h3; exact absurd h3 h4
 ·rw [if_pos h2] at h; exact absurd h h2
theorem chkCt_all {c : Ct} (h : chkCt c = 0) : (0 ≤ c.f ∧ c.f ≤ 15) ∧ (0 ≤ c.t ∧ c.t ≤ 15) ∧ (0 ≤ c.s ∧ c.s < c.e ∧ c.e ≤ 1099511627776) ∧ (1 ≤ c.r ∧ c.r ≤ 1000) ∧ (1 ≤ c.g ∧ c.g ≤ 1048576) := by
 have h2 := chkCt_se h
 unfold chkCt at h
 by_cases h1 : okCt c
 ·unfold okCt at h1
  exact ⟨h1.1, h1.2.1, h2, h1.2.2.1, h1.2.2.2.1⟩
 ·rw [if_pos h1] at h; omega
end Go.Proofs.YthdoegkjifgegaaGreat
/- Rooms, arrivals, shipments. -/
namespace Go.Proofs.YthdoegkjifgegaaGreat
open Go.Eng Go.Step
set_option maxRecDepth 100000
set_option maxHeartbeats 4000000

def encX (x : Sh) : List Value := [int x.c, int x.t, int x.n]
end Go.Proofs.YthdoegkjifgegaaGreat
/- Cuts and their capacities. No program in sight. No conditions. -/
namespace Go.Step
abbrev Cu := List (List (Int × Int))
def cuAt (c : Cu) (n : Int) : List (Int × Int) := c.getD n.toNat []
def sumT (f : Int → Int) (a : Int) : Nat → Int
  | 0 => 0
  | m + 1 => sumT f a m + f (a + m)
theorem sumT_congr {f g : Int → Int} {a : Int} : ∀ {m : Nat}, (∀ k : Nat, k < m → f (a + k) = g (a + k)) → sumT f a m = sumT g a m
  | 0, _ => rfl
  | m + 1, h => by rw [sumT, sumT, sumT_congr (m := m) (fun k hk => h k (Nat.lt_succ_of_lt hk)), h m (Nat.lt_succ_self m)]
theorem sumT_bd {f : Int → Int} {B : Int} (h : ∀ t, -B ≤ f t ∧ f t ≤ B) (a : Int) : ∀ m : Nat, -(B * m) ≤ sumT f a m ∧ sumT f a m ≤ B * m
  | 0 => by simp [sumT]
  | m + 1 => by
    have ih := sumT_bd h a m
    have := h (a + m)
    have e : B * ((m + 1 : Nat) : Int) = B * (m : Int) + B := by rw [Int.natCast_succ, Int.mul_add, Int.mul_one]
    show -(B * ((m + 1 : Nat) : Int)) ≤ sumT f a m + f (a + m) ∧ sumT f a m + f (a + m) ≤ B * ((m + 1 : Nat) : Int)
    rw [e]
    omega
/-- the sum over the times from a to before t -/
def sumU (f : Int → Int) (a t : Int) : Int := sumT f a (t - a).toNat
theorem sumU_bd {f : Int → Int} {B a t : Int} (hB : 0 ≤ B) (h : ∀ t, -B ≤ f t ∧ f t ≤ B) (h1 : t - a ≤ 100) : -(B * 100) ≤ sumU f a t ∧ sumU f a t ≤ B * 100 := by
  have := sumT_bd h a (t - a).toNat
  have h2 : B * ((t - a).toNat : Int) ≤ B * 100 := Int.mul_le_mul_of_nonneg_left (by omega) hB
  unfold sumU
  omega
end Go.Step
/- What crosses a cut. -/
namespace Go.Proofs.YthdoegkjifgegaaGreat
open Go.Eng Go.Step
set_option maxRecDepth 100000
set_option maxHeartbeats 4000000

/-- a cut in memory: the slices in ρ, what they hold in κ -/
def CutRow (ρ κ : PH) (p : Option Addr) (c : Cu) : Prop := ∀ (i : Nat) (l : List (Int × Int)), c[i]? = some l → ∃ b o q k, p = some ⟨b, o, none⟩ ∧ rdc ρ b (o + i) = some (.slice q l.length k) ∧ SpAt κ (.slice q l.length k) l ∧ l.length ≤ 9223372036854775807
end Go.Proofs.YthdoegkjifgegaaGreat
/- Arguments that are slices: their room. No conditions. -/
namespace Go.Eng
open Go.ChangeShapes Go.WideShapes Go.RowKit
variable {P : Program} {W : World} {t : TypeId}
theorem RdT.capOK {e : TypeId} {v : Value} (ht : P.underlying t = some (.slice e)) (h : RdT P W t [v]) : CapOK v := by
  obtain ⟨H, enc, fuel, x, h⟩ := h
  rcases Deep.open_slice ht h with ⟨e, _⟩ | ⟨a, len, cap, m, n, D, Pl, e, _, hlc, _⟩
  · simp only [List.cons.injEq, and_true] at e
    exact ⟨_, _, _, e, Nat.le_refl _⟩
  · simp only [List.cons.injEq, and_true] at e
    exact ⟨_, _, _, e, hlc⟩
end Go.Eng
/- The rows: each law, for every input. -/
namespace Go.Proofs.YthdoegkjifgegaaGreat
open Go.Eng Go.Step
set_option maxRecDepth 100000
set_option maxHeartbeats 4000000
open Go.ChangeShapes Go.WideShapes Go.ChangeAt Go.RowKit

theorem Tryz.own : ownKnob Tryz.prog.godebug = none := by kernel_rfl
theorem Tryz.laidOut : laidOutB Tryz.prog = true := by kernel_rfl
theorem wf_u8 {n : Int} (h : (Lit.int .u8 n).wf = true) : 0 ≤ n ∧ n ≤ 255 := by
 simp only [Lit.wf, Bool.and_eq_true, decide_eq_true_eq] at h
 exact ⟨h.1, h.2⟩
theorem ct_of {W : World} {x : List Value} (h : RdT Tryz.prog W 70 x) : ∃ a : Ct, x = encC a ∧ True := by
 obtain ⟨h1, _⟩ := h.struct Tryz.underlying70
 have hc : Tryz.prog.cellsOf 70 = 7 := by kernel_rfl
 rw [hc] at h1
 match x, h1 with
 | [c0, c1, c2, c3, c4, c5, c6], _ =>
  have k : Tryz.prog.cellsOf 3 = 1 := by kernel_rfl
  obtain ⟨x0, e0, _⟩ := (h.fld1 Tryz.underlying70 0 rfl rfl rfl k rfl).i64 Tryz.underlying3
  obtain ⟨x1, e1, _⟩ := (h.fld1 Tryz.underlying70 1 rfl rfl rfl k rfl).i64 Tryz.underlying3
  obtain ⟨x2, e2, _⟩ := (h.fld1 Tryz.underlying70 2 rfl rfl rfl k rfl).i64 Tryz.underlying3
  obtain ⟨x3, e3, _⟩ := (h.fld1 Tryz.underlying70 3 rfl rfl rfl k rfl).i64 Tryz.underlying3
  obtain ⟨x4, e4, _⟩ := (h.fld1 Tryz.underlying70 4 rfl rfl rfl k rfl).i64 Tryz.underlying3
  obtain ⟨x5, e5, _⟩ := (h.fld1 Tryz.underlying70 5 rfl rfl rfl k rfl).i64 Tryz.underlying3
  obtain ⟨x6, e6, _⟩ := (h.fld1 Tryz.underlying70 6 rfl rfl rfl k rfl).i64 Tryz.underlying3
  simp at e0 e1 e2 e3 e4 e5 e6
  subst e0 e1 e2 e3 e4 e5 e6
  exact ⟨⟨x0, x1, x2, x3, x4, x5, x6⟩, rfl, trivial⟩
theorem bk_of {W : World} {x : List Value} (h : RdT Tryz.prog W 73 x) : ∃ a : Bk, x = encB a ∧ True := by
 obtain ⟨h1, _⟩ := h.struct Tryz.underlying73
 have hc : Tryz.prog.cellsOf 73 = 4 := by kernel_rfl
 rw [hc] at h1
 match x, h1 with
 | [c0, c1, c2, c3], _ =>
  have k : Tryz.prog.cellsOf 3 = 1 := by kernel_rfl
  obtain ⟨x0, e0, _⟩ := (h.fld1 Tryz.underlying73 0 rfl rfl rfl k rfl).i64 Tryz.underlying3
  obtain ⟨x1, e1, _⟩ := (h.fld1 Tryz.underlying73 1 rfl rfl rfl k rfl).i64 Tryz.underlying3
  obtain ⟨x2, e2, _⟩ := (h.fld1 Tryz.underlying73 2 rfl rfl rfl k rfl).i64 Tryz.underlying3
  obtain ⟨x3, e3, _⟩ := (h.fld1 Tryz.underlying73 3 rfl rfl rfl k rfl).i64 Tryz.underlying3
  simp at e0 e1 e2 e3
  subst e0 e1 e2 e3
  exact ⟨⟨x0, x1, x2, x3⟩, rfl, trivial⟩
theorem hd_of {W : World} {x : List Value} (h : RdT Tryz.prog W 75 x) : ∃ a : Hd, x = encH a ∧ True := by
 obtain ⟨h1, _⟩ := h.struct Tryz.underlying75
 have hc : Tryz.prog.cellsOf 75 = 5 := by kernel_rfl
 rw [hc] at h1
 match x, h1 with
 | [c0, c1, c2, c3, c4], _ =>
  have k : Tryz.prog.cellsOf 3 = 1 := by kernel_rfl
  obtain ⟨x0, e0, _⟩ := (h.fld1 Tryz.underlying75 0 rfl rfl rfl k rfl).i64 Tryz.underlying3
  obtain ⟨x1, e1, _⟩ := (h.fld1 Tryz.underlying75 1 rfl rfl rfl k rfl).i64 Tryz.underlying3
  obtain ⟨x2, e2, _⟩ := (h.fld1 Tryz.underlying75 2 rfl rfl rfl k rfl).i64 Tryz.underlying3
  obtain ⟨x3, e3, _⟩ := (h.fld1 Tryz.underlying75 3 rfl rfl rfl k rfl).i64 Tryz.underlying3
  obtain ⟨x4, e4, _⟩ := (h.fld1 Tryz.underlying75 4 rfl rfl rfl k rfl).i64 Tryz.underlying3
  simp at e0 e1 e2 e3 e4
  subst e0 e1 e2 e3 e4
  exact ⟨⟨x0, x1, x2, x3, x4⟩, rfl, trivial⟩
theorem demand_of {W : World} {r : Reach} {base : Nat} {v0 : Value} (hv : Value.okWide Tryz.prog W r base 31 v0) (h : RdT Tryz.prog W 31 v0.cells.toList) : ∃ a : Dm, v0 = .agg [int a.s, int a.d, int a.v, int a.r, int a.e].toArray ∧ In64 a.s ∧ In64 a.d ∧ In64 a.v ∧ In64 a.r ∧ In64 a.e := by
 obtain ⟨cs, rfl⟩ := okWide_agg Tryz.underlying31 hv
 obtain ⟨h1, _⟩ := h.struct Tryz.underlying31
 have hc : Tryz.prog.cellsOf 31 = 5 := by kernel_rfl
 rw [hc] at h1
 obtain ⟨x⟩ := cs
 match x, h1 with
 | [c0, c1, c2, c3, c4], _ =>
  have k : Tryz.prog.cellsOf 3 = 1 := by kernel_rfl
  obtain ⟨x0, e0, i0⟩ := (h.fld1 Tryz.underlying31 0 rfl rfl rfl k rfl).i64 Tryz.underlying3
  obtain ⟨x1, e1, i1⟩ := (h.fld1 Tryz.underlying31 1 rfl rfl rfl k rfl).i64 Tryz.underlying3
  obtain ⟨x2, e2, i2⟩ := (h.fld1 Tryz.underlying31 2 rfl rfl rfl k rfl).i64 Tryz.underlying3
  obtain ⟨x3, e3, i3⟩ := (h.fld1 Tryz.underlying31 3 rfl rfl rfl k rfl).i64 Tryz.underlying3
  obtain ⟨x4, e4, i4⟩ := (h.fld1 Tryz.underlying31 4 rfl rfl rfl k rfl).i64 Tryz.underlying3
  simp at e0 e1 e2 e3 e4
  subst e0 e1 e2 e3 e4
  exact ⟨⟨x0, x1, x2, x3, x4⟩, rfl, i0, i1, i2, i3, i4⟩
theorem int_of {W : World} {x : List Value} (h : RdT Tryz.prog W 3 x) : ∃ a : Int, x = Eng.encI a ∧ True := by
 obtain ⟨a, e, _⟩ := h.i64 Tryz.underlying3
 exact ⟨a, e, trivial⟩
theorem tables_of {W : World} {r : Reach} {base : Nat} {v0 : Value} (hv : Value.okWide Tryz.prog W r base 29 v0) (h : RdT Tryz.prog W 29 v0.cells.toList) :
  ∃ (pq pc pb ph : Option Addr) (kq kc kb kh : Nat) (qs : List Int) (cs : List Ct) (bs : List Bk) (hs : List Hd), v0 = .agg #[.slice pq qs.length kq, .slice pc cs.length kc, .slice pb bs.length kb, .slice ph hs.length kh] ∧ TbAt (heapPH W) (heapPH W) (heapPH W) (heapPH W) pq pc pb ph kq kc kb kh qs cs bs hs := by
 obtain ⟨cs, rfl⟩ := okWide_agg Tryz.underlying29 hv
 obtain ⟨h1, hf⟩ := h.struct Tryz.underlying29
 have hc : Tryz.prog.cellsOf 29 = 4 := by kernel_rfl
 rw [hc] at h1
 obtain ⟨x⟩ := cs
 match x, h1 with
 | [c0, c1, c2, c3], _ =>
  have k0 : Tryz.prog.cellsOf 22 = 1 := by kernel_rfl
  have k1 : Tryz.prog.cellsOf 23 = 1 := by kernel_rfl
  have k2 : Tryz.prog.cellsOf 26 = 1 := by kernel_rfl
  have k3 : Tryz.prog.cellsOf 27 = 1 := by kernel_rfl
  have kp : Tryz.prog.cellsOf 25 = 2 := by kernel_rfl
  have hp : RdT Tryz.prog W 25 [c0, c1] := by
   have : RdT Tryz.prog W 25 ((([c0, c1, c2, c3] : List Value).drop 0).take (Tryz.prog.cellsOf 25)) := hf 0 _ rfl
   rw [show (Tryz.prog.cellsOf 25) = 2 from kp] at this
   exact this
  have f0 := hp.fld1 Tryz.underlying25 0 rfl rfl rfl k0 rfl
  have f1 := hp.fld1 Tryz.underlying25 1 rfl rfl rfl k1 rfl
  have f2 := h.fld1 Tryz.underlying29 1 rfl rfl rfl k2 rfl
  have f3 := h.fld1 Tryz.underlying29 2 rfl rfl rfl k3 rfl
  obtain ⟨v, e, qs, a1, a2, a3⟩ := f0.sliceE Tryz.underlying22 (s := 1) (by kernel_rfl) (by omega) (fun x hx => int_of hx)
  simp only [List.cons.injEq, and_true] at e
  obtain ⟨u, e', ct, b1, b2, b3⟩ := f1.sliceE Tryz.underlying23 (s := 7) (by kernel_rfl) (by omega) (fun x hx => ct_of hx)
  simp only [List.cons.injEq, and_true] at e'
  obtain ⟨u2, e2, bk, d1, d2, d3⟩ := f2.sliceE Tryz.underlying26 (s := 4) (by kernel_rfl) (by omega) (fun x hx => bk_of hx)
  simp only [List.cons.injEq, and_true] at e2
  obtain ⟨u3, e3, hd, g1, g2, g3⟩ := f3.sliceE Tryz.underlying27 (s := 5) (by kernel_rfl) (by omega) (fun x hx => hd_of hx)
  simp only [List.cons.injEq, and_true] at e3
  have cap2 := f1.capOK Tryz.underlying23
  subst e e' e2 e3
  obtain ⟨pq, kq, rfl, _⟩ := a1.val Eng.encI_len
  obtain ⟨pc, kc, rfl, _⟩ := b1.val encC_len
  obtain ⟨pb, kb, rfl, _⟩ := d1.val encB_len
  obtain ⟨ph, kh, rfl, _⟩ := g1.val encH_len
  simp only [maxLen] at a3 b3 d3 g3
  exact ⟨pq, pc, pb, ph, kq, kc, kb, kh, qs, ct, bk, hd, rfl, a1, b1, cap2.le, by omega, by omega, d1, by omega, g1, by omega⟩
end Go.Proofs.YthdoegkjifgegaaGreat
/- The rows: each law, for every input. -/
namespace Go.Proofs.YthdoegkjifgegaaGreat
open Go.Eng Go.Step
set_option maxRecDepth 100000
set_option maxHeartbeats 4000000
open Go.ChangeShapes Go.WideShapes Go.ChangeAt Go.RowKit

theorem booking_of {W : World} {r : Reach} {base : Nat} {v0 : Value} (hv : Value.okWide Tryz.prog W r base 73 v0) (h : RdT Tryz.prog W 73 v0.cells.toList) : ∃ a : Bk, v0 = .agg (encB a).toArray ∧ In64 a.c ∧ In64 a.a ∧ In64 a.b ∧ In64 a.k := by
 obtain ⟨cs, rfl⟩ := okWide_agg Tryz.underlying73 hv
 obtain ⟨h1, _⟩ := h.struct Tryz.underlying73
 have hc : Tryz.prog.cellsOf 73 = 4 := by kernel_rfl
 rw [hc] at h1
 obtain ⟨x⟩ := cs
 match x, h1 with
 | [c0, c1, c2, c3], _ =>
  have k : Tryz.prog.cellsOf 3 = 1 := by kernel_rfl
  obtain ⟨x0, e0, i0⟩ := (h.fld1 Tryz.underlying73 0 rfl rfl rfl k rfl).i64 Tryz.underlying3
  obtain ⟨x1, e1, i1⟩ := (h.fld1 Tryz.underlying73 1 rfl rfl rfl k rfl).i64 Tryz.underlying3
  obtain ⟨x2, e2, i2⟩ := (h.fld1 Tryz.underlying73 2 rfl rfl rfl k rfl).i64 Tryz.underlying3
  obtain ⟨x3, e3, i3⟩ := (h.fld1 Tryz.underlying73 3 rfl rfl rfl k rfl).i64 Tryz.underlying3
  simp at e0 e1 e2 e3
  subst e0 e1 e2 e3
  exact ⟨⟨x0, x1, x2, x3⟩, rfl, i0, i1, i2, i3⟩
theorem hold_of {W : World} {r : Reach} {base : Nat} {v0 : Value} (hv : Value.okWide Tryz.prog W r base 75 v0) (h : RdT Tryz.prog W 75 v0.cells.toList) : ∃ a : Hd, v0 = .agg (encH a).toArray ∧ In64 a.n ∧ In64 a.a ∧ In64 a.b ∧ In64 a.s ∧ In64 a.k := by
 obtain ⟨cs, rfl⟩ := okWide_agg Tryz.underlying75 hv
 obtain ⟨h1, _⟩ := h.struct Tryz.underlying75
 have hc : Tryz.prog.cellsOf 75 = 5 := by kernel_rfl
 rw [hc] at h1
 obtain ⟨x⟩ := cs
 match x, h1 with
 | [c0, c1, c2, c3, c4], _ =>
  have k : Tryz.prog.cellsOf 3 = 1 := by kernel_rfl
  obtain ⟨x0, e0, i0⟩ := (h.fld1 Tryz.underlying75 0 rfl rfl rfl k rfl).i64 Tryz.underlying3
  obtain ⟨x1, e1, i1⟩ := (h.fld1 Tryz.underlying75 1 rfl rfl rfl k rfl).i64 Tryz.underlying3
  obtain ⟨x2, e2, i2⟩ := (h.fld1 Tryz.underlying75 2 rfl rfl rfl k rfl).i64 Tryz.underlying3
  obtain ⟨x3, e3, i3⟩ := (h.fld1 Tryz.underlying75 3 rfl rfl rfl k rfl).i64 Tryz.underlying3
  obtain ⟨x4, e4, i4⟩ := (h.fld1 Tryz.underlying75 4 rfl rfl rfl k rfl).i64 Tryz.underlying3
  simp at e0 e1 e2 e3 e4
  subst e0 e1 e2 e3 e4
  exact ⟨⟨x0, x1, x2, x3, x4⟩, rfl, i0, i1, i2, i3, i4⟩
end Go.Proofs.YthdoegkjifgegaaGreat
/- Shipments and stocks, of the reference. -/
namespace Go.Proofs.YthdoegkjifgegaaGreat
open Go.Eng Go.Step
set_option maxRecDepth 100000
set_option maxHeartbeats 4000000

end Go.Proofs.YthdoegkjifgegaaGreat
/- Stocks, of the reference. -/
namespace Go.Proofs.YthdoegkjifgegaaGreat
open Go.Eng Go.Step
set_option maxRecDepth 100000
set_option maxHeartbeats 4000000

end Go.Proofs.YthdoegkjifgegaaGreat
/- Flow, of the reference. -/
namespace Go.Proofs.YthdoegkjifgegaaGreat
open Go.Eng Go.Step
set_option maxRecDepth 100000
set_option maxHeartbeats 4000000

theorem valid_ok {qs : List Int} {cs : List Ct} {bs : List Bk} {hs : List Hd} {d : Dm} (h : validT qs cs bs hs d = true) : (∀ c ∈ cs, chkCt c = 0 ∧ c.f < qs.length ∧ c.t < qs.length) ∧ bs.length ≤ 512 ∧ (∀ x ∈ hs, okHd qs.length x) ∧ hs.length ≤ 512 ∧ (1 ≤ qs.length ∧ qs.length ≤ 16) ∧ (∀ (j : Nat) (q : Int), qs[j]? = some q → 0 ≤ q ∧ q ≤ 1073741824) ∧ okDm qs.length d ∧ cs.length ≤ 64 := by
 obtain ⟨h1, h2⟩ := of_decide_eq_true h
 obtain ⟨p, b, hh⟩ := chkT_ok h1
 obtain ⟨k1, k2⟩ := chkPl_ct p
 obtain ⟨k3, k4⟩ := chkPl_quo p
 have k5 := chkB_ok b
 have k6 : (∀ x ∈ hs, okHd qs.length x) ∧ hs.length ≤ 512 := by
  unfold chkH at hh
  rw [if_neg (by simpa using p)] at hh
  by_cases c1 : 512 < hs.length
  ·rw [if_pos c1] at hh; omega
  rw [if_neg c1] at hh
  by_cases c2 : firstE (hdE qs.length hs) hs.length = 0
  ·have := hdE_ok c2
   rw [List.take_length] at this
   exact ⟨this, by omega⟩
  ·rw [if_pos c2] at hh; exact absurd hh c2
 exact ⟨k2, k5.1, k6.1, k6.2, k3, k4, h2, k1⟩
end Go.Proofs.YthdoegkjifgegaaGreat
/- A set of integers lies between its first and its last. No program in sight. No conditions. -/
namespace Go.Step
theorem chkI_at {l : List (Int × Int)} (h : chkI l = 0) {i : Nat} (hi : i < l.length) : l[i].1 < l[i].2 ∧ (∀ h0 : 0 < i, l[i - 1].2 < l[i].1) := by
  unfold chkI at h
  split at h
  · simp at h
  have h2 := firstE_zero h i hi
  rw [spE_at (List.getElem?_eq_getElem hi)] at h2
  split at h2
  · simp at h2
  rename_i h3
  split at h2
  · simp at h2
  rename_i h4
  have h5 : okSp l[i] := Decidable.not_not.1 h3
  refine ⟨h5.1, fun h0 => ?_⟩
  rw [List.getD_eq_getElem?_getD, List.getElem?_eq_getElem (by omega), Option.getD_some] at h4
  omega
theorem chkI_hi {l : List (Int × Int)} (h : chkI l = 0) : ∀ (k : Nat) {i : Nat} (hi : i + k < l.length), l[i].2 ≤ l[i + k].2
  | 0, i, hi => Int.le_refl _
  | k + 1, i, hi => by
    have h1 := chkI_hi h k (i := i) (by omega)
    have h2 := (chkI_at h (i := i + (k + 1)) hi).1
    have h3 := (chkI_at h hi).2 (by omega)
    have e : i + (k + 1) - 1 = i + k := by omega
    simp only [e] at h3
    omega
end Go.Step
