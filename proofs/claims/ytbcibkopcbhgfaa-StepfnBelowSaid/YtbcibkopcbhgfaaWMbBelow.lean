/- The greatest and the least value, where a function is low; the times of two functions, merged. No program in sight. No conditions. -/
import Derived.Test.YtbcibkopcbhgfaaWMbComb
import Derived.Test.YtbcibkopcbhgfaaWMbParts
set_option linter.all false
namespace Go.Step
abbrev Pt := (Int × Int) × Int
def foldP (op : Int → Int → Int) (a : Int) (ps : List Pt) : Int := ps.foldl (fun s p => op s p.2) a
theorem foldP_take (op : Int → Int → Int) (a : Int) (ps : List Pt) (i : Nat) (q : Pt) (h : ps[i]? = some q) : foldP op a (ps.take (i + 1)) = op (foldP op a (ps.take i)) q.2 := by
  obtain ⟨hi, rfl⟩ := List.getElem?_eq_some_iff.1 h
  unfold foldP
  rw [List.take_succ_eq_append_getElem hi, List.foldl_append]; rfl
/-- the value in an interval that is preferred -/
def bestR (op : Int → Int → Int) (f : List Lv) (fr to : Int) : Int :=
  if chkS f = 0 ∧ (0 ≤ fr ∧ fr ≤ to ∧ to ≤ 1099511627776) ∧ fr ≠ to then foldP op (val f fr) (parts f fr to) else 0
/-- one part more, of those that are low -/
def bstep (limit : Int) (out : List (Int × Int)) (p : Pt) : List (Int × Int) :=
  if limit < p.2 then out else match out.getLast? with
    | some q => if q.2 = p.1.1 then out.dropLast ++ [(q.1, p.1.2)] else out ++ [p.1]
    | none => out ++ [p.1]
def lowP (limit : Int) (ps : List Pt) : List (Int × Int) := ps.foldl (bstep limit) []
theorem lowP_take (limit : Int) (ps : List Pt) (i : Nat) (q : Pt) (h : ps[i]? = some q) : lowP limit (ps.take (i + 1)) = bstep limit (lowP limit (ps.take i)) q := by
  obtain ⟨hi, rfl⟩ := List.getElem?_eq_some_iff.1 h
  unfold lowP
  rw [List.take_succ_eq_append_getElem hi, List.foldl_append]; rfl
theorem bstep_len (limit : Int) (out : List (Int × Int)) (p : Pt) : (bstep limit out p).length ≤ out.length + 1 := by
  unfold bstep
  split
  · omega
  · split
    · rename_i q hq
      split
      · have : out ≠ [] := by intro h; subst h; simp at hq
        have := List.length_pos_iff.2 this
        rw [List.length_append, List.length_dropLast, List.length_singleton]; omega
      · simp
    · simp
theorem lowP_len (limit : Int) (ps : List Pt) : ∀ i, (lowP limit (ps.take i)).length ≤ i
  | 0 => by simp [lowP]
  | i + 1 => by
    have ih := lowP_len limit ps i
    by_cases h : i < ps.length
    · rw [lowP_take limit ps i _ (List.getElem?_eq_getElem h)]
      have := bstep_len limit (lowP limit (ps.take i)) ps[i]
      omega
    · rw [List.take_of_length_le (by omega)]
      rw [List.take_of_length_le (by omega)] at ih
      omega
/-- what Below answers -/
def lowR (f : List Lv) (limit fr to : Int) : List (Int × Int) × Int :=
  if chkS f = 0 then (if 0 ≤ fr ∧ fr ≤ to ∧ to ≤ 1099511627776 then (lowP limit (parts f fr to), 0) else ([], 2)) else ([], 1)
/-! times, merged -/
structure TInv (f g : List Lv) (i k : Nat) (out : List Int) : Prop where
  sa : SA out
  mem : ∀ x, x ∈ out ↔ ∃ l ∈ f.take i ++ g.take k, l.a = x
  f : ∀ x ∈ out, ∀ l ∈ f.drop i, x ≤ l.a
  g : ∀ x ∈ out, ∀ l ∈ g.drop k, x ≤ l.a
/-- the next time: behind the last one, or the same -/
def nextT (out : List Int) (t : Int) : List Int := if out = [] ∨ out.getD (out.length - 1) 0 ≠ t then out ++ [t] else out
theorem nextT_ok {out : List Int} {t : Int} (h : SA out) (hle : ∀ x ∈ out, x ≤ t) : SA (nextT out t) ∧ ∀ x, x ∈ nextT out t ↔ x ∈ out ∨ x = t := by
  unfold nextT
  by_cases hc : out = [] ∨ out.getD (out.length - 1) 0 ≠ t
  · rw [if_pos hc]
    refine ⟨List.pairwise_append.2 ⟨h, by simp, fun x hx y hy => ?_⟩, fun x => by simp⟩
    simp at hy; subst hy
    rcases hc with rfl | hc
    · simp at hx
    · obtain ⟨i, hi, rfl⟩ := List.getElem_of_mem hx
      have hlast : out.length - 1 < out.length := by omega
      have e : out.getD (out.length - 1) 0 = out[out.length - 1] := by simp [List.getD_eq_getElem?_getD, hlast]
      rw [e] at hc
      have h1 := hle out[out.length - 1] (List.getElem_mem _)
      rcases Nat.lt_or_ge i (out.length - 1) with h2 | h2
      · have := List.pairwise_iff_getElem.1 h i (out.length - 1) hi hlast h2
        omega
      · have : i = out.length - 1 := by omega
        subst this; omega
  · rw [if_neg hc]
    simp only [not_or, Classical.not_not] at hc
    refine ⟨h, fun x => ⟨.inl, ?_⟩⟩
    rintro (hx | rfl)
    · exact hx
    · have : 0 < out.length := List.length_pos_iff.2 hc.1
      rw [← hc.2]
      simp [List.getD_eq_getElem?_getD, show out.length - 1 < out.length by omega]
theorem mem_drop_iff {α : Type} {f : List α} {i : Nat} (hi : i < f.length) (x : α) : x ∈ f.drop i ↔ x = f[i] ∨ x ∈ f.drop (i + 1) := by
  constructor
  · intro h
    rw [List.drop_eq_getElem_cons hi, List.mem_cons] at h
    exact h
  · intro h
    rw [List.drop_eq_getElem_cons hi, List.mem_cons]
    exact h
theorem mem_take_iff {α : Type} {f : List α} {i : Nat} (hi : i < f.length) (x : α) : x ∈ f.take (i + 1) ↔ x ∈ f.take i ∨ x = f[i] := by
  rw [List.take_succ_eq_append_getElem hi, List.mem_append, List.mem_singleton]
theorem drop_lt {f : List Lv} (hf : AscT (-1) f) {i : Nat} (hi : i < f.length) : ∀ l ∈ f.drop (i + 1), f[i].a < l.a := fun l hl => by
  obtain ⟨j, hj, rfl⟩ := List.getElem_of_mem hl
  rw [List.getElem_drop]
  rw [List.length_drop] at hj
  exact hf.idx i (i + 1 + j) _ _ (List.getElem?_eq_getElem hi) (List.getElem?_eq_getElem (by omega)) (by omega)
theorem drop_le {f : List Lv} (hf : AscT (-1) f) {i : Nat} (hi : i < f.length) : ∀ l ∈ f.drop i, f[i].a ≤ l.a := fun l hl => by
  rcases (mem_drop_iff hi l).1 hl with rfl | hl
  · exact Int.le_refl _
  · have := drop_lt hf hi l hl; omega
theorem TInv.stepF {f g : List Lv} (hf : AscT (-1) f) (hg : AscT (-1) g) {i k : Nat} {out : List Int} (h : TInv f g i k out) (hi : i < f.length) (hk : ∀ x, g[k]? = some x → f[i].a ≤ x.a) : TInv f g (i + 1) k (nextT out f[i].a) := by
  have hm : f[i] ∈ f.drop i := (mem_drop_iff hi _).2 (.inl rfl)
  obtain ⟨h1, h2⟩ := nextT_ok (t := f[i].a) h.sa (fun x hx => h.f x hx _ hm)
  refine ⟨h1, fun x => ?_, fun x hx l hl => ?_, fun x hx l hl => ?_⟩
  · rw [h2, h.mem]
    constructor
    · rintro (⟨l, hl, e⟩ | rfl)
      · refine ⟨l, ?_, e⟩
        rw [List.mem_append] at hl ⊢
        rcases hl with hl | hl
        · exact .inl ((mem_take_iff hi l).2 (.inl hl))
        · exact .inr hl
      · exact ⟨f[i], List.mem_append.2 (.inl ((mem_take_iff hi _).2 (.inr rfl))), rfl⟩
    · rintro ⟨l, hl, e⟩
      rw [List.mem_append, mem_take_iff hi] at hl
      rcases hl with (hl | rfl) | hl
      · exact .inl ⟨l, List.mem_append.2 (.inl hl), e⟩
      · exact .inr e.symm
      · exact .inl ⟨l, List.mem_append.2 (.inr hl), e⟩
  · have := drop_lt hf hi l hl
    rcases (h2 x).1 hx with hx | rfl
    · have := h.f x hx _ hm; omega
    · omega
  · rcases (h2 x).1 hx with hx | rfl
    · exact h.g x hx l hl
    · by_cases hkl : k < g.length
      · have a := drop_le hg hkl l hl
        have b := hk _ (List.getElem?_eq_getElem hkl)
        omega
      · rw [List.drop_of_length_le (by omega)] at hl; simp at hl
theorem TInv.stepG {f g : List Lv} (hf : AscT (-1) f) (hg : AscT (-1) g) {i k : Nat} {out : List Int} (h : TInv f g i k out) (hk : k < g.length) (hi : ∀ x, f[i]? = some x → g[k].a ≤ x.a) : TInv f g i (k + 1) (nextT out g[k].a) := by
  have hm : g[k] ∈ g.drop k := (mem_drop_iff hk _).2 (.inl rfl)
  obtain ⟨h1, h2⟩ := nextT_ok (t := g[k].a) h.sa (fun x hx => h.g x hx _ hm)
  refine ⟨h1, fun x => ?_, fun x hx l hl => ?_, fun x hx l hl => ?_⟩
  · rw [h2, h.mem]
    constructor
    · rintro (⟨l, hl, e⟩ | rfl)
      · refine ⟨l, ?_, e⟩
        rw [List.mem_append] at hl ⊢
        rcases hl with hl | hl
        · exact .inl hl
        · exact .inr ((mem_take_iff hk l).2 (.inl hl))
      · exact ⟨g[k], List.mem_append.2 (.inr ((mem_take_iff hk _).2 (.inr rfl))), rfl⟩
    · rintro ⟨l, hl, e⟩
      rw [List.mem_append, mem_take_iff hk] at hl
      rcases hl with hl | hl | rfl
      · exact .inl ⟨l, List.mem_append.2 (.inl hl), e⟩
      · exact .inl ⟨l, List.mem_append.2 (.inr hl), e⟩
      · exact .inr e.symm
  · rcases (h2 x).1 hx with hx | rfl
    · exact h.f x hx l hl
    · by_cases hil : i < f.length
      · have a := drop_le hf hil l hl
        have b := hi _ (List.getElem?_eq_getElem hil)
        omega
      · rw [List.drop_of_length_le (by omega)] at hl; simp at hl
  · have := drop_lt hg hk l hl
    rcases (h2 x).1 hx with hx | rfl
    · have := h.g x hx _ hm; omega
    · omega
theorem TInv.zero (f g : List Lv) : TInv f g 0 0 [] := ⟨by simp, by simp, by simp, by simp⟩
theorem TInv.done {f g : List Lv} {out : List Int} (h : TInv f g f.length g.length out) : out = tms f g := by
  obtain ⟨h1, h2⟩ := tms_sa f g
  refine SA.unique h.sa h1 (fun x => ?_)
  rw [h.mem, h2, List.take_length, List.take_length]
theorem SA.len : ∀ {out : List Int} {f : List Int}, SA out → (∀ x ∈ out, x ∈ f) → out.length ≤ f.length
  | [], _, _, _ => by simp
  | x :: out, f, h, hm => by
    have p := List.pairwise_cons.1 h
    have hx := hm x (by simp)
    have := SA.len (f := f.erase x) p.2 (fun y hy => by
      have h1 := hm y (by simp [hy])
      have h2 := p.1 y hy
      exact (List.mem_erase_of_ne (by omega)).2 h1)
    rw [List.length_erase_of_mem hx] at this
    have : 0 < f.length := List.length_pos_iff.2 (fun e => by subst e; simp at hx)
    simp; omega
theorem TInv.len {f g : List Lv} {i k : Nat} {out : List Int} (h : TInv f g i k out) : out.length ≤ f.length + g.length := by
  have := SA.len (f := (f ++ g).map (·.a)) h.sa (fun x hx => by
    obtain ⟨l, hl, rfl⟩ := (h.mem x).1 hx
    rw [List.mem_map]
    refine ⟨l, ?_, rfl⟩
    simp at hl ⊢
    rcases hl with hl | hl
    · exact .inl (List.mem_of_mem_take hl)
    · exact .inr (List.mem_of_mem_take hl))
  simpa using this
end Go.Step
namespace Go.Step
theorem AddR.err0 {f out : List Lv} {fr to d e : Int} (h : AddR f fr to d out e) (h0 : chkS f = 0) (hs : 0 ≤ fr ∧ fr ≤ to ∧ to ≤ 1099511627776) (hd : -2251799813685248 ≤ d ∧ d ≤ 2251799813685248) (hv : ∀ t, okV (val f t + if fr ≤ t ∧ t < to then d else 0)) (hl : f.length ≤ 998) : e = 0 := by
  rcases h with ⟨a, _⟩ | ⟨_, a, _⟩ | ⟨_, _, _, _, _, a⟩ | ⟨a, b, c, x⟩
  · exact absurd h0 a
  · omega
  · exact a
  · rcases x with ⟨⟨t, _, ht⟩, _⟩ | ⟨_, hbig, _⟩ | ⟨_, _, _, he⟩
    · have := hv t
      dsimp only at ht
      rw [bump_val fr to d t b.2.1] at ht
      exact absurd this ht
    · have h1 := comb_len (fun t => val f t + val (bump fr to d) t) (tms f (bump fr to d)) 0
      obtain ⟨hsa, hmem⟩ := tms_sa f (bump fr to d)
      have h2 := SA.len (f := (f ++ bump fr to d).map (·.a)) hsa (fun x hx => by
        obtain ⟨l, hl, rfl⟩ := (hmem x).1 hx
        exact List.mem_map.2 ⟨l, hl, rfl⟩)
      rw [List.length_map, List.length_append] at h2
      have : (bump fr to d).length = 2 := rfl
      omega
    · exact he
def ex6 : List Lv := [⟨2, 5⟩, ⟨4, 0⟩]
def ex6' : List Lv := [⟨2, 5⟩, ⟨3, 8⟩, ⟨4, 3⟩, ⟨6, 0⟩]
theorem ex6_val (t : Int) : val ex6 t + (if 3 ≤ t ∧ t < 6 then 3 else 0) = val ex6' t := by
  simp only [val, ex6, ex6', vat]
  by_cases h1 : 2 ≤ t <;> by_cases h2 : 4 ≤ t <;> by_cases h3 : 3 ≤ t <;> by_cases h4 : 6 ≤ t <;> simp [h1, h2, h3, h4] <;> omega
theorem ex6_add {out : List Lv} {e : Int} (h : AddR ex6 3 6 3 out e) : out = ex6' ∧ e = 0 := by
  have he : e = 0 := h.err0 (by decide) (by omega) (by omega) (fun t => by
    rw [ex6_val]
    unfold okV
    simp only [val, ex6', vat]
    repeat' split
    all_goals omega) (by decide)
  subst he
  obtain ⟨h1, h2, h3⟩ := h.ok
  exact ⟨chkS_unique h2 (by decide) (fun t ht => by rw [h3 t ht, ex6_val]), rfl⟩
theorem ex6_chk : chkS ex6' = 0 := by decide
theorem ex6_rates : rates ex6' = true := by decide
theorem ex6_int : cum ex6' 10 - cum ex6' 0 = 19 := by decide
theorem ex6_low : lowR ex6' 3 0 10 = ([(0, 2), (4, 10)], 0) := by decide
theorem ex6_most : bestR max ex6' 0 10 = 8 := by decide
end Go.Step
namespace Go.Step
theorem CombP.len {F : Int → Int} {ts : List Int} {out : List Lv} {e : Int} (h : CombP F ts out e) : out.length ≤ 1000 := by
  rcases h with ⟨_, rfl, _⟩ | ⟨_, _, rfl, _⟩ | ⟨_, h, rfl, _⟩
  · simp
  · simp
  · exact h
theorem AddR.len {f out : List Lv} {fr to d e : Int} (h : AddR f fr to d out e) : out.length ≤ 1000 := by
  rcases h with ⟨_, rfl, _⟩ | ⟨_, _, rfl, _⟩ | ⟨a, _, _, _, rfl, _⟩ | ⟨_, _, _, hP⟩
  · simp
  · simp
  · exact (chkS_ok a).1
  · exact hP.len
theorem SumR.len {f g out : List Lv} {e : Int} (h : SumR f g out e) : out.length ≤ 1000 := by
  rcases h with ⟨_, rfl, _⟩ | ⟨_, _, hP⟩
  · simp
  · exact hP.len
end Go.Step
namespace Go.Step
theorem tms_len (f g : List Lv) : (tms f g).length ≤ f.length + g.length := by
  obtain ⟨hsa, hmem⟩ := tms_sa f g
  have h2 := SA.len (f := (f ++ g).map (·.a)) hsa (fun x hx => by
    obtain ⟨l, hl, rfl⟩ := (hmem x).1 hx
    exact List.mem_map.2 ⟨l, hl, rfl⟩)
  rw [List.length_map, List.length_append] at h2
  exact h2
theorem CombP.len2 {F : Int → Int} {ts : List Int} {out : List Lv} {e : Int} (h : CombP F ts out e) : out.length ≤ ts.length := by
  rcases h with ⟨_, rfl, _⟩ | ⟨_, _, rfl, _⟩ | ⟨_, _, rfl, _⟩
  · simp
  · simp
  · exact comb_len F ts 0
theorem AddR.len2 {f out : List Lv} {fr to d e : Int} (h : AddR f fr to d out e) : out.length ≤ f.length + 2 := by
  rcases h with ⟨_, rfl, _⟩ | ⟨_, _, rfl, _⟩ | ⟨a, _, _, _, rfl, _⟩ | ⟨_, _, _, hP⟩
  · simp
  · simp
  · omega
  · have := hP.len2
    have := tms_len f (bump fr to d)
    have : (bump fr to d).length = 2 := rfl
    omega
theorem okV_val {f : List Lv} (h : chkS f = 0) (t : Int) : okV (val f t) := by
  have hA := (chkS_ok h).2
  rcases vat_mem f 0 t with e | ⟨l, hl, e⟩
  · unfold okV val; rw [e]; omega
  · unfold okV val
    rw [e]
    have := hA.gt l hl
    omega
theorem AddR.cond {f out : List Lv} {fr to d : Int} (h : AddR f fr to d out 0) : (0 ≤ fr ∧ fr ≤ to ∧ to ≤ 1099511627776) ∧ -2251799813685248 ≤ d ∧ d ≤ 2251799813685248 := by
  rcases h with ⟨_, _, h⟩ | ⟨_, _, _, h⟩ | ⟨_, b, c, _⟩ | ⟨_, b, c, _⟩
  · simp at h
  · simp at h
  · exact ⟨b, c⟩
  · exact ⟨by omega, c⟩
/-- adding is undone -/
theorem AddR.back {f p out : List Lv} {fr to d e : Int} (h : AddR f fr to d p 0) (hl : f.length ≤ 900) (h' : AddR p fr to (-d) out e) : e = 0 ∧ out = f := by
  obtain ⟨c1, c2, c3⟩ := h.cond
  obtain ⟨h1, h2, h3⟩ := h.ok
  have hlp := h.len2
  have hneg : ∀ t : Int, -1 ≤ t → val p t + (if fr ≤ t ∧ t < to then -d else 0) = val f t := fun t ht => by
    rw [h3 t ht]
    by_cases hc : fr ≤ t ∧ t < to
    · rw [if_pos hc, if_pos hc]; omega
    · rw [if_neg hc, if_neg hc]; omega
  have he : e = 0 := h'.err0 h2 c1 (by omega) (fun t => by
    by_cases ht : -1 ≤ t
    · rw [hneg t ht]; exact okV_val h1 t
    · rw [if_neg (by omega)]
      have := okV_val h2 t
      unfold okV at this ⊢
      omega) (by omega)
  subst he
  obtain ⟨_, k2, k3⟩ := h'.ok
  exact ⟨rfl, chkS_unique k2 h1 (fun t ht => by rw [k3 t ht, hneg t ht])⟩
theorem AddR.swap {f p q r s : List Lv} {a1 a2 a b1 b2 b : Int} (h1 : AddR f a1 a2 a p 0) (h2 : AddR p b1 b2 b q 0) (h3 : AddR f b1 b2 b r 0) (h4 : AddR r a1 a2 a s 0) : q = s := by
  obtain ⟨_, _, e1⟩ := h1.ok
  obtain ⟨_, k2, e2⟩ := h2.ok
  obtain ⟨_, _, e3⟩ := h3.ok
  obtain ⟨_, k4, e4⟩ := h4.ok
  exact chkS_unique k2 k4 (fun t ht => by rw [e2 t ht, e1 t ht, e4 t ht, e3 t ht]; omega)
theorem tms_comm (f g : List Lv) : tms f g = tms g f := by
  obtain ⟨a1, a2⟩ := tms_sa f g
  obtain ⟨b1, b2⟩ := tms_sa g f
  refine SA.unique a1 b1 (fun x => ?_)
  rw [a2, b2]
  constructor <;> (rintro ⟨l, hl, e⟩; exact ⟨l, by rw [List.mem_append] at hl ⊢; exact hl.symm, e⟩)
theorem SumR.comm {f g o : List Lv} {e : Int} (h : SumR f g o e) : SumR g f o e := by
  rcases h with ⟨a, b, c⟩ | ⟨a, b, c⟩
  · exact .inl ⟨a.symm, b, c⟩
  · refine .inr ⟨b, a, ?_⟩
    rw [tms_comm g f]
    have : (fun t => val g t + val f t) = (fun t => val f t + val g t) := funext (fun t => Int.add_comm _ _)
    rw [this]; exact c
theorem SumR.ok {f g o : List Lv} (h : SumR f g o 0) : chkS f = 0 ∧ chkS g = 0 ∧ chkS o = 0 ∧ ∀ t : Int, -1 ≤ t → val o t = val f t + val g t := by
  rcases h with ⟨_, _, h⟩ | ⟨a, b, c⟩
  · simp at h
  · obtain ⟨h1, h2⟩ := CombP.ok (op := (· + ·)) (chkS_ok a).2.t (chkS_ok b).2.t rfl c
    exact ⟨a, b, h1, h2⟩
theorem SumR.assoc {f g k fg gk l r : List Lv} (h1 : SumR f g fg 0) (h2 : SumR g k gk 0) (h3 : SumR fg k l 0) (h4 : SumR f gk r 0) : l = r := by
  obtain ⟨_, _, _, e1⟩ := h1.ok
  obtain ⟨_, _, _, e2⟩ := h2.ok
  obtain ⟨_, _, k3, e3⟩ := h3.ok
  obtain ⟨_, _, k4, e4⟩ := h4.ok
  exact chkS_unique k3 k4 (fun t ht => by rw [e3 t ht, e1 t ht, e4 t ht, e2 t ht]; omega)
end Go.Step
