/- Distances in a graph: what a search by a queue keeps true. No program in sight. No conditions. -/
set_option linter.all false
namespace Go.Flow
/-- a link: its number, where it begins and ends -/
structure Lk where
  k : Nat
  f : Nat
  t : Nat
  deriving DecidableEq
section
variable {n t : Nat} {E : Lk → Prop}
/-- D are the numbers of links to t; -1: no path -/
structure IsDist (n t : Nat) (E : Lk → Prop) (D : List Int) : Prop where
  len : D.length = n
  low : ∀ v, v < n → -1 ≤ D.getD v 0
  at0 : D.getD t 0 = 0
  zero : ∀ v, v < n → D.getD v 0 = 0 → v = t
  link : ∀ x, E x → 0 ≤ D.getD x.t 0 → 0 ≤ D.getD x.f 0 ∧ D.getD x.f 0 ≤ D.getD x.t 0 + 1
  step : ∀ v, v < n → 0 < D.getD v 0 → ∃ x, E x ∧ x.f = v ∧ D.getD x.t 0 = D.getD v 0 - 1
theorem IsDist.le (hE : ∀ x, E x → x.f < n ∧ x.t < n) {D1 D2 : List Int} (h1 : IsDist n t E D1) (h2 : IsDist n t E D2) : ∀ (k : Nat) (v : Nat), v < n → D1.getD v 0 = (k : Int) → 0 ≤ D2.getD v 0 ∧ D2.getD v 0 ≤ (k : Int) := by
  intro k
  induction k with
  | zero =>
    intro v hv h
    have := h1.zero v hv h
    subst this
    rw [h2.at0]; omega
  | succ k ih =>
    intro v hv h
    obtain ⟨x, hx, hf, ht⟩ := h1.step v hv (by omega)
    have hr := ih x.t (hE x hx).2 (by rw [ht, h]; omega)
    have := h2.link x hx hr.1
    rw [hf] at this
    omega
theorem IsDist.uniq (hE : ∀ x, E x → x.f < n ∧ x.t < n) {D1 D2 : List Int} (h1 : IsDist n t E D1) (h2 : IsDist n t E D2) : D1 = D2 := by
  apply List.ext_getElem
  · rw [h1.len, h2.len]
  · intro v hv1 hv2
    have hv : v < n := by rw [← h1.len]; exact hv1
    have e1 : D1.getD v 0 = D1[v] := by simp [List.getD_eq_getElem?_getD, hv1]
    have e2 : D2.getD v 0 = D2[v] := by simp [List.getD_eq_getElem?_getD, hv2]
    rw [← e1, ← e2]
    have a1 := h1.low v hv
    have a2 := h2.low v hv
    rcases (show D1.getD v 0 = -1 ∨ 0 ≤ D1.getD v 0 by omega) with c1 | c1
    · rcases (show D2.getD v 0 = -1 ∨ 0 ≤ D2.getD v 0 by omega) with c2 | c2
      · rw [c1, c2]
      · obtain ⟨k, hk⟩ := Int.eq_ofNat_of_zero_le c2
        have := IsDist.le hE h2 h1 k v hv hk
        omega
    · obtain ⟨k, hk⟩ := Int.eq_ofNat_of_zero_le c1
      have r1 := IsDist.le hE h1 h2 k v hv hk
      obtain ⟨k2, hk2⟩ := Int.eq_ofNat_of_zero_le r1.1
      have r2 := IsDist.le hE h2 h1 k2 v hv hk2
      omega

/-- between two vertices of the queue -/
structure BInv (n t : Nat) (E : Lk → Prop) (D : List Int) (q : List Nat) : Prop where
  len : D.length = n
  low : ∀ v, v < n → -1 ≤ D.getD v 0
  at0 : D.getD t 0 = 0
  zero : ∀ v, v < n → D.getD v 0 = 0 → v = t
  qn : ∀ v ∈ q, v < n ∧ 0 ≤ D.getD v 0
  srt : q.Pairwise (fun a b => D.getD a 0 ≤ D.getD b 0)
  top : ∀ v, q.head? = some v → ∀ u, u < n → D.getD u 0 ≤ D.getD v 0 + 1
  step : ∀ v, v < n → 0 < D.getD v 0 → ∃ x, E x ∧ x.f = v ∧ D.getD x.t 0 = D.getD v 0 - 1
  proc : ∀ u, u < n → 0 ≤ D.getD u 0 → u ∉ q → ∀ x, E x → x.t = u → 0 ≤ D.getD x.f 0 ∧ D.getD x.f 0 ≤ D.getD u 0 + 1
/-- v was taken, the links of pre were looked at -/
structure VInv (n t : Nat) (E : Lk → Prop) (D : List Int) (v : Nat) (q : List Nat) (pre : List Lk) : Prop where
  len : D.length = n
  low : ∀ v, v < n → -1 ≤ D.getD v 0
  at0 : D.getD t 0 = 0
  zero : ∀ v, v < n → D.getD v 0 = 0 → v = t
  vn : v < n
  v0 : 0 ≤ D.getD v 0
  qn : ∀ u ∈ q, u < n ∧ D.getD v 0 ≤ D.getD u 0
  srt : q.Pairwise (fun a b => D.getD a 0 ≤ D.getD b 0)
  top : ∀ u, u < n → D.getD u 0 ≤ D.getD v 0 + 1
  step : ∀ v, v < n → 0 < D.getD v 0 → ∃ x, E x ∧ x.f = v ∧ D.getD x.t 0 = D.getD v 0 - 1
  proc : ∀ u, u < n → 0 ≤ D.getD u 0 → u ∉ q → u ≠ v → ∀ x, E x → x.t = u → 0 ≤ D.getD x.f 0 ∧ D.getD x.f 0 ≤ D.getD u 0 + 1
  pre0 : ∀ x ∈ pre, 0 ≤ D.getD x.f 0
theorem getD_rep {n v : Nat} (h : v < n) (x : Int) : (List.replicate n x).getD v 0 = x := by simp [List.getD_eq_getElem?_getD, h]
theorem getD_set {l : List Int} {i j : Nat} {x : Int} (hi : i < l.length) : (l.set i x).getD j 0 = if i = j then x else l.getD j 0 := by
  rw [List.getD_eq_getElem?_getD, List.getElem?_set]
  by_cases e : i = j
  · subst e; simp [hi]
  · simp [e]
theorem BInv.start (ht : t < n) : BInv n t E ((List.replicate n (-1)).set t 0) [t] := by
  have hg : ∀ v, v < n → ((List.replicate n (-1 : Int)).set t 0).getD v 0 = if t = v then 0 else -1 := fun v hv => by
    rw [getD_set (by simp [ht])]
    split
    · rfl
    · exact getD_rep hv _
  refine ⟨by simp, fun v hv => ?_, ?_, fun v hv h => ?_, fun v hv => ?_, by simp, fun v hv u hu => ?_, fun v hv h => ?_, fun u hu h hq => ?_⟩
  · rw [hg v hv]; split <;> omega
  · rw [hg t ht]; simp
  · rw [hg v hv] at h
    split at h
    · rename_i e; exact e.symm
    · omega
  · simp at hv; subst hv; rw [hg v ht]; simp [ht]
  · simp at hv; subst hv
    rw [hg u hu, hg t ht]; split <;> simp
  · rw [hg v hv] at h; split at h <;> omega
  · rw [hg u hu] at h
    split at h
    · rename_i e; subst e; simp at hq
    · omega
theorem BInv.take {D : List Int} {v : Nat} {q : List Nat} (h : BInv n t E D (v :: q)) : VInv n t E D v q [] := by
  have hv := h.qn v (by simp)
  have hs := List.pairwise_cons.1 h.srt
  exact ⟨h.len, h.low, h.at0, h.zero, hv.1, hv.2, fun u hu => ⟨(h.qn u (by simp [hu])).1, hs.1 u hu⟩, hs.2, h.top v (by simp), h.step,
    fun u hu h0 hq hne => h.proc u hu h0 (by simp [hq, hne]), by simp⟩
theorem VInv.seen {D : List Int} {v : Nat} {q : List Nat} {pre : List Lk} {x : Lk} (h : VInv n t E D v q pre) (hx : 0 ≤ D.getD x.f 0) : VInv n t E D v q (pre ++ [x]) :=
  ⟨h.len, h.low, h.at0, h.zero, h.vn, h.v0, h.qn, h.srt, h.top, h.step, h.proc, fun y hy => by
    rcases List.mem_append.1 hy with hy | hy
    · exact h.pre0 y hy
    · rw [List.mem_singleton.1 hy]; exact hx⟩
theorem VInv.push {D : List Int} {v : Nat} {q : List Nat} {pre : List Lk} {x : Lk} (h : VInv n t E D v q pre) (hE : E x) (hxf : x.f < n) (hxt : x.t = v) (hneg : D.getD x.f 0 < 0) :
    VInv n t E (D.set x.f (D.getD v 0 + 1)) v (q ++ [x.f]) (pre ++ [x]) := by
  have hlx : x.f < D.length := by rw [h.len]; exact hxf
  have hlow := h.low x.f hxf
  have hv0 := h.v0
  have hg : ∀ u, (D.set x.f (D.getD v 0 + 1)).getD u 0 = if x.f = u then D.getD v 0 + 1 else D.getD u 0 := fun u => getD_set hlx
  have hnv : x.f ≠ v := fun e => by rw [e] at hneg; omega
  have hnt : x.f ≠ t := fun e => by rw [e, h.at0] at hneg; omega
  have keep : ∀ u, 0 ≤ D.getD u 0 → (D.set x.f (D.getD v 0 + 1)).getD u 0 = D.getD u 0 := fun u hu => by
    rw [hg u, if_neg (fun e => by rw [e] at hneg; omega)]
  have kv := keep v hv0
  refine ⟨by simp [h.len], fun u hu => ?_, ?_, fun u hu h0 => ?_, h.vn, by rw [kv]; exact hv0, fun u hu => ?_, ?_, fun u hu => ?_, fun u hu h0 => ?_, fun u hu h0 hq hne y hy hyt => ?_, fun y hy => ?_⟩
  · rw [hg u]; split
    · omega
    · exact h.low u hu
  · rw [hg t, if_neg hnt]; exact h.at0
  · rw [hg u] at h0
    split at h0
    · omega
    · exact h.zero u hu h0
  · rw [kv]
    rcases List.mem_append.1 hu with hu | hu
    · have := h.qn u hu
      rw [keep u (by omega)]; exact this
    · rw [List.mem_singleton.1 hu, hg x.f, if_pos rfl]
      exact ⟨hxf, by omega⟩
  · rw [List.pairwise_append]
    refine ⟨?_, by simp, fun a ha b hb => ?_⟩
    · refine List.Pairwise.imp_of_mem ?_ h.srt
      intro a b ha hb hab
      have qa := h.qn a ha
      have qb := h.qn b hb
      rw [keep a (by omega), keep b (by omega)]; exact hab
    · have qa := h.qn a ha
      rw [List.mem_singleton.1 hb, hg x.f, if_pos rfl, keep a (by omega)]
      exact h.top a qa.1
  · rw [kv, hg u]
    split
    · omega
    · exact h.top u hu
  · rw [hg u] at h0 ⊢
    by_cases e : x.f = u
    · rw [if_pos e] at h0 ⊢
      refine ⟨x, hE, e, ?_⟩
      rw [hxt, kv]; omega
    · rw [if_neg e] at h0 ⊢
      obtain ⟨y, hy, hyf, hyt⟩ := h.step u hu h0
      refine ⟨y, hy, hyf, ?_⟩
      rw [keep y.t (by omega)]; exact hyt
  · have hux : x.f ≠ u := fun e => hq (by simp [e])
    rw [hg u, if_neg hux] at h0
    have hq' : u ∉ q := fun hm => hq (by simp [hm])
    have := h.proc u hu h0 hq' hne y hy hyt
    rw [keep y.f this.1, keep u h0]; exact this
  · rcases List.mem_append.1 hy with hy | hy
    · rw [keep y.f (h.pre0 y hy)]; exact h.pre0 y hy
    · rw [List.mem_singleton.1 hy, hg x.f, if_pos rfl]; omega
theorem VInv.done (hE : ∀ x, E x → x.f < n ∧ x.t < n) {D : List Int} {v : Nat} {q : List Nat} {pre : List Lk} (h : VInv n t E D v q pre) (hall : ∀ x, E x → x.t = v → x ∈ pre) : BInv n t E D q := by
  refine ⟨h.len, h.low, h.at0, h.zero, fun u hu => ⟨(h.qn u hu).1, by have := (h.qn u hu).2; have := h.v0; omega⟩, h.srt, fun u hu w hw => ?_, h.step, fun u hu h0 hq x hx hxt => ?_⟩
  · have hm : u ∈ q := by cases q <;> simp at hu; simp [hu]
    have h1 := h.top w hw
    have h2 := (h.qn u hm).2
    omega
  · by_cases e : u = v
    · subst e
      exact ⟨h.pre0 x (hall x hx hxt), h.top x.f (hE x hx).1⟩
    · exact h.proc u hu h0 hq e x hx hxt
theorem BInv.dist (hE : ∀ x, E x → x.f < n ∧ x.t < n) {D : List Int} (h : BInv n t E D []) : IsDist n t E D :=
  ⟨h.len, h.low, h.at0, h.zero, fun x hx h0 => h.proc x.t (hE x hx).2 h0 (by simp) x hx rfl, h.step⟩
/-- how many vertices have no number yet -/
def unl (D : List Int) : Nat := (D.filter (fun x => decide (x < 0))).length
theorem unl_set {D : List Int} {i : Nat} {x : Int} (hi : i < D.length) (hneg : D.getD i 0 < 0) (hx : 0 ≤ x) : unl (D.set i x) + 1 = unl D := by
  induction D generalizing i with
  | nil => simp at hi
  | cons y D ih =>
    cases i with
    | zero =>
      simp [List.getD_eq_getElem?_getD] at hneg
      have h1 : ¬ x < 0 := by omega
      simp [unl, h1, hneg]
    | succ i =>
      simp at hi
      have := ih hi (by simpa [List.getD_eq_getElem?_getD] using hneg)
      simp only [unl, List.set_cons_succ, List.filter_cons] at this ⊢
      split <;> (try simp only [List.length_cons]) <;> omega
theorem unl_rep (n : Nat) : unl (List.replicate n (-1)) = n := by
  unfold unl
  rw [List.filter_eq_self.2 (by intro x hx; rw [List.eq_of_mem_replicate hx]; simp)]
  simp
theorem unl_start {n t : Nat} (ht : t < n) : unl ((List.replicate n (-1)).set t 0) + 1 = n := by
  rw [unl_set (by simp [ht]) (by rw [getD_rep ht]; omega) (by omega), unl_rep]
end
end Go.Flow
