/- What is reached: a search by a queue. What Max and Cut hand back. No program in sight. No conditions. -/
import Derived.Test.YtoccdekghjoldaaWMbPaths
set_option linter.all false
namespace Go.Flow
def bget (B : List Bool) (v : Nat) : Bool := B.getD v false
theorem bget_set {B : List Bool} {i j : Nat} {x : Bool} (hi : i < B.length) : bget (B.set i x) j = if i = j then x else bget B j := by
  unfold bget
  rw [List.getD_eq_getElem?_getD, List.getD_eq_getElem?_getD, List.getElem?_set]
  split
  · rename_i h; subst h; simp [hi]
  · rfl
theorem bget_rep (n v : Nat) : bget (List.replicate n false) v = false := by
  unfold bget
  rw [List.getD_eq_getElem?_getD, List.getElem?_replicate]
  split <;> rfl
theorem bget_some {B : List Bool} {v : Nat} (h : v < B.length) : B[v]? = some (bget B v) := by simp [bget, h]
structure RInv (n s : Nat) (E : Lk → Prop) (B : List Bool) (q : List Nat) : Prop where
  len : B.length = n
  src : bget B s = true
  snd : ∀ v, v < n → bget B v = true → Rch E s v
  qn : ∀ v ∈ q, v < n ∧ bget B v = true
  cl : ∀ u, u < n → bget B u = true → u ∉ q → ∀ x, E x → x.f = u → bget B x.t = true
structure RVInv (n s : Nat) (E : Lk → Prop) (B : List Bool) (v : Nat) (q : List Nat) (pre : List Lk) : Prop where
  len : B.length = n
  src : bget B s = true
  snd : ∀ v, v < n → bget B v = true → Rch E s v
  vn : v < n
  v0 : bget B v = true
  qn : ∀ v ∈ q, v < n ∧ bget B v = true
  cl : ∀ u, u < n → bget B u = true → u ∉ q → u ≠ v → ∀ x, E x → x.f = u → bget B x.t = true
  pre0 : ∀ x ∈ pre, bget B x.t = true
section
variable {n s : Nat} {E : Lk → Prop} {B : List Bool}
theorem RInv.start (hs : s < n) : RInv n s E ((List.replicate n false).set s true) [s] := by
  have hg : ∀ v, bget ((List.replicate n false).set s true) v = true → v = s := fun v h => by
    rw [bget_set (by simpa using hs), bget_rep] at h
    split at h
    · rename_i e; exact e.symm
    · simp at h
  refine ⟨by simp, by rw [bget_set (by simpa using hs)]; simp, fun v _ h => by rw [hg v h]; exact .refl, fun v hv => ?_, fun u _ h hq => ?_⟩
  · simp at hv; subst hv
    exact ⟨hs, by rw [bget_set (by simpa using hs)]; simp⟩
  · exact absurd (by rw [hg u h]; simp) hq
theorem RInv.take {v : Nat} {q : List Nat} (h : RInv n s E B (v :: q)) : RVInv n s E B v q [] :=
  ⟨h.len, h.src, h.snd, (h.qn v (by simp)).1, (h.qn v (by simp)).2, fun u hu => h.qn u (by simp [hu]), fun u hu hb hq hne => h.cl u hu hb (by simp [hq, hne]), by simp⟩
theorem RVInv.seen {v : Nat} {q : List Nat} {pre : List Lk} {x : Lk} (h : RVInv n s E B v q pre) (hx : bget B x.t = true) : RVInv n s E B v q (pre ++ [x]) :=
  ⟨h.len, h.src, h.snd, h.vn, h.v0, h.qn, h.cl, fun y hy => by
    rcases List.mem_append.1 hy with hy | hy
    · exact h.pre0 y hy
    · rw [List.mem_singleton.1 hy]; exact hx⟩
theorem RVInv.push {v : Nat} {q : List Nat} {pre : List Lk} {x : Lk} (h : RVInv n s E B v q pre) (hE : E x) (hxt : x.t < n) (hxf : x.f = v) : RVInv n s E (B.set x.t true) v (q ++ [x.t]) (pre ++ [x]) := by
  have hl : x.t < B.length := by rw [h.len]; exact hxt
  have hg : ∀ u, bget B u = true → bget (B.set x.t true) u = true := fun u hu => by rw [bget_set hl]; split <;> simp [hu]
  refine ⟨by simp [h.len], hg _ h.src, fun u hu hb => ?_, h.vn, hg _ h.v0, fun u hu => ?_, fun u hu hb hq hne y hy hyf => ?_, fun y hy => ?_⟩
  · rw [bget_set hl] at hb
    split at hb
    · rename_i e; rw [← e]
      exact .step (by rw [hxf]; exact h.snd v h.vn h.v0) hE
    · exact h.snd u hu hb
  · rcases List.mem_append.1 hu with hu | hu
    · exact ⟨(h.qn u hu).1, hg _ (h.qn u hu).2⟩
    · rw [List.mem_singleton.1 hu]
      exact ⟨hxt, by rw [bget_set hl]; simp⟩
  · simp only [List.mem_append, List.mem_singleton, not_or] at hq
    rw [bget_set hl] at hb
    split at hb
    · rename_i e; exact absurd e.symm hq.2
    · exact hg _ (h.cl u hu hb hq.1 hne y hy hyf)
  · rcases List.mem_append.1 hy with hy | hy
    · exact hg _ (h.pre0 y hy)
    · rw [List.mem_singleton.1 hy, bget_set hl]; simp
theorem RVInv.done {v : Nat} {q : List Nat} {pre : List Lk} (h : RVInv n s E B v q pre) (hall : ∀ x, E x → x.f = v → x ∈ pre) : RInv n s E B q :=
  ⟨h.len, h.src, h.snd, h.qn, fun u hu hb hq x hx hxf => by
    by_cases e : u = v
    · subst e; exact h.pre0 x (hall x hx hxf)
    · exact h.cl u hu hb hq e x hx hxf⟩
theorem RInv.reach (hE : ∀ x, E x → x.f < n ∧ x.t < n) (hs : s < n) (h : RInv n s E B []) : IsReach n E s (bget B) := by
  intro v hv
  refine ⟨h.snd v hv, fun hr => ?_⟩
  exact hr.sub h.src (fun x hx hb => h.cl x.f (hE x hx).1 hb (by simp) x hx rfl)
end
def unm (B : List Bool) : Nat := (B.filter (fun b => !b)).length
theorem unm_set : ∀ {B : List Bool} {i : Nat}, i < B.length → bget B i = false → unm (B.set i true) + 1 = unm B
  | [], i, h, _ => by simp at h
  | b :: B, 0, h, hb => by
    simp [bget] at hb; subst hb
    simp [unm]
  | b :: B, i + 1, h, hb => by
    have := unm_set (B := B) (i := i) (by simpa using h) (by simpa [bget] using hb)
    unfold unm at this ⊢
    cases b <;> simp <;> omega
theorem unm_le (B : List Bool) : unm B ≤ B.length := List.length_filter_le _ _
/-- the vertices of a set, in ascending order -/
def sideOf (B : List Bool) (k : Nat) : List Int := ((List.range k).filter (fun v => bget B v)).map (fun (v : Nat) => (v : Int))
theorem sideOf_succ (B : List Bool) (k : Nat) : sideOf B (k + 1) = sideOf B k ++ (if bget B k = true then [(k : Int)] else []) := by
  unfold sideOf
  rw [List.range_succ, List.filter_append, List.map_append]
  congr 1
  cases h : bget B k <;> simp [h]
theorem sideOf_len (B : List Bool) (k : Nat) : (sideOf B k).length ≤ k := by
  unfold sideOf
  rw [List.length_map]
  have := List.length_filter_le (fun v => bget B v) (List.range k)
  simpa using this
theorem mem_sideOf {B : List Bool} {k : Nat} {x : Int} : x ∈ sideOf B k ↔ ∃ v : Nat, x = v ∧ v < k ∧ bget B v = true := by
  unfold sideOf
  rw [List.mem_map]
  constructor
  · rintro ⟨v, hv, rfl⟩
    rw [List.mem_filter] at hv
    exact ⟨v, rfl, by simpa using hv.1, hv.2⟩
  · rintro ⟨v, rfl, h1, h2⟩
    exact ⟨v, by rw [List.mem_filter]; exact ⟨by simpa using h1, h2⟩, rfl⟩
theorem capOf_congr {n : Nat} {p q : Nat → Bool} (h : ∀ v, v < n → p v = q v) : ∀ l : List Arc, (∀ a ∈ l, okArc n a = true) → capOf p l = capOf q l
  | [], _ => rfl
  | a :: l, hok => by
    obtain ⟨g1, g2, g3, g4, _⟩ := okArc_iff.1 (hok a (by simp))
    simp only [capOf]
    rw [capOf_congr h l (fun b hb => hok b (by simp [hb])), h a.f.toNat (by omega), h a.t.toNat (by omega)]
/-- why there is no maximum flow -/
def maxErr (n : Int) (l : List Arc) (s t : Int) : Int := if chk n l ≠ 0 then chk n l else if okEnds n s t = true then 0 else 2
/-- what Max hands back -/
def MaxOK (n : Int) (l : List Arc) (s t : Int) (F : List Int) (m e : Int) : Prop :=
  (maxErr n l s t ≠ 0 ∧ e = maxErr n l s t ∧ F = [] ∧ m = 0) ∨
  (maxErr n l s t = 0 ∧ e = 0 ∧ RunR n.toNat l s.toNat t.toNat (List.replicate l.length 0) F ∧ m = fval s l F)
/-- what Cut hands back -/
def CutOK (n : Int) (l : List Arc) (s t : Int) (side : List Int) (c e : Int) : Prop :=
  (maxErr n l s t ≠ 0 ∧ e = maxErr n l s t ∧ side = [] ∧ c = 0) ∨
  (maxErr n l s t = 0 ∧ e = 0 ∧ ∃ F B, RunR n.toNat l s.toNat t.toNat (List.replicate l.length 0) F ∧ IsReach n.toNat (rE l F) s.toNat (bget B) ∧ side = sideOf B n.toNat ∧ c = capOf (bget B) l)
/-- what there is where there is no error -/
structure Good (n : Int) (l : List Arc) (s t : Int) (n' s' t' : Nat) : Prop where
  en : n = n'
  es : s = s'
  et : t = t'
  sn : s' < n'
  tn : t' < n'
  ne : s' ≠ t'
  n2 : n' ≤ 2000
  l2 : l.length ≤ 20000
  ok : ∀ a ∈ l, okArc n' a = true
  chk : Flow.chk n l = 0
  ends : okEnds n s t = true
theorem maxErr_good {n s t : Int} {l : List Arc} (h : maxErr n l s t = 0) : ∃ n' s' t' : Nat, Good n l s t n' s' t' := by
  unfold maxErr at h
  split at h
  · rename_i h1; exact absurd h h1
  · rename_i h1
    split at h
    · rename_i h2
      have hc : Flow.chk n l = 0 := by omega
      obtain ⟨a1, a2, a3, a4⟩ := chk_ok hc
      obtain ⟨b1, b2, b3, b4, b5⟩ := okEnds_iff.1 h2
      refine ⟨n.toNat, s.toNat, t.toNat, ⟨by omega, by omega, by omega, by omega, by omega, by omega, by omega, a3, ?_, hc, h2⟩⟩
      have e : ((n.toNat : Nat) : Int) = n := by omega
      rw [e]; exact a4
    · simp at h
theorem MaxOK.uniq {n s t : Int} {l : List Arc} {F G : List Int} {m k e f : Int} (h1 : MaxOK n l s t F m e) (h2 : MaxOK n l s t G k f) : F = G ∧ m = k ∧ e = f := by
  rcases h1 with ⟨a1, a2, a3, a4⟩ | ⟨a1, a2, a3, a4⟩ <;> rcases h2 with ⟨b1, b2, b3, b4⟩ | ⟨b1, b2, b3, b4⟩
  · exact ⟨by rw [a3, b3], by rw [a4, b4], by rw [a2, b2]⟩
  · exact absurd b1 a1
  · exact absurd a1 b1
  · obtain ⟨n', s', t', g⟩ := maxErr_good a1
    obtain ⟨rfl, rfl, rfl⟩ := And.intro g.en (And.intro g.es g.et)
    simp only [Int.toNat_natCast] at a3 b3
    have e := a3.uniq g.ok b3
    subst e
    exact ⟨rfl, by rw [a4, b4], by rw [a2, b2]⟩
theorem sideOf_congr {B C : List Bool} {n : Nat} (h : ∀ v, v < n → bget B v = bget C v) : sideOf B n = sideOf C n := by
  unfold sideOf
  congr 1
  apply List.filter_congr
  intro v hv
  exact h v (by simpa using hv)
theorem reach_uniq {n s : Nat} {E : Lk → Prop} {p q : Nat → Bool} (h1 : IsReach n E s p) (h2 : IsReach n E s q) : ∀ v, v < n → p v = q v := fun v hv => by
  have a := h1 v hv
  have b := h2 v hv
  cases e1 : p v <;> cases e2 : q v <;> simp_all
theorem CutOK.uniq {n s t : Int} {l : List Arc} {F G : List Int} {m k e f : Int} (h1 : CutOK n l s t F m e) (h2 : CutOK n l s t G k f) : F = G ∧ m = k ∧ e = f := by
  rcases h1 with ⟨a1, a2, a3, a4⟩ | ⟨a1, a2, F1, B1, r1, i1, d1, c1⟩ <;> rcases h2 with ⟨b1, b2, b3, b4⟩ | ⟨b1, b2, F2, B2, r2, i2, d2, c2⟩
  · exact ⟨by rw [a3, b3], by rw [a4, b4], by rw [a2, b2]⟩
  · exact absurd b1 a1
  · exact absurd a1 b1
  · obtain ⟨n', s', t', g⟩ := maxErr_good a1
    obtain ⟨rfl, rfl, rfl⟩ := And.intro g.en (And.intro g.es g.et)
    simp only [Int.toNat_natCast] at *
    have e := r1.uniq g.ok r2
    subst e
    have hb := reach_uniq i1 i2
    exact ⟨by rw [d1, d2]; exact sideOf_congr hb, by rw [c1, c2]; exact capOf_congr hb l g.ok, by rw [a2, b2]⟩
end Go.Flow
namespace Go.Flow
theorem unm_rep (n : Nat) : unm (List.replicate n false) = n := by
  unfold unm
  rw [List.filter_replicate]
  simp
theorem unm_start {n s : Nat} (hs : s < n) : unm ((List.replicate n false).set s true) + 1 = n := by
  have := unm_set (B := List.replicate n false) (i := s) (by simpa using hs) (bget_rep n s)
  rw [unm_rep] at this
  exact this
end Go.Flow
