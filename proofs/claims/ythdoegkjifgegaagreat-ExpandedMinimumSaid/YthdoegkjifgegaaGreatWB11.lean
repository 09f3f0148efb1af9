/- Texts of this proof, one after the other; no conditions. -/
import Derived.Test.YthdoegkjifgegaaGreatWB8
import Derived.Test.YthdoegkjifgegaaGreatWB10
import Derived.Test.YthdoegkjifgegaaGreatWB3
import Derived.Test.YthdoegkjifgegaaGreatWB9
import Derived.Test.YthdoegkjifgegaaGreatWB6
import Derived.Test.YthdoegkjifgegaaGreatWB5
import Derived.Test.YthdoegkjifgegaaGreatWB2
import Derived.Test.YthdoegkjifgegaaGreatWB4
set_option linter.all false
/- What is reached: a search by a queue. What Max and Cut hand back. No program in sight. No conditions. -/
namespace Go.Flow
def bget (B : List Bool) (v : Nat) : Bool := B.getD v false
theorem bget_set {B : List Bool} {i j : Nat} {x : Bool} (hi : i < B.length) : bget (B.set i x) j = if i = j then x else bget B j := by
  unfold bget
  rw [List.getD_eq_getElem?_getD, List.getD_eq_getElem?_getD, List.getElem?_set]
  split
  · rename_i h; subst h; simp [hi]
  · rfl
theorem bget_rep (n v : Nat) : bget (List.replicate n false) v = false := by
  unfold bget
  rw [List.getD_eq_getElem?_getD, List.getElem?_replicate]
  split <;> rfl
theorem bget_some {B : List Bool} {v : Nat} (h : v < B.length) : B[v]? = some (bget B v) := by simp [bget, h]
structure RInv (n s : Nat) (E : Lk → Prop) (B : List Bool) (q : List Nat) : Prop where
  len : B.length = n
  src : bget B s = true
  snd : ∀ v, v < n → bget B v = true → Rch E s v
  qn : ∀ v ∈ q, v < n ∧ bget B v = true
  cl : ∀ u, u < n → bget B u = true → u ∉ q → ∀ x, E x → x.f = u → bget B x.t = true
structure RVInv (n s : Nat) (E : Lk → Prop) (B : List Bool) (v : Nat) (q : List Nat) (pre : List Lk) : Prop where
  len : B.length = n
  src : bget B s = true
  snd : ∀ v, v < n → bget B v = true → Rch E s v
  vn : v < n
  v0 : bget B v = true
  qn : ∀ v ∈ q, v < n ∧ bget B v = true
  cl : ∀ u, u < n → bget B u = true → u ∉ q → u ≠ v → ∀ x, E x → x.f = u → bget B x.t = true
  pre0 : ∀ x ∈ pre, bget B x.t = true
section
variable {n s : Nat} {E : Lk → Prop} {B : List Bool}
theorem RInv.start (hs : s < n) : RInv n s E ((List.replicate n false).set s true) [s] := by
  have hg : ∀ v, bget ((List.replicate n false).set s true) v = true → v = s := fun v h => by
    rw [bget_set (by simpa using hs), bget_rep] at h
    split at h
    · rename_i e; exact e.symm
    · simp at h
  refine ⟨by simp, by rw [bget_set (by simpa using hs)]; simp, fun v _ h => by rw [hg v h]; exact .refl, fun v hv => ?_, fun u _ h hq => ?_⟩
  · simp at hv; subst hv
    exact ⟨hs, by rw [bget_set (by simpa using hs)]; simp⟩
  · exact absurd (by rw [hg u h]; simp) hq
theorem RInv.take {v : Nat} {q : List Nat} (h : RInv n s E B (v :: q)) : RVInv n s E B v q [] :=
  ⟨h.len, h.src, h.snd, (h.qn v (by simp)).1, (h.qn v (by simp)).2, fun u hu => h.qn u (by simp [hu]), fun u hu hb hq hne => h.cl u hu hb (by simp [hq, hne]), by simp⟩
theorem RVInv.seen {v : Nat} {q : List Nat} {pre : List Lk} {x : Lk} (h : RVInv n s E B v q pre) (hx : bget B x.t = true) : RVInv n s E B v q (pre ++ [x]) :=
  ⟨h.len, h.src, h.snd, h.vn, h.v0, h.qn, h.cl, fun y hy => by
    rcases List.mem_append.1 hy with hy | hy
    · exact h.pre0 y hy
    · rw [List.mem_singleton.1 hy]; exact hx⟩
theorem RVInv.push {v : Nat} {q : List Nat} {pre : List Lk} {x : Lk} (h : RVInv n s E B v q pre) (hE : E x) (hxt : x.t < n) (hxf : x.f = v) : RVInv n s E (B.set x.t true) v (q ++ [x.t]) (pre ++ [x]) := by
  have hl : x.t < B.length := by rw [h.len]; exact hxt
  have hg : ∀ u, bget B u = true → bget (B.set x.t true) u = true := fun u hu => by rw [bget_set hl]; split <;> simp [hu]
  refine ⟨by simp [h.len], hg _ h.src, fun u hu hb => ?_, h.vn, hg _ h.v0, fun u hu => ?_, fun u hu hb hq hne y hy hyf => ?_, fun y hy => ?_⟩
  · rw [bget_set hl] at hb
    split at hb
    · rename_i e; rw [← e]
      exact .step (by rw [hxf]; exact h.snd v h.vn h.v0) hE
    · exact h.snd u hu hb
  · rcases List.mem_append.1 hu with hu | hu
    · exact ⟨(h.qn u hu).1, hg _ (h.qn u hu).2⟩
    · rw [List.mem_singleton.1 hu]
      exact ⟨hxt, by rw [bget_set hl]; simp⟩
  · simp only [List.mem_append, List.mem_singleton, not_or] at hq
    rw [bget_set hl] at hb
    split at hb
    · rename_i e; exact absurd e.symm hq.2
    · exact hg _ (h.cl u hu hb hq.1 hne y hy hyf)
  · rcases List.mem_append.1 hy with hy | hy
    · exact hg _ (h.pre0 y hy)
    · rw [List.mem_singleton.1 hy, bget_set hl]; simp
theorem RVInv.done {v : Nat} {q : List Nat} {pre : List Lk} (h : RVInv n s E B v q pre) (hall : ∀ x, E x → x.f = v → x ∈ pre) : RInv n s E B q :=
  ⟨h.len, h.src, h.snd, h.qn, fun u hu hb hq x hx hxf => by
    by_cases e : u = v
    · subst e; exact h.pre0 x (hall x hx hxf)
    · exact h.cl u hu hb hq e x hx hxf⟩
theorem RInv.reach (hE : ∀ x, E x → x.f < n ∧ x.t < n) (hs : s < n) (h : RInv n s E B []) : IsReach n E s (bget B) := by
  intro v hv
  refine ⟨h.snd v hv, fun hr => ?_⟩
  exact hr.sub h.src (fun x hx hb => h.cl x.f (hE x hx).1 hb (by simp) x hx rfl)
end
def unm (B : List Bool) : Nat := (B.filter (fun b => !b)).length
theorem unm_set : ∀ {B : List Bool} {i : Nat}, i < B.length → bget B i = false → unm (B.set i true) + 1 = unm B
  | [], i, h, _ => by simp at h
  | b :: B, 0, h, hb => by
    simp [bget] at hb; subst hb
    simp [unm]
  | b :: B, i + 1, h, hb => by
    have := unm_set (B := B) (i := i) (by simpa using h) (by simpa [bget] using hb)
    unfold unm at this ⊢
    cases b <;> simp <;> omega
/-- the vertices of a set, in ascending order -/
def sideOf (B : List Bool) (k : Nat) : List Int := ((List.range k).filter (fun v => bget B v)).map (fun (v : Nat) => (v : Int))
theorem sideOf_succ (B : List Bool) (k : Nat) : sideOf B (k + 1) = sideOf B k ++ (if bget B k = true then [(k : Int)] else []) := by
  unfold sideOf
  rw [List.range_succ, List.filter_append, List.map_append]
  congr 1
  cases h : bget B k <;> simp [h]
theorem sideOf_len (B : List Bool) (k : Nat) : (sideOf B k).length ≤ k := by
  unfold sideOf
  rw [List.length_map]
  have := List.length_filter_le (fun v => bget B v) (List.range k)
  simpa using this
theorem mem_sideOf {B : List Bool} {k : Nat} {x : Int} : x ∈ sideOf B k ↔ ∃ v : Nat, x = v ∧ v < k ∧ bget B v = true := by
  unfold sideOf
  rw [List.mem_map]
  constructor
  · rintro ⟨v, hv, rfl⟩
    rw [List.mem_filter] at hv
    exact ⟨v, rfl, by simpa using hv.1, hv.2⟩
  · rintro ⟨v, rfl, h1, h2⟩
    exact ⟨v, by rw [List.mem_filter]; exact ⟨by simpa using h1, h2⟩, rfl⟩
theorem capOf_congr {n : Nat} {p q : Nat → Bool} (h : ∀ v, v < n → p v = q v) : ∀ l : List Arc, (∀ a ∈ l, okArc n a = true) → capOf p l = capOf q l
  | [], _ => rfl
  | a :: l, hok => by
    obtain ⟨g1, g2, g3, g4, _⟩ := okArc_iff.1 (hok a (by simp))
    simp only [capOf]
    rw [capOf_congr h l (fun b hb => hok b (by simp [hb])), h a.f.toNat (by omega), h a.t.toNat (by omega)]
/-- why there is no maximum flow -/
def maxErr (n : Int) (l : List Arc) (s t : Int) : Int := if chk n l ≠ 0 then chk n l else if okEnds n s t = true then 0 else 2
/-- what Max hands back -/
def MaxOK (n : Int) (l : List Arc) (s t : Int) (F : List Int) (m e : Int) : Prop :=
  (maxErr n l s t ≠ 0 ∧ e = maxErr n l s t ∧ F = [] ∧ m = 0) ∨
  (maxErr n l s t = 0 ∧ e = 0 ∧ RunR n.toNat l s.toNat t.toNat (List.replicate l.length 0) F ∧ m = fval s l F)
/-- what Cut hands back -/
def CutOK (n : Int) (l : List Arc) (s t : Int) (side : List Int) (c e : Int) : Prop :=
  (maxErr n l s t ≠ 0 ∧ e = maxErr n l s t ∧ side = [] ∧ c = 0) ∨
  (maxErr n l s t = 0 ∧ e = 0 ∧ ∃ F B, RunR n.toNat l s.toNat t.toNat (List.replicate l.length 0) F ∧ IsReach n.toNat (rE l F) s.toNat (bget B) ∧ side = sideOf B n.toNat ∧ c = capOf (bget B) l)
/-- what there is where there is no error -/
structure Good (n : Int) (l : List Arc) (s t : Int) (n' s' t' : Nat) : Prop where
  en : n = n'
  es : s = s'
  et : t = t'
  sn : s' < n'
  tn : t' < n'
  ne : s' ≠ t'
  n2 : n' ≤ 2000
  l2 : l.length ≤ 20000
  ok : ∀ a ∈ l, okArc n' a = true
  chk : Flow.chk n l = 0
  ends : okEnds n s t = true
theorem maxErr_good {n s t : Int} {l : List Arc} (h : maxErr n l s t = 0) : ∃ n' s' t' : Nat, Good n l s t n' s' t' := by
  unfold maxErr at h
  split at h
  · rename_i h1; exact absurd h h1
  · rename_i h1
    split at h
    · rename_i h2
      have hc : Flow.chk n l = 0 := by omega
      obtain ⟨a1, a2, a3, a4⟩ := chk_ok hc
      obtain ⟨b1, b2, b3, b4, b5⟩ := okEnds_iff.1 h2
      refine ⟨n.toNat, s.toNat, t.toNat, ⟨by omega, by omega, by omega, by omega, by omega, by omega, by omega, a3, ?_, hc, h2⟩⟩
      have e : ((n.toNat : Nat) : Int) = n := by omega
      rw [e]; exact a4
    · simp at h
theorem MaxOK.uniq {n s t : Int} {l : List Arc} {F G : List Int} {m k e f : Int} (h1 : MaxOK n l s t F m e) (h2 : MaxOK n l s t G k f) : F = G ∧ m = k ∧ e = f := by
  rcases h1 with ⟨a1, a2, a3, a4⟩ | ⟨a1, a2, a3, a4⟩ <;> rcases h2 with ⟨b1, b2, b3, b4⟩ | ⟨b1, b2, b3, b4⟩
  · exact ⟨by rw [a3, b3], by rw [a4, b4], by rw [a2, b2]⟩
  · exact absurd b1 a1
  · exact absurd a1 b1
  · obtain ⟨n', s', t', g⟩ := maxErr_good a1
    obtain ⟨rfl, rfl, rfl⟩ := And.intro g.en (And.intro g.es g.et)
    simp only [Int.toNat_natCast] at a3 b3
    have e := a3.uniq g.ok b3
    subst e
    exact ⟨rfl, by rw [a4, b4], by rw [a2, b2]⟩
theorem sideOf_congr {B C : List Bool} {n : Nat} (h : ∀ v, v < n → bget B v = bget C v) : sideOf B n = sideOf C n := by
  unfold sideOf
  congr 1
  apply List.filter_congr
  intro v hv
  exact h v (by simpa using hv)
theorem reach_uniq {n s : Nat} {E : Lk → Prop} {p q : Nat → Bool} (h1 : IsReach n E s p) (h2 : IsReach n E s q) : ∀ v, v < n → p v = q v := fun v hv => by
  have a := h1 v hv
  have b := h2 v hv
  cases e1 : p v <;> cases e2 : q v <;> simp_all
theorem CutOK.uniq {n s t : Int} {l : List Arc} {F G : List Int} {m k e f : Int} (h1 : CutOK n l s t F m e) (h2 : CutOK n l s t G k f) : F = G ∧ m = k ∧ e = f := by
  rcases h1 with ⟨a1, a2, a3, a4⟩ | ⟨a1, a2, F1, B1, r1, i1, d1, c1⟩ <;> rcases h2 with ⟨b1, b2, b3, b4⟩ | ⟨b1, b2, F2, B2, r2, i2, d2, c2⟩
  · exact ⟨by rw [a3, b3], by rw [a4, b4], by rw [a2, b2]⟩
  · exact absurd b1 a1
  · exact absurd a1 b1
  · obtain ⟨n', s', t', g⟩ := maxErr_good a1
    obtain ⟨rfl, rfl, rfl⟩ := And.intro g.en (And.intro g.es g.et)
    simp only [Int.toNat_natCast] at *
    have e := r1.uniq g.ok r2
    subst e
    have hb := reach_uniq i1 i2
    exact ⟨by rw [d1, d2]; exact sideOf_congr hb, by rw [c1, c2]; exact capOf_congr hb l g.ok, by rw [a2, b2]⟩
end Go.Flow
namespace Go.Flow
theorem unm_rep (n : Nat) : unm (List.replicate n false) = n := by
  unfold unm
  rw [List.filter_replicate]
  simp
theorem unm_start {n s : Nat} (hs : s < n) : unm ((List.replicate n false).set s true) + 1 = n := by
  have := unm_set (B := List.replicate n false) (i := s) (by simpa using hs) (bget_rep n s)
  rw [unm_rep] at this
  exact this
end Go.Flow
/- Max and Cut of the program. -/
namespace Go.Proofs.YthdoegkjifgegaaGreat
open Go.Eng Go.Flow
set_option maxRecDepth 100000
set_option maxHeartbeats 4000000

theorem flowMax_spec (ρ : PH) (v : Value) (n s t : Int) (l : List Arc) (hv : ArcsAt ρ v l) (hl : l.length ≤ 1000000) :
  Makes Tryz.prog (fv 36) [int n, v, int s, int t] [ρ] (fun r σ => ∃ fs F m e, r = .tuple #[fs, int m, int e] ∧ IntsAt σ fs F ∧ MaxOK n l s t F m e) := by
 have hnil : IntsAt emp (.slice none 0 0) [] := ⟨rfl, .inl ⟨rfl, none, 0, rfl⟩⟩
 refine spec_in (cap := []) Tryz.func36 rfl rfl Tryz.ntmps36 rfl envZ (fun N β => ?_)
 refine AD ?_
 refine AA ?_
 refine AC ?_
 refine AC ?_
 refine AC ?_
 refine AE ?_
 refine AD ?_
 refine AD ?_
 refine AA ?_
 refine AB ?_
 refine AB ?_
 focus ((refine A4 (check_spec ρ v n l hv hl) rfl rfl rdZ rfl rfl ?_; rintro _ rfl))
 refine AC ?_
 refine AE ?_
 refine AD ?_
 refine AA ?_
 refine AB ?_
 by_cases hc : chk n l = 0
 rotate_left
 ·refine CT ?_
  refine AE ?_
  refine AN rfl ?_
  refine AD ?_
  refine AA ?_
  refine AB ?_
  refine AC ?_
  refine AC ?_
  refine AC ?_
  refine AE ?_
  refine BZ ?_
  exact AI (res3 rfl rfl rfl rfl) rsubZ selZ ⟨emp, ⟨_, [], 0, _, rfl, hnil, .inl ⟨by unfold maxErr; rw [if_pos hc]; exact hc, by unfold maxErr; rw [if_pos hc], rfl, rfl⟩⟩, rfl⟩
 refine BJ ?_
 refine AE ?_
 refine AM rfl ?_
 refine AL ?_
 refine AD ?_
 refine AD ?_
 refine AA ?_
 refine AB ?_
 refine AB ?_
 refine AB ?_
 focus ((refine A4 (ends_spec _ _ _) rfl rfl rdZ rfl rfl ?_; rintro _ rfl))
 refine AC ?_
 refine AE ?_
 refine AD ?_
 refine AA ?_
 refine AB ?_
 have hme : maxErr n l s t = if okEnds n s t = true then 0 else 2 := by unfold maxErr; rw [if_neg (by rw [hc]; simp)]
 cases he : okEnds n s t with
 | false =>
  rw [he] at hme
  simp only [Bool.false_eq_true, if_false] at hme ⊢
  refine CT ?_
  refine AE ?_
  refine AN rfl ?_
  refine AD ?_
  refine AA ?_
  refine AB ?_
  refine AC ?_
  refine AC ?_
  refine AC ?_
  refine AE ?_
  refine BZ ?_
  exact AI (res3 rfl rfl rfl rfl) rsubZ selZ ⟨emp, ⟨_, [], 0, _, rfl, hnil, .inl ⟨by rw [hme]; simp, by rw [hme], rfl, rfl⟩⟩, rfl⟩
 | true =>
  rw [he] at hme
  simp only [if_true] at hme ⊢
  obtain ⟨n', s', t', g⟩ := maxErr_good hme
  obtain ⟨rfl, rfl, rfl⟩ := And.intro g.en (And.intro g.es g.et)
  refine BJ ?_
  refine AE ?_
  refine AM rfl ?_
  refine AL ?_
  refine AD ?_
  refine AA ?_
  refine AB ?_
  refine AB ?_
  refine AB ?_
  refine AB ?_
  refine BF (maximum_spec ρ v n' l s' t' hv g.n2 g.l2 g.ok g.sn g.tn g.ne) rfl rfl takesZ rdZ rfl rfl ?_
  rintro _ _ ⟨_, _, F, rfl, bf, gb, b1, b2, γ, rfl, rfl, _, hR, rfl⟩
  have hF := (hR.flw g.ok g.sn g.ne (flw_zeros g.ok)).1
  have hIn : IntsAt (sng bf (.cells (ints F) 3 (0, 0))) (.slice (some ⟨bf, 0, none⟩) l.length l.length) F := by rw [hF.len]; exact intsAt_sng
  simp only [List.cons_append, List.nil_append]
  refine AB ?_
  refine AQ ?_
  refine AQ ?_
  refine AC ?_
  refine AC ?_
  refine AE ?_
  refine AD ?_
  refine AA ?_
  refine AB ?_
  refine AB ?_
  refine AB ?_
  refine AB ?_
  refine A4 (value_spec ρ _ v _ s' l F hv hIn g.l2 hF.len.symm (inCap_small l F hF.len hF.cap g.ok)) rfl rfl rdZ rfl rfl ?_
  rintro _ rfl
  refine AC ?_
  refine AC ?_
  refine AC ?_
  refine AE ?_
  exact AI (res3 rfl rfl rfl rfl) rsubZ selZ ⟨_, ⟨_, F, _, _, rfl, hIn, .inr ⟨hme, rfl, hR, rfl⟩⟩, rfl⟩

set_option maxHeartbeats 8000000 in
theorem flowCut_spec (ρ : PH) (v : Value) (n s t : Int) (l : List Arc) (hv : ArcsAt ρ v l) (hl : l.length ≤ 1000000) :
  Makes Tryz.prog (fv 24) [int n, v, int s, int t] [ρ] (fun r σ => ∃ fs side c e, r = .tuple #[fs, int c, int e] ∧ IntsAt σ fs side ∧ CutOK n l s t side c e) := by
 have hnil : IntsAt emp (.slice none 0 0) [] := ⟨rfl, .inl ⟨rfl, none, 0, rfl⟩⟩
 refine spec_in (cap := []) Tryz.func24 rfl rfl Tryz.ntmps24 rfl envZ (fun N β => ?_)
 refine AD ?_
 refine AA ?_
 refine AC ?_
 refine AC ?_
 refine AC ?_
 refine AE ?_
 refine AD ?_
 refine AD ?_
 refine AA ?_
 refine AB ?_
 refine AB ?_
 focus ((refine A4 (check_spec ρ v n l hv hl) rfl rfl rdZ rfl rfl ?_; rintro _ rfl))
 refine AC ?_
 refine AE ?_
 refine AD ?_
 refine AA ?_
 refine AB ?_
 by_cases hc : chk n l = 0
 rotate_left
 ·refine CT ?_
  refine AE ?_
  refine AN rfl ?_
  refine AD ?_
  refine AA ?_
  refine AB ?_
  refine AC ?_
  refine AC ?_
  refine AC ?_
  refine AE ?_
  refine BZ ?_
  exact AI (res3 rfl rfl rfl rfl) rsubZ selZ ⟨emp, ⟨_, [], 0, _, rfl, hnil, .inl ⟨by unfold maxErr; rw [if_pos hc]; exact hc, by unfold maxErr; rw [if_pos hc], rfl, rfl⟩⟩, rfl⟩
 refine BJ ?_
 refine AE ?_
 refine AM rfl ?_
 refine AL ?_
 refine AD ?_
 refine AD ?_
 refine AA ?_
 refine AB ?_
 refine AB ?_
 refine AB ?_
 focus ((refine A4 (ends_spec _ _ _) rfl rfl rdZ rfl rfl ?_; rintro _ rfl))
 refine AC ?_
 refine AE ?_
 refine AD ?_
 refine AA ?_
 refine AB ?_
 have hme : maxErr n l s t = if okEnds n s t = true then 0 else 2 := by unfold maxErr; rw [if_neg (by rw [hc]; simp)]
 cases he : okEnds n s t with
 | false =>
  rw [he] at hme
  simp only [Bool.false_eq_true, if_false] at hme ⊢
  refine CT ?_
  refine AE ?_
  refine AN rfl ?_
  refine AD ?_
  refine AA ?_
  refine AB ?_
  refine AC ?_
  refine AC ?_
  refine AC ?_
  refine AE ?_
  refine BZ ?_
  exact AI (res3 rfl rfl rfl rfl) rsubZ selZ ⟨emp, ⟨_, [], 0, _, rfl, hnil, .inl ⟨by rw [hme]; simp, by rw [hme], rfl, rfl⟩⟩, rfl⟩
 | true =>
  rw [he] at hme
  simp only [if_true] at hme ⊢
  obtain ⟨n', s', t', g⟩ := maxErr_good hme
  obtain ⟨rfl, rfl, rfl⟩ := And.intro g.en (And.intro g.es g.et)
  have hrep : (List.replicate n' false).length = n' := by simp
  have hn2 := g.n2
  have hsn := g.sn
  have hrl := rl_lt g.ok
  have hGok : GOk n' (outsOf (rlinks l)) (insOf (rlinks l)) := GOk_of g.n2 (by rw [rlinks_len]; have := g.l2; omega) (fun x hx => by have := rlinks_mem g.ok hx; have := g.l2; omega)
  have hcap : ∀ a ∈ l, 0 ≤ a.c ∧ a.c ≤ 1099511627776 := fun a ha => by have := okArc_iff.1 (g.ok a ha); omega
  refine BJ ?_
  refine AE ?_
  refine AM rfl ?_
  refine AL ?_
  refine AD ?_
  refine AA ?_
  refine AB ?_
  refine AB ?_
  refine AB ?_
  refine AB ?_
  refine BF (maximum_spec ρ v n' l s' t' hv g.n2 g.l2 g.ok g.sn g.tn g.ne) rfl rfl takesZ rdZ rfl rfl ?_
  rintro _ _ ⟨_, _, F, rfl, bf, gb, b1, b2, γ, rfl, rfl, hG, hR, rfl⟩
  have hF := (hR.flw g.ok g.sn g.ne (flw_zeros g.ok)).1
  obtain ⟨ob, oc, ho, hol⟩ := hG.o
  have hrm : ∀ x, x ∈ rlinks l → Ans Tryz.prog (roomR b1 b2) [int x.k] [ρ, sng b1 (.cells #[v] 34 (0, 0)), sng b2 (.cells #[.slice (some ⟨bf, 0, none⟩) l.length l.length] 22 (0, 0)), sng bf (.cells (ints F) 3 (0, 0))] (fun r => r = int (rmR l F x.k)) := fun x hx =>
   residual1_spec ρ _ b1 b2 bf l.length l.length x.k _ _ _ l F hv hF.len.symm rfl (rlinks_mem g.ok hx).2.2 g.l2 hF.cap hcap
  simp only [List.cons_append, List.nil_append]
  refine AS (ρ := sng bf _) takeZ ?_
  refine AS (ρ := γ) takeZ ?_
  refine AS (ρ := sng b1 _) takeZ ?_
  refine AS (ρ := sng b2 _) takeZ ?_
  refine AB ?_
  refine AQ ?_
  refine AQ ?_
  refine AC ?_
  refine AC ?_
  refine AE ?_
  refine AD ?_
  refine AA ?_
  refine AB ?_
  refine E0 ?_; rintro _ _ ⟨b, rfl, rfl⟩
  refine BN ?_; rintro _ _ ⟨b, rfl, rfl⟩
  refine BC ?_; rintro _ _ ⟨rfl, rfl⟩
  refine AE ?_
  refine AD ?_
  refine AA ?_
  refine AF ?_
  refine AB ?_
  refine BI ?_
  refine DA ?_; rintro _ _ ⟨rfl, rfl⟩
  refine AE ?_
  refine AD ?_
  refine AD ?_
  refine AA ?_
  refine AB ?_
  refine BB ?_; rintro _ _ ⟨b, rfl, rfl⟩
  refine BN ?_; rintro _ _ ⟨b, rfl, rfl⟩
  refine BC ?_; rintro _ _ ⟨rfl, rfl⟩
  refine AE ?_
  refine AO ?_
  rename_i bm bB bi
  revert b; intro bq
  have hq0 : OwnO 3 1 (.slice (some ⟨bi, 0, none⟩) 1 1) 1 [int s'] (sng bi (.cells [int (s' : Int)].toArray 3 (0, 0))) := OwnS.ownO (n := 1) rfl (by simp [maxLen])
  refine BZ ?_
  refine DM [0, 1, 2, 3, 14, 15] ((((List.replicate n' false).set s' true, [s']), ((.slice (some ⟨bi, 0, none⟩) 1 1, sng bi (.cells [int (s' : Int)].toArray 3 (0, 0))), bq)), ([], emp)) (X := ((List Bool × List Nat) × ((Value × PH) × Nat)) × (List Nat × PH))
   (fun x => x.2.1.map mk) (fun x => RInv n' s' (rE l F) x.1.1.1 x.1.1.2 ∧ OwnO 3 1 x.1.2.1.1 x.1.1.2.length (qInts x.1.1.2) x.1.2.1.2 ∧ x.1.1.2.length + unm x.1.1.1 ≤ n' ∧ MkIn x.2.2 x.2.1)
   (fun x => [(16, .pointer (some ⟨x.1.2.2, 0, none⟩))]) (fun x => [sng bB (.cells #[.slice (some ⟨bm, 0, none⟩) n' n'] 118 (0, 0)), sng bm (.cells (bools x.1.1.1) 4 (0, 0)), sng x.1.2.2 (.cells #[x.1.2.1.1] 22 (0, 0)), x.1.2.1.2, x.2.2]) (fun x => 2 * unm x.1.1.1 + x.1.1.2.length)
   pickZ rfl ⟨RInv.start hsn, hq0, by have := unm_start hsn; dsimp only [List.length_singleton]; omega, MkIn.nil⟩ covZ selZ ?_
  rintro ⟨⟨⟨B, q⟩, ⟨⟨qv, ρq⟩, bq2⟩⟩, ⟨ms, μ⟩⟩ ⟨hB, hQ, hql, hM⟩
  dsimp only at hB hQ hql hM ⊢
  have hBl := hB.len
  cases q with
  | nil =>
   have hQ' : OwnO 3 1 qv 0 [] ρq := hQ
   obtain ⟨_, b1', o1, cap1, cur1, rfl, rfl, _⟩ := hQ'
   have hreach := hB.reach (fun x hx => hrl x hx.1) hsn
   refine BZ ?_
   refine AD ?_
   refine AD ?_
   refine AA ?_
   refine AF ?_
   refine AX ?_
   refine BU ?_
   refine AE ?_
   refine AM rfl ?_
   refine A8 rfl ?_
   refine AD ?_
   refine AA ?_
   refine AC ?_
   refine AE ?_
   refine AD ?_
   refine AD ?_
   refine AA ?_
   refine AF ?_
   refine AX ?_
   refine AB ?_
   refine AE ?_
   refine AO ?_
   refine BD [0, 1, 15, 82, 83] (X := Nat × (Value × PH)) (0, (.slice none 0 0, emp)) (fun x => x.1 ≤ n' ∧ OwnS 3 1 x.2.1 (sideOf B x.1).length ((sideOf B x.1).map int) x.2.2) (fun x => [(18, x.2.1), (84, int x.1)])
    (fun x => [sng bB (.cells #[.slice (some ⟨bm, 0, none⟩) n' n'] 118 (0, 0)), sng bm (.cells (bools B) 4 (0, 0)), x.2.2, μ]) (fun x => n' - x.1) pickZ ⟨by dsimp only; omega, OwnS.nil _ _⟩ covZ selZ ?_
   rintro ⟨k, ⟨sv, ρs⟩⟩ ⟨hk, hS⟩
   dsimp only at hk hS ⊢
   have hsl := sideOf_len B k
   have hsu := sideOf_succ B k
   by_cases hlt : k < n'
   ·have hbk := bget_some (B := B) (v := k) (by omega)
    cases hb : bget B k with
    | true =>
     rw [hb] at hbk hsu
     rw [if_pos rfl] at hsu
     refine AD ?_
     refine AA ?_
     refine BE ?_
     refine AE ?_
     refine AD ?_
     refine AN rfl ?_
     refine AL ?_
     refine AD ?_
     refine AO ?_
     refine AD ?_
     refine AA ?_
     refine AB ?_
     refine BI ?_
     refine AF ?_
     refine AC ?_
     refine AC ?_
     refine AE ?_
     refine AD ?_
     refine AA ?_
     refine AB ?_
     refine AE ?_
     refine AN rfl ?_
     refine AA ?_
     refine AB ?_
     refine AB ?_
     refine BB ?_; rintro _ _ ⟨b, rfl, rfl⟩
     refine BK (B0 (by_ := 8) (s := 1) (news := [int (k : Int)]) rfl rfl rfl rfl rfl rfl rfl hS takeZ (cells_own memZ) rfl (by (repeat (first | exact (fun v hv => absurd hv List.not_mem_nil) | (refine List.forall_mem_cons.2 ⟨?_, ?_⟩; (focus (first | exact rfl | assumption))))); first | done | fail) (by omega) (by simp only [maxLen]; omega) (by omega)) rfl rfl rfl ?_
     rintro q9 _ ⟨ρ3, hQ3, rfl⟩
     refine AC ?_
     refine AE ?_
     refine A3 ?_
     refine AA ?_
     refine BA ?_
     refine AB ?_
     refine AE ?_
     refine AV (k + 1, (q9, ρ3)) ⟨by dsimp only; omega, ?_⟩ (by dsimp only; omega) covZ selZ
     dsimp only
     rw [hsu, List.map_append, List.length_append]
     exact hQ3
    | false =>
     rw [hb] at hbk hsu
     rw [if_neg (by simp), List.append_nil] at hsu
     refine AD ?_
     refine AA ?_
     refine BE ?_
     refine AE ?_
     refine AD ?_
     refine AN rfl ?_
     refine AL ?_
     refine AD ?_
     refine AO ?_
     refine AD ?_
     refine AA ?_
     refine AB ?_
     refine BI ?_
     refine AF ?_
     refine AC ?_
     refine AC ?_
     refine AE ?_
     refine AD ?_
     refine AA ?_
     refine AB ?_
     refine AE ?_
     refine AM rfl ?_
     refine AL ?_
     refine A3 ?_
     refine AA ?_
     refine BA ?_
     refine AB ?_
     refine AE ?_
     refine AV (k + 1, (sv, ρs)) ⟨by dsimp only; omega, ?_⟩ (by dsimp only; omega) covZ selZ
     dsimp only
     rw [hsu]
     exact hS
   ·obtain rfl : k = n' := by omega
    refine AD ?_
    refine AA ?_
    refine AY ?_
    refine AE ?_
    refine AD ?_
    refine AM rfl ?_
    refine A8 rfl ?_
    refine AD ?_
    refine AA ?_
    refine AB ?_
    refine AB ?_
    refine AF ?_
    refine A4 (capacity_spec ρ v k bm k 4 l B hv g.l2 g.ok hBl) rfl rfl rdZ rfl rfl ?_
    rintro _ rfl
    refine AC ?_
    refine AC ?_
    refine AC ?_
    refine AE ?_
    exact DK hM takeZ (res3 rfl rfl rfl rfl) rsubZ selZ ⟨_, ⟨sv, sideOf B k, _, _, rfl, ownInts (e := 3) hS, .inr ⟨hme, rfl, F, B, hR, hreach, rfl, rfl⟩⟩, rfl⟩
  | cons v1 q =>
   have hQ' : OwnO 3 1 qv (q.length + 1) (int v1 :: qInts q) ρq := hQ
   have hV0 := hB.take
   have hvn := hV0.vn
   obtain ⟨lv, hlv, hls⟩ := hol v1 hvn
   obtain ⟨b1', o1, cap1, rfl, hh0, _⟩ := hQ'.head
   simp only [List.length_cons] at hql ⊢
   refine AD ?_
   refine AD ?_
   refine AA ?_
   refine AF ?_
   refine AX ?_
   refine CK ?_
   refine AE ?_
   refine AN rfl ?_
   refine AL ?_
   refine AD ?_
   refine AO ?_
   refine AD ?_
   refine A5 (.q 0 (.q 1 (.q 2 (.q 3 (.q 4 (.q 5 (.q 6 (.q 7 (.q 8 (.q 9 (.l 10 .e .nil))))))))))) [] rfl (by kernel_rfl) selZ ?_
   refine AR ?_
   refine AR ?_
   refine AW ?_
   refine AU ?_
   refine AP ?_
   refine AP ?_
   refine GM ?_
   refine AP ?_
   refine BV ?_
   refine AP ?_
   refine CM (DF rfl (open_spec _ _ (SlE.one hls) rfl) rfl rfl rdZ rfl rfl ?_)
   rintro _ _ ⟨bl, bg, rfl, rfl⟩
   simp only [List.cons_append, List.nil_append]
   refine A6 ?_
   refine AS (ρ := sng bl _) takeZ ?_
   refine AS (ρ := sng bg _) takeZ ?_
   refine AO ?_
   refine CX (gf := 101) (cap := [.pointer (some ⟨bl, 0, none⟩), .pointer (some ⟨bg, 0, none⟩)]) (ps := [65]) (X := (List Bool × List Nat) × (Value × PH)) rfl Tryz.func101 rfl rfl
    (open_iter γ gb bl bg lv (roomR b1 b2) (outsOf (rlinks l) v1) (rmR l F) _ hls (by have := (hGok.len v1).1; omega) hG.r (fun x hx => hrm x (by unfold outsOf at hx; exact (List.mem_filter.1 hx).1))) ?_
    (fun i x => RVInv n' s' (rE l F) x.1.1 v1 x.1.2 ((openL (rmR l F) (outsOf (rlinks l) v1)).take i) ∧ OwnO 3 1 x.2.1 (x.1.2.length + 1) (int v1 :: qInts x.1.2) x.2.2 ∧ x.1.2.length + unm x.1.1 + 1 ≤ n' ∧ 2 * unm x.1.1 + x.1.2.length ≤ 2 * unm B + q.length)
    (fun x => [sng bB (.cells #[.slice (some ⟨bm, 0, none⟩) n' n'] 118 (0, 0)), sng bm (.cells (bools x.1.1) 4 (0, 0)), sng bq2 (.cells #[x.2.1] 22 (0, 0)), x.2.2])
    (fun _ _ => False) ((B, q), (.slice (some ⟨b1', o1, none⟩) (q.length + 1) cap1, ρq)) rfl takesZ ⟨by simpa using hV0, hQ', by dsimp only; omega, by dsimp only; omega⟩ ?_ ?_ ?_
   ·intro σ hσ
    simp only [List.cons_append, List.nil_append, List.mem_cons, List.not_mem_nil, or_false] at hσ ⊢
    rcases hσ with h | h | h | h | h | h | h <;> simp [h]
   ·rintro lp r i ⟨⟨B1, q1⟩, ⟨qv2, ρ2⟩⟩ vs hvs ⟨hV, hQ2, hlq, hms⟩ hps has hbd hst hpe hfr
    dsimp only at hV hQ2 hlq hms ⊢
    obtain ⟨st, pe, fnn, tm, prm, asg, bdy, df⟩ := r
    simp only at hps has hbd hst hpe hfr
    subst hps has hbd hst hpe
    rw [List.getElem?_map] at hvs
    obtain ⟨x, hx, rfl⟩ := Option.map_eq_some_iff.1 hvs
    have hlt : i < (openL (rmR l F) (outsOf (rlinks l) v1)).length := (List.getElem?_eq_some_iff.1 hx).1
    have hxe : (openL (rmR l F) (outsOf (rlinks l) v1))[i] = x := (List.getElem?_eq_some_iff.1 hx).2
    have hxm : x ∈ openL (rmR l F) (outsOf (rlinks l) v1) := List.mem_of_getElem? hx
    have hxi : (x ∈ rlinks l ∧ x.f = v1) ∧ 0 < rmR l F x.k := by
     unfold openL outsOf at hxm
     obtain ⟨k1, k2⟩ := List.mem_filter.1 hxm
     obtain ⟨k3, k4⟩ := List.mem_filter.1 k1
     exact ⟨⟨k3, by simpa using k4⟩, by simpa using k2⟩
    have hxt := (hrl x hxi.1.1).2
    have htk : (openL (rmR l F) (outsOf (rlinks l) v1)).take (i + 1) = (openL (rmR l F) (outsOf (rlinks l) v1)).take i ++ [x] := by rw [take_snoc' hlt, hxe]
    have hBl1 : B1.length = n' := hV.len
    have hbx := bget_some (B := B1) (v := x.t) (by omega)
    refine yield_spec hfr rfl (by intro p hp; simp at hp; omega) putiZ (fun N' β' => ?_)
    unfold encL
    refine AA ?_
    refine A2 ?_; rintro _ _ ⟨b, rfl, rfl⟩
    refine A0 ?_; rintro _ _ ⟨rfl, rfl⟩
    refine AE ?_
    refine CN rfl rfl ?_
    refine CW takeZ rfl ?_
    cases hb : bget B1 x.t with
    | false =>
     rw [hb] at hbx
     have hp := hV.push (x := x) ⟨hxi.1.1, hxi.2⟩ hxt hxi.1.2
     have hu := unm_set (B := B1) (i := x.t) (by omega) hb
     refine AO ?_
     refine AD ?_
     refine AA ?_
     refine AF ?_
     refine AH ?_
     refine AF ?_
     refine BI ?_
     refine AF ?_
     refine A7 ?_
     refine AE ?_
     refine AN rfl ?_
     refine AD ?_
     refine AA ?_
     refine AF ?_
     refine AH ?_
     refine AF ?_
     refine BI ?_
     refine DA ?_; rintro _ _ ⟨rfl, rfl⟩
     refine AE ?_
     refine AA ?_
     refine AF ?_
     refine AH ?_
     refine AF ?_
     refine BB ?_; rintro _ _ ⟨b, rfl, rfl⟩
     refine BK (D8 (by_ := 8) (s := 1) (news := [int (x.t : Int)]) rfl rfl rfl rfl rfl rfl rfl hQ2 takeZ (cells_own memZ) rfl (by (repeat (first | exact (fun v hv => absurd hv List.not_mem_nil) | (refine List.forall_mem_cons.2 ⟨?_, ?_⟩; (focus (first | exact rfl | assumption))))); first | done | fail) (by simp only [maxLen]; omega) (by omega)) rfl rfl rfl ?_
     rintro q9 _ ⟨ρ3, hQ3, rfl⟩
     have hq9 : q9.oneCell' = true := by obtain ⟨_, _, _, _, _, rfl, _⟩ := hQ3; rfl
     have hQ4 : OwnO 3 1 q9 ((q1 ++ [x.t]).length + 1) (int v1 :: qInts (q1 ++ [x.t])) ρ3 := by
      have : int v1 :: qInts (q1 ++ [x.t]) = (int v1 :: qInts q1) ++ [int (x.t : Int)] := by simp [qInts]
      rw [this, List.length_append]
      exact hQ3
     refine BC ?_; rintro _ _ ⟨rfl, rfl⟩
     refine AE ?_
     refine A3 ?_
     refine BO takeZ rsubZ selZ ⟨((B1.set x.t true, q1 ++ [x.t]), (q9, ρ3)), .inl ⟨rfl, ⟨?_, hQ4, ?_, ?_⟩, rfl⟩⟩
     ·dsimp only
      rw [htk]
      exact hp
     ·dsimp only
      rw [List.length_append, List.length_singleton]; omega
     ·dsimp only
      rw [List.length_append, List.length_singleton]; omega
    | true =>
     rw [hb] at hbx
     refine AO ?_
     refine AD ?_
     refine AA ?_
     refine AF ?_
     refine AH ?_
     refine AF ?_
     refine BI ?_
     refine AF ?_
     refine A7 ?_
     refine AE ?_
     refine AM rfl ?_
     refine AL ?_
     refine A3 ?_
     refine BO takeZ rsubZ selZ ⟨((B1, q1), (qv2, ρ2)), .inl ⟨rfl, ⟨?_, hQ2, hlq, hms⟩, rfl⟩⟩
     simp only
     rw [htk]
     exact hV.seen hb
   ·rintro b2' ⟨⟨B1, q1⟩, ⟨qv2, ρ2⟩⟩ ⟨hV, hQ2, hlq, hms⟩
    dsimp only at hV hQ2 hlq hms ⊢
    simp only [List.cons_append, List.nil_append]
    refine DL (R' := sng b2 (.cells #[.slice (some ⟨bf, 0, none⟩) l.length l.length] 22 (0, 0)) :: sng b1 (.cells #[v] 34 (0, 0)) :: γ :: sng bf (.cells (ints F) 3 (0, 0)) :: β :: [ρ]) (by intro σ hσ; simp at hσ ⊢; rcases hσ with h | h | h | h | h | h <;> simp [h]) ?_
    refine CO (b := b2') takeZ (μ := μ) takeZ hM ?_
    intro μ2 hM2
    obtain ⟨b5, o5, cap5, rfl, _, hh1⟩ := hQ2.head
    refine A3 ?_
    refine A3 ?_
    refine AD ?_
    refine AD ?_
    refine AA ?_
    refine AF ?_
    refine AE ?_
    refine AA ?_
    refine BN ?_; rintro _ _ ⟨b, rfl, rfl⟩
    refine BC ?_; rintro _ _ ⟨rfl, rfl⟩
    refine AE ?_
    refine AA ?_
    refine AF ?_
    focus ((refine' CD _ rfl rfl rfl _; rotate_left; (apply D5 (i := 1); exact rfl; exact rfl; exact rfl; exact rfl; omega)))
    refine BC ?_; rintro _ _ ⟨rfl, rfl⟩
    refine AE ?_
    refine C5 (((B1, q1), ((_, ρ2), b)), (b2' :: ms, μ2)) rfl ⟨hV.done (fun x hx hxt => ?_), hh1, by dsimp only; omega, hM2⟩ (by dsimp only [List.length_cons]; omega) covZ selZ
    have hmem : x ∈ openL (rmR l F) (outsOf (rlinks l) v1) := by
     unfold openL outsOf
     rw [List.mem_filter, List.mem_filter]
     exact ⟨⟨hx.1, by simpa using hxt⟩, by simpa using hx.2⟩
    simpa [List.length_map] using hmem
   ·rintro _ _ _ h; exact h.elim
end Go.Proofs.YthdoegkjifgegaaGreat
/- Maximum flows of time-expanded networks: least cuts, and less of what is there. No program in sight. No conditions. -/
namespace Go.Step
open Go.Flow (Flw fval okArc okArc_iff okEnds_iff capOf MaxOK maxErr RunR run_cut exists_reach)
section
variable {qs : List Int} {cs : List Ct} {bs : List Bk} {hs : List Hd} {d : Dm}
/-- Max's answer for the network of a demand -/
def MaxN (qs : List Int) (cs : List Ct) (bs : List Bk) (hs : List Hd) (d : Dm) (F : List Int) (m e : Int) : Prop := MaxOK (vsN qs d) (arcsG qs cs bs hs d) (vtx d d.s d.r) (vtx d d.d d.e) F m e
theorem max_err (h : VOk qs cs bs hs d) : maxErr (vsN qs d) (arcsG qs cs bs hs d) (vtx d d.s d.r) (vtx d d.d d.e) = 0 := by
  unfold maxErr
  rw [h.chk, h.ends]
  rfl
/-- a maximum flow, and a least cut -/
theorem max_cut (h : VOk qs cs bs hs d) {F : List Int} {m e : Int} (hm : MaxN qs cs bs hs d F m e) : e = 0 ∧ ∃ N S T : Nat, vsN qs d = N ∧ vtx d d.s d.r = S ∧ vtx d d.d d.e = T ∧ Flw N (arcsG qs cs bs hs d) S T F ∧ m = fval S (arcsG qs cs bs hs d) F ∧
    ∃ P : Int → Int → Bool, P d.s d.r = true ∧ P d.d d.e = false ∧ m = capB qs cs bs hs d P := by
  have hends := okEnds_iff.1 h.ends
  obtain ⟨N, hN⟩ : ∃ N : Nat, vsN qs d = N := ⟨(vsN qs d).toNat, by omega⟩
  obtain ⟨S, hS⟩ : ∃ N : Nat, vtx d d.s d.r = N := ⟨(vtx d d.s d.r).toNat, by omega⟩
  obtain ⟨T, hT⟩ : ∃ N : Nat, vtx d d.d d.e = N := ⟨(vtx d d.d d.e).toNat, by omega⟩
  have hok := h.ok
  unfold MaxN at hm
  have he := max_err h
  rw [hN] at hok
  rw [hN, hS, hT] at hm hends he
  rcases hm with ⟨a1, _⟩ | ⟨_, a2, a3, a4⟩
  · exact absurd he a1
  simp only [Int.toNat_natCast] at a3
  obtain ⟨B, hB⟩ := exists_reach N (Go.Flow.rE (arcsG qs cs bs hs d) F) S
  obtain ⟨f1, f2, f3, f4⟩ := run_cut hok (by omega) (by omega) (by omega) a3 hB
  refine ⟨a2, N, S, T, hN, hS, hT, f1, a4, fun n t => B (vtx d n t).toNat, by show B (vtx d d.s d.r).toNat = true; rw [hS]; exact f2, by show B (vtx d d.d d.e).toNat = false; rw [hT]; exact f3, ?_⟩
  rw [a4, f4, capB_eq h]
/-- no flow is greater than a cut -/
theorem flow_le_cap (h : VOk qs cs bs hs d) {fl : List Int} {N S T : Nat} (hN : vsN qs d = N) (hS : vtx d d.s d.r = S) (hT : vtx d d.d d.e = T) (hf : Flw N (arcsG qs cs bs hs d) S T fl) {P : Int → Int → Bool} (h1 : P d.s d.r = true) (h2 : P d.d d.e = false) : fval S (arcsG qs cs bs hs d) fl ≤ capB qs cs bs hs d P := by
  have hdm := h.dm
  unfold okDm at hdm
  have hok := h.ok
  have hends := okEnds_iff.1 h.ends
  rw [hN] at hok
  have b1 : bq d P S = true := by
    have := bq_vtx (d := d) (P := P) (n := d.s) (t := d.r) hdm.1.1 (by omega) (by omega)
    rw [hS, Int.toNat_natCast] at this
    rw [this]; exact h1
  have b2 : bq d P T = false := by
    have := bq_vtx (d := d) (P := P) (n := d.d) (t := d.e) hdm.2.1.1 (by omega) (by omega)
    rw [hT, Int.toNat_natCast] at this
    rw [this]; exact h2
  have := hf.le_cap hok (by omega) b1 b2
  rw [capB_eq h] at this
  rwa [capB_congr h (C := P) (fun n t g0 g1 g2 g3 => bq_vtx g0 g2 g3)] at this
end
end Go.Step
/- The chapter's example: its network, its maximum flows, their shipments, a cut. No program in sight. No conditions. -/
namespace Go.Step
open Go.Flow (Flw fval okArc capOf MaxOK inCap)
def eQ : List Int := [0, 1, 0]
def eC : List Ct := [⟨0, 1, 0, 2, 3, 1, 0⟩, ⟨1, 2, 3, 5, 3, 1, 0⟩]
def eD : Dm := ⟨0, 2, 4, 0, 6⟩
def eF : List Int := [3, 0, 0, 0, 0, 0, 0, 0, 1, 1, 0, 0, 0, 0, 0, 0, 0, 3, 1, 3, 3, 1]
abbrev eK : Int := 1099511627776
def eA : List EA := [⟨⟨0, 1, eK⟩, -1, 0⟩, ⟨⟨1, 2, eK⟩, -1, 1⟩, ⟨⟨2, 3, eK⟩, -1, 2⟩, ⟨⟨3, 4, eK⟩, -1, 3⟩, ⟨⟨4, 5, eK⟩, -1, 4⟩, ⟨⟨5, 6, eK⟩, -1, 5⟩,
  ⟨⟨7, 8, 1⟩, -1, 0⟩, ⟨⟨8, 9, 1⟩, -1, 1⟩, ⟨⟨9, 10, 1⟩, -1, 2⟩, ⟨⟨10, 11, 1⟩, -1, 3⟩, ⟨⟨11, 12, 1⟩, -1, 4⟩, ⟨⟨12, 13, 1⟩, -1, 5⟩,
  ⟨⟨14, 15, eK⟩, -1, 0⟩, ⟨⟨15, 16, eK⟩, -1, 1⟩, ⟨⟨16, 17, eK⟩, -1, 2⟩, ⟨⟨17, 18, eK⟩, -1, 3⟩, ⟨⟨18, 19, eK⟩, -1, 4⟩, ⟨⟨19, 20, eK⟩, -1, 5⟩,
  ⟨⟨0, 9, 3⟩, 0, 0⟩, ⟨⟨1, 10, 3⟩, 0, 1⟩, ⟨⟨10, 19, 3⟩, 1, 3⟩, ⟨⟨11, 20, 3⟩, 1, 4⟩]
theorem eValid : validT eQ eC [] [] eD = true := by decide +kernel
theorem eArcs : arcsE eQ eC [] [] eD = eA := by decide +kernel
theorem eVs : vsN eQ eD = 21 := by decide +kernel
theorem eS : vtx eD eD.s eD.r = 0 := by decide +kernel
theorem eT : vtx eD eD.d eD.e = 20 := by decide +kernel
theorem eG : arcsG eQ eC [] [] eD = eA.map (fun x => x.a) := by unfold arcsG; rw [eArcs]
theorem eFlow : Flw 21 (arcsG eQ eC [] [] eD) 0 20 eF := by
  rw [eG]
  exact ⟨by decide +kernel, by decide +kernel, by decide +kernel⟩
def eP (n t : Int) : Bool := decide (n = 0 ∨ (n = 1 ∧ t = 2))
theorem eCap : capB eQ eC [] [] eD eP = 4 := by
  decide +kernel
theorem eMax (hok : VOk eQ eC [] [] eD) {F : List Int} {m e : Int} (hm : MaxN eQ eC [] [] eD F m e) : e = 0 ∧ m = 4 ∧ Flw 21 (arcsG eQ eC [] [] eD) 0 20 F ∧ fval 0 (arcsG eQ eC [] [] eD) F = 4 := by
  obtain ⟨h0, N, S, T, hN, hS, hT, hf, hv, P, p1, p2, hc⟩ := max_cut hok hm
  rw [eVs] at hN
  rw [eS] at hS
  rw [eT] at hT
  obtain rfl : N = 21 := by omega
  obtain rfl : S = 0 := by omega
  obtain rfl : T = 20 := by omega
  have a : fval 0 (arcsG eQ eC [] [] eD) F ≤ capB eQ eC [] [] eD eP := flow_le_cap hok eVs eS eT hf (P := eP) (by decide) (by decide)
  have b : fval 0 (arcsG eQ eC [] [] eD) eF ≤ capB eQ eC [] [] eD P := flow_le_cap hok eVs eS eT eFlow p1 p2
  have c : fval 0 (arcsG eQ eC [] [] eD) eF = 4 := by rw [eG]; decide +kernel
  have hv' : m = fval 0 (arcsG eQ eC [] [] eD) F := hv
  rw [eCap] at a
  exact ⟨h0, by omega, hf, by omega⟩
theorem eValue {F : List Int} (hok : VOk eQ eC [] [] eD) (hf : Flw 21 (arcsG eQ eC [] [] eD) 0 20 F) : shipsE eQ eC [] [] eD F = 0 := by
  unfold shipsE
  rw [if_pos eValid, eVs, eS, eT]
  have h1 := hok.chk
  have h2 := hok.ends
  rw [eVs] at h1 h2
  rw [eS, eT] at h2
  unfold Go.Flow.valueSpec
  rw [if_neg (fun h => h h1), if_neg (by rw [h2]; simp), if_neg (fun h => h hf.len.symm), if_neg (by rw [hf.cap]; simp), if_neg]
  have hb : Go.Flow.balanced (21 : Int).toNat (arcsG eQ eC [] [] eD) F 0 20 = true := by
    unfold Go.Flow.balanced
    rw [List.all_eq_true]
    intro v hv
    rw [decide_eq_true_eq]
    have hv' : v < 21 := by simpa using hv
    by_cases c1 : v = 0
    · exact .inl (by omega)
    · by_cases c2 : v = 20
      · exact .inr (.inl (by omega))
      · exact .inr (.inr (hf.bal v hv' c1 c2))
  rw [hb]
  simp
set_option maxHeartbeats 8000000 in
theorem eShips {F : List Int} (hf : Flw 21 (arcsG eQ eC [] [] eD) 0 20 F) (hv : fval 0 (arcsG eQ eC [] [] eD) F = 4) : (shipsF eA F).length = 4 := by
  rw [eG] at hf hv
  have hl := hf.len
  have hc := hf.cap
  have e0 := hf.bal 1 (by omega) (by omega) (by omega)
  have e7 := hf.bal 7 (by omega) (by omega) (by omega)
  have e8 := hf.bal 8 (by omega) (by omega) (by omega)
  have e9 := hf.bal 9 (by omega) (by omega) (by omega)
  have e10 := hf.bal 10 (by omega) (by omega) (by omega)
  have e11 := hf.bal 11 (by omega) (by omega) (by omega)
  have e12 := hf.bal 12 (by omega) (by omega) (by omega)
  have e13 := hf.bal 13 (by omega) (by omega) (by omega)
  have e2 := hf.bal 2 (by omega) (by omega) (by omega)
  have e3 := hf.bal 3 (by omega) (by omega) (by omega)
  have e4 := hf.bal 4 (by omega) (by omega) (by omega)
  have e5 := hf.bal 5 (by omega) (by omega) (by omega)
  have e6 := hf.bal 6 (by omega) (by omega) (by omega)
  clear hf
  match F, hl with
  | [a0, a1, a2, a3, a4, a5, a6, a7, a8, a9, a10, a11, a12, a13, a14, a15, a16, a17, a18, a19, a20, a21], _ =>
    simp [eA, fval] at hv e0 e7 e8 e9 e10 e11 e12 e13 e2 e3 e4 e5 e6
    simp [eA, inCap] at hc
    simp only [eA, shipsF]
    rw [if_pos (show (0 : Int) ≤ 0 ∧ 0 < a18 by omega), if_pos (show (0 : Int) ≤ 0 ∧ 0 < a19 by omega), if_pos (show (0 : Int) ≤ 1 ∧ 0 < a20 by omega), if_pos (show (0 : Int) ≤ 1 ∧ 0 < a21 by omega)]
    simp
theorem eSides0 : sidesE eQ eC [] [] eD [0, 7, 8] = 0 := by decide +kernel
theorem eSides : sidesC eD 3 [0, 7, 8] = [[(0, 1)], [(0, 2)], []] := by decide +kernel
end Go.Step
/- The example is awake. -/
namespace Go.Proofs.YthdoegkjifgegaaGreat
open Go.Eng Go.Step
set_option maxRecDepth 100000
set_option maxHeartbeats 4000000

theorem example53_spec : Eng.Spec Tryz.prog (fv 38) [] [] [] (fun r H' => ∃ bq bc, r = .tuple #[.agg #[.slice (some ⟨bq, 0, none⟩) 3 3, .slice (some ⟨bc, 0, none⟩) 2 2, .slice none 0 0, .slice none 0 0], .agg #[int 0, int 2, int 4, int 0, int 6]] ∧ H' = [sng bq (.cells #[int 0, int 1, int 0] 3 (0, 0)), sng bc (.cells #[int 0, int 1, int 0, int 2, int 3, int 1, int 0, int 1, int 2, int 3, int 5, int 3, int 1, int 0] 70 (0, 0))]) := by
 refine spec_in (cap := []) Tryz.func38 rfl rfl Tryz.ntmps38 rfl envZ (fun N β => ?_)
 refine AD ?_
 refine AA ?_
 refine A2 ?_; rintro _ _ ⟨b, rfl, rfl⟩
 refine A2 ?_; rintro _ _ ⟨b, rfl, rfl⟩
 refine AE ?_
 refine AD ?_
 refine AA ?_
 refine BB ?_; rintro _ _ ⟨b, rfl, rfl⟩
 refine B4 ?_
 refine B4 ?_
 focus ((refine' BK _ rfl rfl rfl _; rotate_left; (focus (apply CS; exact rfl; exact rfl; exact rfl; exact rfl; exact rfl; exact (by (repeat (first | exact (fun v hv => absurd hv List.not_mem_nil) | (refine List.forall_mem_cons.2 ⟨?_, ?_⟩; (focus (first | exact rfl | assumption))))); first | done | fail); exact Flat.agg7 (Flat.agg7 Flat.nil); exact rfl)); rintro _ _ ⟨b, rfl, rfl⟩))
 refine B4 ?_
 refine A2 ?_; rintro _ _ ⟨b, rfl, rfl⟩
 refine A0 ?_; rintro _ _ ⟨rfl, rfl⟩
 refine AE ?_
 refine AD ?_
 refine AA ?_
 refine AT ?_
 revert b; intro bp
 revert b; intro bc
 revert b; intro bq
 revert b; intro bd
 revert b; intro bt
 refine CD (DN (out := [.slice (some ⟨bq, 0, none⟩) 3 3, .slice (some ⟨bc, 0, none⟩) 2 2, .slice none 0 0, .slice none 0 0]) rfl rfl rfl rfl rfl) rfl rfl rfl ?_
 refine B4 ?_
 refine A0 ?_; rintro _ _ ⟨rfl, rfl⟩
 refine A0 ?_; rintro _ _ ⟨rfl, rfl⟩
 refine AE ?_
 exact AI (resS2 (b1 := bt) (b2 := bd) (T := 29) (U := 31) (v1 := [.slice (some ⟨bq, 0, none⟩) 3 3, .slice (some ⟨bc, 0, none⟩) 2 2, .slice none 0 0, .slice none 0 0]) (v2 := [int 0, int 2, int 4, int 0, int 6]) rfl rfl rfl rfl rfl rfl rfl (cells_own memZ) (cells_own memZ)) rsubZ selZ ⟨bq, bc, rfl, rfl⟩
set_option maxHeartbeats 32000000 in
theorem awake53_spec : Ans Tryz.prog (fv 9) [] [] (fun r => r = .bool true) := by
 have hlen : (arcsG eQ eC [] [] eD).length = 22 := by rw [eG]; rfl
 have hok := vok eValid
 refine spec_in (cap := []) Tryz.func9 rfl rfl Tryz.ntmps9 rfl envZ (fun N β => ?_)
 refine BZ ?_
 refine AD ?_
 refine AA ?_
 refine AC ?_
 refine AE ?_
 refine AD ?_
 refine AA ?_
 refine BF example53_spec rfl rfl Takes.nil rdZ rfl rfl ?_
 rintro _ _ ⟨bq, bc, rfl, rfl⟩
 refine AS (ρ := sng bq (.cells #[int 0, int 1, int 0] 3 (0, 0))) takeZ ?_
 refine AS (ρ := sng bc (.cells #[int 0, int 1, int 0, int 2, int 3, int 1, int 0, int 1, int 2, int 3, int 5, int 3, int 1, int 0] 70 (0, 0))) takeZ ?_
 refine AS (ρ := emp) takeZ ?_
 refine AB ?_
 refine AQ ?_
 refine AQ ?_
 refine A2 ?_; rintro _ _ ⟨b, rfl, rfl⟩
 refine A2 ?_; rintro _ _ ⟨b, rfl, rfl⟩
 refine A0 ?_; rintro _ _ ⟨rfl, rfl⟩
 refine A0 ?_; rintro _ _ ⟨rfl, rfl⟩
 refine AE ?_
 refine AD ?_
 refine AA ?_
 refine AT ?_
 refine AT ?_
 revert b; intro bd
 revert b; intro bt
 refine AS (ρ := sng bd _) takeZ ?_
 refine AS (ρ := sng bt _) takeZ ?_
 have ct : RdN (sng bt (.cells #[.slice (some ⟨bq, 0, none⟩) 3 3, .slice (some ⟨bc, 0, none⟩) 2 2, .slice none 0 0, .slice none 0 0] 29 (0, 0))) bt 0 [.slice (some ⟨bq, 0, none⟩) 3 3, .slice (some ⟨bc, 0, none⟩) 2 2, .slice none 0 0, .slice none 0 0] := rdN_sng (vs := [.slice (some ⟨bq, 0, none⟩) 3 3, .slice (some ⟨bc, 0, none⟩) 2 2, .slice none 0 0, .slice none 0 0])
 have cd : RdN (sng bd (.cells #[int 0, int 2, int 4, int 0, int 6] 31 (0, 0))) bd 0 [int 0, int 2, int 4, int 0, int 6] := rdN_sng (vs := [int 0, int 2, int 4, int 0, int 6])
 have hT : TbAt (sng bq (.cells #[int 0, int 1, int 0] 3 (0, 0))) (sng bc (.cells #[int 0, int 1, int 0, int 2, int 3, int 1, int 0, int 1, int 2, int 3, int 5, int 3, int 1, int 0] 70 (0, 0))) emp emp (some ⟨bq, 0, none⟩) (some ⟨bc, 0, none⟩) none none 3 2 0 0 eQ eC [] [] :=
  ⟨slE_sng (l := eQ) Eng.encI_len, slE_sng (l := eC) encC_len, by decide, by decide, by decide, ⟨rfl, .inl ⟨rfl, none, 0, rfl⟩⟩, by decide, ⟨rfl, .inl ⟨rfl, none, 0, rfl⟩⟩, by decide⟩
 have hG := Graph_spec hT eD
 rw [eVs, eS, eT] at hG
 skip
 refine BW hG rfl rfl rdZ rfl rfl ?_
 rintro _ σg hg
 rw [if_pos eValid] at hg
 obtain ⟨u, rfl, hOg⟩ := hg
 rw [hlen] at hOg
 have hAt : ArcsAt σg u (arcsG eQ eC [] [] eD) := by
  have := hOg.at
  rw [← hlen] at this
  exact this
 obtain ⟨pg, kg, rfl⟩ := hOg.form
 refine AS (ρ := σg) takeZ ?_
 refine AB ?_
 refine AQ ?_
 refine AQ ?_
 refine A2 ?_; rintro _ _ ⟨b, rfl, rfl⟩
 refine A0 ?_; rintro _ _ ⟨rfl, rfl⟩
 refine AC ?_
 refine AE ?_
 refine AD ?_
 refine AA ?_
 refine AH ?_
 refine AF ?_
 refine AH ?_
 refine AF ?_
 refine AH ?_
 refine AF ?_
 refine AH ?_
 refine AF ?_
 revert b; intro bg
 refine AS (ρ := sng bg _) takeZ ?_
 have gg0 : rdc (sng bg (.cells #[int 21, .slice pg 22 kg, int 0, int 20] 36 (0, 0))) bg 0 = some (int 21) := by rw [rdc_sng]; rfl
 have gg1 : rdc (sng bg (.cells #[int 21, .slice pg 22 kg, int 0, int 20] 36 (0, 0))) bg 1 = some (.slice pg 22 kg) := by rw [rdc_sng]; rfl
 have gg2 : rdc (sng bg (.cells #[int 21, .slice pg 22 kg, int 0, int 20] 36 (0, 0))) bg 2 = some (int 0) := by rw [rdc_sng]; rfl
 have gg3 : rdc (sng bg (.cells #[int 21, .slice pg 22 kg, int 0, int 20] 36 (0, 0))) bg 3 = some (int 20) := by rw [rdc_sng]; rfl
 skip
 have hM := flowMax_spec σg (.slice pg 22 kg) 21 0 20 (arcsG eQ eC [] [] eD) hAt (by omega)
 refine BW hM rfl rfl rdZ rfl rfl ?_
 rintro _ σf ⟨fs, F, m, e, rfl, hF, hm⟩
 obtain ⟨he, hm4, hfl, hfv⟩ := eMax hok (show MaxN eQ eC [] [] eD F m e by unfold MaxN; rw [eVs, eS, eT]; exact hm)
 subst he hm4
 obtain ⟨pf, kf, rfl, _⟩ := hF.val Eng.encI_len
 refine AS (ρ := σf) takeZ ?_
 have hsE := eValue hok hfl
 have hsR : shipsR eQ eC [] [] eD F = shipsF eA F := by unfold shipsR; rw [if_pos hsE, eArcs]
 have hsl := eShips hfl hfv
 have hS := Shipments_spec hT eD σf _ F hF
 rw [hsE, hsR] at hS
 refine AB ?_
 refine AQ ?_
 refine AQ ?_
 refine AQ ?_
 refine AC ?_
 refine AC ?_
 refine AC ?_
 refine AE ?_
 refine AD ?_
 refine AA ?_
 refine AT ?_
 refine AT ?_
 refine AB ?_
 refine BW hS rfl rfl rdZ rfl rfl ?_
 rintro _ σs ⟨us, rfl, hOs⟩
 rw [hsl] at hOs
 obtain ⟨ps, ks, rfl⟩ := hOs.form
 clear hOs
 have hV := Vertex_spec hT eD 1 3
 rw [show vertexR eQ eC [] [] eD 1 3 = (10, 0) by unfold vertexR; rw [if_pos eValid]; decide] at hV
 dsimp only at hV
 refine AB ?_
 refine AQ ?_
 refine AQ ?_
 refine AC ?_
 refine AC ?_
 refine AE ?_
 refine AD ?_
 refine AA ?_
 refine AT ?_
 refine AT ?_
 refine A4 hV rfl rfl rdZ rfl rfl ?_
 rintro _ rfl
 have hP := Place_spec hT eD 10
 rw [show placeR eQ eC [] [] eD 10 = (1, 3, 0) by unfold placeR; rw [if_pos eValid]; decide] at hP
 dsimp only at hP
 refine AB ?_
 refine AQ ?_
 refine AQ ?_
 refine AC ?_
 refine AC ?_
 refine AE ?_
 refine AD ?_
 refine AA ?_
 refine AT ?_
 refine AT ?_
 refine AB ?_
 refine A4 hP rfl rfl rdZ rfl rfl ?_
 rintro _ rfl
 refine AB ?_
 refine AQ ?_
 refine AQ ?_
 refine AQ ?_
 refine AC ?_
 refine AC ?_
 refine AC ?_
 refine AE ?_
 refine AD ?_
 refine AA ?_
 refine AT ?_
 refine AT ?_
 refine BB ?_; rintro _ _ ⟨b, rfl, rfl⟩
 revert b; intro bz
 have hD := Sides_spec hT eD (sng bz (.cells #[int 0, int 7, int 8] 3 (0, 0))) (.slice (some ⟨bz, 0, none⟩) 3 3) [0, 7, 8] (slE_sng (l := [(0 : Int), 7, 8]) Eng.encI_len) (by decide)
 rw [eSides0, if_pos rfl, show eQ.length = 3 from rfl, eSides] at hD
 refine BF hD rfl rfl Takes.nil rdZ rfl rfl ?_
 rintro _ _ ⟨L, w, σ1, χ1, rfl, rfl, hL, hCL⟩
 have hLl : L.length = 3 := by
  have := congrArg List.length hL
  rwa [List.length_map] at this
 obtain ⟨q, k, rfl, _⟩ := hCL.1.val encQ_len
 refine AS (ρ := σ1) takeZ ?_
 refine AS (ρ := χ1) takeZ ?_
 refine AB ?_
 refine AQ ?_
 refine AQ ?_
 refine AC ?_
 refine AC ?_
 refine AE ?_
 refine AD ?_
 refine AA ?_
 refine AB ?_
 refine B8 ?_
 refine AB ?_
 refine AB ?_
 refine B8 ?_
 refine AK ?_
 refine AB ?_
 refine AB ?_
 refine B8 ?_
 refine AK ?_
 refine AB ?_
 refine AB ?_
 refine B8 ?_
 refine AK ?_
 refine AB ?_
 refine AB ?_
 refine B8 ?_
 refine AK ?_
 refine AB ?_
 refine AB ?_
 refine B8 ?_
 refine AK ?_
 refine AC ?_
 refine AE ?_
 refine AD ?_
 refine AA ?_
 refine AB ?_
 refine AB ?_
 refine AH ?_
 refine AF ?_
 refine B8 ?_
 refine AK ?_
 refine AB ?_
 refine AH ?_
 refine AF ?_
 refine AX ?_
 refine B8 ?_
 refine AK ?_
 refine AB ?_
 refine AH ?_
 refine AF ?_
 refine B8 ?_
 refine AK ?_
 refine AB ?_
 refine AH ?_
 refine AF ?_
 refine B8 ?_
 refine AK ?_
 refine AB ?_
 refine AB ?_
 refine B8 ?_
 refine AK ?_
 refine AB ?_
 refine AB ?_
 refine B8 ?_
 refine AK ?_
 refine AB ?_
 refine AB ?_
 refine B8 ?_
 refine AK ?_
 refine AB ?_
 refine AB ?_
 refine B8 ?_
 refine AK ?_
 refine AB ?_
 refine AB ?_
 refine AX ?_
 refine B8 ?_
 refine AK ?_
 refine AC ?_
 refine AE ?_
 refine AD ?_
 refine AA ?_
 refine AB ?_
 refine AB ?_
 refine AB ?_
 refine B4 ?_
 refine BB ?_; rintro _ _ ⟨b, rfl, rfl⟩
 refine B4 ?_
 refine BB ?_; rintro _ _ ⟨b, rfl, rfl⟩
 refine BB ?_; rintro _ _ ⟨b, rfl, rfl⟩
 refine BB ?_; rintro _ _ ⟨b, rfl, rfl⟩
 revert b; intro bk
 revert b; intro be
 revert b; intro bx2
 revert b; intro bx1
 refine D0 (ρ := sng bx1 (.cells #[int 0, int 1] 61 (0, 0))) (σ := sng bx2 (.cells #[int 0, int 2] 61 (0, 0))) takeZ takeZ (fun κ s1 s2 => ?_)
 have hx1 : SpAt κ (.slice (some ⟨bx1, 0, none⟩) 1 1) [(0, 1)] := SlE.mono (slE_sng (l := [((0 : Int), (1 : Int))]) encS_len) s1
 have hx2 : SpAt κ (.slice (some ⟨bx2, 0, none⟩) 1 1) [(0, 2)] := SlE.mono (slE_sng (l := [((0 : Int), (2 : Int))]) encS_len) s2
 have hC2 : CutL (sng bk (.cells #[.slice (some ⟨bx1, 0, none⟩) 1 1, .slice (some ⟨bx2, 0, none⟩) 1 1, .slice (some ⟨be, 0, none⟩) 0 0] 59 (0, 0))) κ (.slice (some ⟨bk, 0, none⟩) 3 3) [((some ⟨bx1, 0, none⟩, 1), [(0, 1)]), ((some ⟨bx2, 0, none⟩, 1), [(0, 2)]), ((some ⟨be, 0, none⟩, 0), [])] := by
  refine ⟨slE_sng (l := [((some ⟨bx1, 0, none⟩, 1), [(0, 1)]), ((some ⟨bx2, 0, none⟩, 1), [(0, 2)]), ((some ⟨be, 0, none⟩, 0), [])]) encQ_len, fun z hz => ?_⟩
  simp only [List.mem_cons, List.not_mem_nil, or_false] at hz
  rcases hz with rfl | rfl | rfl
  ·exact ⟨hx1, by simp⟩
  ·exact ⟨hx2, by simp⟩
  ·exact ⟨⟨rfl, .inl ⟨rfl, _, _, rfl⟩⟩, by simp⟩
 have hsc := exSameCut_spec σ1 χ1 _ κ q (some ⟨bk, 0, none⟩) k 3 L _ hCL hC2 hL (by omega)
 refine A4 hsc rfl rfl rdZ rfl rfl ?_
 rintro _ rfl
 refine AK ?_
 refine AC ?_
 refine AE ?_
 exact AI (res1 rfl rfl) rsubZ selZ ⟨rfl, rfl⟩
end Go.Proofs.YthdoegkjifgegaaGreat
/- Joins and meets of cuts. -/
namespace Go.Proofs.YthdoegkjifgegaaGreat
open Go.Eng Go.Step
set_option maxRecDepth 100000
set_option maxHeartbeats 4000000

end Go.Proofs.YthdoegkjifgegaaGreat
/- Sets of the document: one more span, union. -/
namespace Go.Proofs.YthdoegkjifgegaaGreat
open Go.Eng Go.Step
set_option maxRecDepth 100000
set_option maxHeartbeats 4000000

end Go.Proofs.YthdoegkjifgegaaGreat
/- Sets of the document: intersection, equality. -/
namespace Go.Proofs.YthdoegkjifgegaaGreat
open Go.Eng Go.Step
set_option maxRecDepth 100000
set_option maxHeartbeats 4000000

end Go.Proofs.YthdoegkjifgegaaGreat
/- Joins and meets of the document. -/
namespace Go.Proofs.YthdoegkjifgegaaGreat
open Go.Eng Go.Step
set_option maxRecDepth 100000
set_option maxHeartbeats 4000000

end Go.Proofs.YthdoegkjifgegaaGreat
/- The arcs of the network, as the document lists them. No program in sight. No conditions. -/
namespace Go.Step
section
variable {qs : List Int} {cs : List Ct} {bs : List Bk} {hs : List Hd} {d : Dm}
end
end Go.Step
/- The document's arcs. -/
namespace Go.Proofs.YthdoegkjifgegaaGreat
open Go.Eng Go.Step
set_option maxRecDepth 100000
set_option maxHeartbeats 4000000

end Go.Proofs.YthdoegkjifgegaaGreat
/- The document's network, its vertices and shipments. -/
namespace Go.Proofs.YthdoegkjifgegaaGreat
open Go.Eng Go.Step
set_option maxRecDepth 100000
set_option maxHeartbeats 4000000

theorem RdN.pre {ρ : PH} {b o : Nat} {xs ys : List Value} (h : RdN ρ b o (xs ++ ys)) : RdP ρ b o xs := ⟨fun j v hv => h j v (by
 have hl := (List.getElem?_eq_some_iff.1 hv).1
 rw [List.getElem?_append_left hl]
 exact hv)⟩
theorem rowN {α : Type} {enc : α → List Value} {s : Nat} (he : ∀ x, (enc x).length = s) {ρ : PH} {p : Option Addr} {k : Nat} {l : List α} (h : SlE enc s ρ (.slice p l.length k) l) : RowsE enc s ρ p l := by
 obtain ⟨_, _, e, hr⟩ := h.val he
 simp only [Value.slice.injEq] at e
 obtain ⟨rfl, _, _⟩ := e
 exact hr
end Go.Proofs.YthdoegkjifgegaaGreat
/- Distances found level by level, over all links again and again; the first link that leads nearer; what is reached by n rounds. No program in sight. No conditions. -/
namespace Go.Flow
/-- in the round d: the links of pre were looked at -/
structure LInv (n t : Nat) (E : Lk → Prop) (D : List Int) (d : Nat) (pre : List Lk) : Prop where
  len : D.length = n
  low : ∀ v, v < n → -1 ≤ D.getD v 0
  hi : ∀ v, v < n → D.getD v 0 ≤ (d : Int) + 1
  at0 : D.getD t 0 = 0
  zero : ∀ v, v < n → D.getD v 0 = 0 → v = t
  step : ∀ v, v < n → 0 < D.getD v 0 → ∃ x, E x ∧ x.f = v ∧ D.getD x.t 0 = D.getD v 0 - 1
  old : ∀ x, E x → 0 ≤ D.getD x.t 0 → D.getD x.t 0 < (d : Int) → 0 ≤ D.getD x.f 0 ∧ D.getD x.f 0 ≤ D.getD x.t 0 + 1
  pre0 : ∀ x ∈ pre, E x → D.getD x.t 0 = (d : Int) → 0 ≤ D.getD x.f 0
section
variable {n t : Nat} {E : Lk → Prop} {D : List Int} {d : Nat}
theorem LInv.start (ht : t < n) : LInv n t E ((List.replicate n (-1)).set t 0) 0 [] ∧ ∀ v, v < n → ((List.replicate n (-1 : Int)).set t 0).getD v 0 ≤ ((0 : Nat) : Int) := by
  have hg : ∀ v, v < n → ((List.replicate n (-1 : Int)).set t 0).getD v 0 = if t = v then 0 else -1 := fun v hv => by
    rw [getD_set (by simpa using ht)]
    split
    · rfl
    · exact getD_rep hv _
  have hlt : ∀ v, v < n → ((List.replicate n (-1 : Int)).set t 0).getD v 0 ≤ 0 := fun v hv => by rw [hg v hv]; split <;> omega
  refine ⟨⟨by simp, fun v hv => by rw [hg v hv]; split <;> omega, fun v hv => by have := hlt v hv; omega, by rw [hg t ht]; simp, fun v hv h => ?_, fun v hv h => by have := hlt v hv; omega, fun x _ h1 h2 => by omega, by simp⟩, hlt⟩
  rw [hg v hv] at h
  split at h
  · rename_i e; exact e.symm
  · omega
/-- a link that tells nothing new -/
theorem LInv.skip {pre : List Lk} {x : Lk} (h : LInv n t E D d pre) (hx : E x → D.getD x.t 0 = (d : Int) → 0 ≤ D.getD x.f 0) : LInv n t E D d (pre ++ [x]) :=
  ⟨h.len, h.low, h.hi, h.at0, h.zero, h.step, h.old, fun y hy => by
    rcases List.mem_append.1 hy with hy | hy
    · exact h.pre0 y hy
    · rw [List.mem_singleton.1 hy]; exact hx⟩
theorem LInv.mark {pre : List Lk} {x : Lk} (h : LInv n t E D d pre) (hE : E x) (hxf : x.f < n) (hd : D.getD x.t 0 = (d : Int)) (hneg : D.getD x.f 0 = -1) : LInv n t E (D.set x.f ((d : Int) + 1)) d (pre ++ [x]) := by
  have hl : x.f < D.length := by rw [h.len]; exact hxf
  have hg : ∀ v, (D.set x.f ((d : Int) + 1)).getD v 0 = if x.f = v then (d : Int) + 1 else D.getD v 0 := fun v => getD_set hl
  have hne : x.f ≠ x.t := fun e => by rw [e] at hneg; omega
  have htf : x.f ≠ t := fun e => by rw [e, h.at0] at hneg; omega
  refine ⟨by simp [h.len], fun v hv => ?_, fun v hv => ?_, ?_, fun v hv h0 => ?_, fun v hv h0 => ?_, fun y hy h1 h2 => ?_, fun y hy hyE h1 => ?_⟩
  · rw [hg]; have := h.low v hv; split <;> omega
  · rw [hg]; have := h.hi v hv; split <;> omega
  · rw [hg, if_neg htf]; exact h.at0
  · rw [hg] at h0
    split at h0
    · omega
    · exact h.zero v hv h0
  · rw [hg] at h0 ⊢
    split at h0
    · rename_i e
      refine ⟨x, hE, e, ?_⟩
      rw [if_pos e, hg, if_neg hne, hd]; omega
    · rename_i e
      obtain ⟨y, hy, hyf, hyt⟩ := h.step v hv h0
      refine ⟨y, hy, hyf, ?_⟩
      rw [if_neg e, hg]
      split
      · rename_i e2; rw [← e2, hneg] at hyt; omega
      · exact hyt
  · rw [hg] at h1 h2 ⊢
    split at h1
    · rename_i e; rw [if_pos e] at h2; omega
    · rename_i e
      rw [if_neg e] at h2
      have := h.old y hy h1 h2
      rw [hg y.t, if_neg e]
      split
      · rename_i e2; rw [← e2, hneg] at this; omega
      · exact this
  · rw [hg] at h1 ⊢
    split
    · omega
    · rename_i e
      split at h1
      · omega
      · rcases List.mem_append.1 hy with hy | hy
        · exact h.pre0 y hy hyE h1
        · rw [List.mem_singleton.1 hy] at e; exact absurd rfl e
/-- the round's end -/
theorem LInv.next {ls : List Lk} {pre : List Lk} (hsub : ∀ x, E x → x ∈ ls) (hE : ∀ x, E x → x.f < n ∧ x.t < n) (hp : ∀ x ∈ ls, x ∈ pre) (h : LInv n t E D d pre) : LInv n t E D (d + 1) [] :=
  ⟨h.len, h.low, fun v hv => by have := h.hi v hv; omega, h.at0, h.zero, h.step, fun x hx h1 h2 => by
    by_cases e : D.getD x.t 0 = (d : Int)
    · have := h.pre0 x (hp x (hsub x hx)) hx e
      have := h.hi x.f (hE x hx).1
      omega
    · exact h.old x hx h1 (by omega), by simp⟩
theorem LInv.dist (hE : ∀ x, E x → x.f < n ∧ x.t < n) (h : LInv n t E D (d + 1) []) (hno : ∀ v, v < n → D.getD v 0 ≤ (d : Int)) : IsDist n t E D :=
  ⟨h.len, h.low, h.at0, h.zero, fun x hx h1 => h.old x hx h1 (by have := hno x.t (hE x hx).2; omega), h.step⟩
end
/-- the least room, as the reference finds it -/
def rmin (rm : Nat → Int) : List Lk → Int
  | [] => 0
  | x :: p => p.foldl (fun m y => if rm y.k < m then rm y.k else m) (rm x.k)
theorem rmin_snoc (rm : Nat → Int) (p : List Lk) (x : Lk) : rmin rm (p ++ [x]) = if p = [] ∨ rm x.k < rmin rm p then rm x.k else rmin rm p := by
  cases p with
  | nil => simp [rmin]
  | cons y p => simp [rmin]
theorem rmin_least (rm : Nat → Int) (p : List Lk) (hp : p ≠ []) (hb : ∀ x ∈ p, rm x.k ≤ 1099511627776) : rmin rm p = leastR rm p := by
  cases p with
  | nil => exact absurd rfl hp
  | cons x p =>
    simp only [rmin, leastR, List.foldl_cons]
    have h0 : min 1099511627776 (rm x.k) = rm x.k := by have := hb x (by simp); omega
    rw [h0]
    clear hb hp h0
    generalize rm x.k = m
    induction p generalizing m with
    | nil => rfl
    | cons y p ih =>
      simp only [List.foldl_cons]
      rw [show (if rm y.k < m then rm y.k else m) = min m (rm y.k) from by split <;> omega]
      exact ih _
/-- links by their places -/
def atPl (ls : List Lk) : Prop := ∀ (i : Nat) (x : Lk), ls[i]? = some x → x.k = i
theorem rlinks_at (l : List Arc) : atPl (rlinks l) := fun i x hx => by
  have hlt : i < (rlinks l).length := (List.getElem?_eq_some_iff.1 hx).1
  rw [rlinks_len] at hlt
  obtain ⟨y, hy, e⟩ := rlinks_get hlt
  rw [hx] at hy
  obtain rfl := Option.some.inj hy
  exact e
/-- after r rounds: all that can be reached by r links is marked -/
inductive RchN (E : Lk → Prop) (s : Nat) : Nat → Nat → Prop
  | refl {k : Nat} : RchN E s k s
  | step {k : Nat} {x : Lk} : RchN E s k x.f → E x → RchN E s (k + 1) x.t
theorem RchN.mono {E : Lk → Prop} {s k m v : Nat} (h : RchN E s k v) (hk : k ≤ m) : RchN E s m v := by
  induction h generalizing m with
  | refl => exact .refl
  | step _ hx ih =>
    obtain ⟨m', rfl⟩ : ∃ m', m = m' + 1 := ⟨m - 1, by omega⟩
    exact .step (ih (by omega)) hx
structure KInv (n s : Nat) (E : Lk → Prop) (B : List Bool) (r : Nat) (pre : List Lk) : Prop where
  len : B.length = n
  snd : ∀ v, v < n → bget B v = true → Rch E s v
  cmp : ∀ v, v < n → RchN E s r v → bget B v = true
  pre0 : ∀ x ∈ pre, E x → RchN E s r x.f → bget B x.t = true
section
variable {n s : Nat} {E : Lk → Prop} {B : List Bool} {r : Nat}
theorem KInv.start (hs : s < n) : KInv n s E ((List.replicate n false).set s true) 0 [] := by
  have hl : s < (List.replicate n false).length := by simpa using hs
  refine ⟨by simp, fun v _ h => ?_, fun v hv h => ?_, by simp⟩
  · rw [bget_set hl, bget_rep] at h
    split at h
    · rename_i e; rw [← e]; exact .refl
    · simp at h
  · cases h with
    | refl => rw [bget_set hl]; simp
theorem KInv.skip {pre : List Lk} {x : Lk} (h : KInv n s E B r pre) (hx : E x → bget B x.f = false) (hE : ∀ x, E x → x.f < n ∧ x.t < n) : KInv n s E B r (pre ++ [x]) :=
  ⟨h.len, h.snd, h.cmp, fun y hy hyE hr => by
    rcases List.mem_append.1 hy with hy | hy
    · exact h.pre0 y hy hyE hr
    · rw [List.mem_singleton.1 hy] at hyE hr ⊢
      have := h.cmp x.f (hE x hyE).1 hr
      rw [hx hyE] at this; simp at this⟩
theorem KInv.mark {pre : List Lk} {x : Lk} (h : KInv n s E B r pre) (hx : E x) (hxt : x.t < n) (hxf : x.f < n) (hb : bget B x.f = true) : KInv n s E (B.set x.t true) r (pre ++ [x]) := by
  have hl : x.t < B.length := by rw [h.len]; exact hxt
  have hg : ∀ u, bget B u = true → bget (B.set x.t true) u = true := fun u hu => by rw [bget_set hl]; split <;> simp [hu]
  refine ⟨by simp [h.len], fun v hv hv2 => ?_, fun v hv hr => hg v (h.cmp v hv hr), fun y hy hyE hr => ?_⟩
  · rw [bget_set hl] at hv2
    split at hv2
    · rename_i e; rw [← e]; exact .step (h.snd x.f hxf hb) hx
    · exact h.snd v hv hv2
  · rcases List.mem_append.1 hy with hy | hy
    · exact hg _ (h.pre0 y hy hyE hr)
    · rw [List.mem_singleton.1 hy, bget_set hl]; simp
theorem KInv.next {ls pre : List Lk} (hsub : ∀ x, E x → x ∈ ls) (hp : ∀ x ∈ ls, x ∈ pre) (hs : s < n) (h : KInv n s E B r pre) : KInv n s E B (r + 1) [] :=
  ⟨h.len, h.snd, fun v hv hr => by
    cases hr with
    | refl => exact h.cmp s hs .refl
    | @step _ x hr hx => exact h.pre0 x (hp x (hsub x hx)) hx hr, by simp⟩
end
theorem pigeon : ∀ (n : Nat) (f : List Nat), f.Nodup → (∀ v ∈ f, v < n) → f.length ≤ n
  | 0, f, _, h => by
    cases f with
    | nil => simp
    | cons a f => exact absurd (h a (by simp)) (by omega)
  | n + 1, f, hn, h => by
    have h1 := pigeon n (f.erase n) (hn.erase n) (fun v hv => by
      have h2 := (hn.mem_erase_iff).1 hv
      have := h v h2.2
      have := h2.1
      omega)
    rw [List.length_erase] at h1
    split at h1 <;> omega
/-- a shortest way has less than n links -/
theorem rchN_of {n s : Nat} {E : Lk → Prop} (hE : ∀ x, E x → x.f < n ∧ x.t < n) (hs : s < n) {v : Nat} (h : Rch E s v) : RchN E s n v := by
  -- the sets of what is reached by k links grow, or stay for ever
  let S : Nat → Nat → Prop := fun k v => RchN E s k v
  have key : ∀ k, (∀ v, S (k + 1) v → S k v) ∨ ∃ f : List Nat, f.length = k + 2 ∧ f.Nodup ∧ ∀ v ∈ f, v < n ∧ S (k + 1) v := by
    intro k
    induction k with
    | zero =>
      by_cases hc : ∀ v, S 1 v → S 0 v
      · exact .inl hc
      · right
        simp only [Classical.not_forall] at hc
        obtain ⟨v, h1, h2⟩ := hc
        have hvn : v < n := by cases h1 with
          | refl => exact hs
          | step _ hx => exact (hE _ hx).2
        refine ⟨[v, s], rfl, ?_, ?_⟩
        · simp only [List.nodup_cons, List.mem_singleton, List.not_mem_nil, not_false_eq_true, List.nodup_nil, and_true]
          rintro rfl
          exact h2 .refl
        · intro u hu
          simp at hu
          rcases hu with rfl | rfl
          · exact ⟨hvn, h1⟩
          · exact ⟨hs, .refl⟩
    | succ k ih =>
      by_cases hc : ∀ v, S (k + 2) v → S (k + 1) v
      · exact .inl hc
      · rcases ih with ih | ⟨f, f1, f2, f3⟩
        · -- nothing new came before: nothing new can come
          exfalso
          apply hc
          intro v hv
          cases hv with
          | refl => exact .refl
          | step hr hx => exact .step (ih _ hr) hx
        · right
          simp only [Classical.not_forall] at hc
          obtain ⟨v, h1, h2⟩ := hc
          have hvn : v < n := by cases h1 with
            | refl => exact hs
            | step _ hx => exact (hE _ hx).2
          refine ⟨v :: f, by simp [f1], List.nodup_cons.2 ⟨fun hm => h2 (f3 v hm).2, f2⟩, ?_⟩
          intro u hu
          simp at hu
          rcases hu with rfl | hu
          · exact ⟨hvn, h1⟩
          · exact ⟨(f3 u hu).1, (f3 u hu).2.mono (by omega)⟩
  have hcl : ∀ v, S (n + 1) v → S n v := by
    rcases key n with h | ⟨f, f1, f2, f3⟩
    · exact h
    · exfalso
      have : f.length ≤ n := pigeon n f f2 (fun v hv => (f3 v hv).1)
      omega
  induction h with
  | refl => exact .refl
  | step _ hx ih => exact hcl _ (.step ih hx)
theorem KInv.reach {n s : Nat} {E : Lk → Prop} {B : List Bool} (hE : ∀ x, E x → x.f < n ∧ x.t < n) (hs : s < n) (h : KInv n s E B n []) : IsReach n E s (bget B) :=
  fun v hv => ⟨h.snd v hv, fun hr => h.cmp v hv (rchN_of hE hs hr)⟩
end Go.Flow
/- The example of the chapter; the laws on maximum flows, cuts and paths, in plain words. No program in sight. No conditions. -/
namespace Go.Flow
/-! ### the laws -/
section
variable {n s t : Int} {l : List Arc}
theorem side_chk (B : List Bool) (n : Nat) : ∀ (k : Nat), k ≤ n → ∀ (r : List Int) (p : Option Int), (∀ q, p = some q → ∃ m : Nat, q = m ∧ m < k) → sideChk n p (((List.range' k (n - k)).filter (fun v => bget B v)).map (fun (v : Nat) => (v : Int))) = 0 := by
  intro k hk r p hp
  generalize hd : n - k = d
  induction d generalizing k p with
  | zero => simp [sideChk]
  | succ d ih =>
    rw [List.range'_succ, List.filter_cons]
    split
    · simp only [List.map_cons, sideChk]
      rw [if_neg (by omega), if_neg]
      · exact ih (k + 1) (by omega) _ (fun q hq => ⟨k, by simpa using hq.symm, by omega⟩) (by omega)
      · cases p with
        | none => simp
        | some q =>
          obtain ⟨m, rfl, hm⟩ := hp q rfl
          simp; omega
    · exact ih (k + 1) (by omega) _ (fun q hq => by obtain ⟨m, h1, h2⟩ := hp q hq; exact ⟨m, h1, by omega⟩) (by omega)
theorem sideOf_chk (B : List Bool) (n : Nat) : sideChk n none (sideOf B n) = 0 := by
  have := side_chk B n 0 (by omega) [] none (by simp)
  rw [Nat.sub_zero, ← List.range_eq_range'] at this
  exact this
end
end Go.Flow
/- Searches in slices of numbers; the example of the chapter. -/
namespace Go.Proofs.YthdoegkjifgegaaGreat
open Go.Eng Go.Flow
set_option maxRecDepth 100000
set_option maxHeartbeats 4000000

end Go.Proofs.YthdoegkjifgegaaGreat
/- The document's cuts. -/
namespace Go.Proofs.YthdoegkjifgegaaGreat
open Go.Eng Go.Step
set_option maxRecDepth 100000
set_option maxHeartbeats 4000000

end Go.Proofs.YthdoegkjifgegaaGreat
/- Laws Graph and Sides. -/
namespace Go.Proofs.YthdoegkjifgegaaGreat
open Go.Eng Go.Step
set_option maxRecDepth 100000
set_option maxHeartbeats 4000000

end Go.Proofs.YthdoegkjifgegaaGreat
/- The reference: residual arcs, distances level by level, the first shortest path. -/
namespace Go.Proofs.YthdoegkjifgegaaGreat
open Go.Eng Go.Flow
set_option maxRecDepth 100000
set_option maxHeartbeats 4000000

/-- a link of the reference: where it begins and ends, its room -/
def encR (rm : Nat → Int) (x : Lk) : List Value := [int x.f, int x.t, int (rm x.k)]
theorem encR_len (rm : Nat → Int) (x : Lk) : (encR rm x).length = 3 := rfl
theorem lrRow {rm : Nat → Int} {ρ : PH} {p : Option Addr} {l : List Lk} (h : RowsE (encR rm) 3 ρ p l) {i : Nat} {x : Lk} (hx : l[i]? = some x) :
  ∃ b o, p = some ⟨b, o, none⟩ ∧ rdc ρ b (o + i * 3) = some (int x.f) ∧ rdc ρ b (o + i * 3 + 1) = some (int x.t) ∧ rdc ρ b (o + i * 3 + 2) = some (int (rm x.k)) := by
 obtain ⟨b, o, e, hr⟩ := h i x hx
 exact ⟨b, o, e, hr.get0, hr.get (j := 1) rfl, hr.get (j := 2) rfl⟩
set_option maxHeartbeats 8000000 in
theorem refDistances_spec (ρ : PH) (v : Value) (n t : Nat) (ls : List Lk) (rm : Nat → Int) (hv : SlE (encR rm) 3 ρ v ls) (hls : ∀ x ∈ ls, x.f < n ∧ x.t < n) (hn : n ≤ 2000) (hl : ls.length ≤ 40000) (ht : t < n) :
  Makes Tryz.prog (fv 102) [int n, v, int t] [ρ] (fun r σ => ∃ b D, r = .slice (some ⟨b, 0, none⟩) n n ∧ σ = sng b (.cells (ints D) 3 (0, 0)) ∧ IsDist n t (opn ls rm) D) := by
 obtain ⟨q, c, rfl, hr⟩ := hv.val (encR_len rm)
 have hE : ∀ x, opn ls rm x → x.f < n ∧ x.t < n := fun x hx => hls x hx.1
 refine spec_in (cap := []) Tryz.func102 rfl rfl Tryz.ntmps102 rfl envZ (fun N β => ?_)
 refine AD ?_
 refine AA ?_
 refine AC ?_
 refine AE ?_
 refine AD ?_
 refine AA ?_
 refine AB ?_
 refine C8 ?_; rintro _ _ ⟨b, rfl, rfl⟩
 refine AC ?_
 refine AE ?_
 refine AD ?_
 refine AD ?_
 refine AA ?_
 refine AC ?_
 refine AE ?_
 refine AO ?_
 revert b; intro bd
 rw [show List.replicate n (0 : Int) = List.replicate 0 (-1) ++ List.replicate (n - 0) 0 from by simp]
 refine BD [0, 1, 2, 7] (0 : Nat) (fun k => k ≤ n) (fun k => [(8, int k)]) (fun k => [sng bd (.cells (ints (List.replicate k (-1) ++ List.replicate (n - k) 0)) 3 (0, 0))]) (fun k => n - k) pickZ (by omega) covZ selZ ?_
 intro k hk
 have hfl : (List.replicate k (-1 : Int) ++ List.replicate (n - k) 0).length = n := by simp; omega
 by_cases hlt : k < n
 ·have hf := fillL n k hlt
  refine AD ?_
  refine AD ?_
  refine AA ?_
  refine AB ?_
  refine AB ?_
  refine BE ?_
  refine AE ?_
  refine AN rfl ?_
  refine AL ?_
  refine AD ?_
  refine AO ?_
  refine AA ?_
  refine AB ?_
  refine AB ?_
  refine BI ?_
  refine CF ?_; rintro _ _ ⟨rfl, rfl⟩
  refine AE ?_
  refine A3 ?_
  refine AA ?_
  refine AB ?_
  refine BA ?_
  refine AC ?_
  refine AE ?_
  refine AV (k + 1) (by omega) (by omega) covZ ?_
  rw [← hf]
  exact selZ
 obtain rfl : k = n := by omega
 rw [Nat.sub_self, List.replicate_zero, List.append_nil] at hfl ⊢
 obtain ⟨hs0, hs1⟩ := LInv.start (E := opn ls rm) ht
 refine AD ?_
 refine AD ?_
 refine AA ?_
 refine AB ?_
 refine AB ?_
 refine AY ?_
 refine AE ?_
 refine AM rfl ?_
 refine A8 rfl ?_
 refine AD ?_
 refine AA ?_
 refine AB ?_
 refine AB ?_
 refine BI ?_
 refine CF ?_; rintro _ _ ⟨rfl, rfl⟩
 refine AE ?_
 refine AD ?_
 refine AA ?_
 refine AC ?_
 refine AE ?_
 refine AD ?_
 refine AD ?_
 refine AA ?_
 refine AC ?_
 refine AE ?_
 refine AO ?_
 refine BD [0, 1, 2, 7] (X := Nat × (Bool × List Int)) (0, (true, (List.replicate k (-1 : Int)).set t 0)) (fun x => LInv k t (opn ls rm) x.2.2 x.1 [] ∧ (x.2.1 = true → (∀ v, v < k → x.2.2.getD v 0 ≤ (x.1 : Int)) ∧ x.1 + unl x.2.2 ≤ k) ∧ (x.2.1 = false → IsDist k t (opn ls rm) x.2.2))
  (fun x => [(10, int x.1), (9, .bool x.2.1)]) (fun x => [sng bd (.cells (ints x.2.2) 3 (0, 0))]) (fun x => 2 * unl x.2.2 + (if x.2.1 = true then 1 else 0)) pickZ ⟨hs0, fun _ => ⟨hs1, by have := unl_start ht; dsimp only; omega⟩, by simp⟩ covZ selZ ?_
 rintro ⟨d, ⟨found, D⟩⟩ ⟨hI, hT, hF⟩
 dsimp only at hI hT hF ⊢
 cases found with
 | false =>
  have hD := hF rfl
  refine AD ?_
  refine AD ?_
  refine AA ?_
  refine AB ?_
  refine AE ?_
  refine AM rfl ?_
  refine A8 rfl ?_
  refine AD ?_
  refine AA ?_
  refine AB ?_
  refine AC ?_
  refine AE ?_
  exact AI (res1 rfl rfl) rsubZ selZ ⟨_, ⟨bd, D, rfl, rfl, hD⟩, rfl⟩
 | true =>
  obtain ⟨hT1, hT2⟩ := hT rfl
  refine AD ?_
  refine AD ?_
  refine AA ?_
  refine AB ?_
  refine AE ?_
  refine AN rfl ?_
  refine AL ?_
  refine AD ?_
  refine AO ?_
  refine AD ?_
  refine AA ?_
  refine AC ?_
  refine AE ?_
  refine AD ?_
  refine AA ?_
  refine AC ?_
  refine AE ?_
  refine AO ?_
  refine BD [0, 1, 2, 7, 10] (X := Nat × (Bool × List Int)) (0, (false, D)) (fun x => x.1 ≤ ls.length ∧ LInv k t (opn ls rm) x.2.2 d (ls.take x.1) ∧ (x.2.1 = true → d + 1 + unl x.2.2 ≤ k ∧ unl x.2.2 + 1 ≤ unl D) ∧ (x.2.1 = false → x.2.2 = D))
   (fun x => [(11, int x.1), (9, .bool x.2.1)]) (fun x => [sng bd (.cells (ints x.2.2) 3 (0, 0))]) (fun x => ls.length - x.1) pickZ ⟨by dsimp only; omega, by simpa using hI, by simp, fun _ => rfl⟩ covZ selZ ?_
  rintro ⟨i, ⟨fnd, D1⟩⟩ ⟨hi, hI1, hT3, hF3⟩
  dsimp only at hi hI1 hT3 hF3 ⊢
  have hDl : D1.length = k := hI1.len
  have hdk : d ≤ k := by omega
  by_cases hlt2 : i < ls.length
  ·have hx := List.getElem?_eq_getElem hlt2
   obtain ⟨b, o, rfl, g0, g1, g2⟩ := lrRow hr hx
   have hxn := hls ls[i] (List.getElem_mem hlt2)
   have htk := take_snoc' hlt2
   have hlow := hI1.low ls[i].f hxn.1
   by_cases hp : 0 < rm ls[i].k
   ·have hop : opn ls rm ls[i] := ⟨List.getElem_mem hlt2, hp⟩
    by_cases hd : D1.getD ls[i].t 0 = (d : Int)
    ·by_cases hneg : D1.getD ls[i].f 0 = -1
     ·have hm := hI1.mark hop hxn.1 hd hneg
      have hu := unl_set (D := D1) (i := ls[i].f) (x := (d : Int) + 1) (by omega) (by omega) (by omega)
      have hfin : d + 1 + unl (D1.set ls[i].f ((d : Int) + 1)) ≤ k ∧ unl (D1.set ls[i].f ((d : Int) + 1)) + 1 ≤ unl D := by
       cases fnd with
       | true => have := hT3 rfl; omega
       | false => have := hF3 rfl; subst this; omega
      refine AD ?_
      refine AD ?_
      refine AA ?_
      refine AB ?_
      refine AB ?_
      refine AX ?_
      refine BE ?_
      refine AE ?_
      refine AN rfl ?_
      refine AL ?_
      refine AD ?_
      refine AO ?_
      refine AD ?_
      refine AA ?_
      refine AB ?_
      refine AB ?_
      refine A9 ?_
      refine CP ?_
      refine AF ?_
      refine CK ?_
      refine AB ?_
      refine AB ?_
      refine AB ?_
      refine AB ?_
      refine A9 ?_
      refine CP ?_
      refine AF ?_
      refine BI ?_
      refine AF ?_
      refine AB ?_
      refine B8 ?_
      refine AK ?_
      refine AB ?_
      refine AB ?_
      refine AB ?_
      refine AB ?_
      refine A9 ?_
      refine EM ?_
      refine AF ?_
      refine BI ?_
      refine AF ?_
      refine B8 ?_
      refine AK ?_
      refine AE ?_
      refine AN rfl ?_
      refine AD ?_
      refine AA ?_
      refine AB ?_
      refine AB ?_
      refine AB ?_
      refine A9 ?_
      refine EM ?_
      refine AF ?_
      refine AB ?_
      refine BA ?_
      refine BI ?_
      refine CF ?_; rintro _ _ ⟨rfl, rfl⟩
      refine AE ?_
      refine AA ?_
      refine AC ?_
      refine AE ?_
      refine A3 ?_
      refine AA ?_
      refine AB ?_
      refine BA ?_
      refine AC ?_
      refine AE ?_
      refine AV (i + 1, (true, _)) ⟨by dsimp only; omega, ?_, fun _ => hfin, by simp⟩ (by dsimp only; omega) covZ selZ
      dsimp only
      rw [htk]; exact hm
     ·have hm := hI1.skip (x := ls[i]) (fun _ _ => by omega)
      refine AD ?_
      refine AD ?_
      refine AA ?_
      refine AB ?_
      refine AB ?_
      refine AX ?_
      refine BE ?_
      refine AE ?_
      refine AN rfl ?_
      refine AL ?_
      refine AD ?_
      refine AO ?_
      refine AD ?_
      refine AA ?_
      refine AB ?_
      refine AB ?_
      refine A9 ?_
      refine CP ?_
      refine AF ?_
      refine CK ?_
      refine AB ?_
      refine AB ?_
      refine AB ?_
      refine AB ?_
      refine A9 ?_
      refine CP ?_
      refine AF ?_
      refine BI ?_
      refine AF ?_
      refine AB ?_
      refine B8 ?_
      refine AK ?_
      refine AB ?_
      refine AB ?_
      refine AB ?_
      refine AB ?_
      refine A9 ?_
      refine EM ?_
      refine AF ?_
      refine BI ?_
      refine AF ?_
      refine BT ?_
      refine AK ?_
      refine AE ?_
      refine AM rfl ?_
      refine AL ?_
      refine A3 ?_
      refine AA ?_
      refine AB ?_
      refine BA ?_
      refine AC ?_
      refine AE ?_
      refine AV (i + 1, (fnd, D1)) ⟨by dsimp only; omega, ?_, hT3, hF3⟩ (by dsimp only; omega) covZ selZ
      dsimp only
      rw [htk]; exact hm
    ·have hm := hI1.skip (x := ls[i]) (fun _ h => absurd h hd)
     refine AD ?_
     refine AD ?_
     refine AA ?_
     refine AB ?_
     refine AB ?_
     refine AX ?_
     refine BE ?_
     refine AE ?_
     refine AN rfl ?_
     refine AL ?_
     refine AD ?_
     refine AO ?_
     refine AD ?_
     refine AA ?_
     refine AB ?_
     refine AB ?_
     refine A9 ?_
     refine CP ?_
     refine AF ?_
     refine CK ?_
     refine AB ?_
     refine AB ?_
     refine AB ?_
     refine AB ?_
     refine A9 ?_
     refine CP ?_
     refine AF ?_
     refine BI ?_
     refine AF ?_
     refine AB ?_
     refine BT ?_
     refine AK ?_
     refine AB ?_
     refine AG rfl rfl rfl ?_
     refine AG rfl rfl rfl ?_
     refine AG rfl rfl rfl ?_
     refine AG rfl rfl rfl ?_
     refine AG rfl rfl rfl ?_
     refine AG rfl rfl rfl ?_
     refine AG rfl rfl rfl ?_
     refine AG rfl rfl rfl ?_
     refine AG rfl rfl rfl ?_
     refine AJ ?_
     refine AE ?_
     refine AM rfl ?_
     refine AL ?_
     refine A3 ?_
     refine AA ?_
     refine AB ?_
     refine BA ?_
     refine AC ?_
     refine AE ?_
     refine AV (i + 1, (fnd, D1)) ⟨by dsimp only; omega, ?_, hT3, hF3⟩ (by dsimp only; omega) covZ selZ
     dsimp only
     rw [htk]; exact hm
   ·have hm := hI1.skip (x := ls[i]) (fun h _ => absurd h.2 hp)
    refine AD ?_
    refine AD ?_
    refine AA ?_
    refine AB ?_
    refine AB ?_
    refine AX ?_
    refine BE ?_
    refine AE ?_
    refine AN rfl ?_
    refine AL ?_
    refine AD ?_
    refine AO ?_
    refine AD ?_
    refine AA ?_
    refine AB ?_
    refine AB ?_
    refine A9 ?_
    refine CP ?_
    refine AF ?_
    refine BU ?_
    refine AB ?_
    refine AG rfl rfl rfl ?_
    refine AG rfl rfl rfl ?_
    refine AG rfl rfl rfl ?_
    refine AG rfl rfl rfl ?_
    refine AG rfl rfl rfl ?_
    refine AG rfl rfl rfl ?_
    refine AG rfl rfl rfl ?_
    refine AG rfl rfl rfl ?_
    refine AG rfl rfl rfl ?_
    refine AG rfl rfl rfl ?_
    refine AJ ?_
    refine AB ?_
    refine AG rfl rfl rfl ?_
    refine AG rfl rfl rfl ?_
    refine AG rfl rfl rfl ?_
    refine AG rfl rfl rfl ?_
    refine AG rfl rfl rfl ?_
    refine AG rfl rfl rfl ?_
    refine AG rfl rfl rfl ?_
    refine AG rfl rfl rfl ?_
    refine AG rfl rfl rfl ?_
    refine AJ ?_
    refine AE ?_
    refine AM rfl ?_
    refine AL ?_
    refine A3 ?_
    refine AA ?_
    refine AB ?_
    refine BA ?_
    refine AC ?_
    refine AE ?_
    refine AV (i + 1, (fnd, D1)) ⟨by dsimp only; omega, ?_, hT3, hF3⟩ (by dsimp only; omega) covZ selZ
    dsimp only
    rw [htk]; exact hm
  ·rw [List.take_of_length_le (by omega)] at hI1
   have hnx := hI1.next (ls := ls) (fun x hx => hx.1) hE (fun x hx => hx)
   refine AD ?_
   refine AD ?_
   refine AA ?_
   refine AB ?_
   refine AB ?_
   refine AX ?_
   refine AY ?_
   refine AE ?_
   refine AM rfl ?_
   refine A8 rfl ?_
   refine A3 ?_
   refine AA ?_
   refine AB ?_
   refine BA ?_
   refine AC ?_
   refine AE ?_
   refine AV (d + 1, (fnd, D1)) ⟨hnx, fun h => ⟨fun v hv => by have := hnx.hi v hv; have := hI1.hi v hv; dsimp only; omega, by have := hT3 h; dsimp only; omega⟩, fun h => ?_⟩ ?_ covZ selZ
   ·dsimp only at h ⊢
    have e := hF3 h
    subst e
    exact hnx.dist hE (fun v hv => hT1 v hv)
   ·dsimp only
    cases fnd with
    | true => have := hT3 rfl; simp; omega
    | false => have := hF3 rfl; subst this; simp
end Go.Proofs.YthdoegkjifgegaaGreat
/- Bounds on what Max hands back; a capacity raised. No program in sight. No conditions. -/
namespace Go.Flow
end Go.Flow
/- The reference's list of residual arcs, as it is filled; rooms are bounded. No program in sight. No conditions. -/
namespace Go.Flow
/-- a link that is not filled in yet -/
def zLk (l : List Arc) : Lk := ⟨2 * l.length, 0, 0⟩
theorem rm_zLk (l : List Arc) (fl : List Int) (h : fl.length = l.length) : rmR l fl (zLk l).k = 0 := by
  unfold rmR zLk
  dsimp only
  rw [if_pos (by omega), show 2 * l.length / 2 = l.length from by omega, List.getD_eq_getElem?_getD, List.getElem?_eq_none (by omega), List.getD_eq_getElem?_getD, List.getElem?_eq_none (by omega)]
  rfl
def fillR (l : List Arc) (i : Nat) : List Lk := rlinks (l.take i) ++ List.replicate (2 * l.length - 2 * i) (zLk l)
theorem fillR_zero (l : List Arc) : fillR l 0 = List.replicate (2 * l.length) (zLk l) := by simp [fillR, rlinks, rlFrom]
theorem fillR_len (l : List Arc) {i : Nat} (h : i ≤ l.length) : (fillR l i).length = 2 * l.length := by
  unfold fillR
  rw [List.length_append, rlinks_len, List.length_replicate, List.length_take]
  omega
theorem fillR_end (l : List Arc) : fillR l l.length = rlinks l := by simp [fillR]
theorem fillR_step {l : List Arc} {i : Nat} (h : i < l.length) : ((fillR l i).set (2 * i) ⟨2 * i, l[i].f.toNat, l[i].t.toNat⟩).set (2 * i + 1) ⟨2 * i + 1, l[i].t.toNat, l[i].f.toNat⟩ = fillR l (i + 1) := by
  have hlen : (rlinks (l.take i)).length = 2 * i := by rw [rlinks_len, List.length_take]; omega
  unfold fillR
  rw [take_snoc' h, rlinks_snoc]
  obtain ⟨r, hr⟩ : ∃ r, 2 * l.length - 2 * i = r + 2 := ⟨2 * l.length - 2 * i - 2, by omega⟩
  have hr2 : 2 * l.length - 2 * (i + 1) = r := by omega
  have hti : (l.take i).length = i := by rw [List.length_take]; omega
  rw [hr, hr2, List.replicate_succ, List.replicate_succ, List.set_append_right _ _ (by omega), List.set_append_right _ _ (by omega), hlen, hti]
  rw [show 2 * i - 2 * i = 0 from by omega, show 2 * i + 1 - 2 * i = 1 from by omega]
  simp
theorem rmR_le {n : Nat} {l : List Arc} {fl : List Int} (hok : ∀ a ∈ l, okArc n a = true) (hl : l.length = fl.length) (hc : inCap l fl = true) {x : Lk} (hx : x ∈ rlinks l) : rmR l fl x.k ≤ 1099511627776 := by
  obtain ⟨j, a, ha, hxe⟩ := rlinks_iff.1 hx
  have hjl : j < l.length := (List.getElem?_eq_some_iff.1 ha).1
  have hfj : fl[j]? = some (fl.getD j 0) := by simp [List.getD_eq_getElem?_getD, show j < fl.length by omega]
  have hlj : l.getD j default = a := by simp [List.getD_eq_getElem?_getD, ha]
  have hin := inCap_get l fl hc j a _ ha hfj
  have := okArc_iff.1 (hok a (List.mem_of_getElem? ha))
  unfold rmR
  rcases hxe with rfl | rfl
  · dsimp only
    rw [if_pos (by omega), show 2 * j / 2 = j from by omega, hlj]; omega
  · dsimp only
    rw [if_neg (by omega), show (2 * j + 1) / 2 = j from by omega]; omega
/-- where a search ends -/
theorem find_at {α : Type} {p : α → Bool} : ∀ {l : List α} {x : α}, l.find? p = some x → ∃ i : Nat, l[i]? = some x ∧ p x = true ∧ ∀ (j : Nat) (y : α), j < i → l[j]? = some y → p y = false
  | [], x, h => by simp at h
  | a :: l, x, h => by
    rw [List.find?_cons] at h
    cases hp : p a with
    | true =>
      rw [hp] at h
      simp at h; subst h
      exact ⟨0, rfl, hp, fun j y hj => by omega⟩
    | false =>
      rw [hp] at h
      simp only at h
      obtain ⟨i, h1, h2, h3⟩ := find_at h
      refine ⟨i + 1, by simpa using h1, h2, fun j y hj hy => ?_⟩
      cases j with
      | zero => simp at hy; subst hy; exact hp
      | succ j => exact h3 j y (by omega) (by simpa using hy)
end Go.Flow
/- The reference: the list of residual arcs, the first shortest path. -/
namespace Go.Proofs.YthdoegkjifgegaaGreat
open Go.Eng Go.Flow
set_option maxRecDepth 100000
set_option maxHeartbeats 4000000

set_option maxHeartbeats 8000000 in
theorem refResidual_spec (ρ σ : PH) (v u : Value) (n : Nat) (l : List Arc) (fl : List Int) (hv : ArcsAt ρ v l) (hu : IntsAt σ u fl) (hl : l.length ≤ 20000) (hfl : fl.length = l.length) (hok : ∀ a ∈ l, okArc n a = true) (hc : inCap l fl = true) :
  Makes Tryz.prog (fv 60) [v, u] [ρ, σ] (fun r τ => ∃ b, r = .slice (some ⟨b, 0, none⟩) (2 * l.length) (2 * l.length) ∧ τ = sng b (.cells (elems (encR (rmR l fl)) (rlinks l)) 178 (0, 0))) := by
 obtain ⟨q, c, rfl, hr⟩ := hv.val encA_len
 obtain ⟨q2, c2, rfl, hr2⟩ := hu.val Eng.encI_len
 have hz0 := rm_zLk l fl hfl
 have hze : encR (rmR l fl) (zLk l) = [int 0, int 0, int 0] := by unfold encR; rw [hz0]; rfl
 refine spec_in (cap := []) Tryz.func60 rfl rfl Tryz.ntmps60 rfl envZ (fun N β => ?_)
 refine AD ?_
 refine AA ?_
 refine AC ?_
 refine AE ?_
 refine AD ?_
 refine AA ?_
 refine AB ?_
 refine AX ?_
 refine zq_dbl ?_
 refine BK (GI (enc := encR (rmR l fl)) (s := 3) (by_ := 24) (zLk l) rfl rfl rfl rfl rfl rfl (by rw [hze]; rfl) rfl (by omega) (by omega)) rfl rfl rfl ?_
 rintro _ _ ⟨b, rfl, rfl⟩
 rw [← fillR_zero]
 refine AC ?_
 refine AE ?_
 refine AD ?_
 refine AD ?_
 refine AA ?_
 refine AC ?_
 refine AE ?_
 refine AO ?_
 refine BD [0, 1, 5] (0 : Nat) (fun i => i ≤ l.length) (fun i => [(6, int i)]) (fun i => [sng b (.cells (elems (encR (rmR l fl)) (fillR l i)) 178 (0, 0))]) (fun i => l.length - i) pickZ (by omega) covZ selZ ?_
 intro i hi
 by_cases hlt : i < l.length
 ·have hx := List.getElem?_eq_getElem hlt
  obtain ⟨b1, o1, rfl, hA, g0, g1, g2⟩ := arcRow hr hx
  have hlt2 : i < fl.length := by omega
  obtain ⟨b2, o2, rfl, g3⟩ := hr2.int (List.getElem?_eq_getElem hlt2)
  have hin := inCap_get l fl hc i l[i] fl[i] hx (List.getElem?_eq_getElem hlt2)
  obtain ⟨k1, k2, k3, k4, k5, k6, k7⟩ := okArc_iff.1 (hok l[i] (List.getElem_mem hlt))
  obtain ⟨f, hf⟩ := Int.eq_ofNat_of_zero_le k1
  obtain ⟨t, ht⟩ := Int.eq_ofNat_of_zero_le k3
  have hst := fillR_step hlt
  have hlen := fillR_len l (i := i) (by omega)
  rw [hf, ht] at hst
  simp only [Int.toNat_natCast] at hst
  rw [hf] at g0
  rw [ht] at g1
  have e1 : encR (rmR l fl) ⟨2 * i, f, t⟩ = [int f, int t, int (l[i].c - fl[i])] := by
   unfold encR rmR
   dsimp only
   rw [if_pos (by omega), show 2 * i / 2 = i from by omega, List.getD_eq_getElem?_getD, hx, List.getD_eq_getElem?_getD, List.getElem?_eq_getElem hlt2]
   rfl
  have e2 : encR (rmR l fl) ⟨2 * i + 1, t, f⟩ = [int t, int f, int fl[i]] := by
   unfold encR rmR
   dsimp only
   rw [if_neg (by omega), show (2 * i + 1) / 2 = i from by omega, List.getD_eq_getElem?_getD, List.getElem?_eq_getElem hlt2]
   rfl
  refine AD ?_
  refine AD ?_
  refine AA ?_
  refine AB ?_
  refine AB ?_
  refine AX ?_
  refine BE ?_
  refine AE ?_
  refine AN rfl ?_
  refine AL ?_
  refine AD ?_
  refine AO ?_
  refine AD ?_
  refine A5 (.q 0 (.q 1 (.q 2 (.q 3 (.q 4 (.q 5 (.q 6 (.q 7 (.q 8 (.q 9 (.q 10 (.q 11 (.q 12 (.q 13 (.q 14 (.q 15 (.q 16 (.q 17 (.q 18 (.q 19 (.q 20 (.q 21 (.q 22 (.q 23 (.q 24 (.l 25 .b .nil)))))))))))))))))))))))))) [] rfl (by kernel_rfl) selZ ?_
  refine AR ?_
  refine AR ?_
  refine F8 ?_
  refine AR ?_
  refine AR ?_
  refine BM ?_
  refine CH ?_
  refine AP ?_
  refine AR ?_
  refine AR ?_
  refine BM ?_
  refine B6 ?_
  refine AP ?_
  refine AR ?_
  refine AR ?_
  refine BM ?_
  refine B6 ?_
  refine AP ?_
  refine AR ?_
  refine AR ?_
  refine CQ ?_
  refine AP ?_
  refine DR ?_
  refine CE ?_
  refine BM ?_
  refine CM ?_
  refine' FC rfl _ rfl rfl _ _
  rotate_left
  ·exact EX (encR_len _) (a := ⟨2 * i, f, t⟩) (2 * i) rfl (Nat.zero_add _) (by rw [e1]; rfl) (by rw [e1]; exact (by (repeat (first | exact (fun v hv => absurd hv List.not_mem_nil) | (refine List.forall_mem_cons.2 ⟨?_, ?_⟩; (focus (first | exact rfl | assumption))))); first | done | fail)) rfl takeZ (by omega)
  ·rintro _ _ ⟨_, rfl⟩ w hw; exact hw.sel selZ
  rintro _ _ ⟨rfl, rfl⟩
  refine A6 ?_
  skip
  refine A5 (.q 0 (.q 1 (.q 2 (.q 3 (.q 4 (.q 5 (.q 6 (.q 7 (.q 8 (.q 9 (.q 10 (.q 11 (.q 12 (.q 13 (.q 14 (.q 15 (.q 16 (.q 17 (.q 18 (.q 19 (.l 20 .b .nil))))))))))))))))))))) [] rfl (by kernel_rfl) selZ ?_
  refine AR ?_
  refine AR ?_
  refine F8 ?_
  refine zd_inc ?_
  refine AR ?_
  refine AR ?_
  refine BM ?_
  refine B6 ?_
  refine AP ?_
  refine AR ?_
  refine AR ?_
  refine BM ?_
  refine CH ?_
  refine AP ?_
  refine AR ?_
  refine AR ?_
  refine CQ ?_
  refine AP ?_
  refine CE ?_
  refine BM ?_
  refine CM ?_
  refine' FC rfl _ rfl rfl _ _
  rotate_left
  ·exact EX (encR_len _) (a := ⟨2 * i + 1, t, f⟩) (2 * i + 1) rfl (Nat.zero_add _) (by rw [e2]; rfl) (by rw [e2]; exact (by (repeat (first | exact (fun v hv => absurd hv List.not_mem_nil) | (refine List.forall_mem_cons.2 ⟨?_, ?_⟩; (focus (first | exact rfl | assumption))))); first | done | fail)) rfl takeZ (by rw [List.length_set]; omega)
  ·rintro _ _ ⟨_, rfl⟩ w hw; exact hw.sel selZ
  rintro _ _ ⟨rfl, rfl⟩
  refine A6 ?_
  refine A3 ?_
  refine AA ?_
  refine AB ?_
  refine BA ?_
  refine AC ?_
  refine AE ?_
  refine AV (i + 1) (by omega) (by omega) covZ ?_
  rw [← hst]
  exact selZ
 ·obtain rfl : i = l.length := by omega
  rw [fillR_end]
  refine AD ?_
  refine AD ?_
  refine AA ?_
  refine AB ?_
  refine AB ?_
  refine AX ?_
  refine AY ?_
  refine AE ?_
  refine AM rfl ?_
  refine A8 rfl ?_
  refine AD ?_
  refine AA ?_
  refine AB ?_
  refine AC ?_
  refine AE ?_
  exact AI (res1 rfl rfl) rsubZ selZ ⟨_, ⟨b, rfl, rfl⟩, rfl⟩
end Go.Proofs.YthdoegkjifgegaaGreat
/- The reference: the first shortest path. -/
namespace Go.Proofs.YthdoegkjifgegaaGreat
open Go.Eng Go.Flow
set_option maxRecDepth 100000
set_option maxHeartbeats 4000000

set_option maxHeartbeats 8000000 in
theorem refPath_spec (ρ : PH) (v : Value) (n s t : Nat) (ls : List Lk) (rm : Nat → Int) (hv : SlE (encR rm) 3 ρ v ls) (hls : ∀ x ∈ ls, x.f < n ∧ x.t < n) (hat : atPl ls) (hn : n ≤ 2000) (hl : ls.length ≤ 40000) (hs : s < n) (ht : t < n) :
  Makes Tryz.prog (fv 59) [int n, v, int s, int t] [ρ] (fun r σ => ∃ D pv, IsDist n t (opn ls rm) D ∧ r = .tuple #[pv, int (rmin rm (pathD (nxt ls rm D) D s))] ∧ OwnS 3 1 pv (pathD (nxt ls rm D) D s).length ((ksOf (pathD (nxt ls rm D) D s)).map int) σ) := by
 have hv2 := hv
 obtain ⟨q, c, rfl, hr⟩ := hv.val (encR_len rm)
 have hE : ∀ x, opn ls rm x → x.f < n ∧ x.t < n := fun x hx => hls x hx.1
 refine spec_in (cap := []) Tryz.func59 rfl rfl Tryz.ntmps59 rfl envZ (fun N β => ?_)
 refine BZ ?_
 refine AD ?_
 refine AA ?_
 refine AC ?_
 refine AC ?_
 refine AE ?_
 refine AD ?_
 refine AA ?_
 refine AB ?_
 refine AB ?_
 refine AB ?_
 refine BW (refDistances_spec ρ _ n t ls rm hv2 hls hn hl ht) rfl rfl rdZ rfl rfl ?_
 rintro _ ρD ⟨bD, D, rfl, rfl, hD⟩
 have hDl := hD.len
 have hlow := hD.low s hs
 by_cases hneg : D.getD s 0 = -1
 ·refine AC ?_
  refine AE ?_
  refine AD ?_
  refine AD ?_
  refine AA ?_
  refine AB ?_
  refine AB ?_
  refine BI ?_
  refine AF ?_
  refine B8 ?_
  refine AE ?_
  refine AN rfl ?_
  refine AD ?_
  refine AA ?_
  refine AC ?_
  refine AC ?_
  refine AE ?_
  refine AI (res2 rfl rfl rfl) rsubZ selZ ⟨emp, ⟨D, .slice none 0 0, hD, ?_, ?_⟩, rfl⟩
  ·rw [pathD_end (by omega)]; rfl
  ·rw [pathD_end (by omega)]; exact OwnS.nil _ _
 refine AC ?_
 refine AE ?_
 refine AD ?_
 refine AD ?_
 refine AA ?_
 refine AB ?_
 refine AB ?_
 refine BI ?_
 refine AF ?_
 refine BT ?_
 refine AE ?_
 refine AM rfl ?_
 refine AL ?_
 refine AD ?_
 refine AA ?_
 refine AC ?_
 refine AE ?_
 refine AD ?_
 refine AA ?_
 refine AC ?_
 refine AE ?_
 refine AD ?_
 refine AD ?_
 refine AA ?_
 refine AB ?_
 refine AC ?_
 refine AE ?_
 refine AO ?_
 have hub := hD.lt hE ht hs
 refine BD [0, 1, 2, 3, 10] ((([] : List Lk), s), (.slice none 0 0, emp)) (X := (List Lk × Nat) × (Value × PH))
  (fun x => x.1.2 < n ∧ 0 ≤ D.getD x.1.2 0 ∧ pathD (nxt ls rm D) D s = x.1.1 ++ pathD (nxt ls rm D) D x.1.2 ∧ OwnS 3 1 x.2.1 x.1.1.length ((ksOf x.1.1).map int) x.2.2 ∧ x.1.1.length + (D.getD x.1.2 0).toNat ≤ n)
  (fun x => [(11, x.2.1), (12, int (rmin rm x.1.1)), (13, int x.1.2)]) (fun x => [sng bD (.cells (ints D) 3 (0, 0)), x.2.2]) (fun x => (D.getD x.1.2 0).toNat)
  pickZ ⟨hs, by dsimp only; omega, rfl, OwnS.nil _ _, by dsimp only [List.length_nil]; omega⟩ covZ selZ ?_
 rintro ⟨⟨pre, w⟩, ⟨pv, ρp⟩⟩ ⟨hw, hd0, hpre, hP, hln⟩
 dsimp only at hw hd0 hpre hP hln ⊢
 by_cases hwt : w = t
 ·refine AD ?_
  refine AD ?_
  refine AA ?_
  refine AB ?_
  refine AB ?_
  refine BJ ?_
  refine AE ?_
  refine AM rfl ?_
  refine A8 rfl ?_
  refine AD ?_
  refine AA ?_
  refine AB ?_
  refine AB ?_
  refine AC ?_
  refine AC ?_
  refine AE ?_
  refine AI (res2 rfl rfl rfl) rsubZ selZ ⟨ρp, ⟨D, pv, hD, ?_, ?_⟩, rfl⟩
  ·rw [hpre, pathD_end (by rw [hwt, hD.at0]; omega), List.append_nil]
  ·rw [hpre, pathD_end (by rw [hwt, hD.at0]; omega), List.append_nil]; exact hP
 have hdw : 0 < D.getD w 0 := by
  by_cases h0 : D.getD w 0 = 0
  ·exact absurd (hD.zero w hw h0) hwt
  ·omega
 obtain ⟨x0, hx0, hx0f, hx0o, hx0d⟩ := nxt_some hls hD hw hdw
 obtain ⟨i0, hi0, hp0, hno⟩ := find_at hx0
 have hk0 := hat i0 x0 hi0
 have hi0l : i0 < ls.length := (List.getElem?_eq_some_iff.1 hi0).1
 have hx0n := hls x0 hx0o.1
 have hwub := hD.lt hE ht hw
 obtain ⟨pb, pc, rfl⟩ : ∃ p c, pv = .slice p pre.length c := SlAt.cap hP.at
 refine AD ?_
 refine AD ?_
 refine AA ?_
 refine AB ?_
 refine AB ?_
 refine CT ?_
 refine AE ?_
 refine AN rfl ?_
 refine AL ?_
 refine AO ?_
 refine AD ?_
 refine AA ?_
 refine AC ?_
 refine AE ?_
 refine AD ?_
 refine AO ?_
 refine BD [0, 1, 2, 3, 10, 11, 12, 13] (0 : Nat) (fun i => i ≤ i0) (fun i => [(14, int i)]) (fun _ => [sng bD (.cells (ints D) 3 (0, 0)), ρp]) (fun i => i0 - i) pickZ (by omega) covZ selZ ?_
 intro i hi
 have hlt : i < ls.length := by omega
 have hx := List.getElem?_eq_getElem hlt
 obtain ⟨b1, o1, rfl, g0, g1, g2⟩ := lrRow hr hx
 have hxn := hls ls[i] (List.getElem_mem hlt)
 have hxlo := hD.low ls[i].t hxn.2
 have hxub := hD.lt hE ht hxn.2
 by_cases hii : i = i0
 ·subst hii
  rw [hx] at hi0
  obtain rfl := Option.some.inj hi0
  have hrp := hx0o.2
  refine AD ?_
  refine AD ?_
  refine A5 (.q 0 (.q 1 (.q 2 (.q 3 (.q 4 (.q 5 (.q 6 (.q 7 (.q 8 (.q 9 (.q 10 (.q 11 (.q 12 (.q 13 (.q 14 (.q 15 (.q 16 (.q 17 (.q 18 (.q 19 (.q 20 (.q 21 (.q 22 (.q 23 (.q 24 (.q 25 (.q 26 (.q 27 (.q 28 (.q 29 (.q 30 .nil))))))))))))))))))))))))))))))) [] rfl (by kernel_rfl) selZ ?_
  refine AR ?_
  refine AR ?_
  refine BM ?_
  refine B6 ?_
  refine AP ?_
  refine EE ?_
  refine AR ?_
  refine AR ?_
  refine AR ?_
  refine BM ?_
  refine CH ?_
  refine AP ?_
  refine AR ?_
  refine FJ ?_
  refine BX ?_
  refine AR ?_
  refine AR ?_
  refine AR ?_
  refine AR ?_
  refine BM ?_
  refine B6 ?_
  refine AP ?_
  refine BV ?_
  refine AP ?_
  refine AR ?_
  refine AR ?_
  refine BV ?_
  refine AP ?_
  refine DR ?_
  refine FJ ?_
  refine BX ?_
  refine A6 ?_
  have hsn := rmin_snoc rm pre ls[i]
  have hksn : (ksOf (pre ++ [ls[i]])).map int = (ksOf pre).map int ++ [int (i : Int)] := by simp [ksOf, hk0]
  have hfin : ∀ (q9 : Value) (ρ3 : PH), OwnS 3 1 q9 (pre.length + 1) ((ksOf pre).map int ++ [int (i : Int)]) ρ3 → OwnS 3 1 q9 (pre ++ [ls[i]]).length ((ksOf (pre ++ [ls[i]])).map int) ρ3 := fun q9 ρ3 h => by
   rw [hksn, List.length_append]; exact h
  by_cases hup : pre = [] ∨ rm ls[i].k < rmin rm pre
  ·rw [if_pos hup] at hsn
   by_cases hpn : pre.length = 0
   ·refine AM rfl ?_
    refine A8 rfl ?_
    refine AD ?_
    refine AD ?_
    refine AA ?_
    refine AB ?_
    refine AX ?_
    refine B8 ?_
    refine AB ?_
    refine AG rfl rfl rfl ?_
    refine AG rfl rfl rfl ?_
    refine AG rfl rfl rfl ?_
    refine AG rfl rfl rfl ?_
    refine AG rfl rfl rfl ?_
    refine AG rfl rfl rfl ?_
    refine AG rfl rfl rfl ?_
    refine AK ?_
    refine AE ?_
    refine AN rfl ?_
    refine AA ?_
    refine AB ?_
    refine AB ?_
    refine A9 ?_
    refine CP ?_
    refine AF ?_
    refine AC ?_
    refine AE ?_
    refine AD ?_
    refine AA ?_
    refine AB ?_
    refine AB ?_
    refine BB ?_; rintro _ _ ⟨b, rfl, rfl⟩
    refine BK (B0 (by_ := 8) (s := 1) (news := [int (i : Int)]) rfl rfl rfl rfl rfl rfl rfl hP takeZ (cells_own memZ) rfl (by (repeat (first | exact (fun v hv => absurd hv List.not_mem_nil) | (refine List.forall_mem_cons.2 ⟨?_, ?_⟩; (focus (first | exact rfl | assumption))))); first | done | fail) (by omega) (by simp only [maxLen]; omega) (by omega)) rfl rfl rfl ?_
    rintro q9 _ ⟨ρ3, hQ3, rfl⟩
    refine AC ?_
    refine AE ?_
    refine AA ?_
    refine AB ?_
    refine AB ?_
    refine A9 ?_
    refine CP ?_
    refine AF ?_
    refine AC ?_
    refine AE ?_
    refine A3 ?_
    refine AV ((pre ++ [ls[i]], ls[i].t), (q9, ρ3)) ⟨hx0n.2, by dsimp only; omega, ?_, hfin q9 ρ3 hQ3, ?_⟩ (by dsimp only; omega) ?_ selZ
    ·dsimp only
     rw [hpre, pathD_step hx0 hdw hx0d, List.append_assoc]; rfl
    ·dsimp only
     rw [List.length_append, List.length_singleton]; omega
    ·dsimp only
     rw [hsn]
     exact covZ
   ·have hup2 : rm ls[i].k < rmin rm pre := by
     rcases hup with h | h
     ·rw [h] at hpn; simp at hpn
     ·exact h
    refine AM rfl ?_
    refine A8 rfl ?_
    refine AD ?_
    refine AD ?_
    refine AA ?_
    refine AB ?_
    refine AX ?_
    refine BT ?_
    refine AB ?_
    refine AB ?_
    refine AB ?_
    refine A9 ?_
    refine CP ?_
    refine AF ?_
    refine AB ?_
    refine BE ?_
    refine AJ ?_
    refine AE ?_
    refine AN rfl ?_
    refine AA ?_
    refine AB ?_
    refine AB ?_
    refine A9 ?_
    refine CP ?_
    refine AF ?_
    refine AC ?_
    refine AE ?_
    refine AD ?_
    refine AA ?_
    refine AB ?_
    refine AB ?_
    refine BB ?_; rintro _ _ ⟨b, rfl, rfl⟩
    refine BK (B0 (by_ := 8) (s := 1) (news := [int (i : Int)]) rfl rfl rfl rfl rfl rfl rfl hP takeZ (cells_own memZ) rfl (by (repeat (first | exact (fun v hv => absurd hv List.not_mem_nil) | (refine List.forall_mem_cons.2 ⟨?_, ?_⟩; (focus (first | exact rfl | assumption))))); first | done | fail) (by omega) (by simp only [maxLen]; omega) (by omega)) rfl rfl rfl ?_
    rintro q9 _ ⟨ρ3, hQ3, rfl⟩
    refine AC ?_
    refine AE ?_
    refine AA ?_
    refine AB ?_
    refine AB ?_
    refine A9 ?_
    refine CP ?_
    refine AF ?_
    refine AC ?_
    refine AE ?_
    refine A3 ?_
    refine AV ((pre ++ [ls[i]], ls[i].t), (q9, ρ3)) ⟨hx0n.2, by dsimp only; omega, ?_, hfin q9 ρ3 hQ3, ?_⟩ (by dsimp only; omega) ?_ selZ
    ·dsimp only
     rw [hpre, pathD_step hx0 hdw hx0d, List.append_assoc]; rfl
    ·dsimp only
     rw [List.length_append, List.length_singleton]; omega
    ·dsimp only
     rw [hsn]
     exact covZ
  ·rw [if_neg hup] at hsn
   simp only [not_or] at hup
   have hpn : pre.length ≠ 0 := fun h => hup.1 (List.eq_nil_of_length_eq_zero h)
   have hup2 := hup.2
   refine AM rfl ?_
   refine A8 rfl ?_
   refine AD ?_
   refine AD ?_
   refine AA ?_
   refine AB ?_
   refine AX ?_
   refine BT ?_
   refine AB ?_
   refine AB ?_
   refine AB ?_
   refine A9 ?_
   refine CP ?_
   refine AF ?_
   refine AB ?_
   refine AY ?_
   refine AJ ?_
   refine AE ?_
   refine AM rfl ?_
   refine AL ?_
   refine AD ?_
   refine AA ?_
   refine AB ?_
   refine AB ?_
   refine BB ?_; rintro _ _ ⟨b, rfl, rfl⟩
   refine BK (B0 (by_ := 8) (s := 1) (news := [int (i : Int)]) rfl rfl rfl rfl rfl rfl rfl hP takeZ (cells_own memZ) rfl (by (repeat (first | exact (fun v hv => absurd hv List.not_mem_nil) | (refine List.forall_mem_cons.2 ⟨?_, ?_⟩; (focus (first | exact rfl | assumption))))); first | done | fail) (by omega) (by simp only [maxLen]; omega) (by omega)) rfl rfl rfl ?_
   rintro q9 _ ⟨ρ3, hQ3, rfl⟩
   refine AC ?_
   refine AE ?_
   refine AA ?_
   refine AB ?_
   refine AB ?_
   refine A9 ?_
   refine CP ?_
   refine AF ?_
   refine AC ?_
   refine AE ?_
   refine A3 ?_
   refine AV ((pre ++ [ls[i]], ls[i].t), (q9, ρ3)) ⟨hx0n.2, by dsimp only; omega, ?_, hfin q9 ρ3 hQ3, ?_⟩ (by dsimp only; omega) ?_ selZ
   ·dsimp only
    rw [hpre, pathD_step hx0 hdw hx0d, List.append_assoc]; rfl
   ·dsimp only
    rw [List.length_append, List.length_singleton]; omega
   ·dsimp only
    rw [hsn]
    exact covZ
 ·have hnoi := hno i ls[i] (by omega) hx
  by_cases h1 : 0 < rm ls[i].k
  ·by_cases h2 : ls[i].f = w
   ·have h3 : D.getD ls[i].t 0 ≠ D.getD w 0 - 1 := fun h => by
     rw [decide_eq_true h1, decide_eq_true h2] at hnoi
     unfold near at hnoi
     rw [decide_eq_true h] at hnoi
     simp at hnoi
    refine AD ?_
    refine AD ?_
    refine A5 (.q 0 (.q 1 (.q 2 (.q 3 (.q 4 (.q 5 (.q 6 (.q 7 (.q 8 (.q 9 (.q 10 (.q 11 (.q 12 (.q 13 (.q 14 (.q 15 (.q 16 (.q 17 (.q 18 (.q 19 (.q 20 (.q 21 (.q 22 (.q 23 (.q 24 (.q 25 (.q 26 (.q 27 (.q 28 (.q 29 (.q 30 .nil))))))))))))))))))))))))))))))) [] rfl (by kernel_rfl) selZ ?_
    refine AR ?_
    refine AR ?_
    refine BM ?_
    refine B6 ?_
    refine AP ?_
    refine EE ?_
    refine AR ?_
    refine AR ?_
    refine AR ?_
    refine BM ?_
    refine CH ?_
    refine AP ?_
    refine AR ?_
    refine FJ ?_
    refine BX ?_
    refine AR ?_
    refine AR ?_
    refine AR ?_
    refine AR ?_
    refine BM ?_
    refine B6 ?_
    refine AP ?_
    refine BV ?_
    refine AP ?_
    refine AR ?_
    refine AR ?_
    refine BV ?_
    refine AP ?_
    refine DR ?_
    refine zd_ne ?_
    refine BX ?_
    refine A6 ?_
    refine AN rfl ?_
    refine AL ?_
    refine AO ?_
    refine AA ?_
    refine AB ?_
    refine BA ?_
    refine AC ?_
    refine AE ?_
    refine A3 ?_
    exact AV (i + 1) (by omega) (by omega) covZ selZ
   ·refine AD ?_
    refine AD ?_
    refine A5 (.q 0 (.q 1 (.q 2 (.q 3 (.q 4 (.q 5 (.q 6 (.q 7 (.q 8 (.q 9 (.q 10 (.q 11 (.q 12 (.q 13 (.q 14 (.q 15 (.q 16 (.q 17 (.q 18 (.q 19 (.q 20 (.q 21 (.q 22 (.q 23 (.q 24 (.q 25 (.q 26 (.q 27 (.q 28 (.q 29 (.q 30 .nil))))))))))))))))))))))))))))))) [] rfl (by kernel_rfl) selZ ?_
    refine AR ?_
    refine AR ?_
    refine BM ?_
    refine B6 ?_
    refine AP ?_
    refine EE ?_
    refine AR ?_
    refine AR ?_
    refine AR ?_
    refine BM ?_
    refine CH ?_
    refine AP ?_
    refine AR ?_
    refine zd_ne ?_
    refine BX ?_
    refine AR ?_
    refine AZ rfl rfl rfl rfl rfl ?_
    refine AZ rfl rfl rfl rfl rfl ?_
    refine AZ rfl rfl rfl rfl rfl ?_
    refine AZ rfl rfl rfl rfl rfl ?_
    refine AZ rfl rfl rfl rfl rfl ?_
    refine AZ rfl rfl rfl rfl rfl ?_
    refine AZ rfl rfl rfl rfl rfl ?_
    refine AZ rfl rfl rfl rfl rfl ?_
    refine AZ rfl rfl rfl rfl rfl ?_
    refine AZ rfl rfl rfl rfl rfl ?_
    refine AZ rfl rfl rfl rfl rfl ?_
    refine AZ rfl rfl rfl rfl rfl ?_
    refine AZ rfl rfl rfl rfl rfl ?_
    refine AZ rfl rfl rfl rfl rfl ?_
    refine BS ?_
    refine A6 ?_
    refine AN rfl ?_
    refine AL ?_
    refine AO ?_
    refine AA ?_
    refine AB ?_
    refine BA ?_
    refine AC ?_
    refine AE ?_
    refine A3 ?_
    exact AV (i + 1) (by omega) (by omega) covZ selZ
  ·refine AD ?_
   refine AD ?_
   refine A5 (.q 0 (.q 1 (.q 2 (.q 3 (.q 4 (.q 5 (.q 6 (.q 7 (.q 8 (.q 9 (.q 10 (.q 11 (.q 12 (.q 13 (.q 14 (.q 15 (.q 16 (.q 17 (.q 18 (.q 19 (.q 20 (.q 21 (.q 22 (.q 23 (.q 24 (.q 25 (.q 26 (.q 27 (.q 28 (.q 29 (.q 30 .nil))))))))))))))))))))))))))))))) [] rfl (by kernel_rfl) selZ ?_
   refine AR ?_
   refine AR ?_
   refine BM ?_
   refine B6 ?_
   refine AP ?_
   refine GN ?_
   refine AR ?_
   refine AZ rfl rfl rfl rfl rfl ?_
   refine AZ rfl rfl rfl rfl rfl ?_
   refine AZ rfl rfl rfl rfl rfl ?_
   refine AZ rfl rfl rfl rfl rfl ?_
   refine AZ rfl rfl rfl rfl rfl ?_
   refine AZ rfl rfl rfl rfl rfl ?_
   refine AZ rfl rfl rfl rfl rfl ?_
   refine BS ?_
   refine AR ?_
   refine AZ rfl rfl rfl rfl rfl ?_
   refine AZ rfl rfl rfl rfl rfl ?_
   refine AZ rfl rfl rfl rfl rfl ?_
   refine AZ rfl rfl rfl rfl rfl ?_
   refine AZ rfl rfl rfl rfl rfl ?_
   refine AZ rfl rfl rfl rfl rfl ?_
   refine AZ rfl rfl rfl rfl rfl ?_
   refine AZ rfl rfl rfl rfl rfl ?_
   refine AZ rfl rfl rfl rfl rfl ?_
   refine AZ rfl rfl rfl rfl rfl ?_
   refine AZ rfl rfl rfl rfl rfl ?_
   refine AZ rfl rfl rfl rfl rfl ?_
   refine AZ rfl rfl rfl rfl rfl ?_
   refine AZ rfl rfl rfl rfl rfl ?_
   refine BS ?_
   refine A6 ?_
   refine AN rfl ?_
   refine AL ?_
   refine AO ?_
   refine AA ?_
   refine AB ?_
   refine BA ?_
   refine AC ?_
   refine AE ?_
   refine A3 ?_
   exact AV (i + 1) (by omega) (by omega) covZ selZ
end Go.Proofs.YthdoegkjifgegaaGreat
