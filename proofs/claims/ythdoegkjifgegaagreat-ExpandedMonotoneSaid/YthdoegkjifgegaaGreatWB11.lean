/- Texts of this proof, one after the other; no conditions. -/
import Derived.Laws.Externs
import Derived.Test.YthdoegkjifgegaaGreatWB9
import Derived.Test.YthdoegkjifgegaaGreatWB10
import Derived.Test.YthdoegkjifgegaaGreatWB3
import Derived.Test.YthdoegkjifgegaaGreatWB8
import Derived.Test.YthdoegkjifgegaaGreatWB6
import Derived.Test.YthdoegkjifgegaaGreatWB4
import Derived.Test.YthdoegkjifgegaaGreatWB2
import Derived.Test.YthdoegkjifgegaaGreatWB7
import Derived.Test.YthdoegkjifgegaaGreatWB5
set_option linter.all false
/- What is reached: a search by a queue. What Max and Cut hand back. No program in sight. No conditions. -/
namespace Go.Flow
def bget (B : List Bool) (v : Nat) : Bool := B.getD v false
theorem bget_set {B : List Bool} {i j : Nat} {x : Bool} (hi : i < B.length) : bget (B.set i x) j = if i = j then x else bget B j := by
  unfold bget
  rw [List.getD_eq_getElem?_getD, List.getD_eq_getElem?_getD, List.getElem?_set]
  split
  · rename_i h; subst h; simp [hi]
  · rfl
theorem bget_rep (n v : Nat) : bget (List.replicate n false) v = false := by
  unfold bget
  rw [List.getD_eq_getElem?_getD, List.getElem?_replicate]
  split <;> rfl
structure RInv (n s : Nat) (E : Lk → Prop) (B : List Bool) (q : List Nat) : Prop where
  len : B.length = n
  src : bget B s = true
  snd : ∀ v, v < n → bget B v = true → Rch E s v
  qn : ∀ v ∈ q, v < n ∧ bget B v = true
  cl : ∀ u, u < n → bget B u = true → u ∉ q → ∀ x, E x → x.f = u → bget B x.t = true
structure RVInv (n s : Nat) (E : Lk → Prop) (B : List Bool) (v : Nat) (q : List Nat) (pre : List Lk) : Prop where
  len : B.length = n
  src : bget B s = true
  snd : ∀ v, v < n → bget B v = true → Rch E s v
  vn : v < n
  v0 : bget B v = true
  qn : ∀ v ∈ q, v < n ∧ bget B v = true
  cl : ∀ u, u < n → bget B u = true → u ∉ q → u ≠ v → ∀ x, E x → x.f = u → bget B x.t = true
  pre0 : ∀ x ∈ pre, bget B x.t = true
section
variable {n s : Nat} {E : Lk → Prop} {B : List Bool}
theorem RInv.start (hs : s < n) : RInv n s E ((List.replicate n false).set s true) [s] := by
  have hg : ∀ v, bget ((List.replicate n false).set s true) v = true → v = s := fun v h => by
    rw [bget_set (by simpa using hs), bget_rep] at h
    split at h
    · rename_i e; exact e.symm
    · simp at h
  refine ⟨by simp, by rw [bget_set (by simpa using hs)]; simp, fun v _ h => by rw [hg v h]; exact .refl, fun v hv => ?_, fun u _ h hq => ?_⟩
  · simp at hv; subst hv
    exact ⟨hs, by rw [bget_set (by simpa using hs)]; simp⟩
  · exact absurd (by rw [hg u h]; simp) hq
theorem RInv.take {v : Nat} {q : List Nat} (h : RInv n s E B (v :: q)) : RVInv n s E B v q [] :=
  ⟨h.len, h.src, h.snd, (h.qn v (by simp)).1, (h.qn v (by simp)).2, fun u hu => h.qn u (by simp [hu]), fun u hu hb hq hne => h.cl u hu hb (by simp [hq, hne]), by simp⟩
theorem RVInv.seen {v : Nat} {q : List Nat} {pre : List Lk} {x : Lk} (h : RVInv n s E B v q pre) (hx : bget B x.t = true) : RVInv n s E B v q (pre ++ [x]) :=
  ⟨h.len, h.src, h.snd, h.vn, h.v0, h.qn, h.cl, fun y hy => by
    rcases List.mem_append.1 hy with hy | hy
    · exact h.pre0 y hy
    · rw [List.mem_singleton.1 hy]; exact hx⟩
theorem RVInv.push {v : Nat} {q : List Nat} {pre : List Lk} {x : Lk} (h : RVInv n s E B v q pre) (hE : E x) (hxt : x.t < n) (hxf : x.f = v) : RVInv n s E (B.set x.t true) v (q ++ [x.t]) (pre ++ [x]) := by
  have hl : x.t < B.length := by rw [h.len]; exact hxt
  have hg : ∀ u, bget B u = true → bget (B.set x.t true) u = true := fun u hu => by rw [bget_set hl]; split <;> simp [hu]
  refine ⟨by simp [h.len], hg _ h.src, fun u hu hb => ?_, h.vn, hg _ h.v0, fun u hu => ?_, fun u hu hb hq hne y hy hyf => ?_, fun y hy => ?_⟩
  · rw [bget_set hl] at hb
    split at hb
    · rename_i e; rw [← e]
      exact .step (by rw [hxf]; exact h.snd v h.vn h.v0) hE
    · exact h.snd u hu hb
  · rcases List.mem_append.1 hu with hu | hu
    · exact ⟨(h.qn u hu).1, hg _ (h.qn u hu).2⟩
    · rw [List.mem_singleton.1 hu]
      exact ⟨hxt, by rw [bget_set hl]; simp⟩
  · simp only [List.mem_append, List.mem_singleton, not_or] at hq
    rw [bget_set hl] at hb
    split at hb
    · rename_i e; exact absurd e.symm hq.2
    · exact hg _ (h.cl u hu hb hq.1 hne y hy hyf)
  · rcases List.mem_append.1 hy with hy | hy
    · exact hg _ (h.pre0 y hy)
    · rw [List.mem_singleton.1 hy, bget_set hl]; simp
theorem RVInv.done {v : Nat} {q : List Nat} {pre : List Lk} (h : RVInv n s E B v q pre) (hall : ∀ x, E x → x.f = v → x ∈ pre) : RInv n s E B q :=
  ⟨h.len, h.src, h.snd, h.qn, fun u hu hb hq x hx hxf => by
    by_cases e : u = v
    · subst e; exact h.pre0 x (hall x hx hxf)
    · exact h.cl u hu hb hq e x hx hxf⟩
end
/-- the vertices of a set, in ascending order -/
def sideOf (B : List Bool) (k : Nat) : List Int := ((List.range k).filter (fun v => bget B v)).map (fun (v : Nat) => (v : Int))
theorem capOf_congr {n : Nat} {p q : Nat → Bool} (h : ∀ v, v < n → p v = q v) : ∀ l : List Arc, (∀ a ∈ l, okArc n a = true) → capOf p l = capOf q l
  | [], _ => rfl
  | a :: l, hok => by
    obtain ⟨g1, g2, g3, g4, _⟩ := okArc_iff.1 (hok a (by simp))
    simp only [capOf]
    rw [capOf_congr h l (fun b hb => hok b (by simp [hb])), h a.f.toNat (by omega), h a.t.toNat (by omega)]
/-- why there is no maximum flow -/
def maxErr (n : Int) (l : List Arc) (s t : Int) : Int := if chk n l ≠ 0 then chk n l else if okEnds n s t = true then 0 else 2
/-- what Max hands back -/
def MaxOK (n : Int) (l : List Arc) (s t : Int) (F : List Int) (m e : Int) : Prop :=
  (maxErr n l s t ≠ 0 ∧ e = maxErr n l s t ∧ F = [] ∧ m = 0) ∨
  (maxErr n l s t = 0 ∧ e = 0 ∧ RunR n.toNat l s.toNat t.toNat (List.replicate l.length 0) F ∧ m = fval s l F)
/-- what Cut hands back -/
def CutOK (n : Int) (l : List Arc) (s t : Int) (side : List Int) (c e : Int) : Prop :=
  (maxErr n l s t ≠ 0 ∧ e = maxErr n l s t ∧ side = [] ∧ c = 0) ∨
  (maxErr n l s t = 0 ∧ e = 0 ∧ ∃ F B, RunR n.toNat l s.toNat t.toNat (List.replicate l.length 0) F ∧ IsReach n.toNat (rE l F) s.toNat (bget B) ∧ side = sideOf B n.toNat ∧ c = capOf (bget B) l)
/-- what there is where there is no error -/
structure Good (n : Int) (l : List Arc) (s t : Int) (n' s' t' : Nat) : Prop where
  en : n = n'
  es : s = s'
  et : t = t'
  sn : s' < n'
  tn : t' < n'
  ne : s' ≠ t'
  n2 : n' ≤ 2000
  l2 : l.length ≤ 20000
  ok : ∀ a ∈ l, okArc n' a = true
  chk : Flow.chk n l = 0
  ends : okEnds n s t = true
theorem maxErr_good {n s t : Int} {l : List Arc} (h : maxErr n l s t = 0) : ∃ n' s' t' : Nat, Good n l s t n' s' t' := by
  unfold maxErr at h
  split at h
  · rename_i h1; exact absurd h h1
  · rename_i h1
    split at h
    · rename_i h2
      have hc : Flow.chk n l = 0 := by omega
      obtain ⟨a1, a2, a3, a4⟩ := chk_ok hc
      obtain ⟨b1, b2, b3, b4, b5⟩ := okEnds_iff.1 h2
      refine ⟨n.toNat, s.toNat, t.toNat, ⟨by omega, by omega, by omega, by omega, by omega, by omega, by omega, a3, ?_, hc, h2⟩⟩
      have e : ((n.toNat : Nat) : Int) = n := by omega
      rw [e]; exact a4
    · simp at h
theorem MaxOK.uniq {n s t : Int} {l : List Arc} {F G : List Int} {m k e f : Int} (h1 : MaxOK n l s t F m e) (h2 : MaxOK n l s t G k f) : F = G ∧ m = k ∧ e = f := by
  rcases h1 with ⟨a1, a2, a3, a4⟩ | ⟨a1, a2, a3, a4⟩ <;> rcases h2 with ⟨b1, b2, b3, b4⟩ | ⟨b1, b2, b3, b4⟩
  · exact ⟨by rw [a3, b3], by rw [a4, b4], by rw [a2, b2]⟩
  · exact absurd b1 a1
  · exact absurd a1 b1
  · obtain ⟨n', s', t', g⟩ := maxErr_good a1
    obtain ⟨rfl, rfl, rfl⟩ := And.intro g.en (And.intro g.es g.et)
    simp only [Int.toNat_natCast] at a3 b3
    have e := a3.uniq g.ok b3
    subst e
    exact ⟨rfl, by rw [a4, b4], by rw [a2, b2]⟩
theorem sideOf_congr {B C : List Bool} {n : Nat} (h : ∀ v, v < n → bget B v = bget C v) : sideOf B n = sideOf C n := by
  unfold sideOf
  congr 1
  apply List.filter_congr
  intro v hv
  exact h v (by simpa using hv)
theorem reach_uniq {n s : Nat} {E : Lk → Prop} {p q : Nat → Bool} (h1 : IsReach n E s p) (h2 : IsReach n E s q) : ∀ v, v < n → p v = q v := fun v hv => by
  have a := h1 v hv
  have b := h2 v hv
  cases e1 : p v <;> cases e2 : q v <;> simp_all
theorem CutOK.uniq {n s t : Int} {l : List Arc} {F G : List Int} {m k e f : Int} (h1 : CutOK n l s t F m e) (h2 : CutOK n l s t G k f) : F = G ∧ m = k ∧ e = f := by
  rcases h1 with ⟨a1, a2, a3, a4⟩ | ⟨a1, a2, F1, B1, r1, i1, d1, c1⟩ <;> rcases h2 with ⟨b1, b2, b3, b4⟩ | ⟨b1, b2, F2, B2, r2, i2, d2, c2⟩
  · exact ⟨by rw [a3, b3], by rw [a4, b4], by rw [a2, b2]⟩
  · exact absurd b1 a1
  · exact absurd a1 b1
  · obtain ⟨n', s', t', g⟩ := maxErr_good a1
    obtain ⟨rfl, rfl, rfl⟩ := And.intro g.en (And.intro g.es g.et)
    simp only [Int.toNat_natCast] at *
    have e := r1.uniq g.ok r2
    subst e
    have hb := reach_uniq i1 i2
    exact ⟨by rw [d1, d2]; exact sideOf_congr hb, by rw [c1, c2]; exact capOf_congr hb l g.ok, by rw [a2, b2]⟩
end Go.Flow
namespace Go.Flow
end Go.Flow
/- Max and Cut of the program. -/
namespace Go.Proofs.YthdoegkjifgegaaGreat
open Go.Eng Go.Flow
set_option maxRecDepth 100000
set_option maxHeartbeats 4000000

theorem flowMax_spec (ρ : PH) (v : Value) (n s t : Int) (l : List Arc) (hv : ArcsAt ρ v l) (hl : l.length ≤ 1000000) :
  Makes Tryz.prog (fv 36) [int n, v, int s, int t] [ρ] (fun r σ => ∃ fs F m e, r = .tuple #[fs, int m, int e] ∧ IntsAt σ fs F ∧ MaxOK n l s t F m e) := by
 have hnil : IntsAt emp (.slice none 0 0) [] := ⟨rfl, .inl ⟨rfl, none, 0, rfl⟩⟩
 refine spec_in (cap := []) Tryz.func36 rfl rfl Tryz.ntmps36 rfl envZ (fun N β => ?_)
 refine AD ?_
 refine AA ?_
 refine AC ?_
 refine AC ?_
 refine AC ?_
 refine AE ?_
 refine AD ?_
 refine AD ?_
 refine AA ?_
 refine AB ?_
 refine AB ?_
 focus ((refine A2 (check_spec ρ v n l hv hl) rfl rfl rdZ rfl rfl ?_; rintro _ rfl))
 refine AC ?_
 refine AE ?_
 refine AD ?_
 refine AA ?_
 refine AB ?_
 by_cases hc : chk n l = 0
 rotate_left
 ·refine CX ?_
  refine AE ?_
  refine AO rfl ?_
  refine AD ?_
  refine AA ?_
  refine AB ?_
  refine AC ?_
  refine AC ?_
  refine AC ?_
  refine AE ?_
  refine B5 ?_
  exact AI (res3 rfl rfl rfl rfl) rsubZ selZ ⟨emp, ⟨_, [], 0, _, rfl, hnil, .inl ⟨by unfold maxErr; rw [if_pos hc]; exact hc, by unfold maxErr; rw [if_pos hc], rfl, rfl⟩⟩, rfl⟩
 refine BM ?_
 refine AE ?_
 refine AN rfl ?_
 refine AM ?_
 refine AD ?_
 refine AD ?_
 refine AA ?_
 refine AB ?_
 refine AB ?_
 refine AB ?_
 focus ((refine A2 (ends_spec _ _ _) rfl rfl rdZ rfl rfl ?_; rintro _ rfl))
 refine AC ?_
 refine AE ?_
 refine AD ?_
 refine AA ?_
 refine AB ?_
 have hme : maxErr n l s t = if okEnds n s t = true then 0 else 2 := by unfold maxErr; rw [if_neg (by rw [hc]; simp)]
 cases he : okEnds n s t with
 | false =>
  rw [he] at hme
  simp only [Bool.false_eq_true, if_false] at hme ⊢
  refine CX ?_
  refine AE ?_
  refine AO rfl ?_
  refine AD ?_
  refine AA ?_
  refine AB ?_
  refine AC ?_
  refine AC ?_
  refine AC ?_
  refine AE ?_
  refine B5 ?_
  exact AI (res3 rfl rfl rfl rfl) rsubZ selZ ⟨emp, ⟨_, [], 0, _, rfl, hnil, .inl ⟨by rw [hme]; simp, by rw [hme], rfl, rfl⟩⟩, rfl⟩
 | true =>
  rw [he] at hme
  simp only [if_true] at hme ⊢
  obtain ⟨n', s', t', g⟩ := maxErr_good hme
  obtain ⟨rfl, rfl, rfl⟩ := And.intro g.en (And.intro g.es g.et)
  refine BM ?_
  refine AE ?_
  refine AN rfl ?_
  refine AM ?_
  refine AD ?_
  refine AA ?_
  refine AB ?_
  refine AB ?_
  refine AB ?_
  refine AB ?_
  refine BE (maximum_spec ρ v n' l s' t' hv g.n2 g.l2 g.ok g.sn g.tn g.ne) rfl rfl takesZ rdZ rfl rfl ?_
  rintro _ _ ⟨_, _, F, rfl, bf, gb, b1, b2, γ, rfl, rfl, _, hR, rfl⟩
  have hF := (hR.flw g.ok g.sn g.ne (flw_zeros g.ok)).1
  have hIn : IntsAt (sng bf (.cells (ints F) 3 (0, 0))) (.slice (some ⟨bf, 0, none⟩) l.length l.length) F := by rw [hF.len]; exact intsAt_sng
  simp only [List.cons_append, List.nil_append]
  refine AB ?_
  refine AL ?_
  refine AL ?_
  refine AC ?_
  refine AC ?_
  refine AE ?_
  refine AD ?_
  refine AA ?_
  refine AB ?_
  refine AB ?_
  refine AB ?_
  refine AB ?_
  refine A2 (value_spec ρ _ v _ s' l F hv hIn g.l2 hF.len.symm (inCap_small l F hF.len hF.cap g.ok)) rfl rfl rdZ rfl rfl ?_
  rintro _ rfl
  refine AC ?_
  refine AC ?_
  refine AC ?_
  refine AE ?_
  exact AI (res3 rfl rfl rfl rfl) rsubZ selZ ⟨_, ⟨_, F, _, _, rfl, hIn, .inr ⟨hme, rfl, hR, rfl⟩⟩, rfl⟩

end Go.Proofs.YthdoegkjifgegaaGreat
/- Maximum flows of time-expanded networks: least cuts, and less of what is there. No program in sight. No conditions. -/
namespace Go.Step
open Go.Flow (Flw fval okArc okArc_iff okEnds_iff capOf MaxOK maxErr RunR run_cut exists_reach)
section
variable {qs : List Int} {cs : List Ct} {bs : List Bk} {hs : List Hd} {d : Dm}
/-- Max's answer for the network of a demand -/
def MaxN (qs : List Int) (cs : List Ct) (bs : List Bk) (hs : List Hd) (d : Dm) (F : List Int) (m e : Int) : Prop := MaxOK (vsN qs d) (arcsG qs cs bs hs d) (vtx d d.s d.r) (vtx d d.d d.e) F m e
theorem max_err (h : VOk qs cs bs hs d) : maxErr (vsN qs d) (arcsG qs cs bs hs d) (vtx d d.s d.r) (vtx d d.d d.e) = 0 := by
  unfold maxErr
  rw [h.chk, h.ends]
  rfl
/-- a maximum flow, and a least cut -/
theorem max_cut (h : VOk qs cs bs hs d) {F : List Int} {m e : Int} (hm : MaxN qs cs bs hs d F m e) : e = 0 ∧ ∃ N S T : Nat, vsN qs d = N ∧ vtx d d.s d.r = S ∧ vtx d d.d d.e = T ∧ Flw N (arcsG qs cs bs hs d) S T F ∧ m = fval S (arcsG qs cs bs hs d) F ∧
    ∃ P : Int → Int → Bool, P d.s d.r = true ∧ P d.d d.e = false ∧ m = capB qs cs bs hs d P := by
  have hends := okEnds_iff.1 h.ends
  obtain ⟨N, hN⟩ : ∃ N : Nat, vsN qs d = N := ⟨(vsN qs d).toNat, by omega⟩
  obtain ⟨S, hS⟩ : ∃ N : Nat, vtx d d.s d.r = N := ⟨(vtx d d.s d.r).toNat, by omega⟩
  obtain ⟨T, hT⟩ : ∃ N : Nat, vtx d d.d d.e = N := ⟨(vtx d d.d d.e).toNat, by omega⟩
  have hok := h.ok
  unfold MaxN at hm
  have he := max_err h
  rw [hN] at hok
  rw [hN, hS, hT] at hm hends he
  rcases hm with ⟨a1, _⟩ | ⟨_, a2, a3, a4⟩
  · exact absurd he a1
  simp only [Int.toNat_natCast] at a3
  obtain ⟨B, hB⟩ := exists_reach N (Go.Flow.rE (arcsG qs cs bs hs d) F) S
  obtain ⟨f1, f2, f3, f4⟩ := run_cut hok (by omega) (by omega) (by omega) a3 hB
  refine ⟨a2, N, S, T, hN, hS, hT, f1, a4, fun n t => B (vtx d n t).toNat, by show B (vtx d d.s d.r).toNat = true; rw [hS]; exact f2, by show B (vtx d d.d d.e).toNat = false; rw [hT]; exact f3, ?_⟩
  rw [a4, f4, capB_eq h]
/-- no flow is greater than a cut -/
theorem flow_le_cap (h : VOk qs cs bs hs d) {fl : List Int} {N S T : Nat} (hN : vsN qs d = N) (hS : vtx d d.s d.r = S) (hT : vtx d d.d d.e = T) (hf : Flw N (arcsG qs cs bs hs d) S T fl) {P : Int → Int → Bool} (h1 : P d.s d.r = true) (h2 : P d.d d.e = false) : fval S (arcsG qs cs bs hs d) fl ≤ capB qs cs bs hs d P := by
  have hdm := h.dm
  unfold okDm at hdm
  have hok := h.ok
  have hends := okEnds_iff.1 h.ends
  rw [hN] at hok
  have b1 : bq d P S = true := by
    have := bq_vtx (d := d) (P := P) (n := d.s) (t := d.r) hdm.1.1 (by omega) (by omega)
    rw [hS, Int.toNat_natCast] at this
    rw [this]; exact h1
  have b2 : bq d P T = false := by
    have := bq_vtx (d := d) (P := P) (n := d.d) (t := d.e) hdm.2.1.1 (by omega) (by omega)
    rw [hT, Int.toNat_natCast] at this
    rw [this]; exact h2
  have := hf.le_cap hok (by omega) b1 b2
  rw [capB_eq h] at this
  rwa [capB_congr h (C := P) (fun n t g0 g1 g2 g3 => bq_vtx g0 g2 g3)] at this
theorem sumT_le {f g : Int → Int} {a : Int} {m : Nat} (h : ∀ k : Nat, k < m → f (a + k) ≤ g (a + k)) : sumT f a m ≤ sumT g a m := by
  have := sumT_le4 (f := f) (g := fun _ => 0) (p := g) (q := fun _ => 0) (a := a) (m := m) (fun k hk => by have := h k hk; omega)
  omega
theorem lsum_le {α : Type} {f g : α → Int} {l : List α} (h : ∀ x ∈ l, f x ≤ g x) : lsum f l ≤ lsum g l := by
  induction l with
  | nil => exact Int.le_refl _
  | cons x l ih => have := h x (by simp); have := ih (fun y hy => h y (by simp [hy])); simp only [lsum]; omega
theorem lsum_nonneg {α : Type} {f : α → Int} {l : List α} (h : ∀ x ∈ l, 0 ≤ f x) : 0 ≤ lsum f l := by
  have := lsum_le (f := fun _ => 0) h
  rwa [lsum_zero] at this
theorem lsum_mem {α : Type} {f : α → Int} {l : List α} (h : ∀ x ∈ l, 0 ≤ f x) {x : α} (hx : x ∈ l) : f x ≤ lsum f l := by
  induction l with
  | nil => simp at hx
  | cons y l ih =>
    have h1 := h y (by simp)
    have h2 := lsum_nonneg (f := f) (l := l) (fun z hz => h z (by simp [hz]))
    simp only [lsum]
    rcases List.mem_cons.1 hx with rfl | hx
    · omega
    · have := ih (fun z hz => h z (by simp [hz])) hx
      omega
theorem waitB_nonneg (h : VOk qs cs bs hs d) (P : Int → Int → Bool) {n : Nat} (hn : n < qs.length) (t : Int) : 0 ≤ waitB qs hs d P n t := by
  unfold waitB
  have := h.room n hn t
  split <;> omega
theorem conB_nonneg (h : VOk qs cs bs hs d) (P : Int → Int → Bool) {i : Nat} (hi : i < cs.length) (t : Int) : 0 ≤ conB cs bs d P i t ∧ conB cs bs d P i t ≤ 1000 := by
  unfold conB
  rw [Int.toNat_natCast, List.getElem?_eq_getElem hi]
  have := (h.ct _ (List.getElem_mem hi)).2.2.2.1
  dsimp only
  split <;> omega
theorem capB_wait_le (h : VOk qs cs bs hs d) (P : Int → Int → Bool) {n : Nat} (hn : n < qs.length) {t : Int} (h1 : d.r ≤ t) (h2 : t < d.e) : waitB qs hs d P n t ≤ capB qs cs bs hs d P := by
  have hw : ∀ k : Nat, k < qs.length → 0 ≤ sumU (waitB qs hs d P k) d.r d.e := fun k hk => by
    rw [← lsum_rngI]
    exact lsum_nonneg (fun t _ => waitB_nonneg h P hk t)
  have hc : 0 ≤ sumT (fun i => sumU (conB cs bs d P i) d.r d.e) 0 cs.length := by
    rw [← lsum_range]
    refine lsum_nonneg (fun i hi => ?_)
    obtain ⟨k, hk, rfl⟩ := List.mem_map.1 hi
    rw [List.mem_range] at hk
    rw [← lsum_rngI, Int.zero_add]
    exact lsum_nonneg (fun t _ => (conB_nonneg h P hk t).1)
  have h3 : sumU (waitB qs hs d P n) d.r d.e ≤ sumT (fun n => sumU (waitB qs hs d P n) d.r d.e) 0 qs.length := by
    rw [← lsum_range]
    refine lsum_mem (f := fun n => sumU (waitB qs hs d P n) d.r d.e) (fun i hi => ?_) (List.mem_map.2 ⟨n, List.mem_range.2 hn, by omega⟩)
    obtain ⟨k, hk, rfl⟩ := List.mem_map.1 hi
    rw [List.mem_range] at hk
    have := hw k hk
    rwa [Int.zero_add]
  have h4 : waitB qs hs d P n t ≤ sumU (waitB qs hs d P n) d.r d.e := by
    rw [← lsum_rngI]
    exact lsum_mem (f := waitB qs hs d P n) (fun u _ => waitB_nonneg h P hn u) (mem_rngI.2 ⟨h1, h2⟩)
  unfold capB
  omega
/-- the cut around Dest is small -/
theorem capB_dest (h : VOk qs cs bs hs d) : capB qs cs bs hs d (fun n _ => decide (n ≠ d.d)) ≤ 6400000 := by
  have hdm := h.dm
  unfold okDm at hdm
  have hw : sumT (fun n => sumU (waitB qs hs d (fun n _ => decide (n ≠ d.d)) n) d.r d.e) 0 qs.length = 0 := by
    rw [← lsum_range, lsum_congr (g := fun _ => 0) (fun n _ => ?_), lsum_zero]
    rw [← lsum_rngI, lsum_congr (g := fun _ => 0) (fun t _ => ?_), lsum_zero]
    unfold waitB
    rw [if_neg (by simp)]
  have hc := sumT_bd (f := fun i => sumU (conB cs bs d (fun n _ => decide (n ≠ d.d)) i) d.r d.e) (B := 1000 * 100) (fun i => sumU_bd (B := 1000) (by omega) (fun t => by
    unfold conB
    cases e : cs[i.toNat]? with
    | none => dsimp only; omega
    | some x =>
      have := (h.ct x (List.mem_of_getElem? e)).2.2.2.1
      dsimp only
      split <;> omega) (by omega)) 0 cs.length
  have := h.nc
  unfold capB
  rw [hw]
  omega
end
/-- with more bookings, more holds, or an earlier deadline, no more can be brought -/
theorem max_mono {qs : List Int} {cs : List Ct} {bs bs' : List Bk} {hs hs' : List Hd} {d d' : Dm} (h : VOk qs cs bs hs d) (h' : VOk qs cs bs' hs' d') (es : d'.s = d.s) (ed : d'.d = d.d) (er : d'.r = d.r) (ee : d'.e ≤ d.e)
    (hb : ∀ i t, bookedB bs' i t = false → bookedB bs i t = false) (hst : ∀ n t, stored hs n t ≤ stored hs' n t) {F F' : List Int} {m m' e e' : Int} (hm : MaxN qs cs bs hs d F m e) (hm' : MaxN qs cs bs' hs' d' F' m' e') : m' ≤ m := by
  obtain ⟨_, _, _, _, _, _, _, _, _, P, p1, p2, p3⟩ := max_cut h hm
  obtain ⟨_, N, S, T, hN, hS, hT, hf, hv, _⟩ := max_cut h' hm'
  have hdm := h.dm
  unfold okDm at hdm
  have hdm' := h'.dm
  unfold okDm at hdm'
  have hsmall : m' ≤ 6400000 := by
    rw [hv]
    refine Int.le_trans (flow_le_cap h' hN hS hT hf (P := fun n _ => decide (n ≠ d'.d)) ?_ (by simp)) (capB_dest h')
    exact decide_eq_true (by omega)
  by_cases hP : P d'.d d'.e = false
  · rw [hv, p3]
    refine Int.le_trans (flow_le_cap h' hN hS hT hf (P := P) (by rw [es, er]; exact p1) hP) ?_
    unfold capB
    have hU : ∀ (f g : Int → Int), (∀ t, d.r ≤ t → t < d'.e → f t ≤ g t) → (∀ t, 0 ≤ g t) → sumU f d'.r d'.e ≤ sumU g d.r d.e := fun f g h1 h2 => by
      rw [er, ← lsum_rngI, ← lsum_rngI]
      have e1 : rngI d.r d.e = rngI d.r d'.e ++ rngI d'.e d.e := by
        refine asc_ext (rngI_asc _ _) ?_ (fun u => ?_)
        · rw [List.pairwise_append]
          refine ⟨rngI_asc _ _, rngI_asc _ _, fun a ha b hb => ?_⟩
          rw [mem_rngI] at ha hb
          omega
        · rw [List.mem_append, mem_rngI, mem_rngI, mem_rngI]
          omega
      rw [e1, lsum_append]
      have a := lsum_le (f := f) (g := g) (l := rngI d.r d'.e) (fun t ht => by rw [mem_rngI] at ht; exact h1 t ht.1 ht.2)
      have b := lsum_nonneg (f := g) (l := rngI d'.e d.e) (fun t _ => h2 t)
      omega
    have hw : sumT (fun n => sumU (waitB qs hs' d' P n) d'.r d'.e) 0 qs.length ≤ sumT (fun n => sumU (waitB qs hs d P n) d.r d.e) 0 qs.length := sumT_le (fun k hk => by
      rw [Int.zero_add]
      refine hU _ _ (fun t _ _ => ?_) (fun t => waitB_nonneg h P hk t)
      unfold waitB roomT
      rw [es, ed]
      have := hst k t
      split
      · split <;> omega
      · exact Int.le_refl _)
    have hc : sumT (fun i => sumU (conB cs bs' d' P i) d'.r d'.e) 0 cs.length ≤ sumT (fun i => sumU (conB cs bs d P i) d.r d.e) 0 cs.length := sumT_le (fun k hk => by
      rw [Int.zero_add]
      refine hU _ _ (fun t _ _ => ?_) (fun t => (conB_nonneg h P hk t).1)
      have hnn := (conB_nonneg h P hk t).1
      unfold conB at hnn ⊢
      rw [Int.toNat_natCast, List.getElem?_eq_getElem hk] at hnn ⊢
      dsimp only at hnn ⊢
      by_cases hcnd : cs[k].s ≤ t ∧ t < cs[k].e ∧ t + 1 + cs[k].g ≤ d'.e ∧ bookedB bs' k t = false ∧ (P cs[k].f t && !P cs[k].t (t + 1 + cs[k].g)) = true
      · rw [if_pos hcnd, if_pos ⟨hcnd.1, hcnd.2.1, by omega, hb _ _ hcnd.2.2.2.1, hcnd.2.2.2.2⟩]
        exact Int.le_refl _
      · rw [if_neg hcnd]
        exact hnn)
    omega
  · -- Dest is in the cut at the earlier deadline: somewhere it leaves it
    have hP1 : P d.d d'.e = true := by rw [← ed]; simpa using hP
    have hstep : ∀ j : Nat, P d.d (d'.e + j) = false → ∃ t, d'.e ≤ t ∧ t < d'.e + j ∧ P d.d t = true ∧ P d.d (t + 1) = false := by
      intro j
      induction j with
      | zero => intro h0; rw [show d'.e + ((0 : Nat) : Int) = d'.e by omega, hP1] at h0; simp at h0
      | succ j ih =>
        intro h0
        cases hj : P d.d (d'.e + j) with
        | true => exact ⟨d'.e + j, by omega, by omega, hj, by rw [show d'.e + (j : Int) + 1 = d'.e + ((j + 1 : Nat) : Int) by omega]; exact h0⟩
        | false =>
          obtain ⟨t, k1, k2, k3⟩ := ih hj
          exact ⟨t, k1, by omega, k3⟩
    obtain ⟨t, k1, k2, k3, k4⟩ := hstep (d.e - d'.e).toNat (by rw [show d'.e + ((d.e - d'.e).toNat : Int) = d.e by omega]; exact p2)
    obtain ⟨dd, hdd⟩ : ∃ n : Nat, d.d = n := ⟨d.d.toNat, by omega⟩
    have hw := capB_wait_le h P (n := dd) (by omega) (t := t) (by omega) (by omega)
    have hval : waitB qs hs d P dd t = 1099511627776 := by
      unfold waitB roomT
      rw [← hdd, k3, k4, if_pos (show (true && !false) = true from rfl), if_pos (.inr rfl)]
    omega
end Go.Step
/- The chapter's example: its network, its maximum flows, their shipments, a cut. No program in sight. No conditions. -/
namespace Go.Step
open Go.Flow (Flw fval okArc capOf MaxOK inCap)
def eQ : List Int := [0, 1, 0]
def eC : List Ct := [⟨0, 1, 0, 2, 3, 1, 0⟩, ⟨1, 2, 3, 5, 3, 1, 0⟩]
def eD : Dm := ⟨0, 2, 4, 0, 6⟩
def eF : List Int := [3, 0, 0, 0, 0, 0, 0, 0, 1, 1, 0, 0, 0, 0, 0, 0, 0, 3, 1, 3, 3, 1]
abbrev eK : Int := 1099511627776
def eA : List EA := [⟨⟨0, 1, eK⟩, -1, 0⟩, ⟨⟨1, 2, eK⟩, -1, 1⟩, ⟨⟨2, 3, eK⟩, -1, 2⟩, ⟨⟨3, 4, eK⟩, -1, 3⟩, ⟨⟨4, 5, eK⟩, -1, 4⟩, ⟨⟨5, 6, eK⟩, -1, 5⟩,
  ⟨⟨7, 8, 1⟩, -1, 0⟩, ⟨⟨8, 9, 1⟩, -1, 1⟩, ⟨⟨9, 10, 1⟩, -1, 2⟩, ⟨⟨10, 11, 1⟩, -1, 3⟩, ⟨⟨11, 12, 1⟩, -1, 4⟩, ⟨⟨12, 13, 1⟩, -1, 5⟩,
  ⟨⟨14, 15, eK⟩, -1, 0⟩, ⟨⟨15, 16, eK⟩, -1, 1⟩, ⟨⟨16, 17, eK⟩, -1, 2⟩, ⟨⟨17, 18, eK⟩, -1, 3⟩, ⟨⟨18, 19, eK⟩, -1, 4⟩, ⟨⟨19, 20, eK⟩, -1, 5⟩,
  ⟨⟨0, 9, 3⟩, 0, 0⟩, ⟨⟨1, 10, 3⟩, 0, 1⟩, ⟨⟨10, 19, 3⟩, 1, 3⟩, ⟨⟨11, 20, 3⟩, 1, 4⟩]
theorem eValid : validT eQ eC [] [] eD = true := by decide +kernel
theorem eArcs : arcsE eQ eC [] [] eD = eA := by decide +kernel
theorem eVs : vsN eQ eD = 21 := by decide +kernel
theorem eS : vtx eD eD.s eD.r = 0 := by decide +kernel
theorem eT : vtx eD eD.d eD.e = 20 := by decide +kernel
theorem eG : arcsG eQ eC [] [] eD = eA.map (fun x => x.a) := by unfold arcsG; rw [eArcs]
theorem eFlow : Flw 21 (arcsG eQ eC [] [] eD) 0 20 eF := by
  rw [eG]
  exact ⟨by decide +kernel, by decide +kernel, by decide +kernel⟩
def eP (n t : Int) : Bool := decide (n = 0 ∨ (n = 1 ∧ t = 2))
theorem eCap : capB eQ eC [] [] eD eP = 4 := by
  decide +kernel
theorem eMax (hok : VOk eQ eC [] [] eD) {F : List Int} {m e : Int} (hm : MaxN eQ eC [] [] eD F m e) : e = 0 ∧ m = 4 ∧ Flw 21 (arcsG eQ eC [] [] eD) 0 20 F ∧ fval 0 (arcsG eQ eC [] [] eD) F = 4 := by
  obtain ⟨h0, N, S, T, hN, hS, hT, hf, hv, P, p1, p2, hc⟩ := max_cut hok hm
  rw [eVs] at hN
  rw [eS] at hS
  rw [eT] at hT
  obtain rfl : N = 21 := by omega
  obtain rfl : S = 0 := by omega
  obtain rfl : T = 20 := by omega
  have a : fval 0 (arcsG eQ eC [] [] eD) F ≤ capB eQ eC [] [] eD eP := flow_le_cap hok eVs eS eT hf (P := eP) (by decide) (by decide)
  have b : fval 0 (arcsG eQ eC [] [] eD) eF ≤ capB eQ eC [] [] eD P := flow_le_cap hok eVs eS eT eFlow p1 p2
  have c : fval 0 (arcsG eQ eC [] [] eD) eF = 4 := by rw [eG]; decide +kernel
  have hv' : m = fval 0 (arcsG eQ eC [] [] eD) F := hv
  rw [eCap] at a
  exact ⟨h0, by omega, hf, by omega⟩
theorem eValue {F : List Int} (hok : VOk eQ eC [] [] eD) (hf : Flw 21 (arcsG eQ eC [] [] eD) 0 20 F) : shipsE eQ eC [] [] eD F = 0 := by
  unfold shipsE
  rw [if_pos eValid, eVs, eS, eT]
  have h1 := hok.chk
  have h2 := hok.ends
  rw [eVs] at h1 h2
  rw [eS, eT] at h2
  unfold Go.Flow.valueSpec
  rw [if_neg (fun h => h h1), if_neg (by rw [h2]; simp), if_neg (fun h => h hf.len.symm), if_neg (by rw [hf.cap]; simp), if_neg]
  have hb : Go.Flow.balanced (21 : Int).toNat (arcsG eQ eC [] [] eD) F 0 20 = true := by
    unfold Go.Flow.balanced
    rw [List.all_eq_true]
    intro v hv
    rw [decide_eq_true_eq]
    have hv' : v < 21 := by simpa using hv
    by_cases c1 : v = 0
    · exact .inl (by omega)
    · by_cases c2 : v = 20
      · exact .inr (.inl (by omega))
      · exact .inr (.inr (hf.bal v hv' c1 c2))
  rw [hb]
  simp
set_option maxHeartbeats 8000000 in
theorem eShips {F : List Int} (hf : Flw 21 (arcsG eQ eC [] [] eD) 0 20 F) (hv : fval 0 (arcsG eQ eC [] [] eD) F = 4) : (shipsF eA F).length = 4 := by
  rw [eG] at hf hv
  have hl := hf.len
  have hc := hf.cap
  have e0 := hf.bal 1 (by omega) (by omega) (by omega)
  have e7 := hf.bal 7 (by omega) (by omega) (by omega)
  have e8 := hf.bal 8 (by omega) (by omega) (by omega)
  have e9 := hf.bal 9 (by omega) (by omega) (by omega)
  have e10 := hf.bal 10 (by omega) (by omega) (by omega)
  have e11 := hf.bal 11 (by omega) (by omega) (by omega)
  have e12 := hf.bal 12 (by omega) (by omega) (by omega)
  have e13 := hf.bal 13 (by omega) (by omega) (by omega)
  have e2 := hf.bal 2 (by omega) (by omega) (by omega)
  have e3 := hf.bal 3 (by omega) (by omega) (by omega)
  have e4 := hf.bal 4 (by omega) (by omega) (by omega)
  have e5 := hf.bal 5 (by omega) (by omega) (by omega)
  have e6 := hf.bal 6 (by omega) (by omega) (by omega)
  clear hf
  match F, hl with
  | [a0, a1, a2, a3, a4, a5, a6, a7, a8, a9, a10, a11, a12, a13, a14, a15, a16, a17, a18, a19, a20, a21], _ =>
    simp [eA, fval] at hv e0 e7 e8 e9 e10 e11 e12 e13 e2 e3 e4 e5 e6
    simp [eA, inCap] at hc
    simp only [eA, shipsF]
    rw [if_pos (show (0 : Int) ≤ 0 ∧ 0 < a18 by omega), if_pos (show (0 : Int) ≤ 0 ∧ 0 < a19 by omega), if_pos (show (0 : Int) ≤ 1 ∧ 0 < a20 by omega), if_pos (show (0 : Int) ≤ 1 ∧ 0 < a21 by omega)]
    simp
theorem eSides0 : sidesE eQ eC [] [] eD [0, 7, 8] = 0 := by decide +kernel
theorem eSides : sidesC eD 3 [0, 7, 8] = [[(0, 1)], [(0, 2)], []] := by decide +kernel
end Go.Step
/- The example is awake. -/
namespace Go.Proofs.YthdoegkjifgegaaGreat
open Go.Eng Go.Step
set_option maxRecDepth 100000
set_option maxHeartbeats 4000000

theorem example53_spec : Eng.Spec Tryz.prog (fv 38) [] [] [] (fun r H' => ∃ bq bc, r = .tuple #[.agg #[.slice (some ⟨bq, 0, none⟩) 3 3, .slice (some ⟨bc, 0, none⟩) 2 2, .slice none 0 0, .slice none 0 0], .agg #[int 0, int 2, int 4, int 0, int 6]] ∧ H' = [sng bq (.cells #[int 0, int 1, int 0] 3 (0, 0)), sng bc (.cells #[int 0, int 1, int 0, int 2, int 3, int 1, int 0, int 1, int 2, int 3, int 5, int 3, int 1, int 0] 70 (0, 0))]) := by
 refine spec_in (cap := []) Tryz.func38 rfl rfl Tryz.ntmps38 rfl envZ (fun N β => ?_)
 refine AD ?_
 refine AA ?_
 refine AY ?_; rintro _ _ ⟨b, rfl, rfl⟩
 refine AY ?_; rintro _ _ ⟨b, rfl, rfl⟩
 refine AE ?_
 refine AD ?_
 refine AA ?_
 refine BF ?_; rintro _ _ ⟨b, rfl, rfl⟩
 refine BZ ?_
 refine BZ ?_
 focus ((refine' BC _ rfl rfl rfl _; rotate_left; (focus (apply CP; exact rfl; exact rfl; exact rfl; exact rfl; exact rfl; exact (by (repeat (first | exact (fun v hv => absurd hv List.not_mem_nil) | (refine List.forall_mem_cons.2 ⟨?_, ?_⟩; (focus (first | exact rfl | assumption))))); first | done | fail); exact Flat.agg7 (Flat.agg7 Flat.nil); exact rfl)); rintro _ _ ⟨b, rfl, rfl⟩))
 refine BZ ?_
 refine AY ?_; rintro _ _ ⟨b, rfl, rfl⟩
 refine AX ?_; rintro _ _ ⟨rfl, rfl⟩
 refine AE ?_
 refine AD ?_
 refine AA ?_
 refine AT ?_
 revert b; intro bp
 revert b; intro bc
 revert b; intro bq
 revert b; intro bd
 revert b; intro bt
 refine B0 (DP (out := [.slice (some ⟨bq, 0, none⟩) 3 3, .slice (some ⟨bc, 0, none⟩) 2 2, .slice none 0 0, .slice none 0 0]) rfl rfl rfl rfl rfl) rfl rfl rfl ?_
 refine BZ ?_
 refine AX ?_; rintro _ _ ⟨rfl, rfl⟩
 refine AX ?_; rintro _ _ ⟨rfl, rfl⟩
 refine AE ?_
 exact AI (resS2 (b1 := bt) (b2 := bd) (T := 29) (U := 31) (v1 := [.slice (some ⟨bq, 0, none⟩) 3 3, .slice (some ⟨bc, 0, none⟩) 2 2, .slice none 0 0, .slice none 0 0]) (v2 := [int 0, int 2, int 4, int 0, int 6]) rfl rfl rfl rfl rfl rfl rfl (cells_own memZ) (cells_own memZ)) rsubZ selZ ⟨bq, bc, rfl, rfl⟩
set_option maxHeartbeats 32000000 in
theorem awake53_spec : Ans Tryz.prog (fv 9) [] [] (fun r => r = .bool true) := by
 have hlen : (arcsG eQ eC [] [] eD).length = 22 := by rw [eG]; rfl
 have hok := vok eValid
 refine spec_in (cap := []) Tryz.func9 rfl rfl Tryz.ntmps9 rfl envZ (fun N β => ?_)
 refine B5 ?_
 refine AD ?_
 refine AA ?_
 refine AC ?_
 refine AE ?_
 refine AD ?_
 refine AA ?_
 refine BE example53_spec rfl rfl Takes.nil rdZ rfl rfl ?_
 rintro _ _ ⟨bq, bc, rfl, rfl⟩
 refine AR (ρ := sng bq (.cells #[int 0, int 1, int 0] 3 (0, 0))) takeZ ?_
 refine AR (ρ := sng bc (.cells #[int 0, int 1, int 0, int 2, int 3, int 1, int 0, int 1, int 2, int 3, int 5, int 3, int 1, int 0] 70 (0, 0))) takeZ ?_
 refine AR (ρ := emp) takeZ ?_
 refine AB ?_
 refine AL ?_
 refine AL ?_
 refine AY ?_; rintro _ _ ⟨b, rfl, rfl⟩
 refine AY ?_; rintro _ _ ⟨b, rfl, rfl⟩
 refine AX ?_; rintro _ _ ⟨rfl, rfl⟩
 refine AX ?_; rintro _ _ ⟨rfl, rfl⟩
 refine AE ?_
 refine AD ?_
 refine AA ?_
 refine AT ?_
 refine AT ?_
 revert b; intro bd
 revert b; intro bt
 refine AR (ρ := sng bd _) takeZ ?_
 refine AR (ρ := sng bt _) takeZ ?_
 have ct : RdN (sng bt (.cells #[.slice (some ⟨bq, 0, none⟩) 3 3, .slice (some ⟨bc, 0, none⟩) 2 2, .slice none 0 0, .slice none 0 0] 29 (0, 0))) bt 0 [.slice (some ⟨bq, 0, none⟩) 3 3, .slice (some ⟨bc, 0, none⟩) 2 2, .slice none 0 0, .slice none 0 0] := rdN_sng (vs := [.slice (some ⟨bq, 0, none⟩) 3 3, .slice (some ⟨bc, 0, none⟩) 2 2, .slice none 0 0, .slice none 0 0])
 have cd : RdN (sng bd (.cells #[int 0, int 2, int 4, int 0, int 6] 31 (0, 0))) bd 0 [int 0, int 2, int 4, int 0, int 6] := rdN_sng (vs := [int 0, int 2, int 4, int 0, int 6])
 have hT : TbAt (sng bq (.cells #[int 0, int 1, int 0] 3 (0, 0))) (sng bc (.cells #[int 0, int 1, int 0, int 2, int 3, int 1, int 0, int 1, int 2, int 3, int 5, int 3, int 1, int 0] 70 (0, 0))) emp emp (some ⟨bq, 0, none⟩) (some ⟨bc, 0, none⟩) none none 3 2 0 0 eQ eC [] [] :=
  ⟨slE_sng (l := eQ) Eng.encI_len, slE_sng (l := eC) encC_len, by decide, by decide, by decide, ⟨rfl, .inl ⟨rfl, none, 0, rfl⟩⟩, by decide, ⟨rfl, .inl ⟨rfl, none, 0, rfl⟩⟩, by decide⟩
 have hG := Graph_spec hT eD
 rw [eVs, eS, eT] at hG
 skip
 refine BG hG rfl rfl rdZ rfl rfl ?_
 rintro _ σg hg
 rw [if_pos eValid] at hg
 obtain ⟨u, rfl, hOg⟩ := hg
 rw [hlen] at hOg
 have hAt : ArcsAt σg u (arcsG eQ eC [] [] eD) := by
  have := hOg.at
  rw [← hlen] at this
  exact this
 obtain ⟨pg, kg, rfl⟩ := hOg.form
 refine AR (ρ := σg) takeZ ?_
 refine AB ?_
 refine AL ?_
 refine AL ?_
 refine AY ?_; rintro _ _ ⟨b, rfl, rfl⟩
 refine AX ?_; rintro _ _ ⟨rfl, rfl⟩
 refine AC ?_
 refine AE ?_
 refine AD ?_
 refine AA ?_
 refine AG ?_
 refine AF ?_
 refine AG ?_
 refine AF ?_
 refine AG ?_
 refine AF ?_
 refine AG ?_
 refine AF ?_
 revert b; intro bg
 refine AR (ρ := sng bg _) takeZ ?_
 have gg0 : rdc (sng bg (.cells #[int 21, .slice pg 22 kg, int 0, int 20] 36 (0, 0))) bg 0 = some (int 21) := by rw [rdc_sng]; rfl
 have gg1 : rdc (sng bg (.cells #[int 21, .slice pg 22 kg, int 0, int 20] 36 (0, 0))) bg 1 = some (.slice pg 22 kg) := by rw [rdc_sng]; rfl
 have gg2 : rdc (sng bg (.cells #[int 21, .slice pg 22 kg, int 0, int 20] 36 (0, 0))) bg 2 = some (int 0) := by rw [rdc_sng]; rfl
 have gg3 : rdc (sng bg (.cells #[int 21, .slice pg 22 kg, int 0, int 20] 36 (0, 0))) bg 3 = some (int 20) := by rw [rdc_sng]; rfl
 skip
 have hM := flowMax_spec σg (.slice pg 22 kg) 21 0 20 (arcsG eQ eC [] [] eD) hAt (by omega)
 refine BG hM rfl rfl rdZ rfl rfl ?_
 rintro _ σf ⟨fs, F, m, e, rfl, hF, hm⟩
 obtain ⟨he, hm4, hfl, hfv⟩ := eMax hok (show MaxN eQ eC [] [] eD F m e by unfold MaxN; rw [eVs, eS, eT]; exact hm)
 subst he hm4
 obtain ⟨pf, kf, rfl, _⟩ := hF.val Eng.encI_len
 refine AR (ρ := σf) takeZ ?_
 have hsE := eValue hok hfl
 have hsR : shipsR eQ eC [] [] eD F = shipsF eA F := by unfold shipsR; rw [if_pos hsE, eArcs]
 have hsl := eShips hfl hfv
 have hS := Shipments_spec hT eD σf _ F hF
 rw [hsE, hsR] at hS
 refine AB ?_
 refine AL ?_
 refine AL ?_
 refine AL ?_
 refine AC ?_
 refine AC ?_
 refine AC ?_
 refine AE ?_
 refine AD ?_
 refine AA ?_
 refine AT ?_
 refine AT ?_
 refine AB ?_
 refine BG hS rfl rfl rdZ rfl rfl ?_
 rintro _ σs ⟨us, rfl, hOs⟩
 rw [hsl] at hOs
 obtain ⟨ps, ks, rfl⟩ := hOs.form
 clear hOs
 have hV := Vertex_spec hT eD 1 3
 rw [show vertexR eQ eC [] [] eD 1 3 = (10, 0) by unfold vertexR; rw [if_pos eValid]; decide] at hV
 dsimp only at hV
 refine AB ?_
 refine AL ?_
 refine AL ?_
 refine AC ?_
 refine AC ?_
 refine AE ?_
 refine AD ?_
 refine AA ?_
 refine AT ?_
 refine AT ?_
 refine A2 hV rfl rfl rdZ rfl rfl ?_
 rintro _ rfl
 have hP := Place_spec hT eD 10
 rw [show placeR eQ eC [] [] eD 10 = (1, 3, 0) by unfold placeR; rw [if_pos eValid]; decide] at hP
 dsimp only at hP
 refine AB ?_
 refine AL ?_
 refine AL ?_
 refine AC ?_
 refine AC ?_
 refine AE ?_
 refine AD ?_
 refine AA ?_
 refine AT ?_
 refine AT ?_
 refine AB ?_
 refine A2 hP rfl rfl rdZ rfl rfl ?_
 rintro _ rfl
 refine AB ?_
 refine AL ?_
 refine AL ?_
 refine AL ?_
 refine AC ?_
 refine AC ?_
 refine AC ?_
 refine AE ?_
 refine AD ?_
 refine AA ?_
 refine AT ?_
 refine AT ?_
 refine BF ?_; rintro _ _ ⟨b, rfl, rfl⟩
 revert b; intro bz
 have hD := Sides_spec hT eD (sng bz (.cells #[int 0, int 7, int 8] 3 (0, 0))) (.slice (some ⟨bz, 0, none⟩) 3 3) [0, 7, 8] (slE_sng (l := [(0 : Int), 7, 8]) Eng.encI_len) (by decide)
 rw [eSides0, if_pos rfl, show eQ.length = 3 from rfl, eSides] at hD
 refine BE hD rfl rfl Takes.nil rdZ rfl rfl ?_
 rintro _ _ ⟨L, w, σ1, χ1, rfl, rfl, hL, hCL⟩
 have hLl : L.length = 3 := by
  have := congrArg List.length hL
  rwa [List.length_map] at this
 obtain ⟨q, k, rfl, _⟩ := hCL.1.val encQ_len
 refine AR (ρ := σ1) takeZ ?_
 refine AR (ρ := χ1) takeZ ?_
 refine AB ?_
 refine AL ?_
 refine AL ?_
 refine AC ?_
 refine AC ?_
 refine AE ?_
 refine AD ?_
 refine AA ?_
 refine AB ?_
 refine BQ ?_
 refine AB ?_
 refine AB ?_
 refine BQ ?_
 refine AK ?_
 refine AB ?_
 refine AB ?_
 refine BQ ?_
 refine AK ?_
 refine AB ?_
 refine AB ?_
 refine BQ ?_
 refine AK ?_
 refine AB ?_
 refine AB ?_
 refine BQ ?_
 refine AK ?_
 refine AB ?_
 refine AB ?_
 refine BQ ?_
 refine AK ?_
 refine AC ?_
 refine AE ?_
 refine AD ?_
 refine AA ?_
 refine AB ?_
 refine AB ?_
 refine AG ?_
 refine AF ?_
 refine BQ ?_
 refine AK ?_
 refine AB ?_
 refine AG ?_
 refine AF ?_
 refine AW ?_
 refine BQ ?_
 refine AK ?_
 refine AB ?_
 refine AG ?_
 refine AF ?_
 refine BQ ?_
 refine AK ?_
 refine AB ?_
 refine AG ?_
 refine AF ?_
 refine BQ ?_
 refine AK ?_
 refine AB ?_
 refine AB ?_
 refine BQ ?_
 refine AK ?_
 refine AB ?_
 refine AB ?_
 refine BQ ?_
 refine AK ?_
 refine AB ?_
 refine AB ?_
 refine BQ ?_
 refine AK ?_
 refine AB ?_
 refine AB ?_
 refine BQ ?_
 refine AK ?_
 refine AB ?_
 refine AB ?_
 refine AW ?_
 refine BQ ?_
 refine AK ?_
 refine AC ?_
 refine AE ?_
 refine AD ?_
 refine AA ?_
 refine AB ?_
 refine AB ?_
 refine AB ?_
 refine BZ ?_
 refine BF ?_; rintro _ _ ⟨b, rfl, rfl⟩
 refine BZ ?_
 refine BF ?_; rintro _ _ ⟨b, rfl, rfl⟩
 refine BF ?_; rintro _ _ ⟨b, rfl, rfl⟩
 refine BF ?_; rintro _ _ ⟨b, rfl, rfl⟩
 revert b; intro bk
 revert b; intro be
 revert b; intro bx2
 revert b; intro bx1
 refine D4 (ρ := sng bx1 (.cells #[int 0, int 1] 61 (0, 0))) (σ := sng bx2 (.cells #[int 0, int 2] 61 (0, 0))) takeZ takeZ (fun κ s1 s2 => ?_)
 have hx1 : SpAt κ (.slice (some ⟨bx1, 0, none⟩) 1 1) [(0, 1)] := SlE.mono (slE_sng (l := [((0 : Int), (1 : Int))]) encS_len) s1
 have hx2 : SpAt κ (.slice (some ⟨bx2, 0, none⟩) 1 1) [(0, 2)] := SlE.mono (slE_sng (l := [((0 : Int), (2 : Int))]) encS_len) s2
 have hC2 : CutL (sng bk (.cells #[.slice (some ⟨bx1, 0, none⟩) 1 1, .slice (some ⟨bx2, 0, none⟩) 1 1, .slice (some ⟨be, 0, none⟩) 0 0] 59 (0, 0))) κ (.slice (some ⟨bk, 0, none⟩) 3 3) [((some ⟨bx1, 0, none⟩, 1), [(0, 1)]), ((some ⟨bx2, 0, none⟩, 1), [(0, 2)]), ((some ⟨be, 0, none⟩, 0), [])] := by
  refine ⟨slE_sng (l := [((some ⟨bx1, 0, none⟩, 1), [(0, 1)]), ((some ⟨bx2, 0, none⟩, 1), [(0, 2)]), ((some ⟨be, 0, none⟩, 0), [])]) encQ_len, fun z hz => ?_⟩
  simp only [List.mem_cons, List.not_mem_nil, or_false] at hz
  rcases hz with rfl | rfl | rfl
  ·exact ⟨hx1, by simp⟩
  ·exact ⟨hx2, by simp⟩
  ·exact ⟨⟨rfl, .inl ⟨rfl, _, _, rfl⟩⟩, by simp⟩
 have hsc := exSameCut_spec σ1 χ1 _ κ q (some ⟨bk, 0, none⟩) k 3 L _ hCL hC2 hL (by omega)
 refine A2 hsc rfl rfl rdZ rfl rfl ?_
 rintro _ rfl
 refine AK ?_
 refine AC ?_
 refine AE ?_
 exact AI (res1 rfl rfl) rsubZ selZ ⟨rfl, rfl⟩
end Go.Proofs.YthdoegkjifgegaaGreat
/- One more booking. No program in sight. No conditions. -/
namespace Go.Step
open Go.Eng (insL insL_len)
def overB (x : Bk) (s : Int × Int) : Bool := decide (s.1 < x.b) && decide (x.a < s.2)
theorem bookedB_iff {l : List Bk} {c t : Int} : bookedB l c t = true ↔ ∃ y ∈ l, y.c = c ∧ y.a ≤ t ∧ t < y.b := by
  unfold bookedB busyL
  rw [List.any_eq_true]
  constructor
  · rintro ⟨s, hs, h⟩
    obtain ⟨y, hy, rfl⟩ := List.mem_map.1 hs
    rw [List.mem_filter, decide_eq_true_eq] at hy
    rw [Bool.and_eq_true, decide_eq_true_eq, decide_eq_true_eq] at h
    exact ⟨y, hy.1, hy.2, h⟩
  · rintro ⟨y, hy, hc, h1, h2⟩
    refine ⟨(y.a, y.b), List.mem_map.2 ⟨y, List.mem_filter.2 ⟨hy, decide_eq_true hc⟩, rfl⟩, ?_⟩
    rw [Bool.and_eq_true, decide_eq_true_eq, decide_eq_true_eq]
    exact ⟨h1, h2⟩
theorem over_none {l : List Bk} {x : Bk} (h : (busyL l x.c).any (overB x) = false) : ∀ y ∈ l, y.c = x.c → ¬ (y.a < x.b ∧ x.a < y.b) := fun y hy hc hn => by
  rw [List.any_eq_false] at h
  refine h (y.a, y.b) (List.mem_map.2 ⟨y, List.mem_filter.2 ⟨hy, decide_eq_true hc⟩, rfl⟩) ?_
  unfold overB
  rw [decide_eq_true hn.1, decide_eq_true hn.2]
  rfl
theorem bks_of {cs : List Ct} {l : List Bk} (hok : ∀ y ∈ l, okBk cs y) (hp : l.Pairwise (fun x y => x.c < y.c ∨ (x.c = y.c ∧ x.b ≤ y.a))) : firstE (bkE cs l) l.length = 0 := by
  refine firstE_all (fun k hk => ?_)
  rw [bkE_at (List.getElem?_eq_getElem hk), if_neg (by rw [(okBkB_iff cs _).2 (hok _ (List.getElem_mem hk))]; simp)]
  by_cases h0 : k = 0
  · rw [if_pos h0]
  rw [if_neg h0, List.getD_eq_getElem?_getD, List.getElem?_eq_getElem (show k - 1 < l.length by omega), Option.getD_some]
  have h1 := List.pairwise_iff_getElem.1 hp (k - 1) k (by omega) hk (by omega)
  obtain ⟨_, c, _, _, h2, _⟩ := hok _ (List.getElem_mem (show k - 1 < l.length by omega))
  unfold bk2E
  rw [if_neg (fun h => h ((cmpBk_lt _ _).2 (by omega))), if_neg (by omega)]
theorem mem_insL {α : Type} {l : List α} {k : Nat} {x y : α} : y ∈ insL l k x ↔ y = x ∨ y ∈ l := by
  unfold insL
  rw [List.mem_append, List.mem_cons]
  have : y ∈ l ↔ y ∈ l.take k ∨ y ∈ l.drop k := by rw [← List.mem_append, List.take_append_drop]
  rw [this]
  constructor
  · rintro (h | h | h)
    · exact .inr (.inl h)
    · exact .inl h
    · exact .inr (.inr h)
  · rintro (h | h | h)
    · exact .inr (.inl h)
    · exact .inl h
    · exact .inr (.inr h)
theorem insB_ok {qs : List Int} {cs : List Ct} {l : List Bk} {x : Bk} {k : Nat} (h0 : chkB qs cs l = 0) (hx : okBk cs x) (hl : l.length ≠ 512) (ho : (busyL l x.c).any (overB x) = false) (h1 : ∀ y ∈ l.take k, cmpBk y x < 0) (h2 : ∀ y ∈ l.drop k, 0 ≤ cmpBk y x) :
    chkB qs cs (insL l k x) = 0 ∧ ∀ i t, bookedB (insL l k x) i t = false → bookedB l i t = false := by
  have hno := over_none ho
  obtain ⟨a1, a2⟩ := chkB_ok h0
  have hpl : chkPl qs cs = 0 := by
    unfold chkB at h0
    by_cases c : chkPl qs cs = 0
    · exact c
    · rw [if_pos c] at h0; omega
  have hok := bkE_ok a2
  have hap := bks_apart a2
  have hlt : ∀ y, okBk cs y → y.a < y.b := fun y hy => by
    obtain ⟨_, c, _, _, h, _⟩ := hy
    exact h
  have hxl := hlt x hx
  refine ⟨?_, fun i t hb => ?_⟩
  · unfold chkB
    rw [if_neg (fun h => h hpl), if_neg (by rw [insL_len]; omega)]
    refine bks_of (fun y hy => ?_) ?_
    · rcases mem_insL.1 hy with rfl | hy
      · exact hx
      · exact hok y hy
    · unfold insL
      rw [← List.take_append_drop k l] at hap
      obtain ⟨p1, p2, p3⟩ := List.pairwise_append.1 hap
      refine List.pairwise_append.2 ⟨p1, List.pairwise_cons.2 ⟨fun y hy => ?_, p2⟩, fun y hy z hz => ?_⟩
      · have c1 := h2 y hy
        have c2 := hlt y (hok y (List.mem_of_mem_drop hy))
        have c3 := hno y (List.mem_of_mem_drop hy)
        have c4 : ¬ (y.c < x.c ∨ (y.c = x.c ∧ y.a < x.a)) := fun h => by
          have := (cmpBk_lt y x).2 h
          omega
        omega
      · rcases List.mem_cons.1 hz with rfl | hz
        · have c1 := (cmpBk_lt y z).1 (h1 y hy)
          have c2 := hlt y (hok y (List.mem_of_mem_take hy))
          have c3 := hno y (List.mem_of_mem_take hy)
          omega
        · exact p3 y hy z hz
  · cases hc : bookedB l i t with
    | false => rfl
    | true =>
      obtain ⟨y, hy, h⟩ := bookedB_iff.1 hc
      rw [bookedB_iff.2 ⟨y, mem_insL.2 (.inr hy), h⟩] at hb
      simp at hb
/-- what Add hands back -/
def AddB (qs : List Int) (cs : List Ct) (bs : List Bk) (l : List Bk) (e : Int) : Prop := (e ≠ 0 ∧ l = []) ∨ (e = 0 ∧ chkB qs cs l = 0 ∧ ∀ i t, bookedB l i t = false → bookedB bs i t = false)
end Go.Step
/- Kinds of numbers turned into one another; halves of sums; shifts. No conditions. -/
namespace Go.Eng
variable {C : Cx} {D : List Deferred} {R H : List PH} {L : Env} {K : List It}
section
variable {dst : Option Tmp} {ty : TypeId} {pos : String} {aft : Array Edge} {g : Option (Nat × Bool)}
theorem wrap_u64 {n : Int} (h : 0 ≤ n ∧ n ≤ 18446744073709551615) : IntKind.u64.wrap n = n := by
  have e : IntKind.u64.wrap n = n % 18446744073709551616 := by
    show (let m := n % (2 ^ IntKind.u64.bits : Int); if IntKind.u64.signed && m ≥ (2 ^ (IntKind.u64.bits - 1) : Int) then m - (2 ^ IntKind.u64.bits : Int) else m) = _
    rfl
  rw [e]; omega
/-- a number that is not negative, as a u64 -/
theorem q_toU {s d : TypeId} {x : Operand} {n : Nat} (h : evalE L x = some (.int .i64 (n : Int))) (hs : (C.P.underlying s).isSome = true) (hd : kindP C.P d = some .u64) (hn : n ≤ 18446744073709551615) :
    Quiet C R H L ⟨dst, .convert s d x, ty, pos, aft, g⟩ (.int .u64 (n : Int)) := GC h hs hd (wrap_u64 ⟨by omega, by omega⟩)
theorem q_shr {x y : Operand} {xT yT : TypeId} {k k2 : IntKind} {m : Int} {s : Nat} (h1 : evalE L x = some (.int k m)) (h2 : evalE L y = some (.int k2 (s : Int))) (hs : s ≤ k.bits) : Quiet C R H L ⟨dst, .binOp .shr xT x y yT, ty, pos, aft, g⟩ (.int k (m.fdiv (2 ^ s))) :=
  ⟨by intro c; simp, fun a w hx _ => by
    have e1 := hx x (by simp [Op.operands]) _ h1
    have e2 := hx y (by simp [Op.operands]) _ h2
    have h0 : ¬ ((s : Int) < 0) := by omega
    have hm : min s k.bits = s := by omega
    simp [execOp, e1, e2, eqGuard, binOp, Op.shift, h0, hm]⟩
theorem E7 {x y : Operand} {xT yT : TypeId} {k : IntKind} {n : Nat} (h1 : evalE L x = some (.int k (n : Int))) (h2 : evalE L y = some (.int k 1)) (hs : 1 ≤ k.bits) : Quiet C R H L ⟨dst, .binOp .shr xT x y yT, ty, pos, aft, g⟩ (.int k ((n / 2 : Nat) : Int)) := by
  have := q_shr (C := C) (R := R) (H := H) (dst := dst) (ty := ty) (pos := pos) (aft := aft) (g := g) (xT := xT) (yT := yT) (s := 1) h1 h2 hs
  have e : (n : Int).fdiv (2 ^ 1) = ((n / 2 : Nat) : Int) := by
    rw [Int.fdiv_eq_ediv_of_nonneg _ (by decide)]; omega
  rwa [e] at this
end
end Go.Eng
namespace Go.Eng
variable {C : Cx} {D : List Deferred} {R H : List PH} {L : Env} {K : List It}
section
variable {dst : Option Tmp} {ty : TypeId} {pos : String} {aft : Array Edge} {g : Option (Nat × Bool)}
end
end Go.Eng
/- One more booking. -/
namespace Go.Proofs.YthdoegkjifgegaaGreat
open Go.Eng Go.Step
set_option maxRecDepth 100000
set_option maxHeartbeats 4000000

theorem ones_B : ∀ (l : List Bk), ∀ u ∈ l.flatMap encB, u.oneCell' = true := fun l u hu => by
 obtain ⟨x, _, hx⟩ := List.mem_flatMap.1 hu
 simp only [encB, List.mem_cons, List.not_mem_nil, or_false] at hx
 rcases hx with rfl | rfl | rfl | rfl <;> rfl
theorem cloneB_spec (ρ : PH) (v : Value) (l : List Bk) (hv : SlE encB 4 ρ v l) (hl : l.length ≤ 1000000) :
  Makes Tryz.prog (fv 110) [v] [ρ] (fun r σ => OwnS 73 4 r l.length (l.flatMap encB) σ) := by
 have hv2 := hv
 obtain ⟨q, c, rfl, hr⟩ := hv.val encB_len
 refine spec_in (cap := []) Tryz.func110 rfl rfl Tryz.ntmps110 rfl envZ (fun N β => ?_)
 cases q with
 | none =>
  have hnil : l = [] := by
   cases l with
   | nil => rfl
   | cons a l =>
    obtain ⟨b, o, e, _⟩ := hr 0 a rfl
    simp at e
  subst hnil
  refine B5 ?_
  refine AD ?_
  refine AA ?_
  refine AC ?_
  refine AE ?_
  refine AD ?_
  refine AD ?_
  refine AA ?_
  refine AB ?_
  focus ((refine' B0 _ rfl rfl rfl _; rotate_left; (apply FO; exact rfl; exact rfl; exact rfl)))
  refine AE ?_
  refine AO rfl ?_
  refine AD ?_
  refine AA ?_
  refine AC ?_
  refine AE ?_
  exact AI (res1 rfl rfl) rsubZ selZ ⟨emp, OwnS.nil _ _, rfl⟩
 | some ad =>
  refine AD ?_
  refine AA ?_
  refine AC ?_
  refine AE ?_
  refine AD ?_
  refine AD ?_
  refine AA ?_
  refine AB ?_
  focus ((refine' B0 _ rfl rfl rfl _; rotate_left; (apply FP; exact rfl; exact rfl; exact rfl)))
  refine AE ?_
  refine AN rfl ?_
  refine AM ?_
  refine AD ?_
  refine AA ?_
  refine BF ?_; rintro _ _ ⟨b, rfl, rfl⟩
  refine AB ?_
  refine BC (EG (by_ := 32) (s := 4) (σ := ρ) (news := l.flatMap encB) (m := l.length) rfl rfl rfl rfl rfl rfl rfl (OwnS.empty (b := b)) takeZ hv2 (fun b o h => cellsR h memZ) (ones_B l) (by simp only [maxLen]; omega) (by omega)) rfl rfl rfl ?_
  rintro r1 _ ⟨σ, hO, rfl⟩
  refine AC ?_
  refine AE ?_
  refine AI (res1 rfl rfl) rsubZ selZ ⟨σ, ?_, rfl⟩
  simpa using hO
set_option maxHeartbeats 16000000 in
theorem insertB_spec (σ : PH) (bv : Nat) (v : Value) (l : List Bk) (k : Nat) (h : Bk) (hO : OwnS 73 4 v l.length (l.flatMap encB) σ) (hk : k ≤ l.length) (hl : l.length ≤ 1000) :
  Eng.Spec Tryz.prog (fv 109) [v, int k, .slice (some ⟨bv, 0, none⟩) 1 1] [sng bv (.cells (encB h).toArray 73 (0, 0))] [σ] (fun r H' => ∃ σ', OwnS 73 4 r (insL l k h).length ((insL l k h).flatMap encB) σ' ∧ H' = [σ']) := by
 have hO1 := hO
 have hone : ∀ u ∈ encB h, u.oneCell' = true := by simpa using ones_B [h]
 have hrdv : RdN (sng bv (.cells (encB h).toArray 73 (0, 0))) bv 0 (encB h) := rdN_sng
 refine spec_in (cap := []) Tryz.func109 rfl rfl Tryz.ntmps109 rfl envZ (fun N β => ?_)
 rcases hO.block with ⟨rfl, rfl, rfl⟩ | ⟨b, cap, cur, rfl, rfl, hcap, hcm, hcs, htk⟩
 ·have hk0 : k = 0 := by simpa using hk
  subst hk0
  refine AD ?_
  refine AA ?_
  refine AC ?_
  refine AE ?_
  refine AD ?_
  refine AA ?_
  refine AB ?_
  refine AB ?_
  refine B6 ?_
  refine AE ?_
  refine AD ?_
  refine AA ?_
  refine AB ?_
  refine AW ?_
  refine AC ?_
  refine AE ?_
  refine AD ?_
  refine AD ?_
  refine AA ?_
  refine AB ?_
  refine BO ?_
  refine AE ?_
  refine AN rfl ?_
  refine AM ?_
  refine AD ?_
  refine AA ?_
  refine AB ?_
  refine AW ?_
  refine AC ?_
  refine AE ?_
  refine AD ?_
  refine AD ?_
  refine AA ?_
  refine AB ?_
  refine AB ?_
  refine BQ ?_
  refine AE ?_
  refine AO rfl ?_
  refine AD ?_
  refine AA ?_
  refine AB ?_
  refine AB ?_
  refine BC (BW (by_ := 32) (s := 4) (news := encB h) rfl rfl rfl rfl rfl rfl rfl hO1 takeZ (cells_of_mem (σ := sng bv (.cells (encB h).toArray 73 (0, 0))) (Mem.mem memZ) hrdv) rfl hone (by omega) (by simp only [maxLen, List.length_nil]; omega) (by simp only [List.length_nil]; omega)) rfl rfl rfl ?_
  rintro u _ ⟨σ', hO', rfl⟩
  refine AC ?_
  refine AE ?_
  exact AI (res1 rfl rfl) rsubZ selZ ⟨σ', by simpa [insL] using hO', rfl⟩
 ·by_cases hkn : k = l.length
  ·subst hkn
   refine AD ?_
   refine AA ?_
   refine AC ?_
   refine AE ?_
   refine AD ?_
   refine AA ?_
   refine AB ?_
   refine AB ?_
   refine B6 ?_
   refine AE ?_
   refine AD ?_
   refine AA ?_
   refine AB ?_
   refine AW ?_
   refine AC ?_
   refine AE ?_
   refine AD ?_
   refine AD ?_
   refine AA ?_
   refine AB ?_
   refine BO ?_
   refine AE ?_
   refine AN rfl ?_
   refine AM ?_
   refine AD ?_
   refine AA ?_
   refine AB ?_
   refine AW ?_
   refine AC ?_
   refine AE ?_
   refine AD ?_
   refine AD ?_
   refine AA ?_
   refine AB ?_
   refine AB ?_
   refine BQ ?_
   refine AE ?_
   refine AO rfl ?_
   refine AD ?_
   refine AA ?_
   refine AB ?_
   refine AB ?_
   refine BC (BW (by_ := 32) (s := 4) (news := encB h) rfl rfl rfl rfl rfl rfl rfl hO1 takeZ (cells_of_mem (σ := sng bv (.cells (encB h).toArray 73 (0, 0))) (Mem.mem memZ) hrdv) rfl hone (by omega) (by simp only [maxLen]; omega) (by omega)) rfl rfl rfl ?_
   rintro u _ ⟨σ', hO', rfl⟩
   refine AC ?_
   refine AE ?_
   refine AI (res1 rfl rfl) rsubZ selZ ⟨σ', ?_, rfl⟩
   rw [insL_end, List.length_append, List.flatMap_append]
   simpa using hO'
  ·have hfl : (l.flatMap encB).length = l.length * 4 := flat_len encB_len l
   have htp : cur.toList.take (k * 4) = (l.take k).flatMap encB := by
    rw [flat_take encB_len, ← htk, List.take_take]
    congr 1
    omega
   have hdr : ∀ j u, ((l.drop k).flatMap encB)[j]? = some u → cur.toList[k * 4 + j]? = some u := fun j u hu => by
    rw [flat_cut encB_len l k hk, List.getElem?_drop, ← htk] at hu
    have hlt : k * 4 + j < l.length * 4 := by
     have := (List.getElem?_eq_some_iff.1 hu).1
     simp at this; omega
    rwa [List.getElem?_take_of_lt hlt] at hu
   have hol : ∀ u ∈ (l.drop k).flatMap encB, u.oneCell' = true := ones_B (l.drop k)
   have hdl : ((l.drop k).flatMap encB).length = (l.length - k) * 4 := by rw [flat_len encB_len, List.length_drop]
   by_cases hroom : l.length + 1 ≤ cap
   ·refine AD ?_
    refine AA ?_
    refine AC ?_
    refine AE ?_
    refine AD ?_
    refine AA ?_
    refine AB ?_
    refine AB ?_
    refine B6 ?_
    refine AE ?_
    refine AD ?_
    refine AA ?_
    refine AB ?_
    refine AW ?_
    refine AC ?_
    refine AE ?_
    refine AD ?_
    refine AD ?_
    refine AA ?_
    refine AB ?_
    refine BO ?_
    refine AE ?_
    refine AN rfl ?_
    refine AM ?_
    refine AD ?_
    refine AA ?_
    refine AB ?_
    refine AW ?_
    refine AC ?_
    refine AE ?_
    refine AD ?_
    refine AD ?_
    refine AA ?_
    refine AB ?_
    refine AB ?_
    refine BO ?_
    refine AE ?_
    refine AN rfl ?_
    refine AM ?_
    refine AD ?_
    refine AD ?_
    refine AA ?_
    refine AB ?_
    refine AB ?_
    refine BA ?_
    refine AB ?_
    refine E6 ?_
    refine BY ?_
    refine AE ?_
    refine AN rfl ?_
    refine AM ?_
    refine AD ?_
    refine AA ?_
    refine AB ?_
    refine AB ?_
    refine AB ?_
    refine BA ?_
    refine DE ?_
    refine AC ?_
    refine AE ?_
    refine AD ?_
    refine AD ?_
    refine AA ?_
    refine AB ?_
    refine AB ?_
    refine AB ?_
    refine AB ?_
    refine BA ?_
    refine B6 ?_
    rw [cutP_zero]
    skip
    rw [cutP_atE 4 (show k + 1 < cap by omega)]
    rotate_left; exact rfl
    refine B0 (DY (s := 4) (tS := 26) (tR := 4) (e := 73) (cu1 := (encB h).toArray) (t1 := 73) (cu2 := cur) (t2 := 73) Tryz.func133 (by kernel_rfl) rfl (by kernel_rfl) (by kernel_rfl) rfl rfl rfl rfl rfl rfl rfl (Mem.mem memZ) (Mem.mem memZ) (by rw [hcs]; omega)) rfl rfl rfl ?_
    refine A7 ?_
    refine AE ?_
    refine AO rfl ?_
    refine AD ?_
    refine A3 (.q 0 (.q 1 (.q 2 (.q 3 (.q 4 (.q 5 (.q 6 (.q 7 (.l 8 .b .nil))))))))) [] rfl (by kernel_rfl) Sel.nil ?_
    refine AQ ?_
    refine AQ ?_
    refine AQ ?_
    refine E2 ?_
    refine CR ?_
    refine AQ ?_
    refine AQ ?_
    refine CR ?_
    rw [cutP_atE 4 (show k + 1 < cap by omega), cutP_atE 4 (show k < cap by omega)]
    rotate_left; exact rfl; exact rfl
    refine CE (a_b rfl (C5 (s := 4) (news := (l.drop k).flatMap encB) rfl rfl rfl rfl takeZ (cells_of_memH (σ := sng b (.cells cur 73 (0, 0))) (Mem.mem memZ) (rdN_take (by simpa using hdr))) (by rw [hdl]; congr 1; simp only [Nat.min_def]; split <;> omega) hol (by rw [hdl, hcs]; omega)) rfl rfl rfl (fun _ _ _ w hw => hw.sel Sel.nil) ?_)
    rintro _ _ ⟨rfl, rfl⟩
    refine A4 ?_
    refine AD ?_
    refine AA ?_
    refine AB ?_
    refine AB ?_
    refine B6 ?_
    refine AB ?_
    rw [cutP_atE 4 (show k < cap by omega)]
    rotate_left; exact rfl
    have hsz1 : (cur.toList.take (0 + (k + 1) * 4) ++ (l.drop k).flatMap encB ++ cur.toList.drop (0 + (k + 1) * 4 + ((l.drop k).flatMap encB).length)).length = cap * 4 := by
     simp only [List.length_append, List.length_take, List.length_drop, Array.length_toList, hdl, hcs]
     omega
    have htk1 : (cur.toList.take (0 + (k + 1) * 4) ++ (l.drop k).flatMap encB ++ cur.toList.drop (0 + (k + 1) * 4 + ((l.drop k).flatMap encB).length)).take (k * 4) = (l.take k).flatMap encB := by
     rw [List.append_assoc, List.take_append_of_le_length (by rw [List.length_take, Array.length_toList, hcs]; omega), List.take_take, ← htp]
     congr 1
     omega
    have hdr1 : (cur.toList.take (0 + (k + 1) * 4) ++ (l.drop k).flatMap encB ++ cur.toList.drop (0 + (k + 1) * 4 + ((l.drop k).flatMap encB).length)).drop (k * 4 + 4) = (l.drop k).flatMap encB ++ cur.toList.drop (0 + (k + 1) * 4 + ((l.drop k).flatMap encB).length) := by
     have e : (cur.toList.take (0 + (k + 1) * 4)).length = k * 4 + 4 := by rw [List.length_take, Array.length_toList, hcs]; omega
     rw [List.append_assoc, ← e, List.drop_left]
    generalize hc1 : cur.toList.take (0 + (k + 1) * 4) ++ (l.drop k).flatMap encB ++ cur.toList.drop (0 + (k + 1) * 4 + ((l.drop k).flatMap encB).length) = c1 at hsz1 htk1 hdr1 ⊢
    refine BC (C5 (s := 4) (news := encB h) rfl rfl rfl rfl takeZ (cells_of_mem (σ := sng bv (.cells (encB h).toArray 73 (0, 0))) (Mem.mem memZ) hrdv) (by rw [encB_len]; simp only [Nat.min_def]; split <;> omega) hone (by rw [encB_len, List.size_toArray, hsz1]; omega)) rfl rfl rfl ?_
    rintro _ _ ⟨rfl, rfl⟩
    refine AE ?_
    refine AD ?_
    refine AA ?_
    refine AB ?_
    refine AC ?_
    refine AE ?_
    refine AI (res1 rfl rfl) rsubZ selZ ⟨_, ⟨flat_len encB_len _, .inr ⟨b, cap, _, by rw [insL_len], rfl, by rw [insL_len]; exact hroom, hcm, ?_, ?_⟩⟩, rfl⟩
    ·simp only [List.size_toArray, List.length_append, List.length_take, List.length_drop, encB_len, hsz1]
     omega
    ·rw [insL_len, encB_len]
     have := ins_cells encB_len l k h hk c1 htk1 (cur.toList.drop (0 + (k + 1) * 4 + ((l.drop k).flatMap encB).length))
     simp only [Nat.zero_add] at hdr1 this ⊢
     rw [hdr1, ← this]
     simp only [List.append_assoc]
   ·refine AD ?_
    refine AA ?_
    refine AC ?_
    refine AE ?_
    refine AD ?_
    refine AA ?_
    refine AB ?_
    refine AB ?_
    refine B6 ?_
    refine AE ?_
    refine AD ?_
    refine AA ?_
    refine AB ?_
    refine AW ?_
    refine AC ?_
    refine AE ?_
    refine AD ?_
    refine AD ?_
    refine AA ?_
    refine AB ?_
    refine BO ?_
    refine AE ?_
    refine AN rfl ?_
    refine AM ?_
    refine AD ?_
    refine AA ?_
    refine AB ?_
    refine AW ?_
    refine AC ?_
    refine AE ?_
    refine AD ?_
    refine AD ?_
    refine AA ?_
    refine AB ?_
    refine AB ?_
    refine BO ?_
    refine AE ?_
    refine AN rfl ?_
    refine AM ?_
    refine AD ?_
    refine AD ?_
    refine AA ?_
    refine AB ?_
    refine AB ?_
    refine BA ?_
    refine AB ?_
    refine E6 ?_
    refine CT ?_
    refine AE ?_
    refine AO rfl ?_
    refine AD ?_
    refine AA ?_
    refine AB ?_
    refine AB ?_
    refine DE ?_
    refine AB ?_
    refine AB ?_
    refine BA ?_
    refine AB ?_
    refine CQ ?_
    rw [cutP_zero, show ((l.length + 1 : Nat) : Int) - (k : Int) = ((l.length + 1 - k : Nat) : Int) from by omega]
    refine BC (DX (by_ := 32) (s := 4) (i := k) (k := l.length + 1 - k) (olds := (l.take k).flatMap encB) rfl rfl rfl rfl rfl rfl rfl rfl (by omega) (by omega) (cells_of_memH (σ := sng b (.cells cur 73 (0, 0))) (Mem.mem memZ) (rdN_take (fun j u hu => ?_))) (by rw [flat_len encB_len, List.length_take, Nat.min_eq_left hk]) (by omega) (by simp only [maxLen]; omega) (by omega)) rfl rfl rfl ?_
    ·rw [← htp] at hu
     have hlt := (List.getElem?_eq_some_iff.1 hu).1
     rw [List.length_take] at hlt
     rw [List.getElem?_take_of_lt (by omega)] at hu
     rwa [Nat.zero_add]
    rintro _ _ ⟨b3, cap3, cu3, ⟨rfl, rfl⟩, hc3, hm3, hs3, ht3⟩
    refine AC ?_
    refine AE ?_
    refine AD ?_
    refine AA ?_
    refine AB ?_
    refine AB ?_
    refine B6 ?_
    refine AB ?_
    rw [cutP_atE 4 (show k < cap3 by omega)]
    rotate_left; exact rfl
    refine BC (C5 (s := 4) (news := encB h) rfl rfl rfl rfl takeZ (cells_of_mem (σ := sng bv (.cells (encB h).toArray 73 (0, 0))) (Mem.mem memZ) hrdv) (by rw [encB_len]; simp only [Nat.min_def]; split <;> omega) hone (by rw [encB_len, hs3]; omega)) rfl rfl rfl ?_
    rintro _ _ ⟨rfl, rfl⟩
    have hsz1 : (cu3.toList.take (0 + k * 4) ++ encB h ++ cu3.toList.drop (0 + k * 4 + (encB h).length)).length = cap3 * 4 := by
     simp only [List.length_append, List.length_take, List.length_drop, Array.length_toList, encB_len, hs3]
     omega
    have htk1 : (cu3.toList.take (0 + k * 4) ++ encB h ++ cu3.toList.drop (0 + k * 4 + (encB h).length)).take ((k + 1) * 4) = (l.take k).flatMap encB ++ encB h := by
     have e : (cu3.toList.take (0 + k * 4) ++ encB h).length = (k + 1) * 4 := by rw [List.length_append, List.length_take, Array.length_toList, hs3, encB_len]; omega
     rw [← e, List.take_left, Nat.zero_add, ht3]
    generalize hc1 : cu3.toList.take (0 + k * 4) ++ encB h ++ cu3.toList.drop (0 + k * 4 + (encB h).length) = c1 at hsz1 htk1 ⊢
    refine AE ?_
    refine AD ?_
    refine A3 (.q 0 (.q 1 (.q 2 (.q 3 (.q 4 (.q 5 (.q 6 (.q 7 (.l 8 .b .nil))))))))) [] rfl (by kernel_rfl) Sel.nil ?_
    refine AQ ?_
    refine AQ ?_
    refine AQ ?_
    refine E2 ?_
    refine CR ?_
    refine AQ ?_
    refine AQ ?_
    refine CR ?_
    by_cases hk1 : k + 1 < cap3
    rotate_left
    ·exfalso; omega
    rw [cutP_atE 4 hk1, cutP_atE 4 (show k < cap by omega)]
    rotate_left; exact rfl; exact rfl
    refine CE (a_b rfl (C5 (s := 4) (news := (l.drop k).flatMap encB) rfl rfl rfl rfl takeZ (cells_of_memH (σ := sng b (.cells cur 73 (0, 0))) (Mem.mem memZ) (rdN_take (by simpa using hdr))) (by rw [hdl]; congr 1; simp only [Nat.min_def]; split <;> omega) hol (by rw [hdl, List.size_toArray, hsz1]; omega)) rfl rfl rfl (fun _ _ _ w hw => hw.sel Sel.nil) ?_)
    rintro _ _ ⟨rfl, rfl⟩
    refine A4 ?_
    refine AD ?_
    refine AA ?_
    refine AB ?_
    refine AC ?_
    refine AE ?_
    refine AI (res1 rfl rfl) rsubZ selZ ⟨_, ⟨flat_len encB_len _, .inr ⟨b3, cap3, _, by rw [insL_len]; congr 1; omega, rfl, by rw [insL_len]; omega, hm3, ?_, ?_⟩⟩, rfl⟩
    ·simp only [List.size_toArray, List.length_append, List.length_take, List.length_drop, hdl, hsz1]
     omega
    ·rw [insL_len]
     simp only [Nat.zero_add]
     rw [htk1]
     have e : ((l.take k).flatMap encB ++ encB h ++ (l.drop k).flatMap encB).length = (l.length + 1) * 4 := by
      rw [List.length_append, List.length_append, hdl, flat_len encB_len, encB_len, List.length_take, Nat.min_eq_left hk]; omega
     rw [← e, List.take_left]
     unfold insL
     rw [List.flatMap_append, List.flatMap_cons, List.append_assoc]
theorem cmpBk_lt_trans {x y z : Bk} (h1 : cmpBk x y < 0) (h2 : cmpBk y z < 0) : cmpBk x z < 0 := by
 rw [cmpBk_lt] at *
 omega
set_option maxHeartbeats 16000000 in
theorem bsearchB_spec (ρ : PH) (v : Value) (l : List Bk) (h : Bk) (hv : BkAt ρ v l) (hs : l.Pairwise (fun x y => cmpBk x y < 0)) (hl : l.length ≤ 1000) :
  Ans Tryz.prog (fv 108) [v, .agg #[int h.c, int h.a, int h.b, int h.k], fv 107] [ρ] (fun r => ∃ (k : Nat) (bo : Bool), k ≤ l.length ∧ (∀ x ∈ l.take k, cmpBk x h < 0) ∧ (∀ x ∈ l.drop k, 0 ≤ cmpBk x h) ∧ r = .tuple #[int k, .bool bo]) := by
 obtain ⟨q, c, rfl, hr⟩ := hv.val encB_len
 have hgi := List.pairwise_iff_getElem.1 hs
 refine spec_in (cap := []) Tryz.func108 rfl rfl Tryz.ntmps108 rfl envZ (fun N β => ?_)
 refine AD ?_
 refine AA ?_
 refine BC (BK rfl) rfl rfl rfl ?_
 rintro _ _ ⟨b4, rfl, rfl⟩
 refine AR (ρ := sng b4 _) takeZ ?_
 have c0 : RdN (sng b4 (.cells #[int h.c, int h.a, int h.b, int h.k] 73 (0, 0))) b4 0 [int h.c, int h.a, int h.b, int h.k] := rdN_sng (vs := [int h.c, int h.a, int h.b, int h.k])
 refine AC ?_
 refine AC ?_
 refine AE ?_
 refine AD ?_
 refine AA ?_
 refine AB ?_
 refine AW ?_
 refine AC ?_
 refine AE ?_
 refine AD ?_
 refine AA ?_
 refine AB ?_
 refine AC ?_
 refine AC ?_
 refine AE ?_
 refine AD ?_
 refine AS ?_
 refine BJ [0, 2, 4, 8] (X := Nat × Nat) (0, l.length) (fun x => x.1 ≤ x.2 ∧ x.2 ≤ l.length ∧ (∀ y ∈ l.take x.1, cmpBk y h < 0) ∧ (∀ y ∈ l.drop x.2, 0 ≤ cmpBk y h)) (fun x => [(9, int x.1), (10, int x.2)]) (fun _ => []) (fun x => x.2 - x.1)
  pickZ ⟨by dsimp only; omega, by dsimp only; omega, by simp, by simp⟩ covZ selZ ?_
 rintro ⟨i, j⟩ ⟨h1, h2, h3, h4⟩
 dsimp only at h1 h2 h3 h4 ⊢
 by_cases hlt : i < j
 ·have hh : (i + j) / 2 < l.length := by omega
  have hx := List.getElem?_eq_getElem hh
  obtain ⟨b', o, rfl, hRd, _⟩ := bkRow hr hx
  have hcm := bkCompare_spec l[(i + j) / 2] h
  have hlow : cmpBk l[(i + j) / 2] h < 0 → ∀ y ∈ l.take ((i + j) / 2 + 1), cmpBk y h < 0 := fun hc y hy => by
   obtain ⟨u, hu, rfl⟩ := List.getElem_of_mem hy
   rw [List.length_take] at hu
   rw [List.getElem_take]
   by_cases e : u = (i + j) / 2
   ·subst e; exact hc
   ·exact cmpBk_lt_trans (hgi u ((i + j) / 2) (by omega) hh (by omega)) hc
  have hup : 0 ≤ cmpBk l[(i + j) / 2] h → ∀ y ∈ l.drop ((i + j) / 2), 0 ≤ cmpBk y h := fun hc y hy => by
   obtain ⟨u, hu, rfl⟩ := List.getElem_of_mem hy
   rw [List.length_drop] at hu
   rw [List.getElem_drop]
   by_cases e : u = 0
   ·subst e; simpa using hc
   ·by_cases d : cmpBk l[(i + j) / 2 + u] h < 0
    ·have := cmpBk_lt_trans (hgi ((i + j) / 2) ((i + j) / 2 + u) hh (by omega) (by omega)) d
     omega
    ·omega
  generalize l[(i + j) / 2] = x at hRd hcm hlow hup
  refine AD ?_
  refine AD ?_
  refine AA ?_
  refine AB ?_
  refine AB ?_
  refine BI ?_
  refine AE ?_
  refine AO rfl ?_
  refine AM ?_
  refine AS ?_
  refine AD ?_
  refine AA ?_
  refine AB ?_
  refine AB ?_
  refine CO ?_
  rw [show (i : Int) + (j : Int) = ((i + j : Nat) : Int) from by omega]
  focus ((refine' B0 _ rfl rfl rfl _; rotate_left; (apply q_toU; exact rfl; exact rfl; exact rfl; omega)))
  focus ((refine' B0 _ rfl rfl rfl _; rotate_left; (apply E7; exact rfl; exact rfl; decide)))
  refine C9 ?_
  refine AC ?_
  refine AE ?_
  refine AD ?_
  refine A3 (.q 0 (.q 1 (.q 2 (.q 3 (.q 4 (.q 5 (.l 6 .e (.q 7 .nil)))))))) [] rfl (by kernel_rfl) Sel.nil ?_
  refine AQ ?_
  refine AQ ?_
  refine AQ ?_
  refine BX ?_
  refine BN ?_
  refine BN ?_
  refine CE (CD rfl hcm rfl rfl rdZ rfl rfl ?_)
  rintro _ rfl
  by_cases hc : cmpBk x h < 0
  ·have hnew := hlow hc
   generalize cmpBk x h = z at hc hlow hup
   refine EI ?_
   refine A4 ?_
   refine AO rfl ?_
   refine AA ?_
   refine AB ?_
   refine BA ?_
   refine AC ?_
   refine AE ?_
   refine A6 ?_
   exact A0 ((i + j) / 2 + 1, j) ⟨by dsimp only; omega, h2, hnew, h4⟩ (by dsimp only; omega) covZ selZ
  ·have hnew := hup (by omega)
   generalize cmpBk x h = z at hc hlow hup
   refine DN ?_
   refine A4 ?_
   refine AN rfl ?_
   refine AA ?_
   refine AB ?_
   refine AC ?_
   refine AE ?_
   refine A6 ?_
   exact A0 (i, (i + j) / 2) ⟨by dsimp only; omega, by dsimp only; omega, h3, hnew⟩ (by dsimp only; omega) covZ selZ
 ·have e : i = j := by omega
  subst e
  by_cases hlt2 : i < l.length
  ·have hx := List.getElem?_eq_getElem hlt2
   obtain ⟨b', o, rfl, hRd, _⟩ := bkRow hr hx
   have hcm := bkCompare_spec l[i] h
   generalize l[i] = x at hRd hcm
   refine AD ?_
   refine AD ?_
   refine AA ?_
   refine AB ?_
   refine AB ?_
   refine AZ ?_
   refine AE ?_
   refine AN rfl ?_
   refine BB rfl ?_
   refine AD ?_
   refine A3 (.q 0 (.q 1 (.q 2 (.q 3 (.q 4 (.q 5 (.q 6 (.q 7 (.q 8 (.q 9 (.q 10 (.l 11 .e (.q 12 (.q 13 (.q 14 (.q 15 .nil)))))))))))))))) [] rfl (by kernel_rfl) Sel.nil ?_
   refine AQ ?_
   refine AQ ?_
   refine AQ ?_
   refine EI ?_
   refine AQ ?_
   refine AQ ?_
   refine AQ ?_
   refine AQ ?_
   refine BX ?_
   refine BN ?_
   refine BN ?_
   refine CE (CD rfl hcm rfl rfl rdZ rfl rfl ?_)
   rintro _ rfl
   generalize cmpBk x h = z
   by_cases he : z = 0
   ·refine D8 ?_
    refine BS ?_
    refine A8 ?_
    refine A8 ?_
    refine A4 ?_
    skip
    exact AI (res2 rfl rfl rfl) rsubZ selZ ⟨rfl, i, true, h2, h3, h4, rfl⟩
   ·refine DA ?_
    refine BS ?_
    refine A8 ?_
    refine A8 ?_
    refine A4 ?_
    skip
    exact AI (res2 rfl rfl rfl) rsubZ selZ ⟨rfl, i, false, h2, h3, h4, rfl⟩
  ·refine AD ?_
   refine AD ?_
   refine AA ?_
   refine AB ?_
   refine AB ?_
   refine AZ ?_
   refine AE ?_
   refine AN rfl ?_
   refine BB rfl ?_
   refine AD ?_
   refine A3 (.q 0 (.q 1 (.q 2 (.q 3 (.q 4 (.q 5 (.q 6 (.q 7 (.q 8 (.q 9 (.q 10 (.q 11 (.q 12 (.q 13 (.q 14 (.q 15 .nil)))))))))))))))) [] rfl (by kernel_rfl) Sel.nil ?_
   refine AQ ?_
   refine AQ ?_
   refine AQ ?_
   refine DN ?_
   refine AQ ?_
   refine A5 rfl rfl rfl rfl rfl ?_
   refine A5 rfl rfl rfl rfl rfl ?_
   refine A5 rfl rfl rfl rfl rfl ?_
   refine A5 rfl rfl rfl rfl rfl ?_
   refine A5 rfl rfl rfl rfl rfl ?_
   refine A5 rfl rfl rfl rfl rfl ?_
   refine A5 rfl rfl rfl rfl rfl ?_
   refine A5 rfl rfl rfl rfl rfl ?_
   refine B8 ?_
   refine A8 ?_
   refine A8 ?_
   refine A4 ?_
   skip
   exact AI (res2 rfl rfl rfl) rsubZ selZ ⟨rfl, i, false, h2, h3, h4, rfl⟩
theorem bkOver_spec (bx : Nat) (x : Bk) (s : Int × Int) : Ans Tryz.prog (.func (.func 74) #[] #[.pointer (some ⟨bx, 0, none⟩)]) [.agg (encS s).toArray] [sng bx (.cells #[int x.c, int x.a, int x.b, int x.k] 73 (0, 0))] (fun r => r = .bool (overB x s)) := by
 refine spec_in (cap := [.pointer (some ⟨bx, 0, none⟩)]) Tryz.func74 rfl rfl Tryz.ntmps74 rfl envZ (fun N β => ?_)
 unfold overB
 have c0 : rdc (sng bx (.cells #[int x.c, int x.a, int x.b, int x.k] 73 (0, 0))) bx 0 = some (int x.c) := by rw [rdc_sng]; rfl
 have c1 : rdc (sng bx (.cells #[int x.c, int x.a, int x.b, int x.k] 73 (0, 0))) bx 1 = some (int x.a) := by rw [rdc_sng]; rfl
 have c2 : rdc (sng bx (.cells #[int x.c, int x.a, int x.b, int x.k] 73 (0, 0))) bx 2 = some (int x.b) := by rw [rdc_sng]; rfl
 have c3 : rdc (sng bx (.cells #[int x.c, int x.a, int x.b, int x.k] 73 (0, 0))) bx 3 = some (int x.k) := by rw [rdc_sng]; rfl
 by_cases h1 : s.1 < x.b
 ·by_cases h2 : x.a < s.2
  ·rw [decide_eq_true h1, decide_eq_true h2]
   refine AD ?_
   refine AA ?_
   refine B9 ?_; rintro _ _ ⟨b, rfl, rfl⟩
   refine AC ?_
   refine AE ?_
   refine AD ?_
   refine AA ?_
   refine AG ?_
   refine AF ?_
   refine AG ?_
   refine AF ?_
   refine BI ?_
   refine AB ?_
   refine AG ?_
   refine AF ?_
   refine AG ?_
   refine AF ?_
   refine BI ?_
   refine AK ?_
   refine AC ?_
   refine AE ?_
   exact AI (res1 rfl rfl) rsubZ selZ ⟨rfl, rfl⟩
  ·rw [decide_eq_true h1, decide_eq_false h2]
   refine AD ?_
   refine AA ?_
   refine B9 ?_; rintro _ _ ⟨b, rfl, rfl⟩
   refine AC ?_
   refine AE ?_
   refine AD ?_
   refine AA ?_
   refine AG ?_
   refine AF ?_
   refine AG ?_
   refine AF ?_
   refine BI ?_
   refine AB ?_
   refine AG ?_
   refine AF ?_
   refine AG ?_
   refine AF ?_
   refine AZ ?_
   refine AK ?_
   refine AC ?_
   refine AE ?_
   exact AI (res1 rfl rfl) rsubZ selZ ⟨rfl, rfl⟩
 ·rw [decide_eq_false h1, Bool.false_and]
  refine AD ?_
  refine AA ?_
  refine B9 ?_; rintro _ _ ⟨b, rfl, rfl⟩
  refine AC ?_
  refine AE ?_
  refine AD ?_
  refine AA ?_
  refine AG ?_
  refine AF ?_
  refine AG ?_
  refine AF ?_
  refine AZ ?_
  refine AB ?_
  refine AH rfl rfl rfl ?_
  refine AH rfl rfl rfl ?_
  refine AH rfl rfl rfl ?_
  refine AH rfl rfl rfl ?_
  refine AH rfl rfl rfl ?_
  refine AJ ?_
  refine AC ?_
  refine AE ?_
  exact AI (res1 rfl rfl) rsubZ selZ ⟨rfl, rfl⟩
set_option maxHeartbeats 16000000 in
theorem bkInsert_spec (σ : PH) (p : Option Addr) (kk : Nat) (l : List Bk) (x : Bk) (hv : BkAt σ (.slice p l.length kk) l) (hs : l.Pairwise (fun x y => cmpBk x y < 0)) (hl : l.length ≤ 600) :
  Makes Tryz.prog (fv 75) [.slice p l.length kk, .agg #[int x.c, int x.a, int x.b, int x.k]] [σ] (fun r χ => ∃ k, (∀ y ∈ l.take k, cmpBk y x < 0) ∧ (∀ y ∈ l.drop k, 0 ≤ cmpBk y x) ∧ OwnS 73 4 r (insL l k x).length ((insL l k x).flatMap encB) χ) := by
 have hcl := cloneB_spec σ (.slice p l.length kk) l hv (by omega)
 refine spec_in (cap := []) Tryz.func75 rfl rfl Tryz.ntmps75 rfl envZ (fun N β => ?_)
 refine AD ?_
 refine AA ?_
 refine BC (BK rfl) rfl rfl rfl ?_
 rintro _ _ ⟨b3, rfl, rfl⟩
 refine AR (ρ := sng b3 _) takeZ ?_
 have c : RdN (sng b3 (.cells #[int x.c, int x.a, int x.b, int x.k] 73 (0, 0))) b3 0 [int x.c, int x.a, int x.b, int x.k] := rdN_sng (vs := [int x.c, int x.a, int x.b, int x.k])
 have c0 : rdc (sng b3 (.cells #[int x.c, int x.a, int x.b, int x.k] 73 (0, 0))) b3 0 = some (int x.c) := by rw [rdc_sng]; rfl
 have c1 : rdc (sng b3 (.cells #[int x.c, int x.a, int x.b, int x.k] 73 (0, 0))) b3 1 = some (int x.a) := by rw [rdc_sng]; rfl
 have c2 : rdc (sng b3 (.cells #[int x.c, int x.a, int x.b, int x.k] 73 (0, 0))) b3 2 = some (int x.b) := by rw [rdc_sng]; rfl
 have c3 : rdc (sng b3 (.cells #[int x.c, int x.a, int x.b, int x.k] 73 (0, 0))) b3 3 = some (int x.k) := by rw [rdc_sng]; rfl
 refine AC ?_
 refine AE ?_
 refine AD ?_
 refine AA ?_
 refine AB ?_
 refine AT ?_
 refine A2 (bsearchB_spec σ _ l x hv hs (by omega)) rfl rfl rdZ rfl rfl ?_
 rintro _ ⟨k, bo, hk, hk1, hk2, rfl⟩
 refine AB ?_
 refine AL ?_
 refine AL ?_
 refine AC ?_
 refine AC ?_
 refine AE ?_
 refine AD ?_
 refine A3 (.q 0 (.q 2 (.q 3 (.l2 1 .e (.l 4 .e (.l 5 .b (.q 6 .nil))) 4 .e (.l 1 .e (.l 5 .b (.q 6 .nil))))))) [] rfl (by kernel_rfl) Sel.nil ?_
 repeat' (first
  | (refine AQ ?_)
  | (refine BN ?_)
  | (refine EP ?_ ?_)
  | (refine CY ?_; rintro _ _ ⟨b, rfl, rfl⟩)
  | fail)
 ·refine CK rfl hcl rfl rfl rdZ rfl rfl ?_
  rintro ucl _ ⟨σc, hOc, rfl⟩
  refine BP ?_; rintro _ _ ⟨b, rfl, rfl⟩
  refine CE (CV rfl (insertB_spec σc b ucl l k x hOc hk (by omega)) rfl rfl takesZ rdZ rfl rfl (fun _ _ _ w hw => hw.sel Sel.nil) ?_)
  rintro ui _ ⟨σi, hOi, rfl⟩
  refine A8 ?_
  refine A4 ?_
  skip
  exact AI (res1 rfl rfl) rsubZ selZ ⟨σi, ⟨k, hk1, hk2, hOi⟩, rfl⟩
 ·refine CE (CK rfl hcl rfl rfl rdZ rfl rfl ?_)
  rintro ucl _ ⟨σc, hOc, rfl⟩
  refine CE (CV rfl (insertB_spec σc b ucl l k x hOc hk (by omega)) rfl rfl takesZ rdZ rfl rfl (fun _ _ _ w hw => hw.sel Sel.nil) ?_)
  rintro ui _ ⟨σi, hOi, rfl⟩
  refine A8 ?_
  refine A4 ?_
  skip
  exact AI (res1 rfl rfl) rsubZ selZ ⟨σi, ⟨k, hk1, hk2, hOi⟩, rfl⟩
set_option maxHeartbeats 16000000 in
theorem bkAdd_spec (ρ τ σ : PH) (pq pc p : Option Addr) (kq kc kk : Nat) (qs : List Int) (cs : List Ct) (l : List Bk) (x : Bk) (hq : IntsAt ρ (.slice pq qs.length kq) qs) (hc : CtAt τ (.slice pc cs.length kc) cs) (hcap : cs.length ≤ kc) (lq : qs.length ≤ 9223372036854775807) (lc : cs.length ≤ 9223372036854775807) (hv : BkAt σ (.slice p l.length kk) l) (hl : l.length ≤ 9223372036854775807) :
  Makes Tryz.prog (fv 34) [.agg #[.slice pq qs.length kq, .slice pc cs.length kc], .slice p l.length kk, .agg #[int x.c, int x.a, int x.b, int x.k]] [ρ, τ, σ] (fun r χ => ∃ (u : Value) (l' : List Bk) (e : Int), r = .tuple #[u, int e] ∧ AddB qs cs l l' e ∧ OwnS 73 4 u l'.length (l'.flatMap encB) χ) := by
 have hck := bkCheck_spec ρ τ σ pq pc kq kc qs cs _ l hq hc hcap lq lc hv hl
 have hvl := bkValid_spec τ pq pc qs.length kq kc cs x hc
 refine spec_in (cap := []) Tryz.func34 rfl rfl Tryz.ntmps34 rfl envZ (fun N β => ?_)
 refine B5 ?_
 refine AD ?_
 refine AA ?_
 refine BC (BK rfl) rfl rfl rfl ?_
 rintro _ _ ⟨b1, rfl, rfl⟩
 refine AR (ρ := sng b1 _) takeZ ?_
 have c : RdN (sng b1 (.cells #[.slice pq qs.length kq, .slice pc cs.length kc] 25 (0, 0))) b1 0 [.slice pq qs.length kq, .slice pc cs.length kc] := rdN_sng (vs := [.slice pq qs.length kq, .slice pc cs.length kc])
 have c0 : rdc (sng b1 (.cells #[.slice pq qs.length kq, .slice pc cs.length kc] 25 (0, 0))) b1 0 = some (.slice pq qs.length kq) := by rw [rdc_sng]; rfl
 have c1 : rdc (sng b1 (.cells #[.slice pq qs.length kq, .slice pc cs.length kc] 25 (0, 0))) b1 1 = some (.slice pc cs.length kc) := by rw [rdc_sng]; rfl
 refine BC (BK rfl) rfl rfl rfl ?_
 rintro _ _ ⟨b2, rfl, rfl⟩
 refine AR (ρ := sng b2 _) takeZ ?_
 have cx : RdN (sng b2 (.cells #[int x.c, int x.a, int x.b, int x.k] 73 (0, 0))) b2 0 [int x.c, int x.a, int x.b, int x.k] := rdN_sng (vs := [int x.c, int x.a, int x.b, int x.k])
 have cx0 : rdc (sng b2 (.cells #[int x.c, int x.a, int x.b, int x.k] 73 (0, 0))) b2 0 = some (int x.c) := by rw [rdc_sng]; rfl
 have cx1 : rdc (sng b2 (.cells #[int x.c, int x.a, int x.b, int x.k] 73 (0, 0))) b2 1 = some (int x.a) := by rw [rdc_sng]; rfl
 have cx2 : rdc (sng b2 (.cells #[int x.c, int x.a, int x.b, int x.k] 73 (0, 0))) b2 2 = some (int x.b) := by rw [rdc_sng]; rfl
 have cx3 : rdc (sng b2 (.cells #[int x.c, int x.a, int x.b, int x.k] 73 (0, 0))) b2 3 = some (int x.k) := by rw [rdc_sng]; rfl
 refine AC ?_
 refine AC ?_
 refine AE ?_
 refine AD ?_
 refine AD ?_
 refine AA ?_
 refine AT ?_
 refine AB ?_
 refine A2 hck rfl rfl rdZ rfl rfl ?_
 rintro _ rfl
 by_cases h0 : chkB qs cs l = 0
 rotate_left
 ·generalize chkB qs cs l = z at h0
  refine CX ?_
  refine AE ?_
  refine AO rfl ?_
  refine AD ?_
  refine AA ?_
  refine AC ?_
  refine AC ?_
  refine AE ?_
  exact AI (res2 rfl rfl rfl) rsubZ selZ ⟨emp, ⟨_, [], 1, rfl, .inl ⟨by omega, rfl⟩, OwnS.nil _ _⟩, rfl⟩
 rw [h0]
 refine BM ?_
 refine AE ?_
 refine AN rfl ?_
 refine AM ?_
 refine AD ?_
 refine AD ?_
 refine AA ?_
 refine AT ?_
 refine AT ?_
 refine A2 hvl rfl rfl rdZ rfl rfl ?_
 rintro _ rfl
 cases hx : okBkB cs x with
 | false =>
  refine A7 ?_
  refine AE ?_
  refine AO rfl ?_
  refine AD ?_
  refine AA ?_
  refine AC ?_
  refine AC ?_
  refine AE ?_
  exact AI (res2 rfl rfl rfl) rsubZ selZ ⟨emp, ⟨_, [], 2, rfl, .inl ⟨by omega, rfl⟩, OwnS.nil _ _⟩, rfl⟩
 | true =>
 by_cases hfull : l.length = 512
 ·refine A7 ?_
  refine AE ?_
  refine AN rfl ?_
  refine AM ?_
  refine AD ?_
  refine AD ?_
  refine AA ?_
  refine AB ?_
  refine AW ?_
  refine BQ ?_
  refine AE ?_
  refine AO rfl ?_
  refine AD ?_
  refine AA ?_
  refine AC ?_
  refine AC ?_
  refine AE ?_
  exact AI (res2 rfl rfl rfl) rsubZ selZ ⟨emp, ⟨_, [], 4, rfl, .inl ⟨by omega, rfl⟩, OwnS.nil _ _⟩, rfl⟩
 obtain ⟨hl5, hF⟩ := chkB_ok h0
 have hsort : l.Pairwise (fun x y => cmpBk x y < 0) := (bks_apart hF).imp_of_mem (fun {y z} hy _ hyz => by
  obtain ⟨_, c, _, _, h2, _⟩ := bkE_ok hF y hy
  rw [cmpBk_lt]
  omega)
 have hbusy := busy_spec σ _ l x.c hv (by omega)
 have hbl := busyL_len l x.c
 refine A7 ?_
 refine AE ?_
 refine AN rfl ?_
 refine AM ?_
 refine AD ?_
 refine AD ?_
 refine AA ?_
 refine AB ?_
 refine AW ?_
 refine BO ?_
 refine AE ?_
 refine AN rfl ?_
 refine AM ?_
 refine AD ?_
 refine AD ?_
 refine AA ?_
 refine AB ?_
 refine AG ?_
 refine AF ?_
 refine BG hbusy rfl rfl rdZ rfl rfl ?_
 rintro w χb hOb
 have hSb : SpAt χb w (busyL l x.c) := hOb.at
 refine AR (ρ := χb) takeZ ?_
 have hct := contS_spec χb [sng b2 (.cells #[int x.c, int x.a, int x.b, int x.k] 73 (0, 0))] w (.func (.func 74) #[] #[.pointer (some ⟨b2, 0, none⟩)]) (busyL l x.c) (overB x) hSb (by omega) (fun i s _ => bkOver_spec b2 x s)
 refine BU ?_
 refine A2 hct rfl rfl rdZ rfl rfl ?_
 rintro _ rfl
 cases ho : (busyL l x.c).any (overB x) with
 | true =>
  refine AE ?_
  refine AO rfl ?_
  refine AD ?_
  refine AA ?_
  refine AC ?_
  refine AC ?_
  refine AE ?_
  exact AI (res2 rfl rfl rfl) rsubZ selZ ⟨emp, ⟨_, [], 14, rfl, .inl ⟨by omega, rfl⟩, OwnS.nil _ _⟩, rfl⟩
 | false =>
 have hins := bkInsert_spec σ p kk l x hv hsort (by omega)
 refine AE ?_
 refine AN rfl ?_
 refine AM ?_
 refine AD ?_
 refine AA ?_
 refine AB ?_
 refine AT ?_
 refine BG hins rfl rfl rdZ rfl rfl ?_
 rintro u χi ⟨k, k1, k2, hOi⟩
 refine AC ?_
 refine AC ?_
 refine AE ?_
 exact AI (res2 rfl rfl rfl) rsubZ selZ ⟨χi, ⟨u, insL l k x, 0, rfl, .inr ⟨rfl, insB_ok h0 ((okBkB_iff cs x).1 hx) hfull ho k1 k2⟩, hOi⟩, rfl⟩
end Go.Proofs.YthdoegkjifgegaaGreat
/- Profiles and peaks, of the program and of the reference. -/
namespace Go.Proofs.YthdoegkjifgegaaGreat
open Go.Eng Go.Step
set_option maxRecDepth 100000
set_option maxHeartbeats 4000000

theorem chkH_pl {qs : List Int} {cs : List Ct} {l : List Hd} (h : chkH qs cs l = 0) : chkPl qs cs = 0 := by
 unfold chkH at h
 split at h
 ·omega
 ·rename_i hp; exact Decidable.not_not.1 hp
theorem chkH_ok {qs : List Int} {cs : List Ct} {l : List Hd} (h : chkH qs cs l = 0) : (∀ x ∈ l, okHd qs.length x) ∧ l.length ≤ 512 ∧ (1 ≤ qs.length ∧ qs.length ≤ 16) := by
 unfold chkH at h
 split at h
 ·omega
 ·rename_i hp
  split at h
  ·omega
  ·split at h
   ·rename_i h2; exact absurd h h2
   ·rename_i h1 h2
    have h3 : firstE (hdE qs.length l) l.length = 0 := Decidable.not_not.1 h2
    have := hdE_ok h3
    rw [List.take_length] at this
    exact ⟨this, by omega, (chkPl_quo (Decidable.not_not.1 hp)).1⟩
end Go.Proofs.YthdoegkjifgegaaGreat
/- Where a node can store more, of the program. -/
namespace Go.Proofs.YthdoegkjifgegaaGreat
open Go.Eng Go.Step
set_option maxRecDepth 100000
set_option maxHeartbeats 4000000

end Go.Proofs.YthdoegkjifgegaaGreat
/- Where a node can store more, of the program: Free. -/
namespace Go.Proofs.YthdoegkjifgegaaGreat
open Go.Eng Go.Step
set_option maxRecDepth 100000
set_option maxHeartbeats 4000000

end Go.Proofs.YthdoegkjifgegaaGreat
/- Where a node can store more, of the reference. -/
namespace Go.Proofs.YthdoegkjifgegaaGreat
open Go.Eng Go.Step
set_option maxRecDepth 100000
set_option maxHeartbeats 4000000

end Go.Proofs.YthdoegkjifgegaaGreat
/- Free spans, of the reference; lists compared. -/
namespace Go.Proofs.YthdoegkjifgegaaGreat
open Go.Eng Go.Step
set_option maxRecDepth 100000
set_option maxHeartbeats 4000000

end Go.Proofs.YthdoegkjifgegaaGreat
/- slices.Clone and slices.Insert of holds. -/
namespace Go.Proofs.YthdoegkjifgegaaGreat
open Go.Eng Go.Step
set_option maxRecDepth 100000
set_option maxHeartbeats 4000000

theorem ones_H : ∀ (l : List Hd), ∀ u ∈ l.flatMap encH, u.oneCell' = true := fun l u hu => by
 obtain ⟨x, _, hx⟩ := List.mem_flatMap.1 hu
 simp only [encH, List.mem_cons, List.not_mem_nil, or_false] at hx
 rcases hx with rfl | rfl | rfl | rfl | rfl <;> rfl
theorem cloneH_spec (ρ : PH) (v : Value) (l : List Hd) (hv : SlE encH 5 ρ v l) (hl : l.length ≤ 1000000) :
  Makes Tryz.prog (fv 80) [v] [ρ] (fun r σ => OwnS 75 5 r l.length (l.flatMap encH) σ) := by
 have hv2 := hv
 obtain ⟨q, c, rfl, hr⟩ := hv.val encH_len
 refine spec_in (cap := []) Tryz.func80 rfl rfl Tryz.ntmps80 rfl envZ (fun N β => ?_)
 cases q with
 | none =>
  have hnil : l = [] := by
   cases l with
   | nil => rfl
   | cons a l =>
    obtain ⟨b, o, e, _⟩ := hr 0 a rfl
    simp at e
  subst hnil
  refine B5 ?_
  refine AD ?_
  refine AA ?_
  refine AC ?_
  refine AE ?_
  refine AD ?_
  refine AD ?_
  refine AA ?_
  refine AB ?_
  focus ((refine' B0 _ rfl rfl rfl _; rotate_left; (apply FO; exact rfl; exact rfl; exact rfl)))
  refine AE ?_
  refine AO rfl ?_
  refine AD ?_
  refine AA ?_
  refine AC ?_
  refine AE ?_
  exact AI (res1 rfl rfl) rsubZ selZ ⟨emp, OwnS.nil _ _, rfl⟩
 | some ad =>
  refine AD ?_
  refine AA ?_
  refine AC ?_
  refine AE ?_
  refine AD ?_
  refine AD ?_
  refine AA ?_
  refine AB ?_
  focus ((refine' B0 _ rfl rfl rfl _; rotate_left; (apply FP; exact rfl; exact rfl; exact rfl)))
  refine AE ?_
  refine AN rfl ?_
  refine AM ?_
  refine AD ?_
  refine AA ?_
  refine BF ?_; rintro _ _ ⟨b, rfl, rfl⟩
  refine AB ?_
  refine BC (EG (by_ := 40) (s := 5) (σ := ρ) (news := l.flatMap encH) (m := l.length) rfl rfl rfl rfl rfl rfl rfl (OwnS.empty (b := b)) takeZ hv2 (fun b o h => cellsR h memZ) (ones_H l) (by simp only [maxLen]; omega) (by omega)) rfl rfl rfl ?_
  rintro r1 _ ⟨σ, hO, rfl⟩
  refine AC ?_
  refine AE ?_
  refine AI (res1 rfl rfl) rsubZ selZ ⟨σ, ?_, rfl⟩
  simpa using hO
set_option maxHeartbeats 16000000 in
theorem insertH_spec (σ : PH) (bv : Nat) (v : Value) (l : List Hd) (k : Nat) (h : Hd) (hO : OwnS 75 5 v l.length (l.flatMap encH) σ) (hk : k ≤ l.length) (hl : l.length ≤ 1000) :
  Eng.Spec Tryz.prog (fv 79) [v, int k, .slice (some ⟨bv, 0, none⟩) 1 1] [sng bv (.cells (encH h).toArray 75 (0, 0))] [σ] (fun r H' => ∃ σ', OwnS 75 5 r (insL l k h).length ((insL l k h).flatMap encH) σ' ∧ H' = [σ']) := by
 have hO1 := hO
 have hone : ∀ u ∈ encH h, u.oneCell' = true := by simpa using ones_H [h]
 have hrdv : RdN (sng bv (.cells (encH h).toArray 75 (0, 0))) bv 0 (encH h) := rdN_sng
 refine spec_in (cap := []) Tryz.func79 rfl rfl Tryz.ntmps79 rfl envZ (fun N β => ?_)
 rcases hO.block with ⟨rfl, rfl, rfl⟩ | ⟨b, cap, cur, rfl, rfl, hcap, hcm, hcs, htk⟩
 ·have hk0 : k = 0 := by simpa using hk
  subst hk0
  refine AD ?_
  refine AA ?_
  refine AC ?_
  refine AE ?_
  refine AD ?_
  refine AA ?_
  refine AB ?_
  refine AB ?_
  refine B6 ?_
  refine AE ?_
  refine AD ?_
  refine AA ?_
  refine AB ?_
  refine AW ?_
  refine AC ?_
  refine AE ?_
  refine AD ?_
  refine AD ?_
  refine AA ?_
  refine AB ?_
  refine BO ?_
  refine AE ?_
  refine AN rfl ?_
  refine AM ?_
  refine AD ?_
  refine AA ?_
  refine AB ?_
  refine AW ?_
  refine AC ?_
  refine AE ?_
  refine AD ?_
  refine AD ?_
  refine AA ?_
  refine AB ?_
  refine AB ?_
  refine BQ ?_
  refine AE ?_
  refine AO rfl ?_
  refine AD ?_
  refine AA ?_
  refine AB ?_
  refine AB ?_
  refine BC (BW (by_ := 40) (s := 5) (news := encH h) rfl rfl rfl rfl rfl rfl rfl hO1 takeZ (cells_of_mem (σ := sng bv (.cells (encH h).toArray 75 (0, 0))) (Mem.mem memZ) hrdv) rfl hone (by omega) (by simp only [maxLen, List.length_nil]; omega) (by simp only [List.length_nil]; omega)) rfl rfl rfl ?_
  rintro u _ ⟨σ', hO', rfl⟩
  refine AC ?_
  refine AE ?_
  exact AI (res1 rfl rfl) rsubZ selZ ⟨σ', by simpa [insL] using hO', rfl⟩
 ·by_cases hkn : k = l.length
  ·subst hkn
   refine AD ?_
   refine AA ?_
   refine AC ?_
   refine AE ?_
   refine AD ?_
   refine AA ?_
   refine AB ?_
   refine AB ?_
   refine B6 ?_
   refine AE ?_
   refine AD ?_
   refine AA ?_
   refine AB ?_
   refine AW ?_
   refine AC ?_
   refine AE ?_
   refine AD ?_
   refine AD ?_
   refine AA ?_
   refine AB ?_
   refine BO ?_
   refine AE ?_
   refine AN rfl ?_
   refine AM ?_
   refine AD ?_
   refine AA ?_
   refine AB ?_
   refine AW ?_
   refine AC ?_
   refine AE ?_
   refine AD ?_
   refine AD ?_
   refine AA ?_
   refine AB ?_
   refine AB ?_
   refine BQ ?_
   refine AE ?_
   refine AO rfl ?_
   refine AD ?_
   refine AA ?_
   refine AB ?_
   refine AB ?_
   refine BC (BW (by_ := 40) (s := 5) (news := encH h) rfl rfl rfl rfl rfl rfl rfl hO1 takeZ (cells_of_mem (σ := sng bv (.cells (encH h).toArray 75 (0, 0))) (Mem.mem memZ) hrdv) rfl hone (by omega) (by simp only [maxLen]; omega) (by omega)) rfl rfl rfl ?_
   rintro u _ ⟨σ', hO', rfl⟩
   refine AC ?_
   refine AE ?_
   refine AI (res1 rfl rfl) rsubZ selZ ⟨σ', ?_, rfl⟩
   rw [insL_end, List.length_append, List.flatMap_append]
   simpa using hO'
  ·have hfl : (l.flatMap encH).length = l.length * 5 := flat_len encH_len l
   have htp : cur.toList.take (k * 5) = (l.take k).flatMap encH := by
    rw [flat_take encH_len, ← htk, List.take_take]
    congr 1
    omega
   have hdr : ∀ j u, ((l.drop k).flatMap encH)[j]? = some u → cur.toList[k * 5 + j]? = some u := fun j u hu => by
    rw [flat_cut encH_len l k hk, List.getElem?_drop, ← htk] at hu
    have hlt : k * 5 + j < l.length * 5 := by
     have := (List.getElem?_eq_some_iff.1 hu).1
     simp at this; omega
    rwa [List.getElem?_take_of_lt hlt] at hu
   have hol : ∀ u ∈ (l.drop k).flatMap encH, u.oneCell' = true := ones_H (l.drop k)
   have hdl : ((l.drop k).flatMap encH).length = (l.length - k) * 5 := by rw [flat_len encH_len, List.length_drop]
   by_cases hroom : l.length + 1 ≤ cap
   ·refine AD ?_
    refine AA ?_
    refine AC ?_
    refine AE ?_
    refine AD ?_
    refine AA ?_
    refine AB ?_
    refine AB ?_
    refine B6 ?_
    refine AE ?_
    refine AD ?_
    refine AA ?_
    refine AB ?_
    refine AW ?_
    refine AC ?_
    refine AE ?_
    refine AD ?_
    refine AD ?_
    refine AA ?_
    refine AB ?_
    refine BO ?_
    refine AE ?_
    refine AN rfl ?_
    refine AM ?_
    refine AD ?_
    refine AA ?_
    refine AB ?_
    refine AW ?_
    refine AC ?_
    refine AE ?_
    refine AD ?_
    refine AD ?_
    refine AA ?_
    refine AB ?_
    refine AB ?_
    refine BO ?_
    refine AE ?_
    refine AN rfl ?_
    refine AM ?_
    refine AD ?_
    refine AD ?_
    refine AA ?_
    refine AB ?_
    refine AB ?_
    refine BA ?_
    refine AB ?_
    refine E6 ?_
    refine BY ?_
    refine AE ?_
    refine AN rfl ?_
    refine AM ?_
    refine AD ?_
    refine AA ?_
    refine AB ?_
    refine AB ?_
    refine AB ?_
    refine BA ?_
    refine DE ?_
    refine AC ?_
    refine AE ?_
    refine AD ?_
    refine AD ?_
    refine AA ?_
    refine AB ?_
    refine AB ?_
    refine AB ?_
    refine AB ?_
    refine BA ?_
    refine B6 ?_
    rw [cutP_zero]
    skip
    rw [cutP_atE 5 (show k + 1 < cap by omega)]
    rotate_left; exact rfl
    refine B0 (DY (s := 5) (tS := 27) (tR := 4) (e := 75) (cu1 := (encH h).toArray) (t1 := 75) (cu2 := cur) (t2 := 75) Tryz.func113 (by kernel_rfl) rfl (by kernel_rfl) (by kernel_rfl) rfl rfl rfl rfl rfl rfl rfl (Mem.mem memZ) (Mem.mem memZ) (by rw [hcs]; omega)) rfl rfl rfl ?_
    refine A7 ?_
    refine AE ?_
    refine AO rfl ?_
    refine AD ?_
    refine A3 (.q 0 (.q 1 (.q 2 (.q 3 (.q 4 (.q 5 (.q 6 (.q 7 (.l 8 .b .nil))))))))) [] rfl (by kernel_rfl) Sel.nil ?_
    refine AQ ?_
    refine AQ ?_
    refine AQ ?_
    refine E2 ?_
    refine CR ?_
    refine AQ ?_
    refine AQ ?_
    refine CR ?_
    rw [cutP_atE 5 (show k + 1 < cap by omega), cutP_atE 5 (show k < cap by omega)]
    rotate_left; exact rfl; exact rfl
    refine CE (a_b rfl (C5 (s := 5) (news := (l.drop k).flatMap encH) rfl rfl rfl rfl takeZ (cells_of_memH (σ := sng b (.cells cur 75 (0, 0))) (Mem.mem memZ) (rdN_take (by simpa using hdr))) (by rw [hdl]; congr 1; simp only [Nat.min_def]; split <;> omega) hol (by rw [hdl, hcs]; omega)) rfl rfl rfl (fun _ _ _ w hw => hw.sel Sel.nil) ?_)
    rintro _ _ ⟨rfl, rfl⟩
    refine A4 ?_
    refine AD ?_
    refine AA ?_
    refine AB ?_
    refine AB ?_
    refine B6 ?_
    refine AB ?_
    rw [cutP_atE 5 (show k < cap by omega)]
    rotate_left; exact rfl
    have hsz1 : (cur.toList.take (0 + (k + 1) * 5) ++ (l.drop k).flatMap encH ++ cur.toList.drop (0 + (k + 1) * 5 + ((l.drop k).flatMap encH).length)).length = cap * 5 := by
     simp only [List.length_append, List.length_take, List.length_drop, Array.length_toList, hdl, hcs]
     omega
    have htk1 : (cur.toList.take (0 + (k + 1) * 5) ++ (l.drop k).flatMap encH ++ cur.toList.drop (0 + (k + 1) * 5 + ((l.drop k).flatMap encH).length)).take (k * 5) = (l.take k).flatMap encH := by
     rw [List.append_assoc, List.take_append_of_le_length (by rw [List.length_take, Array.length_toList, hcs]; omega), List.take_take, ← htp]
     congr 1
     omega
    have hdr1 : (cur.toList.take (0 + (k + 1) * 5) ++ (l.drop k).flatMap encH ++ cur.toList.drop (0 + (k + 1) * 5 + ((l.drop k).flatMap encH).length)).drop (k * 5 + 5) = (l.drop k).flatMap encH ++ cur.toList.drop (0 + (k + 1) * 5 + ((l.drop k).flatMap encH).length) := by
     have e : (cur.toList.take (0 + (k + 1) * 5)).length = k * 5 + 5 := by rw [List.length_take, Array.length_toList, hcs]; omega
     rw [List.append_assoc, ← e, List.drop_left]
    generalize hc1 : cur.toList.take (0 + (k + 1) * 5) ++ (l.drop k).flatMap encH ++ cur.toList.drop (0 + (k + 1) * 5 + ((l.drop k).flatMap encH).length) = c1 at hsz1 htk1 hdr1 ⊢
    refine BC (C5 (s := 5) (news := encH h) rfl rfl rfl rfl takeZ (cells_of_mem (σ := sng bv (.cells (encH h).toArray 75 (0, 0))) (Mem.mem memZ) hrdv) (by rw [encH_len]; simp only [Nat.min_def]; split <;> omega) hone (by rw [encH_len, List.size_toArray, hsz1]; omega)) rfl rfl rfl ?_
    rintro _ _ ⟨rfl, rfl⟩
    refine AE ?_
    refine AD ?_
    refine AA ?_
    refine AB ?_
    refine AC ?_
    refine AE ?_
    refine AI (res1 rfl rfl) rsubZ selZ ⟨_, ⟨flat_len encH_len _, .inr ⟨b, cap, _, by rw [insL_len], rfl, by rw [insL_len]; exact hroom, hcm, ?_, ?_⟩⟩, rfl⟩
    ·simp only [List.size_toArray, List.length_append, List.length_take, List.length_drop, encH_len, hsz1]
     omega
    ·rw [insL_len, encH_len]
     have := ins_cells encH_len l k h hk c1 htk1 (cur.toList.drop (0 + (k + 1) * 5 + ((l.drop k).flatMap encH).length))
     simp only [Nat.zero_add] at hdr1 this ⊢
     rw [hdr1, ← this]
     simp only [List.append_assoc]
   ·refine AD ?_
    refine AA ?_
    refine AC ?_
    refine AE ?_
    refine AD ?_
    refine AA ?_
    refine AB ?_
    refine AB ?_
    refine B6 ?_
    refine AE ?_
    refine AD ?_
    refine AA ?_
    refine AB ?_
    refine AW ?_
    refine AC ?_
    refine AE ?_
    refine AD ?_
    refine AD ?_
    refine AA ?_
    refine AB ?_
    refine BO ?_
    refine AE ?_
    refine AN rfl ?_
    refine AM ?_
    refine AD ?_
    refine AA ?_
    refine AB ?_
    refine AW ?_
    refine AC ?_
    refine AE ?_
    refine AD ?_
    refine AD ?_
    refine AA ?_
    refine AB ?_
    refine AB ?_
    refine BO ?_
    refine AE ?_
    refine AN rfl ?_
    refine AM ?_
    refine AD ?_
    refine AD ?_
    refine AA ?_
    refine AB ?_
    refine AB ?_
    refine BA ?_
    refine AB ?_
    refine E6 ?_
    refine CT ?_
    refine AE ?_
    refine AO rfl ?_
    refine AD ?_
    refine AA ?_
    refine AB ?_
    refine AB ?_
    refine DE ?_
    refine AB ?_
    refine AB ?_
    refine BA ?_
    refine AB ?_
    refine CQ ?_
    rw [cutP_zero, show ((l.length + 1 : Nat) : Int) - (k : Int) = ((l.length + 1 - k : Nat) : Int) from by omega]
    refine BC (DX (by_ := 40) (s := 5) (i := k) (k := l.length + 1 - k) (olds := (l.take k).flatMap encH) rfl rfl rfl rfl rfl rfl rfl rfl (by omega) (by omega) (cells_of_memH (σ := sng b (.cells cur 75 (0, 0))) (Mem.mem memZ) (rdN_take (fun j u hu => ?_))) (by rw [flat_len encH_len, List.length_take, Nat.min_eq_left hk]) (by omega) (by simp only [maxLen]; omega) (by omega)) rfl rfl rfl ?_
    ·rw [← htp] at hu
     have hlt := (List.getElem?_eq_some_iff.1 hu).1
     rw [List.length_take] at hlt
     rw [List.getElem?_take_of_lt (by omega)] at hu
     rwa [Nat.zero_add]
    rintro _ _ ⟨b3, cap3, cu3, ⟨rfl, rfl⟩, hc3, hm3, hs3, ht3⟩
    refine AC ?_
    refine AE ?_
    refine AD ?_
    refine AA ?_
    refine AB ?_
    refine AB ?_
    refine B6 ?_
    refine AB ?_
    rw [cutP_atE 5 (show k < cap3 by omega)]
    rotate_left; exact rfl
    refine BC (C5 (s := 5) (news := encH h) rfl rfl rfl rfl takeZ (cells_of_mem (σ := sng bv (.cells (encH h).toArray 75 (0, 0))) (Mem.mem memZ) hrdv) (by rw [encH_len]; simp only [Nat.min_def]; split <;> omega) hone (by rw [encH_len, hs3]; omega)) rfl rfl rfl ?_
    rintro _ _ ⟨rfl, rfl⟩
    have hsz1 : (cu3.toList.take (0 + k * 5) ++ encH h ++ cu3.toList.drop (0 + k * 5 + (encH h).length)).length = cap3 * 5 := by
     simp only [List.length_append, List.length_take, List.length_drop, Array.length_toList, encH_len, hs3]
     omega
    have htk1 : (cu3.toList.take (0 + k * 5) ++ encH h ++ cu3.toList.drop (0 + k * 5 + (encH h).length)).take ((k + 1) * 5) = (l.take k).flatMap encH ++ encH h := by
     have e : (cu3.toList.take (0 + k * 5) ++ encH h).length = (k + 1) * 5 := by rw [List.length_append, List.length_take, Array.length_toList, hs3, encH_len]; omega
     rw [← e, List.take_left, Nat.zero_add, ht3]
    generalize hc1 : cu3.toList.take (0 + k * 5) ++ encH h ++ cu3.toList.drop (0 + k * 5 + (encH h).length) = c1 at hsz1 htk1 ⊢
    refine AE ?_
    refine AD ?_
    refine A3 (.q 0 (.q 1 (.q 2 (.q 3 (.q 4 (.q 5 (.q 6 (.q 7 (.l 8 .b .nil))))))))) [] rfl (by kernel_rfl) Sel.nil ?_
    refine AQ ?_
    refine AQ ?_
    refine AQ ?_
    refine E2 ?_
    refine CR ?_
    refine AQ ?_
    refine AQ ?_
    refine CR ?_
    by_cases hk1 : k + 1 < cap3
    rotate_left
    ·exfalso; omega
    rw [cutP_atE 5 hk1, cutP_atE 5 (show k < cap by omega)]
    rotate_left; exact rfl; exact rfl
    refine CE (a_b rfl (C5 (s := 5) (news := (l.drop k).flatMap encH) rfl rfl rfl rfl takeZ (cells_of_memH (σ := sng b (.cells cur 75 (0, 0))) (Mem.mem memZ) (rdN_take (by simpa using hdr))) (by rw [hdl]; congr 1; simp only [Nat.min_def]; split <;> omega) hol (by rw [hdl, List.size_toArray, hsz1]; omega)) rfl rfl rfl (fun _ _ _ w hw => hw.sel Sel.nil) ?_)
    rintro _ _ ⟨rfl, rfl⟩
    refine A4 ?_
    refine AD ?_
    refine AA ?_
    refine AB ?_
    refine AC ?_
    refine AE ?_
    refine AI (res1 rfl rfl) rsubZ selZ ⟨_, ⟨flat_len encH_len _, .inr ⟨b3, cap3, _, by rw [insL_len]; congr 1; omega, rfl, by rw [insL_len]; omega, hm3, ?_, ?_⟩⟩, rfl⟩
    ·simp only [List.size_toArray, List.length_append, List.length_take, List.length_drop, hdl, hsz1]
     omega
    ·rw [insL_len]
     simp only [Nat.zero_add]
     rw [htk1]
     have e : ((l.take k).flatMap encH ++ encH h ++ (l.drop k).flatMap encH).length = (l.length + 1) * 5 := by
      rw [List.length_append, List.length_append, hdl, flat_len encH_len, encH_len, List.length_take, Nat.min_eq_left hk]; omega
     rw [← e, List.take_left]
     unfold insL
     rw [List.flatMap_append, List.flatMap_cons, List.append_assoc]
end Go.Proofs.YthdoegkjifgegaaGreat
/- Holds compared, released, put in their place, of the program and of the reference. -/
namespace Go.Proofs.YthdoegkjifgegaaGreat
open Go.Eng Go.Step
set_option maxRecDepth 100000
set_option maxHeartbeats 4000000

/- the reference's place of a hold -/
end Go.Proofs.YthdoegkjifgegaaGreat
