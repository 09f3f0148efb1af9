/- Texts of this proof, one after the other; no conditions. -/
import Derived.Test.YtknfhiolenobaaaGreatWB8
import Derived.Test.YtknfhiolenobaaaGreatWB2
import Derived.Test.YtknfhiolenobaaaGreatWB7
import Derived.Test.YtknfhiolenobaaaGreatWB6
import Derived.Test.YtknfhiolenobaaaGreatWB5
import Derived.Test.YtknfhiolenobaaaGreatWB4
import Derived.Test.YtknfhiolenobaaaGreatWB1
set_option linter.all false
/- What is reached: a search by a queue. What Max and Cut hand back. No program in sight. No conditions. -/
namespace Go.Flow
def bget (B : List Bool) (v : Nat) : Bool := B.getD v false
theorem bget_set {B : List Bool} {i j : Nat} {x : Bool} (hi : i < B.length) : bget (B.set i x) j = if i = j then x else bget B j := by
  unfold bget
  rw [List.getD_eq_getElem?_getD, List.getD_eq_getElem?_getD, List.getElem?_set]
  split
  · rename_i h; subst h; simp [hi]
  · rfl
theorem bget_rep (n v : Nat) : bget (List.replicate n false) v = false := by
  unfold bget
  rw [List.getD_eq_getElem?_getD, List.getElem?_replicate]
  split <;> rfl
structure RInv (n s : Nat) (E : Lk → Prop) (B : List Bool) (q : List Nat) : Prop where
  len : B.length = n
  src : bget B s = true
  snd : ∀ v, v < n → bget B v = true → Rch E s v
  qn : ∀ v ∈ q, v < n ∧ bget B v = true
  cl : ∀ u, u < n → bget B u = true → u ∉ q → ∀ x, E x → x.f = u → bget B x.t = true
structure RVInv (n s : Nat) (E : Lk → Prop) (B : List Bool) (v : Nat) (q : List Nat) (pre : List Lk) : Prop where
  len : B.length = n
  src : bget B s = true
  snd : ∀ v, v < n → bget B v = true → Rch E s v
  vn : v < n
  v0 : bget B v = true
  qn : ∀ v ∈ q, v < n ∧ bget B v = true
  cl : ∀ u, u < n → bget B u = true → u ∉ q → u ≠ v → ∀ x, E x → x.f = u → bget B x.t = true
  pre0 : ∀ x ∈ pre, bget B x.t = true
section
variable {n s : Nat} {E : Lk → Prop} {B : List Bool}
theorem RInv.start (hs : s < n) : RInv n s E ((List.replicate n false).set s true) [s] := by
  have hg : ∀ v, bget ((List.replicate n false).set s true) v = true → v = s := fun v h => by
    rw [bget_set (by simpa using hs), bget_rep] at h
    split at h
    · rename_i e; exact e.symm
    · simp at h
  refine ⟨by simp, by rw [bget_set (by simpa using hs)]; simp, fun v _ h => by rw [hg v h]; exact .refl, fun v hv => ?_, fun u _ h hq => ?_⟩
  · simp at hv; subst hv
    exact ⟨hs, by rw [bget_set (by simpa using hs)]; simp⟩
  · exact absurd (by rw [hg u h]; simp) hq
theorem RInv.take {v : Nat} {q : List Nat} (h : RInv n s E B (v :: q)) : RVInv n s E B v q [] :=
  ⟨h.len, h.src, h.snd, (h.qn v (by simp)).1, (h.qn v (by simp)).2, fun u hu => h.qn u (by simp [hu]), fun u hu hb hq hne => h.cl u hu hb (by simp [hq, hne]), by simp⟩
theorem RVInv.seen {v : Nat} {q : List Nat} {pre : List Lk} {x : Lk} (h : RVInv n s E B v q pre) (hx : bget B x.t = true) : RVInv n s E B v q (pre ++ [x]) :=
  ⟨h.len, h.src, h.snd, h.vn, h.v0, h.qn, h.cl, fun y hy => by
    rcases List.mem_append.1 hy with hy | hy
    · exact h.pre0 y hy
    · rw [List.mem_singleton.1 hy]; exact hx⟩
theorem RVInv.push {v : Nat} {q : List Nat} {pre : List Lk} {x : Lk} (h : RVInv n s E B v q pre) (hE : E x) (hxt : x.t < n) (hxf : x.f = v) : RVInv n s E (B.set x.t true) v (q ++ [x.t]) (pre ++ [x]) := by
  have hl : x.t < B.length := by rw [h.len]; exact hxt
  have hg : ∀ u, bget B u = true → bget (B.set x.t true) u = true := fun u hu => by rw [bget_set hl]; split <;> simp [hu]
  refine ⟨by simp [h.len], hg _ h.src, fun u hu hb => ?_, h.vn, hg _ h.v0, fun u hu => ?_, fun u hu hb hq hne y hy hyf => ?_, fun y hy => ?_⟩
  · rw [bget_set hl] at hb
    split at hb
    · rename_i e; rw [← e]
      exact .step (by rw [hxf]; exact h.snd v h.vn h.v0) hE
    · exact h.snd u hu hb
  · rcases List.mem_append.1 hu with hu | hu
    · exact ⟨(h.qn u hu).1, hg _ (h.qn u hu).2⟩
    · rw [List.mem_singleton.1 hu]
      exact ⟨hxt, by rw [bget_set hl]; simp⟩
  · simp only [List.mem_append, List.mem_singleton, not_or] at hq
    rw [bget_set hl] at hb
    split at hb
    · rename_i e; exact absurd e.symm hq.2
    · exact hg _ (h.cl u hu hb hq.1 hne y hy hyf)
  · rcases List.mem_append.1 hy with hy | hy
    · exact hg _ (h.pre0 y hy)
    · rw [List.mem_singleton.1 hy, bget_set hl]; simp
theorem RVInv.done {v : Nat} {q : List Nat} {pre : List Lk} (h : RVInv n s E B v q pre) (hall : ∀ x, E x → x.f = v → x ∈ pre) : RInv n s E B q :=
  ⟨h.len, h.src, h.snd, h.qn, fun u hu hb hq x hx hxf => by
    by_cases e : u = v
    · subst e; exact h.pre0 x (hall x hx hxf)
    · exact h.cl u hu hb hq e x hx hxf⟩
end
def sideOf (B : List Bool) (k : Nat) : List Int := ((List.range k).filter (fun v => bget B v)).map (fun (v : Nat) => (v : Int))
theorem sideOf_len (B : List Bool) (k : Nat) : (sideOf B k).length ≤ k := by
  unfold sideOf
  rw [List.length_map]
  have := List.length_filter_le (fun v => bget B v) (List.range k)
  simpa using this
theorem mem_sideOf {B : List Bool} {k : Nat} {x : Int} : x ∈ sideOf B k ↔ ∃ v : Nat, x = v ∧ v < k ∧ bget B v = true := by
  unfold sideOf
  rw [List.mem_map]
  constructor
  · rintro ⟨v, hv, rfl⟩
    rw [List.mem_filter] at hv
    exact ⟨v, rfl, by simpa using hv.1, hv.2⟩
  · rintro ⟨v, rfl, h1, h2⟩
    exact ⟨v, by rw [List.mem_filter]; exact ⟨by simpa using h1, h2⟩, rfl⟩
theorem capOf_congr {n : Nat} {p q : Nat → Bool} (h : ∀ v, v < n → p v = q v) : ∀ l : List Arc, (∀ a ∈ l, okArc n a = true) → capOf p l = capOf q l
  | [], _ => rfl
  | a :: l, hok => by
    obtain ⟨g1, g2, g3, g4, _⟩ := okArc_iff.1 (hok a (by simp))
    simp only [capOf]
    rw [capOf_congr h l (fun b hb => hok b (by simp [hb])), h a.f.toNat (by omega), h a.t.toNat (by omega)]
def maxErr (n : Int) (l : List Arc) (s t : Int) : Int := if chk n l ≠ 0 then chk n l else if okEnds n s t = true then 0 else 2
def MaxOK (n : Int) (l : List Arc) (s t : Int) (F : List Int) (m e : Int) : Prop :=
  (maxErr n l s t ≠ 0 ∧ e = maxErr n l s t ∧ F = [] ∧ m = 0) ∨
  (maxErr n l s t = 0 ∧ e = 0 ∧ RunR n.toNat l s.toNat t.toNat (List.replicate l.length 0) F ∧ m = fval s l F)
def CutOK (n : Int) (l : List Arc) (s t : Int) (side : List Int) (c e : Int) : Prop :=
  (maxErr n l s t ≠ 0 ∧ e = maxErr n l s t ∧ side = [] ∧ c = 0) ∨
  (maxErr n l s t = 0 ∧ e = 0 ∧ ∃ F B, RunR n.toNat l s.toNat t.toNat (List.replicate l.length 0) F ∧ IsReach n.toNat (rE l F) s.toNat (bget B) ∧ side = sideOf B n.toNat ∧ c = capOf (bget B) l)
structure Good (n : Int) (l : List Arc) (s t : Int) (n' s' t' : Nat) : Prop where
  en : n = n'
  es : s = s'
  et : t = t'
  sn : s' < n'
  tn : t' < n'
  ne : s' ≠ t'
  n2 : n' ≤ 2000
  l2 : l.length ≤ 20000
  ok : ∀ a ∈ l, okArc n' a = true
  chk : Flow.chk n l = 0
  ends : okEnds n s t = true
theorem maxErr_good {n s t : Int} {l : List Arc} (h : maxErr n l s t = 0) : ∃ n' s' t' : Nat, Good n l s t n' s' t' := by
  unfold maxErr at h
  split at h
  · rename_i h1; exact absurd h h1
  · rename_i h1
    split at h
    · rename_i h2
      have hc : Flow.chk n l = 0 := by omega
      obtain ⟨a1, a2, a3, a4⟩ := chk_ok hc
      obtain ⟨b1, b2, b3, b4, b5⟩ := okEnds_iff.1 h2
      refine ⟨n.toNat, s.toNat, t.toNat, ⟨by omega, by omega, by omega, by omega, by omega, by omega, by omega, a3, ?_, hc, h2⟩⟩
      have e : ((n.toNat : Nat) : Int) = n := by omega
      rw [e]; exact a4
    · simp at h
theorem MaxOK.uniq {n s t : Int} {l : List Arc} {F G : List Int} {m k e f : Int} (h1 : MaxOK n l s t F m e) (h2 : MaxOK n l s t G k f) : F = G ∧ m = k ∧ e = f := by
  rcases h1 with ⟨a1, a2, a3, a4⟩ | ⟨a1, a2, a3, a4⟩ <;> rcases h2 with ⟨b1, b2, b3, b4⟩ | ⟨b1, b2, b3, b4⟩
  · exact ⟨by rw [a3, b3], by rw [a4, b4], by rw [a2, b2]⟩
  · exact absurd b1 a1
  · exact absurd a1 b1
  · obtain ⟨n', s', t', g⟩ := maxErr_good a1
    obtain ⟨rfl, rfl, rfl⟩ := And.intro g.en (And.intro g.es g.et)
    simp only [Int.toNat_natCast] at a3 b3
    have e := a3.uniq g.ok b3
    subst e
    exact ⟨rfl, by rw [a4, b4], by rw [a2, b2]⟩
theorem sideOf_congr {B C : List Bool} {n : Nat} (h : ∀ v, v < n → bget B v = bget C v) : sideOf B n = sideOf C n := by
  unfold sideOf
  congr 1
  apply List.filter_congr
  intro v hv
  exact h v (by simpa using hv)
theorem reach_uniq {n s : Nat} {E : Lk → Prop} {p q : Nat → Bool} (h1 : IsReach n E s p) (h2 : IsReach n E s q) : ∀ v, v < n → p v = q v := fun v hv => by
  have a := h1 v hv
  have b := h2 v hv
  cases e1 : p v <;> cases e2 : q v <;> simp_all
theorem CutOK.uniq {n s t : Int} {l : List Arc} {F G : List Int} {m k e f : Int} (h1 : CutOK n l s t F m e) (h2 : CutOK n l s t G k f) : F = G ∧ m = k ∧ e = f := by
  rcases h1 with ⟨a1, a2, a3, a4⟩ | ⟨a1, a2, F1, B1, r1, i1, d1, c1⟩ <;> rcases h2 with ⟨b1, b2, b3, b4⟩ | ⟨b1, b2, F2, B2, r2, i2, d2, c2⟩
  · exact ⟨by rw [a3, b3], by rw [a4, b4], by rw [a2, b2]⟩
  · exact absurd b1 a1
  · exact absurd a1 b1
  · obtain ⟨n', s', t', g⟩ := maxErr_good a1
    obtain ⟨rfl, rfl, rfl⟩ := And.intro g.en (And.intro g.es g.et)
    simp only [Int.toNat_natCast] at *
    have e := r1.uniq g.ok r2
    subst e
    have hb := reach_uniq i1 i2
    exact ⟨by rw [d1, d2]; exact sideOf_congr hb, by rw [c1, c2]; exact capOf_congr hb l g.ok, by rw [a2, b2]⟩
end Go.Flow
namespace Go.Flow
end Go.Flow
/- Max and Cut of the program. -/
namespace Go.Proofs.YtknfhiolenobaaaGreat
open Go.Eng Go.Flow
set_option maxRecDepth 100000
set_option maxHeartbeats 4000000

theorem flowMax_spec (ρ : PH) (v : Value) (n s t : Int) (l : List Arc) (hv : ArcsAt ρ v l) (hl : l.length ≤ 1000000) :
  Makes Tryz.prog (fv 14) [int n, v, int s, int t] [ρ] (fun r σ => ∃ fs F m e, r = .tuple #[fs, int m, int e] ∧ IntsAt σ fs F ∧ MaxOK n l s t F m e) := by
 have hnil : IntsAt emp (.slice none 0 0) [] := ⟨rfl, .inl ⟨rfl, none, 0, rfl⟩⟩
 refine spec_in (cap := []) Tryz.func14 rfl rfl Tryz.ntmps14 rfl envZ (fun N β => ?_)
 refine AC ?_
 refine AA ?_
 refine AD ?_
 refine AD ?_
 refine AD ?_
 refine AF ?_
 refine AC ?_
 refine AC ?_
 refine AA ?_
 refine AB ?_
 refine AB ?_
 focus ((refine AT (check_spec ρ v n l hv hl) rfl rfl rdZ rfl rfl ?_; rintro _ rfl))
 refine AD ?_
 refine AF ?_
 refine AC ?_
 refine AA ?_
 refine AB ?_
 by_cases hc : chk n l = 0
 rotate_left
 ·refine CC ?_
  refine AF ?_
  refine AO rfl ?_
  refine AC ?_
  refine AA ?_
  refine AB ?_
  refine AD ?_
  refine AD ?_
  refine AD ?_
  refine AF ?_
  refine DG ?_
  exact AJ (res3 rfl rfl rfl rfl) rsubZ selZ ⟨emp, ⟨_, [], 0, _, rfl, hnil, .inl ⟨by unfold maxErr; rw [if_pos hc]; exact hc, by unfold maxErr; rw [if_pos hc], rfl, rfl⟩⟩, rfl⟩
 refine A6 ?_
 refine AF ?_
 refine AN rfl ?_
 refine AL ?_
 refine AC ?_
 refine AC ?_
 refine AA ?_
 refine AB ?_
 refine AB ?_
 refine AB ?_
 focus ((refine AT (ends_spec _ _ _) rfl rfl rdZ rfl rfl ?_; rintro _ rfl))
 refine AD ?_
 refine AF ?_
 refine AC ?_
 refine AA ?_
 refine AB ?_
 have hme : maxErr n l s t = if okEnds n s t = true then 0 else 2 := by unfold maxErr; rw [if_neg (by rw [hc]; simp)]
 cases he : okEnds n s t with
 | false =>
  rw [he] at hme
  simp only [Bool.false_eq_true, if_false] at hme ⊢
  refine CC ?_
  refine AF ?_
  refine AO rfl ?_
  refine AC ?_
  refine AA ?_
  refine AB ?_
  refine AD ?_
  refine AD ?_
  refine AD ?_
  refine AF ?_
  refine DG ?_
  exact AJ (res3 rfl rfl rfl rfl) rsubZ selZ ⟨emp, ⟨_, [], 0, _, rfl, hnil, .inl ⟨by rw [hme]; simp, by rw [hme], rfl, rfl⟩⟩, rfl⟩
 | true =>
  rw [he] at hme
  simp only [if_true] at hme ⊢
  obtain ⟨n', s', t', g⟩ := maxErr_good hme
  obtain ⟨rfl, rfl, rfl⟩ := And.intro g.en (And.intro g.es g.et)
  refine A6 ?_
  refine AF ?_
  refine AN rfl ?_
  refine AL ?_
  refine AC ?_
  refine AA ?_
  refine AB ?_
  refine AB ?_
  refine AB ?_
  refine AB ?_
  refine B5 (maximum_spec ρ v n' l s' t' hv g.n2 g.l2 g.ok g.sn g.tn g.ne) rfl rfl takesZ rdZ rfl rfl ?_
  rintro _ _ ⟨_, _, F, rfl, bf, gb, b1, b2, γ, rfl, rfl, _, hR, rfl⟩
  have hF := (hR.flw g.ok g.sn g.ne (flw_zeros g.ok)).1
  have hIn : IntsAt (sng bf (.cells (ints F) 3 (0, 0))) (.slice (some ⟨bf, 0, none⟩) l.length l.length) F := by rw [hF.len]; exact intsAt_sng
  simp only [List.cons_append, List.nil_append]
  refine AB ?_
  refine AP ?_
  refine AP ?_
  refine AD ?_
  refine AD ?_
  refine AF ?_
  refine AC ?_
  refine AA ?_
  refine AB ?_
  refine AB ?_
  refine AB ?_
  refine AB ?_
  refine AT (value_spec ρ _ v _ s' l F hv hIn g.l2 hF.len.symm (inCap_small l F hF.len hF.cap g.ok)) rfl rfl rdZ rfl rfl ?_
  rintro _ rfl
  refine AD ?_
  refine AD ?_
  refine AD ?_
  refine AF ?_
  exact AJ (res3 rfl rfl rfl rfl) rsubZ selZ ⟨_, ⟨_, F, _, _, rfl, hIn, .inr ⟨hme, rfl, hR, rfl⟩⟩, rfl⟩

end Go.Proofs.YtknfhiolenobaaaGreat
/- Maximum flows of time-expanded networks: least cuts, and less of what is there. No program in sight. No conditions. -/
namespace Go.Step
open Go.Flow (Flw fval okArc okArc_iff okEnds_iff capOf MaxOK maxErr RunR run_cut exists_reach)
section
variable {qs : List Int} {cs : List Ct} {bs : List Bk} {hs : List Hd} {d : Dm}
def MaxN (qs : List Int) (cs : List Ct) (bs : List Bk) (hs : List Hd) (d : Dm) (F : List Int) (m e : Int) : Prop := MaxOK (vsN qs d) (arcsG qs cs bs hs d) (vtx d d.s d.r) (vtx d d.d d.e) F m e
theorem max_err (h : VOk qs cs bs hs d) : maxErr (vsN qs d) (arcsG qs cs bs hs d) (vtx d d.s d.r) (vtx d d.d d.e) = 0 := by
  unfold maxErr
  rw [h.chk, h.ends]
  rfl
theorem max_cut (h : VOk qs cs bs hs d) {F : List Int} {m e : Int} (hm : MaxN qs cs bs hs d F m e) : e = 0 ∧ ∃ N S T : Nat, vsN qs d = N ∧ vtx d d.s d.r = S ∧ vtx d d.d d.e = T ∧ Flw N (arcsG qs cs bs hs d) S T F ∧ m = fval S (arcsG qs cs bs hs d) F ∧
    ∃ P : Int → Int → Bool, P d.s d.r = true ∧ P d.d d.e = false ∧ m = capB qs cs bs hs d P := by
  have hends := okEnds_iff.1 h.ends
  obtain ⟨N, hN⟩ : ∃ N : Nat, vsN qs d = N := ⟨(vsN qs d).toNat, by omega⟩
  obtain ⟨S, hS⟩ : ∃ N : Nat, vtx d d.s d.r = N := ⟨(vtx d d.s d.r).toNat, by omega⟩
  obtain ⟨T, hT⟩ : ∃ N : Nat, vtx d d.d d.e = N := ⟨(vtx d d.d d.e).toNat, by omega⟩
  have hok := h.ok
  unfold MaxN at hm
  have he := max_err h
  rw [hN] at hok
  rw [hN, hS, hT] at hm hends he
  rcases hm with ⟨a1, _⟩ | ⟨_, a2, a3, a4⟩
  · exact absurd he a1
  simp only [Int.toNat_natCast] at a3
  obtain ⟨B, hB⟩ := exists_reach N (Go.Flow.rE (arcsG qs cs bs hs d) F) S
  obtain ⟨f1, f2, f3, f4⟩ := run_cut hok (by omega) (by omega) (by omega) a3 hB
  refine ⟨a2, N, S, T, hN, hS, hT, f1, a4, fun n t => B (vtx d n t).toNat, by show B (vtx d d.s d.r).toNat = true; rw [hS]; exact f2, by show B (vtx d d.d d.e).toNat = false; rw [hT]; exact f3, ?_⟩
  rw [a4, f4, capB_eq h]
theorem flow_le_cap (h : VOk qs cs bs hs d) {fl : List Int} {N S T : Nat} (hN : vsN qs d = N) (hS : vtx d d.s d.r = S) (hT : vtx d d.d d.e = T) (hf : Flw N (arcsG qs cs bs hs d) S T fl) {P : Int → Int → Bool} (h1 : P d.s d.r = true) (h2 : P d.d d.e = false) : fval S (arcsG qs cs bs hs d) fl ≤ capB qs cs bs hs d P := by
  have hdm := h.dm
  unfold okDm at hdm
  have hok := h.ok
  have hends := okEnds_iff.1 h.ends
  rw [hN] at hok
  have b1 : bq d P S = true := by
    have := bq_vtx (d := d) (P := P) (n := d.s) (t := d.r) hdm.1.1 (by omega) (by omega)
    rw [hS, Int.toNat_natCast] at this
    rw [this]; exact h1
  have b2 : bq d P T = false := by
    have := bq_vtx (d := d) (P := P) (n := d.d) (t := d.e) hdm.2.1.1 (by omega) (by omega)
    rw [hT, Int.toNat_natCast] at this
    rw [this]; exact h2
  have := hf.le_cap hok (by omega) b1 b2
  rw [capB_eq h] at this
  rwa [capB_congr h (C := P) (fun n t g0 g1 g2 g3 => bq_vtx g0 g2 g3)] at this
theorem sumT_le {f g : Int → Int} {a : Int} {m : Nat} (h : ∀ k : Nat, k < m → f (a + k) ≤ g (a + k)) : sumT f a m ≤ sumT g a m := by
  have := sumT_le4 (f := f) (g := fun _ => 0) (p := g) (q := fun _ => 0) (a := a) (m := m) (fun k hk => by have := h k hk; omega)
  omega
theorem lsum_le {α : Type} {f g : α → Int} {l : List α} (h : ∀ x ∈ l, f x ≤ g x) : lsum f l ≤ lsum g l := by
  induction l with
  | nil => exact Int.le_refl _
  | cons x l ih => have := h x (by simp); have := ih (fun y hy => h y (by simp [hy])); simp only [lsum]; omega
theorem conB_nonneg (h : VOk qs cs bs hs d) (P : Int → Int → Bool) {i : Nat} (hi : i < cs.length) (t : Int) : 0 ≤ conB cs bs d P i t ∧ conB cs bs d P i t ≤ 1000 := by
  unfold conB
  rw [Int.toNat_natCast, List.getElem?_eq_getElem hi]
  have := (h.ct _ (List.getElem_mem hi)).2.2.2.1
  dsimp only
  split <;> omega
end
end Go.Step
/- The chapter's example: its network, its maximum flows, their shipments, a cut. No program in sight. No conditions. -/
namespace Go.Step
open Go.Flow (Flw fval okArc capOf MaxOK inCap)
abbrev eK : Int := 1099511627776
def eA : List EA := [⟨⟨0, 1, eK⟩, -1, 0⟩, ⟨⟨1, 2, eK⟩, -1, 1⟩, ⟨⟨2, 3, eK⟩, -1, 2⟩, ⟨⟨3, 4, eK⟩, -1, 3⟩, ⟨⟨4, 5, eK⟩, -1, 4⟩, ⟨⟨5, 6, eK⟩, -1, 5⟩,
  ⟨⟨7, 8, 1⟩, -1, 0⟩, ⟨⟨8, 9, 1⟩, -1, 1⟩, ⟨⟨9, 10, 1⟩, -1, 2⟩, ⟨⟨10, 11, 1⟩, -1, 3⟩, ⟨⟨11, 12, 1⟩, -1, 4⟩, ⟨⟨12, 13, 1⟩, -1, 5⟩,
  ⟨⟨14, 15, eK⟩, -1, 0⟩, ⟨⟨15, 16, eK⟩, -1, 1⟩, ⟨⟨16, 17, eK⟩, -1, 2⟩, ⟨⟨17, 18, eK⟩, -1, 3⟩, ⟨⟨18, 19, eK⟩, -1, 4⟩, ⟨⟨19, 20, eK⟩, -1, 5⟩,
  ⟨⟨0, 9, 3⟩, 0, 0⟩, ⟨⟨1, 10, 3⟩, 0, 1⟩, ⟨⟨10, 19, 3⟩, 1, 3⟩, ⟨⟨11, 20, 3⟩, 1, 4⟩]
end Go.Step
/- The example is awake. -/
namespace Go.Proofs.YtknfhiolenobaaaGreat
open Go.Eng Go.Step
set_option maxRecDepth 100000
set_option maxHeartbeats 4000000

end Go.Proofs.YtknfhiolenobaaaGreat
/- Joins and meets of cuts. -/
namespace Go.Proofs.YtknfhiolenobaaaGreat
open Go.Eng Go.Step
set_option maxRecDepth 100000
set_option maxHeartbeats 4000000

end Go.Proofs.YtknfhiolenobaaaGreat
/- Sets of the document: one more span, union. -/
namespace Go.Proofs.YtknfhiolenobaaaGreat
open Go.Eng Go.Step
set_option maxRecDepth 100000
set_option maxHeartbeats 4000000

end Go.Proofs.YtknfhiolenobaaaGreat
/- Sets of the document: intersection, equality. -/
namespace Go.Proofs.YtknfhiolenobaaaGreat
open Go.Eng Go.Step
set_option maxRecDepth 100000
set_option maxHeartbeats 4000000

end Go.Proofs.YtknfhiolenobaaaGreat
/- Joins and meets of the document. -/
namespace Go.Proofs.YtknfhiolenobaaaGreat
open Go.Eng Go.Step
set_option maxRecDepth 100000
set_option maxHeartbeats 4000000

end Go.Proofs.YtknfhiolenobaaaGreat
/- The arcs of the network, as the document lists them. No program in sight. No conditions. -/
namespace Go.Step
section
variable {qs : List Int} {cs : List Ct} {bs : List Bk} {hs : List Hd} {d : Dm}
end
end Go.Step
/- The document's arcs. -/
namespace Go.Proofs.YtknfhiolenobaaaGreat
open Go.Eng Go.Step
set_option maxRecDepth 100000
set_option maxHeartbeats 4000000

end Go.Proofs.YtknfhiolenobaaaGreat
/- The document's network, its vertices and shipments. -/
namespace Go.Proofs.YtknfhiolenobaaaGreat
open Go.Eng Go.Step
set_option maxRecDepth 100000
set_option maxHeartbeats 4000000

theorem RdN.pre {ρ : PH} {b o : Nat} {xs ys : List Value} (h : RdN ρ b o (xs ++ ys)) : RdP ρ b o xs := ⟨fun j v hv => h j v (by
 have hl := (List.getElem?_eq_some_iff.1 hv).1
 rw [List.getElem?_append_left hl]
 exact hv)⟩
end Go.Proofs.YtknfhiolenobaaaGreat
/- Distances found level by level, over all links again and again; the first link that leads nearer; what is reached by n rounds. No program in sight. No conditions. -/
namespace Go.Flow
structure LInv (n t : Nat) (E : Lk → Prop) (D : List Int) (d : Nat) (pre : List Lk) : Prop where
  len : D.length = n
  low : ∀ v, v < n → -1 ≤ D.getD v 0
  hi : ∀ v, v < n → D.getD v 0 ≤ (d : Int) + 1
  at0 : D.getD t 0 = 0
  zero : ∀ v, v < n → D.getD v 0 = 0 → v = t
  step : ∀ v, v < n → 0 < D.getD v 0 → ∃ x, E x ∧ x.f = v ∧ D.getD x.t 0 = D.getD v 0 - 1
  old : ∀ x, E x → 0 ≤ D.getD x.t 0 → D.getD x.t 0 < (d : Int) → 0 ≤ D.getD x.f 0 ∧ D.getD x.f 0 ≤ D.getD x.t 0 + 1
  pre0 : ∀ x ∈ pre, E x → D.getD x.t 0 = (d : Int) → 0 ≤ D.getD x.f 0
section
variable {n t : Nat} {E : Lk → Prop} {D : List Int} {d : Nat}
theorem LInv.start (ht : t < n) : LInv n t E ((List.replicate n (-1)).set t 0) 0 [] ∧ ∀ v, v < n → ((List.replicate n (-1 : Int)).set t 0).getD v 0 ≤ ((0 : Nat) : Int) := by
  have hg : ∀ v, v < n → ((List.replicate n (-1 : Int)).set t 0).getD v 0 = if t = v then 0 else -1 := fun v hv => by
    rw [getD_set (by simpa using ht)]
    split
    · rfl
    · exact getD_rep hv _
  have hlt : ∀ v, v < n → ((List.replicate n (-1 : Int)).set t 0).getD v 0 ≤ 0 := fun v hv => by rw [hg v hv]; split <;> omega
  refine ⟨⟨by simp, fun v hv => by rw [hg v hv]; split <;> omega, fun v hv => by have := hlt v hv; omega, by rw [hg t ht]; simp, fun v hv h => ?_, fun v hv h => by have := hlt v hv; omega, fun x _ h1 h2 => by omega, by simp⟩, hlt⟩
  rw [hg v hv] at h
  split at h
  · rename_i e; exact e.symm
  · omega
theorem LInv.skip {pre : List Lk} {x : Lk} (h : LInv n t E D d pre) (hx : E x → D.getD x.t 0 = (d : Int) → 0 ≤ D.getD x.f 0) : LInv n t E D d (pre ++ [x]) :=
  ⟨h.len, h.low, h.hi, h.at0, h.zero, h.step, h.old, fun y hy => by
    rcases List.mem_append.1 hy with hy | hy
    · exact h.pre0 y hy
    · rw [List.mem_singleton.1 hy]; exact hx⟩
theorem LInv.next {ls : List Lk} {pre : List Lk} (hsub : ∀ x, E x → x ∈ ls) (hE : ∀ x, E x → x.f < n ∧ x.t < n) (hp : ∀ x ∈ ls, x ∈ pre) (h : LInv n t E D d pre) : LInv n t E D (d + 1) [] :=
  ⟨h.len, h.low, fun v hv => by have := h.hi v hv; omega, h.at0, h.zero, h.step, fun x hx h1 h2 => by
    by_cases e : D.getD x.t 0 = (d : Int)
    · have := h.pre0 x (hp x (hsub x hx)) hx e
      have := h.hi x.f (hE x hx).1
      omega
    · exact h.old x hx h1 (by omega), by simp⟩
theorem LInv.dist (hE : ∀ x, E x → x.f < n ∧ x.t < n) (h : LInv n t E D (d + 1) []) (hno : ∀ v, v < n → D.getD v 0 ≤ (d : Int)) : IsDist n t E D :=
  ⟨h.len, h.low, h.at0, h.zero, fun x hx h1 => h.old x hx h1 (by have := hno x.t (hE x hx).2; omega), h.step⟩
end
inductive RchN (E : Lk → Prop) (s : Nat) : Nat → Nat → Prop
  | refl {k : Nat} : RchN E s k s
  | step {k : Nat} {x : Lk} : RchN E s k x.f → E x → RchN E s (k + 1) x.t
theorem RchN.mono {E : Lk → Prop} {s k m v : Nat} (h : RchN E s k v) (hk : k ≤ m) : RchN E s m v := by
  induction h generalizing m with
  | refl => exact .refl
  | step _ hx ih =>
    obtain ⟨m', rfl⟩ : ∃ m', m = m' + 1 := ⟨m - 1, by omega⟩
    exact .step (ih (by omega)) hx
structure KInv (n s : Nat) (E : Lk → Prop) (B : List Bool) (r : Nat) (pre : List Lk) : Prop where
  len : B.length = n
  snd : ∀ v, v < n → bget B v = true → Rch E s v
  cmp : ∀ v, v < n → RchN E s r v → bget B v = true
  pre0 : ∀ x ∈ pre, E x → RchN E s r x.f → bget B x.t = true
section
variable {n s : Nat} {E : Lk → Prop} {B : List Bool} {r : Nat}
theorem KInv.start (hs : s < n) : KInv n s E ((List.replicate n false).set s true) 0 [] := by
  have hl : s < (List.replicate n false).length := by simpa using hs
  refine ⟨by simp, fun v _ h => ?_, fun v hv h => ?_, by simp⟩
  · rw [bget_set hl, bget_rep] at h
    split at h
    · rename_i e; rw [← e]; exact .refl
    · simp at h
  · cases h with
    | refl => rw [bget_set hl]; simp
theorem KInv.skip {pre : List Lk} {x : Lk} (h : KInv n s E B r pre) (hx : E x → bget B x.f = false) (hE : ∀ x, E x → x.f < n ∧ x.t < n) : KInv n s E B r (pre ++ [x]) :=
  ⟨h.len, h.snd, h.cmp, fun y hy hyE hr => by
    rcases List.mem_append.1 hy with hy | hy
    · exact h.pre0 y hy hyE hr
    · rw [List.mem_singleton.1 hy] at hyE hr ⊢
      have := h.cmp x.f (hE x hyE).1 hr
      rw [hx hyE] at this; simp at this⟩
theorem KInv.next {ls pre : List Lk} (hsub : ∀ x, E x → x ∈ ls) (hp : ∀ x ∈ ls, x ∈ pre) (hs : s < n) (h : KInv n s E B r pre) : KInv n s E B (r + 1) [] :=
  ⟨h.len, h.snd, fun v hv hr => by
    cases hr with
    | refl => exact h.cmp s hs .refl
    | @step _ x hr hx => exact h.pre0 x (hp x (hsub x hx)) hx hr, by simp⟩
end
end Go.Flow
/- The example of the chapter; the laws on maximum flows, cuts and paths, in plain words. No program in sight. No conditions. -/
namespace Go.Flow
def exL : List Arc := [⟨0, 1, 3⟩, ⟨0, 2, 2⟩, ⟨1, 2, 5⟩, ⟨1, 3, 2⟩, ⟨2, 3, 3⟩]
/-! ### the laws -/
section
variable {n s t : Int} {l : List Arc}
theorem value_flw {F : List Int} {v : Int} (h : valueSpec n l F s t = (v, 0)) : ∃ n' s' t' : Nat, Good n l s t n' s' t' ∧ Flw n' l s' t' F ∧ v = fval s l F := by
  unfold valueSpec at h
  split at h
  · rename_i h1; simp only [Prod.mk.injEq] at h; exact absurd h.2 h1
  · rename_i h1
    split at h
    · simp at h
    · rename_i h2
      split at h
      · simp at h
      · rename_i h3
        split at h
        · simp at h
        · rename_i h4
          split at h
          · simp at h
          · rename_i h5
            simp only [Prod.mk.injEq, and_true] at h
            have hm : maxErr n l s t = 0 := by
              unfold maxErr
              rw [if_neg h1, if_pos (by simpa using h2)]
            obtain ⟨n', s', t', g⟩ := maxErr_good hm
            obtain ⟨rfl, rfl, rfl⟩ := And.intro g.en (And.intro g.es g.et)
            refine ⟨n', s', t', g, ⟨by omega, by simpa using h4, fun v hv g1 g2 => ?_⟩, h.symm⟩
            simp only [Bool.not_eq_false] at h5
            unfold balanced at h5
            rw [List.all_eq_true] at h5
            have := h5 v (by simpa using hv)
            rw [decide_eq_true_eq] at this
            rcases this with h | h | h
            · exact absurd (by omega) g1
            · exact absurd (by omega) g2
            · exact h
theorem side_chk (B : List Bool) (n : Nat) : ∀ (k : Nat), k ≤ n → ∀ (r : List Int) (p : Option Int), (∀ q, p = some q → ∃ m : Nat, q = m ∧ m < k) → sideChk n p (((List.range' k (n - k)).filter (fun v => bget B v)).map (fun (v : Nat) => (v : Int))) = 0 := by
  intro k hk r p hp
  generalize hd : n - k = d
  induction d generalizing k p with
  | zero => simp [sideChk]
  | succ d ih =>
    rw [List.range'_succ, List.filter_cons]
    split
    · simp only [List.map_cons, sideChk]
      rw [if_neg (by omega), if_neg]
      · exact ih (k + 1) (by omega) _ (fun q hq => ⟨k, by simpa using hq.symm, by omega⟩) (by omega)
      · cases p with
        | none => simp
        | some q =>
          obtain ⟨m, rfl, hm⟩ := hp q rfl
          simp; omega
    · exact ih (k + 1) (by omega) _ (fun q hq => by obtain ⟨m, h1, h2⟩ := hp q hq; exact ⟨m, h1, by omega⟩) (by omega)
theorem sideOf_chk (B : List Bool) (n : Nat) : sideChk n none (sideOf B n) = 0 := by
  have := side_chk B n 0 (by omega) [] none (by simp)
  rw [Nat.sub_zero, ← List.range_eq_range'] at this
  exact this
end
end Go.Flow
/- Searches in slices of numbers; the example of the chapter. -/
namespace Go.Proofs.YtknfhiolenobaaaGreat
open Go.Eng Go.Flow
set_option maxRecDepth 100000
set_option maxHeartbeats 4000000

end Go.Proofs.YtknfhiolenobaaaGreat
/- The document's cuts. -/
namespace Go.Proofs.YtknfhiolenobaaaGreat
open Go.Eng Go.Step
set_option maxRecDepth 100000
set_option maxHeartbeats 4000000

end Go.Proofs.YtknfhiolenobaaaGreat
/- The reference: residual arcs, distances level by level, the first shortest path. -/
namespace Go.Proofs.YtknfhiolenobaaaGreat
open Go.Eng Go.Flow
set_option maxRecDepth 100000
set_option maxHeartbeats 4000000

end Go.Proofs.YtknfhiolenobaaaGreat
/- Bounds on what Max hands back; a capacity raised. No program in sight. No conditions. -/
namespace Go.Flow
end Go.Flow
/- The reference's list of residual arcs, as it is filled; rooms are bounded. No program in sight. No conditions. -/
namespace Go.Flow
end Go.Flow
/- The reference: the list of residual arcs, the first shortest path. -/
namespace Go.Proofs.YtknfhiolenobaaaGreat
open Go.Eng Go.Flow
set_option maxRecDepth 100000
set_option maxHeartbeats 4000000

end Go.Proofs.YtknfhiolenobaaaGreat
/- The reference: the first shortest path. -/
namespace Go.Proofs.YtknfhiolenobaaaGreat
open Go.Eng Go.Flow
set_option maxRecDepth 100000
set_option maxHeartbeats 4000000

end Go.Proofs.YtknfhiolenobaaaGreat
/- The reference: Max, Cut. -/
namespace Go.Proofs.YtknfhiolenobaaaGreat
open Go.Eng Go.Flow
set_option maxRecDepth 100000
set_option maxHeartbeats 4000000

end Go.Proofs.YtknfhiolenobaaaGreat
/- Results that lie in memory: a struct and two or three numbers. -/
namespace Go.Eng
variable {L : Env} {R H : List PH}
theorem resSEEE {fn : Func} {N : Bs} {M : Nat} {P : Program} {t u u' u'' b1 : Nat} {T : TypeId} {v1 : List Value} {v2 v3 v4 : Value} (hr : fn.results = #[.cell t T, .tmp u, .tmp u', .tmp u'']) (ht : look L t = some (.pointer (some ⟨b1, 0, none⟩))) (hu : look L u = some v2) (hu' : look L u' = some v3) (hu'' : look L u'' = some v4) (a1 : aggP P T = some true)
    (n1 : szP P T = some v1.length) (c1 : Cells N R H b1 0 v1) : ∀ a w, Frm M L a → Sat N R H w → (results fn a.tmps).run P w = .ok (.tuple #[.agg v1.toArray, v2, v3, v4]) w := by
  intro a w hf hs
  have e1 : a.tmps[t]?.getD undef = .pointer (some ⟨b1, 0, none⟩) := by simpa using hf.get t _ ht
  have e2 : a.tmps[u]?.getD undef = v2 := by simpa using hf.get u _ hu
  have e3 : a.tmps[u']?.getD undef = v3 := by simpa using hf.get u' _ hu'
  have e4 : a.tmps[u'']?.getD undef = v4 := by simpa using hf.get u'' _ hu''
  have l1 := run_loadCells_list (P := P) (w := w) ⟨b1, 0, none⟩ v1 (fun j v hv => by rw [Addr.add_lit]; exact c1 w hs j v hv)
  simp [results, hr, e1, e2, e3, e4, loadVar, run_isAgg a1, run_sizeOf n1, l1, asAddr]
end Go.Eng
/- How much can be brought. -/
namespace Go.Proofs.YtknfhiolenobaaaGreat
open Go.Eng Go.Step
set_option maxRecDepth 100000
set_option maxHeartbeats 4000000

set_option maxHeartbeats 32000000 in
theorem plMax_spec {ρ τ σ υ : PH} {pq pc pb ph : Option Addr} {kq kc kb kh : Nat} {qs : List Int} {cs : List Ct} {bs : List Bk} {hs : List Hd} (hT : TbAt ρ τ σ υ pq pc pb ph kq kc kb kh qs cs bs hs) (d : Dm) :
  Eng.Spec Tryz.prog (fv 32) [.agg #[.slice pq qs.length kq, .slice pc cs.length kc, .slice pb bs.length kb, .slice ph hs.length kh], .agg #[int d.s, int d.d, int d.v, int d.r, int d.e]] [ρ, τ, σ, υ] [] (fun r H' => (validT qs cs bs hs d = true ∧ ∃ (pg : Option Addr) (kg : Nat) (pf : Option Addr) (kf : Nat) (F : List Int) (m : Int) (σg σf : PH), ArcsAt σg (.slice pg (arcsG qs cs bs hs d).length kg) (arcsG qs cs bs hs d) ∧ IntsAt σf (.slice pf F.length kf) F ∧ MaxN qs cs bs hs d F m 0 ∧ H' = [σg, σf] ∧ r = .tuple #[.agg #[int (vsN qs d), .slice pg (arcsG qs cs bs hs d).length kg, int (vtx d d.s d.r), int (vtx d d.d d.e)], .slice pf F.length kf, int m, int 0]) ∨ (validT qs cs bs hs d = false ∧ H' = [] ∧ r = .tuple #[.agg #[int 0, .slice none 0 0, int 0, int 0], .slice none 0 0, int 0, int 1])) := by
 refine spec_in (cap := []) Tryz.func32 rfl rfl Tryz.ntmps32 rfl envZ (fun N β => ?_)
 refine AC ?_
 refine AA ?_
 refine BT (BV rfl) rfl rfl rfl ?_
 rintro _ _ ⟨b1, rfl, rfl⟩
 refine AV (ρ := sng b1 _) takeZ ?_
 have ct : RdN (sng b1 (.cells #[.slice pq qs.length kq, .slice pc cs.length kc, .slice pb bs.length kb, .slice ph hs.length kh] 29 (0, 0))) b1 0 [.slice pq qs.length kq, .slice pc cs.length kc, .slice pb bs.length kb, .slice ph hs.length kh] := rdN_sng (vs := [.slice pq qs.length kq, .slice pc cs.length kc, .slice pb bs.length kb, .slice ph hs.length kh])
 have ct0 : rdc (sng b1 (.cells #[.slice pq qs.length kq, .slice pc cs.length kc, .slice pb bs.length kb, .slice ph hs.length kh] 29 (0, 0))) b1 0 = some (.slice pq qs.length kq) := by rw [rdc_sng]; rfl
 have ct1 : rdc (sng b1 (.cells #[.slice pq qs.length kq, .slice pc cs.length kc, .slice pb bs.length kb, .slice ph hs.length kh] 29 (0, 0))) b1 1 = some (.slice pc cs.length kc) := by rw [rdc_sng]; rfl
 have ct2 : rdc (sng b1 (.cells #[.slice pq qs.length kq, .slice pc cs.length kc, .slice pb bs.length kb, .slice ph hs.length kh] 29 (0, 0))) b1 2 = some (.slice pb bs.length kb) := by rw [rdc_sng]; rfl
 have ct3 : rdc (sng b1 (.cells #[.slice pq qs.length kq, .slice pc cs.length kc, .slice pb bs.length kb, .slice ph hs.length kh] 29 (0, 0))) b1 3 = some (.slice ph hs.length kh) := by rw [rdc_sng]; rfl
 have ctp : RdP (sng b1 (.cells #[.slice pq qs.length kq, .slice pc cs.length kc, .slice pb bs.length kb, .slice ph hs.length kh] 29 (0, 0))) b1 0 [.slice pq qs.length kq, .slice pc cs.length kc] := rdP_sng (xs := [.slice pq qs.length kq, .slice pc cs.length kc, .slice pb bs.length kb, .slice ph hs.length kh]) rfl
 refine BT (BV rfl) rfl rfl rfl ?_
 rintro _ _ ⟨b2, rfl, rfl⟩
 refine AV (ρ := sng b2 _) takeZ ?_
 have cd : RdN (sng b2 (.cells #[int d.s, int d.d, int d.v, int d.r, int d.e] 31 (0, 0))) b2 0 [int d.s, int d.d, int d.v, int d.r, int d.e] := rdN_sng (vs := [int d.s, int d.d, int d.v, int d.r, int d.e])
 have cd0 : rdc (sng b2 (.cells #[int d.s, int d.d, int d.v, int d.r, int d.e] 31 (0, 0))) b2 0 = some (int d.s) := by rw [rdc_sng]; rfl
 have cd1 : rdc (sng b2 (.cells #[int d.s, int d.d, int d.v, int d.r, int d.e] 31 (0, 0))) b2 1 = some (int d.d) := by rw [rdc_sng]; rfl
 have cd2 : rdc (sng b2 (.cells #[int d.s, int d.d, int d.v, int d.r, int d.e] 31 (0, 0))) b2 2 = some (int d.v) := by rw [rdc_sng]; rfl
 have cd3 : rdc (sng b2 (.cells #[int d.s, int d.d, int d.v, int d.r, int d.e] 31 (0, 0))) b2 3 = some (int d.r) := by rw [rdc_sng]; rfl
 have cd4 : rdc (sng b2 (.cells #[int d.s, int d.d, int d.v, int d.r, int d.e] 31 (0, 0))) b2 4 = some (int d.e) := by rw [rdc_sng]; rfl
 refine AW ?_; rintro _ _ ⟨b, rfl, rfl⟩
 refine AD ?_
 refine AD ?_
 refine AD ?_
 refine AF ?_
 refine AC ?_
 refine AA ?_
 refine AM ?_
 refine AM ?_
 revert b; intro b4
 refine DP (Graph_spec hT d) rfl rfl rdZ rfl rfl ?_
 rintro _ σg hg
 cases hv : validT qs cs bs hs d with
 | false =>
  rw [hv, if_neg (by simp)] at hg
  obtain ⟨rfl, rfl⟩ := hg
  refine AB ?_
  refine AP ?_
  refine AP ?_
  refine AW ?_; rintro _ _ ⟨b, rfl, rfl⟩
  refine AU ?_; rintro _ _ ⟨rfl, rfl⟩
  refine AD ?_
  refine AF ?_
  refine AC ?_
  refine AC ?_
  refine AA ?_
  refine AB ?_
  refine CC ?_
  refine AF ?_
  refine AO rfl ?_
  refine AC ?_
  refine AA ?_
  refine BO ?_
  refine AU ?_; rintro _ _ ⟨rfl, rfl⟩
  refine AD ?_
  refine AD ?_
  refine AD ?_
  refine AF ?_
  exact AJ (resSEEE (b1 := b4) (T := 49) (v1 := [int 0, .slice none 0 0, int 0, int 0]) rfl rfl rfl rfl rfl rfl rfl (cells_own memZ)) rsubZ selZ (.inr ⟨rfl, rfl, rfl⟩)
 | true =>
 rw [hv, if_pos rfl] at hg
 obtain ⟨ug, rfl, hOg⟩ := hg
 have hAt : ArcsAt σg ug (arcsG qs cs bs hs d) := hOg.at
 obtain ⟨pg, kg, rfl⟩ := hOg.form
 have h := vok hv
 have hEl := ea_len qs cs bs hs d h
 have hAl : (arcsG qs cs bs hs d).length = (arcsE qs cs bs hs d).length := by unfold arcsG; rw [List.length_map]
 have hM := flowMax_spec σg (.slice pg (arcsG qs cs bs hs d).length kg) (vsN qs d) (vtx d d.s d.r) (vtx d d.d d.e) (arcsG qs cs bs hs d) hAt (by omega)
 refine AB ?_
 refine AP ?_
 refine AP ?_
 refine AW ?_; rintro _ _ ⟨b, rfl, rfl⟩
 refine AU ?_; rintro _ _ ⟨rfl, rfl⟩
 refine AD ?_
 refine AF ?_
 refine AC ?_
 refine AC ?_
 refine AA ?_
 refine AB ?_
 refine A6 ?_
 refine AF ?_
 refine AN rfl ?_
 refine AL ?_
 refine AC ?_
 refine AA ?_
 refine AH ?_
 refine AG ?_
 refine AH ?_
 refine AG ?_
 refine AH ?_
 refine AG ?_
 refine AH ?_
 refine AG ?_
 refine DP hM rfl rfl rdZ rfl rfl ?_
 rintro _ σf ⟨fs, F, m, e, rfl, hF, hm⟩
 obtain ⟨he, _⟩ := max_cut h (show MaxN qs cs bs hs d F m e from hm)
 subst he
 obtain ⟨pf, kf, rfl, _⟩ := hF.val Eng.encI_len
 refine AB ?_
 refine AP ?_
 refine AP ?_
 refine AP ?_
 refine AD ?_
 refine AD ?_
 refine AD ?_
 refine AF ?_
 refine AC ?_
 refine AC ?_
 refine AA ?_
 refine AB ?_
 refine A6 ?_
 refine AF ?_
 refine AN rfl ?_
 refine AL ?_
 refine AC ?_
 refine AA ?_
 refine AM ?_
 refine AB ?_
 refine AB ?_
 refine AU ?_; rintro _ _ ⟨rfl, rfl⟩
 refine AD ?_
 refine AD ?_
 refine AD ?_
 refine AF ?_
 exact AJ (resSEEE (b1 := b4) (T := 49) (v1 := [int (vsN qs d), .slice pg (arcsG qs cs bs hs d).length kg, int (vtx d d.s d.r), int (vtx d d.d d.e)]) rfl rfl rfl rfl rfl rfl rfl (cells_own memZ)) rsubZ selZ (.inl ⟨rfl, pg, kg, pf, kf, F, m, σg, σf, hAt, hF, hm, rfl, rfl⟩)
set_option maxHeartbeats 16000000 in
theorem Most_spec {ρ τ σ υ : PH} {pq pc pb ph : Option Addr} {kq kc kb kh : Nat} {qs : List Int} {cs : List Ct} {bs : List Bk} {hs : List Hd} (hT : TbAt ρ τ σ υ pq pc pb ph kq kc kb kh qs cs bs hs) (d : Dm) :
  Ans Tryz.prog (fv 11) [.agg #[.slice pq qs.length kq, .slice pc cs.length kc, .slice pb bs.length kb, .slice ph hs.length kh], .agg #[int d.s, int d.d, int d.v, int d.r, int d.e]] [ρ, τ, σ, υ] (fun r => (validT qs cs bs hs d = true ∧ ∃ (F : List Int) (m : Int), MaxN qs cs bs hs d F m 0 ∧ r = .tuple #[int m, int 0]) ∨ (validT qs cs bs hs d = false ∧ r = .tuple #[int 0, int 1])) := by
 refine spec_in (cap := []) Tryz.func11 rfl rfl Tryz.ntmps11 rfl envZ (fun N β => ?_)
 refine AC ?_
 refine AA ?_
 refine BT (BV rfl) rfl rfl rfl ?_
 rintro _ _ ⟨b1, rfl, rfl⟩
 refine AV (ρ := sng b1 _) takeZ ?_
 have ct : RdN (sng b1 (.cells #[.slice pq qs.length kq, .slice pc cs.length kc, .slice pb bs.length kb, .slice ph hs.length kh] 29 (0, 0))) b1 0 [.slice pq qs.length kq, .slice pc cs.length kc, .slice pb bs.length kb, .slice ph hs.length kh] := rdN_sng (vs := [.slice pq qs.length kq, .slice pc cs.length kc, .slice pb bs.length kb, .slice ph hs.length kh])
 have ct0 : rdc (sng b1 (.cells #[.slice pq qs.length kq, .slice pc cs.length kc, .slice pb bs.length kb, .slice ph hs.length kh] 29 (0, 0))) b1 0 = some (.slice pq qs.length kq) := by rw [rdc_sng]; rfl
 have ct1 : rdc (sng b1 (.cells #[.slice pq qs.length kq, .slice pc cs.length kc, .slice pb bs.length kb, .slice ph hs.length kh] 29 (0, 0))) b1 1 = some (.slice pc cs.length kc) := by rw [rdc_sng]; rfl
 have ct2 : rdc (sng b1 (.cells #[.slice pq qs.length kq, .slice pc cs.length kc, .slice pb bs.length kb, .slice ph hs.length kh] 29 (0, 0))) b1 2 = some (.slice pb bs.length kb) := by rw [rdc_sng]; rfl
 have ct3 : rdc (sng b1 (.cells #[.slice pq qs.length kq, .slice pc cs.length kc, .slice pb bs.length kb, .slice ph hs.length kh] 29 (0, 0))) b1 3 = some (.slice ph hs.length kh) := by rw [rdc_sng]; rfl
 have ctp : RdP (sng b1 (.cells #[.slice pq qs.length kq, .slice pc cs.length kc, .slice pb bs.length kb, .slice ph hs.length kh] 29 (0, 0))) b1 0 [.slice pq qs.length kq, .slice pc cs.length kc] := rdP_sng (xs := [.slice pq qs.length kq, .slice pc cs.length kc, .slice pb bs.length kb, .slice ph hs.length kh]) rfl
 refine BT (BV rfl) rfl rfl rfl ?_
 rintro _ _ ⟨b2, rfl, rfl⟩
 refine AV (ρ := sng b2 _) takeZ ?_
 have cd : RdN (sng b2 (.cells #[int d.s, int d.d, int d.v, int d.r, int d.e] 31 (0, 0))) b2 0 [int d.s, int d.d, int d.v, int d.r, int d.e] := rdN_sng (vs := [int d.s, int d.d, int d.v, int d.r, int d.e])
 have cd0 : rdc (sng b2 (.cells #[int d.s, int d.d, int d.v, int d.r, int d.e] 31 (0, 0))) b2 0 = some (int d.s) := by rw [rdc_sng]; rfl
 have cd1 : rdc (sng b2 (.cells #[int d.s, int d.d, int d.v, int d.r, int d.e] 31 (0, 0))) b2 1 = some (int d.d) := by rw [rdc_sng]; rfl
 have cd2 : rdc (sng b2 (.cells #[int d.s, int d.d, int d.v, int d.r, int d.e] 31 (0, 0))) b2 2 = some (int d.v) := by rw [rdc_sng]; rfl
 have cd3 : rdc (sng b2 (.cells #[int d.s, int d.d, int d.v, int d.r, int d.e] 31 (0, 0))) b2 3 = some (int d.r) := by rw [rdc_sng]; rfl
 have cd4 : rdc (sng b2 (.cells #[int d.s, int d.d, int d.v, int d.r, int d.e] 31 (0, 0))) b2 4 = some (int d.e) := by rw [rdc_sng]; rfl
 refine AD ?_
 refine AD ?_
 refine AF ?_
 refine AC ?_
 refine AA ?_
 refine AM ?_
 refine AM ?_
 refine B5 (plMax_spec hT d) rfl rfl Takes.nil rdZ rfl rfl ?_
 rintro _ H' (⟨hv, pg, kg, pf, kf, F, m, σg, σf, hAt, hF, hm, rfl, rfl⟩ | ⟨hv, rfl, rfl⟩)
 ·refine AB ?_
  refine AP ?_
  refine AP ?_
  refine AP ?_
  refine AP ?_
  refine AW ?_; rintro _ _ ⟨b, rfl, rfl⟩
  refine AU ?_; rintro _ _ ⟨rfl, rfl⟩
  refine AD ?_
  refine AD ?_
  refine AD ?_
  refine AF ?_
  refine AC ?_
  refine AA ?_
  refine AB ?_
  refine AB ?_
  refine AD ?_
  refine AD ?_
  refine AF ?_
  exact AJ (res2 rfl rfl rfl) rsubZ selZ ⟨rfl, .inl ⟨hv, F, m, hm, rfl⟩⟩
 ·refine AB ?_
  refine AP ?_
  refine AP ?_
  refine AP ?_
  refine AP ?_
  refine AW ?_; rintro _ _ ⟨b, rfl, rfl⟩
  refine AU ?_; rintro _ _ ⟨rfl, rfl⟩
  refine AD ?_
  refine AD ?_
  refine AD ?_
  refine AF ?_
  refine AC ?_
  refine AA ?_
  refine AB ?_
  refine AB ?_
  refine AD ?_
  refine AD ?_
  refine AF ?_
  exact AJ (res2 rfl rfl rfl) rsubZ selZ ⟨rfl, .inr ⟨hv, rfl⟩⟩
end Go.Proofs.YtknfhiolenobaaaGreat
/- What Paths hands back. No program in sight. No conditions. -/
namespace Go.Flow
def PathsOK (n : Int) (l : List Arc) (fl : List Int) (s t : Int) (ps : List (List Lk × Int)) (e : Int) : Prop :=
  ((valueSpec n l fl s t).2 ≠ 0 ∧ e = (valueSpec n l fl s t).2 ∧ ps = []) ∨
  ((valueSpec n l fl s t).2 = 0 ∧ e = 0 ∧ ∃ r, RunP n.toNat l s.toNat t.toNat fl ps r)
theorem value_good {n s t : Int} {l : List Arc} {fl : List Int} (h : (valueSpec n l fl s t).2 = 0) : ∃ n' s' t' : Nat, Good n l s t n' s' t' ∧ Flw n' l s' t' fl ∧ (valueSpec n l fl s t).1 = fval s l fl := by
  obtain ⟨n', s', t', g, hF, hv⟩ := value_flw (F := fl) (v := (valueSpec n l fl s t).1) (by rw [← h])
  exact ⟨n', s', t', g, hF, hv⟩
theorem PathsOK.uniq {n s t e f : Int} {l : List Arc} {fl : List Int} {ps qs : List (List Lk × Int)} (h1 : PathsOK n l fl s t ps e) (h2 : PathsOK n l fl s t qs f) : ps = qs ∧ e = f := by
  rcases h1 with ⟨a1, a2, a3⟩ | ⟨a1, a2, r1, a3⟩ <;> rcases h2 with ⟨b1, b2, b3⟩ | ⟨b1, b2, r2, b3⟩
  · exact ⟨by rw [a3, b3], by rw [a2, b2]⟩
  · exact absurd b1 a1
  · exact absurd a1 b1
  · obtain ⟨n', s', t', g, _, _⟩ := value_good a1
    obtain ⟨rfl, rfl, rfl⟩ := And.intro g.en (And.intro g.es g.et)
    simp only [Int.toNat_natCast] at a3 b3
    exact ⟨(a3.uniq g.ok b3).1, by rw [a2, b2]⟩
theorem RunP.cons {n s t : Nat} {l : List Arc} {fl r : List Int} {p : List Lk × Int} {ps : List (List Lk × Int)} (h : RunP n l s t fl (p :: ps) r) :
    ∃ D, IsDist n t (pE l fl) D ∧ 0 ≤ D.getD s 0 ∧ p.1 = pP l fl D s ∧ p.2 = pRoom l fl D s ∧ RunP n l s t (pNext l fl D s) ps r := by
  cases h with
  | step hD h0 hr => exact ⟨_, hD, h0, rfl, rfl, hr⟩
theorem RunP.nil {n s t : Nat} {l : List Arc} {fl r : List Int} (h : RunP n l s t fl [] r) : r = fl ∧ ∃ D, IsDist n t (pE l fl) D ∧ D.getD s 0 < 0 := by
  cases h with
  | done hD hn => exact ⟨rfl, _, hD, hn⟩
end Go.Flow
namespace Go.Flow
/-! ### each path uses up an arc -/
def npos (l : List Int) : Nat := l.countP (fun x => decide (0 < x))
theorem npos_le : ∀ (a b : List Int), a.length = b.length → (∀ k : Nat, b.getD k 0 ≤ a.getD k 0) → npos b ≤ npos a
  | [], [], _, _ => Nat.le_refl _
  | x :: a, y :: b, hl, h => by
    have ih := npos_le a b (by simpa using hl) (fun k => by simpa using h (k + 1))
    have h0 := h 0
    simp only [List.getD_cons_zero] at h0
    unfold npos at ih ⊢
    simp only [List.countP_cons]
    by_cases h1 : 0 < y
    · rw [if_pos (by simpa using h1), if_pos (by simp; omega)]; omega
    · rw [if_neg (by simpa using h1)]; omega
theorem npos_lt : ∀ (a b : List Int), a.length = b.length → (∀ k : Nat, b.getD k 0 ≤ a.getD k 0) → ∀ j : Nat, 0 < a.getD j 0 → b.getD j 0 ≤ 0 → npos b + 1 ≤ npos a
  | [], [], _, _, j, h1, _ => by simp at h1
  | x :: a, y :: b, hl, h, 0, h1, h2 => by
    have ih := npos_le a b (by simpa using hl) (fun k => by simpa using h (k + 1))
    simp only [List.getD_cons_zero] at h1 h2
    unfold npos at ih ⊢
    simp only [List.countP_cons]
    rw [if_neg (by simp; omega), if_pos (by simpa using h1)]; omega
  | x :: a, y :: b, hl, h, j + 1, h1, h2 => by
    have ih := npos_lt a b (by simpa using hl) (fun k => by simpa using h (k + 1)) j (by simpa using h1) (by simpa using h2)
    have h0 := h 0
    simp only [List.getD_cons_zero] at h0
    unfold npos at ih ⊢
    simp only [List.countP_cons]
    by_cases h3 : 0 < y
    · rw [if_pos (by simpa using h3), if_pos (by simp; omega)]; omega
    · rw [if_neg (by simpa using h3)]; omega
theorem subP_le {room : Int} (h0 : 0 ≤ room) (rest : List Int) (x : Lk) (k : Nat) : (subP room rest x).getD k 0 ≤ rest.getD k 0 := by
  unfold subP
  by_cases e : x.k = k
  · subst e
    by_cases hl : x.k < rest.length
    · rw [getD_set hl, if_pos rfl]; omega
    · rw [List.set_eq_of_length_le (by omega)]; exact Int.le_refl _
  · rw [getD_set' e]; exact Int.le_refl _
theorem subAll_le {room : Int} (h0 : 0 ≤ room) : ∀ (p : List Lk) (rest : List Int) (k : Nat), (subAll room rest p).getD k 0 ≤ rest.getD k 0
  | [], rest, k => Int.le_refl _
  | x :: p, rest, k => Int.le_trans (subAll_le h0 p (subP room rest x) k) (subP_le h0 rest x k)
theorem subAll_used {room : Int} (h0 : 0 ≤ room) : ∀ (p : List Lk) (rest : List Int) (x : Lk), x ∈ p → x.k < rest.length → (subAll room rest p).getD x.k 0 ≤ rest.getD x.k 0 - room
  | [], rest, x, hx, _ => by simp at hx
  | y :: p, rest, x, hx, hl => by
    simp at hx
    rcases hx with rfl | hx
    · refine Int.le_trans (subAll_le h0 p (subP room rest x) x.k) ?_
      unfold subP
      rw [getD_set hl, if_pos rfl]; exact Int.le_refl _
    · have := subAll_used h0 p (subP room rest y) x hx (by rw [subP_len]; exact hl)
      have := subP_le h0 rest y x.k
      show (subAll room (subP room rest y) p).getD x.k 0 ≤ _
      omega
theorem least_attained (rm : Nat → Int) : ∀ (p : List Lk) (m : Int), p.foldl (fun m x => min m (rm x.k)) m = m ∨ ∃ x ∈ p, rm x.k = p.foldl (fun m x => min m (rm x.k)) m
  | [], m => .inl rfl
  | y :: p, m => by
    simp only [List.foldl_cons]
    rcases least_attained rm p (min m (rm y.k)) with h | ⟨x, hx, h⟩
    · rw [h]
      by_cases hc : m ≤ rm y.k
      · left; omega
      · right; exact ⟨y, by simp, by omega⟩
    · right; exact ⟨x, by simp [hx], h⟩
theorem pNext_pos {n s t : Nat} {l : List Arc} (hok : ∀ a ∈ l, okArc n a = true) (hs : s < n) (hst : s ≠ t) {fl D : List Int} (hf : Flw n l s t fl) (hD : IsDist n t (pE l fl) D) (h0 : 0 ≤ D.getD s 0) : npos (pNext l fl D s) + 1 ≤ npos fl := by
  obtain ⟨k, hk⟩ := Int.eq_ofNat_of_zero_le h0
  have hch := path_chn (pl_lt hok) hD k s hs hk
  have hlen : (pP l fl D s).length = k := path_len (pl_lt hok) hD k s hs hk
  have hpos := (pNext_ok hok hs hst hf hD h0).2.1
  have hk0 : k ≠ 0 := fun e => by
    subst e
    exact hst (hD.zero s hs (by omega))
  have hatt : ∃ x ∈ pP l fl D s, rmP fl x.k = pRoom l fl D s := by
    rcases least_attained (rmP fl) (pP l fl D s) 1099511627776 with h | h
    · have hne : pP l fl D s ≠ [] := fun e => by rw [e] at hlen; simp at hlen; omega
      obtain ⟨x, p, hxp⟩ := List.exists_cons_of_ne_nil hne
      refine ⟨x, by rw [hxp]; simp, ?_⟩
      have hle := (leastR_le (rmP fl) (pP l fl D s) 1099511627776).2 x (by rw [hxp]; simp)
      have hxP : x ∈ pP l fl D s := by rw [hxp]; simp
      have hxm := (hch.all x hxP).1.1
      obtain ⟨j, a, ha, rfl⟩ := plinks_iff.1 hxm
      have hjl : j < l.length := (List.getElem?_eq_some_iff.1 ha).1
      have hfj : fl[j]? = some (fl.getD j 0) := by have := hf.len; simp [List.getD_eq_getElem?_getD, show j < fl.length by omega]
      have hin := inCap_get l fl hf.cap j a _ ha hfj
      have hka := okArc_iff.1 (hok a (List.mem_of_getElem? ha))
      show fl.getD j 0 = _
      have h9 : pRoom l fl D s = 1099511627776 := h
      have h10 : pRoom l fl D s ≤ fl.getD j 0 := hle
      omega
    · exact h
  obtain ⟨x, hx, hxr⟩ := hatt
  have hxk : x.k < fl.length := by rw [← hf.len]; exact pl_k (hch.all x hx).1.1
  refine npos_lt fl _ (by rw [subAll_len]) (fun k => subAll_le (Int.le_of_lt hpos) _ _ k) x.k ?_ ?_
  · have h2 : fl.getD x.k 0 = pRoom l fl D s := hxr
    rw [h2]; exact hpos
  · have h1 := subAll_used (Int.le_of_lt hpos) (pP l fl D s) fl x hx hxk
    have h2 : fl.getD x.k 0 = pRoom l fl D s := hxr
    rw [h2, Int.sub_self] at h1
    exact h1
end Go.Flow
namespace Go.Flow
theorem RunP.small {n s t : Nat} {l : List Arc} (hok : ∀ a ∈ l, okArc n a = true) (hs : s < n) (ht : t < n) (hst : s ≠ t) {fl r : List Int} {ps : List (List Lk × Int)} (h : RunP n l s t fl ps r) : Flw n l s t fl → ps.length ≤ npos fl ∧ ∀ p ∈ ps, p.1.length ≤ n := by
  induction h with
  | done => intro _; simp
  | @step fl D r ps hD h0 _ ih =>
    intro hf
    obtain ⟨hN1, _, _⟩ := pNext_ok hok hs hst hf hD h0
    have hp := pNext_pos hok hs hst hf hD h0
    obtain ⟨i1, i2⟩ := ih hN1
    refine ⟨by simp only [List.length_cons]; omega, fun p hp => ?_⟩
    simp at hp
    rcases hp with rfl | hp
    · obtain ⟨k, hk⟩ := Int.eq_ofNat_of_zero_le h0
      have h3 : (pP l fl D s).length = k := path_len (pl_lt hok) hD k s hs hk
      have h2 := hD.lt (fun x hx => pl_lt hok x hx.1) ht hs
      dsimp only
      omega
    · exact i2 p hp
end Go.Flow
/- Paths of the program. -/
namespace Go.Proofs.YtknfhiolenobaaaGreat
open Go.Eng Go.Flow
set_option maxRecDepth 100000
set_option maxHeartbeats 4000000

theorem OwnS.num {e : TypeId} {b n cap : Nat} {l : List Int} {ρ : PH} (h : OwnS e 1 (.slice (some ⟨b, 0, none⟩) n cap) l.length (l.flatMap Eng.encI) ρ) {i : Nat} (hi : i < l.length) : rdc ρ b i = some (int (l.getD i 0)) := by
 have hS : SlE Eng.encI 1 ρ (.slice (some ⟨b, 0, none⟩) n cap) l := h.at
 obtain ⟨p, c, e1, hr⟩ := hS.val Eng.encI_len
 simp only [Value.slice.injEq] at e1
 obtain ⟨b', o', e2, h2⟩ := hr.int (List.getElem?_eq_getElem hi)
 rw [← e1.1] at e2
 simp only [Option.some.injEq, Addr.mk.injEq, and_true] at e2
 obtain ⟨rfl, rfl⟩ := e2
 rw [Nat.zero_add] at h2
 rw [h2]
 simp [List.getD_eq_getElem?_getD, hi]
def ArcsIn (σ : PH) (es : List (Value × Int)) (ps : List (List Lk × Int)) : Prop :=
 es.length = ps.length ∧ ∀ (i : Nat) (e : Value × Int) (p : List Lk × Int), es[i]? = some e → ps[i]? = some p → e.2 = p.2 ∧ IntsAt σ e.1 (ksOf p.1)
theorem ArcsIn.nil (σ : PH) : ArcsIn σ [] [] := ⟨rfl, by intro i e p h; simp at h⟩
theorem ArcsIn.sub {σ τ : PH} {es : List (Value × Int)} {ps : List (List Lk × Int)} (h : ArcsIn σ es ps) (hs : PH.sub σ τ) : ArcsIn τ es ps := ⟨h.1, fun i e p h1 h2 => ⟨(h.2 i e p h1 h2).1, hs.slE (h.2 i e p h1 h2).2⟩⟩
end Go.Proofs.YtknfhiolenobaaaGreat
/- The reference's list of arcs with what is left on each. No program in sight. No conditions. -/
namespace Go.Flow
end Go.Flow
/- Paths of the reference; paths compared. -/
namespace Go.Proofs.YtknfhiolenobaaaGreat
open Go.Eng Go.Flow
set_option maxRecDepth 100000
set_option maxHeartbeats 4000000

end Go.Proofs.YtknfhiolenobaaaGreat
/- A part of a flow's paths is a flow. No program in sight. No conditions. -/
namespace Go.Flow
def addP (m : Int) (part : List Int) (x : Lk) : List Int := part.set x.k (part.getD x.k 0 + m)
def addAll (m : Int) (part : List Int) (p : List Lk) : List Int := p.foldl (addP m) part
def addMany (qs : List (List Lk × Int)) (part : List Int) : List Int := qs.foldl (fun part q => addAll q.2 part q.1) part
def quotaL : List (List Lk × Int) → Int → List (List Lk × Int)
  | [], _ => []
  | p :: ps, v => (p.1, min v p.2) :: quotaL ps (v - min v p.2)
theorem RunP.pos {n s t : Nat} {l : List Arc} (hok : ∀ a ∈ l, okArc n a = true) (hs : s < n) (hst : s ≠ t) {fl r : List Int} {ps : List (List Lk × Int)} (h : RunP n l s t fl ps r) : Flw n l s t fl → ∀ p ∈ ps, 0 < p.2 := by
  induction h with
  | done => intro _ p hp; simp at hp
  | step hD h0 _ ih =>
    intro hf p hp
    have := pNext_ok hok hs hst hf hD h0
    simp only [List.mem_cons] at hp
    rcases hp with rfl | hp
    · exact this.2.1
    · exact ih this.1 p hp
section
variable {n s t : Nat} {l : List Arc}
end
end Go.Flow
/- A range over a function whose iterator keeps numbers of its own. No conditions. -/
namespace Go.Eng
variable {C : Cx} {D : List Deferred} {R H T : List PH} {L : Env} {K : List It}
end Go.Eng
namespace Go.Flow
end Go.Flow
/- The least cut of the network. No program in sight. No conditions. -/
namespace Go.Step
open Go.Flow (MaxOK CutOK maxErr okEnds_iff run_cut RunR capacitySpec sideOf bget mem_sideOf sideOf_chk sideOf_len fval)
variable {qs : List Int} {cs : List Ct} {bs : List Bk} {hs : List Hd} {d : Dm}
def CutN (qs : List Int) (cs : List Ct) (bs : List Bk) (hs : List Hd) (d : Dm) (side : List Int) (c e : Int) : Prop := CutOK (vsN qs d) (arcsG qs cs bs hs d) (vtx d d.s d.r) (vtx d d.d d.e) side c e
end Go.Step
/- What a node gets and sends by the shipments of a flow. No program in sight. No conditions. -/
namespace Go.Step
open Go.Flow (Flw fval okArc okEnds_iff)
variable {qs : List Int} {cs : List Ct} {bs : List Bk} {hs : List Hd} {d : Dm}
end Go.Step
/- What the planner answers. No program in sight. No conditions. -/
namespace Go.Step
open Go.Flow (MaxOK PathsOK Flw fval addMany quotaL RunP okEnds_iff)
abbrev PathL := List (List Go.Flow.Lk × Int)
def partF (qs : List Int) (cs : List Ct) (bs : List Bk) (hs : List Hd) (d : Dm) (ps : PathL) : List Int := addMany (quotaL ps d.v) (List.replicate (arcsG qs cs bs hs d).length 0)
def PathN (qs : List Int) (cs : List Ct) (bs : List Bk) (hs : List Hd) (d : Dm) (F : List Int) (ps : PathL) (e : Int) : Prop := PathsOK (vsN qs d) (arcsG qs cs bs hs d) F (vtx d d.s d.r) (vtx d d.d d.e) ps e
def PlanOK (qs : List Int) (cs : List Ct) (bs : List Bk) (hs : List Hd) (d : Dm) (acc : Bool) (vol : Int) (ss : List Sh) (c : Cu) : Prop :=
  ∃ F m, MaxN qs cs bs hs d F m 0 ∧ ((m < d.v ∧ acc = false ∧ vol = m ∧ ss = [] ∧ ∃ side k, CutN qs cs bs hs d side k 0 ∧ c = sidesC d qs.length side) ∨
    (d.v ≤ m ∧ acc = true ∧ vol = d.v ∧ c = [] ∧ ∃ ps, PathN qs cs bs hs d F ps 0 ∧ ss = shipsF (arcsE qs cs bs hs d) (partF qs cs bs hs d ps)))
variable {qs : List Int} {cs : List Ct} {bs : List Bk} {hs : List Hd} {d : Dm}
theorem MaxN.uniq {F G : List Int} {m k e f : Int} (h1 : MaxN qs cs bs hs d F m e) (h2 : MaxN qs cs bs hs d G k f) : F = G ∧ m = k ∧ e = f := MaxOK.uniq h1 h2
theorem PlanOK.uniq {acc acc' : Bool} {vol vol' : Int} {ss ss' : List Sh} {c c' : Cu} (h1 : PlanOK qs cs bs hs d acc vol ss c) (h2 : PlanOK qs cs bs hs d acc' vol' ss' c') : acc = acc' ∧ vol = vol' ∧ ss = ss' ∧ c = c' := by
  obtain ⟨F, m, hm, h1⟩ := h1
  obtain ⟨G, k, hk, h2⟩ := h2
  obtain ⟨rfl, rfl, _⟩ := hm.uniq hk
  rcases h1 with ⟨a1, a2, a3, a4, s1, k1, a5, a6⟩ | ⟨a1, a2, a3, a4, p1, a5, a6⟩ <;> rcases h2 with ⟨b1, b2, b3, b4, s2, k2, b5, b6⟩ | ⟨b1, b2, b3, b4, p2, b5, b6⟩
  · have := (Go.Flow.CutOK.uniq a5 b5).1
    exact ⟨by rw [a2, b2], by rw [a3, b3], by rw [a4, b4], by rw [a6, b6, this]⟩
  · omega
  · omega
  · have := (Go.Flow.PathsOK.uniq a5 b5).1
    exact ⟨by rw [a2, b2], by rw [a3, b3], by rw [a6, b6, this], by rw [a4, b4]⟩
end Go.Step
/- The paths that are needed. -/
namespace Go.Proofs.YtknfhiolenobaaaGreat
open Go.Eng Go.Step Go.Flow
set_option maxRecDepth 100000
set_option maxHeartbeats 4000000

end Go.Proofs.YtknfhiolenobaaaGreat
/- The document's plan; answers compared. -/
namespace Go.Proofs.YtknfhiolenobaaaGreat
open Go.Eng Go.Step Go.Flow
set_option maxRecDepth 100000
set_option maxHeartbeats 4000000

end Go.Proofs.YtknfhiolenobaaaGreat
/- Capacity of the document. -/
namespace Go.Proofs.YtknfhiolenobaaaGreat
open Go.Eng Go.Step
set_option maxRecDepth 100000
set_option maxHeartbeats 4000000

theorem CutRow.open {ρ κ : PH} {p : Option Addr} {c : Cu} (h : CutRow ρ κ p c) (hp : 0 < c.length) : ∃ b o, p = some ⟨b, o, none⟩ ∧ ∀ (i : Nat) (l : List (Int × Int)), c[i]? = some l → ∃ q k, rdc ρ b (o + i) = some (.slice q l.length k) ∧ SpAt κ (.slice q l.length k) l ∧ RowsE encS 2 κ q l ∧ l.length ≤ 9223372036854775807 := by
 obtain ⟨b, o, _, _, e, _⟩ := h 0 _ (List.getElem?_eq_getElem hp)
 refine ⟨b, o, e, fun i l hl => ?_⟩
 obtain ⟨b2, o2, q, k, e2, h1, h2, h3⟩ := h i l hl
 rw [e] at e2
 simp only [Option.some.injEq, Addr.mk.injEq, and_true] at e2
 obtain ⟨rfl, rfl⟩ := e2
 obtain ⟨q2, k2, e3, hr⟩ := h2.val encS_len
 simp only [Value.slice.injEq] at e3
 obtain ⟨rfl, _, rfl⟩ := e3
 exact ⟨_, _, h1, h2, hr, h3⟩
end Go.Proofs.YtknfhiolenobaaaGreat
/- Capacity. -/
namespace Go.Proofs.YtknfhiolenobaaaGreat
open Go.Eng Go.Step
set_option maxRecDepth 100000
set_option maxHeartbeats 4000000

set_option maxHeartbeats 64000000 in
theorem certCap_spec {ρ τ σ υ : PH} {pq pc pb ph : Option Addr} {kq kc kb kh : Nat} {qs : List Int} {cs : List Ct} {bs : List Bk} {hs : List Hd} (hT : TbAt ρ τ σ υ pq pc pb ph kq kc kb kh qs cs bs hs) (γ κ : PH) (d : Dm) (p : Option Addr) (kk : Nat) (c : Cu) (hc : CutRow γ κ p c) (hcl : c.length ≤ 9223372036854775807) :
  Ans Tryz.prog (fv 10) [.agg #[.slice pq qs.length kq, .slice pc cs.length kc, .slice pb bs.length kb, .slice ph hs.length kh], .agg #[int d.s, int d.d, int d.v, int d.r, int d.e], .slice p c.length kk] [ρ, τ, σ, υ, γ, κ] (fun r => r = .tuple #[int (capR qs cs bs hs d c).1, int (capR qs cs bs hs d c).2]) := by
 refine spec_in (cap := []) Tryz.func10 rfl rfl Tryz.ntmps10 rfl envZ (fun N β => ?_)
 refine AC ?_
 refine AA ?_
 refine BT (BV rfl) rfl rfl rfl ?_
 rintro _ _ ⟨b1, rfl, rfl⟩
 refine AV (ρ := sng b1 _) takeZ ?_
 have ct : RdN (sng b1 (.cells #[.slice pq qs.length kq, .slice pc cs.length kc, .slice pb bs.length kb, .slice ph hs.length kh] 29 (0, 0))) b1 0 [.slice pq qs.length kq, .slice pc cs.length kc, .slice pb bs.length kb, .slice ph hs.length kh] := rdN_sng (vs := [.slice pq qs.length kq, .slice pc cs.length kc, .slice pb bs.length kb, .slice ph hs.length kh])
 have ct0 : rdc (sng b1 (.cells #[.slice pq qs.length kq, .slice pc cs.length kc, .slice pb bs.length kb, .slice ph hs.length kh] 29 (0, 0))) b1 0 = some (.slice pq qs.length kq) := by rw [rdc_sng]; rfl
 have ct1 : rdc (sng b1 (.cells #[.slice pq qs.length kq, .slice pc cs.length kc, .slice pb bs.length kb, .slice ph hs.length kh] 29 (0, 0))) b1 1 = some (.slice pc cs.length kc) := by rw [rdc_sng]; rfl
 have ct2 : rdc (sng b1 (.cells #[.slice pq qs.length kq, .slice pc cs.length kc, .slice pb bs.length kb, .slice ph hs.length kh] 29 (0, 0))) b1 2 = some (.slice pb bs.length kb) := by rw [rdc_sng]; rfl
 have ct3 : rdc (sng b1 (.cells #[.slice pq qs.length kq, .slice pc cs.length kc, .slice pb bs.length kb, .slice ph hs.length kh] 29 (0, 0))) b1 3 = some (.slice ph hs.length kh) := by rw [rdc_sng]; rfl
 have ctp : RdP (sng b1 (.cells #[.slice pq qs.length kq, .slice pc cs.length kc, .slice pb bs.length kb, .slice ph hs.length kh] 29 (0, 0))) b1 0 [.slice pq qs.length kq, .slice pc cs.length kc] := rdP_sng (xs := [.slice pq qs.length kq, .slice pc cs.length kc, .slice pb bs.length kb, .slice ph hs.length kh]) rfl
 refine BT (BV rfl) rfl rfl rfl ?_
 rintro _ _ ⟨b2, rfl, rfl⟩
 refine AV (ρ := sng b2 _) takeZ ?_
 have cd : RdN (sng b2 (.cells #[int d.s, int d.d, int d.v, int d.r, int d.e] 31 (0, 0))) b2 0 [int d.s, int d.d, int d.v, int d.r, int d.e] := rdN_sng (vs := [int d.s, int d.d, int d.v, int d.r, int d.e])
 have cd0 : rdc (sng b2 (.cells #[int d.s, int d.d, int d.v, int d.r, int d.e] 31 (0, 0))) b2 0 = some (int d.s) := by rw [rdc_sng]; rfl
 have cd1 : rdc (sng b2 (.cells #[int d.s, int d.d, int d.v, int d.r, int d.e] 31 (0, 0))) b2 1 = some (int d.d) := by rw [rdc_sng]; rfl
 have cd2 : rdc (sng b2 (.cells #[int d.s, int d.d, int d.v, int d.r, int d.e] 31 (0, 0))) b2 2 = some (int d.v) := by rw [rdc_sng]; rfl
 have cd3 : rdc (sng b2 (.cells #[int d.s, int d.d, int d.v, int d.r, int d.e] 31 (0, 0))) b2 3 = some (int d.r) := by rw [rdc_sng]; rfl
 have cd4 : rdc (sng b2 (.cells #[int d.s, int d.d, int d.v, int d.r, int d.e] 31 (0, 0))) b2 4 = some (int d.e) := by rw [rdc_sng]; rfl
 refine CP ?_; rintro _ _ ⟨b, rfl, rfl⟩
 refine AD ?_
 refine AD ?_
 refine AF ?_
 refine AC ?_
 refine AC ?_
 refine AA ?_
 refine AM ?_
 refine AM ?_
 revert b; intro b3
 refine AV (ρ := sng b3 _) takeZ ?_
 have cc : rdc (sng b3 (.cells #[.slice p c.length kk] 34 (0, 0))) b3 0 = some (.slice p c.length kk) := by rw [rdc_sng]; rfl
 refine AT (certCheck_spec hT d) rfl rfl rdZ rfl rfl ?_
 rintro _ rfl
 cases hval : validT qs cs bs hs d with
 | false =>
  have hR : capR qs cs bs hs d c = (0, 1) := by unfold capR; rw [if_pos hval]
  rw [hR, if_neg (by simp)]
  refine AD ?_
  refine AF ?_
  refine AC ?_
  refine AA ?_
  refine AB ?_
  refine CC ?_
  refine AF ?_
  refine AO rfl ?_
  refine AC ?_
  refine AA ?_
  refine AB ?_
  refine AD ?_
  refine AD ?_
  refine AF ?_
  exact AJ (res2 rfl rfl rfl) rsubZ selZ ⟨rfl, rfl⟩
 | true =>
 rw [if_pos rfl]
 obtain ⟨hcs0, hbl, hok, hhl, hql, hquo, hdm, hcsl⟩ := valid_ok hval
 have hcs : ∀ c ∈ cs, chkCt c = 0 := fun c hc => (hcs0 c hc).1
 have hdm2 : 0 ≤ d.r ∧ d.r < d.e ∧ d.e ≤ 1099511627776 ∧ d.e - d.r ≤ 100 := hdm.2.2.2.2
 by_cases hlen : c.length = qs.length
 rotate_left
 ·have hR : capR qs cs bs hs d c = (0, 10) := by unfold capR; rw [if_neg (by rw [hval]; simp), if_pos hlen]
  rw [hR]
  refine AD ?_
  refine AF ?_
  refine AC ?_
  refine AA ?_
  refine AB ?_
  refine A6 ?_
  refine AF ?_
  refine AN rfl ?_
  refine AL ?_
  refine AC ?_
  refine AC ?_
  refine AA ?_
  refine AG ?_
  refine A0 ?_
  refine AH ?_
  refine AH ?_
  refine AG ?_
  refine A0 ?_
  refine CC ?_
  refine AF ?_
  refine AO rfl ?_
  refine AC ?_
  refine AA ?_
  refine AD ?_
  refine AD ?_
  refine AF ?_
  exact AJ (res2 rfl rfl rfl) rsubZ selZ ⟨rfl, rfl⟩
 have hcr := hc
 obtain ⟨bp, op, rfl, hrow⟩ := hc.open (by omega)
 refine AD ?_
 refine AF ?_
 refine AC ?_
 refine AA ?_
 refine AB ?_
 refine A6 ?_
 refine AF ?_
 refine AN rfl ?_
 refine AL ?_
 refine AC ?_
 refine AC ?_
 refine AA ?_
 refine AG ?_
 refine A0 ?_
 refine AH ?_
 refine AH ?_
 refine AG ?_
 refine A0 ?_
 refine A6 ?_
 refine AF ?_
 refine AN rfl ?_
 refine AL ?_
 refine AC ?_
 refine AC ?_
 refine AA ?_
 refine AG ?_
 refine A0 ?_
 refine AB ?_
 refine AF ?_
 refine AQ ?_
 refine BN [3, 4, 5, 32, 33] (0 : Nat) (fun i => i ≤ c.length ∧ (c.take i).any (badL2 d) = false) (fun i => [(34, int i)]) (fun _ => []) (fun i => c.length - i) pickZ ⟨by omega, rfl⟩ covZ selZ ?_
 rintro i ⟨hi, hI⟩
 by_cases hlt : i < c.length
 ·have hx := List.getElem?_eq_getElem hlt
  have hnx := any_take (badL2 d) hlt
  rw [hI, Bool.false_or] at hnx
  obtain ⟨q, k, g, hsp, hr, hll⟩ := hrow i _ hx
  have hyes : badL2 d c[i] = true → capR qs cs bs hs d c = (0, 2) := fun h => by
   unfold capR
   rw [if_neg (by rw [hval]; simp), if_neg (fun h => h hlen), if_pos (List.any_eq_true.2 ⟨_, List.getElem_mem hlt, h⟩)]
  generalize c[i] = l at hnx g hsp hr hll hyes
  have hck := ivCheck_spec κ _ l hsp hll
  unfold badL2 at hyes hnx
  refine AC ?_
  refine AA ?_
  refine BF ?_
  refine AF ?_
  refine AC ?_
  refine AO rfl ?_
  refine AL ?_
  refine AC ?_
  refine AQ ?_
  refine AC ?_
  refine AA ?_
  refine BS ?_
  refine AG ?_
  refine AD ?_
  refine AF ?_
  refine AC ?_
  refine BM (.q 0 (.l 1 .e (.q 2 (.q 3 (.q 4 (.q 5 (.q 6 (.q 7 (.q 8 (.q 9 (.q 10 (.q 11 (.q 12 (.q 13 (.q 14 (.q 15 (.q 16 (.q 17 (.q 18 (.q 19 (.q 20 (.q 21 (.q 22 (.q 23 (.q 24 (.q 25 (.q 26 (.q 27 (.q 28 (.q 29 .nil)))))))))))))))))))))))))))))) [] rfl (by kernel_rfl) selZ ?_
  refine AX ?_
  refine DK (CZ rfl hck rfl rfl rdZ rfl rfl ?_)
  rintro _ rfl
  by_cases h0 : chkI l = 0
  rotate_left
  ·rw [hyes (by rw [decide_eq_true h0]; rfl)]
   generalize chkI l = z at h0
   refine zd_ne ?_
   refine AX ?_
   refine AS rfl rfl rfl rfl rfl ?_
   refine AS rfl rfl rfl rfl rfl ?_
   refine AS rfl rfl rfl rfl rfl ?_
   refine AS rfl rfl rfl rfl rfl ?_
   refine AS rfl rfl rfl rfl rfl ?_
   refine AS rfl rfl rfl rfl rfl ?_
   refine AS rfl rfl rfl rfl rfl ?_
   refine AS rfl rfl rfl rfl rfl ?_
   refine AS rfl rfl rfl rfl rfl ?_
   refine AS rfl rfl rfl rfl rfl ?_
   refine AS rfl rfl rfl rfl rfl ?_
   refine AS rfl rfl rfl rfl rfl ?_
   refine AS rfl rfl rfl rfl rfl ?_
   refine AS rfl rfl rfl rfl rfl ?_
   refine AS rfl rfl rfl rfl rfl ?_
   refine AS rfl rfl rfl rfl rfl ?_
   refine AS rfl rfl rfl rfl rfl ?_
   refine AS rfl rfl rfl rfl rfl ?_
   refine AS rfl rfl rfl rfl rfl ?_
   refine AS rfl rfl rfl rfl rfl ?_
   refine AS rfl rfl rfl rfl rfl ?_
   refine AS rfl rfl rfl rfl rfl ?_
   refine AS rfl rfl rfl rfl rfl ?_
   refine AS rfl rfl rfl rfl rfl ?_
   refine AS rfl rfl rfl rfl rfl ?_
   refine B0 ?_
   refine BJ ?_
   refine AO rfl ?_
   refine AC ?_
   refine AA ?_
   refine AD ?_
   refine AD ?_
   refine AF ?_
   exact AJ (res2 rfl rfl rfl) rsubZ selZ ⟨rfl, rfl⟩
  by_cases hz : l.length = 0
  ·obtain rfl := List.eq_nil_of_length_eq_zero hz
   rw [h0, List.any_nil] at hnx
   rw [h0]
   refine FG ?_
   refine AX ?_
   refine AX ?_
   refine D7 ?_
   refine EF ?_
   refine AX ?_
   refine AS rfl rfl rfl rfl rfl ?_
   refine AS rfl rfl rfl rfl rfl ?_
   refine AS rfl rfl rfl rfl rfl ?_
   refine AS rfl rfl rfl rfl rfl ?_
   refine AS rfl rfl rfl rfl rfl ?_
   refine AS rfl rfl rfl rfl rfl ?_
   refine AS rfl rfl rfl rfl rfl ?_
   refine AS rfl rfl rfl rfl rfl ?_
   refine AS rfl rfl rfl rfl rfl ?_
   refine AS rfl rfl rfl rfl rfl ?_
   refine AS rfl rfl rfl rfl rfl ?_
   refine AS rfl rfl rfl rfl rfl ?_
   refine AS rfl rfl rfl rfl rfl ?_
   refine AS rfl rfl rfl rfl rfl ?_
   refine AS rfl rfl rfl rfl rfl ?_
   refine AS rfl rfl rfl rfl rfl ?_
   refine AS rfl rfl rfl rfl rfl ?_
   refine AS rfl rfl rfl rfl rfl ?_
   refine AS rfl rfl rfl rfl rfl ?_
   refine AS rfl rfl rfl rfl rfl ?_
   refine B6 ?_
   refine B6 ?_
   refine BJ ?_
   refine AN rfl ?_
   refine AL ?_
   refine A7 ?_
   refine AA ?_
   refine BA ?_
   refine AB ?_
   refine AF ?_
   exact A4 (i + 1) ⟨by omega, hnx⟩ (by omega) covZ selZ
  have hen := badS_ends h0 (by omega) d
  rw [h0]
  rw [h0, hen] at hnx hyes
  obtain ⟨b4, o4, rfl, hrd, g0, g1⟩ := spRow hr (List.getElem?_eq_getElem (show 0 < l.length by omega))
  obtain ⟨_, _, e, _, p0, p1⟩ := spRow hr (List.getElem?_eq_getElem (show l.length - 1 < l.length by omega))
  simp only [Option.some.injEq, Addr.mk.injEq, and_true] at e
  obtain ⟨rfl, rfl⟩ := e
  generalize l[0] = y at hrd g0 g1 hnx hyes
  generalize l[l.length - 1] = y2 at p0 p1 hnx hyes
  by_cases k1 : y.1 < d.r
  ·rw [hyes (by rw [decide_eq_true k1]; simp)]
   refine FG ?_
   refine AX ?_
   refine AX ?_
   refine D7 ?_
   refine EH ?_
   refine AX ?_
   refine AX ?_
   refine E9 ?_
   refine DR ?_
   refine AR ?_
   refine AY ?_
   refine AR ?_
   refine F8 ?_
   refine AX ?_
   refine AS rfl rfl rfl rfl rfl ?_
   refine AS rfl rfl rfl rfl rfl ?_
   refine AS rfl rfl rfl rfl rfl ?_
   refine AS rfl rfl rfl rfl rfl ?_
   refine AS rfl rfl rfl rfl rfl ?_
   refine AS rfl rfl rfl rfl rfl ?_
   refine AS rfl rfl rfl rfl rfl ?_
   refine AS rfl rfl rfl rfl rfl ?_
   refine AS rfl rfl rfl rfl rfl ?_
   refine AS rfl rfl rfl rfl rfl ?_
   refine AS rfl rfl rfl rfl rfl ?_
   refine B0 ?_
   refine B0 ?_
   refine B6 ?_
   refine BJ ?_
   refine AO rfl ?_
   refine AC ?_
   refine AA ?_
   refine AD ?_
   refine AD ?_
   refine AF ?_
   exact AJ (res2 rfl rfl rfl) rsubZ selZ ⟨rfl, rfl⟩
  by_cases k2 : d.e + 1 < y2.2
  ·rw [hyes (by rw [decide_eq_true k2]; simp)]
   refine FG ?_
   refine AX ?_
   refine AX ?_
   refine D7 ?_
   refine EH ?_
   refine AX ?_
   refine AX ?_
   refine E9 ?_
   refine DR ?_
   refine AR ?_
   refine AY ?_
   refine AR ?_
   refine EZ ?_
   refine AX ?_
   refine AX ?_
   refine AX ?_
   refine D7 ?_
   refine CS ?_
   refine C9 ?_
   refine DL ?_
   refine AR ?_
   refine AY ?_
   refine AR ?_
   refine DV ?_
   refine EH ?_
   refine B6 ?_
   refine B0 ?_
   refine B6 ?_
   refine BJ ?_
   refine AO rfl ?_
   refine AC ?_
   refine AA ?_
   refine AD ?_
   refine AD ?_
   refine AF ?_
   exact AJ (res2 rfl rfl rfl) rsubZ selZ ⟨rfl, rfl⟩
  rw [decide_eq_false k1, decide_eq_false k2] at hnx
  refine FG ?_
  refine AX ?_
  refine AX ?_
  refine D7 ?_
  refine EH ?_
  refine AX ?_
  refine AX ?_
  refine E9 ?_
  refine DR ?_
  refine AR ?_
  refine AY ?_
  refine AR ?_
  refine EZ ?_
  refine AX ?_
  refine AX ?_
  refine AX ?_
  refine D7 ?_
  refine CS ?_
  refine C9 ?_
  refine DL ?_
  refine AR ?_
  refine AY ?_
  refine AR ?_
  refine DV ?_
  refine EF ?_
  refine B6 ?_
  refine B0 ?_
  refine B6 ?_
  refine BJ ?_
  refine AN rfl ?_
  refine AL ?_
  refine A7 ?_
  refine AA ?_
  refine BA ?_
  refine AB ?_
  refine AF ?_
  exact A4 (i + 1) ⟨by omega, hnx⟩ (by omega) covZ selZ
 have hie : i = c.length := by omega
 subst hie
 rw [List.take_length] at hI
 have hR0 : capR qs cs bs hs d c = if hasI (cuAt c d.s) d.r = false ∨ hasI (cuAt c d.d) d.e = true then (0, 24) else (capSum qs cs bs hs d c, 0) := by
  unfold capR
  rw [if_neg (by rw [hval]; simp), if_neg (fun h => h hlen), if_neg (by rw [hI]; simp)]
 clear hI
 have hdd0 := hdm.1
 have hdd1 := hdm.2.1
 obtain ⟨ds, hds⟩ : ∃ n : Nat, d.s = n := ⟨d.s.toNat, by omega⟩
 obtain ⟨dd, hdd⟩ : ∃ n : Nat, d.d = n := ⟨d.d.toNat, by omega⟩
 have hxs := List.getElem?_eq_getElem (show ds < c.length by omega)
 have hxd := List.getElem?_eq_getElem (show dd < c.length by omega)
 obtain ⟨q1, k1, gs, hs1, _, hl1⟩ := hrow ds _ hxs
 obtain ⟨q2, k2, gd, hs2, _, hl2⟩ := hrow dd _ hxd
 have hh1 := ivHas_spec κ _ _ d.r hs1 hl1
 have hh2 := ivHas_spec κ _ _ d.e hs2 hl2
 have e1 : cuAt c d.s = c[ds] := by rw [hds]; exact cuAt_get hxs
 have e2 : cuAt c d.d = c[dd] := by rw [hdd]; exact cuAt_get hxd
 rw [e1, e2] at hR0
 have cdn0 : rdc (sng b2 (.cells #[int d.s, int d.d, int d.v, int d.r, int d.e] 31 (0, 0))) b2 0 = some (int ds) := by rw [rdc_sng, ← hds]; rfl
 have cdn1 : rdc (sng b2 (.cells #[int d.s, int d.d, int d.v, int d.r, int d.e] 31 (0, 0))) b2 1 = some (int dd) := by rw [rdc_sng, ← hdd]; rfl
 clear cd0 cd1
 refine AC ?_
 refine AA ?_
 refine AZ ?_
 refine AF ?_
 refine AC ?_
 refine AN rfl ?_
 refine A8 rfl ?_
 refine AC ?_
 refine AC ?_
 refine BM (.q 0 (.q 1 (.q 2 (.q 3 (.q 4 (.q 5 (.q 6 (.l 7 .e (.q 8 (.q 9 (.q 10 (.q 11 (.q 12 (.q 13 (.q 14 (.q 15 (.q 16 (.l 17 .e (.q 18 .nil))))))))))))))))))) [] rfl (by kernel_rfl) selZ ?_
 refine AR ?_
 refine AY ?_
 refine AR ?_
 refine E8 ?_
 refine AR ?_
 refine AY ?_
 refine AR ?_
 refine DK (CZ rfl hh1 rfl rfl rdZ rfl rfl ?_)
 rintro _ rfl
 cases hb1 : hasI c[ds] d.r with
 | false =>
  rw [hR0, if_pos (.inl hb1)]
  refine E1 (.q 8 (.q 9 (.q 10 (.q 11 (.q 12 (.q 13 (.q 14 (.q 15 (.q 16 (.q 17 (.q 18 .nil))))))))))) (by kernel_rfl) ?_
  refine D8 ?_
  refine AX ?_
  refine AS rfl rfl rfl rfl rfl ?_
  refine AS rfl rfl rfl rfl rfl ?_
  refine AS rfl rfl rfl rfl rfl ?_
  refine AS rfl rfl rfl rfl rfl ?_
  refine AS rfl rfl rfl rfl rfl ?_
  refine AS rfl rfl rfl rfl rfl ?_
  refine AS rfl rfl rfl rfl rfl ?_
  refine AS rfl rfl rfl rfl rfl ?_
  refine B0 ?_
  refine BJ ?_
  refine AO rfl ?_
  refine AC ?_
  refine AA ?_
  refine AD ?_
  refine AD ?_
  refine AF ?_
  exact AJ (res2 rfl rfl rfl) rsubZ selZ ⟨rfl, rfl⟩
 | true =>
 refine D8 ?_
 refine AX ?_
 refine AR ?_
 refine AY ?_
 refine AR ?_
 refine E8 ?_
 refine AR ?_
 refine AY ?_
 refine AR ?_
 refine DK (CZ rfl hh2 rfl rfl rdZ rfl rfl ?_)
 rintro _ rfl
 cases hb2 : hasI c[dd] d.e with
 | true =>
  rw [hR0, if_pos (.inr hb2)]
  refine B6 ?_
  refine BJ ?_
  refine AO rfl ?_
  refine AC ?_
  refine AA ?_
  refine AD ?_
  refine AD ?_
  refine AF ?_
  exact AJ (res2 rfl rfl rfl) rsubZ selZ ⟨rfl, rfl⟩
 | false =>
 rw [if_neg (by rw [hb1, hb2]; simp)] at hR0
 rw [hR0]
 clear hh1 hh2 cdn0 cdn1 gs gd e1 e2 hR0
 have cd0 : rdc (sng b2 (.cells #[int d.s, int d.d, int d.v, int d.r, int d.e] 31 (0, 0))) b2 0 = some (int d.s) := by rw [rdc_sng]; rfl
 have cd1 : rdc (sng b2 (.cells #[int d.s, int d.d, int d.v, int d.r, int d.e] 31 (0, 0))) b2 1 = some (int d.d) := by rw [rdc_sng]; rfl
 have hwb := waitC_bd hquo hok hhl d c
 have hcb := conC_bd (fun x hx => by have := (chkCt_all (hcs x hx)).2.2.2.1; omega) bs d c
 have hWb := fun n => sumT_bd (f := fun n => sumU (waitC qs hs d c n) d.r d.e) (B := 1099511627776 * 100) (fun n => sumU_bd (by omega) (hwb n) hdm2.2.2.2) 0 n
 have hCb := fun n => sumT_bd (f := fun n => sumU (conC cs bs d c n) d.r d.e) (B := 1000 * 100) (fun n => sumU_bd (by omega) (hcb n) hdm2.2.2.2) 0 n
 have hcross := fun bs' f t a u w S => cross_spec γ κ b3 bs' _ kk c hcr f t a u w S
 refine B6 ?_
 refine BJ ?_
 refine AN rfl ?_
 refine AL ?_
 refine AC ?_
 refine AA ?_
 refine BE ?_; rintro _ _ ⟨b, rfl, rfl⟩
 refine BB ?_; rintro _ _ ⟨rfl, rfl⟩
 refine AF ?_
 refine AC ?_
 refine AA ?_
 refine A9 ?_
 refine AD ?_
 refine AF ?_
 refine AC ?_
 refine AC ?_
 refine AA ?_
 refine AG ?_
 refine A0 ?_
 refine AB ?_
 refine AF ?_
 refine AQ ?_
 revert b; intro b9
 refine BN [3, 4, 5, 11, 12, 89, 90] (X := Nat × Int) (0, 0) (fun x => x.1 ≤ c.length ∧ x.2 = capW qs hs d c x.1) (fun x => [(91, int x.1)]) (fun x => [sng b9 (.cells #[int x.2] 3 (0, 0))]) (fun x => c.length - x.1) pickZ ⟨by dsimp only; omega, rfl⟩ covZ selZ ?_
 rintro ⟨n, S⟩ ⟨hn, hS⟩
 dsimp only at hn hS ⊢
 have hSb := hWb n
 rw [show sumT (fun n => sumU (waitC qs hs d c n) d.r d.e) 0 n = S from hS.symm] at hSb
 by_cases hnq : n < c.length
 ·have hnq2 : n < qs.length := by omega
  have hQx := List.getElem?_eq_getElem hnq2
  have hrm := fun t => certRoom_spec hT n t _ hQx (hquo n _ hQx) hok (by omega)
  refine AC ?_
  refine AA ?_
  refine BF ?_
  refine AF ?_
  refine AC ?_
  refine AO rfl ?_
  refine AL ?_
  refine AC ?_
  refine AQ ?_
  refine AC ?_
  refine AA ?_
  refine AB ?_
  refine AD ?_
  refine AF ?_
  refine AC ?_
  refine AA ?_
  refine AH ?_
  refine AG ?_
  refine AD ?_
  refine AF ?_
  refine AQ ?_
  refine BN [3, 4, 5, 11, 12, 13, 89, 90, 91] (X := Int × Int) (d.r, S) (fun x => d.r ≤ x.1 ∧ x.1 ≤ d.e ∧ x.2 = S + sumU (waitC qs hs d c n) d.r x.1) (fun x => [(14, int x.1)]) (fun x => [sng b9 (.cells #[int x.2] 3 (0, 0))]) (fun x => (d.e - x.1).toNat) pickZ ⟨by dsimp only; omega, by dsimp only; omega, by dsimp only; rw [sumU_self]; omega⟩ covZ selZ ?_
  rintro ⟨t, S2⟩ ⟨ht1, ht2, hS2⟩
  dsimp only at ht1 ht2 hS2 ⊢
  have hb2 := sumU_bd (a := d.r) (t := t) (by omega) (hwb n) (by omega)
  by_cases ht : t < d.e
  ·have hsx := sumU_succ (f := waitC qs hs d c n) ht1
   have hfe : waitC qs hs d c n t = if crossB c n t n (t + 1) then roomT qs hs d n t else 0 := rfl
   have hst := stored_bd (n := n) (t := t) hok
   have hqb := hquo n _ hQx
   have hrt := hrm t
   have hrT : roomT qs hs d n t = if (n : Int) = d.s ∨ (n : Int) = d.d then 1099511627776 else qs[n] - Step.stored hs n t := by
    unfold roomT
    rw [Int.toNat_natCast, List.getD_eq_getElem?_getD, hQx, Option.getD_some]
   by_cases hsd : (n : Int) = d.s ∨ (n : Int) = d.d
   ·rw [if_pos hsd] at hrT
    rw [hrT] at hfe
    have hcx := hcross b9 n n t (t + 1) 1099511627776 S2 hnq hnq ⟨by omega, by omega⟩
    rw [← hfe] at hcx
    have hsd2 : ¬ ((n : Int) ≠ d.s ∧ (n : Int) ≠ d.d) := by omega
    by_cases hs1 : (n : Int) = d.s
    ·refine AC ?_
     refine AC ?_
     refine AA ?_
     refine AB ?_
     refine AH ?_
     refine AG ?_
     refine BF ?_
     refine AF ?_
     refine AO rfl ?_
     refine AL ?_
     refine AC ?_
     refine AQ ?_
     refine AC ?_
     refine AA ?_
     refine AD ?_
     refine AF ?_
     refine AC ?_
     refine AC ?_
     refine AA ?_
     refine AB ?_
     refine AH ?_
     refine AG ?_
     refine A6 ?_
     refine AB ?_
     refine AE rfl rfl rfl ?_
     refine AE rfl rfl rfl ?_
     refine AE rfl rfl rfl ?_
     refine AE rfl rfl rfl ?_
     refine AI ?_
     refine AF ?_
     refine AN rfl ?_
     refine AL ?_
     refine AA ?_
     refine AB ?_
     refine AB ?_
     refine AB ?_
     refine AB ?_
     refine AB ?_
     refine B8 ?_
     refine AB ?_
     refine B5 hcx rfl rfl Takes.all rdZ rfl rfl ?_
     rintro _ _ ⟨rfl, rfl⟩
     refine AF ?_
     refine A7 ?_
     refine AA ?_
     refine AB ?_
     refine B8 ?_
     refine AD ?_
     refine AF ?_
     exact A4 (t + 1, S2 + waitC qs hs d c n t) ⟨by dsimp only; omega, by dsimp only; omega, by dsimp only; omega⟩ (by dsimp only; omega) covZ selZ
    ·have hs2 : (n : Int) = d.d := by omega
     refine AC ?_
     refine AC ?_
     refine AA ?_
     refine AB ?_
     refine AH ?_
     refine AG ?_
     refine BF ?_
     refine AF ?_
     refine AO rfl ?_
     refine AL ?_
     refine AC ?_
     refine AQ ?_
     refine AC ?_
     refine AA ?_
     refine AD ?_
     refine AF ?_
     refine AC ?_
     refine AC ?_
     refine AA ?_
     refine AB ?_
     refine AH ?_
     refine AG ?_
     refine CC ?_
     refine AB ?_
     refine AB ?_
     refine AH ?_
     refine AG ?_
     refine A6 ?_
     refine AK ?_
     refine AF ?_
     refine AN rfl ?_
     refine AL ?_
     refine AA ?_
     refine AB ?_
     refine AB ?_
     refine AB ?_
     refine AB ?_
     refine AB ?_
     refine B8 ?_
     refine AB ?_
     refine B5 hcx rfl rfl Takes.all rdZ rfl rfl ?_
     rintro _ _ ⟨rfl, rfl⟩
     refine AF ?_
     refine A7 ?_
     refine AA ?_
     refine AB ?_
     refine B8 ?_
     refine AD ?_
     refine AF ?_
     exact A4 (t + 1, S2 + waitC qs hs d c n t) ⟨by dsimp only; omega, by dsimp only; omega, by dsimp only; omega⟩ (by dsimp only; omega) covZ selZ
   ·rw [if_neg hsd] at hrT
    rw [hrT] at hfe
    have hcx := hcross b9 n n t (t + 1) (qs[n] - Step.stored hs n t) S2 hnq hnq ⟨by omega, by omega⟩
    rw [← hfe] at hcx
    have hs1 : ¬ (n : Int) = d.s := by omega
    have hs2 : ¬ (n : Int) = d.d := by omega
    refine AC ?_
    refine AC ?_
    refine AA ?_
    refine AB ?_
    refine AH ?_
    refine AG ?_
    refine BF ?_
    refine AF ?_
    refine AO rfl ?_
    refine AL ?_
    refine AC ?_
    refine AQ ?_
    refine AC ?_
    refine AA ?_
    refine AD ?_
    refine AF ?_
    refine AC ?_
    refine AC ?_
    refine AA ?_
    refine AB ?_
    refine AH ?_
    refine AG ?_
    refine CC ?_
    refine AB ?_
    refine AB ?_
    refine AH ?_
    refine AG ?_
    refine CC ?_
    refine AK ?_
    refine AF ?_
    refine AO rfl ?_
    refine AA ?_
    refine AM ?_
    refine AB ?_
    refine AB ?_
    refine AT hrt rfl rfl rdZ rfl rfl ?_
    rintro _ rfl
    refine AD ?_
    refine AF ?_
    refine AA ?_
    refine AB ?_
    refine AB ?_
    refine AB ?_
    refine AB ?_
    refine AB ?_
    refine B8 ?_
    refine AB ?_
    refine B5 hcx rfl rfl Takes.all rdZ rfl rfl ?_
    rintro _ _ ⟨rfl, rfl⟩
    refine AF ?_
    refine A7 ?_
    refine AA ?_
    refine AB ?_
    refine B8 ?_
    refine AD ?_
    refine AF ?_
    exact A4 (t + 1, S2 + waitC qs hs d c n t) ⟨by dsimp only; omega, by dsimp only; omega, by dsimp only; omega⟩ (by dsimp only; omega) covZ selZ
  ·have hte : t = d.e := by omega
   subst hte
   refine AC ?_
   refine AC ?_
   refine AA ?_
   refine AB ?_
   refine AH ?_
   refine AG ?_
   refine AZ ?_
   refine AF ?_
   refine AN rfl ?_
   refine A8 rfl ?_
   refine A7 ?_
   refine AA ?_
   refine BA ?_
   refine AB ?_
   refine AF ?_
   exact A4 (n + 1, S2) ⟨by dsimp only; omega, by dsimp only; rw [hS2, hS]; exact (sumT_succ0 _ n).symm⟩ (by dsimp only; omega) covZ selZ
 have hne : n = c.length := by omega
 subst hne
 rw [hlen] at hS hSb
 refine AC ?_
 refine AA ?_
 refine AZ ?_
 refine AF ?_
 refine AC ?_
 refine AN rfl ?_
 refine A8 rfl ?_
 refine AC ?_
 refine AC ?_
 refine AA ?_
 refine AH ?_
 refine AH ?_
 refine AG ?_
 refine A0 ?_
 refine AB ?_
 refine AF ?_
 refine AQ ?_
 refine BN [3, 4, 5, 11, 12, 127, 128] (X := Nat × Int) (0, S) (fun x => x.1 ≤ cs.length ∧ x.2 = S + capC cs bs d c x.1) (fun x => [(129, int x.1)]) (fun x => [sng b9 (.cells #[int x.2] 3 (0, 0))]) (fun x => cs.length - x.1) pickZ ⟨by dsimp only; omega, (Int.add_zero _).symm⟩ covZ selZ ?_
 rintro ⟨n, S1⟩ ⟨hn, hS1⟩
 dsimp only at hn hS1 ⊢
 have hCn := hCb n
 have hSb1 : -(1099511627776 * 100 * (qs.length : Int)) - 1000 * 100 * n ≤ S1 ∧ S1 ≤ 1099511627776 * 100 * (qs.length : Int) + 1000 * 100 * n := by
  have e : sumT (fun n => sumU (conC cs bs d c n) d.r d.e) 0 n = capC cs bs d c n := rfl
  rw [e] at hCn
  omega
 by_cases hnc : n < cs.length
 ·have hx := List.getElem?_eq_getElem hnc
  have hck := chkCt_all (hcs _ (List.getElem_mem hnc))
  have hft := (hcs0 _ (List.getElem_mem hnc)).2
  obtain ⟨b4, o4, rfl, hrd⟩ := ctRow hT.rc hx
  have hfe : ∀ t, conC cs bs d c n t = if cs[n].s ≤ t ∧ t < cs[n].e ∧ t + 1 + cs[n].g ≤ d.e ∧ bookedB bs n t = false ∧ crossB c cs[n].f t cs[n].t (t + 1 + cs[n].g) = true then cs[n].r else 0 := fun t => by
   unfold conC
   rw [Int.toNat_natCast, hx]
  have hbk := fun t => booked_spec hT n t (by omega)
  generalize cs[n] = x at hck hft hrd hfe
  obtain ⟨xf, hxf⟩ : ∃ k : Nat, x.f = k := ⟨x.f.toNat, by omega⟩
  obtain ⟨xt, hxt⟩ : ∃ k : Nat, x.t = k := ⟨x.t.toNat, by omega⟩
  have harr := fun t h1 h2 => arrival_spec x t h1 h2
  rw [hxf, hxt] at hrd hfe
  simp only [hxf, hxt] at harr
  have hearly : ∀ v, v < x.s → conC cs bs d c n v = 0 := fun v hv => by rw [hfe, if_neg (fun h => by omega)]
  have hlate : ∀ v, d.e < v + 1 + x.g → conC cs bs d c n v = 0 := fun v hv => by rw [hfe, if_neg (fun h => by omega)]
  have hover : ∀ v, x.e ≤ v → conC cs bs d c n v = 0 := fun v hv => by rw [hfe, if_neg (fun h => by omega)]
  refine AC ?_
  refine AA ?_
  refine BF ?_
  refine AF ?_
  refine AC ?_
  refine AO rfl ?_
  refine AL ?_
  refine AC ?_
  refine AQ ?_
  refine AC ?_
  refine AA ?_
  refine AB ?_
  refine BC ?_
  refine AM ?_
  refine AW ?_; rintro _ _ ⟨b, rfl, rfl⟩
  refine AD ?_
  refine AU ?_; rintro _ _ ⟨rfl, rfl⟩
  refine AF ?_
  refine AC ?_
  refine AA ?_
  refine AH ?_
  refine AG ?_
  refine AH ?_
  refine AG ?_
  refine CN ?_
  refine AD ?_
  refine AF ?_
  refine AQ ?_
  revert b; intro b5
  have hst0 : sumU (conC cs bs d c n) d.r (max x.s d.r) = 0 := by
   rw [sumU_ext (Int.le_refl d.r) (by omega) (fun v _ h2 => hearly v (by omega)), sumU_self]
  refine BN [3, 4, 5, 11, 12, 16, 17, 127, 128, 129] (X := Int × Int) (max x.s d.r, S1) (fun y => d.r ≤ y.1 ∧ x.s ≤ y.1 ∧ y.1 ≤ 1099511627776 ∧ y.2 = S1 + sumU (conC cs bs d c n) d.r y.1) (fun y => [(18, int y.1)]) (fun y => [sng b5 _, sng b9 (.cells #[int y.2] 3 (0, 0))]) (fun y => (1099511627776 - y.1).toNat) pickZ ⟨by dsimp only; omega, by dsimp only; omega, by dsimp only; omega, by dsimp only; rw [hst0]; omega⟩ covZ selZ ?_
  rintro ⟨t, S2⟩ ⟨ht1, ht3, ht2, hS2⟩
  dsimp only at ht1 ht2 ht3 hS2 ⊢
  have hbt := hbk t
  have hstop : (x.e ≤ t ∨ d.e < t + 1 + x.g) → S2 = S1 + sumU (conC cs bs d c n) d.r d.e := fun hh => by
   rw [hS2]
   congr 1
   by_cases hle : t ≤ d.e
   ·exact (sumU_ext ht1 hle (fun v h1 h2 => by
     rcases hh with hh | hh
     ·exact hover v (by omega)
     ·exact hlate v (by omega))).symm
   ·exact sumU_ext (by omega) (by omega) (fun v h1 h2 => hlate v (by omega))
  have hnext : (x.e ≤ t ∨ d.e < t + 1 + x.g) → S2 = S + capC cs bs d c (n + 1) := fun hh => by
   rw [hstop hh, hS1, Int.add_assoc]
   congr 1
   exact (sumT_succ0 _ n).symm
  by_cases c1 : t < x.e
  rotate_left
  ·refine AC ?_
   refine AC ?_
   refine BM (.q 0 (.q 1 (.q 2 (.q 3 (.q 4 (.q 5 (.q 6 (.q 7 (.q 8 (.q 9 (.q 10 (.q 11 .nil)))))))))))) [sng b5 _] rfl (by kernel_rfl) selZ ?_
   refine AX ?_
   refine AY ?_
   refine AR ?_
   refine EZ ?_
   refine AX ?_
   refine AS rfl rfl rfl rfl rfl ?_
   refine AS rfl rfl rfl rfl rfl ?_
   refine AS rfl rfl rfl rfl rfl ?_
   refine AS rfl rfl rfl rfl rfl ?_
   refine AS rfl rfl rfl rfl rfl ?_
   refine AS rfl rfl rfl rfl rfl ?_
   refine B6 ?_
   refine BJ ?_
   refine AN rfl ?_
   refine A8 rfl ?_
   refine A7 ?_
   refine AA ?_
   refine BA ?_
   refine AB ?_
   refine AF ?_
   exact A4 (n + 1, S2) ⟨by dsimp only; omega, hnext (.inl (by omega))⟩ (by dsimp only; omega) covZ selZ
  have har := harr t ⟨by omega, by omega⟩ ⟨by omega, by omega⟩
  refine AC ?_
  refine AC ?_
  refine BM (.q 0 (.q 1 (.q 2 (.q 3 (.q 4 (.q 5 (.q 6 (.q 8 (.q 9 (.l 7 .e (.q 10 (.q 11 .nil)))))))))))) [sng b5 _, sng b9 _] rfl (by kernel_rfl) selZ ?_
  refine AX ?_
  refine AY ?_
  refine AR ?_
  refine F8 ?_
  refine AX ?_
  refine CQ ?_
  refine AX ?_
  refine AY ?_
  refine AR ?_
  refine DK (CZ rfl har rfl rfl rdZ rfl rfl ?_)
  rintro _ rfl
  by_cases c2 : d.e < t + 1 + x.g
  ·refine F9 ?_
   refine B0 ?_
   refine BJ ?_
   refine AN rfl ?_
   refine A8 rfl ?_
   refine A7 ?_
   refine AA ?_
   refine BA ?_
   refine AB ?_
   refine AF ?_
   exact A4 (n + 1, S2) ⟨by dsimp only; omega, hnext (.inr c2)⟩ (by dsimp only; omega) covZ selZ
  have hb2 := sumU_bd (a := d.r) (t := t) (by omega) (hcb n) (by omega)
  have hsx := sumU_succ (f := conC cs bs d c n) ht1
  refine G5 ?_
  refine B0 ?_
  refine BJ ?_
  refine AO rfl ?_
  refine AL ?_
  refine AC ?_
  refine AQ ?_
  refine AC ?_
  refine AA ?_
  refine AM ?_
  refine AB ?_
  refine AB ?_
  refine AT hbt rfl rfl rdZ rfl rfl ?_
  rintro _ rfl
  cases hbb : bookedB bs n t with
  | true =>
   have h0 : conC cs bs d c n t = 0 := by rw [hfe, if_neg (fun h => by rw [hbb] at h; simp at h)]
   refine BG ?_
   refine AF ?_
   refine AN rfl ?_
   refine AL ?_
   refine A7 ?_
   refine AA ?_
   refine AB ?_
   refine B8 ?_
   refine AD ?_
   refine AF ?_
   exact A4 (t + 1, S2) ⟨by dsimp only; omega, by dsimp only; omega, by dsimp only; omega, by dsimp only; omega⟩ (by dsimp only; omega) covZ selZ
  | false =>
   have hcx := hcross b9 xf xt t (t + 1 + x.g) x.r S2 (by omega) (by omega) ⟨by omega, by omega⟩
   have hcv : (if crossB c xf t xt (t + 1 + x.g) then x.r else 0) = conC cs bs d c n t := by
    rw [hfe]
    cases hcr2 : crossB c xf t xt (t + 1 + x.g) with
    | true => rw [if_pos rfl, if_pos ⟨by omega, by omega, by omega, hbb, rfl⟩]
    | false => rw [if_neg (by simp), if_neg (fun h => by simp at h)]
   rw [hcv] at hcx
   refine BG ?_
   refine AF ?_
   refine AO rfl ?_
   refine BM (.q 0 (.q 1 (.q 2 (.q 3 (.q 4 (.q 5 (.q 6 (.q 7 (.q 9 (.q 10 (.l 8 .e (.l 11 .b .nil)))))))))))) [sng b5 _] rfl (by kernel_rfl) selZ ?_
   refine AX ?_
   refine AY ?_
   refine AR ?_
   refine AX ?_
   refine AY ?_
   refine AR ?_
   refine CQ ?_
   refine AX ?_
   refine AY ?_
   refine AR ?_
   refine DK (CZ rfl har rfl rfl rdZ rfl rfl ?_)
   rintro _ rfl
   refine DK (EO rfl hcx rfl rfl (Takes.skip Takes.all) rdZ rfl rfl (fun v H' hp w hw => by obtain ⟨_, rfl⟩ := hp; exact hw.sel selZ) ?_)
   rintro _ _ ⟨rfl, rfl⟩
   refine BJ ?_
   refine A7 ?_
   refine AA ?_
   refine AB ?_
   refine B8 ?_
   refine AD ?_
   refine AF ?_
   exact A4 (t + 1, S2 + conC cs bs d c n t) ⟨by dsimp only; omega, by dsimp only; omega, by dsimp only; omega, by dsimp only; omega⟩ (by dsimp only; omega) covZ selZ
 have hne : n = cs.length := by omega
 subst hne
 have hfin : capSum qs cs bs hs d c = S1 := by unfold capSum; rw [← hS, hS1]
 rw [hfin]
 refine AC ?_
 refine AA ?_
 refine AZ ?_
 refine AF ?_
 refine AC ?_
 refine AN rfl ?_
 refine A8 rfl ?_
 refine AC ?_
 refine AA ?_
 refine AG ?_
 refine AD ?_
 refine AD ?_
 refine AF ?_
 exact AJ (res2 rfl rfl rfl) rsubZ selZ ⟨rfl, rfl⟩
end Go.Proofs.YtknfhiolenobaaaGreat
/- The changes of stocks. -/
namespace Go.Proofs.YtknfhiolenobaaaGreat
open Go.Eng Go.Step
set_option maxRecDepth 100000
set_option maxHeartbeats 4000000

def chAll (cs : List Ct) (l : List Sh) : List (List Int) := l.flatMap (chsOf cs)
def encCh (c : List Int) : List Value := [.agg (c.map int).toArray]
theorem ch_get (cs : List Ct) : ∀ (l : List Sh) (k : Nat) (x : Sh), l[k]? = some x → (chAll cs l)[2 * k]? = some [(ctOf cs x).f, x.t, -x.n] ∧ (chAll cs l)[2 * k + 1]? = some [(ctOf cs x).t, arrOf cs x, x.n]
 | [], k, x, h => by simp at h
 | y :: l, 0, x, h => by
  simp at h; subst h
  exact ⟨rfl, rfl⟩
 | y :: l, k + 1, x, h => by
  have ih := ch_get cs l k x (by simpa using h)
  have e : chAll cs (y :: l) = chsOf cs y ++ chAll cs l := rfl
  rw [e, List.getElem?_append_right (by simp [chsOf]; omega), List.getElem?_append_right (by simp [chsOf]; omega)]
  simp only [chsOf, List.length_cons, List.length_nil]
  rw [show 2 * (k + 1) - (0 + 1 + 1) = 2 * k by omega, show 2 * (k + 1) + 1 - (0 + 1 + 1) = 2 * k + 1 by omega]
  exact ih
theorem chAll_len (cs : List Ct) : ∀ l : List Sh, (chAll cs l).length = 2 * l.length
 | [] => rfl
 | y :: l => by
  have ih := chAll_len cs l
  have e : chAll cs (y :: l) = chsOf cs y ++ chAll cs l := rfl
  rw [e, List.length_append, ih]
  simp [chsOf]; omega
theorem changes_spec (v : Value) (pq pc pb ph : Option Addr) (nq nc nb nh kq kc kb kh : Nat) (hv1 : v.oneCell' = true) :
  Eng.Spec Tryz.prog (fv 50) [.agg #[.slice pq nq kq, .slice pc nc kc, .slice pb nb kb, .slice ph nh kh], v] [] [] (fun r H' => ∃ bl bt, r = .func (.func 76) #[] #[.pointer (some ⟨bl, 0, none⟩), .pointer (some ⟨bt, 0, none⟩)] ∧
   H' = [sng bl (.cells #[v] 32 (0, 0)), sng bt (.cells #[.slice pq nq kq, .slice pc nc kc, .slice pb nb kb, .slice ph nh kh] 29 (0, 0))]) := by
 refine spec_in (cap := []) Tryz.func50 rfl rfl Tryz.ntmps50 rfl envZ (fun N β => ?_)
 refine AC ?_
 refine AA ?_
 refine BT (BV rfl) rfl rfl rfl ?_
 rintro _ _ ⟨bt, rfl, rfl⟩
 refine BT (DW rfl hv1) rfl rfl rfl ?_
 rintro _ _ ⟨bl, rfl, rfl⟩
 refine AD ?_
 refine AF ?_
 refine AC ?_
 refine AA ?_
 refine A9 ?_
 refine AD ?_
 refine AF ?_
 exact AJ (res1 rfl rfl) rsubZ selZ ⟨bl, bt, rfl, rfl⟩
set_option maxHeartbeats 32000000 in
theorem changes_iter {ρ τ σ υ : PH} (ω : PH) {pq pc pb ph : Option Addr} {kq kc kb kh : Nat} {qs : List Int} {cs : List Ct} {bs : List Bk} {hs : List Hd} (hT : TbAt ρ τ σ υ pq pc pb ph kq kc kb kh qs cs bs hs) (bl bt : Nat) (d : Dm) (v : Value) (l : List Sh) (hv : ShAt ω v l) (hS : ∀ x ∈ l, ship1 cs bs d x = 0) (hcs : ∀ c ∈ cs, chkCt c = 0) (hd : 0 ≤ d.r) (hll : l.length ≤ 1000000) :
  Iter Tryz.prog (.func (.func 76) #[] #[.pointer (some ⟨bl, 0, none⟩), .pointer (some ⟨bt, 0, none⟩)]) [sng bl (.cells #[v] 32 (0, 0)), sng bt (.cells #[.slice pq qs.length kq, .slice pc cs.length kc, .slice pb bs.length kb, .slice ph hs.length kh] 29 (0, 0)), τ, ω] ((chAll cs l).map encCh) := by
 intro y S Own Inv Stop Ry hy hyl σ0 hI0
 obtain ⟨yl, rfl⟩ := hyl
 obtain ⟨q, cc, rfl, hr⟩ := hv.val encX_len
 have c1 : rdc (sng bl (.cells #[.slice q l.length cc] 32 (0, 0))) bl 0 = some (.slice q l.length cc) := by rw [rdc_sng]; rfl
 have c2 : rdc (sng bt (.cells #[.slice pq qs.length kq, .slice pc cs.length kc, .slice pb bs.length kb, .slice ph hs.length kh] 29 (0, 0))) bt 1 = some (.slice pc cs.length kc) := by rw [rdc_sng]; rfl
 simp only [List.cons_append, List.nil_append]
 refine spec_in (cap := [.pointer (some ⟨bl, 0, none⟩), .pointer (some ⟨bt, 0, none⟩)]) Tryz.func76 rfl rfl Tryz.ntmps76 rfl envZ (fun N β => ?_)
 refine AC ?_
 refine AA ?_
 refine AG ?_
 refine A0 ?_
 refine AB ?_
 refine AF ?_
 refine AQ ?_
 refine BN [0, 1, 2, 7, 8] (X := Nat × S) (0, σ0) (fun x => x.1 ≤ l.length ∧ Inv (2 * x.1) x.2) (fun x => [(9, int x.1)]) (fun x => Own x.2) (fun x => l.length - x.1) pickZ ⟨by dsimp only; omega, hI0⟩ covZ Sel.refl ?_
 rintro ⟨k, σ'⟩ ⟨hk, hI⟩
 dsimp only at hk hI ⊢
 by_cases hlt : k < l.length
 ·have hx := List.getElem?_eq_getElem hlt
  obtain ⟨hg1, hg2⟩ := ch_get cs l k _ hx
  obtain ⟨nn, c, hnn, hcx, hct, hin, hlate, har⟩ := ship1_ok (hS _ (List.getElem_mem hlt))
  obtain ⟨b5, o5, rfl, hrx, x0, x1, x2⟩ := shRow hr hx
  have hck := chkCt_all (hcs c (List.mem_of_getElem? hcx))
  have hnl := (List.getElem?_eq_some_iff.1 hcx).1
  rw [hct] at hg1 hg2
  rw [har] at hg2
  rw [hnn] at hrx x0
  have hy1 := hy (2 * k) σ' (encCh [c.f, l[k].t, -l[k].n]) (by rw [List.getElem?_map, hg1]; rfl) hI
  have hy2 := fun τ' (h : Inv (2 * k + 1) τ') => hy (2 * k + 1) τ' (encCh [c.t, l[k].t + 1 + c.g, l[k].n]) (by rw [List.getElem?_map, hg2]; rfl) h
  have harr := arrival_spec c l[k].t ⟨by omega, by omega⟩ ⟨by omega, by omega⟩
  generalize l[k] = x at hrx x0 x1 x2 hin hlate hy1 hy2 harr
  obtain ⟨b4, o4, rfl, hrd⟩ := ctRow hT.rc hcx
  refine AC ?_
  refine AA ?_
  refine BF ?_
  refine AF ?_
  refine AC ?_
  refine AO rfl ?_
  refine AL ?_
  refine AC ?_
  refine AQ ?_
  refine AC ?_
  refine AA ?_
  refine BC ?_
  refine AM ?_
  refine AW ?_; rintro _ _ ⟨b, rfl, rfl⟩
  refine AU ?_; rintro _ _ ⟨rfl, rfl⟩
  refine AF ?_
  refine AC ?_
  refine AA ?_
  refine AH ?_
  refine AH ?_
  refine AG ?_
  refine AH ?_
  refine AG ?_
  refine BC ?_
  refine AM ?_
  refine AW ?_; rintro _ _ ⟨b, rfl, rfl⟩
  refine AU ?_; rintro _ _ ⟨rfl, rfl⟩
  refine AF ?_
  refine AC ?_
  refine BM (.q 0 (.q 1 (.q 2 (.q 3 (.q 4 (.q 5 (.q 6 (.q 7 (.q 8 (.l 9 .b (.q 10 (.q 11 (.q 12 (.q 13 (.q 14 (.q 15 (.q 16 (.q 17 (.q 19 (.q 20 (.l 18 .e (.q 21 (.l 22 .b (.q 23 (.q 24 .nil))))))))))))))))))))))))) [] rfl (by kernel_rfl) Sel.nil ?_
  refine AX ?_
  refine AY ?_
  refine AR ?_
  refine AY ?_
  refine AR ?_
  refine AY ?_
  refine AR ?_
  refine zd_neg ?_
  refine DQ ?_
  refine DK (EO rfl hy1 rfl rfl (Takes.skip (Takes.skip Takes.all)) (fun τ hτ => .inl (by simp [hτ])) rfl rfl (fun _ _ _ w hw => hw.sel Sel.nil) ?_)
  rintro _ H' ⟨σ1, rfl, ⟨rfl, hI1⟩ | ⟨rfl, hSt⟩⟩
  ·refine G7 (H' := _ :: _ :: Own σ1) (List.perm_append_comm (l₂ := [_, _])) ?_
   refine D8 ?_
   refine AX ?_
   refine AX ?_
   refine AY ?_
   refine AR ?_
   refine CQ ?_
   refine AY ?_
   refine AR ?_
   refine AY ?_
   refine AR ?_
   refine DK (CZ rfl harr rfl rfl rdZ rfl rfl ?_)
   rintro _ rfl
   refine DQ ?_
   refine DK (EO rfl (hy2 σ1 hI1) rfl rfl (Takes.skip (Takes.skip Takes.all)) (fun τ hτ => .inl (by simp [hτ])) rfl rfl (fun _ _ _ w hw => hw.sel Sel.nil) ?_)
   rintro _ H' ⟨σ2, rfl, ⟨rfl, hI2⟩ | ⟨rfl, hSt⟩⟩
   ·refine D8 ?_
    refine B6 ?_
    refine BJ ?_
    refine AN rfl ?_
    refine AL ?_
    refine A7 ?_
    refine AA ?_
    refine BA ?_
    refine AB ?_
    refine AF ?_
    refine DI (H' := _ :: _ :: Own σ2) (List.perm_append_comm (l₂ := [_, _])) ?_
    exact A4 (k + 1, σ2) ⟨by dsimp only; omega, hI2⟩ (by dsimp only; omega) covZ (Sel.skip (Sel.skip Sel.refl))
   ·refine D8 ?_
    refine B6 ?_
    refine BJ ?_
    refine AO rfl ?_
    exact AJ (res0 rfl) (fun _ h => h) Sel.left ⟨σ2, rfl, .inr hSt⟩
  ·refine E1 (.q 10 (.q 11 (.q 12 (.q 13 (.q 14 (.q 15 (.q 16 (.q 17 (.q 19 (.q 20 (.q 18 (.q 21 (.q 22 (.q 23 (.q 24 .nil))))))))))))))) (by kernel_rfl) ?_
   refine D8 ?_
   refine AX ?_
   refine AS rfl rfl rfl rfl rfl ?_
   refine AS rfl rfl rfl rfl rfl ?_
   refine AS rfl rfl rfl rfl rfl ?_
   refine AS rfl rfl rfl rfl rfl ?_
   refine AS rfl rfl rfl rfl rfl ?_
   refine AS rfl rfl rfl rfl rfl ?_
   refine AS rfl rfl rfl rfl rfl ?_
   refine AS rfl rfl rfl rfl rfl ?_
   refine AS rfl rfl rfl rfl rfl ?_
   refine AS rfl rfl rfl rfl rfl ?_
   refine AS rfl rfl rfl rfl rfl ?_
   refine AS rfl rfl rfl rfl rfl ?_
   refine B0 ?_
   refine BJ ?_
   refine AO rfl ?_
   exact AJ (res0 rfl) (fun _ h => h) Sel.left ⟨σ1, rfl, .inr hSt⟩
 have hke : k = l.length := by omega
 subst hke
 refine AC ?_
 refine AA ?_
 refine AZ ?_
 refine AF ?_
 refine AC ?_
 refine AN rfl ?_
 refine A8 rfl ?_
 refine CR (res0 rfl) (fun _ h => h) Sel.refl ⟨σ', rfl, .inl ?_⟩
 rw [List.length_map, chAll_len]
 exact hI
end Go.Proofs.YtknfhiolenobaaaGreat
