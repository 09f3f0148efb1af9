/- Texts of this proof, one after the other; no conditions. -/
import Derived.Test.YtknfhiolenobaaaGreatWB4
import Derived.Test.YtknfhiolenobaaaGreatWB3
import Derived.Test.YtknfhiolenobaaaGreatWB2
import Derived.Test.YtknfhiolenobaaaGreatWB1
set_option linter.all false
/- The free spans of a node are exactly the times with room. No program in sight. No conditions. -/
namespace Go.Step
structure InvF (Q s : Int) (G : Int → Int) (T v : Int) (st : Int × List (Int × Int)) : Prop where
  ap : Apart 0 T st.2
  fr : st.1 = -1 ∨ (0 ≤ st.1 ∧ st.1 ≤ T ∧ ∀ u ∈ st.2, u.2 < st.1)
  cov : ∀ t, 0 ≤ t → t < T → ((Cov st.2 t ∨ (0 ≤ st.1 ∧ st.1 ≤ t)) ↔ G t + s ≤ Q)
  now : 0 ≤ st.1 ↔ v + s ≤ Q
theorem cov_snoc (l : List (Int × Int)) (x : Int × Int) (t : Int) : Cov (l ++ [x]) t ↔ Cov l t ∨ (x.1 ≤ t ∧ t < x.2) := by
  unfold Cov
  constructor
  · rintro ⟨s, hs, h⟩
    rcases List.mem_append.1 hs with hs | hs
    · exact .inl ⟨s, hs, h⟩
    · simp only [List.mem_singleton] at hs; subst hs; exact .inr h
  · rintro (⟨s, hs, h⟩ | h)
    · exact ⟨s, by simp [hs], h⟩
    · exact ⟨x, by simp, h⟩
theorem apart_snoc {T T' : Int} {l : List (Int × Int)} {x : Int × Int} (h : Apart 0 T l) (hT : T ≤ T') (hx : 0 ≤ x.1 ∧ x.1 < x.2 ∧ x.2 ≤ T') (hs : ∀ u ∈ l, u.2 < x.1) : Apart 0 T' (l ++ [x]) := by
  refine ⟨fun s hm => ?_, List.pairwise_append.2 ⟨h.sep, by simp, fun a ha b hb => ?_⟩⟩
  · rcases List.mem_append.1 hm with hm | hm
    · have := h.ok s hm; omega
    · simp only [List.mem_singleton] at hm; subst hm; exact hx
  · simp only [List.mem_singleton] at hb; subst hb; exact hs a ha
theorem apart_mono {T T' : Int} {l : List (Int × Int)} (h : Apart 0 T l) (hT : T ≤ T') : Apart 0 T' l := ⟨fun s hm => by have := h.ok s hm; omega, h.sep⟩
theorem InvF.step {Q s : Int} {G : Int → Int} {T v : Int} {st : Int × List (Int × Int)} (h : InvF Q s G T v st) {T' v' : Int} (h0 : 0 ≤ T) (hT : T < T' ∨ (T = T' ∧ st.2 = [])) (hG : ∀ t, T ≤ t → t < T' → G t = v) : InvF Q s G T' v' (frA Q s st T' v') := by
  have hle : T ≤ T' := by omega
  obtain ⟨fr, out⟩ := st
  obtain ⟨hap, hfr, hcov, hnow⟩ := h
  dsimp only at hap hfr hcov hnow hT
  unfold frA
  by_cases hc : Q - v' < s
  · rw [if_pos hc]
    dsimp only
    by_cases ho : 0 ≤ fr ∧ fr < T'
    · rw [if_pos ho]
      have hsep : ∀ u ∈ out, u.2 < fr := by rcases hfr with h | h; omega; exact h.2.2
      refine ⟨apart_snoc hap hle ⟨ho.1, ho.2, Int.le_refl _⟩ hsep, .inl rfl, fun t ht ht2 => ?_, by constructor <;> intro h <;> omega⟩
      dsimp only
      rw [cov_snoc]
      dsimp only
      by_cases c : t < T
      · have := hcov t ht c
        rw [← this]
        constructor
        · rintro ((h | h) | h)
          · exact .inl h
          · exact .inr ⟨ho.1, h.1⟩
          · omega
        · rintro (h | h)
          · exact .inl (.inl h)
          · exact .inl (.inr ⟨h.2, ht2⟩)
      · rw [hG t (by omega) ht2]
        have := hnow.1 ho.1
        constructor
        · intro _; exact this
        · intro _
          refine .inl (.inr ⟨?_, ht2⟩)
          rcases hfr with h | h <;> omega
    · rw [if_neg ho]
      refine ⟨apart_mono hap hle, .inl rfl, fun t ht ht2 => ?_, by constructor <;> intro h <;> dsimp only at * <;> omega⟩
      dsimp only
      by_cases c : t < T
      · rw [← hcov t ht c]
        constructor
        · rintro (h | h)
          · exact .inl h
          · omega
        · rintro (h | h)
          · exact .inl h
          · omega
      · rw [hG t (by omega) ht2]
        constructor
        · rintro (⟨u, hu, h⟩ | h)
          · have := hap.ok u hu; omega
          · omega
        · intro h
          have := hnow.2 h
          exact absurd ⟨this, by rcases hfr with k | k <;> omega⟩ ho
  · rw [if_neg hc]
    dsimp only
    by_cases ho : fr < 0
    · rw [if_pos ho]
      refine ⟨apart_mono hap hle, .inr ⟨by dsimp only; omega, Int.le_refl _, fun u hu => ?_⟩, fun t ht ht2 => ?_, by constructor <;> intro h <;> dsimp only at * <;> omega⟩
      · dsimp only at hu ⊢
        have := hap.ok u hu
        rcases hT with h | h
        · omega
        · rw [h.2] at hu; simp at hu
      · dsimp only
        by_cases c : t < T
        · rw [← hcov t ht c]
          constructor
          · rintro (h | h)
            · exact .inl h
            · omega
          · rintro (h | h)
            · exact .inl h
            · omega
        · rw [hG t (by omega) ht2]
          constructor
          · rintro (⟨u, hu, h⟩ | h)
            · have := hap.ok u hu; omega
            · omega
          · intro h
            have := hnow.2 h; omega
    · rw [if_neg ho]
      have hf : 0 ≤ fr ∧ fr ≤ T ∧ ∀ u ∈ out, u.2 < fr := by
        rcases hfr with h | h
        · omega
        · exact h
      refine ⟨apart_mono hap hle, .inr ⟨hf.1, by dsimp only; omega, hf.2.2⟩, fun t ht ht2 => ?_, by constructor <;> intro h <;> dsimp only at * <;> omega⟩
      dsimp only
      by_cases c : t < T
      · exact hcov t ht c
      · rw [hG t (by omega) ht2]
        have := hnow.1 hf.1
        constructor
        · intro _; exact this
        · intro _; exact .inr ⟨hf.1, by omega⟩
end Go.Step
/- Laws on holds: some released, one more, in whatever order. No program in sight. No conditions. -/
namespace Go.Step
end Go.Step
/- Bookings of contacts; tables. No program in sight. No conditions. -/
namespace Go.Step
structure Bk where
  c : Int
  a : Int
  b : Int
  k : Int
deriving DecidableEq
def okBk (cs : List Ct) (x : Bk) : Prop := (0 ≤ x.c ∧ x.c < cs.length ∧ 0 ≤ x.k ∧ x.k ≤ 1152921504606846976) ∧ ∃ c, cs[x.c.toNat]? = some c ∧ c.s ≤ x.a ∧ x.a < x.b ∧ x.b ≤ c.e
def okBkB (cs : List Ct) (x : Bk) : Bool := decide (0 ≤ x.c ∧ x.c < cs.length ∧ 0 ≤ x.k ∧ x.k ≤ 1152921504606846976) && (match cs[x.c.toNat]? with
  | some c => decide (c.s ≤ x.a ∧ x.a < x.b ∧ x.b ≤ c.e)
  | none => false)
theorem okBkB_iff (cs : List Ct) (x : Bk) : okBkB cs x = true ↔ okBk cs x := by
  unfold okBkB okBk
  rw [Bool.and_eq_true, decide_eq_true_iff]
  cases h : cs[x.c.toNat]? with
  | none => simp
  | some c => simp
def cmpBk (x y : Bk) : Int := orI [cmpI x.c y.c, cmpI x.a y.a]
theorem cmpBk_lt (x y : Bk) : cmpBk x y < 0 ↔ x.c < y.c ∨ (x.c = y.c ∧ x.a < y.a) := by
  unfold cmpBk
  rcases orI_cmp x.c y.c [cmpI x.a y.a] with ⟨h1, e⟩ | ⟨h1, e⟩ | ⟨h1, e⟩
  · rw [e]; omega
  · rw [e]
    rcases orI_cmp x.a y.a [] with ⟨h2, e⟩ | ⟨h2, e⟩ | ⟨h2, e⟩
    · rw [e]; omega
    · rw [e]; simp only [orI]; omega
    · rw [e]; omega
  · rw [e]; omega
def bk2E (p x : Bk) : Int := if ¬ cmpBk p x < 0 then 9 else if p.c = x.c ∧ x.a < p.b then 14 else 0
def bkE (cs : List Ct) (l : List Bk) (i : Nat) : Int := match l[i]? with
  | some x => if okBkB cs x = false then 2 else if i = 0 then 0 else bk2E (l.getD (i - 1) x) x
  | none => 0
theorem bkE_at {cs : List Ct} {l : List Bk} {i : Nat} {x : Bk} (e : l[i]? = some x) : bkE cs l i = if okBkB cs x = false then 2 else if i = 0 then 0 else bk2E (l.getD (i - 1) x) x := by unfold bkE; rw [e]
def chkB (qs : List Int) (cs : List Ct) (l : List Bk) : Int :=
  if chkPl qs cs ≠ 0 then 1 else if 512 < l.length then 4 else firstE (bkE cs l) l.length
def chkT (qs : List Int) (cs : List Ct) (bs : List Bk) (hs : List Hd) : Int :=
  if chkPl qs cs ≠ 0 then chkPl qs cs else if chkB qs cs bs ≠ 0 then chkB qs cs bs else chkH qs cs hs
def busyL (l : List Bk) (c : Int) : List (Int × Int) := (l.filter (fun x => decide (x.c = c))).map (fun x => (x.a, x.b))
theorem busyL_next (c : Int) {l : List Bk} {k : Nat} {x : Bk} (h : l[k]? = some x) : busyL (l.take (k + 1)) c = busyL (l.take k) c ++ (if x.c = c then [(x.a, x.b)] else []) := by
  obtain ⟨hk, rfl⟩ := List.getElem?_eq_some_iff.1 h
  unfold busyL
  rw [List.take_succ_eq_append_getElem hk, List.filter_append, List.map_append]
  congr 1
  by_cases e : l[k].c = c
  · simp [e]
  · simp [e]
theorem busyL_len (l : List Bk) (c : Int) : (busyL l c).length ≤ l.length := by
  unfold busyL
  rw [List.length_map]
  exact List.length_filter_le _ _
def bookedB (l : List Bk) (c t : Int) : Bool := (busyL l c).any (fun x => decide (x.1 ≤ t) && decide (t < x.2))
theorem bkE_ok {cs : List Ct} {l : List Bk} (h : firstE (bkE cs l) l.length = 0) : ∀ x ∈ l, okBk cs x := fun x hx => by
  obtain ⟨i, hi, rfl⟩ := List.getElem_of_mem hx
  have h2 := firstE_zero h i hi
  rw [bkE_at (List.getElem?_eq_getElem hi)] at h2
  cases hc : okBkB cs l[i] with
  | true => exact (okBkB_iff _ _).1 hc
  | false => rw [if_pos hc] at h2; omega
theorem chkT_ok {qs : List Int} {cs : List Ct} {bs : List Bk} {hs : List Hd} (h : chkT qs cs bs hs = 0) : chkPl qs cs = 0 ∧ chkB qs cs bs = 0 ∧ chkH qs cs hs = 0 := by
  unfold chkT at h
  by_cases h1 : chkPl qs cs = 0
  · rw [if_neg (by simpa using h1)] at h
    by_cases h2 : chkB qs cs bs = 0
    · rw [if_neg (by simpa using h2)] at h
      exact ⟨h1, h2, h⟩
    · rw [if_pos h2] at h; exact absurd h h2
  · rw [if_pos h1] at h; exact absurd h h1
theorem chkB_ok {qs : List Int} {cs : List Ct} {bs : List Bk} (h : chkB qs cs bs = 0) : bs.length ≤ 512 ∧ firstE (bkE cs bs) bs.length = 0 := by
  unfold chkB at h
  by_cases h1 : chkPl qs cs = 0
  · rw [if_neg (by simpa using h1)] at h
    by_cases h2 : 512 < bs.length
    · rw [if_pos h2] at h; omega
    · rw [if_neg h2] at h; exact ⟨by omega, h⟩
  · rw [if_pos h1] at h; omega
end Go.Step
/- Bookings: checked. -/
namespace Go.Proofs.YtknfhiolenobaaaGreat
open Go.Eng Go.Step
set_option maxRecDepth 100000
set_option maxHeartbeats 4000000

set_option maxHeartbeats 16000000 in
theorem bkValid_spec (τ : PH) (pq pc : Option Addr) (nq kq kc : Nat) (cs : List Ct) (x : Bk) (hc : CtAt τ (.slice pc cs.length kc) cs) :
  Ans Tryz.prog (fv 89) [.agg #[.slice pq nq kq, .slice pc cs.length kc], .agg #[int x.c, int x.a, int x.b, int x.k]] [τ] (fun r => r = .bool (okBkB cs x)) := by
 obtain ⟨_, _, e, hrc⟩ := hc.val encC_len
 simp only [Value.slice.injEq] at e
 obtain ⟨rfl, _, rfl⟩ := e
 refine spec_in (cap := []) Tryz.func89 rfl rfl Tryz.ntmps89 rfl envZ (fun N β => ?_)
 refine AC ?_
 refine AA ?_
 refine BS (BV rfl) rfl rfl rfl ?_
 rintro _ _ ⟨b2, rfl, rfl⟩
 refine AT (ρ := sng b2 _) takeZ ?_
 have cp : RdN (sng b2 (.cells #[.slice pq nq kq, .slice pc cs.length kc] 25 (0, 0))) b2 0 [.slice pq nq kq, .slice pc cs.length kc] := rdN_sng (vs := [.slice pq nq kq, .slice pc cs.length kc])
 have cp1 : rdc (sng b2 (.cells #[.slice pq nq kq, .slice pc cs.length kc] 25 (0, 0))) b2 1 = some (.slice pc cs.length kc) := by rw [rdc_sng]; rfl
 refine BS (BV rfl) rfl rfl rfl ?_
 rintro _ _ ⟨b3, rfl, rfl⟩
 refine AT (ρ := sng b3 _) takeZ ?_
 have cx : RdN (sng b3 (.cells #[int x.c, int x.a, int x.b, int x.k] 171 (0, 0))) b3 0 [int x.c, int x.a, int x.b, int x.k] := rdN_sng (vs := [int x.c, int x.a, int x.b, int x.k])
 have cx0 : rdc (sng b3 (.cells #[int x.c, int x.a, int x.b, int x.k] 171 (0, 0))) b3 0 = some (int x.c) := by rw [rdc_sng]; rfl
 have cx1 : rdc (sng b3 (.cells #[int x.c, int x.a, int x.b, int x.k] 171 (0, 0))) b3 1 = some (int x.a) := by rw [rdc_sng]; rfl
 have cx2 : rdc (sng b3 (.cells #[int x.c, int x.a, int x.b, int x.k] 171 (0, 0))) b3 2 = some (int x.b) := by rw [rdc_sng]; rfl
 have cx3 : rdc (sng b3 (.cells #[int x.c, int x.a, int x.b, int x.k] 171 (0, 0))) b3 3 = some (int x.k) := by rw [rdc_sng]; rfl
 by_cases hin : 0 ≤ x.c ∧ x.c < cs.length ∧ 0 ≤ x.k ∧ x.k ≤ 1152921504606846976
 ·obtain ⟨nn, hnn⟩ : ∃ nn : Nat, x.c = nn := ⟨x.c.toNat, by omega⟩
  have hlt : nn < cs.length := by omega
  have hx := List.getElem?_eq_getElem hlt
  obtain ⟨b1, o1, rfl, hrd⟩ := ctRow hrc hx
  have hok : okBkB cs x = decide (cs[nn].s ≤ x.a ∧ x.a < x.b ∧ x.b ≤ cs[nn].e) := by
   unfold okBkB
   rw [decide_eq_true hin, Bool.true_and, hnn, Int.toNat_natCast, hx]
  rw [hok]
  have cn : rdc (sng b3 (.cells #[int x.c, int x.a, int x.b, int x.k] 171 (0, 0))) b3 0 = some (int nn) := by rw [rdc_sng, ← hnn]; rfl
  clear cx0 hok
  generalize cs[nn] = c at hrd
  refine AD ?_
  refine AE ?_
  refine AC ?_
  refine AC ?_
  refine AA ?_
  refine AH ?_
  refine AG ?_
  refine A0 ?_
  refine AB ?_
  refine AH ?_
  refine AG ?_
  refine AH ?_
  refine AG ?_
  refine A3 ?_
  refine BJ ?_
  refine AJ ?_
  refine AB ?_
  refine AH ?_
  refine AG ?_
  refine A0 ?_
  refine AJ ?_
  refine AB ?_
  refine AH ?_
  refine AG ?_
  refine BR ?_
  refine AJ ?_
  refine AE ?_
  refine AN rfl ?_
  refine AL ?_
  refine AC ?_
  refine AA ?_
  refine AH ?_
  refine AG ?_
  refine AH ?_
  refine AG ?_
  refine BF ?_
  refine AS ?_
  refine AX ?_; rintro _ _ ⟨b, rfl, rfl⟩
  refine AW ?_; rintro _ _ ⟨rfl, rfl⟩
  refine AE ?_
  refine AC ?_
  refine AA ?_
  refine AH ?_
  refine AG ?_
  refine AH ?_
  refine AG ?_
  by_cases h1 : c.s ≤ x.a
  ·by_cases h2 : x.a < x.b
   ·by_cases h3 : x.b ≤ c.e
    ·rw [decide_eq_true ⟨h1, h2, h3⟩]
     refine CE ?_
     refine AB ?_
     refine AH ?_
     refine AG ?_
     refine AH ?_
     refine AG ?_
     refine BH ?_
     refine AK ?_
     refine AB ?_
     refine AH ?_
     refine AG ?_
     refine AH ?_
     refine AG ?_
     refine CZ ?_
     refine AK ?_
     refine AD ?_
     refine AE ?_
     exact AI (res1 rfl rfl) rsubZ selZ ⟨rfl, rfl⟩
    ·rw [decide_eq_false (fun h => h3 h.2.2)]
     refine CE ?_
     refine AB ?_
     refine AH ?_
     refine AG ?_
     refine AH ?_
     refine AG ?_
     refine BH ?_
     refine AK ?_
     refine AB ?_
     refine AH ?_
     refine AG ?_
     refine AH ?_
     refine AG ?_
     refine CO ?_
     refine AK ?_
     refine AD ?_
     refine AE ?_
     exact AI (res1 rfl rfl) rsubZ selZ ⟨rfl, rfl⟩
   ·rw [decide_eq_false (fun h => h2 h.2.1)]
    refine CE ?_
    refine AB ?_
    refine AH ?_
    refine AG ?_
    refine AH ?_
    refine AG ?_
    refine A0 ?_
    refine AK ?_
    refine AB ?_
    refine AF rfl rfl rfl ?_
    refine AF rfl rfl rfl ?_
    refine AF rfl rfl rfl ?_
    refine AF rfl rfl rfl ?_
    refine AF rfl rfl rfl ?_
    refine AJ ?_
    refine AD ?_
    refine AE ?_
    exact AI (res1 rfl rfl) rsubZ selZ ⟨rfl, rfl⟩
  ·rw [decide_eq_false (fun h => h1 h.1)]
   refine BJ ?_
   refine AB ?_
   refine AF rfl rfl rfl ?_
   refine AF rfl rfl rfl ?_
   refine AF rfl rfl rfl ?_
   refine AF rfl rfl rfl ?_
   refine AF rfl rfl rfl ?_
   refine AJ ?_
   refine AB ?_
   refine AF rfl rfl rfl ?_
   refine AF rfl rfl rfl ?_
   refine AF rfl rfl rfl ?_
   refine AF rfl rfl rfl ?_
   refine AF rfl rfl rfl ?_
   refine AJ ?_
   refine AD ?_
   refine AE ?_
   exact AI (res1 rfl rfl) rsubZ selZ ⟨rfl, rfl⟩
 ·have hok : okBkB cs x = false := by
   unfold okBkB
   rw [decide_eq_false hin, Bool.false_and]
  rw [hok]
  by_cases h1 : x.c < 0
  ·refine AD ?_
   refine AE ?_
   refine AC ?_
   refine AC ?_
   refine AA ?_
   refine AH ?_
   refine AG ?_
   refine BH ?_
   refine AB ?_
   refine AF rfl rfl rfl ?_
   refine AF rfl rfl rfl ?_
   refine AF rfl rfl rfl ?_
   refine AF rfl rfl rfl ?_
   refine AF rfl rfl rfl ?_
   refine AF rfl rfl rfl ?_
   refine AK ?_
   refine AB ?_
   refine AF rfl rfl rfl ?_
   refine AF rfl rfl rfl ?_
   refine AF rfl rfl rfl ?_
   refine AK ?_
   refine AB ?_
   refine AF rfl rfl rfl ?_
   refine AF rfl rfl rfl ?_
   refine AF rfl rfl rfl ?_
   refine AK ?_
   refine AE ?_
   refine AM rfl ?_
   refine AC ?_
   refine AA ?_
   refine AD ?_
   refine AE ?_
   exact AI (res1 rfl rfl) rsubZ selZ ⟨rfl, rfl⟩
  by_cases h2 : (cs.length : Int) ≤ x.c
  ·refine AD ?_
   refine AE ?_
   refine AC ?_
   refine AC ?_
   refine AA ?_
   refine AH ?_
   refine AG ?_
   refine A0 ?_
   refine AB ?_
   refine AH ?_
   refine AG ?_
   refine AH ?_
   refine AG ?_
   refine A3 ?_
   refine CE ?_
   refine AJ ?_
   refine AB ?_
   refine AF rfl rfl rfl ?_
   refine AF rfl rfl rfl ?_
   refine AF rfl rfl rfl ?_
   refine AK ?_
   refine AB ?_
   refine AF rfl rfl rfl ?_
   refine AF rfl rfl rfl ?_
   refine AF rfl rfl rfl ?_
   refine AK ?_
   refine AE ?_
   refine AM rfl ?_
   refine AC ?_
   refine AA ?_
   refine AD ?_
   refine AE ?_
   exact AI (res1 rfl rfl) rsubZ selZ ⟨rfl, rfl⟩
  by_cases h3 : x.k < 0
  ·refine AD ?_
   refine AE ?_
   refine AC ?_
   refine AC ?_
   refine AA ?_
   refine AH ?_
   refine AG ?_
   refine A0 ?_
   refine AB ?_
   refine AH ?_
   refine AG ?_
   refine AH ?_
   refine AG ?_
   refine A3 ?_
   refine BJ ?_
   refine AJ ?_
   refine AB ?_
   refine AH ?_
   refine AG ?_
   refine BH ?_
   refine AJ ?_
   refine AB ?_
   refine AF rfl rfl rfl ?_
   refine AF rfl rfl rfl ?_
   refine AF rfl rfl rfl ?_
   refine AK ?_
   refine AE ?_
   refine AM rfl ?_
   refine AC ?_
   refine AA ?_
   refine AD ?_
   refine AE ?_
   exact AI (res1 rfl rfl) rsubZ selZ ⟨rfl, rfl⟩
  by_cases h4 : 1152921504606846976 < x.k
  ·refine AD ?_
   refine AE ?_
   refine AC ?_
   refine AC ?_
   refine AA ?_
   refine AH ?_
   refine AG ?_
   refine A0 ?_
   refine AB ?_
   refine AH ?_
   refine AG ?_
   refine AH ?_
   refine AG ?_
   refine A3 ?_
   refine BJ ?_
   refine AJ ?_
   refine AB ?_
   refine AH ?_
   refine AG ?_
   refine A0 ?_
   refine AJ ?_
   refine AB ?_
   refine AH ?_
   refine AG ?_
   refine CI ?_
   refine AJ ?_
   refine AE ?_
   refine AM rfl ?_
   refine AC ?_
   refine AA ?_
   refine AD ?_
   refine AE ?_
   exact AI (res1 rfl rfl) rsubZ selZ ⟨rfl, rfl⟩
  ·exfalso; omega
def encB (x : Bk) : List Value := [int x.c, int x.a, int x.b, int x.k]
theorem encB_len (x : Bk) : (encB x).length = 4 := rfl
abbrev BkAt (ρ : PH) (v : Value) (l : List Bk) : Prop := SlE encB 4 ρ v l
theorem bkRow {ρ : PH} {p : Option Addr} {l : List Bk} (h : RowsE encB 4 ρ p l) {i : Nat} {x : Bk} (hx : l[i]? = some x) :
  ∃ b o, p = some ⟨b, o, none⟩ ∧ RdN ρ b (o + i * 4) [int x.c, int x.a, int x.b, int x.k] ∧ rdc ρ b (o + i * 4) = some (int x.c) ∧ rdc ρ b (o + i * 4 + 1) = some (int x.a) ∧ rdc ρ b (o + i * 4 + 2) = some (int x.b) ∧ rdc ρ b (o + i * 4 + 3) = some (int x.k) := by
 obtain ⟨b, o, e, hr⟩ := h i x hx
 exact ⟨b, o, e, hr, hr.get0, hr.get (j := 1) rfl, hr.get (j := 2) rfl, hr.get (j := 3) rfl⟩
set_option maxHeartbeats 16000000 in
theorem bkCompare_spec (x y : Bk) : Ans Tryz.prog (fv 90) [.agg #[int x.c, int x.a, int x.b, int x.k], .agg #[int y.c, int y.a, int y.b, int y.k]] [] (fun r => r = int (cmpBk x y)) := by
 refine spec_in (cap := []) Tryz.func90 rfl rfl Tryz.ntmps90 rfl envZ (fun N β => ?_)
 refine AC ?_
 refine AA ?_
 refine BX ?_; rintro _ _ ⟨b, rfl, rfl⟩
 refine BX ?_; rintro _ _ ⟨b, rfl, rfl⟩
 refine AD ?_
 refine AE ?_
 refine AC ?_
 refine BB (.q 0 (.q 1 (.q 2 (.q 3 (.q 5 (.q 6 (.q 7 (.q 8 (.l 4 .e (.l 9 .e (.l 10 .e (.l 11 .e (.q 12 .nil))))))))))))) [] rfl (by kernel_rfl) selZ ?_
 refine AV ?_
 refine AQ ?_
 refine AV ?_
 refine AQ ?_
 refine AV ?_
 refine AQ ?_
 refine AV ?_
 refine AQ ?_
 focus ((refine DE (C1 rfl (cmpI_spec _ _) rfl rfl rdZ rfl rfl ?_); rintro _ rfl))
 focus ((refine DE (C1 rfl (cmpI_spec _ _) rfl rfl rdZ rfl rfl ?_); rintro _ rfl))
 refine CS ?_; rintro _ _ ⟨b, rfl, rfl⟩
 revert b; intro bo
 refine DE (C1 rfl (or_spec (sng bo _) _ [cmpI x.c y.c, cmpI x.a y.a] (slE_sng Eng.encI_len) (by simp)) rfl rfl rdZ rfl rfl ?_)
 rintro _ rfl
 refine B6 ?_
 refine BD ?_
 skip
 exact AI (res1 rfl rfl) rsubZ selZ ⟨rfl, rfl⟩
set_option maxHeartbeats 32000000 in
theorem bkCheck_spec (ρ τ σ : PH) (pq pc : Option Addr) (kq kc : Nat) (qs : List Int) (cs : List Ct) (v : Value) (l : List Bk) (hq : IntsAt ρ (.slice pq qs.length kq) qs) (hc : CtAt τ (.slice pc cs.length kc) cs) (hcap : cs.length ≤ kc) (lq : qs.length ≤ 9223372036854775807) (lc : cs.length ≤ 9223372036854775807) (hv : BkAt σ v l) (hl : l.length ≤ 9223372036854775807) :
  Ans Tryz.prog (fv 74) [.agg #[.slice pq qs.length kq, .slice pc cs.length kc], v] [ρ, τ, σ] (fun r => r = int (chkB qs cs l)) := by
 have hv2 := hv
 obtain ⟨q, c, rfl, hr⟩ := hv.val encB_len
 refine spec_in (cap := []) Tryz.func74 rfl rfl Tryz.ntmps74 rfl envZ (fun N β => ?_)
 refine AC ?_
 refine AA ?_
 refine BS (BV rfl) rfl rfl rfl ?_
 rintro _ _ ⟨b1, rfl, rfl⟩
 refine AT (ρ := sng b1 _) takeZ ?_
 have c1 : RdN (sng b1 (.cells #[.slice pq qs.length kq, .slice pc cs.length kc] 25 (0, 0))) b1 0 [.slice pq qs.length kq, .slice pc cs.length kc] := rdN_sng (vs := [.slice pq qs.length kq, .slice pc cs.length kc])
 refine AD ?_
 refine AE ?_
 refine AC ?_
 refine AC ?_
 refine AA ?_
 refine AS ?_
 refine AZ (planCheck_spec ρ τ pq pc kq kc qs cs hq hc hcap lq lc) rfl rfl rdZ rfl rfl ?_
 rintro _ rfl
 unfold chkB
 by_cases hp : chkPl qs cs = 0
 rotate_left
 ·rw [if_pos hp]
  generalize chkPl qs cs = z at hp
  refine B9 ?_
  refine AE ?_
  refine AM rfl ?_
  refine AC ?_
  refine AA ?_
  refine AD ?_
  refine AE ?_
  exact AI (res1 rfl rfl) rsubZ selZ ⟨rfl, rfl⟩
 rw [if_neg (fun h => h hp), hp]
 by_cases hbig : 512 < l.length
 ·rw [if_pos hbig]
  refine A9 ?_
  refine AE ?_
  refine AN rfl ?_
  refine AL ?_
  refine AC ?_
  refine AC ?_
  refine AA ?_
  refine AB ?_
  refine A3 ?_
  refine CI ?_
  refine AE ?_
  refine AM rfl ?_
  refine AC ?_
  refine AA ?_
  refine AD ?_
  refine AE ?_
  exact AI (res1 rfl rfl) rsubZ selZ ⟨rfl, rfl⟩
 rw [if_neg hbig]
 refine A9 ?_
 refine AE ?_
 refine AN rfl ?_
 refine AL ?_
 refine AC ?_
 refine AC ?_
 refine AA ?_
 refine AB ?_
 refine A3 ?_
 refine BR ?_
 refine AE ?_
 refine AN rfl ?_
 refine AL ?_
 refine AC ?_
 refine AC ?_
 refine AA ?_
 refine AB ?_
 refine A3 ?_
 refine AB ?_
 refine AE ?_
 refine AO ?_
 refine BI [1, 2, 13, 14] (0 : Nat) (fun k => k ≤ l.length ∧ firstE (bkE cs l) k = 0) (fun k => [(15, int k)]) (fun _ => []) (fun k => l.length - k) pickZ ⟨by omega, rfl⟩ covZ selZ ?_
 rintro k ⟨hk, hI⟩
 by_cases hlt : k < l.length
 ·have hx := List.getElem?_eq_getElem hlt
  obtain ⟨b2, o2, rfl, hrd, g0, g1, g2, g3⟩ := bkRow hr hx
  have hE := bkE_at (cs := cs) hx
  generalize l[k] = x at hrd g0 g1 g2 g3 hE
  refine AC ?_
  refine AA ?_
  refine BH ?_
  refine AE ?_
  refine AC ?_
  refine AM rfl ?_
  refine AL ?_
  refine AC ?_
  refine AO ?_
  refine AC ?_
  refine AA ?_
  refine AB ?_
  refine BF ?_
  refine AS ?_
  refine AX ?_; rintro _ _ ⟨b, rfl, rfl⟩
  refine AD ?_
  refine AW ?_; rintro _ _ ⟨rfl, rfl⟩
  refine AE ?_
  refine AC ?_
  refine AC ?_
  refine AA ?_
  refine AS ?_
  refine AS ?_
  revert b; intro b6
  refine AZ (bkValid_spec τ pq pc qs.length kq kc cs x hc) rfl rfl rdZ rfl rfl ?_
  rintro _ rfl
  cases hok : okBkB cs x with
  | false =>
   rw [if_pos hok] at hE
   have hh := firstE_hit hI (by rw [hE]; decide) _ hlt
   rw [hh, hE]
   refine A8 ?_
   refine AE ?_
   refine AM rfl ?_
   refine AC ?_
   refine AA ?_
   refine AD ?_
   refine AE ?_
   exact AI (res1 rfl rfl) rsubZ selZ ⟨rfl, rfl⟩
  | true =>
  rw [if_neg (by rw [hok]; simp)] at hE
  by_cases h0 : k = 0
  ·subst h0
   rw [if_pos rfl] at hE
   refine A8 ?_
   refine AE ?_
   refine AN rfl ?_
   refine AL ?_
   refine AC ?_
   refine AC ?_
   refine AA ?_
   refine AB ?_
   refine CP ?_
   refine AE ?_
   refine AM rfl ?_
   refine A7 rfl ?_
   refine AA ?_
   refine BA ?_
   refine AB ?_
   refine AE ?_
   exact AY (0 + 1) ⟨by omega, firstE_ok hI hE⟩ (by omega) covZ selZ
  ·have hlt' : k - 1 < l.length := by omega
   have hx' := List.getElem?_eq_getElem hlt'
   obtain ⟨_, _, e, hrd', p0, p1, p2, p3⟩ := bkRow hr hx'
   simp only [Option.some.injEq, Addr.mk.injEq, and_true] at e
   obtain ⟨rfl, rfl⟩ := e
   rw [if_neg h0, List.getD_eq_getElem?_getD, hx', Option.getD_some] at hE
   generalize l[k - 1] = p at hrd' p0 p1 p2 p3 hE
   have hle := bkCompare_spec p x
   unfold bk2E at hE
   generalize cmpBk p x = z at hle hE
   refine A8 ?_
   refine AE ?_
   refine AN rfl ?_
   refine AL ?_
   refine AC ?_
   refine AC ?_
   refine AA ?_
   refine AB ?_
   refine BZ ?_
   refine AE ?_
   refine AN rfl ?_
   refine AL ?_
   refine AC ?_
   refine AC ?_
   refine BB (.q 0 (.q 1 (.q 2 (.q 3 (.q 4 (.q 5 (.l 6 .e (.q 7 .nil)))))))) [sng b6 _] rfl (by kernel_rfl) selZ ?_
   refine AR ?_
   refine AR ?_
   refine CV ?_
   refine C5 ?_
   refine CU ?_
   refine CU ?_
   refine DE (C1 rfl hle rfl rfl rdZ rfl rfl ?_)
   rintro _ rfl
   by_cases hc9 : z < 0
   rotate_left
   ·rw [if_pos hc9] at hE
    have hh := firstE_hit hI (by rw [hE]; decide) _ hlt
    rw [hh, hE]
    refine zd_ge ?_
    refine BD ?_
    refine AM rfl ?_
    refine AC ?_
    refine AA ?_
    refine AD ?_
    refine AE ?_
    exact AI (res1 rfl rfl) rsubZ selZ ⟨rfl, rfl⟩
   rw [if_neg (fun h => h hc9)] at hE
   refine zd_geF ?_
   refine BD ?_
   refine AN rfl ?_
   refine AL ?_
   refine AC ?_
   refine BB (.q 0 (.q 1 (.q 2 (.q 3 (.q 4 (.q 5 (.q 6 (.q 7 (.q 8 (.q 9 (.q 10 (.q 11 (.q 12 (.q 13 (.q 14 (.q 15 (.q 16 (.q 17 (.q 18 (.q 19 .nil)))))))))))))))))))) [sng b6 _] rfl (by kernel_rfl) selZ ?_
   by_cases e1 : p.c = x.c
   ·by_cases e2 : x.a < p.b
    ·rw [if_pos ⟨e1, e2⟩] at hE
     have hh := firstE_hit hI (by rw [hE]; decide) _ hlt
     rw [hh, hE]
     refine AR ?_
     refine AR ?_
     refine CV ?_
     refine C5 ?_
     refine DQ ?_
     refine AQ ?_
     refine AV ?_
     refine AQ ?_
     refine EV ?_
     refine AR ?_
     refine AV ?_
     refine AQ ?_
     refine AR ?_
     refine AR ?_
     refine CV ?_
     refine C5 ?_
     refine DL ?_
     refine AQ ?_
     refine FV ?_
     refine BU ?_
     refine BD ?_
     refine AM rfl ?_
     refine AC ?_
     refine AA ?_
     refine AD ?_
     refine AE ?_
     exact AI (res1 rfl rfl) rsubZ selZ ⟨rfl, rfl⟩
    ·rw [if_neg (by omega)] at hE
     refine AR ?_
     refine AR ?_
     refine CV ?_
     refine C5 ?_
     refine DQ ?_
     refine AQ ?_
     refine AV ?_
     refine AQ ?_
     refine EV ?_
     refine AR ?_
     refine AV ?_
     refine AQ ?_
     refine AR ?_
     refine AR ?_
     refine CV ?_
     refine C5 ?_
     refine DL ?_
     refine AQ ?_
     refine ER ?_
     refine BU ?_
     refine BD ?_
     refine AN rfl ?_
     refine AL ?_
     refine A2 ?_
     refine AA ?_
     refine BA ?_
     refine AB ?_
     refine AE ?_
     exact AY (k + 1) ⟨by omega, firstE_ok hI hE⟩ (by omega) covZ selZ
   ·rw [if_neg (by omega)] at hE
    refine AR ?_
    refine AR ?_
    refine CV ?_
    refine C5 ?_
    refine DQ ?_
    refine AQ ?_
    refine AV ?_
    refine AQ ?_
    refine D8 ?_
    refine AR ?_
    refine AU rfl rfl rfl rfl rfl ?_
    refine AU rfl rfl rfl rfl rfl ?_
    refine AU rfl rfl rfl rfl rfl ?_
    refine AU rfl rfl rfl rfl rfl ?_
    refine AU rfl rfl rfl rfl rfl ?_
    refine AU rfl rfl rfl rfl rfl ?_
    refine AU rfl rfl rfl rfl rfl ?_
    refine AU rfl rfl rfl rfl rfl ?_
    refine AU rfl rfl rfl rfl rfl ?_
    refine BQ ?_
    refine BD ?_
    refine AN rfl ?_
    refine AL ?_
    refine A2 ?_
    refine AA ?_
    refine BA ?_
    refine AB ?_
    refine AE ?_
    exact AY (k + 1) ⟨by omega, firstE_ok hI hE⟩ (by omega) covZ selZ
 have hke : k = l.length := by omega
 subst hke
 rw [hI]
 refine AC ?_
 refine AA ?_
 refine A0 ?_
 refine AE ?_
 refine AC ?_
 refine AN rfl ?_
 refine A7 rfl ?_
 refine AC ?_
 refine AA ?_
 refine AD ?_
 refine AE ?_
 exact AI (res1 rfl rfl) rsubZ selZ ⟨rfl, rfl⟩
end Go.Proofs.YtknfhiolenobaaaGreat
/- Spans in memory. -/
namespace Go.Proofs.YtknfhiolenobaaaGreat
open Go.Eng Go.Step
set_option maxRecDepth 100000
set_option maxHeartbeats 4000000

def encS (x : Int × Int) : List Value := [int x.1, int x.2]
theorem encS_len (x : Int × Int) : (encS x).length = 2 := rfl
abbrev SpAt (ρ : PH) (v : Value) (l : List (Int × Int)) : Prop := SlE encS 2 ρ v l
theorem spRow {ρ : PH} {p : Option Addr} {l : List (Int × Int)} (h : RowsE encS 2 ρ p l) {i : Nat} {x : Int × Int} (hx : l[i]? = some x) :
  ∃ b o, p = some ⟨b, o, none⟩ ∧ RdN ρ b (o + i * 2) [int x.1, int x.2] ∧ rdc ρ b (o + i * 2) = some (int x.1) ∧ rdc ρ b (o + i * 2 + 1) = some (int x.2) := by
 obtain ⟨b, o, e, hr⟩ := h i x hx
 exact ⟨b, o, e, hr, hr.get0, hr.get (j := 1) rfl⟩
end Go.Proofs.YtknfhiolenobaaaGreat
/- Tables: checked; booked times. -/
namespace Go.Proofs.YtknfhiolenobaaaGreat
open Go.Eng Go.Step
set_option maxRecDepth 100000
set_option maxHeartbeats 4000000

structure TbAt (ρ τ σ υ : PH) (pq pc pb ph : Option Addr) (kq kc kb kh : Nat) (qs : List Int) (cs : List Ct) (bs : List Bk) (hs : List Hd) : Prop where
 hq : IntsAt ρ (.slice pq qs.length kq) qs
 hc : CtAt τ (.slice pc cs.length kc) cs
 hcap : cs.length ≤ kc
 lq : qs.length ≤ 9223372036854775807
 lc : cs.length ≤ 9223372036854775807
 hb : BkAt σ (.slice pb bs.length kb) bs
 lb : bs.length ≤ 9223372036854775807
 hh : HdAt υ (.slice ph hs.length kh) hs
 lh : hs.length ≤ 9223372036854775807
theorem TbAt.rq {ρ τ σ υ : PH} {pq pc pb ph : Option Addr} {kq kc kb kh : Nat} {qs : List Int} {cs : List Ct} {bs : List Bk} {hs : List Hd} (hT : TbAt ρ τ σ υ pq pc pb ph kq kc kb kh qs cs bs hs) : RowsE Eng.encI 1 ρ pq qs := by
 obtain ⟨_, _, e, h⟩ := hT.hq.val Eng.encI_len
 simp only [Value.slice.injEq] at e
 rw [e.1]; exact h
theorem TbAt.rc {ρ τ σ υ : PH} {pq pc pb ph : Option Addr} {kq kc kb kh : Nat} {qs : List Int} {cs : List Ct} {bs : List Bk} {hs : List Hd} (hT : TbAt ρ τ σ υ pq pc pb ph kq kc kb kh qs cs bs hs) : RowsE encC 7 τ pc cs := by
 obtain ⟨_, _, e, h⟩ := hT.hc.val encC_len
 simp only [Value.slice.injEq] at e
 rw [e.1]; exact h
theorem TbAt.rh {ρ τ σ υ : PH} {pq pc pb ph : Option Addr} {kq kc kb kh : Nat} {qs : List Int} {cs : List Ct} {bs : List Bk} {hs : List Hd} (hT : TbAt ρ τ σ υ pq pc pb ph kq kc kb kh qs cs bs hs) : RowsE encH 5 υ ph hs := by
 obtain ⟨_, _, e, h⟩ := hT.hh.val encH_len
 simp only [Value.slice.injEq] at e
 rw [e.1]; exact h
set_option maxHeartbeats 16000000 in
theorem chkTab_spec {ρ τ σ υ : PH} {pq pc pb ph : Option Addr} {kq kc kb kh : Nat} {qs : List Int} {cs : List Ct} {bs : List Bk} {hs : List Hd} (hT : TbAt ρ τ σ υ pq pc pb ph kq kc kb kh qs cs bs hs) :
  Ans Tryz.prog (fv 49) [.agg #[.slice pq qs.length kq, .slice pc cs.length kc, .slice pb bs.length kb, .slice ph hs.length kh]] [ρ, τ, σ, υ] (fun r => r = int (chkT qs cs bs hs)) := by
 refine spec_in (cap := []) Tryz.func49 rfl rfl Tryz.ntmps49 rfl envZ (fun N β => ?_)
 refine AC ?_
 refine AA ?_
 refine BS (BV rfl) rfl rfl rfl ?_
 rintro _ _ ⟨b1, rfl, rfl⟩
 refine AT (ρ := sng b1 _) takeZ ?_
 have ct : RdN (sng b1 (.cells #[.slice pq qs.length kq, .slice pc cs.length kc, .slice pb bs.length kb, .slice ph hs.length kh] 29 (0, 0))) b1 0 [.slice pq qs.length kq, .slice pc cs.length kc, .slice pb bs.length kb, .slice ph hs.length kh] := rdN_sng (vs := [.slice pq qs.length kq, .slice pc cs.length kc, .slice pb bs.length kb, .slice ph hs.length kh])
 have ct0 : rdc (sng b1 (.cells #[.slice pq qs.length kq, .slice pc cs.length kc, .slice pb bs.length kb, .slice ph hs.length kh] 29 (0, 0))) b1 0 = some (.slice pq qs.length kq) := by rw [rdc_sng]; rfl
 have ct1 : rdc (sng b1 (.cells #[.slice pq qs.length kq, .slice pc cs.length kc, .slice pb bs.length kb, .slice ph hs.length kh] 29 (0, 0))) b1 1 = some (.slice pc cs.length kc) := by rw [rdc_sng]; rfl
 have ct2 : rdc (sng b1 (.cells #[.slice pq qs.length kq, .slice pc cs.length kc, .slice pb bs.length kb, .slice ph hs.length kh] 29 (0, 0))) b1 2 = some (.slice pb bs.length kb) := by rw [rdc_sng]; rfl
 have ct3 : rdc (sng b1 (.cells #[.slice pq qs.length kq, .slice pc cs.length kc, .slice pb bs.length kb, .slice ph hs.length kh] 29 (0, 0))) b1 3 = some (.slice ph hs.length kh) := by rw [rdc_sng]; rfl
 have ctp : RdP (sng b1 (.cells #[.slice pq qs.length kq, .slice pc cs.length kc, .slice pb bs.length kb, .slice ph hs.length kh] 29 (0, 0))) b1 0 [.slice pq qs.length kq, .slice pc cs.length kc] := rdP_sng (xs := [.slice pq qs.length kq, .slice pc cs.length kc, .slice pb bs.length kb, .slice ph hs.length kh]) rfl
 refine AD ?_
 refine AE ?_
 refine AC ?_
 refine AC ?_
 refine AA ?_
 refine AH ?_
 refine AS ?_
 refine AZ (planCheck_spec ρ τ pq pc kq kc qs cs hT.hq hT.hc hT.hcap hT.lq hT.lc) rfl rfl rdZ rfl rfl ?_
 rintro _ rfl
 unfold chkT
 by_cases h1 : chkPl qs cs = 0
 rotate_left
 ·rw [if_pos h1]
  generalize chkPl qs cs = z at h1
  refine AD ?_
  refine AE ?_
  refine AC ?_
  refine AA ?_
  refine AB ?_
  refine B9 ?_
  refine AE ?_
  refine AM rfl ?_
  refine AC ?_
  refine AA ?_
  refine AB ?_
  refine AD ?_
  refine AE ?_
  exact AI (res1 rfl rfl) rsubZ selZ ⟨rfl, rfl⟩
 rw [if_neg (fun h => h h1), h1]
 refine AD ?_
 refine AE ?_
 refine AC ?_
 refine AA ?_
 refine AB ?_
 refine A9 ?_
 refine AE ?_
 refine AN rfl ?_
 refine AL ?_
 refine AC ?_
 refine AC ?_
 refine AA ?_
 refine AH ?_
 refine AS ?_
 refine AH ?_
 refine AG ?_
 refine AZ (bkCheck_spec ρ τ σ pq pc kq kc qs cs _ bs hT.hq hT.hc hT.hcap hT.lq hT.lc hT.hb hT.lb) rfl rfl rdZ rfl rfl ?_
 rintro _ rfl
 by_cases h2 : chkB qs cs bs = 0
 rotate_left
 ·rw [if_pos h2]
  generalize chkB qs cs bs = z at h2
  refine AD ?_
  refine AE ?_
  refine AC ?_
  refine AA ?_
  refine AB ?_
  refine B9 ?_
  refine AE ?_
  refine AM rfl ?_
  refine AC ?_
  refine AA ?_
  refine AB ?_
  refine AD ?_
  refine AE ?_
  exact AI (res1 rfl rfl) rsubZ selZ ⟨rfl, rfl⟩
 rw [if_neg (fun h => h h2), h2]
 refine AD ?_
 refine AE ?_
 refine AC ?_
 refine AA ?_
 refine AB ?_
 refine A9 ?_
 refine AE ?_
 refine AN rfl ?_
 refine AL ?_
 refine AC ?_
 refine AA ?_
 refine AH ?_
 refine AS ?_
 refine AH ?_
 refine AG ?_
 refine AZ (check28_spec ρ τ υ pq pc kq kc qs cs _ hs hT.hq hT.hc hT.hcap hT.lq hT.lc hT.hh hT.lh) rfl rfl rdZ rfl rfl ?_
 rintro _ rfl
 refine AD ?_
 refine AE ?_
 exact AI (res1 rfl rfl) rsubZ selZ ⟨rfl, rfl⟩
theorem indexS_spec (ρ : PH) (Rs : List PH) (v fn : Value) (l : List (Int × Int)) (p : (Int × Int) → Bool) (hv : SlE encS 2 ρ v l) (hl : l.length ≤ 9223372036854775807) (hfn : ∀ (i : Nat) (x : (Int × Int)), l[i]? = some x → Ans Tryz.prog fn [.agg (encS x).toArray] Rs (fun r => r = .bool (p x))) :
  Ans Tryz.prog (fv 77) [v, fn] (ρ :: Rs) (fun r => (∃ (i : Nat) (x : (Int × Int)), l[i]? = some x ∧ p x = true ∧ (∀ (j : Nat) (y : (Int × Int)), j < i → l[j]? = some y → p y = false) ∧ r = int i) ∨ ((∀ x ∈ l, p x = false) ∧ r = int (-1))) := by
 obtain ⟨q, c, rfl, hr⟩ := hv.val encS_len
 refine spec_in (cap := []) Tryz.func77 rfl rfl Tryz.ntmps77 rfl envZ (fun N β => ?_)
 repeat' (first
  | (first | (first | (refine AB ?_) | (refine AD ?_) | (refine AP ?_) | (refine AG ?_) | (refine AH ?_) | (refine CY ?_) | (refine DB ?_) | (refine BM ?_) | (refine BK ?_) | (refine BF ?_) | (refine CW ?_) | (refine AK ?_)) | (first | (refine AJ ?_) | (refine A3 ?_) | (refine A8 ?_) | (refine BC ?_) | (refine BO ?_) | (refine BP ?_) | (refine BA ?_) | (refine BH ?_) | (refine A0 ?_) | (refine CP ?_) | (refine BZ ?_) | (refine B9 ?_)) | (first | (refine A9 ?_) | (refine CI ?_) | (refine BR ?_) | (refine CZ ?_) | (refine CO ?_) | (refine CE ?_) | (refine BJ ?_) | (refine BT ?_) | (refine B4 ?_) | (refine CJ ?_) | (refine DF ?_) | (refine C7 ?_)) | (first | (refine CT ?_) | (refine C3 ?_) | (refine DG ?_) | (refine DH ?_) | (refine AS ?_) | (refine C4 ?_) | (refine CR ?_) | (refine BE ?_) | (refine B8 ?_) | (refine CK ?_) | (refine DI ?_) | (refine CB ?_)) | (first | (refine CL ?_) | (refine BY ?_) | (refine CM ?_) | (refine BN ?_) | (refine DD ?_)))
  | refine AC ?_
  | refine AA ?_
  | refine AE ?_
  | refine AO ?_
  | refine A2 ?_
  | refine AL ?_
  | refine AM rfl ?_
  | refine AN rfl ?_
  | refine A7 rfl ?_
  | refine AF rfl rfl rfl ?_
  | (first | (refine CD ?_; rintro _ _ ⟨b, rfl, rfl⟩) | (refine CA ?_; rintro _ _ ⟨b, rfl, rfl⟩) | (refine CG ?_; rintro _ _ ⟨b, rfl, rfl⟩) | (refine AX ?_; rintro _ _ ⟨b, rfl, rfl⟩) | (refine BG ?_; rintro _ _ ⟨b, rfl, rfl⟩) | (refine A5 ?_; rintro _ _ ⟨b, rfl, rfl⟩) | (refine BX ?_; rintro _ _ ⟨b, rfl, rfl⟩) | (refine CQ ?_; rintro _ _ ⟨b, rfl, rfl⟩))
  | (first | (refine BW ?_; rintro _ _ ⟨rfl, rfl⟩) | (refine B0 ?_; rintro _ _ ⟨rfl, rfl⟩) | (refine AW ?_; rintro _ _ ⟨rfl, rfl⟩) | (refine A6 ?_; rintro _ _ ⟨rfl, rfl⟩) | (refine CN ?_; rintro _ _ ⟨rfl, rfl⟩))
  | fail)
 refine BI [0, 1, 7] (0 : Nat) (fun k => k ≤ l.length ∧ ∀ (i : Nat) (x : (Int × Int)), i < k → l[i]? = some x → p x = false) (fun k => [(8, int k)]) (fun _ => []) (fun k => l.length - k) pickZ ⟨by omega, fun i x h => by omega⟩ covZ selZ ?_
 rintro k ⟨hk, hI⟩
 by_cases hlt : k < l.length
 ·have hx := List.getElem?_eq_getElem hlt
  obtain ⟨b1, o1, rfl, hrd⟩ := hr k _ hx
  have hrd2 : RdN ρ b1 (o1 + k * 2) (encS l[k]) := hrd
  have hf := hfn k _ hx
  repeat' (first
   | (first | (first | (refine AB ?_) | (refine AD ?_) | (refine AP ?_) | (refine AG ?_) | (refine AH ?_) | (refine CY ?_) | (refine DB ?_) | (refine BM ?_) | (refine BK ?_) | (refine BF ?_) | (refine CW ?_) | (refine AK ?_)) | (first | (refine AJ ?_) | (refine A3 ?_) | (refine A8 ?_) | (refine BC ?_) | (refine BO ?_) | (refine BP ?_) | (refine BA ?_) | (refine BH ?_) | (refine A0 ?_) | (refine CP ?_) | (refine BZ ?_) | (refine B9 ?_)) | (first | (refine A9 ?_) | (refine CI ?_) | (refine BR ?_) | (refine CZ ?_) | (refine CO ?_) | (refine CE ?_) | (refine BJ ?_) | (refine BT ?_) | (refine B4 ?_) | (refine CJ ?_) | (refine DF ?_) | (refine C7 ?_)) | (first | (refine CT ?_) | (refine C3 ?_) | (refine DG ?_) | (refine DH ?_) | (refine AS ?_) | (refine C4 ?_) | (refine CR ?_) | (refine BE ?_) | (refine B8 ?_) | (refine CK ?_) | (refine DI ?_) | (refine CB ?_)) | (first | (refine CL ?_) | (refine BY ?_) | (refine CM ?_) | (refine BN ?_) | (refine DD ?_)))
   | refine AC ?_
   | refine AA ?_
   | refine AE ?_
   | refine AO ?_
   | refine A2 ?_
   | refine AL ?_
   | refine AM rfl ?_
   | refine AN rfl ?_
   | refine A7 rfl ?_
   | refine AF rfl rfl rfl ?_
   | (first | (refine CD ?_; rintro _ _ ⟨b, rfl, rfl⟩) | (refine CA ?_; rintro _ _ ⟨b, rfl, rfl⟩) | (refine CG ?_; rintro _ _ ⟨b, rfl, rfl⟩) | (refine AX ?_; rintro _ _ ⟨b, rfl, rfl⟩) | (refine BG ?_; rintro _ _ ⟨b, rfl, rfl⟩) | (refine A5 ?_; rintro _ _ ⟨b, rfl, rfl⟩) | (refine BX ?_; rintro _ _ ⟨b, rfl, rfl⟩) | (refine CQ ?_; rintro _ _ ⟨b, rfl, rfl⟩))
   | (first | (refine BW ?_; rintro _ _ ⟨rfl, rfl⟩) | (refine B0 ?_; rintro _ _ ⟨rfl, rfl⟩) | (refine AW ?_; rintro _ _ ⟨rfl, rfl⟩) | (refine A6 ?_; rintro _ _ ⟨rfl, rfl⟩) | (refine CN ?_; rintro _ _ ⟨rfl, rfl⟩))
   | fail)
  refine AZ hf rfl rfl (fun τ hτ => .inl (by simp [hτ])) rfl rfl ?_
  rintro _ rfl
  cases hp : p l[k] with
  | true =>
   repeat' (first
    | (first | (first | (refine AB ?_) | (refine AD ?_) | (refine AP ?_) | (refine AG ?_) | (refine AH ?_) | (refine CY ?_) | (refine DB ?_) | (refine BM ?_) | (refine BK ?_) | (refine BF ?_) | (refine CW ?_) | (refine AK ?_)) | (first | (refine AJ ?_) | (refine A3 ?_) | (refine A8 ?_) | (refine BC ?_) | (refine BO ?_) | (refine BP ?_) | (refine BA ?_) | (refine BH ?_) | (refine A0 ?_) | (refine CP ?_) | (refine BZ ?_) | (refine B9 ?_)) | (first | (refine A9 ?_) | (refine CI ?_) | (refine BR ?_) | (refine CZ ?_) | (refine CO ?_) | (refine CE ?_) | (refine BJ ?_) | (refine BT ?_) | (refine B4 ?_) | (refine CJ ?_) | (refine DF ?_) | (refine C7 ?_)) | (first | (refine CT ?_) | (refine C3 ?_) | (refine DG ?_) | (refine DH ?_) | (refine AS ?_) | (refine C4 ?_) | (refine CR ?_) | (refine BE ?_) | (refine B8 ?_) | (refine CK ?_) | (refine DI ?_) | (refine CB ?_)) | (first | (refine CL ?_) | (refine BY ?_) | (refine CM ?_) | (refine BN ?_) | (refine DD ?_)))
    | refine AC ?_
    | refine AA ?_
    | refine AE ?_
    | refine AO ?_
    | refine A2 ?_
    | refine AL ?_
    | refine AM rfl ?_
    | refine AN rfl ?_
    | refine A7 rfl ?_
    | refine AF rfl rfl rfl ?_
    | (first | (refine CD ?_; rintro _ _ ⟨b, rfl, rfl⟩) | (refine CA ?_; rintro _ _ ⟨b, rfl, rfl⟩) | (refine CG ?_; rintro _ _ ⟨b, rfl, rfl⟩) | (refine AX ?_; rintro _ _ ⟨b, rfl, rfl⟩) | (refine BG ?_; rintro _ _ ⟨b, rfl, rfl⟩) | (refine A5 ?_; rintro _ _ ⟨b, rfl, rfl⟩) | (refine BX ?_; rintro _ _ ⟨b, rfl, rfl⟩) | (refine CQ ?_; rintro _ _ ⟨b, rfl, rfl⟩))
    | (first | (refine BW ?_; rintro _ _ ⟨rfl, rfl⟩) | (refine B0 ?_; rintro _ _ ⟨rfl, rfl⟩) | (refine AW ?_; rintro _ _ ⟨rfl, rfl⟩) | (refine A6 ?_; rintro _ _ ⟨rfl, rfl⟩) | (refine CN ?_; rintro _ _ ⟨rfl, rfl⟩))
    | fail)
   exact AI (res1 rfl rfl) rsubZ selZ ⟨rfl, .inl ⟨k, l[k], hx, hp, hI, rfl⟩⟩
  | false =>
   repeat' (first
    | (first | (first | (refine AB ?_) | (refine AD ?_) | (refine AP ?_) | (refine AG ?_) | (refine AH ?_) | (refine CY ?_) | (refine DB ?_) | (refine BM ?_) | (refine BK ?_) | (refine BF ?_) | (refine CW ?_) | (refine AK ?_)) | (first | (refine AJ ?_) | (refine A3 ?_) | (refine A8 ?_) | (refine BC ?_) | (refine BO ?_) | (refine BP ?_) | (refine BA ?_) | (refine BH ?_) | (refine A0 ?_) | (refine CP ?_) | (refine BZ ?_) | (refine B9 ?_)) | (first | (refine A9 ?_) | (refine CI ?_) | (refine BR ?_) | (refine CZ ?_) | (refine CO ?_) | (refine CE ?_) | (refine BJ ?_) | (refine BT ?_) | (refine B4 ?_) | (refine CJ ?_) | (refine DF ?_) | (refine C7 ?_)) | (first | (refine CT ?_) | (refine C3 ?_) | (refine DG ?_) | (refine DH ?_) | (refine AS ?_) | (refine C4 ?_) | (refine CR ?_) | (refine BE ?_) | (refine B8 ?_) | (refine CK ?_) | (refine DI ?_) | (refine CB ?_)) | (first | (refine CL ?_) | (refine BY ?_) | (refine CM ?_) | (refine BN ?_) | (refine DD ?_)))
    | refine AC ?_
    | refine AA ?_
    | refine AE ?_
    | refine AO ?_
    | refine A2 ?_
    | refine AL ?_
    | refine AM rfl ?_
    | refine AN rfl ?_
    | refine A7 rfl ?_
    | refine AF rfl rfl rfl ?_
    | (first | (refine CD ?_; rintro _ _ ⟨b, rfl, rfl⟩) | (refine CA ?_; rintro _ _ ⟨b, rfl, rfl⟩) | (refine CG ?_; rintro _ _ ⟨b, rfl, rfl⟩) | (refine AX ?_; rintro _ _ ⟨b, rfl, rfl⟩) | (refine BG ?_; rintro _ _ ⟨b, rfl, rfl⟩) | (refine A5 ?_; rintro _ _ ⟨b, rfl, rfl⟩) | (refine BX ?_; rintro _ _ ⟨b, rfl, rfl⟩) | (refine CQ ?_; rintro _ _ ⟨b, rfl, rfl⟩))
    | (first | (refine BW ?_; rintro _ _ ⟨rfl, rfl⟩) | (refine B0 ?_; rintro _ _ ⟨rfl, rfl⟩) | (refine AW ?_; rintro _ _ ⟨rfl, rfl⟩) | (refine A6 ?_; rintro _ _ ⟨rfl, rfl⟩) | (refine CN ?_; rintro _ _ ⟨rfl, rfl⟩))
    | fail)
   refine AY (k + 1) ⟨by omega, fun i x hi hix => ?_⟩ (by omega) covZ selZ
   by_cases e : i = k
   ·subst e; rw [hx] at hix; injection hix with hix; rw [← hix]; exact hp
   ·exact hI i x (by omega) hix
 ·repeat' (first
   | (first | (first | (refine AB ?_) | (refine AD ?_) | (refine AP ?_) | (refine AG ?_) | (refine AH ?_) | (refine CY ?_) | (refine DB ?_) | (refine BM ?_) | (refine BK ?_) | (refine BF ?_) | (refine CW ?_) | (refine AK ?_)) | (first | (refine AJ ?_) | (refine A3 ?_) | (refine A8 ?_) | (refine BC ?_) | (refine BO ?_) | (refine BP ?_) | (refine BA ?_) | (refine BH ?_) | (refine A0 ?_) | (refine CP ?_) | (refine BZ ?_) | (refine B9 ?_)) | (first | (refine A9 ?_) | (refine CI ?_) | (refine BR ?_) | (refine CZ ?_) | (refine CO ?_) | (refine CE ?_) | (refine BJ ?_) | (refine BT ?_) | (refine B4 ?_) | (refine CJ ?_) | (refine DF ?_) | (refine C7 ?_)) | (first | (refine CT ?_) | (refine C3 ?_) | (refine DG ?_) | (refine DH ?_) | (refine AS ?_) | (refine C4 ?_) | (refine CR ?_) | (refine BE ?_) | (refine B8 ?_) | (refine CK ?_) | (refine DI ?_) | (refine CB ?_)) | (first | (refine CL ?_) | (refine BY ?_) | (refine CM ?_) | (refine BN ?_) | (refine DD ?_)))
   | refine AC ?_
   | refine AA ?_
   | refine AE ?_
   | refine AO ?_
   | refine A2 ?_
   | refine AL ?_
   | refine AM rfl ?_
   | refine AN rfl ?_
   | refine A7 rfl ?_
   | refine AF rfl rfl rfl ?_
   | (first | (refine CD ?_; rintro _ _ ⟨b, rfl, rfl⟩) | (refine CA ?_; rintro _ _ ⟨b, rfl, rfl⟩) | (refine CG ?_; rintro _ _ ⟨b, rfl, rfl⟩) | (refine AX ?_; rintro _ _ ⟨b, rfl, rfl⟩) | (refine BG ?_; rintro _ _ ⟨b, rfl, rfl⟩) | (refine A5 ?_; rintro _ _ ⟨b, rfl, rfl⟩) | (refine BX ?_; rintro _ _ ⟨b, rfl, rfl⟩) | (refine CQ ?_; rintro _ _ ⟨b, rfl, rfl⟩))
   | (first | (refine BW ?_; rintro _ _ ⟨rfl, rfl⟩) | (refine B0 ?_; rintro _ _ ⟨rfl, rfl⟩) | (refine AW ?_; rintro _ _ ⟨rfl, rfl⟩) | (refine A6 ?_; rintro _ _ ⟨rfl, rfl⟩) | (refine CN ?_; rintro _ _ ⟨rfl, rfl⟩))
   | fail)
  refine AI (res1 rfl rfl) rsubZ selZ ⟨rfl, .inr ⟨fun x hx => ?_, rfl⟩⟩
  obtain ⟨i, hi, rfl⟩ := List.getElem_of_mem hx
  exact hI i _ (by omega) (List.getElem?_eq_getElem hi)
theorem contS_spec (ρ : PH) (Rs : List PH) (v fn : Value) (l : List (Int × Int)) (p : (Int × Int) → Bool) (hv : SlE encS 2 ρ v l) (hl : l.length ≤ 9223372036854775807) (hfn : ∀ (i : Nat) (x : (Int × Int)), l[i]? = some x → Ans Tryz.prog fn [.agg (encS x).toArray] Rs (fun r => r = .bool (p x))) :
  Ans Tryz.prog (fv 52) [v, fn] (ρ :: Rs) (fun r => r = .bool (l.any p)) := by
 have hix := indexS_spec ρ Rs v fn l p hv hl hfn
 obtain ⟨q, c, rfl, hr⟩ := hv.val encS_len
 refine spec_in (cap := []) Tryz.func52 rfl rfl Tryz.ntmps52 rfl envZ (fun N β => ?_)
 repeat' (first
  | (first | (first | (refine AB ?_) | (refine AD ?_) | (refine AP ?_) | (refine AG ?_) | (refine AH ?_) | (refine CY ?_) | (refine DB ?_) | (refine BM ?_) | (refine BK ?_) | (refine BF ?_) | (refine CW ?_) | (refine AK ?_)) | (first | (refine AJ ?_) | (refine A3 ?_) | (refine A8 ?_) | (refine BC ?_) | (refine BO ?_) | (refine BP ?_) | (refine BA ?_) | (refine BH ?_) | (refine A0 ?_) | (refine CP ?_) | (refine BZ ?_) | (refine B9 ?_)) | (first | (refine A9 ?_) | (refine CI ?_) | (refine BR ?_) | (refine CZ ?_) | (refine CO ?_) | (refine CE ?_) | (refine BJ ?_) | (refine BT ?_) | (refine B4 ?_) | (refine CJ ?_) | (refine DF ?_) | (refine C7 ?_)) | (first | (refine CT ?_) | (refine C3 ?_) | (refine DG ?_) | (refine DH ?_) | (refine AS ?_) | (refine C4 ?_) | (refine CR ?_) | (refine BE ?_) | (refine B8 ?_) | (refine CK ?_) | (refine DI ?_) | (refine CB ?_)) | (first | (refine CL ?_) | (refine BY ?_) | (refine CM ?_) | (refine BN ?_) | (refine DD ?_)))
  | refine AC ?_
  | refine AA ?_
  | refine AE ?_
  | refine AO ?_
  | refine A2 ?_
  | refine AL ?_
  | refine AM rfl ?_
  | refine AN rfl ?_
  | refine A7 rfl ?_
  | refine AF rfl rfl rfl ?_
  | (first | (refine CD ?_; rintro _ _ ⟨b, rfl, rfl⟩) | (refine CA ?_; rintro _ _ ⟨b, rfl, rfl⟩) | (refine CG ?_; rintro _ _ ⟨b, rfl, rfl⟩) | (refine AX ?_; rintro _ _ ⟨b, rfl, rfl⟩) | (refine BG ?_; rintro _ _ ⟨b, rfl, rfl⟩) | (refine A5 ?_; rintro _ _ ⟨b, rfl, rfl⟩) | (refine BX ?_; rintro _ _ ⟨b, rfl, rfl⟩) | (refine CQ ?_; rintro _ _ ⟨b, rfl, rfl⟩))
  | (first | (refine BW ?_; rintro _ _ ⟨rfl, rfl⟩) | (refine B0 ?_; rintro _ _ ⟨rfl, rfl⟩) | (refine AW ?_; rintro _ _ ⟨rfl, rfl⟩) | (refine A6 ?_; rintro _ _ ⟨rfl, rfl⟩) | (refine CN ?_; rintro _ _ ⟨rfl, rfl⟩))
  | fail)
 refine AZ hix rfl rfl (fun τ hτ => .inl (List.mem_cons_of_mem _ hτ)) rfl rfl ?_
 rintro _ (⟨i, x, hi, hp, _, rfl⟩ | ⟨hall2, rfl⟩)
 ·have hfl : l.any p = true := List.any_eq_true.2 ⟨x, List.mem_of_getElem? hi, hp⟩
  repeat' (first
   | (first | (first | (refine AB ?_) | (refine AD ?_) | (refine AP ?_) | (refine AG ?_) | (refine AH ?_) | (refine CY ?_) | (refine DB ?_) | (refine BM ?_) | (refine BK ?_) | (refine BF ?_) | (refine CW ?_) | (refine AK ?_)) | (first | (refine AJ ?_) | (refine A3 ?_) | (refine A8 ?_) | (refine BC ?_) | (refine BO ?_) | (refine BP ?_) | (refine BA ?_) | (refine BH ?_) | (refine A0 ?_) | (refine CP ?_) | (refine BZ ?_) | (refine B9 ?_)) | (first | (refine A9 ?_) | (refine CI ?_) | (refine BR ?_) | (refine CZ ?_) | (refine CO ?_) | (refine CE ?_) | (refine BJ ?_) | (refine BT ?_) | (refine B4 ?_) | (refine CJ ?_) | (refine DF ?_) | (refine C7 ?_)) | (first | (refine CT ?_) | (refine C3 ?_) | (refine DG ?_) | (refine DH ?_) | (refine AS ?_) | (refine C4 ?_) | (refine CR ?_) | (refine BE ?_) | (refine B8 ?_) | (refine CK ?_) | (refine DI ?_) | (refine CB ?_)) | (first | (refine CL ?_) | (refine BY ?_) | (refine CM ?_) | (refine BN ?_) | (refine DD ?_)))
   | refine AC ?_
   | refine AA ?_
   | refine AE ?_
   | refine AO ?_
   | refine A2 ?_
   | refine AL ?_
   | refine AM rfl ?_
   | refine AN rfl ?_
   | refine A7 rfl ?_
   | refine AF rfl rfl rfl ?_
   | (first | (refine CD ?_; rintro _ _ ⟨b, rfl, rfl⟩) | (refine CA ?_; rintro _ _ ⟨b, rfl, rfl⟩) | (refine CG ?_; rintro _ _ ⟨b, rfl, rfl⟩) | (refine AX ?_; rintro _ _ ⟨b, rfl, rfl⟩) | (refine BG ?_; rintro _ _ ⟨b, rfl, rfl⟩) | (refine A5 ?_; rintro _ _ ⟨b, rfl, rfl⟩) | (refine BX ?_; rintro _ _ ⟨b, rfl, rfl⟩) | (refine CQ ?_; rintro _ _ ⟨b, rfl, rfl⟩))
   | (first | (refine BW ?_; rintro _ _ ⟨rfl, rfl⟩) | (refine B0 ?_; rintro _ _ ⟨rfl, rfl⟩) | (refine AW ?_; rintro _ _ ⟨rfl, rfl⟩) | (refine A6 ?_; rintro _ _ ⟨rfl, rfl⟩) | (refine CN ?_; rintro _ _ ⟨rfl, rfl⟩))
   | fail)
  exact AI (res1 rfl rfl) rsubZ selZ ⟨rfl, by rw [hfl]⟩
 ·have hfl : l.any p = false := List.any_eq_false.2 (fun x hx => by rw [hall2 x hx]; simp)
  repeat' (first
   | (first | (first | (refine AB ?_) | (refine AD ?_) | (refine AP ?_) | (refine AG ?_) | (refine AH ?_) | (refine CY ?_) | (refine DB ?_) | (refine BM ?_) | (refine BK ?_) | (refine BF ?_) | (refine CW ?_) | (refine AK ?_)) | (first | (refine AJ ?_) | (refine A3 ?_) | (refine A8 ?_) | (refine BC ?_) | (refine BO ?_) | (refine BP ?_) | (refine BA ?_) | (refine BH ?_) | (refine A0 ?_) | (refine CP ?_) | (refine BZ ?_) | (refine B9 ?_)) | (first | (refine A9 ?_) | (refine CI ?_) | (refine BR ?_) | (refine CZ ?_) | (refine CO ?_) | (refine CE ?_) | (refine BJ ?_) | (refine BT ?_) | (refine B4 ?_) | (refine CJ ?_) | (refine DF ?_) | (refine C7 ?_)) | (first | (refine CT ?_) | (refine C3 ?_) | (refine DG ?_) | (refine DH ?_) | (refine AS ?_) | (refine C4 ?_) | (refine CR ?_) | (refine BE ?_) | (refine B8 ?_) | (refine CK ?_) | (refine DI ?_) | (refine CB ?_)) | (first | (refine CL ?_) | (refine BY ?_) | (refine CM ?_) | (refine BN ?_) | (refine DD ?_)))
   | refine AC ?_
   | refine AA ?_
   | refine AE ?_
   | refine AO ?_
   | refine A2 ?_
   | refine AL ?_
   | refine AM rfl ?_
   | refine AN rfl ?_
   | refine A7 rfl ?_
   | refine AF rfl rfl rfl ?_
   | (first | (refine CD ?_; rintro _ _ ⟨b, rfl, rfl⟩) | (refine CA ?_; rintro _ _ ⟨b, rfl, rfl⟩) | (refine CG ?_; rintro _ _ ⟨b, rfl, rfl⟩) | (refine AX ?_; rintro _ _ ⟨b, rfl, rfl⟩) | (refine BG ?_; rintro _ _ ⟨b, rfl, rfl⟩) | (refine A5 ?_; rintro _ _ ⟨b, rfl, rfl⟩) | (refine BX ?_; rintro _ _ ⟨b, rfl, rfl⟩) | (refine CQ ?_; rintro _ _ ⟨b, rfl, rfl⟩))
   | (first | (refine BW ?_; rintro _ _ ⟨rfl, rfl⟩) | (refine B0 ?_; rintro _ _ ⟨rfl, rfl⟩) | (refine AW ?_; rintro _ _ ⟨rfl, rfl⟩) | (refine A6 ?_; rintro _ _ ⟨rfl, rfl⟩) | (refine CN ?_; rintro _ _ ⟨rfl, rfl⟩))
   | fail)
  exact AI (res1 rfl rfl) rsubZ selZ ⟨rfl, by rw [hfl]⟩
set_option maxHeartbeats 16000000 in
theorem busy_spec (ρ : PH) (v : Value) (l : List Bk) (c : Int) (hv : BkAt ρ v l) (hl : l.length ≤ 1000) :
  Makes Tryz.prog (fv 54) [v, int c] [ρ] (fun r σ => OwnS 70 2 r (busyL l c).length ((busyL l c).flatMap encS) σ) := by
 obtain ⟨q, cc, rfl, hr⟩ := hv.val encB_len
 refine spec_in (cap := []) Tryz.func54 rfl rfl Tryz.ntmps54 rfl envZ (fun N β => ?_)
 refine C6 ?_
 refine AC ?_
 refine AA ?_
 refine AD ?_
 refine AE ?_
 refine AC ?_
 refine AA ?_
 refine AD ?_
 refine AE ?_
 refine AC ?_
 refine AC ?_
 refine AA ?_
 refine AB ?_
 refine A3 ?_
 refine AB ?_
 refine AE ?_
 refine AO ?_
 refine BI [1, 8, 9] (X := Nat × (Value × PH)) (0, (.slice none 0 0, emp)) (fun x => x.1 ≤ l.length ∧ OwnS 70 2 x.2.1 (busyL (l.take x.1) c).length ((busyL (l.take x.1) c).flatMap encS) x.2.2) (fun x => [(10, int x.1), (5, x.2.1)]) (fun x => [x.2.2]) (fun x => l.length - x.1) pickZ ⟨by dsimp only; omega, OwnS.nil _ _⟩ covZ selZ ?_
 rintro ⟨k, u, σ⟩ ⟨hk, hO⟩
 dsimp only at hk hO ⊢
 by_cases hlt : k < l.length
 ·have hx := List.getElem?_eq_getElem hlt
  have hn := busyL_next c hx
  have hrl := busyL_len (l.take k) c
  rw [List.length_take, Nat.min_eq_left hk] at hrl
  obtain ⟨b1, o1, rfl, hRd1, g0, g1, g2, g3⟩ := bkRow hr hx
  generalize l[k] = x at hRd1 g0 g1 g2 g3 hn
  by_cases hc : x.c = c
  rotate_left
  ·rw [if_neg hc, List.append_nil] at hn
   refine AC ?_
   refine AA ?_
   refine BH ?_
   refine AE ?_
   refine AC ?_
   refine AM rfl ?_
   refine AL ?_
   refine AC ?_
   refine AO ?_
   refine AC ?_
   refine AA ?_
   refine BF ?_
   refine AS ?_
   refine AX ?_; rintro _ _ ⟨b, rfl, rfl⟩
   refine AW ?_; rintro _ _ ⟨rfl, rfl⟩
   refine AE ?_
   refine AC ?_
   refine AA ?_
   refine AH ?_
   refine AG ?_
   refine AB ?_
   refine BZ ?_
   refine AE ?_
   refine AN rfl ?_
   refine AL ?_
   refine A2 ?_
   refine AA ?_
   refine BA ?_
   refine AB ?_
   refine AE ?_
   exact AY (k + 1, (u, σ)) ⟨by dsimp only; omega, by dsimp only; rw [hn]; exact hO⟩ (by dsimp only; omega) covZ selZ
  ·rw [if_pos hc] at hn
   refine AC ?_
   refine AA ?_
   refine BH ?_
   refine AE ?_
   refine AC ?_
   refine AM rfl ?_
   refine AL ?_
   refine AC ?_
   refine AO ?_
   refine AC ?_
   refine AA ?_
   refine BF ?_
   refine AS ?_
   refine AX ?_; rintro _ _ ⟨b, rfl, rfl⟩
   refine AW ?_; rintro _ _ ⟨rfl, rfl⟩
   refine AE ?_
   refine AC ?_
   refine AA ?_
   refine AH ?_
   refine AG ?_
   refine AB ?_
   refine CP ?_
   refine AE ?_
   refine AM rfl ?_
   refine AA ?_
   refine AB ?_
   refine AH ?_
   refine AG ?_
   refine AH ?_
   refine AG ?_
   refine BN ?_
   refine A5 ?_; rintro _ _ ⟨b, rfl, rfl⟩
   refine BS (DA (by_ := 16) (s := 2) (news := [int x.a, int x.b]) rfl rfl rfl rfl rfl rfl rfl hO takeZ (cells_own memZ) rfl (by (repeat (first | exact (fun v hv => absurd hv List.not_mem_nil) | (refine List.forall_mem_cons.2 ⟨?_, ?_⟩; (focus (first | exact rfl | assumption))))); first | done | fail) (by omega) (by simp only [maxLen]; omega) (by omega)) rfl rfl rfl ?_
   rintro u1 _ ⟨σ1, hO1, rfl⟩
   refine AD ?_
   refine AE ?_
   refine A2 ?_
   refine AA ?_
   refine BA ?_
   refine AB ?_
   refine AE ?_
   refine AY (k + 1, (u1, σ1)) ⟨by dsimp only; omega, ?_⟩ (by dsimp only; omega) covZ selZ
   dsimp only
   rw [hn, List.length_append, List.flatMap_append]
   exact hO1
 ·have hke : k = l.length := by omega
  subst hke
  rw [List.take_length] at hO
  refine AC ?_
  refine AA ?_
  refine A0 ?_
  refine AE ?_
  refine AC ?_
  refine AN rfl ?_
  refine A7 rfl ?_
  refine AC ?_
  refine AA ?_
  refine AB ?_
  refine AD ?_
  refine AE ?_
  exact AI (res1 rfl rfl) rsubZ selZ ⟨σ, hO, rfl⟩
theorem booked1_spec (bt : Nat) (t : Int) (x : Int × Int) : Ans Tryz.prog (.func (.func 55) #[] #[.pointer (some ⟨bt, 0, none⟩)]) [.agg (encS x).toArray] [sng bt (.cells #[int t] 3 (0, 0))] (fun r => r = .bool (decide (x.1 ≤ t) && decide (t < x.2))) := by
 refine spec_in (cap := [.pointer (some ⟨bt, 0, none⟩)]) Tryz.func55 rfl rfl Tryz.ntmps55 rfl envZ (fun N β => ?_)
 have c1 : rdc (sng bt (.cells #[int t] 3 (0, 0))) bt 0 = some (int t) := by rw [rdc_sng]; rfl
 by_cases h1 : x.1 ≤ t
 ·by_cases h2 : t < x.2
  ·rw [decide_eq_true h1, decide_eq_true h2]
   repeat' (first
    | (first | (first | (refine AB ?_) | (refine AD ?_) | (refine AP ?_) | (refine AG ?_) | (refine AH ?_) | (refine CY ?_) | (refine DB ?_) | (refine BM ?_) | (refine BK ?_) | (refine BF ?_) | (refine CW ?_) | (refine AK ?_)) | (first | (refine AJ ?_) | (refine A3 ?_) | (refine A8 ?_) | (refine BC ?_) | (refine BO ?_) | (refine BP ?_) | (refine BA ?_) | (refine BH ?_) | (refine A0 ?_) | (refine CP ?_) | (refine BZ ?_) | (refine B9 ?_)) | (first | (refine A9 ?_) | (refine CI ?_) | (refine BR ?_) | (refine CZ ?_) | (refine CO ?_) | (refine CE ?_) | (refine BJ ?_) | (refine BT ?_) | (refine B4 ?_) | (refine CJ ?_) | (refine DF ?_) | (refine C7 ?_)) | (first | (refine CT ?_) | (refine C3 ?_) | (refine DG ?_) | (refine DH ?_) | (refine AS ?_) | (refine C4 ?_) | (refine CR ?_) | (refine BE ?_) | (refine B8 ?_) | (refine CK ?_) | (refine DI ?_) | (refine CB ?_)) | (first | (refine CL ?_) | (refine BY ?_) | (refine CM ?_) | (refine BN ?_) | (refine DD ?_)))
    | refine AC ?_
    | refine AA ?_
    | refine AE ?_
    | refine AO ?_
    | refine A2 ?_
    | refine AL ?_
    | refine AM rfl ?_
    | refine AN rfl ?_
    | refine A7 rfl ?_
    | refine AF rfl rfl rfl ?_
    | (first | (refine CD ?_; rintro _ _ ⟨b, rfl, rfl⟩) | (refine CA ?_; rintro _ _ ⟨b, rfl, rfl⟩) | (refine CG ?_; rintro _ _ ⟨b, rfl, rfl⟩) | (refine AX ?_; rintro _ _ ⟨b, rfl, rfl⟩) | (refine BG ?_; rintro _ _ ⟨b, rfl, rfl⟩) | (refine A5 ?_; rintro _ _ ⟨b, rfl, rfl⟩) | (refine BX ?_; rintro _ _ ⟨b, rfl, rfl⟩) | (refine CQ ?_; rintro _ _ ⟨b, rfl, rfl⟩))
    | (first | (refine BW ?_; rintro _ _ ⟨rfl, rfl⟩) | (refine B0 ?_; rintro _ _ ⟨rfl, rfl⟩) | (refine AW ?_; rintro _ _ ⟨rfl, rfl⟩) | (refine A6 ?_; rintro _ _ ⟨rfl, rfl⟩) | (refine CN ?_; rintro _ _ ⟨rfl, rfl⟩))
    | fail)
   exact AI (res1 rfl rfl) rsubZ selZ ⟨rfl, rfl⟩
  ·rw [decide_eq_true h1, decide_eq_false h2]
   repeat' (first
    | (first | (first | (refine AB ?_) | (refine AD ?_) | (refine AP ?_) | (refine AG ?_) | (refine AH ?_) | (refine CY ?_) | (refine DB ?_) | (refine BM ?_) | (refine BK ?_) | (refine BF ?_) | (refine CW ?_) | (refine AK ?_)) | (first | (refine AJ ?_) | (refine A3 ?_) | (refine A8 ?_) | (refine BC ?_) | (refine BO ?_) | (refine BP ?_) | (refine BA ?_) | (refine BH ?_) | (refine A0 ?_) | (refine CP ?_) | (refine BZ ?_) | (refine B9 ?_)) | (first | (refine A9 ?_) | (refine CI ?_) | (refine BR ?_) | (refine CZ ?_) | (refine CO ?_) | (refine CE ?_) | (refine BJ ?_) | (refine BT ?_) | (refine B4 ?_) | (refine CJ ?_) | (refine DF ?_) | (refine C7 ?_)) | (first | (refine CT ?_) | (refine C3 ?_) | (refine DG ?_) | (refine DH ?_) | (refine AS ?_) | (refine C4 ?_) | (refine CR ?_) | (refine BE ?_) | (refine B8 ?_) | (refine CK ?_) | (refine DI ?_) | (refine CB ?_)) | (first | (refine CL ?_) | (refine BY ?_) | (refine CM ?_) | (refine BN ?_) | (refine DD ?_)))
    | refine AC ?_
    | refine AA ?_
    | refine AE ?_
    | refine AO ?_
    | refine A2 ?_
    | refine AL ?_
    | refine AM rfl ?_
    | refine AN rfl ?_
    | refine A7 rfl ?_
    | refine AF rfl rfl rfl ?_
    | (first | (refine CD ?_; rintro _ _ ⟨b, rfl, rfl⟩) | (refine CA ?_; rintro _ _ ⟨b, rfl, rfl⟩) | (refine CG ?_; rintro _ _ ⟨b, rfl, rfl⟩) | (refine AX ?_; rintro _ _ ⟨b, rfl, rfl⟩) | (refine BG ?_; rintro _ _ ⟨b, rfl, rfl⟩) | (refine A5 ?_; rintro _ _ ⟨b, rfl, rfl⟩) | (refine BX ?_; rintro _ _ ⟨b, rfl, rfl⟩) | (refine CQ ?_; rintro _ _ ⟨b, rfl, rfl⟩))
    | (first | (refine BW ?_; rintro _ _ ⟨rfl, rfl⟩) | (refine B0 ?_; rintro _ _ ⟨rfl, rfl⟩) | (refine AW ?_; rintro _ _ ⟨rfl, rfl⟩) | (refine A6 ?_; rintro _ _ ⟨rfl, rfl⟩) | (refine CN ?_; rintro _ _ ⟨rfl, rfl⟩))
    | fail)
   exact AI (res1 rfl rfl) rsubZ selZ ⟨rfl, rfl⟩
 ·rw [decide_eq_false h1, Bool.false_and]
  repeat' (first
   | (first | (first | (refine AB ?_) | (refine AD ?_) | (refine AP ?_) | (refine AG ?_) | (refine AH ?_) | (refine CY ?_) | (refine DB ?_) | (refine BM ?_) | (refine BK ?_) | (refine BF ?_) | (refine CW ?_) | (refine AK ?_)) | (first | (refine AJ ?_) | (refine A3 ?_) | (refine A8 ?_) | (refine BC ?_) | (refine BO ?_) | (refine BP ?_) | (refine BA ?_) | (refine BH ?_) | (refine A0 ?_) | (refine CP ?_) | (refine BZ ?_) | (refine B9 ?_)) | (first | (refine A9 ?_) | (refine CI ?_) | (refine BR ?_) | (refine CZ ?_) | (refine CO ?_) | (refine CE ?_) | (refine BJ ?_) | (refine BT ?_) | (refine B4 ?_) | (refine CJ ?_) | (refine DF ?_) | (refine C7 ?_)) | (first | (refine CT ?_) | (refine C3 ?_) | (refine DG ?_) | (refine DH ?_) | (refine AS ?_) | (refine C4 ?_) | (refine CR ?_) | (refine BE ?_) | (refine B8 ?_) | (refine CK ?_) | (refine DI ?_) | (refine CB ?_)) | (first | (refine CL ?_) | (refine BY ?_) | (refine CM ?_) | (refine BN ?_) | (refine DD ?_)))
   | refine AC ?_
   | refine AA ?_
   | refine AE ?_
   | refine AO ?_
   | refine A2 ?_
   | refine AL ?_
   | refine AM rfl ?_
   | refine AN rfl ?_
   | refine A7 rfl ?_
   | refine AF rfl rfl rfl ?_
   | (first | (refine CD ?_; rintro _ _ ⟨b, rfl, rfl⟩) | (refine CA ?_; rintro _ _ ⟨b, rfl, rfl⟩) | (refine CG ?_; rintro _ _ ⟨b, rfl, rfl⟩) | (refine AX ?_; rintro _ _ ⟨b, rfl, rfl⟩) | (refine BG ?_; rintro _ _ ⟨b, rfl, rfl⟩) | (refine A5 ?_; rintro _ _ ⟨b, rfl, rfl⟩) | (refine BX ?_; rintro _ _ ⟨b, rfl, rfl⟩) | (refine CQ ?_; rintro _ _ ⟨b, rfl, rfl⟩))
   | (first | (refine BW ?_; rintro _ _ ⟨rfl, rfl⟩) | (refine B0 ?_; rintro _ _ ⟨rfl, rfl⟩) | (refine AW ?_; rintro _ _ ⟨rfl, rfl⟩) | (refine A6 ?_; rintro _ _ ⟨rfl, rfl⟩) | (refine CN ?_; rintro _ _ ⟨rfl, rfl⟩))
   | fail)
  exact AI (res1 rfl rfl) rsubZ selZ ⟨rfl, rfl⟩
set_option maxHeartbeats 16000000 in
theorem booked_spec {ρ τ σ υ : PH} {pq pc pb ph : Option Addr} {kq kc kb kh : Nat} {qs : List Int} {cs : List Ct} {bs : List Bk} {hs : List Hd} (hT : TbAt ρ τ σ υ pq pc pb ph kq kc kb kh qs cs bs hs) (c t : Int) (hl : bs.length ≤ 1000) :
  Ans Tryz.prog (fv 31) [.agg #[.slice pq qs.length kq, .slice pc cs.length kc, .slice pb bs.length kb, .slice ph hs.length kh], int c, int t] [ρ, τ, σ, υ] (fun r => r = .bool (bookedB bs c t)) := by
 refine spec_in (cap := []) Tryz.func31 rfl rfl Tryz.ntmps31 rfl envZ (fun N β => ?_)
 refine AC ?_
 refine AA ?_
 refine BS (BV rfl) rfl rfl rfl ?_
 rintro _ _ ⟨b1, rfl, rfl⟩
 refine AT (ρ := sng b1 _) takeZ ?_
 have ct : RdN (sng b1 (.cells #[.slice pq qs.length kq, .slice pc cs.length kc, .slice pb bs.length kb, .slice ph hs.length kh] 29 (0, 0))) b1 0 [.slice pq qs.length kq, .slice pc cs.length kc, .slice pb bs.length kb, .slice ph hs.length kh] := rdN_sng (vs := [.slice pq qs.length kq, .slice pc cs.length kc, .slice pb bs.length kb, .slice ph hs.length kh])
 have ct0 : rdc (sng b1 (.cells #[.slice pq qs.length kq, .slice pc cs.length kc, .slice pb bs.length kb, .slice ph hs.length kh] 29 (0, 0))) b1 0 = some (.slice pq qs.length kq) := by rw [rdc_sng]; rfl
 have ct1 : rdc (sng b1 (.cells #[.slice pq qs.length kq, .slice pc cs.length kc, .slice pb bs.length kb, .slice ph hs.length kh] 29 (0, 0))) b1 1 = some (.slice pc cs.length kc) := by rw [rdc_sng]; rfl
 have ct2 : rdc (sng b1 (.cells #[.slice pq qs.length kq, .slice pc cs.length kc, .slice pb bs.length kb, .slice ph hs.length kh] 29 (0, 0))) b1 2 = some (.slice pb bs.length kb) := by rw [rdc_sng]; rfl
 have ct3 : rdc (sng b1 (.cells #[.slice pq qs.length kq, .slice pc cs.length kc, .slice pb bs.length kb, .slice ph hs.length kh] 29 (0, 0))) b1 3 = some (.slice ph hs.length kh) := by rw [rdc_sng]; rfl
 have ctp : RdP (sng b1 (.cells #[.slice pq qs.length kq, .slice pc cs.length kc, .slice pb bs.length kb, .slice ph hs.length kh] 29 (0, 0))) b1 0 [.slice pq qs.length kq, .slice pc cs.length kc] := rdP_sng (xs := [.slice pq qs.length kq, .slice pc cs.length kc, .slice pb bs.length kb, .slice ph hs.length kh]) rfl
 refine CQ ?_; rintro _ _ ⟨b, rfl, rfl⟩
 refine AD ?_
 refine AE ?_
 refine AC ?_
 refine AA ?_
 refine AH ?_
 refine AG ?_
 refine AB ?_
 revert b; intro bt
 refine C9 (busy_spec σ _ bs c hT.hb hl) rfl rfl rdZ rfl rfl ?_
 rintro u σ1 hO
 have hbl := busyL_len bs c
 refine BE ?_
 refine AZ (contS_spec σ1 [sng bt (.cells #[int t] 3 (0, 0))] _ _ (busyL bs c) (fun x => decide (x.1 ≤ t) && decide (t < x.2)) hO.at (by omega) (fun i x _ => booked1_spec bt t x)) rfl rfl rdZ rfl rfl ?_
 rintro _ rfl
 refine AD ?_
 refine AE ?_
 exact AI (res1 rfl rfl) rsubZ selZ ⟨rfl, rfl⟩
theorem any_take {α : Type} (p : α → Bool) {l : List α} {k : Nat} (h : k < l.length) : (l.take (k + 1)).any p = ((l.take k).any p || p l[k]) := by
 rw [List.take_succ_eq_append_getElem h, List.any_append]
 simp
end Go.Proofs.YtknfhiolenobaaaGreat
/- Demands, shipments, stocks. No program in sight. No conditions. -/
namespace Go.Step
structure Dm where
  s : Int
  d : Int
  v : Int
  r : Int
  e : Int
deriving DecidableEq
structure Sh where
  c : Int
  t : Int
  n : Int
deriving DecidableEq
def okDm (nq : Nat) (d : Dm) : Prop := (0 ≤ d.s ∧ d.s < nq) ∧ (0 ≤ d.d ∧ d.d < nq) ∧ d.s ≠ d.d ∧ (1 ≤ d.v ∧ d.v ≤ 1099511627776) ∧ (0 ≤ d.r ∧ d.r < d.e ∧ d.e ≤ 1099511627776 ∧ d.e - d.r ≤ 100)
instance (nq : Nat) (d : Dm) : Decidable (okDm nq d) := inferInstanceAs (Decidable (_ ∧ _))
def validT (qs : List Int) (cs : List Ct) (bs : List Bk) (hs : List Hd) (d : Dm) : Bool := decide (chkT qs cs bs hs = 0 ∧ okDm qs.length d)
def ship1 (cs : List Ct) (bs : List Bk) (d : Dm) (x : Sh) : Int :=
  if x.c < 0 ∨ (cs.length : Int) ≤ x.c then 2 else match cs[x.c.toNat]? with
    | none => 2
    | some c => if x.t < d.r ∨ x.t < c.s ∨ c.e ≤ x.t ∨ x.n < 1 ∨ c.r < x.n then 2 else if d.e < x.t + 1 + c.g then 16 else if bookedB bs x.c x.t then 14 else 0
def sameSl (x y : Sh) : Bool := decide (x.c = y.c ∧ x.t = y.t)
def shipE (cs : List Ct) (bs : List Bk) (d : Dm) (l : List Sh) (i : Nat) : Int := match l[i]? with
  | none => 0
  | some x => if ship1 cs bs d x ≠ 0 then ship1 cs bs d x else if (l.take i).any (sameSl x) then 14 else 0
theorem shipE_at {cs : List Ct} {bs : List Bk} {d : Dm} {l : List Sh} {i : Nat} {x : Sh} (h : l[i]? = some x) : shipE cs bs d l i = if ship1 cs bs d x ≠ 0 then ship1 cs bs d x else if (l.take i).any (sameSl x) then 14 else 0 := by unfold shipE; rw [h]
def ctOf (cs : List Ct) (x : Sh) : Ct := cs.getD x.c.toNat ⟨0, 0, 0, 0, 0, 0, 0⟩
def arrOf (cs : List Ct) (x : Sh) : Int := x.t + 1 + (ctOf cs x).g
def stk1 (cs : List Ct) (d : Dm) (n t : Int) (x : Sh) : Int :=
  if n = d.s then (if (ctOf cs x).f = n ∧ t < x.t then x.n else 0) - (if (ctOf cs x).t = n ∧ t < arrOf cs x then x.n else 0)
  else (if (ctOf cs x).t = n ∧ arrOf cs x ≤ t then x.n else 0) - (if (ctOf cs x).f = n ∧ x.t ≤ t then x.n else 0)
def stock (cs : List Ct) (d : Dm) (n t : Int) : List Sh → Int
  | [] => 0
  | x :: l => stk1 cs d n t x + stock cs d n t l
theorem stock_append (cs : List Ct) (d : Dm) (n t : Int) (a b : List Sh) : stock cs d n t (a ++ b) = stock cs d n t a + stock cs d n t b := by
  induction a with
  | nil => simp [stock]
  | cons x a ih => simp only [List.cons_append, stock, ih]; omega
theorem stk1_bd (cs : List Ct) (d : Dm) (n t : Int) (x : Sh) (h : 0 ≤ x.n ∧ x.n ≤ 1000) : -1000 ≤ stk1 cs d n t x ∧ stk1 cs d n t x ≤ 1000 := by
  unfold stk1
  split <;> split <;> split <;> omega
theorem stock_bd (cs : List Ct) (d : Dm) (n t : Int) : ∀ (l : List Sh), (∀ x ∈ l, 0 ≤ x.n ∧ x.n ≤ 1000) → -(1000 * (l.length : Int)) ≤ stock cs d n t l ∧ stock cs d n t l ≤ 1000 * l.length
  | [], _ => by simp [stock]
  | x :: l, h => by
    have ih := stock_bd cs d n t l (fun y hy => h y (by simp [hy]))
    have := stk1_bd cs d n t x (h x (by simp))
    simp only [stock, List.length_cons]
    push_cast
    omega
def roomT (qs : List Int) (hs : List Hd) (d : Dm) (n t : Int) : Int := if n = d.s ∨ n = d.d then 1099511627776 else qs.getD n.toNat 0 - stored hs n t
def confAt (cs : List Ct) (d : Dm) (l : List Sh) (n t : Int) : Bool := decide (stock cs d n t l < 0 ∨ (t = d.e ∧ n ≠ d.s ∧ n ≠ d.d ∧ stock cs d n t l ≠ 0))
def fullAt (qs : List Int) (cs : List Ct) (hs : List Hd) (d : Dm) (l : List Sh) (n t : Int) : Bool := decide (roomT qs hs d n t < stock cs d n t l)
def anyT (p : Int → Bool) (a : Int) (m : Nat) : Bool := (List.range m).any (fun k => p (a + k))
theorem anyT_succ (p : Int → Bool) (a : Int) (m : Nat) : anyT p a (m + 1) = (anyT p a m || p (a + m)) := by
  unfold anyT
  rw [List.range_succ, List.any_append]
  simp
theorem anyT_hit {p : Int → Bool} {a : Int} {k m : Nat} (h : k < m) (hp : p (a + k) = true) : anyT p a m = true := by
  unfold anyT
  rw [List.any_eq_true]
  exact ⟨k, by simpa using h, hp⟩
theorem anyT_none {p : Int → Bool} {a : Int} {m : Nat} : anyT p a m = false ↔ ∀ k : Nat, k < m → p (a + k) = false := by
  unfold anyT
  rw [List.any_eq_false]
  constructor
  · intro h k hk
    have := h k (by simpa using hk)
    simpa using this
  · intro h k hk
    have := h k (by simpa using hk)
    simp [this]
def conflB (nq : Nat) (cs : List Ct) (d : Dm) (l : List Sh) : Bool := anyT (fun n => anyT (confAt cs d l n) d.r (d.e - d.r + 1).toNat) 0 nq
def fullB (qs : List Int) (cs : List Ct) (hs : List Hd) (d : Dm) (l : List Sh) : Bool := anyT (fun n => anyT (fullAt qs cs hs d l n) d.r (d.e - d.r).toNat) 0 qs.length
def flowR (qs : List Int) (cs : List Ct) (bs : List Bk) (hs : List Hd) (d : Dm) (l : List Sh) : Int × Int :=
  if validT qs cs bs hs d = false then (0, 1)
  else if firstE (shipE cs bs d l) l.length ≠ 0 then (0, firstE (shipE cs bs d l) l.length)
  else if conflB qs.length cs d l then (0, 24) else if fullB qs cs hs d l then (0, 15) else (stock cs d d.d d.e l, 0)
def chsOf (cs : List Ct) (x : Sh) : List (List Int) := [[(ctOf cs x).f, x.t, -x.n], [(ctOf cs x).t, arrOf cs x, x.n]]
def upd1 (d : Dm) (a b : Int) (n : Int) (k : Nat) : Int := if n = d.s then (if (k : Int) < a then -b else 0) else (if a ≤ (k : Int) then b else 0)
theorem stk1_chs (cs : List Ct) (d : Dm) (n : Int) (k : Nat) (x : Sh) : stk1 cs d n (d.r + k) x = (if (ctOf cs x).f = n then upd1 d (x.t - d.r) (-x.n) n k else 0) + (if (ctOf cs x).t = n then upd1 d (arrOf cs x - d.r) x.n n k else 0) := by
  unfold stk1 upd1
  by_cases h : n = d.s
  · simp only [h, if_true]
    split <;> split <;> split <;> split <;> omega
  · simp only [h, if_false]
    split <;> split <;> split <;> split <;> omega
end Go.Step
/- The table of stocks, change by change. No program in sight. No conditions. -/
namespace Go.Step
def chS (d : Dm) (n : Int) (k : Nat) : List (List Int) → Int
  | [] => 0
  | c :: l => (if c.getD 0 0 = n then upd1 d (c.getD 1 0 - d.r) (c.getD 2 0) n k else 0) + chS d n k l
theorem chS_append (d : Dm) (n : Int) (k : Nat) (a b : List (List Int)) : chS d n k (a ++ b) = chS d n k a + chS d n k b := by
  induction a with
  | nil => simp [chS]
  | cons x a ih => simp only [List.cons_append, chS, ih]; omega
theorem chS_stock (cs : List Ct) (d : Dm) (n : Int) (k : Nat) : ∀ l : List Sh, chS d n k (l.flatMap (chsOf cs)) = stock cs d n (d.r + k) l
  | [] => rfl
  | x :: l => by
    have ih := chS_stock cs d n k l
    rw [List.flatMap_cons, chS_append, ih]
    simp only [stock, stk1_chs]
    simp [chsOf, chS]
theorem chS_next (d : Dm) (n : Int) (k : Nat) {l : List (List Int)} {i : Nat} {a t b : Int} (h : l[i]? = some [a, t, b]) : chS d n k (l.take (i + 1)) = chS d n k (l.take i) + if a = n then upd1 d (t - d.r) b n k else 0 := by
  obtain ⟨hk, e⟩ := List.getElem?_eq_some_iff.1 h
  rw [List.take_succ_eq_append_getElem hk, chS_append, e]
  simp [chS]
def rowC (m : Nat) (f : Nat → Int) : List Int := (List.range m).map f
theorem rowC_len (m : Nat) (f : Nat → Int) : (rowC m f).length = m := by simp [rowC]
theorem rowC_get {m : Nat} {f : Nat → Int} {k : Nat} (h : k < m) : (rowC m f)[k]? = some (f k) := by simp [rowC, h]
theorem rowC_set {m : Nat} {f : Nat → Int} {j : Nat} {v : Int} : (rowC m f).set j v = rowC m (fun k => if k = j then v else f k) := by
  apply List.ext_getElem?
  intro k
  rw [List.getElem?_set]
  unfold rowC
  rw [List.length_map, List.length_range]
  by_cases h : j = k
  · subst h
    by_cases h2 : j < m
    · simp [h2]
    · simp [h2]
  · rw [if_neg h]
    by_cases h2 : k < m
    · simp [h2, Ne.symm h]
    · simp [h2]
theorem rowC_congr {m : Nat} {f g : Nat → Int} (h : ∀ k, k < m → f k = g k) : rowC m f = rowC m g := by
  unfold rowC
  exact List.map_congr_left (fun k hk => h k (by simpa using hk))
def tabC (d : Dm) (N m : Nat) (l : List (List Int)) : List (List Int) := (List.range N).map (fun (n : Nat) => rowC m (fun k => chS d (n : Int) k l))
theorem tabC_len (d : Dm) (N m : Nat) (l : List (List Int)) : (tabC d N m l).length = N := by simp [tabC]
theorem tabC_get {d : Dm} {N m : Nat} {l : List (List Int)} {n : Nat} (h : n < N) : (tabC d N m l)[n]? = some (rowC m (fun k => chS d n k l)) := by simp [tabC, h]
theorem tabC_zero (d : Dm) (N m : Nat) : tabC d N m [] = List.replicate N (List.replicate m 0) := by
  unfold tabC rowC
  simp only [chS]
  rw [List.map_const', List.map_const', List.length_range, List.length_range]
theorem tabC_next {d : Dm} {N m : Nat} {l : List (List Int)} {i nd : Nat} {t b : Int} (h : l[i]? = some [(nd : Int), t, b]) (hn : nd < N) :
    tabC d N m (l.take (i + 1)) = (tabC d N m (l.take i)).set nd (rowC m (fun k => chS d nd k (l.take i) + upd1 d (t - d.r) b nd k)) := by
  apply List.ext_getElem?
  intro n
  rw [List.getElem?_set, tabC_len]
  by_cases e : nd = n
  · subst e
    rw [if_pos rfl, if_pos hn, tabC_get hn]
    congr 1
    refine rowC_congr (fun k _ => ?_)
    rw [chS_next d nd k h, if_pos rfl]
  · rw [if_neg e]
    by_cases h2 : n < N
    · rw [tabC_get h2, tabC_get h2]
      congr 1
      refine rowC_congr (fun k _ => ?_)
      rw [chS_next d n k h, if_neg (by omega), Int.add_zero]
    · rw [List.getElem?_eq_none (by rw [tabC_len]; omega), List.getElem?_eq_none (by rw [tabC_len]; omega)]
theorem row_src {d : Dm} {m : Nat} {f : Nat → Int} {a b : Int} {n : Int} (hn : n = d.s) : rowC m (fun k => f k + if (k : Int) < min a m then -b else 0) = rowC m (fun k => f k + upd1 d a b n k) := by
  refine rowC_congr (fun k hk => ?_)
  unfold upd1
  rw [if_pos hn]
  by_cases h : (k : Int) < a
  · rw [if_pos (by omega), if_pos h]
  · rw [if_neg (by omega), if_neg h]
theorem row_oth {d : Dm} {m : Nat} {f : Nat → Int} {a j : Nat} {b : Int} {n : Int} (hn : n ≠ d.s) (hj : m ≤ j) : rowC m (fun k => f k + if a ≤ k ∧ k < j then b else 0) = rowC m (fun k => f k + upd1 d a b n k) := by
  refine rowC_congr (fun k hk => ?_)
  unfold upd1
  rw [if_neg hn]
  by_cases h : a ≤ k
  · rw [if_pos ⟨h, by omega⟩, if_pos (by omega)]
  · rw [if_neg (fun h2 => h h2.1), if_neg (by omega)]
theorem chS_bd (d : Dm) (n : Int) (k : Nat) : ∀ (l : List (List Int)), (∀ c ∈ l, -1000 ≤ c.getD 2 0 ∧ c.getD 2 0 ≤ 1000) → -(1000 * (l.length : Int)) ≤ chS d n k l ∧ chS d n k l ≤ 1000 * l.length
  | [], _ => by simp [chS]
  | c :: l, h => by
    have ih := chS_bd d n k l (fun y hy => h y (by simp [hy]))
    have h0 := h c (by simp)
    simp only [chS, List.length_cons]
    push_cast
    unfold upd1
    split <;> (try split) <;> (try split) <;> omega
end Go.Step
/- Sets of integers as spans. No program in sight. No conditions. -/
namespace Go.Step
def okSp (x : Int × Int) : Prop := x.1 < x.2 ∧ -1152921504606846976 ≤ x.1 ∧ x.2 ≤ 1152921504606846976
instance (x : Int × Int) : Decidable (okSp x) := inferInstanceAs (Decidable (_ ∧ _))
def spE (l : List (Int × Int)) (i : Nat) : Int := match l[i]? with
  | some x => if ¬ okSp x then 2 else if 0 < i ∧ x.1 ≤ (l.getD (i - 1) x).2 then 9 else 0
  | none => 0
theorem spE_at {l : List (Int × Int)} {i : Nat} {x : Int × Int} (e : l[i]? = some x) : spE l i = if ¬ okSp x then 2 else if 0 < i ∧ x.1 ≤ (l.getD (i - 1) x).2 then 9 else 0 := by unfold spE; rw [e]
def chkI (l : List (Int × Int)) : Int := if 1000 < l.length then 4 else firstE (spE l) l.length
def inSp (t : Int) (x : Int × Int) : Bool := decide (x.1 ≤ t) && decide (t < x.2)
def hasI (l : List (Int × Int)) (t : Int) : Bool := decide (chkI l = 0) && l.any (inSp t)
end Go.Step
/- Sets of integers: checked, asked. -/
namespace Go.Proofs.YtknfhiolenobaaaGreat
open Go.Eng Go.Step
set_option maxRecDepth 100000
set_option maxHeartbeats 4000000

theorem ivValid_spec (x : Int × Int) : Ans Tryz.prog (fv 51) [.agg #[int x.1, int x.2]] [] (fun r => r = .bool (decide (okSp x))) := by
 refine spec_in (cap := []) Tryz.func51 rfl rfl Tryz.ntmps51 rfl envZ (fun N β => ?_)
 by_cases h1 : x.1 < x.2
 ·by_cases h2 : -1152921504606846976 ≤ x.1
  ·by_cases h3 : x.2 ≤ 1152921504606846976
   ·rw [decide_eq_true (show okSp x from ⟨h1, h2, h3⟩)]
    refine AC ?_
    refine AA ?_
    refine BX ?_; rintro _ _ ⟨b, rfl, rfl⟩
    refine AD ?_
    refine AE ?_
    refine AC ?_
    refine AA ?_
    refine AH ?_
    refine AG ?_
    refine AH ?_
    refine AG ?_
    refine BH ?_
    refine AB ?_
    refine AH ?_
    refine AG ?_
    refine CE ?_
    refine AK ?_
    refine AB ?_
    refine AH ?_
    refine AG ?_
    refine CZ ?_
    refine AK ?_
    refine AD ?_
    refine AE ?_
    exact AI (res1 rfl rfl) rsubZ selZ ⟨rfl, rfl⟩
   ·rw [decide_eq_false (fun h : okSp x => h3 h.2.2)]
    refine AC ?_
    refine AA ?_
    refine BX ?_; rintro _ _ ⟨b, rfl, rfl⟩
    refine AD ?_
    refine AE ?_
    refine AC ?_
    refine AA ?_
    refine AH ?_
    refine AG ?_
    refine AH ?_
    refine AG ?_
    refine BH ?_
    refine AB ?_
    refine AH ?_
    refine AG ?_
    refine CE ?_
    refine AK ?_
    refine AB ?_
    refine AH ?_
    refine AG ?_
    refine CO ?_
    refine AK ?_
    refine AD ?_
    refine AE ?_
    exact AI (res1 rfl rfl) rsubZ selZ ⟨rfl, rfl⟩
  ·rw [decide_eq_false (fun h : okSp x => h2 h.2.1)]
   refine AC ?_
   refine AA ?_
   refine BX ?_; rintro _ _ ⟨b, rfl, rfl⟩
   refine AD ?_
   refine AE ?_
   refine AC ?_
   refine AA ?_
   refine AH ?_
   refine AG ?_
   refine AH ?_
   refine AG ?_
   refine BH ?_
   refine AB ?_
   refine AH ?_
   refine AG ?_
   refine BJ ?_
   refine AK ?_
   refine AB ?_
   refine AF rfl rfl rfl ?_
   refine AF rfl rfl rfl ?_
   refine AF rfl rfl rfl ?_
   refine AJ ?_
   refine AD ?_
   refine AE ?_
   exact AI (res1 rfl rfl) rsubZ selZ ⟨rfl, rfl⟩
 ·rw [decide_eq_false (fun h : okSp x => h1 h.1)]
  refine AC ?_
  refine AA ?_
  refine BX ?_; rintro _ _ ⟨b, rfl, rfl⟩
  refine AD ?_
  refine AE ?_
  refine AC ?_
  refine AA ?_
  refine AH ?_
  refine AG ?_
  refine AH ?_
  refine AG ?_
  refine A0 ?_
  refine AB ?_
  refine AF rfl rfl rfl ?_
  refine AF rfl rfl rfl ?_
  refine AF rfl rfl rfl ?_
  refine AJ ?_
  refine AB ?_
  refine AF rfl rfl rfl ?_
  refine AF rfl rfl rfl ?_
  refine AF rfl rfl rfl ?_
  refine AJ ?_
  refine AD ?_
  refine AE ?_
  exact AI (res1 rfl rfl) rsubZ selZ ⟨rfl, rfl⟩
set_option maxHeartbeats 16000000 in
theorem ivCheck_spec (ρ : PH) (v : Value) (l : List (Int × Int)) (hv : SpAt ρ v l) (hl : l.length ≤ 9223372036854775807) :
  Ans Tryz.prog (fv 27) [v] [ρ] (fun r => r = int (chkI l)) := by
 obtain ⟨q, c, rfl, hr⟩ := hv.val encS_len
 refine spec_in (cap := []) Tryz.func27 rfl rfl Tryz.ntmps27 rfl envZ (fun N β => ?_)
 unfold chkI
 by_cases hbig : 1000 < l.length
 ·rw [if_pos hbig]
  refine AC ?_
  refine AA ?_
  refine AD ?_
  refine AE ?_
  refine AC ?_
  refine AC ?_
  refine AA ?_
  refine AB ?_
  refine A3 ?_
  refine CI ?_
  refine AE ?_
  refine AM rfl ?_
  refine AC ?_
  refine AA ?_
  refine AD ?_
  refine AE ?_
  exact AI (res1 rfl rfl) rsubZ selZ ⟨rfl, rfl⟩
 rw [if_neg hbig]
 refine AC ?_
 refine AA ?_
 refine AD ?_
 refine AE ?_
 refine AC ?_
 refine AC ?_
 refine AA ?_
 refine AB ?_
 refine A3 ?_
 refine BR ?_
 refine AE ?_
 refine AN rfl ?_
 refine AL ?_
 refine AC ?_
 refine AC ?_
 refine AA ?_
 refine AB ?_
 refine A3 ?_
 refine AB ?_
 refine AE ?_
 refine AO ?_
 refine BI [0, 8, 9] (0 : Nat) (fun k => k ≤ l.length ∧ firstE (spE l) k = 0) (fun k => [(10, int k)]) (fun _ => []) (fun k => l.length - k) pickZ ⟨by omega, rfl⟩ covZ selZ ?_
 rintro k ⟨hk, hI⟩
 by_cases hlt : k < l.length
 ·have hx := List.getElem?_eq_getElem hlt
  obtain ⟨b4, o4, rfl, hrd, g0, g1⟩ := spRow hr hx
  have hE := spE_at hx
  generalize l[k] = x at hrd g0 g1 hE
  refine AC ?_
  refine AA ?_
  refine BH ?_
  refine AE ?_
  refine AC ?_
  refine AM rfl ?_
  refine AL ?_
  refine AC ?_
  refine AO ?_
  refine AC ?_
  refine AA ?_
  refine AB ?_
  refine BF ?_
  refine AS ?_
  refine AX ?_; rintro _ _ ⟨b, rfl, rfl⟩
  refine AD ?_
  refine AW ?_; rintro _ _ ⟨rfl, rfl⟩
  refine AE ?_
  refine AC ?_
  refine AC ?_
  refine AA ?_
  refine AS ?_
  revert b; intro b6
  refine AZ (ivValid_spec x) rfl rfl rdZ rfl rfl ?_
  rintro _ rfl
  by_cases hok : okSp x
  rotate_left
  ·rw [if_pos hok] at hE
   have hh := firstE_hit hI (by rw [hE]; decide) _ hlt
   rw [hh, hE, decide_eq_false hok]
   refine A8 ?_
   refine AE ?_
   refine AM rfl ?_
   refine AC ?_
   refine AA ?_
   refine AD ?_
   refine AE ?_
   exact AI (res1 rfl rfl) rsubZ selZ ⟨rfl, rfl⟩
  rw [if_neg (fun h => h hok)] at hE
  rw [decide_eq_true hok]
  refine A8 ?_
  refine AE ?_
  refine AN rfl ?_
  refine AL ?_
  refine AC ?_
  refine BB (.q 0 (.q 1 (.q 2 (.q 3 (.q 4 (.q 5 (.q 6 (.q 7 (.q 8 (.q 9 (.q 10 (.q 11 (.q 12 .nil))))))))))))) [sng b6 _] rfl (by kernel_rfl) selZ ?_
  by_cases h0 : k = 0
  ·subst h0
   rw [if_neg (by omega)] at hE
   refine AR ?_
   refine EI ?_
   refine AR ?_
   refine AU rfl rfl rfl rfl rfl ?_
   refine AU rfl rfl rfl rfl rfl ?_
   refine AU rfl rfl rfl rfl rfl ?_
   refine AU rfl rfl rfl rfl rfl ?_
   refine AU rfl rfl rfl rfl rfl ?_
   refine AU rfl rfl rfl rfl rfl ?_
   refine AU rfl rfl rfl rfl rfl ?_
   refine AU rfl rfl rfl rfl rfl ?_
   refine AU rfl rfl rfl rfl rfl ?_
   refine BQ ?_
   refine BD ?_
   refine AN rfl ?_
   refine AL ?_
   refine A2 ?_
   refine AA ?_
   refine BA ?_
   refine AB ?_
   refine AE ?_
   exact AY (0 + 1) ⟨by omega, firstE_ok hI hE⟩ (by omega) covZ selZ
  ·have hx' := List.getElem?_eq_getElem (show k - 1 < l.length by omega)
   obtain ⟨_, _, e, _, p0, p1⟩ := spRow hr hx'
   simp only [Option.some.injEq, Addr.mk.injEq, and_true] at e
   obtain ⟨rfl, rfl⟩ := e
   rw [List.getD_eq_getElem?_getD, hx', Option.getD_some] at hE
   generalize l[k - 1] = p at p0 p1 hE
   by_cases h9 : x.1 ≤ p.2
   ·rw [if_pos ⟨by omega, h9⟩] at hE
    have hh := firstE_hit hI (by rw [hE]; decide) _ hlt
    rw [hh, hE]
    refine AR ?_
    refine ES ?_
    refine AR ?_
    refine AV ?_
    refine AQ ?_
    refine AR ?_
    refine AR ?_
    refine CV ?_
    refine C5 ?_
    refine DL ?_
    refine AQ ?_
    refine HF ?_
    refine BU ?_
    refine BD ?_
    refine AM rfl ?_
    refine AC ?_
    refine AA ?_
    refine AD ?_
    refine AE ?_
    exact AI (res1 rfl rfl) rsubZ selZ ⟨rfl, rfl⟩
   ·rw [if_neg (fun h => h9 h.2)] at hE
    refine AR ?_
    refine ES ?_
    refine AR ?_
    refine AV ?_
    refine AQ ?_
    refine AR ?_
    refine AR ?_
    refine CV ?_
    refine C5 ?_
    refine DL ?_
    refine AQ ?_
    refine GG ?_
    refine BU ?_
    refine BD ?_
    refine AN rfl ?_
    refine AL ?_
    refine A2 ?_
    refine AA ?_
    refine BA ?_
    refine AB ?_
    refine AE ?_
    exact AY (k + 1) ⟨by omega, firstE_ok hI hE⟩ (by omega) covZ selZ
 have hke : k = l.length := by omega
 subst hke
 rw [hI]
 refine AC ?_
 refine AA ?_
 refine A0 ?_
 refine AE ?_
 refine AC ?_
 refine AN rfl ?_
 refine A7 rfl ?_
 refine AC ?_
 refine AA ?_
 refine AD ?_
 refine AE ?_
 exact AI (res1 rfl rfl) rsubZ selZ ⟨rfl, rfl⟩
theorem ivHas1_spec (bt : Nat) (t : Int) (x : Int × Int) : Ans Tryz.prog (.func (.func 53) #[] #[.pointer (some ⟨bt, 0, none⟩)]) [.agg (encS x).toArray] [sng bt (.cells #[int t] 3 (0, 0))] (fun r => r = .bool (inSp t x)) := by
 refine spec_in (cap := [.pointer (some ⟨bt, 0, none⟩)]) Tryz.func53 rfl rfl Tryz.ntmps53 rfl envZ (fun N β => ?_)
 unfold inSp
 have c1 : rdc (sng bt (.cells #[int t] 3 (0, 0))) bt 0 = some (int t) := by rw [rdc_sng]; rfl
 by_cases h1 : x.1 ≤ t
 ·by_cases h2 : t < x.2
  ·rw [decide_eq_true h1, decide_eq_true h2]
   repeat' (first
    | (first | (first | (refine AB ?_) | (refine AD ?_) | (refine AP ?_) | (refine AG ?_) | (refine AH ?_) | (refine CY ?_) | (refine DB ?_) | (refine BM ?_) | (refine BK ?_) | (refine BF ?_) | (refine CW ?_) | (refine AK ?_)) | (first | (refine AJ ?_) | (refine A3 ?_) | (refine A8 ?_) | (refine BC ?_) | (refine BO ?_) | (refine BP ?_) | (refine BA ?_) | (refine BH ?_) | (refine A0 ?_) | (refine CP ?_) | (refine BZ ?_) | (refine B9 ?_)) | (first | (refine A9 ?_) | (refine CI ?_) | (refine BR ?_) | (refine CZ ?_) | (refine CO ?_) | (refine CE ?_) | (refine BJ ?_) | (refine BT ?_) | (refine B4 ?_) | (refine CJ ?_) | (refine DF ?_) | (refine C7 ?_)) | (first | (refine CT ?_) | (refine C3 ?_) | (refine DG ?_) | (refine DH ?_) | (refine AS ?_) | (refine C4 ?_) | (refine CR ?_) | (refine BE ?_) | (refine B8 ?_) | (refine CK ?_) | (refine DI ?_) | (refine CB ?_)) | (first | (refine CL ?_) | (refine BY ?_) | (refine CM ?_) | (refine BN ?_) | (refine DD ?_)))
    | refine AC ?_
    | refine AA ?_
    | refine AE ?_
    | refine AO ?_
    | refine A2 ?_
    | refine AL ?_
    | refine AM rfl ?_
    | refine AN rfl ?_
    | refine A7 rfl ?_
    | refine AF rfl rfl rfl ?_
    | (first | (refine CD ?_; rintro _ _ ⟨b, rfl, rfl⟩) | (refine CA ?_; rintro _ _ ⟨b, rfl, rfl⟩) | (refine CG ?_; rintro _ _ ⟨b, rfl, rfl⟩) | (refine AX ?_; rintro _ _ ⟨b, rfl, rfl⟩) | (refine BG ?_; rintro _ _ ⟨b, rfl, rfl⟩) | (refine A5 ?_; rintro _ _ ⟨b, rfl, rfl⟩) | (refine BX ?_; rintro _ _ ⟨b, rfl, rfl⟩) | (refine CQ ?_; rintro _ _ ⟨b, rfl, rfl⟩))
    | (first | (refine BW ?_; rintro _ _ ⟨rfl, rfl⟩) | (refine B0 ?_; rintro _ _ ⟨rfl, rfl⟩) | (refine AW ?_; rintro _ _ ⟨rfl, rfl⟩) | (refine A6 ?_; rintro _ _ ⟨rfl, rfl⟩) | (refine CN ?_; rintro _ _ ⟨rfl, rfl⟩))
    | fail)
   exact AI (res1 rfl rfl) rsubZ selZ ⟨rfl, rfl⟩
  ·rw [decide_eq_true h1, decide_eq_false h2]
   repeat' (first
    | (first | (first | (refine AB ?_) | (refine AD ?_) | (refine AP ?_) | (refine AG ?_) | (refine AH ?_) | (refine CY ?_) | (refine DB ?_) | (refine BM ?_) | (refine BK ?_) | (refine BF ?_) | (refine CW ?_) | (refine AK ?_)) | (first | (refine AJ ?_) | (refine A3 ?_) | (refine A8 ?_) | (refine BC ?_) | (refine BO ?_) | (refine BP ?_) | (refine BA ?_) | (refine BH ?_) | (refine A0 ?_) | (refine CP ?_) | (refine BZ ?_) | (refine B9 ?_)) | (first | (refine A9 ?_) | (refine CI ?_) | (refine BR ?_) | (refine CZ ?_) | (refine CO ?_) | (refine CE ?_) | (refine BJ ?_) | (refine BT ?_) | (refine B4 ?_) | (refine CJ ?_) | (refine DF ?_) | (refine C7 ?_)) | (first | (refine CT ?_) | (refine C3 ?_) | (refine DG ?_) | (refine DH ?_) | (refine AS ?_) | (refine C4 ?_) | (refine CR ?_) | (refine BE ?_) | (refine B8 ?_) | (refine CK ?_) | (refine DI ?_) | (refine CB ?_)) | (first | (refine CL ?_) | (refine BY ?_) | (refine CM ?_) | (refine BN ?_) | (refine DD ?_)))
    | refine AC ?_
    | refine AA ?_
    | refine AE ?_
    | refine AO ?_
    | refine A2 ?_
    | refine AL ?_
    | refine AM rfl ?_
    | refine AN rfl ?_
    | refine A7 rfl ?_
    | refine AF rfl rfl rfl ?_
    | (first | (refine CD ?_; rintro _ _ ⟨b, rfl, rfl⟩) | (refine CA ?_; rintro _ _ ⟨b, rfl, rfl⟩) | (refine CG ?_; rintro _ _ ⟨b, rfl, rfl⟩) | (refine AX ?_; rintro _ _ ⟨b, rfl, rfl⟩) | (refine BG ?_; rintro _ _ ⟨b, rfl, rfl⟩) | (refine A5 ?_; rintro _ _ ⟨b, rfl, rfl⟩) | (refine BX ?_; rintro _ _ ⟨b, rfl, rfl⟩) | (refine CQ ?_; rintro _ _ ⟨b, rfl, rfl⟩))
    | (first | (refine BW ?_; rintro _ _ ⟨rfl, rfl⟩) | (refine B0 ?_; rintro _ _ ⟨rfl, rfl⟩) | (refine AW ?_; rintro _ _ ⟨rfl, rfl⟩) | (refine A6 ?_; rintro _ _ ⟨rfl, rfl⟩) | (refine CN ?_; rintro _ _ ⟨rfl, rfl⟩))
    | fail)
   exact AI (res1 rfl rfl) rsubZ selZ ⟨rfl, rfl⟩
 ·rw [decide_eq_false h1, Bool.false_and]
  repeat' (first
   | (first | (first | (refine AB ?_) | (refine AD ?_) | (refine AP ?_) | (refine AG ?_) | (refine AH ?_) | (refine CY ?_) | (refine DB ?_) | (refine BM ?_) | (refine BK ?_) | (refine BF ?_) | (refine CW ?_) | (refine AK ?_)) | (first | (refine AJ ?_) | (refine A3 ?_) | (refine A8 ?_) | (refine BC ?_) | (refine BO ?_) | (refine BP ?_) | (refine BA ?_) | (refine BH ?_) | (refine A0 ?_) | (refine CP ?_) | (refine BZ ?_) | (refine B9 ?_)) | (first | (refine A9 ?_) | (refine CI ?_) | (refine BR ?_) | (refine CZ ?_) | (refine CO ?_) | (refine CE ?_) | (refine BJ ?_) | (refine BT ?_) | (refine B4 ?_) | (refine CJ ?_) | (refine DF ?_) | (refine C7 ?_)) | (first | (refine CT ?_) | (refine C3 ?_) | (refine DG ?_) | (refine DH ?_) | (refine AS ?_) | (refine C4 ?_) | (refine CR ?_) | (refine BE ?_) | (refine B8 ?_) | (refine CK ?_) | (refine DI ?_) | (refine CB ?_)) | (first | (refine CL ?_) | (refine BY ?_) | (refine CM ?_) | (refine BN ?_) | (refine DD ?_)))
   | refine AC ?_
   | refine AA ?_
   | refine AE ?_
   | refine AO ?_
   | refine A2 ?_
   | refine AL ?_
   | refine AM rfl ?_
   | refine AN rfl ?_
   | refine A7 rfl ?_
   | refine AF rfl rfl rfl ?_
   | (first | (refine CD ?_; rintro _ _ ⟨b, rfl, rfl⟩) | (refine CA ?_; rintro _ _ ⟨b, rfl, rfl⟩) | (refine CG ?_; rintro _ _ ⟨b, rfl, rfl⟩) | (refine AX ?_; rintro _ _ ⟨b, rfl, rfl⟩) | (refine BG ?_; rintro _ _ ⟨b, rfl, rfl⟩) | (refine A5 ?_; rintro _ _ ⟨b, rfl, rfl⟩) | (refine BX ?_; rintro _ _ ⟨b, rfl, rfl⟩) | (refine CQ ?_; rintro _ _ ⟨b, rfl, rfl⟩))
   | (first | (refine BW ?_; rintro _ _ ⟨rfl, rfl⟩) | (refine B0 ?_; rintro _ _ ⟨rfl, rfl⟩) | (refine AW ?_; rintro _ _ ⟨rfl, rfl⟩) | (refine A6 ?_; rintro _ _ ⟨rfl, rfl⟩) | (refine CN ?_; rintro _ _ ⟨rfl, rfl⟩))
   | fail)
  exact AI (res1 rfl rfl) rsubZ selZ ⟨rfl, rfl⟩
theorem ivHas_spec (ρ : PH) (v : Value) (l : List (Int × Int)) (t : Int) (hv : SpAt ρ v l) (hl : l.length ≤ 9223372036854775807) :
  Ans Tryz.prog (fv 28) [v, int t] [ρ] (fun r => r = .bool (hasI l t)) := by
 have hv2 := hv
 obtain ⟨q, c, rfl, hr⟩ := hv.val encS_len
 refine spec_in (cap := []) Tryz.func28 rfl rfl Tryz.ntmps28 rfl envZ (fun N β => ?_)
 repeat' (first
  | (first | (first | (refine AB ?_) | (refine AD ?_) | (refine AP ?_) | (refine AG ?_) | (refine AH ?_) | (refine CY ?_) | (refine DB ?_) | (refine BM ?_) | (refine BK ?_) | (refine BF ?_) | (refine CW ?_) | (refine AK ?_)) | (first | (refine AJ ?_) | (refine A3 ?_) | (refine A8 ?_) | (refine BC ?_) | (refine BO ?_) | (refine BP ?_) | (refine BA ?_) | (refine BH ?_) | (refine A0 ?_) | (refine CP ?_) | (refine BZ ?_) | (refine B9 ?_)) | (first | (refine A9 ?_) | (refine CI ?_) | (refine BR ?_) | (refine CZ ?_) | (refine CO ?_) | (refine CE ?_) | (refine BJ ?_) | (refine BT ?_) | (refine B4 ?_) | (refine CJ ?_) | (refine DF ?_) | (refine C7 ?_)) | (first | (refine CT ?_) | (refine C3 ?_) | (refine DG ?_) | (refine DH ?_) | (refine AS ?_) | (refine C4 ?_) | (refine CR ?_) | (refine BE ?_) | (refine B8 ?_) | (refine CK ?_) | (refine DI ?_) | (refine CB ?_)) | (first | (refine CL ?_) | (refine BY ?_) | (refine CM ?_) | (refine BN ?_) | (refine DD ?_)))
  | refine AC ?_
  | refine AA ?_
  | refine AE ?_
  | refine AO ?_
  | refine A2 ?_
  | refine AL ?_
  | refine AM rfl ?_
  | refine AN rfl ?_
  | refine A7 rfl ?_
  | refine AF rfl rfl rfl ?_
  | (first | (refine CD ?_; rintro _ _ ⟨b, rfl, rfl⟩) | (refine CA ?_; rintro _ _ ⟨b, rfl, rfl⟩) | (refine CG ?_; rintro _ _ ⟨b, rfl, rfl⟩) | (refine AX ?_; rintro _ _ ⟨b, rfl, rfl⟩) | (refine BG ?_; rintro _ _ ⟨b, rfl, rfl⟩) | (refine A5 ?_; rintro _ _ ⟨b, rfl, rfl⟩) | (refine BX ?_; rintro _ _ ⟨b, rfl, rfl⟩) | (refine CQ ?_; rintro _ _ ⟨b, rfl, rfl⟩))
  | (first | (refine BW ?_; rintro _ _ ⟨rfl, rfl⟩) | (refine B0 ?_; rintro _ _ ⟨rfl, rfl⟩) | (refine AW ?_; rintro _ _ ⟨rfl, rfl⟩) | (refine A6 ?_; rintro _ _ ⟨rfl, rfl⟩) | (refine CN ?_; rintro _ _ ⟨rfl, rfl⟩))
  | fail)
 refine AZ (ivCheck_spec ρ _ l hv2 hl) rfl rfl rdZ rfl rfl ?_
 rintro _ rfl
 unfold hasI
 by_cases h0 : chkI l = 0
 rotate_left
 ·rw [decide_eq_false h0, Bool.false_and]
  generalize chkI l = z at h0
  repeat' (first
   | (first | (first | (refine AB ?_) | (refine AD ?_) | (refine AP ?_) | (refine AG ?_) | (refine AH ?_) | (refine CY ?_) | (refine DB ?_) | (refine BM ?_) | (refine BK ?_) | (refine BF ?_) | (refine CW ?_) | (refine AK ?_)) | (first | (refine AJ ?_) | (refine A3 ?_) | (refine A8 ?_) | (refine BC ?_) | (refine BO ?_) | (refine BP ?_) | (refine BA ?_) | (refine BH ?_) | (refine A0 ?_) | (refine CP ?_) | (refine BZ ?_) | (refine B9 ?_)) | (first | (refine A9 ?_) | (refine CI ?_) | (refine BR ?_) | (refine CZ ?_) | (refine CO ?_) | (refine CE ?_) | (refine BJ ?_) | (refine BT ?_) | (refine B4 ?_) | (refine CJ ?_) | (refine DF ?_) | (refine C7 ?_)) | (first | (refine CT ?_) | (refine C3 ?_) | (refine DG ?_) | (refine DH ?_) | (refine AS ?_) | (refine C4 ?_) | (refine CR ?_) | (refine BE ?_) | (refine B8 ?_) | (refine CK ?_) | (refine DI ?_) | (refine CB ?_)) | (first | (refine CL ?_) | (refine BY ?_) | (refine CM ?_) | (refine BN ?_) | (refine DD ?_)))
   | refine AC ?_
   | refine AA ?_
   | refine AE ?_
   | refine AO ?_
   | refine A2 ?_
   | refine AL ?_
   | refine AM rfl ?_
   | refine AN rfl ?_
   | refine A7 rfl ?_
   | refine AF rfl rfl rfl ?_
   | (first | (refine CD ?_; rintro _ _ ⟨b, rfl, rfl⟩) | (refine CA ?_; rintro _ _ ⟨b, rfl, rfl⟩) | (refine CG ?_; rintro _ _ ⟨b, rfl, rfl⟩) | (refine AX ?_; rintro _ _ ⟨b, rfl, rfl⟩) | (refine BG ?_; rintro _ _ ⟨b, rfl, rfl⟩) | (refine A5 ?_; rintro _ _ ⟨b, rfl, rfl⟩) | (refine BX ?_; rintro _ _ ⟨b, rfl, rfl⟩) | (refine CQ ?_; rintro _ _ ⟨b, rfl, rfl⟩))
   | (first | (refine BW ?_; rintro _ _ ⟨rfl, rfl⟩) | (refine B0 ?_; rintro _ _ ⟨rfl, rfl⟩) | (refine AW ?_; rintro _ _ ⟨rfl, rfl⟩) | (refine A6 ?_; rintro _ _ ⟨rfl, rfl⟩) | (refine CN ?_; rintro _ _ ⟨rfl, rfl⟩))
   | fail)
  exact AI (res1 rfl rfl) rsubZ selZ ⟨rfl, rfl⟩
 rw [decide_eq_true h0, Bool.true_and, h0]
 repeat' (first
  | (first | (first | (refine AB ?_) | (refine AD ?_) | (refine AP ?_) | (refine AG ?_) | (refine AH ?_) | (refine CY ?_) | (refine DB ?_) | (refine BM ?_) | (refine BK ?_) | (refine BF ?_) | (refine CW ?_) | (refine AK ?_)) | (first | (refine AJ ?_) | (refine A3 ?_) | (refine A8 ?_) | (refine BC ?_) | (refine BO ?_) | (refine BP ?_) | (refine BA ?_) | (refine BH ?_) | (refine A0 ?_) | (refine CP ?_) | (refine BZ ?_) | (refine B9 ?_)) | (first | (refine A9 ?_) | (refine CI ?_) | (refine BR ?_) | (refine CZ ?_) | (refine CO ?_) | (refine CE ?_) | (refine BJ ?_) | (refine BT ?_) | (refine B4 ?_) | (refine CJ ?_) | (refine DF ?_) | (refine C7 ?_)) | (first | (refine CT ?_) | (refine C3 ?_) | (refine DG ?_) | (refine DH ?_) | (refine AS ?_) | (refine C4 ?_) | (refine CR ?_) | (refine BE ?_) | (refine B8 ?_) | (refine CK ?_) | (refine DI ?_) | (refine CB ?_)) | (first | (refine CL ?_) | (refine BY ?_) | (refine CM ?_) | (refine BN ?_) | (refine DD ?_)))
  | refine AC ?_
  | refine AA ?_
  | refine AE ?_
  | refine AO ?_
  | refine A2 ?_
  | refine AL ?_
  | refine AM rfl ?_
  | refine AN rfl ?_
  | refine A7 rfl ?_
  | refine AF rfl rfl rfl ?_
  | (first | (refine CD ?_; rintro _ _ ⟨b, rfl, rfl⟩) | (refine CA ?_; rintro _ _ ⟨b, rfl, rfl⟩) | (refine CG ?_; rintro _ _ ⟨b, rfl, rfl⟩) | (refine AX ?_; rintro _ _ ⟨b, rfl, rfl⟩) | (refine BG ?_; rintro _ _ ⟨b, rfl, rfl⟩) | (refine A5 ?_; rintro _ _ ⟨b, rfl, rfl⟩) | (refine BX ?_; rintro _ _ ⟨b, rfl, rfl⟩) | (refine CQ ?_; rintro _ _ ⟨b, rfl, rfl⟩))
  | (first | (refine BW ?_; rintro _ _ ⟨rfl, rfl⟩) | (refine B0 ?_; rintro _ _ ⟨rfl, rfl⟩) | (refine AW ?_; rintro _ _ ⟨rfl, rfl⟩) | (refine A6 ?_; rintro _ _ ⟨rfl, rfl⟩) | (refine CN ?_; rintro _ _ ⟨rfl, rfl⟩))
  | fail)
 refine AZ (contS_spec ρ [sng b (.cells #[int t] 3 (0, 0))] _ _ l (inSp t) hv2 hl (fun i x _ => ivHas1_spec b t x)) rfl rfl rdZ rfl rfl ?_
 rintro _ rfl
 repeat' (first
  | (first | (first | (refine AB ?_) | (refine AD ?_) | (refine AP ?_) | (refine AG ?_) | (refine AH ?_) | (refine CY ?_) | (refine DB ?_) | (refine BM ?_) | (refine BK ?_) | (refine BF ?_) | (refine CW ?_) | (refine AK ?_)) | (first | (refine AJ ?_) | (refine A3 ?_) | (refine A8 ?_) | (refine BC ?_) | (refine BO ?_) | (refine BP ?_) | (refine BA ?_) | (refine BH ?_) | (refine A0 ?_) | (refine CP ?_) | (refine BZ ?_) | (refine B9 ?_)) | (first | (refine A9 ?_) | (refine CI ?_) | (refine BR ?_) | (refine CZ ?_) | (refine CO ?_) | (refine CE ?_) | (refine BJ ?_) | (refine BT ?_) | (refine B4 ?_) | (refine CJ ?_) | (refine DF ?_) | (refine C7 ?_)) | (first | (refine CT ?_) | (refine C3 ?_) | (refine DG ?_) | (refine DH ?_) | (refine AS ?_) | (refine C4 ?_) | (refine CR ?_) | (refine BE ?_) | (refine B8 ?_) | (refine CK ?_) | (refine DI ?_) | (refine CB ?_)) | (first | (refine CL ?_) | (refine BY ?_) | (refine CM ?_) | (refine BN ?_) | (refine DD ?_)))
  | refine AC ?_
  | refine AA ?_
  | refine AE ?_
  | refine AO ?_
  | refine A2 ?_
  | refine AL ?_
  | refine AM rfl ?_
  | refine AN rfl ?_
  | refine A7 rfl ?_
  | refine AF rfl rfl rfl ?_
  | (first | (refine CD ?_; rintro _ _ ⟨b, rfl, rfl⟩) | (refine CA ?_; rintro _ _ ⟨b, rfl, rfl⟩) | (refine CG ?_; rintro _ _ ⟨b, rfl, rfl⟩) | (refine AX ?_; rintro _ _ ⟨b, rfl, rfl⟩) | (refine BG ?_; rintro _ _ ⟨b, rfl, rfl⟩) | (refine A5 ?_; rintro _ _ ⟨b, rfl, rfl⟩) | (refine BX ?_; rintro _ _ ⟨b, rfl, rfl⟩) | (refine CQ ?_; rintro _ _ ⟨b, rfl, rfl⟩))
  | (first | (refine BW ?_; rintro _ _ ⟨rfl, rfl⟩) | (refine B0 ?_; rintro _ _ ⟨rfl, rfl⟩) | (refine AW ?_; rintro _ _ ⟨rfl, rfl⟩) | (refine A6 ?_; rintro _ _ ⟨rfl, rfl⟩) | (refine CN ?_; rintro _ _ ⟨rfl, rfl⟩))
  | fail)
 exact AI (res1 rfl rfl) rsubZ selZ ⟨rfl, rfl⟩
end Go.Proofs.YtknfhiolenobaaaGreat
