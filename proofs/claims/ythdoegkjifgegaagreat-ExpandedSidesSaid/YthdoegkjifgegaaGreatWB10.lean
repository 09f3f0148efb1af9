/- Texts of this proof, one after the other; no conditions. -/
import Derived.Test.YthdoegkjifgegaaGreatWB9
import Derived.Test.YthdoegkjifgegaaGreatWB3
import Derived.Test.YthdoegkjifgegaaGreatWB6
import Derived.Test.YthdoegkjifgegaaGreatWB2
import Derived.Test.YthdoegkjifgegaaGreatWB7
import Derived.Test.YthdoegkjifgegaaGreatWB1
import Derived.Test.YthdoegkjifgegaaGreatWB8
set_option linter.all false
/- The shipments of a flow, one after the other; what Shipments answers. No program in sight. No conditions. -/
namespace Go.Step
open Go.Flow
variable {qs : List Int} {cs : List Ct} {bs : List Bk} {hs : List Hd} {d : Dm}
theorem shipsF_append : ∀ {A B : List EA} {f g : List Int}, A.length = f.length → shipsF (A ++ B) (f ++ g) = shipsF A f ++ shipsF B g
  | [], _, [], _, _ => rfl
  | [], _, _ :: _, _, h => by simp at h
  | _ :: _, _, [], _, h => by simp at h
  | x :: A, B, y :: f, g, h => by
    simp only [List.cons_append, shipsF]
    rw [shipsF_append (by simpa using h), List.append_assoc]
theorem shipsF_next {L : List EA} {fl : List Int} (h : fl.length = L.length) {i : Nat} {x : EA} {y : Int} (hx : L[i]? = some x) (hy : fl[i]? = some y) :
    shipsF (L.take (i + 1)) (fl.take (i + 1)) = shipsF (L.take i) (fl.take i) ++ (if 0 ≤ x.c ∧ 0 < y then [⟨x.c, x.t, y⟩] else []) := by
  rw [List.take_add_one, List.take_add_one, hx, hy]
  rw [shipsF_append (by rw [List.length_take, List.length_take, h])]
  simp [shipsF]
theorem shipsF_len : ∀ (L : List EA) (fl : List Int), (shipsF L fl).length ≤ L.length
  | [], _ => by simp [shipsF]
  | _ :: _, [] => by simp [shipsF]
  | x :: L, y :: fl => by
    have := shipsF_len L fl
    simp only [shipsF, List.length_append, List.length_cons]
    split <;> simp <;> omega
def shipsE (qs : List Int) (cs : List Ct) (bs : List Bk) (hs : List Hd) (d : Dm) (fl : List Int) : Int :=
  if validT qs cs bs hs d = true then (valueSpec (vsN qs d) (arcsG qs cs bs hs d) fl (vtx d d.s d.r) (vtx d d.d d.e)).2 else 1
def shipsR (qs : List Int) (cs : List Ct) (bs : List Bk) (hs : List Hd) (d : Dm) (fl : List Int) : List Sh :=
  if shipsE qs cs bs hs d fl = 0 then shipsF (arcsE qs cs bs hs d) fl else []
theorem shipsE_len {fl : List Int} (hv : validT qs cs bs hs d = true) (h : shipsE qs cs bs hs d fl = 0) : fl.length = (arcsE qs cs bs hs d).length := by
  unfold shipsE at h
  rw [if_pos hv] at h
  unfold valueSpec at h
  split at h
  · rename_i hc; exact absurd h hc
  split at h
  · simp at h
  split at h
  · simp at h
  · rename_i hl
    have : (arcsG qs cs bs hs d).length = (arcsE qs cs bs hs d).length := by unfold arcsG; rw [List.length_map]
    have hl' : fl.length = (arcsG qs cs bs hs d).length := by
      apply Classical.byContradiction
      intro hne
      exact hl hne
    omega
def sidesE (qs : List Int) (cs : List Ct) (bs : List Bk) (hs : List Hd) (d : Dm) (side : List Int) : Int :=
  if validT qs cs bs hs d = true then (capacitySpec (vsN qs d) (arcsG qs cs bs hs d) side).2 else 1
theorem sideChk_in {n : Int} : ∀ {l : List Int} {p : Option Int}, sideChk n p l = 0 → ∀ v ∈ l, 0 ≤ v ∧ v < n
  | [], _, _ => by simp
  | v :: l, p, h => by
    unfold sideChk at h
    split at h
    · simp at h
    rename_i hv
    have h0 : sideChk n (some v) l = 0 := by
      split at h
      · split at h
        · simp at h
        · exact h
      · simpa using h
    intro u hu
    rcases List.mem_cons.1 hu with rfl | hu
    · omega
    · exact sideChk_in h0 u hu
theorem sidesE_in {side : List Int} (hv : validT qs cs bs hs d = true) (h : sidesE qs cs bs hs d side = 0) : ∀ v ∈ side, 0 ≤ v ∧ v < vsN qs d := by
  unfold sidesE at h
  rw [if_pos hv] at h
  unfold capacitySpec at h
  split at h
  · rename_i hc; exact absurd h hc
  split at h
  · rename_i hc; exact absurd h hc
  · rename_i hc
    exact sideChk_in (p := none) (by omega)
theorem sideI_one {a : Iv} (ha : NormI a) (t : Int) : combI (fun x y => x || y) a [(t, t + 1)] = insI a (t, t + 1) := by
  have h := unionI_eq (a := a) (b := [(t, t + 1)]) ha (NormI.nil.cons (by dsimp only; omega) (by simp))
  exact h.symm
theorem sidesC_nil (d : Dm) (nq : Nat) : sidesC d nq [] = List.replicate nq [] := by
  unfold sidesC
  apply List.ext_getElem?
  intro i
  rw [List.getElem?_map, List.getElem?_replicate]
  by_cases h : i < nq
  · rw [List.getElem?_range h, if_pos h]; rfl
  · rw [List.getElem?_eq_none (by simp; omega), if_neg h]; rfl
theorem sidesC_next (d : Dm) (nq : Nat) {side : List Int} {k : Nat} (h : k < side.length) {n : Nat} (hn : side[k] / wd d = n) :
    sidesC d nq (side.take (k + 1)) = (sidesC d nq (side.take k)).set n (insI (sideI d (side.take k) n) (d.r + side[k] % wd d, d.r + side[k] % wd d + 1)) := by
  unfold sidesC
  apply List.ext_getElem?
  intro i
  rw [List.getElem?_set, List.getElem?_map, List.getElem?_map, List.length_map, List.length_range]
  by_cases hi : i < nq
  · rw [List.getElem?_range hi]
    simp only [Option.map_some]
    rw [sideI_next d _ h]
    by_cases he : n = i
    · subst he
      rw [if_pos hn, if_pos rfl, if_pos hi]
    · rw [if_neg (by omega), if_neg he]
  · rw [List.getElem?_eq_none (by simp; omega)]
    by_cases he : n = i
    · rw [if_pos he, if_neg (by omega)]; rfl
    · rw [if_neg he]; rfl
theorem sidesC_len (d : Dm) (nq : Nat) (side : List Int) : (sidesC d nq side).length = nq := by simp [sidesC]
end Go.Step
/- Shipments. -/
namespace Go.Proofs.YthdoegkjifgegaaGreat
open Go.Eng Go.Step
set_option maxRecDepth 100000
set_option maxHeartbeats 4000000

set_option maxHeartbeats 32000000 in
theorem Shipments_spec {ρ τ σ υ : PH} {pq pc pb ph : Option Addr} {kq kc kb kh : Nat} {qs : List Int} {cs : List Ct} {bs : List Bk} {hs : List Hd} (hT : TbAt ρ τ σ υ pq pc pb ph kq kc kb kh qs cs bs hs) (d : Dm) (ω : PH) (u0 : Value) (fl : List Int) (hu : IntsAt ω u0 fl) :
  Makes Tryz.prog (fv 17) [.agg #[.slice pq qs.length kq, .slice pc cs.length kc, .slice pb bs.length kb, .slice ph hs.length kh], .agg #[int d.s, int d.d, int d.v, int d.r, int d.e], u0] [ρ, τ, σ, υ, ω] (fun r χ => ∃ u, r = .tuple #[u, int (shipsE qs cs bs hs d fl)] ∧ OwnS 107 3 u (shipsR qs cs bs hs d fl).length ((shipsR qs cs bs hs d fl).flatMap encX) χ) := by
 obtain ⟨pf, kf, rfl, hrf⟩ := hu.val Eng.encI_len
 refine spec_in (cap := []) Tryz.func17 rfl rfl Tryz.ntmps17 rfl envZ (fun N β => ?_)
 refine AC ?_
 refine AA ?_
 refine BJ (BN rfl) rfl rfl rfl ?_
 rintro _ _ ⟨b1, rfl, rfl⟩
 refine AS (ρ := sng b1 _) takeZ ?_
 have ct : RdN (sng b1 (.cells #[.slice pq qs.length kq, .slice pc cs.length kc, .slice pb bs.length kb, .slice ph hs.length kh] 29 (0, 0))) b1 0 [.slice pq qs.length kq, .slice pc cs.length kc, .slice pb bs.length kb, .slice ph hs.length kh] := rdN_sng (vs := [.slice pq qs.length kq, .slice pc cs.length kc, .slice pb bs.length kb, .slice ph hs.length kh])
 have ct0 : rdc (sng b1 (.cells #[.slice pq qs.length kq, .slice pc cs.length kc, .slice pb bs.length kb, .slice ph hs.length kh] 29 (0, 0))) b1 0 = some (.slice pq qs.length kq) := by rw [rdc_sng]; rfl
 have ct1 : rdc (sng b1 (.cells #[.slice pq qs.length kq, .slice pc cs.length kc, .slice pb bs.length kb, .slice ph hs.length kh] 29 (0, 0))) b1 1 = some (.slice pc cs.length kc) := by rw [rdc_sng]; rfl
 have ct2 : rdc (sng b1 (.cells #[.slice pq qs.length kq, .slice pc cs.length kc, .slice pb bs.length kb, .slice ph hs.length kh] 29 (0, 0))) b1 2 = some (.slice pb bs.length kb) := by rw [rdc_sng]; rfl
 have ct3 : rdc (sng b1 (.cells #[.slice pq qs.length kq, .slice pc cs.length kc, .slice pb bs.length kb, .slice ph hs.length kh] 29 (0, 0))) b1 3 = some (.slice ph hs.length kh) := by rw [rdc_sng]; rfl
 have ctp : RdP (sng b1 (.cells #[.slice pq qs.length kq, .slice pc cs.length kc, .slice pb bs.length kb, .slice ph hs.length kh] 29 (0, 0))) b1 0 [.slice pq qs.length kq, .slice pc cs.length kc] := rdP_sng (xs := [.slice pq qs.length kq, .slice pc cs.length kc, .slice pb bs.length kb, .slice ph hs.length kh]) rfl
 refine BJ (BN rfl) rfl rfl rfl ?_
 rintro _ _ ⟨b2, rfl, rfl⟩
 refine AS (ρ := sng b2 _) takeZ ?_
 have cd : RdN (sng b2 (.cells #[int d.s, int d.d, int d.v, int d.r, int d.e] 31 (0, 0))) b2 0 [int d.s, int d.d, int d.v, int d.r, int d.e] := rdN_sng (vs := [int d.s, int d.d, int d.v, int d.r, int d.e])
 have cd0 : rdc (sng b2 (.cells #[int d.s, int d.d, int d.v, int d.r, int d.e] 31 (0, 0))) b2 0 = some (int d.s) := by rw [rdc_sng]; rfl
 have cd1 : rdc (sng b2 (.cells #[int d.s, int d.d, int d.v, int d.r, int d.e] 31 (0, 0))) b2 1 = some (int d.d) := by rw [rdc_sng]; rfl
 have cd2 : rdc (sng b2 (.cells #[int d.s, int d.d, int d.v, int d.r, int d.e] 31 (0, 0))) b2 2 = some (int d.v) := by rw [rdc_sng]; rfl
 have cd3 : rdc (sng b2 (.cells #[int d.s, int d.d, int d.v, int d.r, int d.e] 31 (0, 0))) b2 3 = some (int d.r) := by rw [rdc_sng]; rfl
 have cd4 : rdc (sng b2 (.cells #[int d.s, int d.d, int d.v, int d.r, int d.e] 31 (0, 0))) b2 4 = some (int d.e) := by rw [rdc_sng]; rfl
 refine BJ (C7 rfl rfl) rfl rfl rfl ?_
 rintro _ _ ⟨bf, rfl, rfl⟩
 refine AS (ρ := sng bf _) takeZ ?_
 have cf : rdc (sng bf (.cells #[.slice pf fl.length kf] 22 (0, 0))) bf 0 = some (.slice pf fl.length kf) := by rw [rdc_sng]; rfl
 refine CG ?_
 refine AD ?_
 refine AD ?_
 refine AE ?_
 refine AC ?_
 refine AA ?_
 refine AT ?_
 refine AT ?_
 refine BK (build_spec hT d) rfl rfl Takes.nil rdZ rfl rfl ?_
 rintro _ H' (⟨hv, rfl, rfl⟩ | ⟨hv, bw, bm, pl0, χ, M, rfl, rfl, hO, hM⟩)
 ·have hE : shipsE qs cs bs hs d fl = 1 := by unfold shipsE; rw [if_neg (by simp [hv])]
  have hR : shipsR qs cs bs hs d fl = [] := by unfold shipsR; rw [hE, if_neg (by omega)]
  rw [hE, hR]
  refine AB ?_
  refine AR ?_
  refine AR ?_
  refine AD ?_
  refine AD ?_
  refine AE ?_
  refine AC ?_
  refine AC ?_
  refine AA ?_
  refine AB ?_
  refine BE ?_
  refine AE ?_
  refine AO rfl ?_
  refine AC ?_
  refine AA ?_
  refine AD ?_
  refine AD ?_
  refine AE ?_
  exact AI (res2 rfl rfl rfl) rsubZ selZ ⟨emp, ⟨_, rfl, OwnS.nil _ _⟩, rfl⟩
 have hEv : shipsE qs cs bs hs d fl = (Go.Flow.valueSpec (vsN qs d) (arcsG qs cs bs hs d) fl (vtx d d.s d.r) (vtx d d.d d.e)).2 := by unfold shipsE; rw [if_pos hv]
 have h := vok hv
 have h0 := vokB hv
 have hdm := h.dm
 unfold okDm at hdm
 have hnq := h.nq
 obtain ⟨pl, kp, rfl⟩ := hO.form
 have hpl : SlE encS 2 χ (.slice pl (placesA d qs.length).length kp) (placesA d qs.length) := hO.at
 refine AS (ρ := sng bw _) takeZ ?_
 refine AS (ρ := sng bm _) takeZ ?_
 refine AS (ρ := χ) takeZ ?_
 have w0 : rdc (sng bw (.cells #[.slice pq qs.length kq, .slice pc cs.length kc, .slice pb bs.length kb, .slice ph hs.length kh, int d.s, int d.d, int d.v, int d.r, int d.e, .slice pl (placesA d qs.length).length kp, .map (some bm)] 97 (0, 0))) bw 0 = some (.slice pq qs.length kq) := by rw [rdc_sng]; rfl
 have w1 : rdc (sng bw (.cells #[.slice pq qs.length kq, .slice pc cs.length kc, .slice pb bs.length kb, .slice ph hs.length kh, int d.s, int d.d, int d.v, int d.r, int d.e, .slice pl (placesA d qs.length).length kp, .map (some bm)] 97 (0, 0))) bw 1 = some (.slice pc cs.length kc) := by rw [rdc_sng]; rfl
 have w2 : rdc (sng bw (.cells #[.slice pq qs.length kq, .slice pc cs.length kc, .slice pb bs.length kb, .slice ph hs.length kh, int d.s, int d.d, int d.v, int d.r, int d.e, .slice pl (placesA d qs.length).length kp, .map (some bm)] 97 (0, 0))) bw 2 = some (.slice pb bs.length kb) := by rw [rdc_sng]; rfl
 have w3 : rdc (sng bw (.cells #[.slice pq qs.length kq, .slice pc cs.length kc, .slice pb bs.length kb, .slice ph hs.length kh, int d.s, int d.d, int d.v, int d.r, int d.e, .slice pl (placesA d qs.length).length kp, .map (some bm)] 97 (0, 0))) bw 3 = some (.slice ph hs.length kh) := by rw [rdc_sng]; rfl
 have w4 : rdc (sng bw (.cells #[.slice pq qs.length kq, .slice pc cs.length kc, .slice pb bs.length kb, .slice ph hs.length kh, int d.s, int d.d, int d.v, int d.r, int d.e, .slice pl (placesA d qs.length).length kp, .map (some bm)] 97 (0, 0))) bw 4 = some (int d.s) := by rw [rdc_sng]; rfl
 have w5 : rdc (sng bw (.cells #[.slice pq qs.length kq, .slice pc cs.length kc, .slice pb bs.length kb, .slice ph hs.length kh, int d.s, int d.d, int d.v, int d.r, int d.e, .slice pl (placesA d qs.length).length kp, .map (some bm)] 97 (0, 0))) bw 5 = some (int d.d) := by rw [rdc_sng]; rfl
 have w6 : rdc (sng bw (.cells #[.slice pq qs.length kq, .slice pc cs.length kc, .slice pb bs.length kb, .slice ph hs.length kh, int d.s, int d.d, int d.v, int d.r, int d.e, .slice pl (placesA d qs.length).length kp, .map (some bm)] 97 (0, 0))) bw 6 = some (int d.v) := by rw [rdc_sng]; rfl
 have w7 : rdc (sng bw (.cells #[.slice pq qs.length kq, .slice pc cs.length kc, .slice pb bs.length kb, .slice ph hs.length kh, int d.s, int d.d, int d.v, int d.r, int d.e, .slice pl (placesA d qs.length).length kp, .map (some bm)] 97 (0, 0))) bw 7 = some (int d.r) := by rw [rdc_sng]; rfl
 have w8 : rdc (sng bw (.cells #[.slice pq qs.length kq, .slice pc cs.length kc, .slice pb bs.length kb, .slice ph hs.length kh, int d.s, int d.d, int d.v, int d.r, int d.e, .slice pl (placesA d qs.length).length kp, .map (some bm)] 97 (0, 0))) bw 8 = some (int d.e) := by rw [rdc_sng]; rfl
 have w9 : rdc (sng bw (.cells #[.slice pq qs.length kq, .slice pc cs.length kc, .slice pb bs.length kb, .slice ph hs.length kh, int d.s, int d.d, int d.v, int d.r, int d.e, .slice pl (placesA d qs.length).length kp, .map (some bm)] 97 (0, 0))) bw 9 = some (.slice pl (placesA d qs.length).length kp) := by rw [rdc_sng]; rfl
 have w10 : rdc (sng bw (.cells #[.slice pq qs.length kq, .slice pc cs.length kc, .slice pb bs.length kb, .slice ph hs.length kh, int d.s, int d.d, int d.v, int d.r, int d.e, .slice pl (placesA d qs.length).length kp, .map (some bm)] 97 (0, 0))) bw 10 = some (.map (some bm)) := by rw [rdc_sng]; rfl
 have hg := graph_spec hT bw bm kp pl χ M d h h0 hpl hM
 have hit := fun c1 => arcs_iter hT bw bm c1 kp pl χ M d h h0 hpl hM
 have hEl := ea_len qs cs bs hs d h
 have hAl : (arcsG qs cs bs hs d).length = (arcsE qs cs bs hs d).length := by unfold arcsG; rw [List.length_map]
 have hone : ∀ z n (xs : List Value) (χ : PH), OwnS 107 3 z n xs χ → z.oneCell' = true := fun z n xs χ h => by obtain ⟨_, _, rfl⟩ := h.form; rfl
 refine AB ?_
 refine AR ?_
 refine AR ?_
 refine AD ?_
 refine AD ?_
 refine AE ?_
 refine AC ?_
 refine AC ?_
 refine AA ?_
 refine AB ?_
 refine BE ?_
 refine AE ?_
 refine AN rfl ?_
 refine AL ?_
 refine AC ?_
 refine AA ?_
 refine AB ?_
 refine BY hg rfl rfl rdZ rfl rfl ?_
 rintro _ σg ⟨ug, rfl, hOg⟩
 have hAt : ArcsAt σg ug (arcsG qs cs bs hs d) := hOg.at
 obtain ⟨pg, kg, rfl⟩ := hOg.form
 refine AS (ρ := σg) takeZ ?_
 refine A5 ?_; rintro _ _ ⟨b, rfl, rfl⟩
 refine A3 ?_; rintro _ _ ⟨rfl, rfl⟩
 refine AE ?_
 refine AC ?_
 refine AC ?_
 refine AA ?_
 refine AH ?_
 refine AF ?_
 refine AH ?_
 refine AF ?_
 refine AF ?_
 refine AH ?_
 refine AF ?_
 refine AH ?_
 refine AF ?_
 revert b; intro bg
 refine AS (ρ := sng bg _) takeZ ?_
 have gg0 : rdc (sng bg (.cells #[int (vsN qs d), .slice pg (arcsG qs cs bs hs d).length kg, int (vtx d d.s d.r), int (vtx d d.d d.e)] 36 (0, 0))) bg 0 = some (int (vsN qs d)) := by rw [rdc_sng]; rfl
 have gg1 : rdc (sng bg (.cells #[int (vsN qs d), .slice pg (arcsG qs cs bs hs d).length kg, int (vtx d d.s d.r), int (vtx d d.d d.e)] 36 (0, 0))) bg 1 = some (.slice pg (arcsG qs cs bs hs d).length kg) := by rw [rdc_sng]; rfl
 have gg2 : rdc (sng bg (.cells #[int (vsN qs d), .slice pg (arcsG qs cs bs hs d).length kg, int (vtx d d.s d.r), int (vtx d d.d d.e)] 36 (0, 0))) bg 2 = some (int (vtx d d.s d.r)) := by rw [rdc_sng]; rfl
 have gg3 : rdc (sng bg (.cells #[int (vsN qs d), .slice pg (arcsG qs cs bs hs d).length kg, int (vtx d d.s d.r), int (vtx d d.d d.e)] 36 (0, 0))) bg 3 = some (int (vtx d d.d d.e)) := by rw [rdc_sng]; rfl
 have hval := flowValue_spec σg ω _ _ (vsN qs d) (vtx d d.s d.r) (vtx d d.d d.e) (arcsG qs cs bs hs d) fl hAt hu (by omega)
 skip
 refine A6 hval rfl rfl rdZ rfl rfl ?_
 rintro _ rfl
 rw [← hEv]
 generalize (Go.Flow.valueSpec (vsN qs d) (arcsG qs cs bs hs d) fl (vtx d d.s d.r) (vtx d d.d d.e)).1 = vv
 by_cases hz : shipsE qs cs bs hs d fl = 0
 rotate_left
 ·have hR : shipsR qs cs bs hs d fl = [] := by unfold shipsR; rw [if_neg hz]
  rw [hR]
  refine AB ?_
  refine AR ?_
  refine AR ?_
  refine AD ?_
  refine AD ?_
  refine AE ?_
  refine AC ?_
  refine AA ?_
  refine AB ?_
  refine CK ?_
  refine AE ?_
  refine AO rfl ?_
  refine AC ?_
  refine AA ?_
  refine AB ?_
  refine AD ?_
  refine AD ?_
  refine AE ?_
  exact AI (res2 rfl rfl rfl) rsubZ selZ ⟨emp, ⟨_, rfl, OwnS.nil _ _⟩, rfl⟩
 have hR : shipsR qs cs bs hs d fl = shipsF (arcsE qs cs bs hs d) fl := by unfold shipsR; rw [if_pos hz]
 have hfl := shipsE_len hv hz
 rw [hz, hR]
 refine AB ?_
 refine AR ?_
 refine AR ?_
 refine AD ?_
 refine AD ?_
 refine AE ?_
 refine AC ?_
 refine AA ?_
 refine AB ?_
 refine BI ?_
 refine AE ?_
 refine AN rfl ?_
 refine AL ?_
 refine AC ?_
 refine AA ?_
 refine B5 ?_; rintro _ _ ⟨b, rfl, rfl⟩
 refine AE ?_
 refine AC ?_
 refine AA ?_
 refine B5 ?_; rintro _ _ ⟨b, rfl, rfl⟩
 refine BM ?_; rintro _ _ ⟨rfl, rfl⟩
 refine AE ?_
 refine AC ?_
 refine AC ?_
 refine AA ?_
 refine AB ?_
 revert b; intro b14
 revert b; intro b13
 refine BK (arcs_spec bw) rfl rfl Takes.nil (fun τ hτ => by simp at hτ) rfl rfl ?_
 rintro _ _ ⟨c1, rfl, rfl⟩
 refine AS (ρ := sng c1 _) takeZ ?_
 refine AE ?_
 refine AP ?_
 refine DF (gf := 89) (cap := [.pointer (some ⟨c1, 0, none⟩)]) (ps := [44]) (X := Nat × Value × PH) rfl Tryz.func89 rfl rfl
  (hit c1) ?_
  (fun i x => x.1 = i ∧ OwnS 107 3 x.2.1 (shipsF ((arcsE qs cs bs hs d).take i) (fl.take i)).length ((shipsF ((arcsE qs cs bs hs d).take i) (fl.take i)).flatMap encX) x.2.2)
  (fun x => [sng b14 (.cells #[int x.1] 3 (0, 0)), sng b13 (.cells #[x.2.1] 46 (0, 0)), x.2.2]) (fun _ _ => False) (0, .slice none 0 0, emp) rfl takesZ ⟨rfl, OwnS.nil _ _⟩ ?_ ?_ ?_
 ·intro σ' hσ
  simp only [List.mem_cons, List.not_mem_nil, or_false] at hσ ⊢
  rcases hσ with h | h | h | h | h | h | h | h <;> simp [h]
 ·rintro lo r i ⟨i', u, σ1⟩ vs hvs ⟨hi', hO1⟩ hps has hbd hst hpe hfr
  obtain ⟨st, pe, fnn, tm, prm, asg, bdy, df⟩ := r
  simp only at hps has hbd hst hpe hfr
  subst hps has hbd hst hpe
  rw [List.getElem?_map] at hvs
  obtain ⟨x, hx, rfl⟩ := Option.map_eq_some_iff.1 hvs
  dsimp only at hi' hO1
  subst hi'
  have hil := (List.getElem?_eq_some_iff.1 hx).1
  have hy := List.getElem?_eq_getElem (show i' < fl.length by omega)
  have hnx := shipsF_next hfl hx hy
  obtain ⟨bo, oo, epf, gf⟩ := hrf.int hy
  have hsl := shipsF_len ((arcsE qs cs bs hs d).take i') (fl.take i')
  rw [List.length_take] at hsl
  simp only [hnx]
  generalize fl[i'] = y at hy gf hnx
  generalize shipsF ((arcsE qs cs bs hs d).take i') (fl.take i') = O at hO1 hsl
  have hu1 := hone _ _ _ _ hO1
  subst epf
  refine yield_spec hfr rfl (by intro p hp; simp at hp; omega) putiZ (fun N' β' => ?_)
  dsimp only
  refine AA ?_
  refine A5 ?_; rintro _ _ ⟨b, rfl, rfl⟩
  refine A3 ?_; rintro _ _ ⟨rfl, rfl⟩
  refine AE ?_
  refine C0 rfl rfl ?_
  refine DE takeZ rfl ?_
  revert b; intro bx
  refine AS (ρ := sng bx _) takeZ ?_
  have px0 : rdc (sng bx (.cells #[int x.a.f, int x.a.t, int x.a.c, int x.c, int x.t] 105 (0, 0))) bx 0 = some (int x.a.f) := by rw [rdc_sng]; rfl
  have px1 : rdc (sng bx (.cells #[int x.a.f, int x.a.t, int x.a.c, int x.c, int x.t] 105 (0, 0))) bx 1 = some (int x.a.t) := by rw [rdc_sng]; rfl
  have px2 : rdc (sng bx (.cells #[int x.a.f, int x.a.t, int x.a.c, int x.c, int x.t] 105 (0, 0))) bx 2 = some (int x.a.c) := by rw [rdc_sng]; rfl
  have px3 : rdc (sng bx (.cells #[int x.a.f, int x.a.t, int x.a.c, int x.c, int x.t] 105 (0, 0))) bx 3 = some (int x.c) := by rw [rdc_sng]; rfl
  have px4 : rdc (sng bx (.cells #[int x.a.f, int x.a.t, int x.a.c, int x.c, int x.t] 105 (0, 0))) bx 4 = some (int x.t) := by rw [rdc_sng]; rfl
  by_cases hc : 0 ≤ x.c
  ·by_cases hy0 : 0 < y
   ·rw [if_pos ⟨hc, hy0⟩]
    refine AP ?_
    refine AC ?_
    refine AC ?_
    refine AA ?_
    refine AH ?_
    refine AF ?_
    refine CD ?_
    refine AB ?_
    refine AF ?_
    refine AF ?_
    refine BQ ?_
    refine AF ?_
    refine CP ?_
    refine AM ?_
    refine AE ?_
    refine AO rfl ?_
    refine AZ (.q 0 (.q 1 (.q 2 (.q 3 (.q 4 (.q 5 (.q 6 (.q 7 (.q 8 (.q 9 (.l 10 .e (.l 11 .b (.l 12 .b .nil))))))))))))) [] rfl (by kernel_rfl) Sel.nil ?_
    refine AQ ?_
    refine AX ?_
    refine AQ ?_
    refine AX ?_
    refine AQ ?_
    refine AQ ?_
    refine AQ ?_
    refine B7 ?_
    refine AQ ?_
    refine B9 ?_
    refine BH ?_; rintro _ _ ⟨b, rfl, rfl⟩
    refine CF (a_b rfl (BS (by_ := 24) (s := 3) (news := [int x.c, int x.t, int y]) rfl rfl rfl rfl rfl rfl rfl hO1 takeZ (cells_own memZ) rfl (by (repeat (first | exact (fun v hv => absurd hv List.not_mem_nil) | (refine List.forall_mem_cons.2 ⟨?_, ?_⟩; (focus (first | exact rfl | assumption))))); first | done | fail) (by omega) (by simp only [maxLen]; omega) (by omega)) rfl rfl rfl (fun _ _ _ w hw => hw.sel Sel.nil) ?_)
    rintro u1 _ ⟨σ2, hO2, rfl⟩
    have hu2 := hone _ _ _ _ hO2
    refine DD ?_; rintro _ _ ⟨rfl, rfl⟩
    refine A4 ?_
    refine AA ?_
    refine AF ?_
    refine A9 ?_
    refine BM ?_; rintro _ _ ⟨rfl, rfl⟩
    refine AE ?_
    refine A0 ?_
    refine B4 takeZ rsubZ selZ ⟨(i' + 1, u1, σ2), .inl ⟨rfl, ⟨rfl, ?_⟩, rfl⟩⟩
    dsimp only
    rw [List.length_append, List.flatMap_append]
    exact hO2
   ·rw [if_neg (fun h => hy0 h.2), List.append_nil]
    refine AP ?_
    refine AC ?_
    refine AC ?_
    refine AA ?_
    refine AH ?_
    refine AF ?_
    refine CD ?_
    refine AB ?_
    refine AF ?_
    refine AF ?_
    refine BQ ?_
    refine AF ?_
    refine BU ?_
    refine AM ?_
    refine AE ?_
    refine AN rfl ?_
    refine AL ?_
    refine AA ?_
    refine AF ?_
    refine A9 ?_
    refine BM ?_; rintro _ _ ⟨rfl, rfl⟩
    refine AE ?_
    refine A0 ?_
    exact B4 takeZ rsubZ selZ ⟨(i' + 1, u, σ1), .inl ⟨rfl, ⟨rfl, hO1⟩, rfl⟩⟩
  ·rw [if_neg (fun h => hc h.1), List.append_nil]
   refine AP ?_
   refine AC ?_
   refine AC ?_
   refine AA ?_
   refine AH ?_
   refine AF ?_
   refine BF ?_
   refine AB ?_
   refine AG rfl rfl rfl ?_
   refine AG rfl rfl rfl ?_
   refine AG rfl rfl rfl ?_
   refine AG rfl rfl rfl ?_
   refine AG rfl rfl rfl ?_
   refine AJ ?_
   refine AE ?_
   refine AN rfl ?_
   refine AL ?_
   refine AA ?_
   refine AF ?_
   refine A9 ?_
   refine BM ?_; rintro _ _ ⟨rfl, rfl⟩
   refine AE ?_
   refine A0 ?_
   exact B4 takeZ rsubZ selZ ⟨(i' + 1, u, σ1), .inl ⟨rfl, ⟨rfl, hO1⟩, rfl⟩⟩
 ·rintro b9 ⟨i', u, σ1⟩ ⟨_, hO1⟩
  rw [List.length_map, List.take_length, ← hfl, List.take_length] at hO1
  dsimp only at hO1
  have hu1 := hone _ _ _ _ hO1
  refine A0 ?_
  refine AC ?_
  refine AA ?_
  refine AF ?_
  refine AD ?_
  refine AD ?_
  refine AE ?_
  refine EV (v := .tuple #[u, int 0]) (Marks.cons .here .nil) ?_ rsubZ ?_ ⟨σ1, ⟨u, rfl, hO1⟩, rfl⟩
  ·exact res2 rfl rfl rfl
  ·exact selZ
 ·rintro _ _ _ h; exact h.elim
end Go.Proofs.YthdoegkjifgegaaGreat
/- Slices of sets. -/
namespace Go.Proofs.YthdoegkjifgegaaGreat
open Go.Eng Go.Step
set_option maxRecDepth 100000
set_option maxHeartbeats 4000000

abbrev Sq := (Option Addr × Nat) × List (Int × Int)
def encQ (x : Sq) : List Value := [.slice x.1.1 x.2.length x.1.2]
theorem encQ_len (x : Sq) : (encQ x).length = 1 := rfl
abbrev cuL (L : List Sq) : Cu := L.map (fun x => x.2)
def CutL (γ κ : PH) (v : Value) (L : List Sq) : Prop := SlE encQ 1 γ v L ∧ ∀ x ∈ L, SpAt κ (.slice x.1.1 x.2.length x.1.2) x.2 ∧ x.2.length ≤ 9223372036854775807
theorem CutL.row {γ κ : PH} {p : Option Addr} {n kk : Nat} {L : List Sq} (h : CutL γ κ (.slice p n kk) L) : CutRow γ κ p (cuL L) := fun i l hl => by
 rw [List.getElem?_map] at hl
 obtain ⟨x, hx, rfl⟩ := Option.map_eq_some_iff.1 hl
 obtain ⟨q, k, e, hr⟩ := h.1.val encQ_len
 simp only [Value.slice.injEq] at e
 obtain ⟨b, o, e2, hrd⟩ := hr i x hx
 obtain ⟨h1, h2⟩ := h.2 x (List.mem_of_getElem? hx)
 refine ⟨b, o, x.1.1, x.1.2, by rw [e.1, e2], ?_, h1, h2⟩
 have := hrd 0 _ rfl
 rwa [Nat.mul_one, Nat.add_zero] at this
end Go.Proofs.YthdoegkjifgegaaGreat
/- The ends of two sets, in their order. -/
namespace Go.Proofs.YthdoegkjifgegaaGreat
open Go.Eng Go.Step
set_option maxRecDepth 100000
set_option maxHeartbeats 4000000

theorem sideNext_spec (ρ : PH) (v : Value) (l : Iv) (b p : Nat) (hv : SpAt ρ v l) (hl : l.length ≤ 4611686018427387903) (hp : p ≤ 2 * l.length) :
  Ans Tryz.prog (fv 145) [.pointer (some ⟨b, 0, none⟩)] [sng b (.cells #[v, int ((p / 2 : Nat) : Int), .bool (oddB p)] 213 (0, 0)), ρ] (fun r => r = .tuple #[int ((tog l).getD p 0), .bool (decide (p < 2 * l.length))]) := by
 obtain ⟨q, c, rfl, hr⟩ := hv.val encS_len
 have hod := oddB_cases p
 obtain ⟨i, hi⟩ : ∃ i, p / 2 = i := ⟨_, rfl⟩
 rw [hi] at hod ⊢
 have ct : RdN (sng b (.cells #[.slice q l.length c, int ((i : Nat) : Int), .bool (oddB p)] 213 (0, 0))) b 0 [.slice q l.length c, int ((i : Nat) : Int), .bool (oddB p)] := rdN_sng (vs := [.slice q l.length c, int ((i : Nat) : Int), .bool (oddB p)])
 have ct0 : rdc (sng b (.cells #[.slice q l.length c, int ((i : Nat) : Int), .bool (oddB p)] 213 (0, 0))) b 0 = some (.slice q l.length c) := by rw [rdc_sng]; rfl
 have ct1 : rdc (sng b (.cells #[.slice q l.length c, int ((i : Nat) : Int), .bool (oddB p)] 213 (0, 0))) b 1 = some (int ((i : Nat) : Int)) := by rw [rdc_sng]; rfl
 have ct2 : rdc (sng b (.cells #[.slice q l.length c, int ((i : Nat) : Int), .bool (oddB p)] 213 (0, 0))) b 2 = some (.bool (oddB p)) := by rw [rdc_sng]; rfl
 refine spec_in (cap := []) Tryz.func145 rfl rfl Tryz.ntmps145 rfl envZ (fun N β => ?_)
 by_cases h0 : p = 2 * l.length
 ·have hR : (tog l).getD p 0 = 0 := by rw [List.getD_eq_getElem?_getD, List.getElem?_eq_none (by rw [tog_len]; omega)]; rfl
  rw [hR, decide_eq_false (by omega)]
  have hil : i = l.length := by omega
  refine AC ?_
  refine AA ?_
  refine AD ?_
  refine AD ?_
  refine AE ?_
  refine AC ?_
  refine AP ?_
  refine AC ?_
  refine AZ (.q 0 (.q 1 (.q 2 (.q 3 (.q 4 (.q 5 (.q 6 (.q 7 (.q 8 (.q 9 (.q 10 .nil))))))))))) [] rfl (by kernel_rfl) selZ ?_
  refine AK ?_
  refine A2 ?_
  refine AX ?_
  refine AQ ?_
  refine AK ?_
  refine A2 ?_
  refine AX ?_
  refine AQ ?_
  refine C3 ?_
  refine EM ?_
  refine BP ?_
  refine A4 ?_
  refine AO rfl ?_
  refine AC ?_
  refine AA ?_
  refine AD ?_
  refine AD ?_
  refine AE ?_
  exact AI (res2 rfl rfl rfl) rsubZ selZ ⟨rfl, rfl⟩
 have hil : i < l.length := by omega
 obtain ⟨g1, g2⟩ := tog_get l i _ (List.getElem?_eq_getElem hil)
 rw [decide_eq_true (show p < 2 * l.length by omega)]
 obtain ⟨b4, o4, rfl, hrd, x0, x1⟩ := spRow hr (List.getElem?_eq_getElem hil)
 rcases hod with ⟨ho, hp2⟩ | ⟨ho, hp2⟩
 ·have hR : (tog l).getD p 0 = l[i].2 := by rw [List.getD_eq_getElem?_getD, hp2, g2]; rfl
  rw [hR]
  rw [ho] at ct ct0 ct1 ct2 ⊢
  generalize l[i] = x at hrd x0 x1
  refine AC ?_
  refine AA ?_
  refine AD ?_
  refine AD ?_
  refine AE ?_
  refine AC ?_
  refine AP ?_
  refine AC ?_
  refine AZ (.q 0 (.q 1 (.q 2 (.q 3 (.q 4 (.q 5 (.q 6 (.q 7 (.q 8 (.q 9 (.q 10 .nil))))))))))) [] rfl (by kernel_rfl) selZ ?_
  refine AK ?_
  refine A2 ?_
  refine AX ?_
  refine AQ ?_
  refine AK ?_
  refine A2 ?_
  refine AX ?_
  refine AQ ?_
  refine C3 ?_
  refine DG ?_
  refine BP ?_
  refine A4 ?_
  refine AN rfl ?_
  refine AC ?_
  refine AA ?_
  refine AB ?_
  refine BL ?_
  refine AH ?_
  refine AF ?_
  refine AD ?_
  refine AE ?_
  refine AO rfl ?_
  refine AC ?_
  refine AZ (.q 0 (.q 1 (.q 2 (.q 3 (.q 4 (.q 5 (.q 6 (.q 7 (.q 8 (.q 9 (.q 10 (.q 11 (.q 12 .nil))))))))))))) [] rfl (by kernel_rfl) selZ ?_
  refine AK ?_
  refine A2 ?_
  refine AX ?_
  refine AQ ?_
  refine AK ?_
  refine A2 ?_
  refine AX ?_
  refine AQ ?_
  refine BD ?_
  refine BX ?_
  refine AQ ?_
  refine BP ?_
  refine BP ?_
  refine A4 ?_
  skip
  exact AI (res2 rfl rfl rfl) rsubZ selZ ⟨rfl, rfl⟩
 ·have hR : (tog l).getD p 0 = l[i].1 := by rw [List.getD_eq_getElem?_getD, hp2, g1]; rfl
  rw [hR]
  rw [ho] at ct ct0 ct1 ct2 ⊢
  generalize l[i] = x at hrd x0 x1
  refine AC ?_
  refine AA ?_
  refine AD ?_
  refine AD ?_
  refine AE ?_
  refine AC ?_
  refine AP ?_
  refine AC ?_
  refine AZ (.q 0 (.q 1 (.q 2 (.q 3 (.q 4 (.q 5 (.q 6 (.q 7 (.q 8 (.q 9 (.q 10 .nil))))))))))) [] rfl (by kernel_rfl) selZ ?_
  refine AK ?_
  refine A2 ?_
  refine AX ?_
  refine AQ ?_
  refine AK ?_
  refine A2 ?_
  refine AX ?_
  refine AQ ?_
  refine C3 ?_
  refine DG ?_
  refine BP ?_
  refine A4 ?_
  refine AN rfl ?_
  refine AC ?_
  refine AA ?_
  refine AB ?_
  refine BL ?_
  refine AH ?_
  refine AF ?_
  refine AD ?_
  refine AE ?_
  refine AN rfl ?_
  refine AL ?_
  refine A0 ?_
  refine AC ?_
  refine AZ (.q 0 (.q 1 (.q 2 (.q 3 (.q 4 (.q 5 (.q 6 (.q 7 (.q 8 (.q 9 (.q 10 (.q 11 (.q 12 .nil))))))))))))) [] rfl (by kernel_rfl) selZ ?_
  refine AK ?_
  refine A2 ?_
  refine AX ?_
  refine AQ ?_
  refine AK ?_
  refine A2 ?_
  refine AX ?_
  refine AQ ?_
  refine BD ?_
  refine BV ?_
  refine AQ ?_
  refine BP ?_
  refine BP ?_
  refine A4 ?_
  skip
  exact AI (res2 rfl rfl rfl) rsubZ selZ ⟨rfl, rfl⟩
set_option maxHeartbeats 16000000 in
theorem sidePass_spec (ρ : PH) (v : Value) (l : Iv) (b p : Nat) (t : Int) (hv : SpAt ρ v l) (hl : l.length ≤ 4611686018427387903) (hp : p ≤ 2 * l.length) :
  Eng.Spec Tryz.prog (fv 146) [.pointer (some ⟨b, 0, none⟩), int t] [ρ] [sng b (.cells #[v, int ((p / 2 : Nat) : Int), .bool (oddB p)] 213 (0, 0))] (fun r H' => r = .tuple #[] ∧ H' = [sng b (.cells #[v, int ((stp (tog l) t p / 2 : Nat) : Int), .bool (oddB (stp (tog l) t p))] 213 (0, 0))]) := by
 have hn := sideNext_spec ρ v l b p hv hl hp
 obtain ⟨q, c, rfl, hr⟩ := hv.val encS_len
 refine spec_in (cap := []) Tryz.func146 rfl rfl Tryz.ntmps146 rfl envZ (fun N β => ?_)
 refine AC ?_
 refine AC ?_
 refine AA ?_
 refine AB ?_
 refine A6 hn rfl rfl rdZ rfl rfl ?_
 rintro _ rfl
 by_cases h1 : p < 2 * l.length
 rotate_left
 ·have hs : stp (tog l) t p = p := by unfold stp; rw [if_neg (by rw [tog_len]; omega)]
  rw [hs, decide_eq_false h1]
  refine AB ?_
  refine AR ?_
  refine AR ?_
  refine AD ?_
  refine AD ?_
  refine AE ?_
  refine AC ?_
  refine AA ?_
  refine AB ?_
  refine BE ?_
  refine AB ?_
  refine AG rfl rfl rfl ?_
  refine AG rfl rfl rfl ?_
  refine AG rfl rfl rfl ?_
  refine AM ?_
  refine AE ?_
  refine AO rfl ?_
  exact AI (res0 rfl) rsubZ selZ ⟨rfl, rfl⟩
 rw [decide_eq_true h1]
 by_cases h2 : (tog l).getD p 0 = t
 rotate_left
 ·have hs : stp (tog l) t p = p := by unfold stp; rw [if_neg (fun h => h2 h.2)]
  rw [hs]
  generalize (tog l).getD p 0 = z at h2
  refine AB ?_
  refine AR ?_
  refine AR ?_
  refine AD ?_
  refine AD ?_
  refine AE ?_
  refine AC ?_
  refine AA ?_
  refine AB ?_
  refine BE ?_
  refine AB ?_
  refine AB ?_
  refine AB ?_
  refine CK ?_
  refine AJ ?_
  refine AE ?_
  refine AO rfl ?_
  exact AI (res0 rfl) rsubZ selZ ⟨rfl, rfl⟩
 have hs : stp (tog l) t p = p + 1 := by unfold stp; rw [if_pos ⟨by rw [tog_len]; exact h1, h2⟩]
 rw [hs, h2]
 have hod := oddB_cases p
 have hi2 : (p + 1) / 2 = if oddB p = true then p / 2 + 1 else p / 2 := by
  rcases hod with ⟨ho, hp2⟩ | ⟨ho, hp2⟩
  ·rw [if_pos ho]; omega
  ·rw [if_neg (by rw [ho]; simp)]; omega
 rw [hi2, oddB_succ]
 obtain ⟨i, hi⟩ : ∃ i, p / 2 = i := ⟨_, rfl⟩
 rw [hi] at hod ⊢
 clear hn
 rcases hod with ⟨ho, hp2⟩ | ⟨ho, hp2⟩
 ·rw [ho, if_pos rfl]
  refine AB ?_
  refine AR ?_
  refine AR ?_
  refine AD ?_
  refine AD ?_
  refine AE ?_
  refine AC ?_
  refine AA ?_
  refine AB ?_
  refine BE ?_
  refine AB ?_
  refine AB ?_
  refine AB ?_
  refine BI ?_
  refine AJ ?_
  refine AE ?_
  refine AN rfl ?_
  refine AL ?_
  refine AC ?_
  refine AC ?_
  refine AA ?_
  refine AB ?_
  refine BL ?_
  refine AH ?_
  refine AF ?_
  refine AE ?_
  refine AO rfl ?_
  refine AA ?_
  refine AB ?_
  refine BL ?_
  refine AH ?_
  refine AF ?_
  refine A9 ?_
  refine BL ?_
  refine AH ?_
  refine BM ?_; rintro _ _ ⟨rfl, rfl⟩
  refine AE ?_
  refine AA ?_
  refine AB ?_
  refine AB ?_
  refine BL ?_
  refine AH ?_
  refine AF ?_
  refine BE ?_
  refine BL ?_
  refine AH ?_
  refine BM ?_; rintro _ _ ⟨rfl, rfl⟩
  refine AE ?_
  exact CI (res0 rfl) rsubZ selZ ⟨rfl, rfl⟩
 ·rw [ho, if_neg (by simp)]
  refine AB ?_
  refine AR ?_
  refine AR ?_
  refine AD ?_
  refine AD ?_
  refine AE ?_
  refine AC ?_
  refine AA ?_
  refine AB ?_
  refine BE ?_
  refine AB ?_
  refine AB ?_
  refine AB ?_
  refine BI ?_
  refine AJ ?_
  refine AE ?_
  refine AN rfl ?_
  refine AL ?_
  refine AC ?_
  refine AC ?_
  refine AA ?_
  refine AB ?_
  refine BL ?_
  refine AH ?_
  refine AF ?_
  refine AE ?_
  refine AN rfl ?_
  refine AL ?_
  refine AA ?_
  refine AB ?_
  refine AB ?_
  refine BL ?_
  refine AH ?_
  refine AF ?_
  refine BE ?_
  refine BL ?_
  refine AH ?_
  refine BM ?_; rintro _ _ ⟨rfl, rfl⟩
  refine AE ?_
  exact CI (res0 rfl) rsubZ selZ ⟨rfl, rfl⟩
end Go.Proofs.YthdoegkjifgegaaGreat
/- The ends of two sets, in their order: an iterator. -/
namespace Go.Proofs.YthdoegkjifgegaaGreat
open Go.Eng Go.Step
set_option maxRecDepth 100000
set_option maxHeartbeats 4000000

def encPt (x : Int × Bool × Bool) : List Value := [int x.1, .agg #[.bool x.2.1, .bool x.2.2]]
set_option maxHeartbeats 32000000 in
theorem points_iter (ρ τ : PH) (va vb : Value) (a b : Iv) (b1 b2 : Nat) (ha : SpAt ρ va a) (hb : SpAt τ vb b) (hla : a.length ≤ 1000000) (hlb : b.length ≤ 1000000) :
  Iter Tryz.prog (.func (.func 144) #[] #[.pointer (some ⟨b1, 0, none⟩), .pointer (some ⟨b2, 0, none⟩)]) [sng b1 (.cells #[va] 59 (0, 0)), sng b2 (.cells #[vb] 59 (0, 0)), ρ, τ] ((mrg (tog a) false (tog b) false).map encPt) := by
 intro y S Own Inv Stop Ry hy hyl σ0 hI0
 obtain ⟨yl, rfl⟩ := hyl
 have hna := fun bx p hp => sideNext_spec ρ va a bx p ha (by omega) hp
 have hnb := fun bx p hp => sideNext_spec τ vb b bx p hb (by omega) hp
 have hpa := fun bx p t hp => sidePass_spec ρ va a bx p t ha (by omega) hp
 have hpb := fun bx p t hp => sidePass_spec τ vb b bx p t hb (by omega) hp
 obtain ⟨qa, ca, rfl, hra⟩ := ha.val encS_len
 obtain ⟨qb, cb, rfl, hrb⟩ := hb.val encS_len
 have c1 : rdc (sng b1 (.cells #[.slice qa a.length ca] 59 (0, 0))) b1 0 = some (.slice qa a.length ca) := by rw [rdc_sng]; rfl
 have c2 : rdc (sng b2 (.cells #[.slice qb b.length cb] 59 (0, 0))) b2 0 = some (.slice qb b.length cb) := by rw [rdc_sng]; rfl
 have la := tog_len a
 have lb := tog_len b
 simp only [List.cons_append, List.nil_append]
 refine spec_in (cap := [.pointer (some ⟨b1, 0, none⟩), .pointer (some ⟨b2, 0, none⟩)]) Tryz.func144 rfl rfl Tryz.ntmps144 rfl envZ (fun N β => ?_)
 refine AC ?_
 refine EZ (X := Nat × Nat) [0, 1, 2] (fun _ => True) (fun x => [(4, .pointer (some ⟨x.1, 0, none⟩)), (5, .pointer (some ⟨x.2, 0, none⟩))]) (fun x => sng x.2 (.cells #[.slice qb b.length cb, int ((0 / 2 : Nat) : Int), .bool (oddB 0)] 213 (0, 0)) :: sng x.1 (.cells #[.slice qa a.length ca, int ((0 / 2 : Nat) : Int), .bool (oddB 0)] 213 (0, 0)) :: Own σ0) pickZ ?_ ?_
 ·refine AZ (.q 0 (.q 1 (.q 3 (.q 4 (.l2 2 .e (.q 6 (.l 5 .e (.q 7 .nil))) 5 .e (.l 2 .e (.q 6 (.q 7 .nil)))))))) [] rfl (by kernel_rfl) Sel.nil ?_
  repeat' (first
   | (refine BP ?_)
   | (refine AQ ?_)
   | (refine B9 ?_)
   | (refine A4 ?_)
   | (refine FI ?_ ?_)
   | (refine FR ?_; rintro _ _ ⟨b, rfl, rfl⟩)
   | (refine GQ ?_; rintro _ _ ⟨b, rfl, rfl⟩)
   | fail)
  ·refine DU (_, _) trivial covZ ?_
   exact Sel.refl
  ·refine CV (List.Perm.swap _ _ _) ?_
   refine DU (_, _) trivial covZ ?_
   exact Sel.refl
 rintro ⟨bx, by_⟩ _
 dsimp only
 refine AP ?_
 refine BC [0, 1, 2, 4, 5] (X := Nat × Nat × Nat × S) (0, 0, 0, σ0) (fun x => x.1 ≤ (mrg (tog a) false (tog b) false).length ∧ x.2.1 ≤ 2 * a.length ∧ x.2.2.1 ≤ 2 * b.length ∧ (mrg (tog a) false (tog b) false).drop x.1 = mrg ((tog a).drop x.2.1) (oddB x.2.1) ((tog b).drop x.2.2.1) (oddB x.2.2.1) ∧ Inv x.1 x.2.2.2) (fun _ => []) (fun x => sng by_ (.cells #[.slice qb b.length cb, int ((x.2.2.1 / 2 : Nat) : Int), .bool (oddB x.2.2.1)] 213 (0, 0)) :: sng bx (.cells #[.slice qa a.length ca, int ((x.2.1 / 2 : Nat) : Int), .bool (oddB x.2.1)] 213 (0, 0)) :: Own x.2.2.2) (fun x => (2 * a.length - x.2.1) + (2 * b.length - x.2.2.1)) pickZ ⟨by dsimp only; omega, by dsimp only; omega, by dsimp only; omega, rfl, hI0⟩ covZ Sel.refl ?_
 rintro ⟨k, p, q, σ'⟩ ⟨hk, hp, hq, hS, hI⟩
 dsimp only at hk hp hq hS hI ⊢
 have h1 := hna bx p hp
 have h2 := hnb by_ q hq
 refine AP ?_
 refine AC ?_
 refine AA ?_
 refine AB ?_
 refine A6 h1 rfl rfl rdZ rfl rfl ?_
 rintro _ rfl
 refine AB ?_
 refine AR ?_
 refine AR ?_
 refine AD ?_
 refine AD ?_
 refine AE ?_
 refine AC ?_
 refine AA ?_
 refine AB ?_
 refine A6 h2 rfl rfl rdZ rfl rfl ?_
 rintro _ rfl
 generalize hm : (tog a).getD p 0 = m
 generalize hn : (tog b).getD q 0 = n
 by_cases h1 : p < 2 * a.length
 ·rw [decide_eq_true h1]
  by_cases h2 : q < 2 * b.length ∧ n < m
  ·have hX : nxtT (tog a) (tog b) p q = n := by unfold nxtT; rw [if_pos (by omega), if_pos (by rw [hm, hn]; omega), hn]
   rw [decide_eq_true h2.1]
   have h2n := h2.2
   have hlive : p < (tog a).length ∨ q < (tog b).length := by omega
   have hS' := mrg_at (by omega) (by omega) hlive
   have hgo := stp_go hlive
   rw [hX] at hS' hgo
   rw [← hS] at hS'
   obtain ⟨g1, g2, g3⟩ := drop_head hS'
   have p1 := stp_le (A := tog a) (t := n) (p := p) (by omega)
   have q1 := stp_le (A := tog b) (t := n) (p := q) (by omega)
   have hy1 := hy k σ' (encPt (n, oddB (stp (tog a) n p), oddB (stp (tog b) n q))) (by rw [List.getElem?_map, g1]; rfl) hI
   have k1 := hpa bx p n hp
   have k2 := hpb by_ q n hq
   generalize stp (tog a) n p = p' at g2 hy1 k1 p1 hgo
   generalize stp (tog b) n q = q' at g2 hy1 k2 q1 hgo
   refine AB ?_
   refine AR ?_
   refine AR ?_
   refine AD ?_
   refine AD ?_
   refine AE ?_
   refine AC ?_
   refine AC ?_
   refine AA ?_
   refine AB ?_
   refine BE ?_
   refine AB ?_
   refine AG rfl rfl rfl ?_
   refine AG rfl rfl rfl ?_
   refine AJ ?_
   refine AE ?_
   refine AN rfl ?_
   refine AL ?_
   refine AC ?_
   refine AA ?_
   refine AB ?_
   refine AD ?_
   refine AE ?_
   refine AC ?_
   refine AC ?_
   refine AA ?_
   refine AB ?_
   refine BE ?_
   refine AB ?_
   refine AB ?_
   refine AB ?_
   refine AB ?_
   refine AB ?_
   refine BB ?_
   refine AM ?_
   refine AJ ?_
   refine AE ?_
   refine AO rfl ?_
   refine AA ?_
   refine AB ?_
   refine AD ?_
   refine AE ?_
   refine AC ?_
   refine AA ?_
   refine AB ?_
   refine AB ?_
   refine BK k1 rfl rfl takesZ rdZ rfl rfl ?_
   rintro _ _ ⟨rfl, rfl⟩
   refine AE ?_
   refine AC ?_
   refine AA ?_
   refine AB ?_
   refine AB ?_
   refine BK k2 rfl rfl takesZ rdZ rfl rfl ?_
   rintro _ _ ⟨rfl, rfl⟩
   refine AE ?_
   refine AC ?_
   refine AZ (.q 0 (.q 1 (.q 2 (.q 3 (.q 4 (.q 5 (.q 6 (.q 7 (.q 8 (.q 9 (.q 10 (.l 11 .b (.q 12 .nil))))))))))))) [] rfl (by kernel_rfl) Sel.nil ?_
   refine AK ?_
   refine AK ?_
   refine AK ?_
   refine A2 ?_
   refine AX ?_
   refine AQ ?_
   refine AK ?_
   refine A2 ?_
   refine AX ?_
   refine AQ ?_
   focus ((refine' CX rfl _ rfl rfl rfl rfl _; rotate_left; (focus (apply DN; exact rfl; exact rfl; exact rfl; exact rfl; exact rfl; exact rfl; exact rfl))))
   refine CF (DX rfl hy1 rfl rfl (Takes.skip (Takes.skip Takes.all)) (fun τ hτ => .inl (by simp [hτ])) rfl rfl (fun _ _ _ w hw => hw.sel Sel.nil) ?_)
   rintro _ H' ⟨σ1, rfl, ⟨rfl, hI1⟩ | ⟨rfl, hSt⟩⟩
   ·refine EH (H' := _ :: _ :: Own σ1) (List.perm_append_comm (l₂ := [_, _])) ?_
    refine CW ?_
    refine A4 ?_
    refine AN rfl ?_
    refine AL ?_
    refine A0 ?_
    exact AW (k + 1, p', q', σ1) ⟨by dsimp only; omega, by dsimp only; omega, by dsimp only; omega, g2, hI1⟩ (by dsimp only; omega) covZ Sel.refl
   ·refine CW ?_
    refine A4 ?_
    refine AO rfl ?_
    exact AI (res0 rfl) (fun _ h => h) Sel.left ⟨σ1, rfl, .inr hSt⟩
  ·have hX : nxtT (tog a) (tog b) p q = m := by unfold nxtT; rw [if_pos (by omega), if_neg (by rw [hm, hn]; omega), hm]
   by_cases h3 : q < 2 * b.length
   ·rw [decide_eq_true h3]
    have h2n : ¬ n < m := fun h => h2 ⟨h3, h⟩
    have hlive : p < (tog a).length ∨ q < (tog b).length := by omega
    have hS' := mrg_at (by omega) (by omega) hlive
    have hgo := stp_go hlive
    rw [hX] at hS' hgo
    rw [← hS] at hS'
    obtain ⟨g1, g2, g3⟩ := drop_head hS'
    have p1 := stp_le (A := tog a) (t := m) (p := p) (by omega)
    have q1 := stp_le (A := tog b) (t := m) (p := q) (by omega)
    have hy1 := hy k σ' (encPt (m, oddB (stp (tog a) m p), oddB (stp (tog b) m q))) (by rw [List.getElem?_map, g1]; rfl) hI
    have k1 := hpa bx p m hp
    have k2 := hpb by_ q m hq
    generalize stp (tog a) m p = p' at g2 hy1 k1 p1 hgo
    generalize stp (tog b) m q = q' at g2 hy1 k2 q1 hgo
    refine AB ?_
    refine AR ?_
    refine AR ?_
    refine AD ?_
    refine AD ?_
    refine AE ?_
    refine AC ?_
    refine AC ?_
    refine AA ?_
    refine AB ?_
    refine BE ?_
    refine AB ?_
    refine AG rfl rfl rfl ?_
    refine AG rfl rfl rfl ?_
    refine AJ ?_
    refine AE ?_
    refine AN rfl ?_
    refine AL ?_
    refine AC ?_
    refine AA ?_
    refine AB ?_
    refine AD ?_
    refine AE ?_
    refine AC ?_
    refine AC ?_
    refine AA ?_
    refine AB ?_
    refine BE ?_
    refine AB ?_
    refine AB ?_
    refine AB ?_
    refine AB ?_
    refine AB ?_
    refine AY ?_
    refine AM ?_
    refine AJ ?_
    refine AE ?_
    refine AN rfl ?_
    refine AL ?_
    refine AC ?_
    refine AA ?_
    refine AB ?_
    refine AB ?_
    refine BK k1 rfl rfl takesZ rdZ rfl rfl ?_
    rintro _ _ ⟨rfl, rfl⟩
    refine AE ?_
    refine AC ?_
    refine AA ?_
    refine AB ?_
    refine AB ?_
    refine BK k2 rfl rfl takesZ rdZ rfl rfl ?_
    rintro _ _ ⟨rfl, rfl⟩
    refine AE ?_
    refine AC ?_
    refine AZ (.q 0 (.q 1 (.q 2 (.q 3 (.q 4 (.q 5 (.q 6 (.q 7 (.q 8 (.q 9 (.q 10 (.l 11 .b (.q 12 .nil))))))))))))) [] rfl (by kernel_rfl) Sel.nil ?_
    refine AK ?_
    refine AK ?_
    refine AK ?_
    refine A2 ?_
    refine AX ?_
    refine AQ ?_
    refine AK ?_
    refine A2 ?_
    refine AX ?_
    refine AQ ?_
    focus ((refine' CX rfl _ rfl rfl rfl rfl _; rotate_left; (focus (apply DN; exact rfl; exact rfl; exact rfl; exact rfl; exact rfl; exact rfl; exact rfl))))
    refine CF (DX rfl hy1 rfl rfl (Takes.skip (Takes.skip Takes.all)) (fun τ hτ => .inl (by simp [hτ])) rfl rfl (fun _ _ _ w hw => hw.sel Sel.nil) ?_)
    rintro _ H' ⟨σ1, rfl, ⟨rfl, hI1⟩ | ⟨rfl, hSt⟩⟩
    ·refine EH (H' := _ :: _ :: Own σ1) (List.perm_append_comm (l₂ := [_, _])) ?_
     refine CW ?_
     refine A4 ?_
     refine AN rfl ?_
     refine AL ?_
     refine A0 ?_
     exact AW (k + 1, p', q', σ1) ⟨by dsimp only; omega, by dsimp only; omega, by dsimp only; omega, g2, hI1⟩ (by dsimp only; omega) covZ Sel.refl
    ·refine CW ?_
     refine A4 ?_
     refine AO rfl ?_
     exact AI (res0 rfl) (fun _ h => h) Sel.left ⟨σ1, rfl, .inr hSt⟩
   ·rw [decide_eq_false h3]
    have hlive : p < (tog a).length ∨ q < (tog b).length := by omega
    have hS' := mrg_at (by omega) (by omega) hlive
    have hgo := stp_go hlive
    rw [hX] at hS' hgo
    rw [← hS] at hS'
    obtain ⟨g1, g2, g3⟩ := drop_head hS'
    have p1 := stp_le (A := tog a) (t := m) (p := p) (by omega)
    have q1 := stp_le (A := tog b) (t := m) (p := q) (by omega)
    have hy1 := hy k σ' (encPt (m, oddB (stp (tog a) m p), oddB (stp (tog b) m q))) (by rw [List.getElem?_map, g1]; rfl) hI
    have k1 := hpa bx p m hp
    have k2 := hpb by_ q m hq
    generalize stp (tog a) m p = p' at g2 hy1 k1 p1 hgo
    generalize stp (tog b) m q = q' at g2 hy1 k2 q1 hgo
    refine AB ?_
    refine AR ?_
    refine AR ?_
    refine AD ?_
    refine AD ?_
    refine AE ?_
    refine AC ?_
    refine AC ?_
    refine AA ?_
    refine AB ?_
    refine BE ?_
    refine AB ?_
    refine AG rfl rfl rfl ?_
    refine AG rfl rfl rfl ?_
    refine AJ ?_
    refine AE ?_
    refine AN rfl ?_
    refine AL ?_
    refine AC ?_
    refine AA ?_
    refine AB ?_
    refine AD ?_
    refine AE ?_
    refine AC ?_
    refine AC ?_
    refine AA ?_
    refine AB ?_
    refine BE ?_
    refine AB ?_
    refine AB ?_
    refine AB ?_
    refine AG rfl rfl rfl ?_
    refine AG rfl rfl rfl ?_
    refine AG rfl rfl rfl ?_
    refine AJ ?_
    refine AJ ?_
    refine AE ?_
    refine AN rfl ?_
    refine AL ?_
    refine AC ?_
    refine AA ?_
    refine AB ?_
    refine AB ?_
    refine BK k1 rfl rfl takesZ rdZ rfl rfl ?_
    rintro _ _ ⟨rfl, rfl⟩
    refine AE ?_
    refine AC ?_
    refine AA ?_
    refine AB ?_
    refine AB ?_
    refine BK k2 rfl rfl takesZ rdZ rfl rfl ?_
    rintro _ _ ⟨rfl, rfl⟩
    refine AE ?_
    refine AC ?_
    refine AZ (.q 0 (.q 1 (.q 2 (.q 3 (.q 4 (.q 5 (.q 6 (.q 7 (.q 8 (.q 9 (.q 10 (.l 11 .b (.q 12 .nil))))))))))))) [] rfl (by kernel_rfl) Sel.nil ?_
    refine AK ?_
    refine AK ?_
    refine AK ?_
    refine A2 ?_
    refine AX ?_
    refine AQ ?_
    refine AK ?_
    refine A2 ?_
    refine AX ?_
    refine AQ ?_
    focus ((refine' CX rfl _ rfl rfl rfl rfl _; rotate_left; (focus (apply DN; exact rfl; exact rfl; exact rfl; exact rfl; exact rfl; exact rfl; exact rfl))))
    refine CF (DX rfl hy1 rfl rfl (Takes.skip (Takes.skip Takes.all)) (fun τ hτ => .inl (by simp [hτ])) rfl rfl (fun _ _ _ w hw => hw.sel Sel.nil) ?_)
    rintro _ H' ⟨σ1, rfl, ⟨rfl, hI1⟩ | ⟨rfl, hSt⟩⟩
    ·refine EH (H' := _ :: _ :: Own σ1) (List.perm_append_comm (l₂ := [_, _])) ?_
     refine CW ?_
     refine A4 ?_
     refine AN rfl ?_
     refine AL ?_
     refine A0 ?_
     exact AW (k + 1, p', q', σ1) ⟨by dsimp only; omega, by dsimp only; omega, by dsimp only; omega, g2, hI1⟩ (by dsimp only; omega) covZ Sel.refl
    ·refine CW ?_
     refine A4 ?_
     refine AO rfl ?_
     exact AI (res0 rfl) (fun _ h => h) Sel.left ⟨σ1, rfl, .inr hSt⟩
 ·rw [decide_eq_false h1]
  by_cases h2 : q < 2 * b.length
  ·have hX : nxtT (tog a) (tog b) p q = n := by unfold nxtT; rw [if_neg (by omega), hn]
   rw [decide_eq_true h2]
   have hlive : p < (tog a).length ∨ q < (tog b).length := by omega
   have hS' := mrg_at (by omega) (by omega) hlive
   have hgo := stp_go hlive
   rw [hX] at hS' hgo
   rw [← hS] at hS'
   obtain ⟨g1, g2, g3⟩ := drop_head hS'
   have p1 := stp_le (A := tog a) (t := n) (p := p) (by omega)
   have q1 := stp_le (A := tog b) (t := n) (p := q) (by omega)
   have hy1 := hy k σ' (encPt (n, oddB (stp (tog a) n p), oddB (stp (tog b) n q))) (by rw [List.getElem?_map, g1]; rfl) hI
   have k1 := hpa bx p n hp
   have k2 := hpb by_ q n hq
   generalize stp (tog a) n p = p' at g2 hy1 k1 p1 hgo
   generalize stp (tog b) n q = q' at g2 hy1 k2 q1 hgo
   refine AB ?_
   refine AR ?_
   refine AR ?_
   refine AD ?_
   refine AD ?_
   refine AE ?_
   refine AC ?_
   refine AC ?_
   refine AA ?_
   refine AB ?_
   refine BE ?_
   refine AB ?_
   refine AB ?_
   refine BE ?_
   refine AM ?_
   refine AE ?_
   refine AN rfl ?_
   refine AL ?_
   refine AC ?_
   refine AA ?_
   refine AB ?_
   refine AD ?_
   refine AE ?_
   refine AC ?_
   refine AC ?_
   refine AA ?_
   refine AB ?_
   refine BE ?_
   refine AB ?_
   refine AG rfl rfl rfl ?_
   refine AG rfl rfl rfl ?_
   refine AG rfl rfl rfl ?_
   refine AG rfl rfl rfl ?_
   refine AG rfl rfl rfl ?_
   refine AG rfl rfl rfl ?_
   refine AM ?_
   refine AE ?_
   refine AO rfl ?_
   refine AA ?_
   refine AB ?_
   refine AD ?_
   refine AE ?_
   refine AC ?_
   refine AA ?_
   refine AB ?_
   refine AB ?_
   refine BK k1 rfl rfl takesZ rdZ rfl rfl ?_
   rintro _ _ ⟨rfl, rfl⟩
   refine AE ?_
   refine AC ?_
   refine AA ?_
   refine AB ?_
   refine AB ?_
   refine BK k2 rfl rfl takesZ rdZ rfl rfl ?_
   rintro _ _ ⟨rfl, rfl⟩
   refine AE ?_
   refine AC ?_
   refine AZ (.q 0 (.q 1 (.q 2 (.q 3 (.q 4 (.q 5 (.q 6 (.q 7 (.q 8 (.q 9 (.q 10 (.l 11 .b (.q 12 .nil))))))))))))) [] rfl (by kernel_rfl) Sel.nil ?_
   refine AK ?_
   refine AK ?_
   refine AK ?_
   refine A2 ?_
   refine AX ?_
   refine AQ ?_
   refine AK ?_
   refine A2 ?_
   refine AX ?_
   refine AQ ?_
   focus ((refine' CX rfl _ rfl rfl rfl rfl _; rotate_left; (focus (apply DN; exact rfl; exact rfl; exact rfl; exact rfl; exact rfl; exact rfl; exact rfl))))
   refine CF (DX rfl hy1 rfl rfl (Takes.skip (Takes.skip Takes.all)) (fun τ hτ => .inl (by simp [hτ])) rfl rfl (fun _ _ _ w hw => hw.sel Sel.nil) ?_)
   rintro _ H' ⟨σ1, rfl, ⟨rfl, hI1⟩ | ⟨rfl, hSt⟩⟩
   ·refine EH (H' := _ :: _ :: Own σ1) (List.perm_append_comm (l₂ := [_, _])) ?_
    refine CW ?_
    refine A4 ?_
    refine AN rfl ?_
    refine AL ?_
    refine A0 ?_
    exact AW (k + 1, p', q', σ1) ⟨by dsimp only; omega, by dsimp only; omega, by dsimp only; omega, g2, hI1⟩ (by dsimp only; omega) covZ Sel.refl
   ·refine CW ?_
    refine A4 ?_
    refine AO rfl ?_
    exact AI (res0 rfl) (fun _ h => h) Sel.left ⟨σ1, rfl, .inr hSt⟩
  ·rw [decide_eq_false h2]
   have hpe : p = (tog a).length := by omega
   have hqe : q = (tog b).length := by omega
   rw [hpe, hqe, mrg_end] at hS
   have hke : k = (mrg (tog a) false (tog b) false).length := by
    have := List.drop_eq_nil_iff.1 hS
    omega
   refine AB ?_
   refine AR ?_
   refine AR ?_
   refine AD ?_
   refine AD ?_
   refine AE ?_
   refine AC ?_
   refine AC ?_
   refine AA ?_
   refine AB ?_
   refine BE ?_
   refine AB ?_
   refine AB ?_
   refine BE ?_
   refine AM ?_
   refine AE ?_
   refine AO rfl ?_
   refine AI (res0 rfl) (fun _ h => h) (Sel.skip (Sel.skip Sel.refl)) ⟨σ', rfl, .inl ?_⟩
   rw [List.length_map, ← hke]
   exact hI
end Go.Proofs.YthdoegkjifgegaaGreat
/- Sets combined. -/
namespace Go.Proofs.YthdoegkjifgegaaGreat
open Go.Eng Go.Step
set_option maxRecDepth 100000
set_option maxHeartbeats 4000000

theorem points_spec (v u : Value) (hv : v.oneCell' = true) (hu : u.oneCell' = true) :
  Eng.Spec Tryz.prog (fv 122) [v, u] [] [] (fun r H' => ∃ b1 b2, r = .func (.func 144) #[] #[.pointer (some ⟨b1, 0, none⟩), .pointer (some ⟨b2, 0, none⟩)] ∧ H' = [sng b2 (.cells #[u] 59 (0, 0)), sng b1 (.cells #[v] 59 (0, 0))]) := by
 refine spec_in (cap := []) Tryz.func122 rfl rfl Tryz.ntmps122 rfl envZ (fun N β => ?_)
 refine AC ?_
 refine AA ?_
 refine BJ (C7 rfl hv) rfl rfl rfl ?_
 rintro _ _ ⟨b1, rfl, rfl⟩
 refine BJ (C7 rfl hu) rfl rfl rfl ?_
 rintro _ _ ⟨b2, rfl, rfl⟩
 refine AD ?_
 refine AE ?_
 refine AC ?_
 refine AA ?_
 refine CC ?_
 refine AD ?_
 refine AE ?_
 exact AI (res1 rfl rfl) rsubZ selZ ⟨b1, b2, rfl, rfl⟩
set_option maxHeartbeats 32000000 in
theorem ivCombine_spec (ρ τ : PH) (va vb : Value) (gf : FuncId) (a b : Iv) (f : Bool → Bool → Bool) (ha : SpAt ρ va a) (hb : SpAt τ vb b) (h0a : chkI a = 0) (h0b : chkI b = 0) (hlen : a.length + b.length ≤ 1000) (hf : f false false = false)
  (hfn : ∀ x y, Ans Tryz.prog (.func (.func gf) #[] #[]) [.bool x, .bool y] [] (fun r => r = .bool (f x y))) :
  Makes Tryz.prog (fv 92) [va, vb, .func (.func gf) #[] #[]] [ρ, τ] (fun r σ => ∃ u, r = .tuple #[u, int 0] ∧ OwnS 61 2 u (combI f a b).length ((combI f a b).flatMap encS) σ) := by
 have hca := ivCheck_spec ρ va a ha (by omega)
 have hcb := ivCheck_spec τ vb b hb (by omega)
 rw [h0a] at hca
 rw [h0b] at hcb
 have hpts := fun b1 b2 => points_iter ρ τ va vb a b b1 b2 ha hb (by omega) (by omega)
 have hcl := (combI_ok hf (chkI_norm h0a).2.1 (chkI_norm h0b).2.1).2.2
 have hml := mrg_len _ (tog a) false (tog b) false (Nat.le_refl _)
 rw [tog_len, tog_len] at hml
 obtain ⟨qa, ca, rfl, _⟩ := ha.val encS_len
 obtain ⟨qb, cb, rfl, _⟩ := hb.val encS_len
 refine spec_in (cap := []) Tryz.func92 rfl rfl Tryz.ntmps92 rfl envZ (fun N β => ?_)
 refine CG ?_
 refine AC ?_
 refine AA ?_
 refine FS ?_; rintro _ _ ⟨b, rfl, rfl⟩
 refine AD ?_
 refine AD ?_
 refine AE ?_
 refine AC ?_
 refine AC ?_
 refine AA ?_
 refine AB ?_
 revert b; intro b5
 refine AS (ρ := sng b5 _) takeZ ?_
 have g5 : rdc (sng b5 (.cells #[.func (.func gf) #[] #[]] 168 (0, 0))) b5 0 = some (.func (.func gf) #[] #[]) := by rw [rdc_sng]; rfl
 refine A6 hca rfl rfl rdZ rfl rfl ?_
 rintro _ rfl
 refine BI ?_
 refine AB ?_
 refine AB ?_
 refine A6 hcb rfl rfl rdZ rfl rfl ?_
 rintro _ rfl
 refine BI ?_
 refine AJ ?_
 refine AE ?_
 refine AN rfl ?_
 refine AL ?_
 refine AC ?_
 refine AA ?_
 refine B5 ?_; rintro _ _ ⟨b, rfl, rfl⟩
 refine AE ?_
 refine AC ?_
 refine AA ?_
 refine B5 ?_; rintro _ _ ⟨b, rfl, rfl⟩
 refine BM ?_; rintro _ _ ⟨rfl, rfl⟩
 refine AE ?_
 refine AC ?_
 refine AC ?_
 refine AA ?_
 refine AB ?_
 refine AB ?_
 revert b; intro b9
 revert b; intro b8
 refine BK (points_spec (.slice qa a.length ca) (.slice qb b.length cb) rfl rfl) rfl rfl Takes.nil (fun τ hτ => by simp at hτ) rfl rfl ?_
 rintro _ _ ⟨b1, b2, rfl, rfl⟩
 refine AS (ρ := sng b1 _) takeZ ?_
 refine AS (ρ := sng b2 _) takeZ ?_
 refine AE ?_
 refine AP ?_
 refine DF (gf := 144) (cap := [.pointer (some ⟨b1, 0, none⟩), .pointer (some ⟨b2, 0, none⟩)]) (ps := [24, 25]) (X := Value × Bool × PH) rfl Tryz.func144 rfl rfl
  (hpts b1 b2) ?_
  (fun i x => x.2.1 = oddB (mcomb f ((mrg (tog a) false (tog b) false).take i) []).length ∧ OwnS 61 2 x.1 (spans (mcomb f ((mrg (tog a) false (tog b) false).take i) [])).length ((spans (mcomb f ((mrg (tog a) false (tog b) false).take i) [])).flatMap encS) x.2.2)
  (fun x => [sng b8 (.cells #[x.1] 59 (0, 0)), sng b9 (.cells #[.bool x.2.1] 4 (0, 0)), x.2.2]) (fun _ _ => False) (.slice none 0 0, false, emp) rfl takesZ ⟨rfl, OwnS.nil _ _⟩ ?_ ?_ ?_
 ·intro σ' hσ
  simp only [List.mem_cons, List.not_mem_nil, or_false] at hσ ⊢
  rcases hσ with h | h | h | h <;> simp [h]
 ·rintro lo r i ⟨u, ins, σ⟩ vs hvs ⟨hins, hO⟩ hps has hbd hst hpe hfr
  obtain ⟨st, pe, fnn, tm, prm, asg, bdy, df⟩ := r
  simp only at hps has hbd hst hpe hfr
  subst hps has hbd hst hpe
  rw [List.getElem?_map] at hvs
  obtain ⟨⟨t, x, y⟩, hc, rfl⟩ := Option.map_eq_some_iff.1 hvs
  have hnx := mcomb_next f hc []
  have hOl := mcomb_len f ((mrg (tog a) false (tog b) false).take i) []
  have hti : ((mrg (tog a) false (tog b) false).take i).length ≤ (mrg (tog a) false (tog b) false).length := by rw [List.length_take]; omega
  dsimp only at hins hO
  have hsl := spans_len (mcomb f ((mrg (tog a) false (tog b) false).take i) [])
  simp only [hnx]
  generalize mcomb f ((mrg (tog a) false (tog b) false).take i) [] = O at hins hO hOl hsl
  simp only [List.length_nil] at hOl
  have hone : ∀ z n (xs : List Value) (χ : PH), OwnS 61 2 z n xs χ → z.oneCell' = true := fun z n xs χ h => by obtain ⟨_, _, rfl⟩ := h.form; rfl
  have hu1 := hone _ _ _ _ hO
  have hfxy := hfn x y
  have hm1 : mcomb1 f O (t, x, y) = if f x y = oddB O.length then O else O ++ [t] := rfl
  refine yield_spec hfr rfl (by intro p hp; simp at hp; omega) putiZ (fun N' β' => ?_)
  dsimp only
  refine AC ?_
  refine AA ?_
  refine AD ?_
  refine AE ?_
  refine AA ?_
  refine A5 ?_; rintro _ _ ⟨b, rfl, rfl⟩
  refine A3 ?_; rintro _ _ ⟨rfl, rfl⟩
  refine AE ?_
  refine C0 rfl rfl ?_
  refine DE takeZ rfl ?_
  revert b; intro bx
  refine AP ?_
  refine AC ?_
  refine AA ?_
  refine AF ?_
  focus ((refine CL (GR rfl rfl rfl rfl (by decide)) rfl rfl rfl ?_))
  refine AF ?_
  focus ((refine CL (GS rfl rfl rfl rfl (by decide)) rfl rfl rfl ?_))
  refine AF ?_
  refine A6 hfxy rfl rfl rdZ rfl rfl ?_
  rintro _ rfl
  cases hfv : f x y with
  | true =>
   cases ins with
   | true =>
    rw [hfv, ← hins, if_pos rfl] at hm1
    refine AD ?_
    refine AE ?_
    refine AC ?_
    refine AP ?_
    refine AC ?_
    refine AA ?_
    refine AB ?_
    refine AB ?_
    refine AF ?_
    refine BE ?_
    refine AM ?_
    refine AD ?_
    refine AE ?_
    refine AN rfl ?_
    refine AC ?_
    refine AA ?_
    refine AB ?_
    refine BE ?_
    refine AB ?_
    refine AG rfl rfl rfl ?_
    refine AJ ?_
    refine AD ?_
    refine AE ?_
    refine AN rfl ?_
    refine AL ?_
    refine A0 ?_
    refine AA ?_
    refine AB ?_
    refine BM ?_; rintro _ _ ⟨rfl, rfl⟩
    refine AE ?_
    refine A0 ?_
    exact B4 takeZ rsubZ selZ ⟨(u, true, σ), .inl ⟨rfl, ⟨by rw [hm1]; exact hins, by rw [hm1]; exact hO⟩, rfl⟩⟩
   | false =>
    rw [hfv, ← hins, if_neg (by simp)] at hm1
    have hsp := spans_even t hins.symm
    refine AD ?_
    refine AE ?_
    refine AC ?_
    refine AP ?_
    refine AC ?_
    refine AA ?_
    refine AB ?_
    refine AB ?_
    refine AF ?_
    refine BE ?_
    refine AM ?_
    refine AD ?_
    refine AE ?_
    refine AO rfl ?_
    refine AA ?_
    refine AF ?_
    refine AB ?_
    refine B6 ?_
    refine BA ?_; rintro _ _ ⟨b, rfl, rfl⟩
    refine BJ (BS (by_ := 16) (s := 2) (news := [int t, int 0]) rfl rfl rfl rfl rfl rfl rfl hO takeZ (cells_own memZ) rfl (by (repeat (first | exact (fun v hv => absurd hv List.not_mem_nil) | (refine List.forall_mem_cons.2 ⟨?_, ?_⟩; (focus (first | exact rfl | assumption))))); first | done | fail) (by omega) (by simp only [maxLen]; omega) (by omega)) rfl rfl rfl ?_
    rintro u1 _ ⟨σ1, hO1, rfl⟩
    have hu2 := hone _ _ _ _ hO1
    refine BM ?_; rintro _ _ ⟨rfl, rfl⟩
    refine AE ?_
    refine A0 ?_
    refine AA ?_
    refine AB ?_
    refine BM ?_; rintro _ _ ⟨rfl, rfl⟩
    refine AE ?_
    refine A0 ?_
    refine B4 takeZ rsubZ selZ ⟨(u1, true, σ1), .inl ⟨rfl, ⟨?_, ?_⟩, rfl⟩⟩
    ·dsimp only
     rw [hm1, List.length_append, List.length_singleton, oddB_succ, ← hins]; rfl
    ·dsimp only
     rw [hm1, hsp, List.length_append, List.flatMap_append]
     exact hO1
  | false =>
   cases ins with
   | false =>
    rw [hfv, ← hins, if_pos rfl] at hm1
    refine AD ?_
    refine AE ?_
    refine AC ?_
    refine AP ?_
    refine AC ?_
    refine AA ?_
    refine AB ?_
    refine AB ?_
    refine AG rfl rfl rfl ?_
    refine AG rfl rfl rfl ?_
    refine AJ ?_
    refine AD ?_
    refine AE ?_
    refine AN rfl ?_
    refine AC ?_
    refine AA ?_
    refine AB ?_
    refine BE ?_
    refine AB ?_
    refine AF ?_
    refine AM ?_
    refine AD ?_
    refine AE ?_
    refine AN rfl ?_
    refine AL ?_
    refine A0 ?_
    refine AA ?_
    refine AB ?_
    refine BM ?_; rintro _ _ ⟨rfl, rfl⟩
    refine AE ?_
    refine A0 ?_
    exact B4 takeZ rsubZ selZ ⟨(u, false, σ), .inl ⟨rfl, ⟨by rw [hm1]; exact hins, by rw [hm1]; exact hO⟩, rfl⟩⟩
   | true =>
    rw [hfv, ← hins, if_neg (by simp)] at hm1
    obtain ⟨l, c, e1, e2⟩ := spans_odd t hins.symm
    rw [e1] at hO hsl
    have hll : (l ++ [(c, (0 : Int))]).length = l.length + 1 := by simp
    obtain ⟨bu, cu, rfl⟩ := hO.formP (by omega)
    have hget : (l ++ [(c, (0 : Int))])[(l ++ [(c, (0 : Int))]).length - 1]? = some (c, 0) := by simp
    refine AD ?_
    refine AE ?_
    refine AC ?_
    refine AP ?_
    refine AC ?_
    refine AA ?_
    refine AB ?_
    refine AB ?_
    refine AG rfl rfl rfl ?_
    refine AG rfl rfl rfl ?_
    refine AJ ?_
    refine AD ?_
    refine AE ?_
    refine AN rfl ?_
    refine AC ?_
    refine AA ?_
    refine AB ?_
    refine BE ?_
    refine AB ?_
    refine AF ?_
    refine AM ?_
    refine AD ?_
    refine AE ?_
    refine AO rfl ?_
    refine AA ?_
    refine AF ?_
    refine AF ?_
    refine AU ?_
    refine DR ?_
    refine AB ?_
    refine A8 ?_
    refine CM ?_
    refine CT (FY encS_len (s := 2) ((l ++ [(c, (0 : Int))]).length - 1) 1 (c, t) hO rfl (by simp; rfl) (by decide) hget rfl rfl rfl rfl takeZ) rfl rfl ?_
    rintro _ _ ⟨rfl, σ1, hO1, rfl⟩
    refine AE ?_
    refine A0 ?_
    refine AA ?_
    refine AB ?_
    refine BM ?_; rintro _ _ ⟨rfl, rfl⟩
    refine AE ?_
    refine A0 ?_
    refine B4 takeZ rsubZ selZ ⟨(.slice (some ⟨bu, 0, none⟩) (l ++ [(c, (0 : Int))]).length cu, false, σ1), .inl ⟨rfl, ⟨?_, ?_⟩, rfl⟩⟩
    ·dsimp only
     rw [hm1, List.length_append, List.length_singleton, oddB_succ, ← hins]; rfl
    ·dsimp only
     rw [hm1, e2]
     have es : (l ++ [(c, (0 : Int))]).set ((l ++ [(c, (0 : Int))]).length - 1) (c, t) = l ++ [(c, t)] := by simp
     rw [es] at hO1
     simpa using hO1
 ·rintro b2' ⟨u, ins, σ⟩ ⟨hins, hO⟩
  rw [List.length_map, List.take_length] at hins hO
  dsimp only at hins hO
  have hO2 : OwnS 61 2 u (combI f a b).length ((combI f a b).flatMap encS) σ := hO
  obtain ⟨p, c, rfl⟩ := hO2.form
  clear hO
  generalize combI f a b = out at hO2 hcl
  refine A0 ?_
  refine AC ?_
  refine AC ?_
  refine AA ?_
  refine AF ?_
  refine AU ?_
  refine BU ?_
  refine AE ?_
  refine AN rfl ?_
  refine AL ?_
  refine AC ?_
  refine AA ?_
  refine AF ?_
  refine AD ?_
  refine AD ?_
  refine AE ?_
  exact EV (Marks.cons .here .nil) (res2 rfl rfl rfl) rsubZ selZ ⟨σ, ⟨_, rfl, hO2⟩, rfl⟩
 ·rintro _ _ _ h; exact h.elim
end Go.Proofs.YthdoegkjifgegaaGreat
/- How many ticks a set has; the sets of a set of vertices have as many as it has. No program in sight. No conditions. -/
namespace Go.Step
open Go.Flow (sideChk capacitySpec)
theorem sideChk_asc {n : Int} : ∀ {l : List Int} {p : Option Int}, sideChk n p l = 0 → l.Pairwise (· < ·) ∧ ∀ q, p = some q → ∀ v ∈ l, q < v
  | [], _, _ => by simp
  | v :: l, p, h => by
    unfold sideChk at h
    split at h
    · simp at h
    have hp : (∀ q, p = some q → q < v) ∧ sideChk n (some v) l = 0 := by
      split at h
      · rename_i q
        split at h
        · simp at h
        · rename_i hq
          simp at hq
          exact ⟨fun q' e => by simp at e; omega, h⟩
      · exact ⟨fun q' e => by simp at e, by simpa using h⟩
    obtain ⟨i1, i2⟩ := sideChk_asc hp.2
    refine ⟨List.pairwise_cons.2 ⟨fun a ha => i2 v rfl a ha, i1⟩, fun q e u hu => ?_⟩
    have := hp.1 q e
    rcases List.mem_cons.1 hu with rfl | hu
    · exact this
    · have := i2 v rfl u hu
      omega
variable {qs : List Int} {cs : List Ct} {bs : List Bk} {hs : List Hd} {d : Dm}
theorem sidesE_asc {side : List Int} (hv : validT qs cs bs hs d = true) (h : sidesE qs cs bs hs d side = 0) : side.Pairwise (· < ·) := by
  unfold sidesE at h
  rw [if_pos hv] at h
  unfold capacitySpec at h
  split at h
  · rename_i hc; exact absurd h hc
  split at h
  · rename_i hc; exact absurd h hc
  · rename_i hc
    exact (sideChk_asc (p := none) (n := vsN qs d) (by omega)).1
end Go.Step
/- The sides of a cut are short. No program in sight. No conditions. -/
namespace Go.Step
theorem norm_len : ∀ {l : Iv} {a b : Int}, NormI l → (∀ x ∈ l, a ≤ x.1 ∧ x.2 ≤ b) → (l.length : Int) ≤ max 0 (b - a)
  | [], a, b, _, _ => by simp only [List.length_nil]; omega
  | x :: l, a, b, h, hb => by
    have h1 := hb x (by simp)
    have h2 := h.1 x (by simp)
    have hp := List.pairwise_cons.1 h.2
    have ih := norm_len (l := l) (a := x.2 + 1) (b := b) ⟨fun y hy => h.1 y (by simp [hy]), hp.2⟩ (fun y hy => by
      have h3 := hp.1 y hy
      have h4 := hb y (by simp [hy])
      exact ⟨by omega, h4.2⟩)
    rw [List.length_cons]
    omega
theorem asc_len : ∀ {l : List Int} {a b : Int}, l.Pairwise (· < ·) → (∀ x ∈ l, a ≤ x ∧ x < b) → (l.length : Int) ≤ max 0 (b - a)
  | [], a, b, _, _ => by simp only [List.length_nil]; omega
  | x :: l, a, b, h, hb => by
    have h1 := hb x (by simp)
    have hp := List.pairwise_cons.1 h
    have ih := asc_len (l := l) (a := x + 1) (b := b) hp.2 (fun y hy => by
      have h3 := hp.1 y hy
      have h4 := hb y (by simp [hy])
      exact ⟨by omega, h4.2⟩)
    rw [List.length_cons]
    omega
section
variable {qs : List Int} {cs : List Ct} {bs : List Bk} {hs : List Hd} {d : Dm}
theorem sideI_small (h : VOk qs cs bs hs d) (side : List Int) (n : Int) : (sideI d side n).length ≤ 102 := by
  have hdm := h.dm
  unfold okDm at hdm
  have := norm_len (sideI_ok d side n).1 (sideI_in (d := d) (by omega) side n)
  omega
theorem sideI_chk (h : VOk qs cs bs hs d) (side : List Int) (n : Int) : chkI (sideI d side n) = 0 := by
  have hdm := h.dm
  unfold okDm at hdm
  have h1 := (sideI_ok d side n).1
  have h2 := sideI_small h side n
  refine chkI_of (by omega) h1 (fun x hx => ?_)
  have a := sideI_in (d := d) (by omega) side n x hx
  have b := h1.1 x hx
  exact ⟨b, by omega, by omega⟩
theorem singI_small (h : VOk qs cs bs hs d) {side : List Int} (ha : side.Pairwise (· < ·)) (n : Int) : (singI d n side).length ≤ 102 := by
  have hdm := h.dm
  unfold okDm at hdm
  have hw : 0 < wd d := by unfold wd; omega
  have hw2 : wd d ≤ 101 := h.wd.2
  unfold singI
  rw [List.length_map]
  have := asc_len (l := side.filter (fun v => decide (v / wd d = n))) (a := n * wd d) (b := n * wd d + wd d) (ha.filter _) (fun v hv => by
    have h1 := of_decide_eq_true (List.mem_filter.1 hv).2
    have a := Int.emod_nonneg v (Int.ne_of_gt hw)
    have b := Int.emod_lt_of_pos v hw
    have c := Int.mul_ediv_add_emod v (wd d)
    rw [h1, Int.mul_comm] at c
    omega)
  omega
end
end Go.Step
/- Cuts of sets of vertices. -/
namespace Go.Proofs.YthdoegkjifgegaaGreat
open Go.Eng Go.Step
set_option maxRecDepth 100000
set_option maxHeartbeats 4000000

def rowsQ (L : List Sq) : List Value := L.map (fun x => .slice x.1.1 x.2.length x.1.2)
theorem rowsQ_flat : ∀ L : List Sq, L.flatMap encQ = rowsQ L
 | [] => rfl
 | x :: L => by
  rw [List.flatMap_cons, rowsQ_flat L]
  rfl
theorem rowsQ_len (L : List Sq) : (rowsQ L).length = L.length := List.length_map _
theorem rowsQ_set (L : List Sq) (k : Nat) (z : Sq) : (rowsQ L).toArray.setIfInBounds k (.slice z.1.1 z.2.length z.1.2) = (rowsQ (L.set k z)).toArray := by
 apply Array.toList_inj.1
 rw [Array.toList_setIfInBounds]
 unfold rowsQ
 rw [List.map_set]
theorem rowsQ_rep (n : Nat) : List.replicate n (Value.slice none 0 0) = rowsQ (List.replicate n ((none, 0), [])) := by
 unfold rowsQ
 rw [List.map_replicate]
 rfl
theorem exOr_spec (x y : Bool) : Ans Tryz.prog (fv 93) [.bool x, .bool y] [] (fun r => r = .bool (x || y)) := by
 refine spec_in (cap := []) Tryz.func93 rfl rfl Tryz.ntmps93 rfl envZ (fun N β => ?_)
 cases x <;> cases y
 all_goals
  repeat' (first
   | (refine AB ?_)
   | (refine AD ?_)
   | (refine AM ?_)
   | (refine AJ ?_)
   | (refine AC ?_)
   | (refine AA ?_)
   | (refine AE ?_)
   | (refine AG rfl rfl rfl ?_)
   | fail)
  exact AI (res1 rfl rfl) rsubZ selZ ⟨rfl, rfl⟩
theorem exUnion_spec (ρ τ : PH) (va vb : Value) (a b : Iv) (ha : SpAt ρ va a) (hb : SpAt τ vb b) (h0a : chkI a = 0) (h0b : chkI b = 0) (hlen : a.length + b.length ≤ 1000) :
  Makes Tryz.prog (fv 48) [va, vb] [ρ, τ] (fun r σ => ∃ u, r = .tuple #[u, int 0] ∧ OwnS 61 2 u (combI (fun x y => x || y) a b).length ((combI (fun x y => x || y) a b).flatMap encS) σ) := by
 have h := ivCombine_spec ρ τ va vb 93 a b (fun x y => x || y) ha hb h0a h0b hlen rfl exOr_spec
 obtain ⟨qa, ca, rfl, _⟩ := ha.val encS_len
 obtain ⟨qb, cb, rfl, _⟩ := hb.val encS_len
 refine spec_in (cap := []) Tryz.func48 rfl rfl Tryz.ntmps48 rfl envZ (fun N β => ?_)
 refine AC ?_
 refine AA ?_
 refine AD ?_
 refine AD ?_
 refine AE ?_
 refine AC ?_
 refine AA ?_
 refine AB ?_
 refine AB ?_
 refine BY h rfl rfl rdZ rfl rfl ?_
 rintro _ σ ⟨u, rfl, hO⟩
 refine AR ?_
 refine AR ?_
 refine AD ?_
 refine AD ?_
 refine AE ?_
 exact AI (res2 rfl rfl rfl) rsubZ selZ ⟨σ, ⟨u, rfl, hO⟩, rfl⟩
set_option maxHeartbeats 32000000 in
theorem Sides_spec {ρ τ σ υ : PH} {pq pc pb ph : Option Addr} {kq kc kb kh : Nat} {qs : List Int} {cs : List Ct} {bs : List Bk} {hs : List Hd} (hT : TbAt ρ τ σ υ pq pc pb ph kq kc kb kh qs cs bs hs) (d : Dm) (ω : PH) (u0 : Value) (side : List Int) (hu : IntsAt ω u0 side) (hsl : side.length ≤ 1000000) :
  Eng.Spec Tryz.prog (fv 19) [.agg #[.slice pq qs.length kq, .slice pc cs.length kc, .slice pb bs.length kb, .slice ph hs.length kh], .agg #[int d.s, int d.d, int d.v, int d.r, int d.e], u0] [ρ, τ, σ, υ, ω] [] (fun r H' => ∃ (L : List Sq) (u : Value) (σ' χ' : PH), r = .tuple #[u, int (sidesE qs cs bs hs d side)] ∧ H' = [σ', χ'] ∧ cuL L = (if sidesE qs cs bs hs d side = 0 then sidesC d qs.length side else []) ∧ CutL σ' χ' u L) := by
 obtain ⟨pf, kf, rfl, hrf⟩ := hu.val Eng.encI_len
 have hnil : CutL emp emp (.slice none 0 0) [] := ⟨⟨rfl, .inl ⟨rfl, none, 0, rfl⟩⟩, by simp⟩
 refine spec_in (cap := []) Tryz.func19 rfl rfl Tryz.ntmps19 rfl envZ (fun N β => ?_)
 refine AC ?_
 refine AA ?_
 refine BJ (BN rfl) rfl rfl rfl ?_
 rintro _ _ ⟨b1, rfl, rfl⟩
 refine AS (ρ := sng b1 _) takeZ ?_
 have ct : RdN (sng b1 (.cells #[.slice pq qs.length kq, .slice pc cs.length kc, .slice pb bs.length kb, .slice ph hs.length kh] 29 (0, 0))) b1 0 [.slice pq qs.length kq, .slice pc cs.length kc, .slice pb bs.length kb, .slice ph hs.length kh] := rdN_sng (vs := [.slice pq qs.length kq, .slice pc cs.length kc, .slice pb bs.length kb, .slice ph hs.length kh])
 have ct0 : rdc (sng b1 (.cells #[.slice pq qs.length kq, .slice pc cs.length kc, .slice pb bs.length kb, .slice ph hs.length kh] 29 (0, 0))) b1 0 = some (.slice pq qs.length kq) := by rw [rdc_sng]; rfl
 have ct1 : rdc (sng b1 (.cells #[.slice pq qs.length kq, .slice pc cs.length kc, .slice pb bs.length kb, .slice ph hs.length kh] 29 (0, 0))) b1 1 = some (.slice pc cs.length kc) := by rw [rdc_sng]; rfl
 have ct2 : rdc (sng b1 (.cells #[.slice pq qs.length kq, .slice pc cs.length kc, .slice pb bs.length kb, .slice ph hs.length kh] 29 (0, 0))) b1 2 = some (.slice pb bs.length kb) := by rw [rdc_sng]; rfl
 have ct3 : rdc (sng b1 (.cells #[.slice pq qs.length kq, .slice pc cs.length kc, .slice pb bs.length kb, .slice ph hs.length kh] 29 (0, 0))) b1 3 = some (.slice ph hs.length kh) := by rw [rdc_sng]; rfl
 have ctp : RdP (sng b1 (.cells #[.slice pq qs.length kq, .slice pc cs.length kc, .slice pb bs.length kb, .slice ph hs.length kh] 29 (0, 0))) b1 0 [.slice pq qs.length kq, .slice pc cs.length kc] := rdP_sng (xs := [.slice pq qs.length kq, .slice pc cs.length kc, .slice pb bs.length kb, .slice ph hs.length kh]) rfl
 refine BJ (BN rfl) rfl rfl rfl ?_
 rintro _ _ ⟨b2, rfl, rfl⟩
 refine AS (ρ := sng b2 _) takeZ ?_
 have cd : RdN (sng b2 (.cells #[int d.s, int d.d, int d.v, int d.r, int d.e] 31 (0, 0))) b2 0 [int d.s, int d.d, int d.v, int d.r, int d.e] := rdN_sng (vs := [int d.s, int d.d, int d.v, int d.r, int d.e])
 have cd0 : rdc (sng b2 (.cells #[int d.s, int d.d, int d.v, int d.r, int d.e] 31 (0, 0))) b2 0 = some (int d.s) := by rw [rdc_sng]; rfl
 have cd1 : rdc (sng b2 (.cells #[int d.s, int d.d, int d.v, int d.r, int d.e] 31 (0, 0))) b2 1 = some (int d.d) := by rw [rdc_sng]; rfl
 have cd2 : rdc (sng b2 (.cells #[int d.s, int d.d, int d.v, int d.r, int d.e] 31 (0, 0))) b2 2 = some (int d.v) := by rw [rdc_sng]; rfl
 have cd3 : rdc (sng b2 (.cells #[int d.s, int d.d, int d.v, int d.r, int d.e] 31 (0, 0))) b2 3 = some (int d.r) := by rw [rdc_sng]; rfl
 have cd4 : rdc (sng b2 (.cells #[int d.s, int d.d, int d.v, int d.r, int d.e] 31 (0, 0))) b2 4 = some (int d.e) := by rw [rdc_sng]; rfl
 refine CG ?_
 refine CG ?_
 refine AD ?_
 refine AD ?_
 refine AE ?_
 refine AC ?_
 refine AA ?_
 refine AT ?_
 refine AT ?_
 refine BK (build_spec hT d) rfl rfl Takes.nil rdZ rfl rfl ?_
 rintro _ H' (⟨hv, rfl, rfl⟩ | ⟨hv, bw, bm, pl0, χ, M, rfl, rfl, hO, hM⟩)
 ·have hE : sidesE qs cs bs hs d side = 1 := by unfold sidesE; rw [if_neg (by simp [hv])]
  rw [hE]
  refine AB ?_
  refine AR ?_
  refine AR ?_
  refine AD ?_
  refine AD ?_
  refine AE ?_
  refine AC ?_
  refine AC ?_
  refine AA ?_
  refine AB ?_
  refine BE ?_
  refine AE ?_
  refine AO rfl ?_
  refine AC ?_
  refine AA ?_
  refine AD ?_
  refine AD ?_
  refine AE ?_
  exact AI (res2 rfl rfl rfl) rsubZ selZ ⟨[], _, emp, emp, rfl, rfl, rfl, hnil⟩
 have hEv : sidesE qs cs bs hs d side = (Go.Flow.capacitySpec (vsN qs d) (arcsG qs cs bs hs d) side).2 := by unfold sidesE; rw [if_pos hv]
 have h := vok hv
 have h0 := vokB hv
 have hdm := h.dm
 unfold okDm at hdm
 have hnq := h.nq
 obtain ⟨pl, kp, rfl⟩ := hO.form
 have hpl : SlE encS 2 χ (.slice pl (placesA d qs.length).length kp) (placesA d qs.length) := hO.at
 refine AS (ρ := sng bw _) takeZ ?_
 refine AS (ρ := sng bm _) takeZ ?_
 refine AS (ρ := χ) takeZ ?_
 have w0 : rdc (sng bw (.cells #[.slice pq qs.length kq, .slice pc cs.length kc, .slice pb bs.length kb, .slice ph hs.length kh, int d.s, int d.d, int d.v, int d.r, int d.e, .slice pl (placesA d qs.length).length kp, .map (some bm)] 97 (0, 0))) bw 0 = some (.slice pq qs.length kq) := by rw [rdc_sng]; rfl
 have w1 : rdc (sng bw (.cells #[.slice pq qs.length kq, .slice pc cs.length kc, .slice pb bs.length kb, .slice ph hs.length kh, int d.s, int d.d, int d.v, int d.r, int d.e, .slice pl (placesA d qs.length).length kp, .map (some bm)] 97 (0, 0))) bw 1 = some (.slice pc cs.length kc) := by rw [rdc_sng]; rfl
 have w2 : rdc (sng bw (.cells #[.slice pq qs.length kq, .slice pc cs.length kc, .slice pb bs.length kb, .slice ph hs.length kh, int d.s, int d.d, int d.v, int d.r, int d.e, .slice pl (placesA d qs.length).length kp, .map (some bm)] 97 (0, 0))) bw 2 = some (.slice pb bs.length kb) := by rw [rdc_sng]; rfl
 have w3 : rdc (sng bw (.cells #[.slice pq qs.length kq, .slice pc cs.length kc, .slice pb bs.length kb, .slice ph hs.length kh, int d.s, int d.d, int d.v, int d.r, int d.e, .slice pl (placesA d qs.length).length kp, .map (some bm)] 97 (0, 0))) bw 3 = some (.slice ph hs.length kh) := by rw [rdc_sng]; rfl
 have w4 : rdc (sng bw (.cells #[.slice pq qs.length kq, .slice pc cs.length kc, .slice pb bs.length kb, .slice ph hs.length kh, int d.s, int d.d, int d.v, int d.r, int d.e, .slice pl (placesA d qs.length).length kp, .map (some bm)] 97 (0, 0))) bw 4 = some (int d.s) := by rw [rdc_sng]; rfl
 have w5 : rdc (sng bw (.cells #[.slice pq qs.length kq, .slice pc cs.length kc, .slice pb bs.length kb, .slice ph hs.length kh, int d.s, int d.d, int d.v, int d.r, int d.e, .slice pl (placesA d qs.length).length kp, .map (some bm)] 97 (0, 0))) bw 5 = some (int d.d) := by rw [rdc_sng]; rfl
 have w6 : rdc (sng bw (.cells #[.slice pq qs.length kq, .slice pc cs.length kc, .slice pb bs.length kb, .slice ph hs.length kh, int d.s, int d.d, int d.v, int d.r, int d.e, .slice pl (placesA d qs.length).length kp, .map (some bm)] 97 (0, 0))) bw 6 = some (int d.v) := by rw [rdc_sng]; rfl
 have w7 : rdc (sng bw (.cells #[.slice pq qs.length kq, .slice pc cs.length kc, .slice pb bs.length kb, .slice ph hs.length kh, int d.s, int d.d, int d.v, int d.r, int d.e, .slice pl (placesA d qs.length).length kp, .map (some bm)] 97 (0, 0))) bw 7 = some (int d.r) := by rw [rdc_sng]; rfl
 have w8 : rdc (sng bw (.cells #[.slice pq qs.length kq, .slice pc cs.length kc, .slice pb bs.length kb, .slice ph hs.length kh, int d.s, int d.d, int d.v, int d.r, int d.e, .slice pl (placesA d qs.length).length kp, .map (some bm)] 97 (0, 0))) bw 8 = some (int d.e) := by rw [rdc_sng]; rfl
 have w9 : rdc (sng bw (.cells #[.slice pq qs.length kq, .slice pc cs.length kc, .slice pb bs.length kb, .slice ph hs.length kh, int d.s, int d.d, int d.v, int d.r, int d.e, .slice pl (placesA d qs.length).length kp, .map (some bm)] 97 (0, 0))) bw 9 = some (.slice pl (placesA d qs.length).length kp) := by rw [rdc_sng]; rfl
 have w10 : rdc (sng bw (.cells #[.slice pq qs.length kq, .slice pc cs.length kc, .slice pb bs.length kb, .slice ph hs.length kh, int d.s, int d.d, int d.v, int d.r, int d.e, .slice pl (placesA d qs.length).length kp, .map (some bm)] 97 (0, 0))) bw 10 = some (.map (some bm)) := by rw [rdc_sng]; rfl
 have hg := graph_spec hT bw bm kp pl χ M d h h0 hpl hM
 have hEl := ea_len qs cs bs hs d h
 have hAl : (arcsG qs cs bs hs d).length = (arcsE qs cs bs hs d).length := by unfold arcsG; rw [List.length_map]
 refine AB ?_
 refine AR ?_
 refine AR ?_
 refine AD ?_
 refine AD ?_
 refine AE ?_
 refine AC ?_
 refine AC ?_
 refine AA ?_
 refine AB ?_
 refine BE ?_
 refine AE ?_
 refine AN rfl ?_
 refine AL ?_
 refine AC ?_
 refine AA ?_
 refine AB ?_
 refine BY hg rfl rfl rdZ rfl rfl ?_
 rintro _ σg ⟨ug, rfl, hOg⟩
 have hAt : ArcsAt σg ug (arcsG qs cs bs hs d) := hOg.at
 obtain ⟨pg, kg, rfl⟩ := hOg.form
 refine AS (ρ := σg) takeZ ?_
 refine A5 ?_; rintro _ _ ⟨b, rfl, rfl⟩
 refine A3 ?_; rintro _ _ ⟨rfl, rfl⟩
 refine AE ?_
 refine AC ?_
 refine AC ?_
 refine AA ?_
 refine AH ?_
 refine AF ?_
 refine AH ?_
 refine AF ?_
 refine AB ?_
 revert b; intro bg
 refine AS (ρ := sng bg _) takeZ ?_
 have gg0 : rdc (sng bg (.cells #[int (vsN qs d), .slice pg (arcsG qs cs bs hs d).length kg, int (vtx d d.s d.r), int (vtx d d.d d.e)] 36 (0, 0))) bg 0 = some (int (vsN qs d)) := by rw [rdc_sng]; rfl
 have gg1 : rdc (sng bg (.cells #[int (vsN qs d), .slice pg (arcsG qs cs bs hs d).length kg, int (vtx d d.s d.r), int (vtx d d.d d.e)] 36 (0, 0))) bg 1 = some (.slice pg (arcsG qs cs bs hs d).length kg) := by rw [rdc_sng]; rfl
 have gg2 : rdc (sng bg (.cells #[int (vsN qs d), .slice pg (arcsG qs cs bs hs d).length kg, int (vtx d d.s d.r), int (vtx d d.d d.e)] 36 (0, 0))) bg 2 = some (int (vtx d d.s d.r)) := by rw [rdc_sng]; rfl
 have gg3 : rdc (sng bg (.cells #[int (vsN qs d), .slice pg (arcsG qs cs bs hs d).length kg, int (vtx d d.s d.r), int (vtx d d.d d.e)] 36 (0, 0))) bg 3 = some (int (vtx d d.d d.e)) := by rw [rdc_sng]; rfl
 have hcap := flowCapacity_spec σg ω _ _ (vsN qs d) (arcsG qs cs bs hs d) side hAt hu (by omega) (by omega)
 skip
 refine A6 hcap rfl rfl rdZ rfl rfl ?_
 rintro _ rfl
 rw [← hEv]
 generalize (Go.Flow.capacitySpec (vsN qs d) (arcsG qs cs bs hs d) side).1 = vv
 by_cases hz : sidesE qs cs bs hs d side = 0
 rotate_left
 ·rw [if_neg hz]
  refine AB ?_
  refine AR ?_
  refine AR ?_
  refine AD ?_
  refine AD ?_
  refine AE ?_
  refine AC ?_
  refine AA ?_
  refine AB ?_
  refine CK ?_
  refine AE ?_
  refine AO rfl ?_
  refine AC ?_
  refine AA ?_
  refine AB ?_
  refine AD ?_
  refine AD ?_
  refine AE ?_
  exact AI (res2 rfl rfl rfl) rsubZ selZ ⟨[], _, emp, emp, rfl, rfl, rfl, hnil⟩
 have hin := sidesE_in hv hz
 rw [hz, if_pos rfl]
 have hplen : (((placesA d qs.length).length : Nat) : Int) = vsN qs d := placesA_len (d := d) (by omega) qs.length
 obtain ⟨_, _, ep, hrp⟩ := SlE.val (enc := encS) encS_len hpl
 simp only [Value.slice.injEq] at ep
 obtain ⟨rfl, _, rfl⟩ := ep
 refine AB ?_
 refine AR ?_
 refine AR ?_
 refine AD ?_
 refine AD ?_
 refine AE ?_
 refine AC ?_
 refine AA ?_
 refine AB ?_
 refine BI ?_
 refine AE ?_
 refine AN rfl ?_
 refine AL ?_
 refine AC ?_
 refine AA ?_
 refine AH ?_
 refine AH ?_
 refine AF ?_
 refine AU ?_
 refine F3 ?_; rintro _ _ ⟨b, rfl, rfl⟩
 refine AD ?_
 refine AE ?_
 refine AC ?_
 refine AC ?_
 refine AA ?_
 refine AB ?_
 refine AU ?_
 refine AB ?_
 refine AE ?_
 refine AP ?_
 revert b; intro B
 rw [rowsQ_rep]
 refine BC [3, 8, 13, 44, 45] (X := Nat × List Sq × PH) (0, List.replicate qs.length ((none, 0), []), emp) (fun x => x.1 ≤ side.length ∧ cuL x.2.1 = sidesC d qs.length (side.take x.1) ∧ ∀ z ∈ x.2.1, SpAt x.2.2 (.slice z.1.1 z.2.length z.1.2) z.2 ∧ z.2.length ≤ 1000) (fun x => [(46, int x.1)]) (fun x => [sng B (.cells (rowsQ x.2.1).toArray 59 (0, 0)), x.2.2]) (fun x => side.length - x.1) pickZ ⟨by dsimp only; omega, ?_, fun z hz => ?_⟩ covZ selZ ?_
 ·dsimp only
  rw [List.take_zero, sidesC_nil]
  exact List.map_replicate
 ·obtain ⟨_, rfl⟩ := List.mem_replicate.1 hz
  exact ⟨⟨rfl, .inl ⟨rfl, _, _, rfl⟩⟩, by simp⟩
 rintro ⟨k, L, κ⟩ ⟨hk, hL, hS⟩
 dsimp only at hk hL hS ⊢
 have hLl : L.length = qs.length := by
  have := congrArg List.length hL
  rwa [List.length_map, sidesC_len] at this
 by_cases hlt : k < side.length
 rotate_left
 ·have hke : k = side.length := by omega
  subst hke
  rw [List.take_length] at hL
  refine AC ?_
  refine AA ?_
  refine AY ?_
  refine AE ?_
  refine AC ?_
  refine AN rfl ?_
  refine A7 rfl ?_
  refine AC ?_
  refine AA ?_
  refine AB ?_
  refine AD ?_
  refine AD ?_
  refine AE ?_
  refine AI (res2 rfl rfl rfl) rsubZ selZ ⟨L, .slice (some ⟨B, 0, none⟩) qs.length qs.length, _, κ, rfl, rfl, hL, ?_, fun z hz => ⟨(hS z hz).1, by have := (hS z hz).2; omega⟩⟩
  have := slE_sng (enc := encQ) encQ_len (b := B) (l := L) (t := 59) (fr := (0, 0)) (c := qs.length)
  unfold elems at this
  rw [rowsQ_flat, hLl] at this
  exact this
 have hx := List.getElem?_eq_getElem hlt
 have hvi := hin _ (List.getElem_mem hlt)
 obtain ⟨n, t, hn, ht1, ht2, hkv, hkn⟩ := place_of (d := d) (by omega) (k := side[k].toNat) (N := qs.length) (by rw [Int.toNat_of_nonneg hvi.1]; exact hvi.2)
 rw [Int.toNat_of_nonneg hvi.1] at hkv
 have hp := placesA_get (d := d) (by omega) ht1 ht2 hn
 rw [← hkv] at hp
 have hdv := vtx_div (d := d) (n := n) (t := t) ht1 ht2
 have hdm2 := vtx_mod (d := d) (n := n) (t := t) ht1 ht2
 rw [← hkv] at hdv hdm2
 have hnx := sidesC_next d qs.length hlt hdv
 rw [hdm2, show d.r + (t - d.r) = t by omega, ← sideI_one (sideI_ok d (side.take k) n).1] at hnx
 obtain ⟨b6, o6, epl, hRd6, y0, y1⟩ := spRow hrp hp
 obtain ⟨bo, oo, epf, gf⟩ := hrf.int hx
 have hLn := List.getElem?_eq_getElem (show n < L.length by omega)
 have hSn := hS _ (List.getElem_mem (show n < L.length by omega))
 have hLe : L[n].2 = sideI d (side.take k) n := by
  have e1 : (cuL L)[n]? = some L[n].2 := by rw [List.getElem?_map, hLn]; rfl
  rw [hL] at e1
  unfold sidesC at e1
  rw [List.getElem?_map, List.getElem?_range hn] at e1
  exact (Option.some.inj e1).symm
 have hnorm := (sideI_ok d (side.take k) n).1
 have hslen := sideI_small h (side.take k) n
 have hchk := sideI_chk h (side.take k) n
 rw [← hLe] at hnorm hslen hchk hnx
 have gB : rdc (sng B (.cells (rowsQ L).toArray 59 (0, 0))) B n = some (.slice L[n].1.1 L[n].2.length L[n].1.2) := by
  rw [rdc_sng]
  simp [rowsQ, hLn]
 generalize hzz : L[n] = z at hLn hSn hLe hnorm hslen hchk hnx gB
 obtain ⟨⟨pz, kz⟩, lz⟩ := z
 dsimp only at hSn hLe hnorm hslen hchk hnx gB
 have hc1 : chkI [(t, t + 1)] = 0 := chkI_of (by simp) (NormI.nil.cons (by dsimp only; omega) (by simp)) (fun x hx => by
  obtain rfl := List.mem_singleton.1 hx
  unfold okSp
  dsimp only
  omega)
 have hun := fun b8 => exUnion_spec κ (sng b8 (.cells #[int t, int (t + 1)] 61 (0, 0))) (.slice pz lz.length kz) (.slice (some ⟨b8, 0, none⟩) 1 1) lz [(t, t + 1)] hSn.1 (slE_sng encS_len) hchk hc1 (by simp only [List.length_singleton]; omega)
 have hcl := (combI_ok (f := fun x y => x || y) rfl hnorm (b := [(t, t + 1)]) (NormI.nil.cons (by dsimp only; omega) (by simp))).2.2
 simp only [List.length_singleton] at hcl
 obtain ⟨v, hvv⟩ := Int.eq_ofNat_of_zero_le hvi.1
 rw [hvv] at gf y0 y1 hRd6
 rw [Int.toNat_natCast] at y0 y1 hRd6
 have hvl : (v : Int) < (((placesA d qs.length).length : Nat) : Int) := by omega
 subst epl
 subst epf
 refine AC ?_
 refine AA ?_
 refine BB ?_
 refine AE ?_
 refine AC ?_
 refine AO rfl ?_
 refine AL ?_
 refine AC ?_
 refine AP ?_
 refine AC ?_
 refine AA ?_
 refine BQ ?_
 refine AF ?_
 refine AD ?_
 refine AE ?_
 refine AC ?_
 refine AA ?_
 refine AB ?_
 refine BL ?_
 refine AH ?_
 refine AF ?_
 refine AB ?_
 refine A8 ?_
 refine AT ?_
 refine A5 ?_; rintro _ _ ⟨b, rfl, rfl⟩
 refine A3 ?_; rintro _ _ ⟨rfl, rfl⟩
 refine AE ?_
 revert b; intro b16
 refine AZ (.q 0 (.q 1 (.q 2 (.q 3 (.q 4 (.q 5 (.q 6 (.q 7 (.q 8 (.q 9 (.q 10 (.q 11 (.q 12 (.q 13 (.l 14 .e (.l 15 .e (.q 16 (.q 17 (.p 18 (.q 19 (.l 20 .b .nil))))))))))))))))))))) [] rfl (by kernel_rfl) Sel.nil ?_
 refine AK ?_
 refine AX ?_
 refine AQ ?_
 refine AK ?_
 refine AX ?_
 refine AQ ?_
 refine CB ?_
 refine AQ ?_
 refine AX ?_
 refine AQ ?_
 refine AX ?_
 refine AQ ?_
 refine CS ?_
 refine B9 ?_
 refine BH ?_; rintro _ _ ⟨b, rfl, rfl⟩
 revert b; intro b8
 refine CF (DY rfl (hun b8) rfl rfl rdZ rfl rfl ?_)
 rintro _ _ ⟨σi, ⟨ui, rfl, hOi⟩, rfl⟩
 obtain ⟨pi, ci, rfl⟩ := hOi.form
 refine AK ?_
 refine DQ ?_
 refine E7 ?_
 refine CB ?_
 refine CF ?_
 refine' FJ rfl _ rfl rfl _ _; rotate_left
 ·(apply DH; exact rfl; exact rfl; exact rfl; exact rfl; exact takeZ; (simp [rowsQ_len]; omega))
 ·rintro _ _ ⟨_, rfl⟩ w hw; exact hw.sel Sel.nil
 rintro _ _ ⟨rfl, rfl⟩
 refine A4 ?_
 refine A0 ?_
 refine AA ?_
 refine A9 ?_
 refine AB ?_
 refine AE ?_
 show JK _ _ _ (sng B (.cells ((rowsQ L).toArray.setIfInBounds n (Value.slice pi (combI (fun x y => x || y) lz [(t, t + 1)]).length ci)) 59 (0, 0)) :: _) _ _
 have hset := rowsQ_set L n ((pi, ci), combI (fun x y => x || y) lz [(t, t + 1)])
 dsimp only at hset
 rw [hset]
 refine DW (ρ := σi) (σ := κ) takeZ takeZ (fun χ1 s1 s2 => ?_)
 refine AW (k + 1, L.set n ((pi, ci), combI (fun x y => x || y) lz [(t, t + 1)]), χ1) ⟨by dsimp only; omega, ?_, fun z hz => ?_⟩ (by dsimp only; omega) covZ selZ
 ·dsimp only
  rw [hnx, ← hL]
  exact List.map_set
 ·rcases List.mem_or_eq_of_mem_set hz with hz | rfl
  ·exact ⟨(hS z hz).1.mono s2, (hS z hz).2⟩
  ·exact ⟨SlE.mono (show SpAt σi _ _ from hOi.at) s1, by dsimp only; omega⟩
end Go.Proofs.YthdoegkjifgegaaGreat
