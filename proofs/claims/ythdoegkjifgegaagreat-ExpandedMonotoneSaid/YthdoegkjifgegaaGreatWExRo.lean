/- Texts of this proof, one after the other; no conditions. -/
import Derived.Test.YthdoegkjifgegaaGreatWB11
import Derived.Test.YthdoegkjifgegaaGreatWB3
import Derived.Test.YthdoegkjifgegaaGreatWB5
set_option linter.all false
/- One more hold, of the program and of the reference. -/
namespace Go.Proofs.YthdoegkjifgegaaGreat
open Go.Eng Go.Step
set_option maxRecDepth 100000
set_option maxHeartbeats 4000000

set_option maxHeartbeats 16000000 in
theorem bsearchH_spec (ρ : PH) (v : Value) (l : List Hd) (h : Hd) (hv : HdAt ρ v l) (hs : SortH l) (hl : l.length ≤ 1000) :
  Ans Tryz.prog (fv 77) [v, .agg #[int h.n, int h.a, int h.b, int h.s, int h.k], fv 78] [ρ] (fun r => ∃ (k : Nat) (bo : Bool), k ≤ l.length ∧ (∀ x ∈ l.take k, cmpHd x h < 0) ∧ (∀ x ∈ l.drop k, 0 ≤ cmpHd x h) ∧ r = .tuple #[int k, .bool bo]) := by
 obtain ⟨q, c, rfl, hr⟩ := hv.val encH_len
 have hgi := List.pairwise_iff_getElem.1 hs
 refine spec_in (cap := []) Tryz.func77 rfl rfl Tryz.ntmps77 rfl envZ (fun N β => ?_)
 refine AD ?_
 refine AA ?_
 refine BC (BK rfl) rfl rfl rfl ?_
 rintro _ _ ⟨b4, rfl, rfl⟩
 refine AR (ρ := sng b4 _) takeZ ?_
 have c0 : RdN (sng b4 (.cells #[int h.n, int h.a, int h.b, int h.s, int h.k] 75 (0, 0))) b4 0 [int h.n, int h.a, int h.b, int h.s, int h.k] := rdN_sng (vs := [int h.n, int h.a, int h.b, int h.s, int h.k])
 refine AC ?_
 refine AC ?_
 refine AE ?_
 refine AD ?_
 refine AA ?_
 refine AB ?_
 refine AW ?_
 refine AC ?_
 refine AE ?_
 refine AD ?_
 refine AA ?_
 refine AB ?_
 refine AC ?_
 refine AC ?_
 refine AE ?_
 refine AD ?_
 refine AS ?_
 refine BJ [0, 2, 4, 8] (X := Nat × Nat) (0, l.length) (fun x => x.1 ≤ x.2 ∧ x.2 ≤ l.length ∧ (∀ y ∈ l.take x.1, cmpHd y h < 0) ∧ (∀ y ∈ l.drop x.2, 0 ≤ cmpHd y h)) (fun x => [(9, int x.1), (10, int x.2)]) (fun _ => []) (fun x => x.2 - x.1)
  pickZ ⟨by dsimp only; omega, by dsimp only; omega, by simp, by simp⟩ covZ selZ ?_
 rintro ⟨i, j⟩ ⟨h1, h2, h3, h4⟩
 dsimp only at h1 h2 h3 h4 ⊢
 by_cases hlt : i < j
 ·have hh : (i + j) / 2 < l.length := by omega
  have hx := List.getElem?_eq_getElem hh
  obtain ⟨b', o, rfl, hRd, _⟩ := hdRow5 hr hx
  have hcm := compare_spec l[(i + j) / 2] h
  have hlow : cmpHd l[(i + j) / 2] h < 0 → ∀ y ∈ l.take ((i + j) / 2 + 1), cmpHd y h < 0 := fun hc y hy => by
   obtain ⟨u, hu, rfl⟩ := List.getElem_of_mem hy
   rw [List.length_take] at hu
   rw [List.getElem_take]
   by_cases e : u = (i + j) / 2
   ·subst e; exact hc
   ·exact cmpHd_lt_trans (hgi u ((i + j) / 2) (by omega) hh (by omega)) hc
  have hup : 0 ≤ cmpHd l[(i + j) / 2] h → ∀ y ∈ l.drop ((i + j) / 2), 0 ≤ cmpHd y h := fun hc y hy => by
   obtain ⟨u, hu, rfl⟩ := List.getElem_of_mem hy
   rw [List.length_drop] at hu
   rw [List.getElem_drop]
   by_cases e : u = 0
   ·subst e; simpa using hc
   ·by_cases d : cmpHd l[(i + j) / 2 + u] h < 0
    ·have := cmpHd_lt_trans (hgi ((i + j) / 2) ((i + j) / 2 + u) hh (by omega) (by omega)) d
     omega
    ·omega
  generalize l[(i + j) / 2] = x at hRd hcm hlow hup
  refine AD ?_
  refine AD ?_
  refine AA ?_
  refine AB ?_
  refine AB ?_
  refine BI ?_
  refine AE ?_
  refine AO rfl ?_
  refine AM ?_
  refine AS ?_
  refine AD ?_
  refine AA ?_
  refine AB ?_
  refine AB ?_
  refine CO ?_
  rw [show (i : Int) + (j : Int) = ((i + j : Nat) : Int) from by omega]
  focus ((refine' B0 _ rfl rfl rfl _; rotate_left; (apply q_toU; exact rfl; exact rfl; exact rfl; omega)))
  focus ((refine' B0 _ rfl rfl rfl _; rotate_left; (apply E7; exact rfl; exact rfl; decide)))
  refine C9 ?_
  refine AC ?_
  refine AE ?_
  refine AD ?_
  refine A3 (.q 0 (.q 1 (.q 2 (.q 3 (.q 4 (.q 5 (.l 6 .e (.q 7 .nil)))))))) [] rfl (by kernel_rfl) Sel.nil ?_
  refine AQ ?_
  refine AQ ?_
  refine AQ ?_
  refine BX ?_
  refine BN ?_
  refine BN ?_
  refine CE (CD rfl hcm rfl rfl rdZ rfl rfl ?_)
  rintro _ rfl
  by_cases hc : cmpHd x h < 0
  ·have hnew := hlow hc
   generalize cmpHd x h = z at hc hlow hup
   refine EI ?_
   refine A4 ?_
   refine AO rfl ?_
   refine AA ?_
   refine AB ?_
   refine BA ?_
   refine AC ?_
   refine AE ?_
   refine A6 ?_
   exact A0 ((i + j) / 2 + 1, j) ⟨by dsimp only; omega, h2, hnew, h4⟩ (by dsimp only; omega) covZ selZ
  ·have hnew := hup (by omega)
   generalize cmpHd x h = z at hc hlow hup
   refine DN ?_
   refine A4 ?_
   refine AN rfl ?_
   refine AA ?_
   refine AB ?_
   refine AC ?_
   refine AE ?_
   refine A6 ?_
   exact A0 (i, (i + j) / 2) ⟨by dsimp only; omega, by dsimp only; omega, h3, hnew⟩ (by dsimp only; omega) covZ selZ
 ·have e : i = j := by omega
  subst e
  by_cases hlt2 : i < l.length
  ·have hx := List.getElem?_eq_getElem hlt2
   obtain ⟨b', o, rfl, hRd, _⟩ := hdRow5 hr hx
   have hcm := compare_spec l[i] h
   generalize l[i] = x at hRd hcm
   refine AD ?_
   refine AD ?_
   refine AA ?_
   refine AB ?_
   refine AB ?_
   refine AZ ?_
   refine AE ?_
   refine AN rfl ?_
   refine BB rfl ?_
   refine AD ?_
   refine A3 (.q 0 (.q 1 (.q 2 (.q 3 (.q 4 (.q 5 (.q 6 (.q 7 (.q 8 (.q 9 (.q 10 (.l 11 .e (.q 12 (.q 13 (.q 14 (.q 15 .nil)))))))))))))))) [] rfl (by kernel_rfl) Sel.nil ?_
   refine AQ ?_
   refine AQ ?_
   refine AQ ?_
   refine EI ?_
   refine AQ ?_
   refine AQ ?_
   refine AQ ?_
   refine AQ ?_
   refine BX ?_
   refine BN ?_
   refine BN ?_
   refine CE (CD rfl hcm rfl rfl rdZ rfl rfl ?_)
   rintro _ rfl
   generalize cmpHd x h = z
   by_cases he : z = 0
   ·refine D8 ?_
    refine BS ?_
    refine A8 ?_
    refine A8 ?_
    refine A4 ?_
    skip
    exact AI (res2 rfl rfl rfl) rsubZ selZ ⟨rfl, i, true, h2, h3, h4, rfl⟩
   ·refine DA ?_
    refine BS ?_
    refine A8 ?_
    refine A8 ?_
    refine A4 ?_
    skip
    exact AI (res2 rfl rfl rfl) rsubZ selZ ⟨rfl, i, false, h2, h3, h4, rfl⟩
  ·refine AD ?_
   refine AD ?_
   refine AA ?_
   refine AB ?_
   refine AB ?_
   refine AZ ?_
   refine AE ?_
   refine AN rfl ?_
   refine BB rfl ?_
   refine AD ?_
   refine A3 (.q 0 (.q 1 (.q 2 (.q 3 (.q 4 (.q 5 (.q 6 (.q 7 (.q 8 (.q 9 (.q 10 (.q 11 (.q 12 (.q 13 (.q 14 (.q 15 .nil)))))))))))))))) [] rfl (by kernel_rfl) Sel.nil ?_
   refine AQ ?_
   refine AQ ?_
   refine AQ ?_
   refine DN ?_
   refine AQ ?_
   refine A5 rfl rfl rfl rfl rfl ?_
   refine A5 rfl rfl rfl rfl rfl ?_
   refine A5 rfl rfl rfl rfl rfl ?_
   refine A5 rfl rfl rfl rfl rfl ?_
   refine A5 rfl rfl rfl rfl rfl ?_
   refine A5 rfl rfl rfl rfl rfl ?_
   refine A5 rfl rfl rfl rfl rfl ?_
   refine A5 rfl rfl rfl rfl rfl ?_
   refine B8 ?_
   refine A8 ?_
   refine A8 ?_
   refine A4 ?_
   skip
   exact AI (res2 rfl rfl rfl) rsubZ selZ ⟨rfl, i, false, h2, h3, h4, rfl⟩
theorem chkH_sort {qs : List Int} {cs : List Ct} {l : List Hd} (h : chkH qs cs l = 0) : SortH l ∧ fitB qs l = true ∧ ∀ (j : Nat) (q : Int), qs[j]? = some q → 0 ≤ q ∧ q ≤ 1073741824 := by
 have hp := chkH_pl h
 refine ⟨?_, ?_, (chkPl_quo hp).2⟩
 ·refine sortH_of (nq := qs.length) ?_
  unfold chkH at h
  rw [if_neg (by simpa using hp)] at h
  by_cases c : 512 < l.length
  ·rw [if_pos c] at h; omega
  ·rw [if_neg c] at h
   by_cases d : firstE (hdE qs.length l) l.length = 0
   ·exact d
   ·rw [if_pos d] at h; exact h
 ·unfold chkH at h
  rw [if_neg (by simpa using hp)] at h
  by_cases c : 512 < l.length
  ·rw [if_pos c] at h; omega
  ·rw [if_neg c] at h
   by_cases d : firstE (hdE qs.length l) l.length = 0
   ·rw [if_neg (by simpa using d)] at h
    by_cases e : fitB qs l = true
    ·exact e
    ·rw [if_neg e] at h; omega
   ·rw [if_pos d] at h; omega
theorem insH_ok {nq : Nat} {l : List Hd} {h : Hd} (hok : ∀ x ∈ l, okHd nq x) (hh : okHd nq h) : ∀ x ∈ insH l h, okHd nq x := fun x hx => by
 rcases (insW_mem _ l h x).1 hx with rfl | hx
 ·exact hh
 ·exact hok x hx
theorem insH_len (l : List Hd) (h : Hd) : (insH l h).length = l.length + 1 := insW_len _ _ _
set_option maxHeartbeats 16000000 in
theorem add28_spec (ρ τ σ : PH) (pq pc : Option Addr) (kq kc : Nat) (qs : List Int) (cs : List Ct) (v : Value) (l : List Hd) (h : Hd) (hq : IntsAt ρ (.slice pq qs.length kq) qs) (hc : CtAt τ (.slice pc cs.length kc) cs) (hcap : cs.length ≤ kc) (lq : qs.length ≤ 9223372036854775807) (lc : cs.length ≤ 9223372036854775807) (hv : HdAt σ v l) (hl : l.length ≤ 9223372036854775807) :
  Makes Tryz.prog (fv 35) [.agg #[.slice pq qs.length kq, .slice pc cs.length kc], v, .agg #[int h.n, int h.a, int h.b, int h.s, int h.k]] [ρ, τ, σ] (fun r σ' => ∃ u, r = .tuple #[u, int (addR qs cs l h).2] ∧ OwnS 75 5 u (addR qs cs l h).1.length ((addR qs cs l h).1.flatMap encH) σ') := by
 have hv2 := hv
 obtain ⟨q, c, rfl, hr⟩ := hv.val encH_len
 obtain ⟨_, _, e, hrq⟩ := hq.val Eng.encI_len
 simp only [Value.slice.injEq] at e
 obtain ⟨rfl, _, rfl⟩ := e
 refine spec_in (cap := []) Tryz.func35 rfl rfl Tryz.ntmps35 rfl envZ (fun N β => ?_)
 refine B5 ?_
 refine AD ?_
 refine AA ?_
 refine BC (BK rfl) rfl rfl rfl ?_
 rintro _ _ ⟨b1, rfl, rfl⟩
 refine AR (ρ := sng b1 _) takeZ ?_
 refine BC (BK rfl) rfl rfl rfl ?_
 rintro _ _ ⟨b2, rfl, rfl⟩
 refine AR (ρ := sng b2 _) takeZ ?_
 have c1 : RdN (sng b1 (.cells #[.slice pq qs.length kq, .slice pc cs.length kc] 25 (0, 0))) b1 0 [.slice pq qs.length kq, .slice pc cs.length kc] := rdN_sng (vs := [.slice pq qs.length kq, .slice pc cs.length kc])
 have c10 : rdc (sng b1 (.cells #[.slice pq qs.length kq, .slice pc cs.length kc] 25 (0, 0))) b1 0 = some (.slice pq qs.length kq) := by rw [rdc_sng]; rfl
 have c2 : RdN (sng b2 (.cells #[int h.n, int h.a, int h.b, int h.s, int h.k] 75 (0, 0))) b2 0 [int h.n, int h.a, int h.b, int h.s, int h.k] := rdN_sng (vs := [int h.n, int h.a, int h.b, int h.s, int h.k])
 refine AC ?_
 refine AC ?_
 refine AE ?_
 refine AD ?_
 refine AD ?_
 refine AA ?_
 refine AT ?_
 refine AB ?_
 refine A2 (check28_spec ρ τ σ pq pc kq kc qs cs _ l hq hc hcap lq lc hv2 hl) rfl rfl rdZ rfl rfl ?_
 rintro _ rfl
 by_cases h0 : chkH qs cs l = 0
 rotate_left
 ·have hR : addR qs cs l h = ([], 1) := by unfold addR; rw [if_pos h0]
  rw [hR]
  generalize chkH qs cs l = z at h0
  refine CX ?_
  refine AE ?_
  refine AO rfl ?_
  refine AD ?_
  refine AA ?_
  refine AC ?_
  refine AC ?_
  refine AE ?_
  exact AI (res2 rfl rfl rfl) rsubZ selZ ⟨emp, ⟨_, rfl, OwnS.nil _ _⟩, rfl⟩
 rw [h0]
 obtain ⟨hok, hlen, hql⟩ := chkH_ok h0
 obtain ⟨hsort, hfit, hquo⟩ := chkH_sort h0
 refine BM ?_
 refine AE ?_
 refine AN rfl ?_
 refine AM ?_
 refine AD ?_
 refine AD ?_
 refine AA ?_
 refine AT ?_
 refine AT ?_
 refine A2 (valid28_spec (.slice pq qs.length kq) (.slice pc cs.length kc) ρ qs kq pq h rfl rfl) rfl rfl rdZ rfl rfl ?_
 rintro _ rfl
 by_cases hh : okHd qs.length h
 rotate_left
 ·have hR : addR qs cs l h = ([], 2) := by unfold addR; rw [if_neg (fun h => h h0), if_pos hh]
  rw [hR, decide_eq_false hh]
  refine A7 ?_
  refine AE ?_
  refine AO rfl ?_
  refine AD ?_
  refine AA ?_
  refine AC ?_
  refine AC ?_
  refine AE ?_
  exact AI (res2 rfl rfl rfl) rsubZ selZ ⟨emp, ⟨_, rfl, OwnS.nil _ _⟩, rfl⟩
 rw [decide_eq_true hh]
 by_cases hfull : l.length = 512
 ·have hR : addR qs cs l h = ([], 4) := by unfold addR; rw [if_neg (fun h => h h0), if_neg (fun h => h hh), if_pos hfull]
  rw [hR]
  refine A7 ?_
  refine AE ?_
  refine AN rfl ?_
  refine AM ?_
  refine AD ?_
  refine AD ?_
  refine AA ?_
  refine AB ?_
  refine AW ?_
  refine BQ ?_
  refine AE ?_
  refine AO rfl ?_
  refine AD ?_
  refine AA ?_
  refine AC ?_
  refine AC ?_
  refine AE ?_
  exact AI (res2 rfl rfl rfl) rsubZ selZ ⟨emp, ⟨_, rfl, OwnS.nil _ _⟩, rfl⟩
 refine A7 ?_
 refine AE ?_
 refine AN rfl ?_
 refine AM ?_
 refine AD ?_
 refine AD ?_
 refine AA ?_
 refine AB ?_
 refine AW ?_
 refine BO ?_
 refine AE ?_
 refine AN rfl ?_
 refine AM ?_
 refine AD ?_
 refine AA ?_
 refine AB ?_
 refine AT ?_
 refine A2 (bsearchH_spec σ _ l h hv2 hsort (by omega)) rfl rfl rdZ rfl rfl ?_
 rintro _ ⟨k, bo, hk, hk1, hk2, rfl⟩
 have hins : insL l k h = insH l h := insL_W (fun x hx => cmpHd_anti hx) l k hk1 hk2
 have hcl := cloneH_spec σ (.slice q l.length c) l hv2 (by omega)
 refine AB ?_
 refine AL ?_
 refine AL ?_
 refine AC ?_
 refine AC ?_
 refine AE ?_
 refine AD ?_
 have hn0 : 0 ≤ h.n ∧ h.n < qs.length := hh.1
 obtain ⟨nn, hnn⟩ : ∃ nn : Nat, h.n = nn := ⟨h.n.toNat, by omega⟩
 have hnl : nn < qs.length := by omega
 have hQ := List.getElem?_eq_getElem hnl
 obtain ⟨bq, oq, rfl, gq⟩ := hrq.int hQ
 have hQb := hquo nn _ hQ
 have hgd : qs.getD h.n.toNat 0 = qs[nn] := by rw [hnn, List.getD_eq_getElem?_getD]; simp [hQ]
 have hfin := fit_ins hok hh hfit (by rw [hgd]; exact hQb.1)
 rw [hgd] at hfin
 have hlev := fun (σ' : PH) (u : Value) (hu : HdAt σ' u (insH l h)) => levels_spec σ' u (insH l h) h.n qs.length hu (insH_ok hok hh) (by rw [insH_len]; omega)
 have hll := lvH_len (insH l h) h.n
 rw [insH_len] at hll
 rw [hnn] at hlev hfin hll
 have c20 : rdc (sng b2 (.cells #[int h.n, int h.a, int h.b, int h.s, int h.k] 75 (0, 0))) b2 0 = some (int nn) := by rw [rdc_sng, ← hnn]; rfl
 refine A3 (.q 0 (.q 2 (.q 3 (.l2 1 .e (.l 4 .e (.l 5 .b (.q 6 .nil))) 4 .e (.l 1 .e (.l 5 .b (.q 6 .nil))))))) [] rfl (by kernel_rfl) Sel.nil ?_
 repeat' (first
  | (refine AQ ?_)
  | (refine BN ?_)
  | (refine EP ?_ ?_)
  | (refine CY ?_; rintro _ _ ⟨b, rfl, rfl⟩)
  | fail)
 ·refine CK rfl hcl rfl rfl rdZ rfl rfl ?_
  rintro ucl _ ⟨σc, hOc, rfl⟩
  refine BP ?_; rintro _ _ ⟨b, rfl, rfl⟩
  refine CE (CV rfl (insertH_spec σc b ucl l k h hOc hk (by omega)) rfl rfl takesZ rdZ rfl rfl (fun _ _ _ w hw => hw.sel Sel.nil) ?_)
  rintro ui _ ⟨σi, hOi, rfl⟩
  rw [hins] at hOi
  refine A8 ?_
  refine A4 ?_
  refine AD ?_
  refine AD ?_
  refine A3 (.q 0 (.q 1 (.q 2 (.q 5 (.q 6 (.q 7 (.q 8 (.q 9 (.q 10 (.l 3 .e (.l 4 .e (.q 11 .nil)))))))))))) [] rfl (by kernel_rfl) Sel.nil ?_
  refine AQ ?_
  refine AU ?_
  refine AP ?_
  refine AU ?_
  refine AP ?_
  refine AU ?_
  refine AP ?_
  refine CM ?_
  refine AP ?_
  refine CE (CK rfl (hlev σi ui hOi.at) rfl rfl rdZ rfl rfl ?_)
  rintro ul _ ⟨σl, hOl, rfl⟩
  refine CE (CD rfl (most_spec σl ul _ hOl.at (by omega)) rfl rfl rdZ rfl rfl ?_)
  rintro _ rfl
  by_cases hm : mostL (lvH (insH l h) nn) ≤ qs[nn]
  ·rw [decide_eq_true hm] at hfin
   have hR : addR qs cs l h = (insH l h, 0) := by unfold addR; rw [if_neg (fun h => h h0), if_neg (fun h => h hh), if_neg hfull, if_pos hfin]
   rw [hR]
   generalize mostL (lvH (insH l h) nn) = mo at hm
   generalize qs[nn] = Q at hm gq
   refine DU ?_
   refine A4 ?_
   refine AN rfl ?_
   refine AM ?_
   refine AD ?_
   refine AA ?_
   refine AB ?_
   refine AC ?_
   refine AC ?_
   refine AE ?_
   exact AI (res2 rfl rfl rfl) rsubZ selZ ⟨σi, ⟨_, rfl, hOi⟩, rfl⟩
  ·rw [decide_eq_false hm] at hfin
   have hR : addR qs cs l h = ([], 15) := by unfold addR; rw [if_neg (fun h => h h0), if_neg (fun h => h hh), if_neg hfull, hfin]; rfl
   rw [hR]
   generalize mostL (lvH (insH l h) nn) = mo at hm
   generalize qs[nn] = Q at hm gq
   refine EJ ?_
   refine A4 ?_
   refine AO rfl ?_
   refine AD ?_
   refine AA ?_
   refine AC ?_
   refine AC ?_
   refine AE ?_
   exact AI (res2 rfl rfl rfl) rsubZ selZ ⟨emp, ⟨_, rfl, OwnS.nil _ _⟩, rfl⟩
 ·refine CE (CK rfl hcl rfl rfl rdZ rfl rfl ?_)
  rintro ucl _ ⟨σc, hOc, rfl⟩
  refine CE (CV rfl (insertH_spec σc b ucl l k h hOc hk (by omega)) rfl rfl takesZ rdZ rfl rfl (fun _ _ _ w hw => hw.sel Sel.nil) ?_)
  rintro ui _ ⟨σi, hOi, rfl⟩
  rw [hins] at hOi
  refine A8 ?_
  refine A4 ?_
  refine AD ?_
  refine AD ?_
  refine A3 (.q 0 (.q 1 (.q 2 (.q 5 (.q 6 (.q 7 (.q 8 (.q 9 (.q 10 (.l 3 .e (.l 4 .e (.q 11 .nil)))))))))))) [] rfl (by kernel_rfl) Sel.nil ?_
  refine AQ ?_
  refine AU ?_
  refine AP ?_
  refine AU ?_
  refine AP ?_
  refine AU ?_
  refine AP ?_
  refine CM ?_
  refine AP ?_
  refine CE (CK rfl (hlev σi ui hOi.at) rfl rfl rdZ rfl rfl ?_)
  rintro ul _ ⟨σl, hOl, rfl⟩
  refine CE (CD rfl (most_spec σl ul _ hOl.at (by omega)) rfl rfl rdZ rfl rfl ?_)
  rintro _ rfl
  by_cases hm : mostL (lvH (insH l h) nn) ≤ qs[nn]
  ·rw [decide_eq_true hm] at hfin
   have hR : addR qs cs l h = (insH l h, 0) := by unfold addR; rw [if_neg (fun h => h h0), if_neg (fun h => h hh), if_neg hfull, if_pos hfin]
   rw [hR]
   generalize mostL (lvH (insH l h) nn) = mo at hm
   generalize qs[nn] = Q at hm gq
   refine DU ?_
   refine A4 ?_
   refine AN rfl ?_
   refine AM ?_
   refine AD ?_
   refine AA ?_
   refine AB ?_
   refine AC ?_
   refine AC ?_
   refine AE ?_
   exact AI (res2 rfl rfl rfl) rsubZ selZ ⟨σi, ⟨_, rfl, hOi⟩, rfl⟩
  ·rw [decide_eq_false hm] at hfin
   have hR : addR qs cs l h = ([], 15) := by unfold addR; rw [if_neg (fun h => h h0), if_neg (fun h => h hh), if_neg hfull, hfin]; rfl
   rw [hR]
   generalize mostL (lvH (insH l h) nn) = mo at hm
   generalize qs[nn] = Q at hm gq
   refine EJ ?_
   refine A4 ?_
   refine AO rfl ?_
   refine AD ?_
   refine AA ?_
   refine AC ?_
   refine AC ?_
   refine AE ?_
   exact AI (res2 rfl rfl rfl) rsubZ selZ ⟨emp, ⟨_, rfl, OwnS.nil _ _⟩, rfl⟩
end Go.Proofs.YthdoegkjifgegaaGreat
/- Law Monotone. -/
namespace Go.Proofs.YthdoegkjifgegaaGreat
open Go.Eng Go.Step
set_option maxRecDepth 100000
set_option maxHeartbeats 4000000

theorem ownS_len {e : TypeId} {s n : Nat} {v : Value} {xs : List Value} {σ : PH} (h : OwnS e s v n xs σ) : n ≤ 9223372036854775807 := by
 obtain ⟨_, ⟨_, rfl, _⟩ | ⟨b, cap, cur, _, _, h1, h2, _⟩⟩ := h
 ·omega
 ·simp only [maxLen] at h2
  omega
theorem addR_ok {qs : List Int} {cs : List Ct} {l : List Hd} {h : Hd} (h0 : chkH qs cs l = 0) (he : (addR qs cs l h).2 = 0) : chkH qs cs (addR qs cs l h).1 = 0 ∧ ∀ n t, Step.stored l n t ≤ Step.stored (addR qs cs l h).1 n t := by
 have hp := chkH_pl h0
 obtain ⟨hok, hlen, _⟩ := chkH_ok h0
 obtain ⟨hsort, _, _⟩ := chkH_sort h0
 unfold addR at he ⊢
 rw [if_neg (fun h => h h0)] at he ⊢
 by_cases hh : okHd qs.length h
 rotate_left
 ·rw [if_pos hh] at he; omega
 rw [if_neg (fun h => h hh)] at he ⊢
 by_cases hf : l.length = 512
 ·rw [if_pos hf] at he; omega
 rw [if_neg hf] at he ⊢
 by_cases hfit : fitB qs (insH l h) = true
 rotate_left
 ·rw [if_neg hfit] at he; omega
 rw [if_pos hfit]
 dsimp only
 refine ⟨?_, fun n t => ?_⟩
 ·unfold chkH
  rw [if_neg (by simpa using hp), if_neg (by rw [insH_len]; omega), if_neg (by simpa using sortH_first (insH_ok hok hh) (insH_sort hsort h)), if_pos hfit]
 ·rw [stored_ins]
  have := hh.2.2.1
  split <;> omega
theorem chkT_of {qs : List Int} {cs : List Ct} {bs : List Bk} {hs : List Hd} (h1 : chkPl qs cs = 0) (h2 : chkB qs cs bs = 0) (h3 : chkH qs cs hs = 0) : chkT qs cs bs hs = 0 := by
 unfold chkT
 rw [if_neg (fun h => h h1), if_neg (fun h => h h2), h3]
set_option maxHeartbeats 64000000 in
theorem monotone_law {ρ τ σ υ : PH} {pq pc pb ph : Option Addr} {kq kc kb kh : Nat} {qs : List Int} {cs : List Ct} {bs : List Bk} {hs : List Hd} (hT : TbAt ρ τ σ υ pq pc pb ph kq kc kb kh qs cs bs hs) (d : Dm) (x : Bk) (y : Hd) (z : Int) (hz : 0 ≤ z ∧ z ≤ 255) :
  Ans Tryz.prog (fv 7) [.agg #[.slice pq qs.length kq, .slice pc cs.length kc, .slice pb bs.length kb, .slice ph hs.length kh], .agg #[int d.s, int d.d, int d.v, int d.r, int d.e], .agg #[int x.c, int x.a, int x.b, int x.k], .agg #[int y.n, int y.a, int y.b, int y.s, int y.k], .int .u8 z] [ρ, τ, σ, υ] (fun r => r = .bool true) := by
 have hf := fine53_spec hT d
 have hG := Graph_spec hT d
 have hB := bkAdd_spec ρ τ σ pq pc pb kq kc kb qs cs bs x hT.hq hT.hc hT.hcap hT.lq hT.lc hT.hb hT.lb
 have hS := add28_spec ρ τ υ pq pc kq kc qs cs (.slice ph hs.length kh) hs y hT.hq hT.hc hT.hcap hT.lq hT.lc hT.hh hT.lh
 refine spec_in (cap := []) Tryz.func7 rfl rfl Tryz.ntmps7 rfl envZ (fun N β => ?_)
 refine AD ?_
 refine AA ?_
 refine BC (BK rfl) rfl rfl rfl ?_
 rintro _ _ ⟨b1, rfl, rfl⟩
 refine AR (ρ := sng b1 _) takeZ ?_
 have ct : RdN (sng b1 (.cells #[.slice pq qs.length kq, .slice pc cs.length kc, .slice pb bs.length kb, .slice ph hs.length kh] 29 (0, 0))) b1 0 [.slice pq qs.length kq, .slice pc cs.length kc, .slice pb bs.length kb, .slice ph hs.length kh] := rdN_sng (vs := [.slice pq qs.length kq, .slice pc cs.length kc, .slice pb bs.length kb, .slice ph hs.length kh])
 have ct0 : rdc (sng b1 (.cells #[.slice pq qs.length kq, .slice pc cs.length kc, .slice pb bs.length kb, .slice ph hs.length kh] 29 (0, 0))) b1 0 = some (.slice pq qs.length kq) := by rw [rdc_sng]; rfl
 have ct1 : rdc (sng b1 (.cells #[.slice pq qs.length kq, .slice pc cs.length kc, .slice pb bs.length kb, .slice ph hs.length kh] 29 (0, 0))) b1 1 = some (.slice pc cs.length kc) := by rw [rdc_sng]; rfl
 have ct2 : rdc (sng b1 (.cells #[.slice pq qs.length kq, .slice pc cs.length kc, .slice pb bs.length kb, .slice ph hs.length kh] 29 (0, 0))) b1 2 = some (.slice pb bs.length kb) := by rw [rdc_sng]; rfl
 have ct3 : rdc (sng b1 (.cells #[.slice pq qs.length kq, .slice pc cs.length kc, .slice pb bs.length kb, .slice ph hs.length kh] 29 (0, 0))) b1 3 = some (.slice ph hs.length kh) := by rw [rdc_sng]; rfl
 have ctp : RdP (sng b1 (.cells #[.slice pq qs.length kq, .slice pc cs.length kc, .slice pb bs.length kb, .slice ph hs.length kh] 29 (0, 0))) b1 0 [.slice pq qs.length kq, .slice pc cs.length kc] := rdP_sng (xs := [.slice pq qs.length kq, .slice pc cs.length kc, .slice pb bs.length kb, .slice ph hs.length kh]) rfl
 refine BC (BK rfl) rfl rfl rfl ?_
 rintro _ _ ⟨b2, rfl, rfl⟩
 refine AR (ρ := sng b2 _) takeZ ?_
 have cd : RdN (sng b2 (.cells #[int d.s, int d.d, int d.v, int d.r, int d.e] 31 (0, 0))) b2 0 [int d.s, int d.d, int d.v, int d.r, int d.e] := rdN_sng (vs := [int d.s, int d.d, int d.v, int d.r, int d.e])
 have cd0 : rdc (sng b2 (.cells #[int d.s, int d.d, int d.v, int d.r, int d.e] 31 (0, 0))) b2 0 = some (int d.s) := by rw [rdc_sng]; rfl
 have cd1 : rdc (sng b2 (.cells #[int d.s, int d.d, int d.v, int d.r, int d.e] 31 (0, 0))) b2 1 = some (int d.d) := by rw [rdc_sng]; rfl
 have cd2 : rdc (sng b2 (.cells #[int d.s, int d.d, int d.v, int d.r, int d.e] 31 (0, 0))) b2 2 = some (int d.v) := by rw [rdc_sng]; rfl
 have cd3 : rdc (sng b2 (.cells #[int d.s, int d.d, int d.v, int d.r, int d.e] 31 (0, 0))) b2 3 = some (int d.r) := by rw [rdc_sng]; rfl
 have cd4 : rdc (sng b2 (.cells #[int d.s, int d.d, int d.v, int d.r, int d.e] 31 (0, 0))) b2 4 = some (int d.e) := by rw [rdc_sng]; rfl
 refine BC (BK rfl) rfl rfl rfl ?_
 rintro _ _ ⟨b3, rfl, rfl⟩
 refine AR (ρ := sng b3 _) takeZ ?_
 have cx : RdN (sng b3 (.cells #[int x.c, int x.a, int x.b, int x.k] 73 (0, 0))) b3 0 [int x.c, int x.a, int x.b, int x.k] := rdN_sng (vs := [int x.c, int x.a, int x.b, int x.k])
 have cx0 : rdc (sng b3 (.cells #[int x.c, int x.a, int x.b, int x.k] 73 (0, 0))) b3 0 = some (int x.c) := by rw [rdc_sng]; rfl
 have cx1 : rdc (sng b3 (.cells #[int x.c, int x.a, int x.b, int x.k] 73 (0, 0))) b3 1 = some (int x.a) := by rw [rdc_sng]; rfl
 have cx2 : rdc (sng b3 (.cells #[int x.c, int x.a, int x.b, int x.k] 73 (0, 0))) b3 2 = some (int x.b) := by rw [rdc_sng]; rfl
 have cx3 : rdc (sng b3 (.cells #[int x.c, int x.a, int x.b, int x.k] 73 (0, 0))) b3 3 = some (int x.k) := by rw [rdc_sng]; rfl
 refine BC (BK rfl) rfl rfl rfl ?_
 rintro _ _ ⟨b4, rfl, rfl⟩
 refine AR (ρ := sng b4 _) takeZ ?_
 have cy : RdN (sng b4 (.cells #[int y.n, int y.a, int y.b, int y.s, int y.k] 75 (0, 0))) b4 0 [int y.n, int y.a, int y.b, int y.s, int y.k] := rdN_sng (vs := [int y.n, int y.a, int y.b, int y.s, int y.k])
 have cy0 : rdc (sng b4 (.cells #[int y.n, int y.a, int y.b, int y.s, int y.k] 75 (0, 0))) b4 0 = some (int y.n) := by rw [rdc_sng]; rfl
 have cy1 : rdc (sng b4 (.cells #[int y.n, int y.a, int y.b, int y.s, int y.k] 75 (0, 0))) b4 1 = some (int y.a) := by rw [rdc_sng]; rfl
 have cy2 : rdc (sng b4 (.cells #[int y.n, int y.a, int y.b, int y.s, int y.k] 75 (0, 0))) b4 2 = some (int y.b) := by rw [rdc_sng]; rfl
 have cy3 : rdc (sng b4 (.cells #[int y.n, int y.a, int y.b, int y.s, int y.k] 75 (0, 0))) b4 3 = some (int y.s) := by rw [rdc_sng]; rfl
 have cy4 : rdc (sng b4 (.cells #[int y.n, int y.a, int y.b, int y.s, int y.k] 75 (0, 0))) b4 4 = some (int y.k) := by rw [rdc_sng]; rfl
 refine AC ?_
 refine AE ?_
 refine AD ?_
 refine AD ?_
 refine AA ?_
 refine AT ?_
 refine AT ?_
 refine A2 hf rfl rfl rdZ rfl rfl ?_
 rintro _ ⟨fb, rfl, hfb⟩
 cases fb with
 | false =>
  refine A7 ?_
  refine AE ?_
  refine AO rfl ?_
  refine AD ?_
  refine AA ?_
  focus ((refine A2 awake53_spec rfl rfl rdZ rfl rfl ?_; rintro _ rfl))
  refine AC ?_
  refine AE ?_
  exact AI (res1 rfl rfl) rsubZ selZ ⟨rfl, rfl⟩
 | true =>
 have hv := hfb rfl
 have h := vok hv
 have hdm := h.dm
 unfold okDm at hdm
 have hvs := h.vs
 have hEl := ea_len qs cs bs hs d h
 have hAl : (arcsG qs cs bs hs d).length = (arcsE qs cs bs hs d).length := by unfold arcsG; rw [List.length_map]
 obtain ⟨hpl, hb0, hh0⟩ := chkT_ok (of_decide_eq_true hv).1
 refine A7 ?_
 refine AE ?_
 refine AN rfl ?_
 refine AM ?_
 refine AD ?_
 refine EW (X := Nat × Nat) [4, 5, 6, 7, 8] (fun _ => True) (fun q => [(11, .pointer (some ⟨q.1, 0, none⟩)), (12, .pointer (some ⟨q.2, 0, none⟩))]) (fun q => [sng q.1 (.cells #[.slice pq qs.length kq, .slice pc cs.length kc, .slice pb bs.length kb, .slice ph hs.length kh] 29 (0, 0)), sng q.2 (.cells #[int d.s, int d.d, int d.v, int d.r, int d.e] 31 (0, 0))]) pickZ ?_ ?_
 ·refine A3 (.q 0 (.p 1 (.l2 2 .e (.l 3 .e (.l 4 .b (.l 5 .b .nil))) 3 .e (.l 2 .e (.l 4 .b (.l 5 .b .nil)))))) [] rfl (by kernel_rfl) Sel.nil ?_
  repeat' (first
   | (refine BN ?_)
   | (refine E5 ?_)
   | (focus ((refine CE ?_; refine' FY rfl _ rfl rfl _ _; rotate_left; (focus (apply C6; exact rfl; exact rfl; exact takeZ; exact (by (repeat (first | exact (fun v hv => absurd hv List.not_mem_nil) | (refine List.forall_mem_cons.2 ⟨?_, ?_⟩; (focus (first | exact rfl | assumption))))); first | done | fail); exact rfl; exact rfl)); (focus (rintro _ _ ⟨_, rfl⟩ w hw; exact hw.sel Sel.nil)); rintro _ _ ⟨rfl, rfl⟩)))
   | (refine A4 ?_)
   | (refine EP ?_ ?_)
   | (refine C4 ?_; rintro _ _ ⟨b, rfl, rfl⟩)
   | (refine EK ?_; rintro _ _ ⟨b, rfl, rfl⟩)
   | fail)
  all_goals refine DQ (_, _) trivial covZ selZ
 rintro ⟨b11, b12⟩ _
 dsimp only
 refine AD ?_
 refine AD ?_
 refine AA ?_
 refine AG ?_
 refine AT ?_
 refine AG ?_
 refine AF ?_
 refine AT ?_
 refine BG hB rfl rfl rdZ rfl rfl ?_
 rintro _ χ1 ⟨u1, bs2, e1, rfl, hA, hO1⟩
 have hA1 : BkAt χ1 u1 bs2 := hO1.at
 have hl1 := ownS_len hO1
 obtain ⟨p1, k1, rfl⟩ := hO1.form
 refine AR (ρ := χ1) takeZ ?_
 rcases hA with ⟨he1, _⟩ | ⟨rfl, hb1, hb2⟩
 ·refine AB ?_
  refine AL ?_
  refine AL ?_
  refine AC ?_
  refine AC ?_
  refine AE ?_
  refine AD ?_
  refine AA ?_
  refine AB ?_
  refine BO ?_
  refine AE ?_
  refine AN rfl ?_
  refine AM ?_
  refine AD ?_
  refine AD ?_
  refine AA ?_
  refine AG ?_
  refine AT ?_
  refine AG ?_
  refine AF ?_
  refine AT ?_
  refine BG hS rfl rfl rdZ rfl rfl ?_
  rintro _ χ2 ⟨u2, rfl, hO2⟩
  have hA2 : HdAt χ2 u2 (addR qs cs hs y).1 := hO2.at
  have hl2 := ownS_len hO2
  obtain ⟨p2, k2, rfl⟩ := hO2.form
  refine AR (ρ := χ2) takeZ ?_
  by_cases he2 : (addR qs cs hs y).2 = 0
  ·obtain ⟨a1, a2⟩ := addR_ok hh0 he2
   rw [he2]
   generalize (addR qs cs hs y).1 = hs2 at hO2 hA2 hl2 a1 a2
   have hv2 : validT qs cs bs hs2 ⟨d.s, d.d, d.v, d.r, max (d.r + 1) (d.e - z)⟩ = true := decide_eq_true ⟨chkT_of hpl hb0 a1, by unfold okDm; dsimp only; omega⟩
   have hT2 : TbAt ρ τ σ χ2 pq pc pb p2 kq kc kb k2 qs cs bs hs2 := ⟨hT.hq, hT.hc, hT.hcap, hT.lq, hT.lc, hT.hb, hT.lb, hA2, hl2⟩
   have hmono := fun F F' m m' e e' => max_mono (F := F) (F' := F') (m := m) (m' := m') (e := e) (e' := e') h (vok hv2) rfl rfl rfl (by dsimp only; omega) (fun i t hh => hh) (fun n t => a2 n t)
   have hG2 := Graph_spec hT2 ⟨d.s, d.d, d.v, d.r, max (d.r + 1) (d.e - z)⟩
   have hEl2 := ea_len qs cs bs hs2 ⟨d.s, d.d, d.v, d.r, max (d.r + 1) (d.e - z)⟩ (vok hv2)
   have hAl2 : (arcsG qs cs bs hs2 ⟨d.s, d.d, d.v, d.r, max (d.r + 1) (d.e - z)⟩).length = (arcsE qs cs bs hs2 ⟨d.s, d.d, d.v, d.r, max (d.r + 1) (d.e - z)⟩).length := by unfold arcsG; rw [List.length_map]
   refine AB ?_
   refine AL ?_
   refine AL ?_
   refine AC ?_
   refine AC ?_
   refine AE ?_
   refine AD ?_
   refine AA ?_
   refine AB ?_
   refine BQ ?_
   refine AE ?_
   refine AO rfl ?_
   refine AA ?_
   refine AB ?_
   refine AG ?_
   refine A9 ?_; rintro _ _ ⟨rfl, rfl⟩
   refine AE ?_
   refine AD ?_
   refine AA ?_
   refine AG ?_
   refine AF ?_
   refine CO ?_
   refine AG ?_
   refine AF ?_
   refine AB ?_
   refine C9 ?_
   refine CQ ?_
   refine DO ?_
   refine AG ?_
   refine A9 ?_; rintro _ _ ⟨rfl, rfl⟩
   refine AE ?_
   refine AD ?_
   refine AA ?_
   refine AT ?_
   refine AT ?_
   refine BG hG rfl rfl rdZ rfl rfl ?_
   rintro _ σg hg
   rw [if_pos hv] at hg
   obtain ⟨ug, rfl, hOg⟩ := hg
   have hAt : ArcsAt σg ug (arcsG qs cs bs hs d) := hOg.at
   obtain ⟨pg, kg, rfl⟩ := hOg.form
   refine AR (ρ := σg) takeZ ?_
   refine AB ?_
   refine AL ?_
   refine AL ?_
   refine AY ?_; rintro _ _ ⟨b, rfl, rfl⟩
   refine AX ?_; rintro _ _ ⟨rfl, rfl⟩
   refine AC ?_
   refine AE ?_
   refine AD ?_
   refine AA ?_
   refine AT ?_
   refine AT ?_
   refine BG hG2 rfl rfl rdZ rfl rfl ?_
   rintro _ σg2 hg
   rw [if_pos hv2] at hg
   obtain ⟨ug2, rfl, hOg2⟩ := hg
   have hAt2 := hOg2.at
   obtain ⟨pg2, kg2, rfl⟩ := hOg2.form
   refine AR (ρ := σg2) takeZ ?_
   have hM := flowMax_spec σg (.slice pg (arcsG qs cs bs hs d).length kg) (vsN qs d) (vtx d d.s d.r) (vtx d d.d d.e) (arcsG qs cs bs hs d) hAt (by omega)
   have hM2 := flowMax_spec σg2 _ (vsN qs ⟨d.s, d.d, d.v, d.r, max (d.r + 1) (d.e - z)⟩) (vtx ⟨d.s, d.d, d.v, d.r, max (d.r + 1) (d.e - z)⟩ d.s d.r) (vtx ⟨d.s, d.d, d.v, d.r, max (d.r + 1) (d.e - z)⟩ d.d (max (d.r + 1) (d.e - z))) _ hAt2 (by omega)
   refine AB ?_
   refine AL ?_
   refine AL ?_
   refine AY ?_; rintro _ _ ⟨b, rfl, rfl⟩
   refine AX ?_; rintro _ _ ⟨rfl, rfl⟩
   refine AC ?_
   refine AE ?_
   refine AD ?_
   refine AA ?_
   refine AG ?_
   refine AF ?_
   refine AG ?_
   refine AF ?_
   refine AG ?_
   refine AF ?_
   refine AG ?_
   refine AF ?_
   refine BG hM rfl rfl rdZ rfl rfl ?_
   rintro _ σf ⟨fs, F, m, e3, rfl, hF, hm⟩
   refine AB ?_
   refine AL ?_
   refine AL ?_
   refine AL ?_
   refine AC ?_
   refine AC ?_
   refine AC ?_
   refine AE ?_
   refine AD ?_
   refine AA ?_
   refine AG ?_
   refine AF ?_
   refine AG ?_
   refine AF ?_
   refine AG ?_
   refine AF ?_
   refine AG ?_
   refine AF ?_
   refine BG hM2 rfl rfl rdZ rfl rfl ?_
   rintro _ σf2 ⟨fs2, F2, m2, e4, rfl, hF2, hm2⟩
   have hle := hmono F F2 m m2 e3 e4 hm hm2
   obtain ⟨he3, _⟩ := max_cut h (show MaxN qs cs bs hs d F m e3 from hm)
   obtain ⟨he4, _⟩ := max_cut (vok hv2) (show MaxN qs cs bs hs2 _ F2 m2 e4 from hm2)
   subst he3 he4
   refine AB ?_
   refine AL ?_
   refine AL ?_
   refine AL ?_
   refine AC ?_
   refine AC ?_
   refine AC ?_
   refine AE ?_
   refine AD ?_
   refine AA ?_
   refine AB ?_
   refine BQ ?_
   refine AB ?_
   refine AB ?_
   refine BQ ?_
   refine AK ?_
   refine AB ?_
   refine AB ?_
   refine BQ ?_
   refine AK ?_
   refine AB ?_
   refine AB ?_
   refine BQ ?_
   refine AK ?_
   refine AB ?_
   refine AB ?_
   refine AB ?_
   refine CN ?_
   refine AK ?_
   refine AB ?_
   refine A2 awake53_spec rfl rfl rdZ rfl rfl ?_
   rintro _ rfl
   refine AK ?_
   refine AC ?_
   refine AE ?_
   exact AI (res1 rfl rfl) rsubZ selZ ⟨rfl, rfl⟩
  generalize (addR qs cs hs y).2 = e2 at he2
  have hv2 : validT qs cs bs hs ⟨d.s, d.d, d.v, d.r, max (d.r + 1) (d.e - z)⟩ = true := decide_eq_true ⟨chkT_of hpl hb0 hh0, by unfold okDm; dsimp only; omega⟩
  have hT2 : TbAt ρ τ σ υ pq pc pb ph kq kc kb kh qs cs bs hs := ⟨hT.hq, hT.hc, hT.hcap, hT.lq, hT.lc, hT.hb, hT.lb, hT.hh, hT.lh⟩
  have hmono := fun F F' m m' e e' => max_mono (F := F) (F' := F') (m := m) (m' := m') (e := e) (e' := e') h (vok hv2) rfl rfl rfl (by dsimp only; omega) (fun i t hh => hh) (fun n t => Int.le_refl _)
  have hG2 := Graph_spec hT2 ⟨d.s, d.d, d.v, d.r, max (d.r + 1) (d.e - z)⟩
  have hEl2 := ea_len qs cs bs hs ⟨d.s, d.d, d.v, d.r, max (d.r + 1) (d.e - z)⟩ (vok hv2)
  have hAl2 : (arcsG qs cs bs hs ⟨d.s, d.d, d.v, d.r, max (d.r + 1) (d.e - z)⟩).length = (arcsE qs cs bs hs ⟨d.s, d.d, d.v, d.r, max (d.r + 1) (d.e - z)⟩).length := by unfold arcsG; rw [List.length_map]
  refine AB ?_
  refine AL ?_
  refine AL ?_
  refine AC ?_
  refine AC ?_
  refine AE ?_
  refine AD ?_
  refine AA ?_
  refine AB ?_
  refine BO ?_
  refine AE ?_
  refine AN rfl ?_
  refine AM ?_
  refine AD ?_
  refine AA ?_
  refine AG ?_
  refine AF ?_
  refine CO ?_
  refine AG ?_
  refine AF ?_
  refine AB ?_
  refine C9 ?_
  refine CQ ?_
  refine DO ?_
  refine AG ?_
  refine A9 ?_; rintro _ _ ⟨rfl, rfl⟩
  refine AE ?_
  refine AD ?_
  refine AA ?_
  refine AT ?_
  refine AT ?_
  refine BG hG rfl rfl rdZ rfl rfl ?_
  rintro _ σg hg
  rw [if_pos hv] at hg
  obtain ⟨ug, rfl, hOg⟩ := hg
  have hAt : ArcsAt σg ug (arcsG qs cs bs hs d) := hOg.at
  obtain ⟨pg, kg, rfl⟩ := hOg.form
  refine AR (ρ := σg) takeZ ?_
  refine AB ?_
  refine AL ?_
  refine AL ?_
  refine AY ?_; rintro _ _ ⟨b, rfl, rfl⟩
  refine AX ?_; rintro _ _ ⟨rfl, rfl⟩
  refine AC ?_
  refine AE ?_
  refine AD ?_
  refine AA ?_
  refine AT ?_
  refine AT ?_
  refine BG hG2 rfl rfl rdZ rfl rfl ?_
  rintro _ σg2 hg
  rw [if_pos hv2] at hg
  obtain ⟨ug2, rfl, hOg2⟩ := hg
  have hAt2 := hOg2.at
  obtain ⟨pg2, kg2, rfl⟩ := hOg2.form
  refine AR (ρ := σg2) takeZ ?_
  have hM := flowMax_spec σg (.slice pg (arcsG qs cs bs hs d).length kg) (vsN qs d) (vtx d d.s d.r) (vtx d d.d d.e) (arcsG qs cs bs hs d) hAt (by omega)
  have hM2 := flowMax_spec σg2 _ (vsN qs ⟨d.s, d.d, d.v, d.r, max (d.r + 1) (d.e - z)⟩) (vtx ⟨d.s, d.d, d.v, d.r, max (d.r + 1) (d.e - z)⟩ d.s d.r) (vtx ⟨d.s, d.d, d.v, d.r, max (d.r + 1) (d.e - z)⟩ d.d (max (d.r + 1) (d.e - z))) _ hAt2 (by omega)
  refine AB ?_
  refine AL ?_
  refine AL ?_
  refine AY ?_; rintro _ _ ⟨b, rfl, rfl⟩
  refine AX ?_; rintro _ _ ⟨rfl, rfl⟩
  refine AC ?_
  refine AE ?_
  refine AD ?_
  refine AA ?_
  refine AG ?_
  refine AF ?_
  refine AG ?_
  refine AF ?_
  refine AG ?_
  refine AF ?_
  refine AG ?_
  refine AF ?_
  refine BG hM rfl rfl rdZ rfl rfl ?_
  rintro _ σf ⟨fs, F, m, e3, rfl, hF, hm⟩
  refine AB ?_
  refine AL ?_
  refine AL ?_
  refine AL ?_
  refine AC ?_
  refine AC ?_
  refine AC ?_
  refine AE ?_
  refine AD ?_
  refine AA ?_
  refine AG ?_
  refine AF ?_
  refine AG ?_
  refine AF ?_
  refine AG ?_
  refine AF ?_
  refine AG ?_
  refine AF ?_
  refine BG hM2 rfl rfl rdZ rfl rfl ?_
  rintro _ σf2 ⟨fs2, F2, m2, e4, rfl, hF2, hm2⟩
  have hle := hmono F F2 m m2 e3 e4 hm hm2
  obtain ⟨he3, _⟩ := max_cut h (show MaxN qs cs bs hs d F m e3 from hm)
  obtain ⟨he4, _⟩ := max_cut (vok hv2) (show MaxN qs cs bs hs _ F2 m2 e4 from hm2)
  subst he3 he4
  refine AB ?_
  refine AL ?_
  refine AL ?_
  refine AL ?_
  refine AC ?_
  refine AC ?_
  refine AC ?_
  refine AE ?_
  refine AD ?_
  refine AA ?_
  refine AB ?_
  refine BQ ?_
  refine AB ?_
  refine AB ?_
  refine BQ ?_
  refine AK ?_
  refine AB ?_
  refine AB ?_
  refine BQ ?_
  refine AK ?_
  refine AB ?_
  refine AB ?_
  refine BQ ?_
  refine AK ?_
  refine AB ?_
  refine AB ?_
  refine AB ?_
  refine CN ?_
  refine AK ?_
  refine AB ?_
  refine A2 awake53_spec rfl rfl rdZ rfl rfl ?_
  rintro _ rfl
  refine AK ?_
  refine AC ?_
  refine AE ?_
  exact AI (res1 rfl rfl) rsubZ selZ ⟨rfl, rfl⟩
 ·refine AB ?_
  refine AL ?_
  refine AL ?_
  refine AC ?_
  refine AC ?_
  refine AE ?_
  refine AD ?_
  refine AA ?_
  refine AB ?_
  refine BQ ?_
  refine AE ?_
  refine AO rfl ?_
  refine AA ?_
  refine AB ?_
  refine AG ?_
  refine A9 ?_; rintro _ _ ⟨rfl, rfl⟩
  refine AE ?_
  refine AD ?_
  refine AD ?_
  refine AA ?_
  refine AG ?_
  refine AT ?_
  refine AG ?_
  refine AF ?_
  refine AT ?_
  refine BG hS rfl rfl rdZ rfl rfl ?_
  rintro _ χ2 ⟨u2, rfl, hO2⟩
  have hA2 : HdAt χ2 u2 (addR qs cs hs y).1 := hO2.at
  have hl2 := ownS_len hO2
  obtain ⟨p2, k2, rfl⟩ := hO2.form
  refine AR (ρ := χ2) takeZ ?_
  by_cases he2 : (addR qs cs hs y).2 = 0
  ·obtain ⟨a1, a2⟩ := addR_ok hh0 he2
   rw [he2]
   generalize (addR qs cs hs y).1 = hs2 at hO2 hA2 hl2 a1 a2
   have hv2 : validT qs cs bs2 hs2 ⟨d.s, d.d, d.v, d.r, max (d.r + 1) (d.e - z)⟩ = true := decide_eq_true ⟨chkT_of hpl hb1 a1, by unfold okDm; dsimp only; omega⟩
   have hT2 : TbAt ρ τ χ1 χ2 pq pc p1 p2 kq kc k1 k2 qs cs bs2 hs2 := ⟨hT.hq, hT.hc, hT.hcap, hT.lq, hT.lc, hA1, hl1, hA2, hl2⟩
   have hmono := fun F F' m m' e e' => max_mono (F := F) (F' := F') (m := m) (m' := m') (e := e) (e' := e') h (vok hv2) rfl rfl rfl (by dsimp only; omega) (fun i t hh => hb2 i t hh) (fun n t => a2 n t)
   have hG2 := Graph_spec hT2 ⟨d.s, d.d, d.v, d.r, max (d.r + 1) (d.e - z)⟩
   have hEl2 := ea_len qs cs bs2 hs2 ⟨d.s, d.d, d.v, d.r, max (d.r + 1) (d.e - z)⟩ (vok hv2)
   have hAl2 : (arcsG qs cs bs2 hs2 ⟨d.s, d.d, d.v, d.r, max (d.r + 1) (d.e - z)⟩).length = (arcsE qs cs bs2 hs2 ⟨d.s, d.d, d.v, d.r, max (d.r + 1) (d.e - z)⟩).length := by unfold arcsG; rw [List.length_map]
   refine AB ?_
   refine AL ?_
   refine AL ?_
   refine AC ?_
   refine AC ?_
   refine AE ?_
   refine AD ?_
   refine AA ?_
   refine AB ?_
   refine BQ ?_
   refine AE ?_
   refine AO rfl ?_
   refine AA ?_
   refine AB ?_
   refine AG ?_
   refine A9 ?_; rintro _ _ ⟨rfl, rfl⟩
   refine AE ?_
   refine AD ?_
   refine AA ?_
   refine AG ?_
   refine AF ?_
   refine CO ?_
   refine AG ?_
   refine AF ?_
   refine AB ?_
   refine C9 ?_
   refine CQ ?_
   refine DO ?_
   refine AG ?_
   refine A9 ?_; rintro _ _ ⟨rfl, rfl⟩
   refine AE ?_
   refine AD ?_
   refine AA ?_
   refine AT ?_
   refine AT ?_
   refine BG hG rfl rfl rdZ rfl rfl ?_
   rintro _ σg hg
   rw [if_pos hv] at hg
   obtain ⟨ug, rfl, hOg⟩ := hg
   have hAt : ArcsAt σg ug (arcsG qs cs bs hs d) := hOg.at
   obtain ⟨pg, kg, rfl⟩ := hOg.form
   refine AR (ρ := σg) takeZ ?_
   refine AB ?_
   refine AL ?_
   refine AL ?_
   refine AY ?_; rintro _ _ ⟨b, rfl, rfl⟩
   refine AX ?_; rintro _ _ ⟨rfl, rfl⟩
   refine AC ?_
   refine AE ?_
   refine AD ?_
   refine AA ?_
   refine AT ?_
   refine AT ?_
   refine BG hG2 rfl rfl rdZ rfl rfl ?_
   rintro _ σg2 hg
   rw [if_pos hv2] at hg
   obtain ⟨ug2, rfl, hOg2⟩ := hg
   have hAt2 := hOg2.at
   obtain ⟨pg2, kg2, rfl⟩ := hOg2.form
   refine AR (ρ := σg2) takeZ ?_
   have hM := flowMax_spec σg (.slice pg (arcsG qs cs bs hs d).length kg) (vsN qs d) (vtx d d.s d.r) (vtx d d.d d.e) (arcsG qs cs bs hs d) hAt (by omega)
   have hM2 := flowMax_spec σg2 _ (vsN qs ⟨d.s, d.d, d.v, d.r, max (d.r + 1) (d.e - z)⟩) (vtx ⟨d.s, d.d, d.v, d.r, max (d.r + 1) (d.e - z)⟩ d.s d.r) (vtx ⟨d.s, d.d, d.v, d.r, max (d.r + 1) (d.e - z)⟩ d.d (max (d.r + 1) (d.e - z))) _ hAt2 (by omega)
   refine AB ?_
   refine AL ?_
   refine AL ?_
   refine AY ?_; rintro _ _ ⟨b, rfl, rfl⟩
   refine AX ?_; rintro _ _ ⟨rfl, rfl⟩
   refine AC ?_
   refine AE ?_
   refine AD ?_
   refine AA ?_
   refine AG ?_
   refine AF ?_
   refine AG ?_
   refine AF ?_
   refine AG ?_
   refine AF ?_
   refine AG ?_
   refine AF ?_
   refine BG hM rfl rfl rdZ rfl rfl ?_
   rintro _ σf ⟨fs, F, m, e3, rfl, hF, hm⟩
   refine AB ?_
   refine AL ?_
   refine AL ?_
   refine AL ?_
   refine AC ?_
   refine AC ?_
   refine AC ?_
   refine AE ?_
   refine AD ?_
   refine AA ?_
   refine AG ?_
   refine AF ?_
   refine AG ?_
   refine AF ?_
   refine AG ?_
   refine AF ?_
   refine AG ?_
   refine AF ?_
   refine BG hM2 rfl rfl rdZ rfl rfl ?_
   rintro _ σf2 ⟨fs2, F2, m2, e4, rfl, hF2, hm2⟩
   have hle := hmono F F2 m m2 e3 e4 hm hm2
   obtain ⟨he3, _⟩ := max_cut h (show MaxN qs cs bs hs d F m e3 from hm)
   obtain ⟨he4, _⟩ := max_cut (vok hv2) (show MaxN qs cs bs2 hs2 _ F2 m2 e4 from hm2)
   subst he3 he4
   refine AB ?_
   refine AL ?_
   refine AL ?_
   refine AL ?_
   refine AC ?_
   refine AC ?_
   refine AC ?_
   refine AE ?_
   refine AD ?_
   refine AA ?_
   refine AB ?_
   refine BQ ?_
   refine AB ?_
   refine AB ?_
   refine BQ ?_
   refine AK ?_
   refine AB ?_
   refine AB ?_
   refine BQ ?_
   refine AK ?_
   refine AB ?_
   refine AB ?_
   refine BQ ?_
   refine AK ?_
   refine AB ?_
   refine AB ?_
   refine AB ?_
   refine CN ?_
   refine AK ?_
   refine AB ?_
   refine A2 awake53_spec rfl rfl rdZ rfl rfl ?_
   rintro _ rfl
   refine AK ?_
   refine AC ?_
   refine AE ?_
   exact AI (res1 rfl rfl) rsubZ selZ ⟨rfl, rfl⟩
  generalize (addR qs cs hs y).2 = e2 at he2
  have hv2 : validT qs cs bs2 hs ⟨d.s, d.d, d.v, d.r, max (d.r + 1) (d.e - z)⟩ = true := decide_eq_true ⟨chkT_of hpl hb1 hh0, by unfold okDm; dsimp only; omega⟩
  have hT2 : TbAt ρ τ χ1 υ pq pc p1 ph kq kc k1 kh qs cs bs2 hs := ⟨hT.hq, hT.hc, hT.hcap, hT.lq, hT.lc, hA1, hl1, hT.hh, hT.lh⟩
  have hmono := fun F F' m m' e e' => max_mono (F := F) (F' := F') (m := m) (m' := m') (e := e) (e' := e') h (vok hv2) rfl rfl rfl (by dsimp only; omega) (fun i t hh => hb2 i t hh) (fun n t => Int.le_refl _)
  have hG2 := Graph_spec hT2 ⟨d.s, d.d, d.v, d.r, max (d.r + 1) (d.e - z)⟩
  have hEl2 := ea_len qs cs bs2 hs ⟨d.s, d.d, d.v, d.r, max (d.r + 1) (d.e - z)⟩ (vok hv2)
  have hAl2 : (arcsG qs cs bs2 hs ⟨d.s, d.d, d.v, d.r, max (d.r + 1) (d.e - z)⟩).length = (arcsE qs cs bs2 hs ⟨d.s, d.d, d.v, d.r, max (d.r + 1) (d.e - z)⟩).length := by unfold arcsG; rw [List.length_map]
  refine AB ?_
  refine AL ?_
  refine AL ?_
  refine AC ?_
  refine AC ?_
  refine AE ?_
  refine AD ?_
  refine AA ?_
  refine AB ?_
  refine BO ?_
  refine AE ?_
  refine AN rfl ?_
  refine AM ?_
  refine AD ?_
  refine AA ?_
  refine AG ?_
  refine AF ?_
  refine CO ?_
  refine AG ?_
  refine AF ?_
  refine AB ?_
  refine C9 ?_
  refine CQ ?_
  refine DO ?_
  refine AG ?_
  refine A9 ?_; rintro _ _ ⟨rfl, rfl⟩
  refine AE ?_
  refine AD ?_
  refine AA ?_
  refine AT ?_
  refine AT ?_
  refine BG hG rfl rfl rdZ rfl rfl ?_
  rintro _ σg hg
  rw [if_pos hv] at hg
  obtain ⟨ug, rfl, hOg⟩ := hg
  have hAt : ArcsAt σg ug (arcsG qs cs bs hs d) := hOg.at
  obtain ⟨pg, kg, rfl⟩ := hOg.form
  refine AR (ρ := σg) takeZ ?_
  refine AB ?_
  refine AL ?_
  refine AL ?_
  refine AY ?_; rintro _ _ ⟨b, rfl, rfl⟩
  refine AX ?_; rintro _ _ ⟨rfl, rfl⟩
  refine AC ?_
  refine AE ?_
  refine AD ?_
  refine AA ?_
  refine AT ?_
  refine AT ?_
  refine BG hG2 rfl rfl rdZ rfl rfl ?_
  rintro _ σg2 hg
  rw [if_pos hv2] at hg
  obtain ⟨ug2, rfl, hOg2⟩ := hg
  have hAt2 := hOg2.at
  obtain ⟨pg2, kg2, rfl⟩ := hOg2.form
  refine AR (ρ := σg2) takeZ ?_
  have hM := flowMax_spec σg (.slice pg (arcsG qs cs bs hs d).length kg) (vsN qs d) (vtx d d.s d.r) (vtx d d.d d.e) (arcsG qs cs bs hs d) hAt (by omega)
  have hM2 := flowMax_spec σg2 _ (vsN qs ⟨d.s, d.d, d.v, d.r, max (d.r + 1) (d.e - z)⟩) (vtx ⟨d.s, d.d, d.v, d.r, max (d.r + 1) (d.e - z)⟩ d.s d.r) (vtx ⟨d.s, d.d, d.v, d.r, max (d.r + 1) (d.e - z)⟩ d.d (max (d.r + 1) (d.e - z))) _ hAt2 (by omega)
  refine AB ?_
  refine AL ?_
  refine AL ?_
  refine AY ?_; rintro _ _ ⟨b, rfl, rfl⟩
  refine AX ?_; rintro _ _ ⟨rfl, rfl⟩
  refine AC ?_
  refine AE ?_
  refine AD ?_
  refine AA ?_
  refine AG ?_
  refine AF ?_
  refine AG ?_
  refine AF ?_
  refine AG ?_
  refine AF ?_
  refine AG ?_
  refine AF ?_
  refine BG hM rfl rfl rdZ rfl rfl ?_
  rintro _ σf ⟨fs, F, m, e3, rfl, hF, hm⟩
  refine AB ?_
  refine AL ?_
  refine AL ?_
  refine AL ?_
  refine AC ?_
  refine AC ?_
  refine AC ?_
  refine AE ?_
  refine AD ?_
  refine AA ?_
  refine AG ?_
  refine AF ?_
  refine AG ?_
  refine AF ?_
  refine AG ?_
  refine AF ?_
  refine AG ?_
  refine AF ?_
  refine BG hM2 rfl rfl rdZ rfl rfl ?_
  rintro _ σf2 ⟨fs2, F2, m2, e4, rfl, hF2, hm2⟩
  have hle := hmono F F2 m m2 e3 e4 hm hm2
  obtain ⟨he3, _⟩ := max_cut h (show MaxN qs cs bs hs d F m e3 from hm)
  obtain ⟨he4, _⟩ := max_cut (vok hv2) (show MaxN qs cs bs2 hs _ F2 m2 e4 from hm2)
  subst he3 he4
  refine AB ?_
  refine AL ?_
  refine AL ?_
  refine AL ?_
  refine AC ?_
  refine AC ?_
  refine AC ?_
  refine AE ?_
  refine AD ?_
  refine AA ?_
  refine AB ?_
  refine BQ ?_
  refine AB ?_
  refine AB ?_
  refine BQ ?_
  refine AK ?_
  refine AB ?_
  refine AB ?_
  refine BQ ?_
  refine AK ?_
  refine AB ?_
  refine AB ?_
  refine BQ ?_
  refine AK ?_
  refine AB ?_
  refine AB ?_
  refine AB ?_
  refine CN ?_
  refine AK ?_
  refine AB ?_
  refine A2 awake53_spec rfl rfl rdZ rfl rfl ?_
  rintro _ rfl
  refine AK ?_
  refine AC ?_
  refine AE ?_
  exact AI (res1 rfl rfl) rsubZ selZ ⟨rfl, rfl⟩
end Go.Proofs.YthdoegkjifgegaaGreat
/- The rows: each law, for every input. -/
namespace Go.Proofs.YthdoegkjifgegaaGreat
open Go.Eng Go.Step
set_option maxRecDepth 100000
set_option maxHeartbeats 4000000
open Go.ChangeShapes Go.WideShapes Go.ChangeAt Go.RowKit

set_option maxRecDepth 100000 in
theorem expandedMonotone_lifted (os : Os) (started : os.Started) (H : Type) (enc : TypeId × Value → H) :
  ReturnsInHanded {} Tryz.checked os 7 .any (Rows.expandedMonotoneSpec.pre6 enc Tryz.prog Tryz.f7 Rows.expandedMonotoneRow.domain false) (Rows.expandedMonotoneSpec.post enc Tryz.prog Tryz.f7 false true false false) := by
 refine returnsInHanded_of_change (C := Tryz.checked) Tryz.own started (by kernel_rfl) Tryz.func7
  (ChangeSpec.witness6 (enc := enc) (C := Tryz.checked) false ⟨#[], #[.agg #[.slice none 0 0, .slice none 0 0, .slice none 0 0, .slice none 0 0], .agg #[.int .i64 0, .int .i64 0, .int .i64 0, .int .i64 0, .int .i64 0], .agg #[.int .i64 0, .int .i64 0, .int .i64 0, .int .i64 0], .agg #[.int .i64 0, .int .i64 0, .int .i64 0, .int .i64 0, .int .i64 0], .int .u8 0], []⟩ 8 (by kernel_rfl) (by kernel_rfl) (by kernel_rfl) (by kernel_rfl)) ?_
 intro W base args ds gs before hval0 hW hcnd _
 have hval : ∀ (j : Nat) t v, Tryz.f7.params[j]? = some t → args[j]? = some v → Value.okWide Tryz.prog W .any base t v := hval0
 have hW' := hW
 obtain ⟨p, q, hA0, hV, rfl, hfz, hnd⟩ := hW
 have hA : DataW.TrodAll enc Tryz.prog W 0 (fun _ => true) true Tryz.f7.params.toList args.toList ds p := hA0
 rw [Tryz.params7] at hA hval
 obtain ⟨v0, vs0, d0, ds0, p0, q0, hargs, rfl, rfl, h0, r0⟩ := trodAll_cons hA
 obtain ⟨v1, vs1, d1, ds1, p1, q1, rfl, rfl, rfl, h1, r1⟩ := trodAll_cons r0
 obtain ⟨v2, vs2, d2, ds2, p2, q2, rfl, rfl, rfl, h2, r2⟩ := trodAll_cons r1
 obtain ⟨v3, vs3, d3, ds3, p3, q3, rfl, rfl, rfl, h3, r3⟩ := trodAll_cons r2
 obtain ⟨v4, vs4, d4, ds4, p4, q4, rfl, rfl, rfl, h4, r4⟩ := trodAll_cons r3
 obtain ⟨rfl, rfl, rfl⟩ := trodAll_nil r4
 obtain rfl : args = #[v0, v1, v2, v3, v4] := by cases args; simp_all
 obtain ⟨rfl, rfl⟩ := trodVars_none hV
 have lt0 : ∀ x ∈ p0, x.block < W.heap.size := by obtain ⟨m, hm⟩ := h0; exact DataW.trod_lt m _ _ _ hm
 have lt1 : ∀ x ∈ p1, x.block < W.heap.size := by obtain ⟨m, hm⟩ := h1; exact DataW.trod_lt m _ _ _ hm
 have lt2 : ∀ x ∈ p2, x.block < W.heap.size := by obtain ⟨m, hm⟩ := h2; exact DataW.trod_lt m _ _ _ hm
 have lt3 : ∀ x ∈ p3, x.block < W.heap.size := by obtain ⟨m, hm⟩ := h3; exact DataW.trod_lt m _ _ _ hm
 have lt4 : ∀ x ∈ p4, x.block < W.heap.size := by obtain ⟨m, hm⟩ := h4; exact DataW.trod_lt m _ _ _ hm
 have hlaw : Ans Tryz.prog (fv 7) [v0, v1, v2, v3, v4] [heapPH W] (fun v => v = .bool true) := by
  obtain ⟨pq, pc, pb, ph, kq, kc, kb, kh, qs, cs, bs, hs, rfl, hT⟩ := tables_of (hval 0 _ v0 rfl rfl) (RdT.of h0)
  obtain ⟨d, rfl, id0, id1, id2, id3, id4⟩ := demand_of (hval 1 _ v1 rfl rfl) (RdT.of h1)
  obtain ⟨x, rfl, ix0, ix1, ix2, ix3⟩ := booking_of (hval 2 _ v2 rfl rfl) (RdT.of h2)
  obtain ⟨y, rfl, iy0, iy1, iy2, iy3, iy4⟩ := hold_of (hval 3 _ v3 rfl rfl) (RdT.of h3)
  obtain ⟨z, rfl, _, _, wz⟩ := open_int Tryz.underlying5 (hval 4 _ v4 rfl rfl) h4
  exact (monotone_law hT d x y z (wf_u8 wz)).rsub (fun _ h => by simpa using h)
 refine (law_calls Tryz.func7 rfl rfl hlaw).mono fun e W' ⟨he, bel⟩ => ?_
 subst he
 exact ⟨_, rfl, _, _, _, [], _, [], hW', trodAll_mk1 (shut_bool Tryz.underlying4 _), (trodAll_cons_mk (Below.trod Tryz.laidOut (by kernel_rfl) (of_decide_eq_true (by kernel_rfl)) h0 bel lt0) (trodAll_cons_mk (Below.trod Tryz.laidOut (by kernel_rfl) (of_decide_eq_true (by kernel_rfl)) h1 bel lt1) (trodAll_cons_mk (Below.trod Tryz.laidOut (by kernel_rfl) (of_decide_eq_true (by kernel_rfl)) h2 bel lt2) (trodAll_cons_mk (Below.trod Tryz.laidOut (by kernel_rfl) (of_decide_eq_true (by kernel_rfl)) h3 bel lt3) (trodAll_cons_mk (Below.trod Tryz.laidOut (by kernel_rfl) (of_decide_eq_true (by kernel_rfl)) h4 bel lt4) trodAll_mk0))))), rfl, bel.frame _, fun h => by cases h⟩
theorem expandedMonotone_holds : Rows.ExpandedMonotoneSaid :=
 OpenClaim.holds_of_wide 7 Tryz.f7 rfl rfl rfl rfl rfl rfl rfl ⟨rfl, rfl, rfl, rfl, rfl⟩ rfl rfl rfl rfl rfl (by kernel_rfl) Tryz.func7 (by kernel_rfl)
  (of_decide_eq_true (by kernel_rfl)) (by unfold Func.isWrapper; first | (rw [if_pos (by decide +kernel)]; kernel_rfl) | (rw [if_neg (by decide +kernel)]; exact ⟨rfl, rfl⟩))
  (fun os started H enc _ => expandedMonotone_lifted os started H enc)
end Go.Proofs.YthdoegkjifgegaaGreat
