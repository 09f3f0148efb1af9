/- Texts of this proof, one after the other; no conditions. -/
import Derived.Test.YtnbihndlbopmeaaWB7
import Derived.Test.YtnbihndlbopmeaaWB3
import Derived.Test.YtnbihndlbopmeaaWB4
set_option linter.all false
/- One more hold, of the program and of the reference. -/
namespace Go.Proofs.Ytnbihndlbopmeaa
open Go.Eng Go.Step
set_option maxRecDepth 100000
set_option maxHeartbeats 4000000

set_option maxHeartbeats 16000000 in
theorem bsearchH_spec (ρ : PH) (v : Value) (l : List Hd) (h : Hd) (hv : HdAt ρ v l) (hs : SortH l) (hl : l.length ≤ 1000) :
    Ans Try.prog (fv 48) [v, .agg #[int h.n, int h.a, int h.b, int h.s, int h.k], fv 49] [ρ] (fun r => ∃ (k : Nat) (bo : Bool), k ≤ l.length ∧ (∀ x ∈ l.take k, cmpHd x h < 0) ∧ (∀ x ∈ l.drop k, 0 ≤ cmpHd x h) ∧ r = .tuple #[int k, .bool bo]) := by
  obtain ⟨q, c, rfl, hr⟩ := hv.val encH_len
  have hgi := List.pairwise_iff_getElem.1 hs
  refine spec_in (cap := []) Try.func48 rfl rfl Try.ntmps48 rfl (by (repeat (first | exact EnvA.nil EnvI.nil | apply EnvA.cons | apply EnvA.nil | exact EnvI.nil | apply EnvI.cons)); first | done | fail) (fun N β => ?_)
  refine jk_seq ?_
  refine jk_region ?_
  refine jk_op (l_boxS rfl) rfl rfl rfl ?_
  rintro _ _ ⟨b4, rfl, rfl⟩
  refine jk_freeze (ρ := sng b4 _) takeZ ?_
  have c0 : RdN (sng b4 (.cells #[int h.n, int h.a, int h.b, int h.s, int h.k] 47 (0, 0))) b4 0 [int h.n, int h.a, int h.b, int h.s, int h.k] := rdN_sng (vs := [int h.n, int h.a, int h.b, int h.s, int h.k])
  refine zq_assign ?_
  refine zq_assign ?_
  refine jk_nil ?_
  refine jk_seq ?_
  refine jk_region ?_
  refine zq_move ?_
  refine zq_len ?_
  refine zq_assign ?_
  refine jk_nil ?_
  refine jk_seq ?_
  refine jk_region ?_
  refine zq_move ?_
  refine zq_assign ?_
  refine zq_assign ?_
  refine jk_nil ?_
  refine jk_seq ?_
  refine jk_block ?_
  refine jk_loop [0, 2, 4, 8] (X := Nat × Nat) (0, l.length) (fun x => x.1 ≤ x.2 ∧ x.2 ≤ l.length ∧ (∀ y ∈ l.take x.1, cmpHd y h < 0) ∧ (∀ y ∈ l.drop x.2, 0 ≤ cmpHd y h)) (fun x => [(9, int x.1), (10, int x.2)]) (fun _ => []) (fun x => x.2 - x.1)
    pickZ ⟨by dsimp only; omega, by dsimp only; omega, by simp, by simp⟩ covZ selZ ?_
  rintro ⟨i, j⟩ ⟨h1, h2, h3, h4⟩
  dsimp only at h1 h2 h3 h4 ⊢
  by_cases hlt : i < j
  · have hh : (i + j) / 2 < l.length := by omega
    have hx := List.getElem?_eq_getElem hh
    obtain ⟨b', o, rfl, hRd, _⟩ := hdRow5 hr hx
    have hcm := compare_spec l[(i + j) / 2] h
    have hlow : cmpHd l[(i + j) / 2] h < 0 → ∀ y ∈ l.take ((i + j) / 2 + 1), cmpHd y h < 0 := fun hc y hy => by
      obtain ⟨u, hu, rfl⟩ := List.getElem_of_mem hy
      rw [List.length_take] at hu
      rw [List.getElem_take]
      by_cases e : u = (i + j) / 2
      · subst e; exact hc
      · exact cmpHd_lt_trans (hgi u ((i + j) / 2) (by omega) hh (by omega)) hc
    have hup : 0 ≤ cmpHd l[(i + j) / 2] h → ∀ y ∈ l.drop ((i + j) / 2), 0 ≤ cmpHd y h := fun hc y hy => by
      obtain ⟨u, hu, rfl⟩ := List.getElem_of_mem hy
      rw [List.length_drop] at hu
      rw [List.getElem_drop]
      by_cases e : u = 0
      · subst e; simpa using hc
      · by_cases d : cmpHd l[(i + j) / 2 + u] h < 0
        · have := cmpHd_lt_trans (hgi ((i + j) / 2) ((i + j) / 2 + u) hh (by omega) (by omega)) d
          omega
        · omega
    generalize l[(i + j) / 2] = x at hRd hcm hlow hup
    refine jk_seq ?_
    refine jk_seq ?_
    refine jk_region ?_
    refine zq_move ?_
    refine zq_move ?_
    refine zq_lt ?_
    refine jk_nil ?_
    refine jk_if_t rfl ?_
    refine jk_skip ?_
    refine jk_block ?_
    refine jk_seq ?_
    refine jk_region ?_
    refine zq_move ?_
    refine zq_move ?_
    refine zq_add ?_
    rw [show (i : Int) + (j : Int) = ((i + j : Nat) : Int) from by omega]
    focus ((refine' jk_q _ rfl rfl rfl _; rotate_left; (apply q_toU; exact rfl; exact rfl; exact rfl; omega)))
    focus ((refine' jk_q _ rfl rfl rfl _; rotate_left; (apply q_half64; exact rfl; exact rfl; decide)))
    refine zq_toInt ?_
    refine zq_assign ?_
    refine jk_nil ?_
    refine jk_seq ?_
    refine jk_draw (.q 0 (.q 1 (.q 2 (.q 3 (.q 4 (.q 5 (.l 6 .e (.q 7 .nil)))))))) [] rfl (by kernel_rfl) Sel.nil ?_
    refine zd_move ?_
    refine zd_move ?_
    refine zd_move ?_
    refine zd_idxN ?_
    refine zd_loadS ?_
    refine zd_loadS ?_
    refine dj_l (a_call rfl hcm rfl rfl rdZ rfl rfl ?_)
    rintro _ rfl
    by_cases hc : cmpHd x h < 0
    · have hnew := hlow hc
      generalize cmpHd x h = z at hc hlow hup
      refine zd_lt ?_
      refine dj_end ?_
      refine jk_if_t rfl ?_
      refine jk_region ?_
      refine zq_move ?_
      refine zq_inc ?_
      refine zq_assign ?_
      refine jk_nil ?_
      refine jk_blk ?_
      exact jk_round ((i + j) / 2 + 1, j) ⟨by dsimp only; omega, h2, hnew, h4⟩ (by dsimp only; omega) covZ selZ
    · have hnew := hup (by omega)
      generalize cmpHd x h = z at hc hlow hup
      refine zd_ltF ?_
      refine dj_end ?_
      refine jk_if_f rfl ?_
      refine jk_region ?_
      refine zq_move ?_
      refine zq_assign ?_
      refine jk_nil ?_
      refine jk_blk ?_
      exact jk_round (i, (i + j) / 2) ⟨by dsimp only; omega, by dsimp only; omega, h3, hnew⟩ (by dsimp only; omega) covZ selZ
  · have e : i = j := by omega
    subst e
    by_cases hlt2 : i < l.length
    · have hx := List.getElem?_eq_getElem hlt2
      obtain ⟨b', o, rfl, hRd, _⟩ := hdRow5 hr hx
      have hcm := compare_spec l[i] h
      generalize l[i] = x at hRd hcm
      refine jk_seq ?_
      refine jk_seq ?_
      refine jk_region ?_
      refine zq_move ?_
      refine zq_move ?_
      refine zq_ltF ?_
      refine jk_nil ?_
      refine jk_if_f rfl ?_
      refine jk_exit rfl ?_
      refine jk_seq ?_
      refine jk_draw (.q 0 (.q 1 (.q 2 (.q 3 (.q 4 (.q 5 (.q 6 (.q 7 (.q 8 (.q 9 (.q 10 (.l 11 .e (.q 12 (.q 13 (.q 14 (.q 15 .nil)))))))))))))))) [] rfl (by kernel_rfl) Sel.nil ?_
      refine zd_move ?_
      refine zd_move ?_
      refine zd_move ?_
      refine zd_lt ?_
      refine zd_move ?_
      refine zd_move ?_
      refine zd_move ?_
      refine zd_move ?_
      refine zd_idxN ?_
      refine zd_loadS ?_
      refine zd_loadS ?_
      refine dj_l (a_call rfl hcm rfl rfl rdZ rfl rfl ?_)
      rintro _ rfl
      generalize cmpHd x h = z
      by_cases he : z = 0
      · refine zd_eq ?_
        refine zd_pick_t ?_
        refine zd_assign ?_
        refine zd_assign ?_
        refine dj_end ?_
        skip
        exact jk_ret_any (res2 rfl rfl rfl) (by (repeat (first | exact rs_nil | (refine rs_cons ?_ ?_; (focus ((repeat (first | exact .here | apply Mem.there | apply Take.there)); first | done | fail))) | exact fun ρ hρ => hρ | (intro ρ hρ; repeat (first | exact hρ | refine List.mem_cons_of_mem _ ?_)))); first | done | fail) selZ ⟨rfl, i, true, h2, h3, h4, rfl⟩
      · refine zd_eqF ?_
        refine zd_pick_t ?_
        refine zd_assign ?_
        refine zd_assign ?_
        refine dj_end ?_
        skip
        exact jk_ret_any (res2 rfl rfl rfl) (by (repeat (first | exact rs_nil | (refine rs_cons ?_ ?_; (focus ((repeat (first | exact .here | apply Mem.there | apply Take.there)); first | done | fail))) | exact fun ρ hρ => hρ | (intro ρ hρ; repeat (first | exact hρ | refine List.mem_cons_of_mem _ ?_)))); first | done | fail) selZ ⟨rfl, i, false, h2, h3, h4, rfl⟩
    · refine jk_seq ?_
      refine jk_seq ?_
      refine jk_region ?_
      refine zq_move ?_
      refine zq_move ?_
      refine zq_ltF ?_
      refine jk_nil ?_
      refine jk_if_f rfl ?_
      refine jk_exit rfl ?_
      refine jk_seq ?_
      refine jk_draw (.q 0 (.q 1 (.q 2 (.q 3 (.q 4 (.q 5 (.q 6 (.q 7 (.q 8 (.q 9 (.q 10 (.q 11 (.q 12 (.q 13 (.q 14 (.q 15 .nil)))))))))))))))) [] rfl (by kernel_rfl) Sel.nil ?_
      refine zd_move ?_
      refine zd_move ?_
      refine zd_move ?_
      refine zd_ltF ?_
      refine zd_move ?_
      refine dj_pass rfl rfl rfl rfl rfl ?_
      refine dj_pass rfl rfl rfl rfl rfl ?_
      refine dj_pass rfl rfl rfl rfl rfl ?_
      refine dj_pass rfl rfl rfl rfl rfl ?_
      refine dj_pass rfl rfl rfl rfl rfl ?_
      refine dj_pass rfl rfl rfl rfl rfl ?_
      refine dj_pass rfl rfl rfl rfl rfl ?_
      refine dj_pass rfl rfl rfl rfl rfl ?_
      refine zd_pick_f ?_
      refine zd_assign ?_
      refine zd_assign ?_
      refine dj_end ?_
      skip
      exact jk_ret_any (res2 rfl rfl rfl) (by (repeat (first | exact rs_nil | (refine rs_cons ?_ ?_; (focus ((repeat (first | exact .here | apply Mem.there | apply Take.there)); first | done | fail))) | exact fun ρ hρ => hρ | (intro ρ hρ; repeat (first | exact hρ | refine List.mem_cons_of_mem _ ?_)))); first | done | fail) selZ ⟨rfl, i, false, h2, h3, h4, rfl⟩
theorem chkH_sort {qs : List Int} {cs : List Ct} {l : List Hd} (h : chkH qs cs l = 0) : SortH l ∧ fitB qs l = true ∧ ∀ (j : Nat) (q : Int), qs[j]? = some q → 0 ≤ q ∧ q ≤ 1073741824 := by
  have hp := chkH_pl h
  refine ⟨?_, ?_, (chkPl_quo hp).2⟩
  · refine sortH_of (nq := qs.length) ?_
    unfold chkH at h
    rw [if_neg (by simpa using hp)] at h
    by_cases c : 512 < l.length
    · rw [if_pos c] at h; omega
    · rw [if_neg c] at h
      by_cases d : firstE (hdE qs.length l) l.length = 0
      · exact d
      · rw [if_pos d] at h; exact h
  · unfold chkH at h
    rw [if_neg (by simpa using hp)] at h
    by_cases c : 512 < l.length
    · rw [if_pos c] at h; omega
    · rw [if_neg c] at h
      by_cases d : firstE (hdE qs.length l) l.length = 0
      · rw [if_neg (by simpa using d)] at h
        by_cases e : fitB qs l = true
        · exact e
        · rw [if_neg e] at h; omega
      · rw [if_pos d] at h; omega
theorem insH_ok {nq : Nat} {l : List Hd} {h : Hd} (hok : ∀ x ∈ l, okHd nq x) (hh : okHd nq h) : ∀ x ∈ insH l h, okHd nq x := fun x hx => by
  rcases (insW_mem _ l h x).1 hx with rfl | hx
  · exact hh
  · exact hok x hx
theorem insH_len (l : List Hd) (h : Hd) : (insH l h).length = l.length + 1 := insW_len _ _ _
set_option maxHeartbeats 16000000 in
theorem add28_spec (ρ τ σ : PH) (pq pc : Option Addr) (kq kc : Nat) (qs : List Int) (cs : List Ct) (v : Value) (l : List Hd) (h : Hd) (hq : IntsAt ρ (.slice pq qs.length kq) qs) (hc : CtAt τ (.slice pc cs.length kc) cs) (hcap : cs.length ≤ kc) (lq : qs.length ≤ 9223372036854775807) (lc : cs.length ≤ 9223372036854775807) (hv : HdAt σ v l) (hl : l.length ≤ 9223372036854775807) :
    Makes Try.prog (fv 23) [.agg #[.slice pq qs.length kq, .slice pc cs.length kc], v, .agg #[int h.n, int h.a, int h.b, int h.s, int h.k]] [ρ, τ, σ] (fun r σ' => ∃ u, r = .tuple #[u, int (addR qs cs l h).2] ∧ OwnS 47 5 u (addR qs cs l h).1.length ((addR qs cs l h).1.flatMap encH) σ') := by
  have hv2 := hv
  obtain ⟨q, c, rfl, hr⟩ := hv.val encH_len
  obtain ⟨_, _, e, hrq⟩ := hq.val Eng.encI_len
  simp only [Value.slice.injEq] at e
  obtain ⟨rfl, _, rfl⟩ := e
  refine spec_in (cap := []) Try.func23 rfl rfl Try.ntmps23 rfl (by (repeat (first | exact EnvA.nil EnvI.nil | apply EnvA.cons | apply EnvA.nil | exact EnvI.nil | apply EnvI.cons)); first | done | fail) (fun N β => ?_)
  refine jk_emp ?_
  refine jk_seq ?_
  refine jk_region ?_
  refine jk_op (l_boxS rfl) rfl rfl rfl ?_
  rintro _ _ ⟨b1, rfl, rfl⟩
  refine jk_freeze (ρ := sng b1 _) takeZ ?_
  refine jk_op (l_boxS rfl) rfl rfl rfl ?_
  rintro _ _ ⟨b2, rfl, rfl⟩
  refine jk_freeze (ρ := sng b2 _) takeZ ?_
  have c1 : RdN (sng b1 (.cells #[.slice pq qs.length kq, .slice pc cs.length kc] 25 (0, 0))) b1 0 [.slice pq qs.length kq, .slice pc cs.length kc] := rdN_sng (vs := [.slice pq qs.length kq, .slice pc cs.length kc])
  have c10 : rdc (sng b1 (.cells #[.slice pq qs.length kq, .slice pc cs.length kc] 25 (0, 0))) b1 0 = some (.slice pq qs.length kq) := by rw [rdc_sng]; rfl
  have c2 : RdN (sng b2 (.cells #[int h.n, int h.a, int h.b, int h.s, int h.k] 47 (0, 0))) b2 0 [int h.n, int h.a, int h.b, int h.s, int h.k] := rdN_sng (vs := [int h.n, int h.a, int h.b, int h.s, int h.k])
  refine zq_assign ?_
  refine zq_assign ?_
  refine jk_nil ?_
  refine jk_seq ?_
  refine jk_seq ?_
  refine jk_region ?_
  refine zq_loadS ?_
  refine zq_move ?_
  refine jk_call (check28_spec ρ τ σ pq pc kq kc qs cs _ l hq hc hcap lq lc hv2 hl) rfl rfl rdZ rfl rfl ?_
  rintro _ rfl
  by_cases h0 : chkH qs cs l = 0
  rotate_left
  · have hR : addR qs cs l h = ([], 1) := by unfold addR; rw [if_pos h0]
    rw [hR]
    generalize chkH qs cs l = z at h0
    refine zq_ne ?_
    refine jk_nil ?_
    refine jk_if_t rfl ?_
    refine jk_seq ?_
    refine jk_region ?_
    refine zq_assign ?_
    refine zq_assign ?_
    refine jk_nil ?_
    exact jk_ret_any (res2 rfl rfl rfl) (by (repeat (first | exact rs_nil | (refine rs_cons ?_ ?_; (focus ((repeat (first | exact .here | apply Mem.there | apply Take.there)); first | done | fail))) | exact fun ρ hρ => hρ | (intro ρ hρ; repeat (first | exact hρ | refine List.mem_cons_of_mem _ ?_)))); first | done | fail) selZ ⟨emp, ⟨_, rfl, OwnS.nil _ _⟩, rfl⟩
  rw [h0]
  obtain ⟨hok, hlen, hql⟩ := chkH_ok h0
  obtain ⟨hsort, hfit, hquo⟩ := chkH_sort h0
  refine zq_neF ?_
  refine jk_nil ?_
  refine jk_if_f rfl ?_
  refine jk_skip ?_
  refine jk_seq ?_
  refine jk_seq ?_
  refine jk_region ?_
  refine zq_loadS ?_
  refine zq_loadS ?_
  refine jk_call (valid28_spec (.slice pq qs.length kq) (.slice pc cs.length kc) ρ qs kq pq h rfl rfl) rfl rfl rdZ rfl rfl ?_
  rintro _ rfl
  by_cases hh : okHd qs.length h
  rotate_left
  · have hR : addR qs cs l h = ([], 2) := by unfold addR; rw [if_neg (fun h => h h0), if_pos hh]
    rw [hR, decide_eq_false hh]
    refine zq_not ?_
    refine jk_nil ?_
    refine jk_if_t rfl ?_
    refine jk_seq ?_
    refine jk_region ?_
    refine zq_assign ?_
    refine zq_assign ?_
    refine jk_nil ?_
    exact jk_ret_any (res2 rfl rfl rfl) (by (repeat (first | exact rs_nil | (refine rs_cons ?_ ?_; (focus ((repeat (first | exact .here | apply Mem.there | apply Take.there)); first | done | fail))) | exact fun ρ hρ => hρ | (intro ρ hρ; repeat (first | exact hρ | refine List.mem_cons_of_mem _ ?_)))); first | done | fail) selZ ⟨emp, ⟨_, rfl, OwnS.nil _ _⟩, rfl⟩
  rw [decide_eq_true hh]
  by_cases hfull : l.length = 512
  · have hR : addR qs cs l h = ([], 4) := by unfold addR; rw [if_neg (fun h => h h0), if_neg (fun h => h hh), if_pos hfull]
    rw [hR]
    refine zq_not ?_
    refine jk_nil ?_
    refine jk_if_f rfl ?_
    refine jk_skip ?_
    refine jk_seq ?_
    refine jk_seq ?_
    refine jk_region ?_
    refine zq_move ?_
    refine zq_len ?_
    refine zq_eq ?_
    refine jk_nil ?_
    refine jk_if_t rfl ?_
    refine jk_seq ?_
    refine jk_region ?_
    refine zq_assign ?_
    refine zq_assign ?_
    refine jk_nil ?_
    exact jk_ret_any (res2 rfl rfl rfl) (by (repeat (first | exact rs_nil | (refine rs_cons ?_ ?_; (focus ((repeat (first | exact .here | apply Mem.there | apply Take.there)); first | done | fail))) | exact fun ρ hρ => hρ | (intro ρ hρ; repeat (first | exact hρ | refine List.mem_cons_of_mem _ ?_)))); first | done | fail) selZ ⟨emp, ⟨_, rfl, OwnS.nil _ _⟩, rfl⟩
  refine zq_not ?_
  refine jk_nil ?_
  refine jk_if_f rfl ?_
  refine jk_skip ?_
  refine jk_seq ?_
  refine jk_seq ?_
  refine jk_region ?_
  refine zq_move ?_
  refine zq_len ?_
  refine zq_eqF ?_
  refine jk_nil ?_
  refine jk_if_f rfl ?_
  refine jk_skip ?_
  refine jk_seq ?_
  refine jk_region ?_
  refine zq_move ?_
  refine zq_loadS ?_
  refine jk_call (bsearchH_spec σ _ l h hv2 hsort (by omega)) rfl rfl rdZ rfl rfl ?_
  rintro _ ⟨k, bo, hk, hk1, hk2, rfl⟩
  have hins : insL l k h = insH l h := insL_W (fun x hx => cmpHd_anti hx) l k hk1 hk2
  have hcl := cloneH_spec σ (.slice q l.length c) l hv2 (by omega)
  refine zq_move ?_
  refine zq_extract ?_
  refine zq_extract ?_
  refine zq_assign ?_
  refine zq_assign ?_
  refine jk_nil ?_
  refine jk_seq ?_
  have hn0 : 0 ≤ h.n ∧ h.n < qs.length := hh.1
  obtain ⟨nn, hnn⟩ : ∃ nn : Nat, h.n = nn := ⟨h.n.toNat, by omega⟩
  have hnl : nn < qs.length := by omega
  have hQ := List.getElem?_eq_getElem hnl
  obtain ⟨bq, oq, rfl, gq⟩ := hrq.int hQ
  have hQb := hquo nn _ hQ
  have hgd : qs.getD h.n.toNat 0 = qs[nn] := by rw [hnn, List.getD_eq_getElem?_getD]; simp [hQ]
  have hfin := fit_ins hok hh hfit (by rw [hgd]; exact hQb.1)
  rw [hgd] at hfin
  have hlev := fun (σ' : PH) (u : Value) (hu : HdAt σ' u (insH l h)) => levels_spec σ' u (insH l h) h.n qs.length hu (insH_ok hok hh) (by rw [insH_len]; omega)
  have hll := lvH_len (insH l h) h.n
  rw [insH_len] at hll
  rw [hnn] at hlev hfin hll
  have c20 : rdc (sng b2 (.cells #[int h.n, int h.a, int h.b, int h.s, int h.k] 47 (0, 0))) b2 0 = some (int nn) := by rw [rdc_sng, ← hnn]; rfl
  refine jk_draw (.q 0 (.q 2 (.q 3 (.l2 1 .e (.l 4 .e (.l 5 .b (.q 6 .nil))) 4 .e (.l 1 .e (.l 5 .b (.q 6 .nil))))))) [] rfl (by kernel_rfl) Sel.nil ?_
  repeat' (first
    | (refine zd_move ?_)
    | (refine zd_loadS ?_)
    | (refine dj_l2 ?_ ?_)
    | (refine zE_buildSlice ?_; rintro _ _ ⟨b, rfl, rfl⟩)
    | fail)
  · refine a_callM rfl hcl rfl rfl rdZ rfl rfl ?_
    rintro ucl _ ⟨σc, hOc, rfl⟩
    refine ze_buildSlice ?_; rintro _ _ ⟨b, rfl, rfl⟩
    refine dj_l (a_callH rfl (insertH_spec σc b ucl l k h hOc hk (by omega)) rfl rfl (by (repeat (first | exact Takes.nil | (apply Takes.cons; exact (by (repeat (first | exact .here | apply Take.there)); first | done | fail)))); first | done | fail) rdZ rfl rfl (fun _ _ _ w hw => hw.sel Sel.nil) ?_)
    rintro ui _ ⟨σi, hOi, rfl⟩
    rw [hins] at hOi
    refine zd_assign ?_
    refine dj_end ?_
    refine jk_seq ?_
    refine jk_seq ?_
    refine jk_draw (.q 0 (.q 1 (.q 2 (.q 5 (.q 6 (.q 7 (.q 8 (.q 9 (.q 10 (.l 3 .e (.l 4 .e (.q 11 .nil)))))))))))) [] rfl (by kernel_rfl) Sel.nil ?_
    refine zd_move ?_
    refine zd_fld0 ?_
    refine zd_load ?_
    refine zd_fld0 ?_
    refine zd_load ?_
    refine zd_fld0 ?_
    refine zd_load ?_
    refine zd_idx1 ?_
    refine zd_load ?_
    refine dj_l (a_callM rfl (hlev σi ui hOi.at) rfl rfl rdZ rfl rfl ?_)
    rintro ul _ ⟨σl, hOl, rfl⟩
    refine dj_l (a_call rfl (most_spec σl ul _ hOl.at (by omega)) rfl rfl rdZ rfl rfl ?_)
    rintro _ rfl
    by_cases hm : mostL (lvH (insH l h) nn) ≤ qs[nn]
    · rw [decide_eq_true hm] at hfin
      have hR : addR qs cs l h = (insH l h, 0) := by unfold addR; rw [if_neg (fun h => h h0), if_neg (fun h => h hh), if_neg hfull, if_pos hfin]
      rw [hR]
      generalize mostL (lvH (insH l h) nn) = mo at hm
      generalize qs[nn] = Q at hm gq
      refine zd_gtF ?_
      refine dj_end ?_
      refine jk_if_f rfl ?_
      refine jk_skip ?_
      refine jk_seq ?_
      refine jk_region ?_
      refine zq_move ?_
      refine zq_assign ?_
      refine zq_assign ?_
      refine jk_nil ?_
      exact jk_ret_any (res2 rfl rfl rfl) (by (repeat (first | exact rs_nil | (refine rs_cons ?_ ?_; (focus ((repeat (first | exact .here | apply Mem.there | apply Take.there)); first | done | fail))) | exact fun ρ hρ => hρ | (intro ρ hρ; repeat (first | exact hρ | refine List.mem_cons_of_mem _ ?_)))); first | done | fail) selZ ⟨σi, ⟨_, rfl, hOi⟩, rfl⟩
    · rw [decide_eq_false hm] at hfin
      have hR : addR qs cs l h = ([], 15) := by unfold addR; rw [if_neg (fun h => h h0), if_neg (fun h => h hh), if_neg hfull, hfin]; rfl
      rw [hR]
      generalize mostL (lvH (insH l h) nn) = mo at hm
      generalize qs[nn] = Q at hm gq
      refine zd_gt ?_
      refine dj_end ?_
      refine jk_if_t rfl ?_
      refine jk_seq ?_
      refine jk_region ?_
      refine zq_assign ?_
      refine zq_assign ?_
      refine jk_nil ?_
      exact jk_ret_any (res2 rfl rfl rfl) (by (repeat (first | exact rs_nil | (refine rs_cons ?_ ?_; (focus ((repeat (first | exact .here | apply Mem.there | apply Take.there)); first | done | fail))) | exact fun ρ hρ => hρ | (intro ρ hρ; repeat (first | exact hρ | refine List.mem_cons_of_mem _ ?_)))); first | done | fail) selZ ⟨emp, ⟨_, rfl, OwnS.nil _ _⟩, rfl⟩
  · refine dj_l (a_callM rfl hcl rfl rfl rdZ rfl rfl ?_)
    rintro ucl _ ⟨σc, hOc, rfl⟩
    refine dj_l (a_callH rfl (insertH_spec σc b ucl l k h hOc hk (by omega)) rfl rfl (by (repeat (first | exact Takes.nil | (apply Takes.cons; exact (by (repeat (first | exact .here | apply Take.there)); first | done | fail)))); first | done | fail) rdZ rfl rfl (fun _ _ _ w hw => hw.sel Sel.nil) ?_)
    rintro ui _ ⟨σi, hOi, rfl⟩
    rw [hins] at hOi
    refine zd_assign ?_
    refine dj_end ?_
    refine jk_seq ?_
    refine jk_seq ?_
    refine jk_draw (.q 0 (.q 1 (.q 2 (.q 5 (.q 6 (.q 7 (.q 8 (.q 9 (.q 10 (.l 3 .e (.l 4 .e (.q 11 .nil)))))))))))) [] rfl (by kernel_rfl) Sel.nil ?_
    refine zd_move ?_
    refine zd_fld0 ?_
    refine zd_load ?_
    refine zd_fld0 ?_
    refine zd_load ?_
    refine zd_fld0 ?_
    refine zd_load ?_
    refine zd_idx1 ?_
    refine zd_load ?_
    refine dj_l (a_callM rfl (hlev σi ui hOi.at) rfl rfl rdZ rfl rfl ?_)
    rintro ul _ ⟨σl, hOl, rfl⟩
    refine dj_l (a_call rfl (most_spec σl ul _ hOl.at (by omega)) rfl rfl rdZ rfl rfl ?_)
    rintro _ rfl
    by_cases hm : mostL (lvH (insH l h) nn) ≤ qs[nn]
    · rw [decide_eq_true hm] at hfin
      have hR : addR qs cs l h = (insH l h, 0) := by unfold addR; rw [if_neg (fun h => h h0), if_neg (fun h => h hh), if_neg hfull, if_pos hfin]
      rw [hR]
      generalize mostL (lvH (insH l h) nn) = mo at hm
      generalize qs[nn] = Q at hm gq
      refine zd_gtF ?_
      refine dj_end ?_
      refine jk_if_f rfl ?_
      refine jk_skip ?_
      refine jk_seq ?_
      refine jk_region ?_
      refine zq_move ?_
      refine zq_assign ?_
      refine zq_assign ?_
      refine jk_nil ?_
      exact jk_ret_any (res2 rfl rfl rfl) (by (repeat (first | exact rs_nil | (refine rs_cons ?_ ?_; (focus ((repeat (first | exact .here | apply Mem.there | apply Take.there)); first | done | fail))) | exact fun ρ hρ => hρ | (intro ρ hρ; repeat (first | exact hρ | refine List.mem_cons_of_mem _ ?_)))); first | done | fail) selZ ⟨σi, ⟨_, rfl, hOi⟩, rfl⟩
    · rw [decide_eq_false hm] at hfin
      have hR : addR qs cs l h = ([], 15) := by unfold addR; rw [if_neg (fun h => h h0), if_neg (fun h => h hh), if_neg hfull, hfin]; rfl
      rw [hR]
      generalize mostL (lvH (insH l h) nn) = mo at hm
      generalize qs[nn] = Q at hm gq
      refine zd_gt ?_
      refine dj_end ?_
      refine jk_if_t rfl ?_
      refine jk_seq ?_
      refine jk_region ?_
      refine zq_assign ?_
      refine zq_assign ?_
      refine jk_nil ?_
      exact jk_ret_any (res2 rfl rfl rfl) (by (repeat (first | exact rs_nil | (refine rs_cons ?_ ?_; (focus ((repeat (first | exact .here | apply Mem.there | apply Take.there)); first | done | fail))) | exact fun ρ hρ => hρ | (intro ρ hρ; repeat (first | exact hρ | refine List.mem_cons_of_mem _ ?_)))); first | done | fail) selZ ⟨emp, ⟨_, rfl, OwnS.nil _ _⟩, rfl⟩
end Go.Proofs.Ytnbihndlbopmeaa
/- The example of the chapter; the law on free spans. -/
namespace Go.Proofs.Ytnbihndlbopmeaa
open Go.Eng Go.Step
set_option maxRecDepth 100000
set_option maxHeartbeats 4000000

def ex28 : List Hd := [⟨0, 10, 20, 60, 0⟩, ⟨0, 15, 30, 30, 0⟩]
theorem ex28_hts : hts ex28 0 = [10, 15, 20, 30] := by
  obtain ⟨h1, h2⟩ := hts_sa ex28 0
  refine SA.unique h1 (by simp [SA]) (fun x => ?_)
  rw [h2 x, mem_tmH]
  simp only [ex28, List.mem_cons, List.not_mem_nil, or_false, exists_eq_or_imp, exists_eq_left, true_and]
  omega
theorem ex28_lv : lvH ex28 0 = [⟨10, 60⟩, ⟨15, 90⟩, ⟨20, 30⟩, ⟨30, 0⟩] := by
  unfold lvH
  rw [ex28_hts]
  decide
theorem ex28_chk : chkH [100] [] ex28 = 0 := by decide
theorem ex28_prof : profR [100] [] ex28 0 = ([⟨10, 60⟩, ⟨15, 90⟩, ⟨20, 30⟩, ⟨30, 0⟩], 0) := by
  unfold profR
  rw [if_neg (fun h => h ex28_chk), if_neg (by decide), ex28_lv, if_neg (by decide)]
theorem ex28_free (s : Int) (h : ¬ (s < 1 ∨ 65536 < s)) : freeRes [100] [] ex28 0 s = (freeP 100 s [⟨10, 60⟩, ⟨15, 90⟩, ⟨20, 30⟩, ⟨30, 0⟩], 0) := by
  unfold freeRes
  rw [if_neg (fun h => h ex28_chk), if_neg (by simp at h ⊢; omega), ex28_lv]
  rfl
theorem ex28_f50 : freeRes [100] [] ex28 0 50 = ([(0, 10), (20, 1099511627776)], 0) := by rw [ex28_free 50 (by decide)]; decide
theorem ex28_f10 : freeRes [100] [] ex28 0 10 = ([(0, 1099511627776)], 0) := by rw [ex28_free 10 (by decide)]; decide
end Go.Proofs.Ytnbihndlbopmeaa
/- The example of the chapter, walked; the law on free spans. -/
namespace Go.Proofs.Ytnbihndlbopmeaa
open Go.Eng Go.Step
set_option maxRecDepth 100000
set_option maxHeartbeats 4000000

theorem lenOK {e : TypeId} {s : Nat} {v : Value} {n : Nat} {xs : List Value} {ρ : PH} (h : OwnS e s v n xs ρ) : n ≤ 9223372036854775807 := by
  obtain ⟨_, ⟨_, h, _⟩ | ⟨_, cap, _, _, _, h1, h2, _⟩⟩ := h
  · omega
  · simp only [maxLen] at h2; omega
set_option maxHeartbeats 16000000 in
theorem awake_spec : Ans Try.prog (fv 10) [] [] (fun r => r = .bool true) := by
  refine spec_in (cap := []) Try.func10 rfl rfl Try.ntmps10 rfl (by (repeat (first | exact EnvA.nil EnvI.nil | apply EnvA.cons | apply EnvA.nil | exact EnvI.nil | apply EnvI.cons)); first | done | fail) (fun N β => ?_)
  refine jk_emp ?_
  refine jk_seq ?_
  refine jk_region ?_
  refine zq_assign ?_
  refine jk_nil ?_
  refine jk_seq ?_
  refine jk_region ?_
  refine zl_buildSlice ?_; rintro _ _ ⟨b, rfl, rfl⟩
  refine zq_build ?_
  refine zl_allocS ?_; rintro _ _ ⟨b, rfl, rfl⟩
  refine zs_storeS ?_; rintro _ _ ⟨rfl, rfl⟩
  refine jk_nil ?_
  refine jk_seq ?_
  refine jk_region ?_
  refine zq_build ?_
  refine zq_build ?_
  refine zl_buildSlice ?_; rintro _ _ ⟨b, rfl, rfl⟩
  refine zq_assign ?_
  refine jk_nil ?_
  refine jk_seq ?_
  refine jk_region ?_
  refine zq_loadS ?_
  refine zq_move ?_
  revert b; intro bl
  revert b; intro bp
  revert b; intro bq
  have hq : IntsAt (sng bq (.cells #[int 100] 3 (0, 0))) (.slice (some ⟨bq, 0, none⟩) 1 1) [100] := slE_sng (l := [(100 : Int)]) Eng.encI_len
  have hc : CtAt emp (.slice none 0 0) [] := ⟨rfl, .inl ⟨rfl, none, 0, rfl⟩⟩
  have hv : HdAt (sng bl (.cells #[int 0, int 10, int 20, int 60, int 0, int 0, int 15, int 30, int 30, int 0] 47 (0, 0))) (.slice (some ⟨bl, 0, none⟩) 2 2) ex28 := slE_sng (l := ex28) encH_len
  refine jk_freeze (ρ := sng bq _) takeZ ?_
  refine jk_freeze (ρ := sng bl _) takeZ ?_
  refine jk_freeze (ρ := sng bp _) takeZ ?_
  have cp : RdN (sng bp (.cells #[.slice (some ⟨bq, 0, none⟩) 1 1, .slice none 0 0] 25 (0, 0))) bp 0 [.slice (some ⟨bq, 0, none⟩) 1 1, .slice none 0 0] := fun j u hu => by rw [rdc_sng, Nat.zero_add]; simpa using hu
  have h1 := profile_spec _ emp _ (some ⟨bq, 0, none⟩) none 1 0 [100] [] _ ex28 0 hq hc (by simp) (by simp) (by simp) hv (by decide)
  rw [ex28_prof] at h1
  have h2 := free_spec _ emp _ (some ⟨bq, 0, none⟩) none 1 0 [100] [] _ ex28 0 50 hq hc (by simp) (by simp) (by simp) hv (by decide)
  rw [ex28_f50] at h2
  have h3 := free_spec _ emp _ (some ⟨bq, 0, none⟩) none 1 0 [100] [] _ ex28 0 10 hq hc (by simp) (by simp) (by simp) hv (by decide)
  rw [ex28_f10] at h3
  dsimp only at h1 h2 h3
  refine jk_freeze (ρ := emp) takeZ ?_
  refine jk_callM h1 rfl rfl rdZ rfl rfl ?_
  rintro _ σ1 ⟨u1, rfl, hO1⟩
  refine jk_freeze (ρ := σ1) takeZ ?_
  refine zq_move ?_
  refine zq_extract ?_
  refine zq_extract ?_
  refine zq_assign ?_
  refine zq_assign ?_
  refine jk_nil ?_
  refine jk_seq ?_
  refine jk_region ?_
  refine zq_loadS ?_
  refine zq_move ?_
  refine jk_callM h2 rfl rfl rdZ rfl rfl ?_
  rintro _ σ2 ⟨u2, rfl, hO2⟩
  refine jk_freeze (ρ := σ2) takeZ ?_
  refine zq_move ?_
  refine zq_extract ?_
  refine zq_extract ?_
  refine zq_assign ?_
  refine zq_assign ?_
  refine jk_nil ?_
  refine jk_seq ?_
  refine jk_region ?_
  refine zq_loadS ?_
  refine zq_move ?_
  refine jk_callM h3 rfl rfl rdZ rfl rfl ?_
  rintro _ σ3 ⟨u3, rfl, hO3⟩
  refine jk_freeze (ρ := σ3) takeZ ?_
  refine zq_move ?_
  refine zq_extract ?_
  refine zq_extract ?_
  refine zq_assign ?_
  refine zq_assign ?_
  refine jk_nil ?_
  refine jk_seq ?_
  refine jk_region ?_
  refine zq_move ?_
  refine zq_eq ?_
  refine zq_move ?_
  refine zq_move ?_
  refine zq_eq ?_
  refine zq_pick_t ?_
  refine zq_move ?_
  refine zq_move ?_
  refine zq_eq ?_
  refine zq_pick_t ?_
  refine zq_move ?_
  refine zq_move ?_
  refine zq_build ?_
  refine zq_build ?_
  refine zq_build ?_
  refine zq_build ?_
  refine zl_buildSlice ?_; rintro _ _ ⟨b, rfl, rfl⟩
  revert b; intro be
  refine jk_call (equalV_spec σ1 (sng be _) _ _ [⟨10, 60⟩, ⟨15, 90⟩, ⟨20, 30⟩, ⟨30, 0⟩] [⟨10, 60⟩, ⟨15, 90⟩, ⟨20, 30⟩, ⟨30, 0⟩] hO1.at (slE_sng encV_len) (by simp)) rfl rfl rdZ rfl rfl ?_
  rw [decide_eq_true rfl]
  rintro _ rfl
  refine zq_pick_t ?_
  refine zq_move ?_
  refine zq_move ?_
  refine zq_build ?_
  refine zq_build ?_
  refine zl_buildSlice ?_; rintro _ _ ⟨b, rfl, rfl⟩
  revert b; intro be2
  refine jk_call (equalS_spec σ2 (sng be2 _) _ _ [(0, 10), (20, 1099511627776)] [(0, 10), (20, 1099511627776)] hO2.at (slE_sng encS_len) (by simp)) rfl rfl rdZ rfl rfl ?_
  rw [decide_eq_true rfl]
  rintro _ rfl
  refine zq_pick_t ?_
  refine zq_move ?_
  refine zq_move ?_
  refine zq_build ?_
  refine zl_buildSlice ?_; rintro _ _ ⟨b, rfl, rfl⟩
  revert b; intro be3
  refine jk_call (equalS_spec σ3 (sng be3 _) _ _ [(0, 1099511627776)] [(0, 1099511627776)] hO3.at (slE_sng encS_len) (by simp)) rfl rfl rdZ rfl rfl ?_
  rw [decide_eq_true rfl]
  rintro _ rfl
  refine zq_pick_t ?_
  refine zq_assign ?_
  refine jk_nil ?_
  exact jk_ret_any (res1 rfl rfl) (by (repeat (first | exact rs_nil | (refine rs_cons ?_ ?_; (focus ((repeat (first | exact .here | apply Mem.there | apply Take.there)); first | done | fail))) | exact fun ρ hρ => hρ | (intro ρ hρ; repeat (first | exact hρ | refine List.mem_cons_of_mem _ ?_)))); first | done | fail) selZ ⟨rfl, rfl⟩
set_option maxHeartbeats 16000000 in
theorem free_law (ρ τ σ : PH) (pq pc : Option Addr) (kq kc : Nat) (qs : List Int) (cs : List Ct) (v : Value) (l : List Hd) (n s : Int) (hq : IntsAt ρ (.slice pq qs.length kq) qs) (hc : CtAt τ (.slice pc cs.length kc) cs) (hcap : cs.length ≤ kc) (lq : qs.length ≤ 9223372036854775807) (lc : cs.length ≤ 9223372036854775807) (hv : HdAt σ v l) (hl : l.length ≤ 9223372036854775807) :
    Ans Try.prog (fv 3) [.agg #[.slice pq qs.length kq, .slice pc cs.length kc], v, int n, int s] [ρ, τ, σ] (fun r => r = .bool true) := by
  have hv2 := hv
  obtain ⟨q, c, rfl, hr⟩ := hv.val encH_len
  refine spec_in (cap := []) Try.func3 rfl rfl Try.ntmps3 rfl (by (repeat (first | exact EnvA.nil EnvI.nil | apply EnvA.cons | apply EnvA.nil | exact EnvI.nil | apply EnvI.cons)); first | done | fail) (fun N β => ?_)
  refine jk_seq ?_
  refine jk_region ?_
  refine jk_op (l_boxS rfl) rfl rfl rfl ?_
  rintro _ _ ⟨b4, rfl, rfl⟩
  refine jk_freeze (ρ := sng b4 _) takeZ ?_
  have c1 : RdN (sng b4 (.cells #[.slice pq qs.length kq, .slice pc cs.length kc] 25 (0, 0))) b4 0 [.slice pq qs.length kq, .slice pc cs.length kc] := fun j u hu => by rw [rdc_sng, Nat.zero_add]; simpa using hu
  refine zq_assign ?_
  refine jk_nil ?_
  refine jk_seq ?_
  refine jk_seq ?_
  refine jk_region ?_
  refine zq_loadS ?_
  refine zq_move ?_
  refine jk_call (great28_spec pq pc q kq kc c qs cs l) rfl rfl rdZ rfl rfl ?_
  rintro _ rfl
  cases hg : grtH qs cs l with
  | true =>
    refine jk_nil ?_
    refine jk_if_t rfl ?_
    refine jk_seq ?_
    refine jk_region ?_
    focus ((refine jk_call awake_spec rfl rfl rdZ rfl rfl ?_; rintro _ rfl))
    refine zq_assign ?_
    refine jk_nil ?_
    exact jk_ret_any (res1 rfl rfl) (by (repeat (first | exact rs_nil | (refine rs_cons ?_ ?_; (focus ((repeat (first | exact .here | apply Mem.there | apply Take.there)); first | done | fail))) | exact fun ρ hρ => hρ | (intro ρ hρ; repeat (first | exact hρ | refine List.mem_cons_of_mem _ ?_)))); first | done | fail) selZ ⟨rfl, rfl⟩
  | false =>
  refine jk_nil ?_
  refine jk_if_f rfl ?_
  refine jk_skip ?_
  refine jk_seq ?_
  refine jk_region ?_
  refine zq_loadS ?_
  refine zq_move ?_
  refine zq_move ?_
  refine jk_callM (profile_spec ρ τ σ pq pc kq kc qs cs _ l n hq hc hcap lq lc hv2 hl) rfl rfl rdZ rfl rfl ?_
  rintro _ σ1 ⟨u1, rfl, hO1⟩
  refine jk_freeze (ρ := σ1) takeZ ?_
  refine zq_move ?_
  refine zq_extract ?_
  refine zq_extract ?_
  refine zq_assign ?_
  refine zq_assign ?_
  refine jk_nil ?_
  refine jk_seq ?_
  refine jk_region ?_
  refine zq_loadS ?_
  refine zq_move ?_
  refine zq_move ?_
  refine jk_callM (refProfile_spec ρ τ σ pq pc kq kc qs cs _ l n hq hc hcap lq lc hv2 hl) rfl rfl rdZ rfl rfl ?_
  rintro _ σ2 ⟨u2, rfl, hO2⟩
  refine jk_freeze (ρ := σ2) takeZ ?_
  refine zq_move ?_
  refine zq_extract ?_
  refine zq_extract ?_
  refine zq_assign ?_
  refine zq_assign ?_
  refine jk_nil ?_
  refine jk_seq ?_
  refine jk_region ?_
  refine zq_loadS ?_
  refine zq_move ?_
  refine zq_move ?_
  refine zq_move ?_
  refine jk_callM (free_spec ρ τ σ pq pc kq kc qs cs _ l n s hq hc hcap lq lc hv2 hl) rfl rfl rdZ rfl rfl ?_
  rintro _ σ3 ⟨u3, rfl, hO3⟩
  refine jk_freeze (ρ := σ3) takeZ ?_
  refine zq_move ?_
  refine zq_extract ?_
  refine zq_extract ?_
  refine zq_assign ?_
  refine zq_assign ?_
  refine jk_nil ?_
  refine jk_seq ?_
  refine jk_region ?_
  refine zq_loadS ?_
  refine zq_move ?_
  refine zq_move ?_
  refine zq_move ?_
  refine jk_callM (refFree_spec ρ τ σ pq pc kq kc qs cs _ l n s hq hc lq lc hv2 hl) rfl rfl rdZ rfl rfl ?_
  rintro _ σ4 ⟨u4, rfl, hO4⟩
  refine jk_freeze (ρ := σ4) takeZ ?_
  refine zq_move ?_
  refine zq_extract ?_
  refine zq_extract ?_
  refine zq_assign ?_
  refine zq_assign ?_
  refine jk_nil ?_
  refine jk_seq ?_
  refine jk_region ?_
  refine zq_loadS ?_
  refine zq_move ?_
  refine zq_move ?_
  refine jk_call (peak_spec ρ τ σ pq pc kq kc qs cs _ l n hq hc hcap lq lc hv2 hl) rfl rfl rdZ rfl rfl ?_
  rintro _ rfl
  refine zq_move ?_
  refine zq_extract ?_
  refine zq_extract ?_
  refine zq_assign ?_
  refine zq_assign ?_
  refine jk_nil ?_
  refine jk_seq ?_
  refine jk_region ?_
  refine zq_loadS ?_
  refine zq_move ?_
  refine zq_move ?_
  refine jk_call (refPeak_spec ρ τ σ pq pc kq kc qs cs _ l n hq hc hcap lq lc hv2 hl) rfl rfl rdZ rfl rfl ?_
  rintro _ rfl
  generalize (profR qs cs l n).1 = f1 at hO1 hO2
  generalize (freeRes qs cs l n s).1 = f2 at hO3 hO4
  generalize (profR qs cs l n).2 = e1
  generalize (freeRes qs cs l n s).2 = e2
  generalize (peakR qs cs l n).1 = e3
  generalize (peakR qs cs l n).2 = e4
  refine zq_move ?_
  refine zq_extract ?_
  refine zq_extract ?_
  refine zq_assign ?_
  refine zq_assign ?_
  refine jk_nil ?_
  refine jk_seq ?_
  refine jk_region ?_
  refine zq_move ?_
  refine zq_move ?_
  refine jk_call (equalV_spec σ1 σ2 _ _ f1 f1 hO1.at hO2.at (lenOK hO1)) rfl rfl rdZ rfl rfl ?_
  rw [decide_eq_true rfl]
  rintro _ rfl
  refine zq_move ?_
  refine zq_move ?_
  refine zq_move ?_
  refine zq_eq ?_
  refine zq_pick_t ?_
  refine zq_move ?_
  refine zq_move ?_
  refine zq_move ?_
  refine jk_call (equalS_spec σ3 σ4 _ _ f2 f2 hO3.at hO4.at (lenOK hO3)) rfl rfl rdZ rfl rfl ?_
  rw [decide_eq_true rfl]
  rintro _ rfl
  refine zq_pick_t ?_
  refine zq_move ?_
  refine zq_move ?_
  refine zq_move ?_
  refine zq_eq ?_
  refine zq_pick_t ?_
  refine zq_move ?_
  refine zq_move ?_
  refine zq_move ?_
  refine zq_eq ?_
  refine zq_pick_t ?_
  refine zq_move ?_
  refine zq_move ?_
  refine zq_move ?_
  refine zq_eq ?_
  refine zq_pick_t ?_
  refine zq_move ?_
  focus ((refine jk_call awake_spec rfl rfl rdZ rfl rfl ?_; rintro _ rfl))
  refine zq_pick_t ?_
  refine zq_assign ?_
  refine jk_nil ?_
  exact jk_ret_any (res1 rfl rfl) (by (repeat (first | exact rs_nil | (refine rs_cons ?_ ?_; (focus ((repeat (first | exact .here | apply Mem.there | apply Take.there)); first | done | fail))) | exact fun ρ hρ => hρ | (intro ρ hρ; repeat (first | exact hρ | refine List.mem_cons_of_mem _ ?_)))); first | done | fail) selZ ⟨rfl, rfl⟩
end Go.Proofs.Ytnbihndlbopmeaa
/- One more hold, of the reference; the law on holds. -/
namespace Go.Proofs.Ytnbihndlbopmeaa
open Go.Eng Go.Step
set_option maxRecDepth 100000
set_option maxHeartbeats 4000000

set_option maxHeartbeats 16000000 in
theorem refAdd_spec (ρ τ σ : PH) (pq pc : Option Addr) (kq kc : Nat) (qs : List Int) (cs : List Ct) (v : Value) (l : List Hd) (h : Hd) (hq : IntsAt ρ (.slice pq qs.length kq) qs) (hc : CtAt τ (.slice pc cs.length kc) cs) (lq : qs.length ≤ 9223372036854775807) (lc : cs.length ≤ 9223372036854775807) (hv : HdAt σ v l) (hcv : CapOK v) (hl : l.length ≤ 9223372036854775807) :
    Makes Try.prog (fv 30) [.agg #[.slice pq qs.length kq, .slice pc cs.length kc], v, .agg #[int h.n, int h.a, int h.b, int h.s, int h.k]] [ρ, τ, σ] (fun r σ' => ∃ u, r = .tuple #[u, int (addR qs cs l h).2] ∧ OwnS 47 5 u (addR qs cs l h).1.length ((addR qs cs l h).1.flatMap encH) σ') := by
  have hv2 := hv
  obtain ⟨q, c, rfl, hr⟩ := hv.val encH_len
  refine spec_in (cap := []) Try.func30 rfl rfl Try.ntmps30 rfl (by (repeat (first | exact EnvA.nil EnvI.nil | apply EnvA.cons | apply EnvA.nil | exact EnvI.nil | apply EnvI.cons)); first | done | fail) (fun N β => ?_)
  refine jk_seq ?_
  refine jk_region ?_
  refine jk_op (l_boxS rfl) rfl rfl rfl ?_
  rintro _ _ ⟨b1, rfl, rfl⟩
  refine jk_freeze (ρ := sng b1 _) takeZ ?_
  refine jk_op (l_boxS rfl) rfl rfl rfl ?_
  rintro _ _ ⟨b2, rfl, rfl⟩
  refine jk_freeze (ρ := sng b2 _) takeZ ?_
  have c1 : RdN (sng b1 (.cells #[.slice pq qs.length kq, .slice pc cs.length kc] 25 (0, 0))) b1 0 [.slice pq qs.length kq, .slice pc cs.length kc] := rdN_sng (vs := [.slice pq qs.length kq, .slice pc cs.length kc])
  have c2 : RdN (sng b2 (.cells #[int h.n, int h.a, int h.b, int h.s, int h.k] 47 (0, 0))) b2 0 [int h.n, int h.a, int h.b, int h.s, int h.k] := rdN_sng (vs := [int h.n, int h.a, int h.b, int h.s, int h.k])
  refine zq_assign ?_
  refine zq_assign ?_
  refine jk_nil ?_
  refine jk_seq ?_
  refine jk_seq ?_
  refine jk_region ?_
  refine zq_loadS ?_
  refine zq_move ?_
  refine jk_call (refCheck28_spec ρ τ σ pq pc kq kc qs cs _ l hq hc lq lc hv2 hl) rfl rfl rdZ rfl rfl ?_
  rintro _ rfl
  by_cases h0 : chkH qs cs l = 0
  rotate_left
  · have hR : addR qs cs l h = ([], 1) := by unfold addR; rw [if_pos h0]
    rw [hR]
    generalize chkH qs cs l = z at h0
    refine zq_ne ?_
    refine jk_nil ?_
    refine jk_if_t rfl ?_
    refine jk_seq ?_
    refine jk_region ?_
    refine zl_buildSlice ?_; rintro _ _ ⟨b, rfl, rfl⟩
    refine zq_assign ?_
    refine zq_assign ?_
    refine jk_nil ?_
    exact jk_ret_any (res2 rfl rfl rfl) (by (repeat (first | exact rs_nil | (refine rs_cons ?_ ?_; (focus ((repeat (first | exact .here | apply Mem.there | apply Take.there)); first | done | fail))) | exact fun ρ hρ => hρ | (intro ρ hρ; repeat (first | exact hρ | refine List.mem_cons_of_mem _ ?_)))); first | done | fail) selZ ⟨_, ⟨_, rfl, OwnS.empty⟩, rfl⟩
  rw [h0]
  obtain ⟨hok, hlen, hql⟩ := chkH_ok h0
  refine zq_neF ?_
  refine jk_nil ?_
  refine jk_if_f rfl ?_
  refine jk_skip ?_
  refine jk_seq ?_
  refine jk_seq ?_
  refine jk_region ?_
  refine zq_loadS ?_
  refine zq_loadS ?_
  refine jk_call (refValid28_spec (.slice pq qs.length kq) (.slice pc cs.length kc) ρ qs kq pq h rfl rfl) rfl rfl rdZ rfl rfl ?_
  rintro _ rfl
  by_cases hh : okHd qs.length h
  rotate_left
  · have hR : addR qs cs l h = ([], 2) := by unfold addR; rw [if_neg (fun h => h h0), if_pos hh]
    rw [hR, decide_eq_false hh]
    refine zq_not ?_
    refine jk_nil ?_
    refine jk_if_t rfl ?_
    refine jk_seq ?_
    refine jk_region ?_
    refine zl_buildSlice ?_; rintro _ _ ⟨b, rfl, rfl⟩
    refine zq_assign ?_
    refine zq_assign ?_
    refine jk_nil ?_
    exact jk_ret_any (res2 rfl rfl rfl) (by (repeat (first | exact rs_nil | (refine rs_cons ?_ ?_; (focus ((repeat (first | exact .here | apply Mem.there | apply Take.there)); first | done | fail))) | exact fun ρ hρ => hρ | (intro ρ hρ; repeat (first | exact hρ | refine List.mem_cons_of_mem _ ?_)))); first | done | fail) selZ ⟨_, ⟨_, rfl, OwnS.empty⟩, rfl⟩
  rw [decide_eq_true hh]
  by_cases hfull : l.length = 512
  · have hR : addR qs cs l h = ([], 4) := by unfold addR; rw [if_neg (fun h => h h0), if_neg (fun h => h hh), if_pos hfull]
    rw [hR]
    refine zq_not ?_
    refine jk_nil ?_
    refine jk_if_f rfl ?_
    refine jk_skip ?_
    refine jk_seq ?_
    refine jk_seq ?_
    refine jk_region ?_
    refine zq_move ?_
    refine zq_len ?_
    refine zq_eq ?_
    refine jk_nil ?_
    refine jk_if_t rfl ?_
    refine jk_seq ?_
    refine jk_region ?_
    refine zl_buildSlice ?_; rintro _ _ ⟨b, rfl, rfl⟩
    refine zq_assign ?_
    refine zq_assign ?_
    refine jk_nil ?_
    exact jk_ret_any (res2 rfl rfl rfl) (by (repeat (first | exact rs_nil | (refine rs_cons ?_ ?_; (focus ((repeat (first | exact .here | apply Mem.there | apply Take.there)); first | done | fail))) | exact fun ρ hρ => hρ | (intro ρ hρ; repeat (first | exact hρ | refine List.mem_cons_of_mem _ ?_)))); first | done | fail) selZ ⟨_, ⟨_, rfl, OwnS.empty⟩, rfl⟩
  refine zq_not ?_
  refine jk_nil ?_
  refine jk_if_f rfl ?_
  refine jk_skip ?_
  refine jk_seq ?_
  refine jk_seq ?_
  refine jk_region ?_
  refine zq_move ?_
  refine zq_len ?_
  refine zq_eqF ?_
  refine jk_nil ?_
  refine jk_if_f rfl ?_
  refine jk_skip ?_
  refine jk_seq ?_
  refine jk_region ?_
  refine zq_move ?_
  refine zq_loadS ?_
  refine jk_callM (refInsert_spec σ _ l h hv2 hcv (by omega)) rfl rfl rdZ rfl rfl ?_
  rintro ui σi hOi
  refine zq_assign ?_
  refine jk_nil ?_
  refine jk_seq ?_
  refine jk_seq ?_
  refine jk_region ?_
  refine zq_loadS ?_
  refine zq_move ?_
  refine jk_call (fits_spec ρ σi pq pc kq cs.length kc qs ui (insH l h) hq hOi.at (insH_ok hok hh) (by rw [insH_len]; omega)) rfl rfl rdZ rfl rfl ?_
  rintro _ rfl
  cases hfit : fitB qs (insH l h) with
  | true =>
    have hR : addR qs cs l h = (insH l h, 0) := by unfold addR; rw [if_neg (fun h => h h0), if_neg (fun h => h hh), if_neg hfull, if_pos hfit]
    rw [hR]
    refine zq_not ?_
    refine jk_nil ?_
    refine jk_if_f rfl ?_
    refine jk_skip ?_
    refine jk_seq ?_
    refine jk_region ?_
    refine zq_move ?_
    refine zq_assign ?_
    refine zq_assign ?_
    refine jk_nil ?_
    exact jk_ret_any (res2 rfl rfl rfl) (by (repeat (first | exact rs_nil | (refine rs_cons ?_ ?_; (focus ((repeat (first | exact .here | apply Mem.there | apply Take.there)); first | done | fail))) | exact fun ρ hρ => hρ | (intro ρ hρ; repeat (first | exact hρ | refine List.mem_cons_of_mem _ ?_)))); first | done | fail) selZ ⟨_, ⟨_, rfl, hOi⟩, rfl⟩
  | false =>
    have hR : addR qs cs l h = ([], 15) := by unfold addR; rw [if_neg (fun h => h h0), if_neg (fun h => h hh), if_neg hfull, hfit]; rfl
    rw [hR]
    refine zq_not ?_
    refine jk_nil ?_
    refine jk_if_t rfl ?_
    refine jk_seq ?_
    refine jk_region ?_
    refine zl_buildSlice ?_; rintro _ _ ⟨b, rfl, rfl⟩
    refine zq_assign ?_
    refine zq_assign ?_
    refine jk_nil ?_
    exact jk_ret_any (res2 rfl rfl rfl) (by (repeat (first | exact rs_nil | (refine rs_cons ?_ ?_; (focus ((repeat (first | exact .here | apply Mem.there | apply Take.there)); first | done | fail))) | exact fun ρ hρ => hρ | (intro ρ hρ; repeat (first | exact hρ | refine List.mem_cons_of_mem _ ?_)))); first | done | fail) selZ ⟨_, ⟨_, rfl, OwnS.empty⟩, rfl⟩
set_option maxHeartbeats 16000000 in
theorem holds_law (ρ τ σ : PH) (pq pc : Option Addr) (kq kc : Nat) (qs : List Int) (cs : List Ct) (v : Value) (l : List Hd) (h : Hd) (hq : IntsAt ρ (.slice pq qs.length kq) qs) (hc : CtAt τ (.slice pc cs.length kc) cs) (hcap : cs.length ≤ kc) (lq : qs.length ≤ 9223372036854775807) (lc : cs.length ≤ 9223372036854775807) (hv : HdAt σ v l) (hcv : CapOK v) (hl : l.length ≤ 9223372036854775807) :
    Ans Try.prog (fv 7) [.agg #[.slice pq qs.length kq, .slice pc cs.length kc], v, .agg #[int h.n, int h.a, int h.b, int h.s, int h.k]] [ρ, τ, σ] (fun r => r = .bool true) := by
  have hv2 := hv
  obtain ⟨q, c, rfl, hr⟩ := hv.val encH_len
  refine spec_in (cap := []) Try.func7 rfl rfl Try.ntmps7 rfl (by (repeat (first | exact EnvA.nil EnvI.nil | apply EnvA.cons | apply EnvA.nil | exact EnvI.nil | apply EnvI.cons)); first | done | fail) (fun N β => ?_)
  refine jk_seq ?_
  refine jk_region ?_
  refine jk_op (l_boxS rfl) rfl rfl rfl ?_
  rintro _ _ ⟨b1, rfl, rfl⟩
  refine jk_freeze (ρ := sng b1 _) takeZ ?_
  refine jk_op (l_boxS rfl) rfl rfl rfl ?_
  rintro _ _ ⟨b2, rfl, rfl⟩
  refine jk_freeze (ρ := sng b2 _) takeZ ?_
  have c1 : RdN (sng b1 (.cells #[.slice pq qs.length kq, .slice pc cs.length kc] 25 (0, 0))) b1 0 [.slice pq qs.length kq, .slice pc cs.length kc] := rdN_sng (vs := [.slice pq qs.length kq, .slice pc cs.length kc])
  have c2 : RdN (sng b2 (.cells #[int h.n, int h.a, int h.b, int h.s, int h.k] 47 (0, 0))) b2 0 [int h.n, int h.a, int h.b, int h.s, int h.k] := rdN_sng (vs := [int h.n, int h.a, int h.b, int h.s, int h.k])
  have c24 : rdc (sng b2 (.cells #[int h.n, int h.a, int h.b, int h.s, int h.k] 47 (0, 0))) b2 4 = some (int h.k) := by rw [rdc_sng]; rfl
  refine zq_assign ?_
  refine jk_nil ?_
  refine jk_seq ?_
  refine jk_seq ?_
  refine jk_region ?_
  refine zq_loadS ?_
  refine zq_move ?_
  refine jk_call (great28_spec pq pc q kq kc c qs cs l) rfl rfl rdZ rfl rfl ?_
  rintro _ rfl
  cases hg : grtH qs cs l with
  | true =>
    refine jk_nil ?_
    refine jk_if_t rfl ?_
    refine jk_seq ?_
    refine jk_region ?_
    focus ((refine jk_call awake_spec rfl rfl rdZ rfl rfl ?_; rintro _ rfl))
    refine zq_assign ?_
    refine jk_nil ?_
    exact jk_ret_any (res1 rfl rfl) (by (repeat (first | exact rs_nil | (refine rs_cons ?_ ?_; (focus ((repeat (first | exact .here | apply Mem.there | apply Take.there)); first | done | fail))) | exact fun ρ hρ => hρ | (intro ρ hρ; repeat (first | exact hρ | refine List.mem_cons_of_mem _ ?_)))); first | done | fail) selZ ⟨rfl, rfl⟩
  | false =>
  have hlen : l.length ≤ 1000 := by
    have := of_decide_eq_false hg
    omega
  refine jk_nil ?_
  refine jk_if_f rfl ?_
  refine jk_skip ?_
  refine jk_seq ?_
  refine jk_region ?_
  refine zq_loadS ?_
  refine zq_move ?_
  refine zq_loadS ?_
  refine jk_callM (add28_spec ρ τ σ pq pc kq kc qs cs _ l h hq hc hcap lq lc hv2 hl) rfl rfl rdZ rfl rfl ?_
  rintro _ σ1 ⟨u1, rfl, hO1⟩
  refine jk_freeze (ρ := σ1) takeZ ?_
  refine zq_move ?_
  refine zq_extract ?_
  refine zq_extract ?_
  refine zq_assign ?_
  refine zq_assign ?_
  refine jk_nil ?_
  refine jk_seq ?_
  refine jk_region ?_
  refine zq_loadS ?_
  refine zq_move ?_
  refine zq_loadS ?_
  refine jk_callM (refAdd_spec ρ τ σ pq pc kq kc qs cs _ l h hq hc lq lc hv2 hcv hl) rfl rfl rdZ rfl rfl ?_
  rintro _ σ2 ⟨u2, rfl, hO2⟩
  refine jk_freeze (ρ := σ2) takeZ ?_
  generalize (addR qs cs l h).1 = f1 at hO1 hO2
  generalize (addR qs cs l h).2 = e1
  refine zq_move ?_
  refine zq_extract ?_
  refine zq_extract ?_
  refine zq_assign ?_
  refine zq_assign ?_
  refine jk_nil ?_
  refine jk_seq ?_
  refine jk_draw (.q 0 (.q 1 (.q 3 (.q 4 (.l 2 .e (.l 5 .e (.q 6 (.q 7 (.q 8 (.q 9 (.l 10 .e (.q 11 (.q 12 (.q 13 (.q 14 (.q 15 (.q 16 (.q 17 (.q 18 (.q 19 (.q 20 (.q 22 (.q 23 (.q 24 (.l 21 .e (.l 25 .e (.l 26 .e (.q 27 (.q 28 (.l 29 .e (.q 30 (.q 31 .nil)))))))))))))))))))))))))))))))) [] rfl (by kernel_rfl) Sel.nil ?_
  refine zd_loadS ?_
  refine zd_move ?_
  refine zd_loadS ?_
  refine zd_move ?_
  refine dj_l (a_call rfl (check28_spec ρ τ σ pq pc kq kc qs cs _ l hq hc hcap lq lc hv2 hl) rfl rfl rdZ rfl rfl ?_)
  rintro _ rfl
  refine dj_l (a_call rfl (refCheck28_spec ρ τ σ pq pc kq kc qs cs _ l hq hc lq lc hv2 hl) rfl rfl rdZ rfl rfl ?_)
  rintro _ rfl
  generalize chkH qs cs l = z
  refine zd_eq ?_
  refine zd_move ?_
  refine zd_move ?_
  refine zd_move ?_
  refine dj_l (a_call rfl (same28_spec σ1 σ2 _ _ f1 f1 hO1.at hO2.at (lenOK hO1)) rfl rfl rdZ rfl rfl ?_)
  rw [decide_eq_true rfl]
  rintro _ rfl
  refine zd_pick_t ?_
  refine zd_move ?_
  refine zd_move ?_
  refine zd_move ?_
  refine zd_eq ?_
  refine zd_pick_t ?_
  refine zd_move ?_
  refine zd_move ?_
  refine zd_fld0 ?_
  refine zd_load ?_
  refine zd_move ?_
  refine zd_fld0 ?_
  refine zd_load ?_
  refine dj_l (a_callM rfl (release_spec σ _ l h.k hv2 hlen) rfl rfl rdZ rfl rfl ?_)
  rintro u3 _ ⟨σ3, hO3, rfl⟩
  refine dj_l (a_callM rfl (refRelease_spec σ _ l h.k hv2 hlen) rfl rfl rdZ rfl rfl ?_)
  rintro u4 _ ⟨σ4, hO4, rfl⟩
  refine dj_l (a_call rfl (same28_spec σ3 σ4 _ _ _ _ hO3.at hO4.at (lenOK hO3)) rfl rfl rdZ rfl rfl ?_)
  rw [decide_eq_true rfl]
  rintro _ rfl
  refine zd_pick_t ?_
  refine zd_move ?_
  refine dj_l (a_call rfl awake_spec rfl rfl rdZ rfl rfl ?_)
  rintro _ rfl
  refine zd_pick_t ?_
  refine zd_assign ?_
  refine dj_end ?_
  skip
  exact jk_ret_any (res1 rfl rfl) (by (repeat (first | exact rs_nil | (refine rs_cons ?_ ?_; (focus ((repeat (first | exact .here | apply Mem.there | apply Take.there)); first | done | fail))) | exact fun ρ hρ => hρ | (intro ρ hρ; repeat (first | exact hρ | refine List.mem_cons_of_mem _ ?_)))); first | done | fail) selZ ⟨rfl, rfl⟩
end Go.Proofs.Ytnbihndlbopmeaa
/- The parts of an interval, found one by one. No program in sight. No conditions. -/
namespace Go.Step
theorem partsFrom_end (to : Int) : ∀ (g : List Lv) (now : Int), partsFrom to to now g = []
  | [], _ => by simp [partsFrom]
  | l :: g, now => by simp only [partsFrom]; rw [if_pos (.inr (Int.le_refl _))]; exact partsFrom_end to g now
theorem partsFrom_skip {n to now : Int} : ∀ (g1 g2 : List Lv), (∀ l ∈ g1, l.a ≤ n) → partsFrom n to now (g1 ++ g2) = partsFrom n to now g2
  | [], _, _ => rfl
  | l :: g1, g2, h => by
    simp only [List.cons_append, partsFrom]
    rw [if_pos (.inl (h l (by simp)))]
    exact partsFrom_skip g1 g2 (fun m hm => h m (by simp [hm]))
/-- where the part that begins at fr ends -/
def nx (fr to : Int) : List Lv → Int
  | [] => to
  | l :: f => if fr < l.a then min l.a to else nx fr to f
theorem nx_bd {fr to : Int} (h : fr < to) : ∀ f : List Lv, fr < nx fr to f ∧ nx fr to f ≤ to
  | [] => ⟨h, Int.le_refl _⟩
  | l :: f => by
    simp only [nx]
    split
    · omega
    · exact nx_bd h f
theorem nx_asc {fr to : Int} : ∀ {f : List Lv} {p : Int}, Asc p f → fr < p → p < nx fr to f ∨ nx fr to f = to
  | [], _, _, _ => .inr rfl
  | l :: f, p, h, hp => by
    simp only [nx]
    have := h.1
    rw [if_pos (by omega)]
    omega
theorem nx_step {fr to : Int} {l : Lv} {f : List Lv} {p : Int} (h : Asc p (l :: f)) : nx fr to (l :: f) = if fr < l.a ∧ l.a < nx fr to f then l.a else nx fr to f := by
  have hle : fr < l.a → ∀ g : List Lv, Asc l.a g → min l.a to ≤ nx fr to g := by
    intro h1 g hg
    rcases nx_asc (to := to) hg h1 with h2 | h2 <;> omega
  have hle2 : ∀ g : List Lv, nx fr to g ≤ to := by
    intro g
    induction g with
    | nil => exact Int.le_refl _
    | cons m g ih => simp only [nx]; split <;> omega
  simp only [nx]
  by_cases h1 : fr < l.a
  · rw [if_pos h1]
    have h3 := hle h1 f h.2.2.2
    have h4 := hle2 f
    rcases nx_asc (to := to) h.2.2.2 h1 with h2 | h2
    · rw [if_pos ⟨h1, h2⟩]; omega
    · by_cases h5 : l.a < to
      · rw [if_pos ⟨h1, by omega⟩]; omega
      · rw [if_neg (by omega)]; omega
  · rw [if_neg h1, if_neg (by omega)]
theorem nx_split {fr to : Int} : ∀ (g1 g2 : List Lv), (∀ l ∈ g1, l.a ≤ fr) → nx fr to (g1 ++ g2) = nx fr to g2
  | [], _, _ => rfl
  | l :: g1, g2, h => by
    simp only [List.cons_append, nx]
    rw [if_neg (by have := h l (by simp); omega)]
    exact nx_split g1 g2 (fun m hm => h m (by simp [hm]))
theorem asc_split {fr : Int} : ∀ {f : List Lv} {p : Int}, Asc p f → ∃ g1 g2, f = g1 ++ g2 ∧ (∀ l ∈ g1, l.a ≤ fr) ∧ (∀ l, g2.head? = some l → fr < l.a) ∧ ∃ q, Asc q g2
  | [], p, h => ⟨[], [], rfl, by simp, by simp, p, h⟩
  | l :: f, p, h => by
    by_cases hl : l.a ≤ fr
    · obtain ⟨g1, g2, h1, h2, h3, h4⟩ := asc_split (fr := fr) h.2.2.2
      refine ⟨l :: g1, g2, by rw [h1]; rfl, fun m hm => ?_, h3, h4⟩
      simp at hm
      rcases hm with rfl | hm
      · exact hl
      · exact h2 m hm
    · exact ⟨[], l :: f, rfl, by simp, fun m hm => by simp at hm; subst hm; omega, p, h⟩
theorem parts_step {f : List Lv} {p fr to : Int} (hA : Asc p f) (h : fr < to) : partsFrom fr to (val f fr) f = ((fr, nx fr to f), val f fr) :: partsFrom (nx fr to f) to (val f (nx fr to f)) f := by
  obtain ⟨g1, g2, rfl, h1, h2, q, h3⟩ := asc_split (fr := fr) hA
  have hn := nx_split (to := to) g1 g2 h1
  generalize hv : val (g1 ++ g2) fr = now
  rw [hn, partsFrom_skip g1 g2 h1]
  cases g2 with
  | nil =>
    simp only [nx, partsFrom]
    rw [if_pos h, partsFrom_end]
  | cons l g3 =>
    have hl := h2 l rfl
    simp only [nx]
    rw [if_pos hl]
    simp only [partsFrom]
    rw [if_neg (by omega)]
    congr 1
    by_cases hlt : l.a < to
    · have hm : min l.a to = l.a := by omega
      rw [hm]
      have hall : ∀ m ∈ g1 ++ [l], m.a ≤ l.a := fun m hm => by
        simp at hm
        rcases hm with hm | rfl
        · have := h1 m hm; omega
        · exact Int.le_refl _
      have e : g1 ++ l :: g3 = (g1 ++ [l]) ++ g3 := by simp
      have hval : val (g1 ++ l :: g3) l.a = l.v := by
        unfold val
        rw [e, vat_append _ _ 0 l.a hall, vat_late _ _ l.a (fun m hm => (h3.2.2.2.gt m (List.mem_of_mem_head? (by simpa using hm))).1)]
        exact vat_last g1 l 0 l.a (fun m hm => hall m (by simp [hm])) (Int.le_refl _)
      rw [hval, e, partsFrom_skip _ g3 hall]
    · have hm : min l.a to = to := by omega
      rw [hm, partsFrom_end, partsFrom_end]
theorem partsFrom_len {to : Int} : ∀ (g : List Lv) (fr now : Int), (partsFrom fr to now g).length ≤ g.length + 1
  | [], fr, now => by simp only [partsFrom]; split <;> simp
  | l :: g, fr, now => by
    simp only [partsFrom]
    split
    · have := partsFrom_len (to := to) g fr now; simp; omega
    · have := partsFrom_len (to := to) g (min l.a to) l.v; simp; omega
def lens (ps : List ((Int × Int) × Int)) : Int := ps.foldr (fun p s => (p.1.2 - p.1.1) + s) 0
theorem lens_cons (p : (Int × Int) × Int) (ps : List ((Int × Int) × Int)) : lens (p :: ps) = (p.1.2 - p.1.1) + lens ps := rfl
theorem area_cons (p : (Int × Int) × Int) (ps : List ((Int × Int) × Int)) : area (p :: ps) = p.2 * (p.1.2 - p.1.1) + area ps := rfl
theorem partsFrom_lens {to : Int} : ∀ (g : List Lv) (fr now : Int), fr ≤ to → lens (partsFrom fr to now g) = to - fr
  | [], fr, now, h => by
    simp only [partsFrom]
    split
    · simp [lens]
    · simp [lens]; omega
  | l :: g, fr, now, h => by
    simp only [partsFrom]
    split
    · exact partsFrom_lens g fr now h
    · rename_i hs
      rw [lens_cons, partsFrom_lens g (min l.a to) l.v (by omega)]
      dsimp only; omega
theorem area_bd {M : Int} (hM : 0 ≤ M) : ∀ (ps : List ((Int × Int) × Int)), (∀ q ∈ ps, -M ≤ q.2 ∧ q.2 ≤ M ∧ q.1.1 ≤ q.1.2) → -(M * lens ps) ≤ area ps ∧ area ps ≤ M * lens ps ∧ 0 ≤ lens ps ∧ ∀ i, lens (ps.take i) ≤ lens ps
  | [], _ => by simp [lens, area]
  | q :: ps, h => by
    obtain ⟨h1, h2, h3, h4⟩ := area_bd hM ps (fun x hx => h x (by simp [hx]))
    obtain ⟨a1, a2, a3⟩ := h q (by simp)
    have e1 : q.2 * (q.1.2 - q.1.1) ≤ M * (q.1.2 - q.1.1) := Int.mul_le_mul_of_nonneg_right a2 (by omega)
    have e2 : (-M) * (q.1.2 - q.1.1) ≤ q.2 * (q.1.2 - q.1.1) := Int.mul_le_mul_of_nonneg_right a1 (by omega)
    rw [Int.neg_mul] at e2
    rw [area_cons, lens_cons, Int.mul_add]
    refine ⟨by omega, by omega, by omega, fun i => ?_⟩
    cases i with
    | zero => simp [lens] at h3 ⊢; omega
    | succ i => rw [List.take_succ_cons, lens_cons]; have := h4 i; omega
end Go.Step
/- The greatest and the least value, where a function is low; the times of two functions, merged. No program in sight. No conditions. -/
namespace Go.Step
abbrev Pt := (Int × Int) × Int
def foldP (op : Int → Int → Int) (a : Int) (ps : List Pt) : Int := ps.foldl (fun s p => op s p.2) a
theorem foldP_take (op : Int → Int → Int) (a : Int) (ps : List Pt) (i : Nat) (q : Pt) (h : ps[i]? = some q) : foldP op a (ps.take (i + 1)) = op (foldP op a (ps.take i)) q.2 := by
  obtain ⟨hi, rfl⟩ := List.getElem?_eq_some_iff.1 h
  unfold foldP
  rw [List.take_succ_eq_append_getElem hi, List.foldl_append]; rfl
/-- the value in an interval that is preferred -/
def bestR (op : Int → Int → Int) (f : List Lv) (fr to : Int) : Int :=
  if chkS f = 0 ∧ (0 ≤ fr ∧ fr ≤ to ∧ to ≤ 1099511627776) ∧ fr ≠ to then foldP op (val f fr) (parts f fr to) else 0
/-- one part more, of those that are low -/
def bstep (limit : Int) (out : List (Int × Int)) (p : Pt) : List (Int × Int) :=
  if limit < p.2 then out else match out.getLast? with
    | some q => if q.2 = p.1.1 then out.dropLast ++ [(q.1, p.1.2)] else out ++ [p.1]
    | none => out ++ [p.1]
def lowP (limit : Int) (ps : List Pt) : List (Int × Int) := ps.foldl (bstep limit) []
theorem lowP_take (limit : Int) (ps : List Pt) (i : Nat) (q : Pt) (h : ps[i]? = some q) : lowP limit (ps.take (i + 1)) = bstep limit (lowP limit (ps.take i)) q := by
  obtain ⟨hi, rfl⟩ := List.getElem?_eq_some_iff.1 h
  unfold lowP
  rw [List.take_succ_eq_append_getElem hi, List.foldl_append]; rfl
theorem bstep_len (limit : Int) (out : List (Int × Int)) (p : Pt) : (bstep limit out p).length ≤ out.length + 1 := by
  unfold bstep
  split
  · omega
  · split
    · rename_i q hq
      split
      · have : out ≠ [] := by intro h; subst h; simp at hq
        have := List.length_pos_iff.2 this
        rw [List.length_append, List.length_dropLast, List.length_singleton]; omega
      · simp
    · simp
theorem lowP_len (limit : Int) (ps : List Pt) : ∀ i, (lowP limit (ps.take i)).length ≤ i
  | 0 => by simp [lowP]
  | i + 1 => by
    have ih := lowP_len limit ps i
    by_cases h : i < ps.length
    · rw [lowP_take limit ps i _ (List.getElem?_eq_getElem h)]
      have := bstep_len limit (lowP limit (ps.take i)) ps[i]
      omega
    · rw [List.take_of_length_le (by omega)]
      rw [List.take_of_length_le (by omega)] at ih
      omega
/-- what Below answers -/
def lowR (f : List Lv) (limit fr to : Int) : List (Int × Int) × Int :=
  if chkS f = 0 then (if 0 ≤ fr ∧ fr ≤ to ∧ to ≤ 1099511627776 then (lowP limit (parts f fr to), 0) else ([], 2)) else ([], 1)
/-! times, merged -/
structure TInv (f g : List Lv) (i k : Nat) (out : List Int) : Prop where
  sa : SA out
  mem : ∀ x, x ∈ out ↔ ∃ l ∈ f.take i ++ g.take k, l.a = x
  f : ∀ x ∈ out, ∀ l ∈ f.drop i, x ≤ l.a
  g : ∀ x ∈ out, ∀ l ∈ g.drop k, x ≤ l.a
/-- the next time: behind the last one, or the same -/
def nextT (out : List Int) (t : Int) : List Int := if out = [] ∨ out.getD (out.length - 1) 0 ≠ t then out ++ [t] else out
theorem nextT_ok {out : List Int} {t : Int} (h : SA out) (hle : ∀ x ∈ out, x ≤ t) : SA (nextT out t) ∧ ∀ x, x ∈ nextT out t ↔ x ∈ out ∨ x = t := by
  unfold nextT
  by_cases hc : out = [] ∨ out.getD (out.length - 1) 0 ≠ t
  · rw [if_pos hc]
    refine ⟨List.pairwise_append.2 ⟨h, by simp, fun x hx y hy => ?_⟩, fun x => by simp⟩
    simp at hy; subst hy
    rcases hc with rfl | hc
    · simp at hx
    · obtain ⟨i, hi, rfl⟩ := List.getElem_of_mem hx
      have hlast : out.length - 1 < out.length := by omega
      have e : out.getD (out.length - 1) 0 = out[out.length - 1] := by simp [List.getD_eq_getElem?_getD, hlast]
      rw [e] at hc
      have h1 := hle out[out.length - 1] (List.getElem_mem _)
      rcases Nat.lt_or_ge i (out.length - 1) with h2 | h2
      · have := List.pairwise_iff_getElem.1 h i (out.length - 1) hi hlast h2
        omega
      · have : i = out.length - 1 := by omega
        subst this; omega
  · rw [if_neg hc]
    simp only [not_or, Classical.not_not] at hc
    refine ⟨h, fun x => ⟨.inl, ?_⟩⟩
    rintro (hx | rfl)
    · exact hx
    · have : 0 < out.length := List.length_pos_iff.2 hc.1
      rw [← hc.2]
      simp [List.getD_eq_getElem?_getD, show out.length - 1 < out.length by omega]
theorem mem_drop_iff {α : Type} {f : List α} {i : Nat} (hi : i < f.length) (x : α) : x ∈ f.drop i ↔ x = f[i] ∨ x ∈ f.drop (i + 1) := by
  constructor
  · intro h
    rw [List.drop_eq_getElem_cons hi, List.mem_cons] at h
    exact h
  · intro h
    rw [List.drop_eq_getElem_cons hi, List.mem_cons]
    exact h
theorem mem_take_iff {α : Type} {f : List α} {i : Nat} (hi : i < f.length) (x : α) : x ∈ f.take (i + 1) ↔ x ∈ f.take i ∨ x = f[i] := by
  rw [List.take_succ_eq_append_getElem hi, List.mem_append, List.mem_singleton]
theorem drop_lt {f : List Lv} (hf : AscT (-1) f) {i : Nat} (hi : i < f.length) : ∀ l ∈ f.drop (i + 1), f[i].a < l.a := fun l hl => by
  obtain ⟨j, hj, rfl⟩ := List.getElem_of_mem hl
  rw [List.getElem_drop]
  rw [List.length_drop] at hj
  exact hf.idx i (i + 1 + j) _ _ (List.getElem?_eq_getElem hi) (List.getElem?_eq_getElem (by omega)) (by omega)
theorem drop_le {f : List Lv} (hf : AscT (-1) f) {i : Nat} (hi : i < f.length) : ∀ l ∈ f.drop i, f[i].a ≤ l.a := fun l hl => by
  rcases (mem_drop_iff hi l).1 hl with rfl | hl
  · exact Int.le_refl _
  · have := drop_lt hf hi l hl; omega
theorem TInv.stepF {f g : List Lv} (hf : AscT (-1) f) (hg : AscT (-1) g) {i k : Nat} {out : List Int} (h : TInv f g i k out) (hi : i < f.length) (hk : ∀ x, g[k]? = some x → f[i].a ≤ x.a) : TInv f g (i + 1) k (nextT out f[i].a) := by
  have hm : f[i] ∈ f.drop i := (mem_drop_iff hi _).2 (.inl rfl)
  obtain ⟨h1, h2⟩ := nextT_ok (t := f[i].a) h.sa (fun x hx => h.f x hx _ hm)
  refine ⟨h1, fun x => ?_, fun x hx l hl => ?_, fun x hx l hl => ?_⟩
  · rw [h2, h.mem]
    constructor
    · rintro (⟨l, hl, e⟩ | rfl)
      · refine ⟨l, ?_, e⟩
        rw [List.mem_append] at hl ⊢
        rcases hl with hl | hl
        · exact .inl ((mem_take_iff hi l).2 (.inl hl))
        · exact .inr hl
      · exact ⟨f[i], List.mem_append.2 (.inl ((mem_take_iff hi _).2 (.inr rfl))), rfl⟩
    · rintro ⟨l, hl, e⟩
      rw [List.mem_append, mem_take_iff hi] at hl
      rcases hl with (hl | rfl) | hl
      · exact .inl ⟨l, List.mem_append.2 (.inl hl), e⟩
      · exact .inr e.symm
      · exact .inl ⟨l, List.mem_append.2 (.inr hl), e⟩
  · have := drop_lt hf hi l hl
    rcases (h2 x).1 hx with hx | rfl
    · have := h.f x hx _ hm; omega
    · omega
  · rcases (h2 x).1 hx with hx | rfl
    · exact h.g x hx l hl
    · by_cases hkl : k < g.length
      · have a := drop_le hg hkl l hl
        have b := hk _ (List.getElem?_eq_getElem hkl)
        omega
      · rw [List.drop_of_length_le (by omega)] at hl; simp at hl
theorem TInv.stepG {f g : List Lv} (hf : AscT (-1) f) (hg : AscT (-1) g) {i k : Nat} {out : List Int} (h : TInv f g i k out) (hk : k < g.length) (hi : ∀ x, f[i]? = some x → g[k].a ≤ x.a) : TInv f g i (k + 1) (nextT out g[k].a) := by
  have hm : g[k] ∈ g.drop k := (mem_drop_iff hk _).2 (.inl rfl)
  obtain ⟨h1, h2⟩ := nextT_ok (t := g[k].a) h.sa (fun x hx => h.g x hx _ hm)
  refine ⟨h1, fun x => ?_, fun x hx l hl => ?_, fun x hx l hl => ?_⟩
  · rw [h2, h.mem]
    constructor
    · rintro (⟨l, hl, e⟩ | rfl)
      · refine ⟨l, ?_, e⟩
        rw [List.mem_append] at hl ⊢
        rcases hl with hl | hl
        · exact .inl hl
        · exact .inr ((mem_take_iff hk l).2 (.inl hl))
      · exact ⟨g[k], List.mem_append.2 (.inr ((mem_take_iff hk _).2 (.inr rfl))), rfl⟩
    · rintro ⟨l, hl, e⟩
      rw [List.mem_append, mem_take_iff hk] at hl
      rcases hl with hl | hl | rfl
      · exact .inl ⟨l, List.mem_append.2 (.inl hl), e⟩
      · exact .inl ⟨l, List.mem_append.2 (.inr hl), e⟩
      · exact .inr e.symm
  · rcases (h2 x).1 hx with hx | rfl
    · exact h.f x hx l hl
    · by_cases hil : i < f.length
      · have a := drop_le hf hil l hl
        have b := hi _ (List.getElem?_eq_getElem hil)
        omega
      · rw [List.drop_of_length_le (by omega)] at hl; simp at hl
  · have := drop_lt hg hk l hl
    rcases (h2 x).1 hx with hx | rfl
    · have := h.g x hx _ hm; omega
    · omega
theorem TInv.zero (f g : List Lv) : TInv f g 0 0 [] := ⟨by simp, by simp, by simp, by simp⟩
theorem TInv.done {f g : List Lv} {out : List Int} (h : TInv f g f.length g.length out) : out = tms f g := by
  obtain ⟨h1, h2⟩ := tms_sa f g
  refine SA.unique h.sa h1 (fun x => ?_)
  rw [h.mem, h2, List.take_length, List.take_length]
theorem SA.len : ∀ {out : List Int} {f : List Int}, SA out → (∀ x ∈ out, x ∈ f) → out.length ≤ f.length
  | [], _, _, _ => by simp
  | x :: out, f, h, hm => by
    have p := List.pairwise_cons.1 h
    have hx := hm x (by simp)
    have := SA.len (f := f.erase x) p.2 (fun y hy => by
      have h1 := hm y (by simp [hy])
      have h2 := p.1 y hy
      exact (List.mem_erase_of_ne (by omega)).2 h1)
    rw [List.length_erase_of_mem hx] at this
    have : 0 < f.length := List.length_pos_iff.2 (fun e => by subst e; simp at hx)
    simp; omega
theorem TInv.len {f g : List Lv} {i k : Nat} {out : List Int} (h : TInv f g i k out) : out.length ≤ f.length + g.length := by
  have := SA.len (f := (f ++ g).map (·.a)) h.sa (fun x hx => by
    obtain ⟨l, hl, rfl⟩ := (h.mem x).1 hx
    rw [List.mem_map]
    refine ⟨l, ?_, rfl⟩
    simp at hl ⊢
    rcases hl with hl | hl
    · exact .inl (List.mem_of_mem_take hl)
    · exact .inr (List.mem_of_mem_take hl))
  simpa using this
end Go.Step
namespace Go.Step
theorem AddR.err0 {f out : List Lv} {fr to d e : Int} (h : AddR f fr to d out e) (h0 : chkS f = 0) (hs : 0 ≤ fr ∧ fr ≤ to ∧ to ≤ 1099511627776) (hd : -2251799813685248 ≤ d ∧ d ≤ 2251799813685248) (hv : ∀ t, okV (val f t + if fr ≤ t ∧ t < to then d else 0)) (hl : f.length ≤ 998) : e = 0 := by
  rcases h with ⟨a, _⟩ | ⟨_, a, _⟩ | ⟨_, _, _, _, _, a⟩ | ⟨a, b, c, x⟩
  · exact absurd h0 a
  · omega
  · exact a
  · rcases x with ⟨⟨t, _, ht⟩, _⟩ | ⟨_, hbig, _⟩ | ⟨_, _, _, he⟩
    · have := hv t
      dsimp only at ht
      rw [bump_val fr to d t b.2.1] at ht
      exact absurd this ht
    · have h1 := comb_len (fun t => val f t + val (bump fr to d) t) (tms f (bump fr to d)) 0
      obtain ⟨hsa, hmem⟩ := tms_sa f (bump fr to d)
      have h2 := SA.len (f := (f ++ bump fr to d).map (·.a)) hsa (fun x hx => by
        obtain ⟨l, hl, rfl⟩ := (hmem x).1 hx
        exact List.mem_map.2 ⟨l, hl, rfl⟩)
      rw [List.length_map, List.length_append] at h2
      have : (bump fr to d).length = 2 := rfl
      omega
    · exact he
def ex6 : List Lv := [⟨2, 5⟩, ⟨4, 0⟩]
def ex6' : List Lv := [⟨2, 5⟩, ⟨3, 8⟩, ⟨4, 3⟩, ⟨6, 0⟩]
theorem ex6_val (t : Int) : val ex6 t + (if 3 ≤ t ∧ t < 6 then 3 else 0) = val ex6' t := by
  simp only [val, ex6, ex6', vat]
  by_cases h1 : 2 ≤ t <;> by_cases h2 : 4 ≤ t <;> by_cases h3 : 3 ≤ t <;> by_cases h4 : 6 ≤ t <;> simp [h1, h2, h3, h4] <;> omega
theorem ex6_add {out : List Lv} {e : Int} (h : AddR ex6 3 6 3 out e) : out = ex6' ∧ e = 0 := by
  have he : e = 0 := h.err0 (by decide) (by omega) (by omega) (fun t => by
    rw [ex6_val]
    unfold okV
    simp only [val, ex6', vat]
    repeat' split
    all_goals omega) (by decide)
  subst he
  obtain ⟨h1, h2, h3⟩ := h.ok
  exact ⟨chkS_unique h2 (by decide) (fun t ht => by rw [h3 t ht, ex6_val]), rfl⟩
theorem ex6_chk : chkS ex6' = 0 := by decide
theorem ex6_rates : rates ex6' = true := by decide
theorem ex6_int : cum ex6' 10 - cum ex6' 0 = 19 := by decide
theorem ex6_low : lowR ex6' 3 0 10 = ([(0, 2), (4, 10)], 0) := by decide
theorem ex6_most : bestR max ex6' 0 10 = 8 := by decide
end Go.Step
namespace Go.Step
theorem CombP.len {F : Int → Int} {ts : List Int} {out : List Lv} {e : Int} (h : CombP F ts out e) : out.length ≤ 1000 := by
  rcases h with ⟨_, rfl, _⟩ | ⟨_, _, rfl, _⟩ | ⟨_, h, rfl, _⟩
  · simp
  · simp
  · exact h
theorem AddR.len {f out : List Lv} {fr to d e : Int} (h : AddR f fr to d out e) : out.length ≤ 1000 := by
  rcases h with ⟨_, rfl, _⟩ | ⟨_, _, rfl, _⟩ | ⟨a, _, _, _, rfl, _⟩ | ⟨_, _, _, hP⟩
  · simp
  · simp
  · exact (chkS_ok a).1
  · exact hP.len
theorem SumR.len {f g out : List Lv} {e : Int} (h : SumR f g out e) : out.length ≤ 1000 := by
  rcases h with ⟨_, rfl, _⟩ | ⟨_, _, hP⟩
  · simp
  · exact hP.len
end Go.Step
namespace Go.Step
theorem tms_len (f g : List Lv) : (tms f g).length ≤ f.length + g.length := by
  obtain ⟨hsa, hmem⟩ := tms_sa f g
  have h2 := SA.len (f := (f ++ g).map (·.a)) hsa (fun x hx => by
    obtain ⟨l, hl, rfl⟩ := (hmem x).1 hx
    exact List.mem_map.2 ⟨l, hl, rfl⟩)
  rw [List.length_map, List.length_append] at h2
  exact h2
theorem CombP.len2 {F : Int → Int} {ts : List Int} {out : List Lv} {e : Int} (h : CombP F ts out e) : out.length ≤ ts.length := by
  rcases h with ⟨_, rfl, _⟩ | ⟨_, _, rfl, _⟩ | ⟨_, _, rfl, _⟩
  · simp
  · simp
  · exact comb_len F ts 0
theorem AddR.len2 {f out : List Lv} {fr to d e : Int} (h : AddR f fr to d out e) : out.length ≤ f.length + 2 := by
  rcases h with ⟨_, rfl, _⟩ | ⟨_, _, rfl, _⟩ | ⟨a, _, _, _, rfl, _⟩ | ⟨_, _, _, hP⟩
  · simp
  · simp
  · omega
  · have := hP.len2
    have := tms_len f (bump fr to d)
    have : (bump fr to d).length = 2 := rfl
    omega
theorem okV_val {f : List Lv} (h : chkS f = 0) (t : Int) : okV (val f t) := by
  have hA := (chkS_ok h).2
  rcases vat_mem f 0 t with e | ⟨l, hl, e⟩
  · unfold okV val; rw [e]; omega
  · unfold okV val
    rw [e]
    have := hA.gt l hl
    omega
theorem AddR.cond {f out : List Lv} {fr to d : Int} (h : AddR f fr to d out 0) : (0 ≤ fr ∧ fr ≤ to ∧ to ≤ 1099511627776) ∧ -2251799813685248 ≤ d ∧ d ≤ 2251799813685248 := by
  rcases h with ⟨_, _, h⟩ | ⟨_, _, _, h⟩ | ⟨_, b, c, _⟩ | ⟨_, b, c, _⟩
  · simp at h
  · simp at h
  · exact ⟨b, c⟩
  · exact ⟨by omega, c⟩
/-- adding is undone -/
theorem AddR.back {f p out : List Lv} {fr to d e : Int} (h : AddR f fr to d p 0) (hl : f.length ≤ 900) (h' : AddR p fr to (-d) out e) : e = 0 ∧ out = f := by
  obtain ⟨c1, c2, c3⟩ := h.cond
  obtain ⟨h1, h2, h3⟩ := h.ok
  have hlp := h.len2
  have hneg : ∀ t : Int, -1 ≤ t → val p t + (if fr ≤ t ∧ t < to then -d else 0) = val f t := fun t ht => by
    rw [h3 t ht]
    by_cases hc : fr ≤ t ∧ t < to
    · rw [if_pos hc, if_pos hc]; omega
    · rw [if_neg hc, if_neg hc]; omega
  have he : e = 0 := h'.err0 h2 c1 (by omega) (fun t => by
    by_cases ht : -1 ≤ t
    · rw [hneg t ht]; exact okV_val h1 t
    · rw [if_neg (by omega)]
      have := okV_val h2 t
      unfold okV at this ⊢
      omega) (by omega)
  subst he
  obtain ⟨_, k2, k3⟩ := h'.ok
  exact ⟨rfl, chkS_unique k2 h1 (fun t ht => by rw [k3 t ht, hneg t ht])⟩
theorem AddR.swap {f p q r s : List Lv} {a1 a2 a b1 b2 b : Int} (h1 : AddR f a1 a2 a p 0) (h2 : AddR p b1 b2 b q 0) (h3 : AddR f b1 b2 b r 0) (h4 : AddR r a1 a2 a s 0) : q = s := by
  obtain ⟨_, _, e1⟩ := h1.ok
  obtain ⟨_, k2, e2⟩ := h2.ok
  obtain ⟨_, _, e3⟩ := h3.ok
  obtain ⟨_, k4, e4⟩ := h4.ok
  exact chkS_unique k2 k4 (fun t ht => by rw [e2 t ht, e1 t ht, e4 t ht, e3 t ht]; omega)
theorem tms_comm (f g : List Lv) : tms f g = tms g f := by
  obtain ⟨a1, a2⟩ := tms_sa f g
  obtain ⟨b1, b2⟩ := tms_sa g f
  refine SA.unique a1 b1 (fun x => ?_)
  rw [a2, b2]
  constructor <;> (rintro ⟨l, hl, e⟩; exact ⟨l, by rw [List.mem_append] at hl ⊢; exact hl.symm, e⟩)
theorem SumR.comm {f g o : List Lv} {e : Int} (h : SumR f g o e) : SumR g f o e := by
  rcases h with ⟨a, b, c⟩ | ⟨a, b, c⟩
  · exact .inl ⟨a.symm, b, c⟩
  · refine .inr ⟨b, a, ?_⟩
    rw [tms_comm g f]
    have : (fun t => val g t + val f t) = (fun t => val f t + val g t) := funext (fun t => Int.add_comm _ _)
    rw [this]; exact c
theorem SumR.ok {f g o : List Lv} (h : SumR f g o 0) : chkS f = 0 ∧ chkS g = 0 ∧ chkS o = 0 ∧ ∀ t : Int, -1 ≤ t → val o t = val f t + val g t := by
  rcases h with ⟨_, _, h⟩ | ⟨a, b, c⟩
  · simp at h
  · obtain ⟨h1, h2⟩ := CombP.ok (op := (· + ·)) (chkS_ok a).2.t (chkS_ok b).2.t rfl c
    exact ⟨a, b, h1, h2⟩
theorem SumR.assoc {f g k fg gk l r : List Lv} (h1 : SumR f g fg 0) (h2 : SumR g k gk 0) (h3 : SumR fg k l 0) (h4 : SumR f gk r 0) : l = r := by
  obtain ⟨_, _, _, e1⟩ := h1.ok
  obtain ⟨_, _, _, e2⟩ := h2.ok
  obtain ⟨_, _, k3, e3⟩ := h3.ok
  obtain ⟨_, _, k4, e4⟩ := h4.ok
  exact chkS_unique k3 k4 (fun t ht => by rw [e3 t ht, e1 t ht, e4 t ht, e2 t ht]; omega)
end Go.Step
/- Parts cover an interval; greatest and least values are values. No program in sight. No conditions. -/
namespace Go.Step
theorem parts_cover0 (f : List Lv) (to : Int) : ∀ (g : List Lv) (p fr now : Int), Asc p g → fr ≤ to → (∀ t : Int, fr ≤ t → t < to → val f t = vat now (g.dropWhile (fun l => decide (l.a ≤ fr))) t) →
    (∀ t : Int, fr ≤ t → t < to → ∃ q ∈ partsFrom fr to now g, q.1.1 ≤ t ∧ t < q.1.2 ∧ val f t = q.2)
  | [], p, fr, now, _, h1, H => by
    intro t a b
    simp only [partsFrom]
    rw [if_pos (by omega)]
    exact ⟨_, List.mem_singleton.2 rfl, a, b, by rw [H t a b]; rfl⟩
  | l :: g, p, fr, now, hA, h1, H => by
    intro t a b
    simp only [partsFrom]
    by_cases hs : l.a ≤ fr ∨ to ≤ fr
    · rw [if_pos hs]
      refine parts_cover0 f to g l.a fr now hA.2.2.2 h1 (fun t a b => ?_) t a b
      rcases hs with hs | hs
      · rw [H t a b, List.dropWhile_cons_of_pos (by simpa using hs)]
      · omega
    · rw [if_neg hs]
      simp only [not_or] at hs
      have hdr : (l :: g).dropWhile (fun l => decide (l.a ≤ fr)) = l :: g := List.dropWhile_cons_of_neg (by simpa using hs.1)
      by_cases hlt : t < min l.a to
      · refine ⟨_, List.mem_cons_self .., a, hlt, ?_⟩
        rw [H t a b, hdr]
        simp only [vat]
        rw [if_neg (by omega)]
      · have hm : min l.a to = l.a := by omega
        obtain ⟨q, hq, k⟩ := parts_cover0 f to g l.a l.a l.v hA.2.2.2 (by omega) (fun t a b => by
          rw [H t (by omega) b, hdr, drop_none g l.a l.a hA.2.2.2 (Int.le_refl _)]
          simp only [vat]
          rw [if_pos a]) t (by omega) b
        exact ⟨q, List.mem_cons_of_mem _ (by rw [hm]; exact hq), k⟩
theorem parts_cover {f : List Lv} {p fr to : Int} (hA : Asc p f) (h1 : fr ≤ to) {t : Int} (a : fr ≤ t) (b : t < to) : ∃ q ∈ parts f fr to, q.1.1 ≤ t ∧ t < q.1.2 ∧ val f t = q.2 :=
  parts_cover0 f to f p fr (val f fr) hA h1 (fun t a _ => vat_drop f p 0 fr t hA a) t a b
theorem parts_starts {to : Int} : ∀ (g : List Lv) (fr now : Int), ∀ q ∈ partsFrom fr to now g, q.1.1 = fr ∨ ∃ l ∈ g, l.a = q.1.1
  | [], fr, now, q, hq => by
    simp only [partsFrom] at hq
    split at hq
    · simp at hq; subst hq; exact .inl rfl
    · simp at hq
  | l :: g, fr, now, q, hq => by
    simp only [partsFrom] at hq
    split at hq
    · rcases parts_starts g fr now q hq with h | ⟨m, hm, h⟩
      · exact .inl h
      · exact .inr ⟨m, by simp [hm], h⟩
    · simp only [List.mem_cons] at hq
      rcases hq with rfl | hq
      · exact .inl rfl
      · by_cases hlt : l.a < to
        · have hm : min l.a to = l.a := by omega
          rw [hm] at hq
          rcases parts_starts g l.a l.v q hq with h | ⟨m, hm, h⟩
          · exact .inr ⟨l, by simp, h.symm⟩
          · exact .inr ⟨m, by simp [hm], h⟩
        · have hm : min l.a to = to := by omega
          rw [hm, partsFrom_end] at hq
          simp at hq
theorem foldMax (ps : List Pt) : ∀ a : Int, a ≤ foldP max a ps ∧ (∀ q ∈ ps, q.2 ≤ foldP max a ps) ∧ (foldP max a ps = a ∨ ∃ q ∈ ps, foldP max a ps = q.2) := by
  induction ps with
  | nil => intro a; simp [foldP]
  | cons p ps ih =>
    intro a
    obtain ⟨h1, h2, h3⟩ := ih (max a p.2)
    have e : foldP max a (p :: ps) = foldP max (max a p.2) ps := rfl
    rw [e]
    refine ⟨by omega, fun q hq => ?_, ?_⟩
    · simp only [List.mem_cons] at hq
      rcases hq with rfl | hq
      · omega
      · exact h2 q hq
    · rcases h3 with h3 | ⟨q, hq, h3⟩
      · by_cases hc : a ≤ p.2
        · exact .inr ⟨p, by simp, by rw [h3]; omega⟩
        · exact .inl (by rw [h3]; omega)
      · exact .inr ⟨q, by simp [hq], h3⟩
theorem foldMin (ps : List Pt) : ∀ a : Int, foldP min a ps ≤ a ∧ (∀ q ∈ ps, foldP min a ps ≤ q.2) ∧ (foldP min a ps = a ∨ ∃ q ∈ ps, foldP min a ps = q.2) := by
  induction ps with
  | nil => intro a; simp [foldP]
  | cons p ps ih =>
    intro a
    obtain ⟨h1, h2, h3⟩ := ih (min a p.2)
    have e : foldP min a (p :: ps) = foldP min (min a p.2) ps := rfl
    rw [e]
    refine ⟨by omega, fun q hq => ?_, ?_⟩
    · simp only [List.mem_cons] at hq
      rcases hq with rfl | hq
      · omega
      · exact h2 q hq
    · rcases h3 with h3 | ⟨q, hq, h3⟩
      · by_cases hc : p.2 ≤ a
        · exact .inr ⟨p, by simp, by rw [h3]; omega⟩
        · exact .inl (by rw [h3]; omega)
      · exact .inr ⟨q, by simp [hq], h3⟩
/-- the times that a law looks at -/
def nearL (w1 x1 w2 x2 : Int) (ls : List (List Lv)) : List Int := [0, w1, x1, w2, x2, 1099511627776] ++ ls.flatMap (fun f => f.flatMap (fun l => [l.a - 1, l.a]))
theorem mem_near {w1 x1 w2 x2 : Int} {ls : List (List Lv)} {f : List Lv} {l : Lv} (hf : f ∈ ls) (hl : l ∈ f) : l.a ∈ nearL w1 x1 w2 x2 ls := by
  unfold nearL
  rw [List.mem_append]
  right
  rw [List.mem_flatMap]
  exact ⟨f, hf, List.mem_flatMap.2 ⟨l, hl, by simp⟩⟩
theorem best_laws {f : List Lv} {fr to : Int} (h0 : chkS f = 0) (hs : 0 ≤ fr ∧ fr ≤ to ∧ to ≤ 1099511627776) (hne : fr ≠ to) :
    (∀ t : Int, fr ≤ t → t < to → val f t ≤ bestR max f fr to ∧ bestR min f fr to ≤ val f t) ∧ (∃ t : Int, (t = fr ∨ ∃ l ∈ f, l.a = t) ∧ fr ≤ t ∧ t < to ∧ val f t = bestR max f fr to) ∧ (∃ t : Int, (t = fr ∨ ∃ l ∈ f, l.a = t) ∧ fr ≤ t ∧ t < to ∧ val f t = bestR min f fr to) := by
  have hA := (chkS_ok h0).2
  have e1 : bestR max f fr to = foldP max (val f fr) (parts f fr to) := by unfold bestR; rw [if_pos ⟨h0, hs, hne⟩]
  have e2 : bestR min f fr to = foldP min (val f fr) (parts f fr to) := by unfold bestR; rw [if_pos ⟨h0, hs, hne⟩]
  obtain ⟨m1, m2, m3⟩ := foldMax (parts f fr to) (val f fr)
  obtain ⟨n1, n2, n3⟩ := foldMin (parts f fr to) (val f fr)
  obtain ⟨_, hq⟩ := parts_area hA hs.1 hs.2.1
  rw [e1, e2]
  refine ⟨fun t a b => ?_, ?_, ?_⟩
  · obtain ⟨q, h1, _, _, h4⟩ := parts_cover hA hs.2.1 a b
    rw [h4]
    exact ⟨m2 q h1, n2 q h1⟩
  · rcases m3 with h | ⟨q, h1, h⟩
    · exact ⟨fr, .inl rfl, Int.le_refl _, by omega, h.symm⟩
    · obtain ⟨a1, a2, a3, a4⟩ := hq q h1
      exact ⟨q.1.1, parts_starts f fr _ q h1, a1, by omega, by rw [← a4, h]⟩
  · rcases n3 with h | ⟨q, h1, h⟩
    · exact ⟨fr, .inl rfl, Int.le_refl _, by omega, h.symm⟩
    · obtain ⟨a1, a2, a3, a4⟩ := hq q h1
      exact ⟨q.1.1, parts_starts f fr _ q h1, a1, by omega, by rw [← a4, h]⟩
end Go.Step
/- Where a function is low: intervals apart from each other. No program in sight. No conditions. -/
namespace Go.Step
/-- parts that follow on each other -/
def Chn (a : Int) : List Pt → Int → Prop
  | [], b => a = b
  | p :: ps, b => p.1.1 = a ∧ a < p.1.2 ∧ Chn p.1.2 ps b
theorem parts_chn (to : Int) : ∀ (g : List Lv) (fr now : Int), fr ≤ to → Chn fr (partsFrom fr to now g) to
  | [], fr, now, h => by
    unfold partsFrom
    split
    · exact ⟨rfl, by assumption, rfl⟩
    · show fr = to; omega
  | l :: g, fr, now, h => by
    unfold partsFrom
    split
    · exact parts_chn to g fr now h
    · rename_i hc
      exact ⟨rfl, by dsimp only; omega, parts_chn to g (min l.a to) l.v (by omega)⟩
theorem chn_ge {b : Int} : ∀ {ps : List Pt} {a : Int}, Chn a ps b → ∀ q ∈ ps, a ≤ q.1.1
  | [], _, _, q, hq => by simp at hq
  | p :: ps, a, ⟨h1, h2, h3⟩, q, hq => by
    rcases List.mem_cons.1 hq with rfl | hq
    · omega
    · have := chn_ge h3 q hq; omega
theorem chn_one {b t : Int} : ∀ {ps : List Pt} {a : Int}, Chn a ps b → ∀ {q r : Pt}, q ∈ ps → r ∈ ps → q.1.1 ≤ t ∧ t < q.1.2 → r.1.1 ≤ t ∧ t < r.1.2 → q = r
  | [], _, _, q, _, hq, _, _, _ => by simp at hq
  | p :: ps, a, ⟨h1, h2, h3⟩, q, r, hq, hr, k, k' => by
    rcases List.mem_cons.1 hq with e | hq'
    · rcases List.mem_cons.1 hr with e' | hr'
      · rw [e, e']
      · have := chn_ge h3 r hr'; subst e; omega
    · rcases List.mem_cons.1 hr with e' | hr'
      · have := chn_ge h3 q hq'; subst e'; omega
      · exact chn_one h3 hq' hr' k k'
def Cov (l : List (Int × Int)) (t : Int) : Prop := ∃ s ∈ l, s.1 ≤ t ∧ t < s.2
structure Apart (lo a : Int) (l : List (Int × Int)) : Prop where
  ok : ∀ s ∈ l, lo ≤ s.1 ∧ s.1 < s.2 ∧ s.2 ≤ a
  sep : l.Pairwise (fun s t => s.2 < t.1)
theorem bstep_ok {lim lo a : Int} {out : List (Int × Int)} {p : Pt} (h : Apart lo a out) (hlo : lo ≤ a) (h1 : p.1.1 = a) (h2 : a < p.1.2) :
    Apart lo p.1.2 (bstep lim out p) ∧ ∀ t, Cov (bstep lim out p) t ↔ Cov out t ∨ (p.2 ≤ lim ∧ p.1.1 ≤ t ∧ t < p.1.2) := by
  obtain ⟨⟨p1, p2⟩, pv⟩ := p
  dsimp only at h1 h2 ⊢
  subst h1
  by_cases hc : lim < pv
  · have e : bstep lim out ((p1, p2), pv) = out := by unfold bstep; rw [if_pos hc]
    rw [e]
    refine ⟨⟨fun s hs => ?_, h.sep⟩, fun t => ?_⟩
    · have := h.ok s hs; omega
    · constructor
      · exact fun h => .inl h
      · rintro (h | h)
        · exact h
        · omega
  · cases hg : out.getLast? with
    | none =>
      have ho : out = [] := List.getLast?_eq_none_iff.1 hg
      subst ho
      have e : bstep lim [] ((p1, p2), pv) = [(p1, p2)] := by unfold bstep; rw [if_neg hc]; rfl
      rw [e]
      refine ⟨⟨fun s hs => ?_, by simp⟩, fun t => ?_⟩
      · simp at hs; subst hs; exact ⟨hlo, h2, Int.le_refl _⟩
      · constructor
        · rintro ⟨s, hs, k⟩
          simp at hs; subst hs
          exact .inr ⟨by omega, k⟩
        · rintro (⟨s, hs, _⟩ | k)
          · simp at hs
          · exact ⟨(p1, p2), by simp, k.2⟩
    | some q =>
      obtain ⟨m, rfl⟩ : ∃ m, out = m ++ [q] := by
        have := List.getLast?_eq_some_iff.1 hg
        exact this
      have hq := h.ok q (by simp)
      have hsep := List.pairwise_append.1 h.sep
      by_cases he : q.2 = p1
      · have e : bstep lim (m ++ [q]) ((p1, p2), pv) = m ++ [(q.1, p2)] := by unfold bstep; rw [if_neg hc, hg]; simp [he]
        rw [e]
        refine ⟨⟨fun s hs => ?_, List.pairwise_append.2 ⟨hsep.1, by simp, fun s hs t ht => ?_⟩⟩, fun t => ?_⟩
        · rcases List.mem_append.1 hs with hs | hs
          · have := h.ok s (by simp [hs]); omega
          · simp at hs; subst hs; dsimp only; omega
        · simp at ht; subst ht
          exact hsep.2.2 s hs q (by simp)
        · constructor
          · rintro ⟨s, hs, k⟩
            rcases List.mem_append.1 hs with hs | hs
            · exact .inl ⟨s, by simp [hs], k⟩
            · simp at hs; subst hs
              dsimp only at k
              by_cases ht : t < p1
              · exact .inl ⟨q, by simp, by omega⟩
              · exact .inr (by omega)
          · rintro (⟨s, hs, k⟩ | k)
            · rcases List.mem_append.1 hs with hs | hs
              · exact ⟨s, by simp [hs], k⟩
              · simp at hs; subst hs
                exact ⟨(s.1, p2), by simp, by dsimp only; omega⟩
            · exact ⟨(q.1, p2), by simp, by dsimp only; omega⟩
      · have e : bstep lim (m ++ [q]) ((p1, p2), pv) = m ++ [q] ++ [(p1, p2)] := by unfold bstep; rw [if_neg hc, hg]; simp [he]
        rw [e]
        refine ⟨⟨fun s hs => ?_, List.pairwise_append.2 ⟨h.sep, by simp, fun s hs t ht => ?_⟩⟩, fun t => ?_⟩
        · rcases List.mem_append.1 hs with hs | hs
          · have := h.ok s hs; omega
          · simp at hs; subst hs; dsimp only; omega
        · simp at ht; subst ht
          dsimp only
          rcases List.mem_append.1 hs with hs | hs
          · have := hsep.2.2 s hs q (by simp)
            omega
          · simp at hs; subst hs; omega
        · constructor
          · rintro ⟨s, hs, k⟩
            rcases List.mem_append.1 hs with hs | hs
            · exact .inl ⟨s, hs, k⟩
            · simp at hs; subst hs
              exact .inr ⟨by omega, k⟩
          · rintro (⟨s, hs, k⟩ | k)
            · exact ⟨s, List.mem_append.2 (.inl hs), k⟩
            · exact ⟨(p1, p2), by simp, k.2⟩
theorem low_fold {lim lo b : Int} : ∀ (ps : List Pt) (a : Int) (out : List (Int × Int)), Apart lo a out → lo ≤ a → Chn a ps b →
    Apart lo b (ps.foldl (bstep lim) out) ∧ ∀ t, Cov (ps.foldl (bstep lim) out) t ↔ Cov out t ∨ ∃ q ∈ ps, q.2 ≤ lim ∧ q.1.1 ≤ t ∧ t < q.1.2
  | [], a, out, h, _, hc => by
    have : a = b := hc
    subst this
    exact ⟨h, fun t => by simp⟩
  | p :: ps, a, out, h, hlo, hc => by
    obtain ⟨c1, c2, c3⟩ := hc
    obtain ⟨b1, b2⟩ := bstep_ok (lim := lim) h hlo c1 c2
    obtain ⟨f1, f2⟩ := low_fold ps p.1.2 (bstep lim out p) b1 (by omega) c3
    refine ⟨f1, fun t => ?_⟩
    rw [List.foldl_cons, f2 t, b2 t]
    simp only [List.mem_cons, exists_eq_or_imp, or_assoc]
theorem low_ok {f : List Lv} {lim fr to : Int} (h0 : chkS f = 0) (hs : 0 ≤ fr ∧ fr ≤ to ∧ to ≤ 1099511627776) :
    Apart fr to (lowP lim (parts f fr to)) ∧ ∀ t, Cov (lowP lim (parts f fr to)) t ↔ (fr ≤ t ∧ t < to) ∧ val f t ≤ lim := by
  obtain ⟨_, hA⟩ := chkS_ok h0
  obtain ⟨a1, a2⟩ := low_fold (lim := lim) (lo := fr) (b := to) (parts f fr to) fr [] ⟨fun s hs => by simp at hs, by simp⟩ (Int.le_refl _) (parts_chn to f fr _ hs.2.1)
  refine ⟨a1, fun t => ?_⟩
  have a2t := a2 t
  unfold lowP
  rw [a2t]
  have hq := (parts_area hA hs.1 hs.2.1).2
  constructor
  · rintro (⟨s, hs, _⟩ | ⟨q, hm, h1, h2, h3⟩)
    · simp at hs
    · have q4 := hq q hm
      obtain ⟨q', hm', g1, g2, g3⟩ := parts_cover hA hs.2.1 (t := t) (by omega) (by omega)
      refine ⟨by omega, ?_⟩
      have e := chn_one (parts_chn to f fr (val f fr) hs.2.1) hm hm' ⟨h2, h3⟩ ⟨g1, g2⟩
      subst e
      omega
  · rintro ⟨⟨h1, h2⟩, h3⟩
    obtain ⟨q', hm', g1, g2, g3⟩ := parts_cover hA hs.2.1 h1 h2
    exact .inr ⟨q', hm', by omega, g1, g2⟩
theorem cov_one {lo a : Int} {l : List (Int × Int)} (h : Apart lo a l) {x y : Int} (hxy : x < y) (hc : ∀ t, x ≤ t → t < y → Cov l t) : ∃ s ∈ l, s.1 ≤ x ∧ y ≤ s.2 := by
  obtain ⟨s, hs, h1, h2⟩ := hc x (Int.le_refl _) hxy
  by_cases hy : y ≤ s.2
  · exact ⟨s, hs, h1, hy⟩
  · obtain ⟨u, hu, k1, k2⟩ := hc s.2 (by omega) (by omega)
    have hsu : s = u ∨ s.2 < u.1 ∨ u.2 < s.1 := by
      obtain ⟨i, hi, rfl⟩ := List.getElem_of_mem hs
      obtain ⟨j, hj, rfl⟩ := List.getElem_of_mem hu
      have := List.pairwise_iff_getElem.1 h.sep
      by_cases e : i = j
      · subst e; exact .inl rfl
      · by_cases e2 : i < j
        · exact .inr (.inl (this i j hi hj e2))
        · exact .inr (.inr (this j i hj hi (by omega)))
    have := h.ok s hs
    rcases hsu with rfl | h | h <;> omega
theorem low_more {f : List Lv} {lim d fr to : Int} (hd : 0 ≤ d) (h0 : chkS f = 0) (hs : 0 ≤ fr ∧ fr ≤ to ∧ to ≤ 1099511627776) :
    ∀ s ∈ lowP lim (parts f fr to), ∃ u ∈ lowP (lim + d) (parts f fr to), u.1 ≤ s.1 ∧ s.2 ≤ u.2 := fun s hm => by
  obtain ⟨a1, a2⟩ := low_ok (lim := lim) h0 hs
  obtain ⟨b1, b2⟩ := low_ok (lim := lim + d) h0 hs
  have := a1.ok s hm
  refine cov_one b1 this.2.1 (fun t h1 h2 => (b2 t).2 ?_)
  have := (a2 t).1 ⟨s, hm, h1, h2⟩
  omega
end Go.Step
/- The free spans of a node are exactly the times with room. No program in sight. No conditions. -/
namespace Go.Step
structure InvF (Q s : Int) (G : Int → Int) (T v : Int) (st : Int × List (Int × Int)) : Prop where
  ap : Apart 0 T st.2
  fr : st.1 = -1 ∨ (0 ≤ st.1 ∧ st.1 ≤ T ∧ ∀ u ∈ st.2, u.2 < st.1)
  cov : ∀ t, 0 ≤ t → t < T → ((Cov st.2 t ∨ (0 ≤ st.1 ∧ st.1 ≤ t)) ↔ G t + s ≤ Q)
  now : 0 ≤ st.1 ↔ v + s ≤ Q
theorem cov_snoc (l : List (Int × Int)) (x : Int × Int) (t : Int) : Cov (l ++ [x]) t ↔ Cov l t ∨ (x.1 ≤ t ∧ t < x.2) := by
  unfold Cov
  constructor
  · rintro ⟨s, hs, h⟩
    rcases List.mem_append.1 hs with hs | hs
    · exact .inl ⟨s, hs, h⟩
    · simp only [List.mem_singleton] at hs; subst hs; exact .inr h
  · rintro (⟨s, hs, h⟩ | h)
    · exact ⟨s, by simp [hs], h⟩
    · exact ⟨x, by simp, h⟩
theorem apart_snoc {T T' : Int} {l : List (Int × Int)} {x : Int × Int} (h : Apart 0 T l) (hT : T ≤ T') (hx : 0 ≤ x.1 ∧ x.1 < x.2 ∧ x.2 ≤ T') (hs : ∀ u ∈ l, u.2 < x.1) : Apart 0 T' (l ++ [x]) := by
  refine ⟨fun s hm => ?_, List.pairwise_append.2 ⟨h.sep, by simp, fun a ha b hb => ?_⟩⟩
  · rcases List.mem_append.1 hm with hm | hm
    · have := h.ok s hm; omega
    · simp only [List.mem_singleton] at hm; subst hm; exact hx
  · simp only [List.mem_singleton] at hb; subst hb; exact hs a ha
theorem apart_mono {T T' : Int} {l : List (Int × Int)} (h : Apart 0 T l) (hT : T ≤ T') : Apart 0 T' l := ⟨fun s hm => by have := h.ok s hm; omega, h.sep⟩
theorem InvF.step {Q s : Int} {G : Int → Int} {T v : Int} {st : Int × List (Int × Int)} (h : InvF Q s G T v st) {T' v' : Int} (h0 : 0 ≤ T) (hT : T < T' ∨ (T = T' ∧ st.2 = [])) (hG : ∀ t, T ≤ t → t < T' → G t = v) : InvF Q s G T' v' (frA Q s st T' v') := by
  have hle : T ≤ T' := by omega
  obtain ⟨fr, out⟩ := st
  obtain ⟨hap, hfr, hcov, hnow⟩ := h
  dsimp only at hap hfr hcov hnow hT
  unfold frA
  by_cases hc : Q - v' < s
  · rw [if_pos hc]
    dsimp only
    by_cases ho : 0 ≤ fr ∧ fr < T'
    · rw [if_pos ho]
      have hsep : ∀ u ∈ out, u.2 < fr := by rcases hfr with h | h; omega; exact h.2.2
      refine ⟨apart_snoc hap hle ⟨ho.1, ho.2, Int.le_refl _⟩ hsep, .inl rfl, fun t ht ht2 => ?_, by constructor <;> intro h <;> omega⟩
      dsimp only
      rw [cov_snoc]
      dsimp only
      by_cases c : t < T
      · have := hcov t ht c
        rw [← this]
        constructor
        · rintro ((h | h) | h)
          · exact .inl h
          · exact .inr ⟨ho.1, h.1⟩
          · omega
        · rintro (h | h)
          · exact .inl (.inl h)
          · exact .inl (.inr ⟨h.2, ht2⟩)
      · rw [hG t (by omega) ht2]
        have := hnow.1 ho.1
        constructor
        · intro _; exact this
        · intro _
          refine .inl (.inr ⟨?_, ht2⟩)
          rcases hfr with h | h <;> omega
    · rw [if_neg ho]
      refine ⟨apart_mono hap hle, .inl rfl, fun t ht ht2 => ?_, by constructor <;> intro h <;> dsimp only at * <;> omega⟩
      dsimp only
      by_cases c : t < T
      · rw [← hcov t ht c]
        constructor
        · rintro (h | h)
          · exact .inl h
          · omega
        · rintro (h | h)
          · exact .inl h
          · omega
      · rw [hG t (by omega) ht2]
        constructor
        · rintro (⟨u, hu, h⟩ | h)
          · have := hap.ok u hu; omega
          · omega
        · intro h
          have := hnow.2 h
          exact absurd ⟨this, by rcases hfr with k | k <;> omega⟩ ho
  · rw [if_neg hc]
    dsimp only
    by_cases ho : fr < 0
    · rw [if_pos ho]
      refine ⟨apart_mono hap hle, .inr ⟨by dsimp only; omega, Int.le_refl _, fun u hu => ?_⟩, fun t ht ht2 => ?_, by constructor <;> intro h <;> dsimp only at * <;> omega⟩
      · dsimp only at hu ⊢
        have := hap.ok u hu
        rcases hT with h | h
        · omega
        · rw [h.2] at hu; simp at hu
      · dsimp only
        by_cases c : t < T
        · rw [← hcov t ht c]
          constructor
          · rintro (h | h)
            · exact .inl h
            · omega
          · rintro (h | h)
            · exact .inl h
            · omega
        · rw [hG t (by omega) ht2]
          constructor
          · rintro (⟨u, hu, h⟩ | h)
            · have := hap.ok u hu; omega
            · omega
          · intro h
            have := hnow.2 h; omega
    · rw [if_neg ho]
      have hf : 0 ≤ fr ∧ fr ≤ T ∧ ∀ u ∈ out, u.2 < fr := by
        rcases hfr with h | h
        · omega
        · exact h
      refine ⟨apart_mono hap hle, .inr ⟨hf.1, by dsimp only; omega, hf.2.2⟩, fun t ht ht2 => ?_, by constructor <;> intro h <;> dsimp only at * <;> omega⟩
      dsimp only
      by_cases c : t < T
      · exact hcov t ht c
      · rw [hG t (by omega) ht2]
        have := hnow.1 hf.1
        constructor
        · intro _; exact this
        · intro _; exact .inr ⟨hf.1, by omega⟩
theorem InvF.fin {Q s : Int} {G : Int → Int} {T v : Int} {st : Int × List (Int × Int)} (h : InvF Q s G T v st) (h0 : 0 ≤ T) (hT : T ≤ 1099511627776) (hG : ∀ t, T ≤ t → t < 1099511627776 → G t = v) :
    Apart 0 1099511627776 (finA st) ∧ ∀ t, 0 ≤ t → t < 1099511627776 → (Cov (finA st) t ↔ G t + s ≤ Q) := by
  obtain ⟨fr, out⟩ := st
  obtain ⟨hap, hfr, hcov, hnow⟩ := h
  dsimp only at hap hfr hcov hnow
  unfold finA
  dsimp only
  by_cases ho : 0 ≤ fr ∧ fr < 1099511627776
  · rw [if_pos ho]
    have hf : fr ≤ T ∧ ∀ u ∈ out, u.2 < fr := by rcases hfr with h | h; omega; exact h.2
    refine ⟨apart_snoc hap hT ⟨ho.1, ho.2, Int.le_refl _⟩ hf.2, fun t ht ht2 => ?_⟩
    rw [cov_snoc]
    dsimp only
    by_cases c : t < T
    · rw [← hcov t ht c]
      constructor
      · rintro (h | h)
        · exact .inl h
        · exact .inr ⟨ho.1, h.1⟩
      · rintro (h | h)
        · exact .inl h
        · exact .inr ⟨h.2, ht2⟩
    · rw [hG t (by omega) ht2]
      have := hnow.1 ho.1
      constructor
      · intro _; exact this
      · intro _; exact .inr ⟨by omega, ht2⟩
  · rw [if_neg ho]
    refine ⟨apart_mono hap hT, fun t ht ht2 => ?_⟩
    by_cases c : t < T
    · rw [← hcov t ht c]
      constructor
      · exact fun h => .inl h
      · rintro (h | h)
        · exact h
        · omega
    · rw [hG t (by omega) ht2]
      constructor
      · rintro ⟨u, hu, h⟩
        have := hap.ok u hu; omega
      · intro h
        have := hnow.2 h
        exact absurd ⟨this, by rcases hfr with k | k <;> omega⟩ ho
theorem free_fold2 {Q s : Int} {G : Int → Int} : ∀ {f : List Lv} {p T v : Int} {st : Int × List (Int × Int)}, AscT p f → InvF Q s G T v st → 0 ≤ T → T ≤ 1099511627776 → (T = p ∨ (p = -1 ∧ T = 0 ∧ st.2 = [])) → (∀ t, T ≤ t → G t = vat v f t) →
    Apart 0 1099511627776 (finA (f.foldl (frL Q s) st)) ∧ ∀ t, 0 ≤ t → t < 1099511627776 → (Cov (finA (f.foldl (frL Q s) st)) t ↔ G t + s ≤ Q)
  | [], p, T, v, st, _, h, h0, h1, _, hG => h.fin h0 h1 (fun t ht _ => hG t ht)
  | x :: f, p, T, v, st, hA, h, h0, h1, hp, hG => by
    have hxa : p < x.a ∧ x.a ≤ 1099511627776 := hA.gt x (by simp)
    have hA2 : AscT x.a f := hA.2.2
    have hv1 : ∀ t, T ≤ t → t < x.a → G t = v := fun t ht h2 => by
      rw [hG t ht]
      exact vat_late (x :: f) v t (fun l hl => by simp at hl; subst hl; exact h2)
    rw [List.foldl_cons]
    by_cases c : x.a < 1099511627776
    · have e : frL Q s st x = frA Q s st x.a x.v := by unfold frL; rw [if_pos c]
      rw [e]
      refine free_fold2 (p := x.a) (T := x.a) (v := x.v) hA2 (h.step h0 (by rcases hp with h | ⟨h, k, m⟩; exact .inl (by omega); exact if c : T < x.a then .inl c else .inr ⟨by omega, m⟩) hv1) (by omega) hxa.2 (.inl rfl) (fun t ht => ?_)
      rw [hG t (by omega)]
      have := vat_append [x] f v t (by simpa using ht)
      rw [List.singleton_append] at this
      have e2 : vat v [x] t = x.v := vat_last [] x v t (by simp) ht
      rw [this, e2]
    · have e : frL Q s st x = st := by unfold frL; rw [if_neg c]
      have hf : f = [] := by
        cases f with
        | nil => rfl
        | cons y f => have := hA2.gt y (by simp); omega
      subst hf
      rw [e]
      exact h.fin h0 h1 (fun t ht h2 => hv1 t ht (by omega))
theorem free_exact {Q s : Int} {f : List Lv} (hA : AscT (-1) f) : Apart 0 1099511627776 (freeP Q s f) ∧ ∀ t, 0 ≤ t → t < 1099511627776 → (Cov (freeP Q s f) t ↔ val f t + s ≤ Q) := by
  unfold freeP
  refine free_fold2 (G := val f) (p := -1) (T := 0) (v := 0) hA ?_ (by omega) (by omega) ?_ (fun t _ => rfl)
  · unfold frA
    by_cases c : Q - 0 < s
    · rw [if_pos c]
      exact ⟨⟨by simp, by simp⟩, .inl rfl, fun t h1 h2 => by omega, by constructor <;> intro h <;> dsimp only at * <;> omega⟩
    · rw [if_neg c]
      exact ⟨⟨by simp, by simp⟩, .inr ⟨by simp, by simp, by simp⟩, fun t h1 h2 => by omega, by constructor <;> intro h <;> simp at * <;> omega⟩
  · refine .inr ⟨rfl, rfl, ?_⟩
    unfold frA
    by_cases c : Q - 0 < s
    · rw [if_pos c]; rfl
    · rw [if_neg c]
theorem stored_const {n a b : Int} (hab : a ≤ b) : ∀ {l : List Hd}, (∀ y ∈ tmH l n, ¬ (a < y ∧ y ≤ b)) → stored l n b = stored l n a
  | [], _ => rfl
  | h :: l, H => by
    have ih := stored_const hab (l := l) (fun y hy => H y (by
      obtain ⟨g, hg, k⟩ := mem_tmH.1 hy
      exact mem_tmH.2 ⟨g, by simp [hg], k⟩))
    simp only [stored, ih]
    by_cases hn : h.n = n
    · have h1 := H h.a (mem_tmH.2 ⟨h, by simp, hn, .inl rfl⟩)
      have h2 := H h.b (mem_tmH.2 ⟨h, by simp, hn, .inr rfl⟩)
      simp only [hn, true_and]
      split <;> split <;> omega
    · simp only [hn, false_and, if_false]
theorem lvH_val {l : List Hd} {n : Int} {nq : Nat} (hok : ∀ h ∈ l, okHd nq h) {t : Int} (ht : -1 ≤ t) : val (lvH l n) t = stored l n t := by
  obtain ⟨h1, h2⟩ := hts_sa l n
  have e0 : stored l n (-1) = 0 := stored_early (fun h hl hn => by have := (hok h hl).2.1; omega)
  unfold lvH val
  rw [vat_comb h1]
  have := tv_eq (F := stored l n) (p := -1) (t := t) h1 (fun x hx => by
    obtain ⟨h, hl, _, hx⟩ := mem_tmH.1 ((h2 x).1 hx)
    have := (hok h hl).2.1
    omega) ht (fun a b _ hab hy => stored_const hab (fun y hm => hy y ((h2 y).2 hm)))
  rw [e0] at this
  exact this
/-- the free spans of a node, for holds -/
theorem free_holds {l : List Hd} {n Q s : Int} {nq : Nat} (hok : ∀ h ∈ l, okHd nq h) (hl : l.length ≤ 600) : Apart 0 1099511627776 (freeP Q s (lvH l n)) ∧ ∀ t, 0 ≤ t → t < 1099511627776 → (Cov (freeP Q s (lvH l n)) t ↔ stored l n t + s ≤ Q) := by
  obtain ⟨h1, h2⟩ := free_exact (Q := Q) (s := s) (lvH_asc (n := n) hok hl)
  refine ⟨h1, fun t ht ht2 => ?_⟩
  rw [h2 t ht ht2, lvH_val hok (by omega)]
end Go.Step
/- Laws on holds: some released, one more, in whatever order. No program in sight. No conditions. -/
namespace Go.Step
theorem chkH_of {qs : List Int} {cs : List Ct} {l : List Hd} (hp : chkPl qs cs = 0) (hl : l.length ≤ 512) (hok : ∀ x ∈ l, okHd qs.length x) (hs : SortH l) (hf : fitB qs l = true) : chkH qs cs l = 0 := by
  unfold chkH
  rw [if_neg (by simpa using hp), if_neg (by omega), if_neg (by simpa using sortH_first hok hs), if_pos hf]
theorem fit_filter {qs : List Int} {l : List Hd} (p : Hd → Bool) (hok : ∀ x ∈ l, okHd qs.length x) (hf : fitB qs l = true) : fitB qs (l.filter p) = true := by
  rw [fitB_iff] at *
  intro h hh
  have h1 := hf h (List.mem_filter.1 hh).1
  have h2 := stored_filter p h.n h.a l (fun x hx => by have := (hok x hx).2.2.1; omega)
  omega
theorem rel_ins {l : List Hd} {h : Hd} (hn : ∀ x ∈ l, x.k ≠ h.k) : relH (insH l h) h.k = l := by
  have e := List.takeWhile_append_dropWhile (p := fun x => decide (cmpHd x h ≤ 0)) (l := l)
  unfold relH insH insW
  rw [List.filter_append, List.filter_cons_of_neg (by simp), ← List.filter_append, e]
  exact List.filter_eq_self.2 (fun x hx => by simpa using hn x hx)
theorem relH_none (l : List Hd) (k : Int) : ∀ x ∈ relH l k, x.k ≠ k := fun x hx => by
  have := (List.mem_filter.1 hx).2
  simpa using this
/-- what fits at the beginnings fits always -/
theorem fits_t {l : List Hd} {n Q : Int} {nq : Nat} (hok : ∀ h ∈ l, okHd nq h) (hQ : 0 ≤ Q) : (∀ h ∈ l, h.n = n → stored l n h.a ≤ Q) ↔ ∀ t, stored l n t ≤ Q := by
  constructor
  · intro H t
    rcases last_active (n := n) (t := t) l with c | ⟨h, hl, k1, k2, k3⟩
    · have : stored l n t ≤ stored l n (-1) := stored_mono (fun g hg => ⟨by have := (hok g hg).2.2.1; omega, fun a b d => absurd ⟨b, d⟩ (c g hg a)⟩)
      have e0 : stored l n (-1) = 0 := stored_early (fun h hl hn => by have := (hok h hl).2.1; omega)
      omega
    · have : stored l n t ≤ stored l n h.a := stored_mono (fun g hg => ⟨by have := (hok g hg).2.2.1; omega, fun a b d => ⟨k3 g hg a b d, by omega⟩⟩)
      have := H h hl k1
      omega
  · exact fun H h _ _ => H h.a
theorem fit_iff_t {qs : List Int} {l : List Hd} {h : Hd} (hok : ∀ x ∈ l, okHd qs.length x) (hh : okHd qs.length h) (hf : fitB qs l = true) (hQ : 0 ≤ qs.getD h.n.toNat 0) :
    fitB qs (insH l h) = true ↔ ∀ t, h.a ≤ t → t < h.b → stored l h.n t + h.s ≤ qs.getD h.n.toNat 0 := by
  have hok2 : ∀ x ∈ insH l h, okHd qs.length x := fun x hx => by
    rcases (insW_mem _ l h x).1 hx with rfl | hx
    · exact hh
    · exact hok x hx
  rw [fit_ins hok hh hf hQ, decide_eq_true_iff, most_fits hok2 hQ, fits_t hok2 hQ]
  have hl : ∀ t, stored l h.n t ≤ qs.getD h.n.toNat 0 := (fits_t hok hQ).1 (fun x hx e => by
    have := fitB_iff.1 hf x hx
    rw [e] at this; exact this)
  constructor
  · intro H t h1 h2
    have := H t
    rw [stored_ins, if_pos ⟨rfl, h1, h2⟩] at this
    exact this
  · intro H t
    rw [stored_ins]
    by_cases c : h.a ≤ t ∧ t < h.b
    · rw [if_pos ⟨rfl, c⟩]; exact H t c.1 c.2
    · rw [if_neg (fun k => c k.2)]; have := hl t; omega
def insideB (F : List (Int × Int)) (a b : Int) : Bool := F.any (fun s => decide (s.1 ≤ a) && decide (b ≤ s.2))
theorem inside_iff {F : List (Int × Int)} (hF : Apart 0 1099511627776 F) {a b : Int} (hab : a < b) : insideB F a b = true ↔ ∀ t, a ≤ t → t < b → Cov F t := by
  unfold insideB
  rw [List.any_eq_true]
  constructor
  · rintro ⟨s, hs, h⟩ t h1 h2
    simp only [Bool.and_eq_true, decide_eq_true_eq] at h
    exact ⟨s, hs, by omega, by omega⟩
  · intro H
    obtain ⟨s, hs, h1, h2⟩ := cov_one hF hab H
    exact ⟨s, hs, by simp [h1, h2]⟩
/-- one more fits exactly if it lies within a free span -/
theorem add_inside {qs : List Int} {l : List Hd} {h : Hd} (hok : ∀ x ∈ l, okHd qs.length x) (hh : okHd qs.length h) (hf : fitB qs l = true) (hQ : 0 ≤ qs.getD h.n.toNat 0) (hl : l.length ≤ 600) :
    fitB qs (insH l h) = insideB (freeP (qs.getD h.n.toNat 0) h.s (lvH l h.n)) h.a h.b := by
  obtain ⟨k1, k2⟩ := free_holds (n := h.n) (Q := qs.getD h.n.toNat 0) (s := h.s) hok hl
  have hab := hh.2.1
  rw [Bool.eq_iff_iff, fit_iff_t hok hh hf hQ, inside_iff k1 hab.2.1]
  constructor
  · intro H t h1 h2
    exact (k2 t (by omega) (by omega)).2 (H t h1 h2)
  · intro H t h1 h2
    exact (k2 t (by omega) (by omega)).1 (H t h1 h2)
theorem insH_perm (l : List Hd) (h : Hd) : (insH l h).Perm (h :: l) := by
  have e := List.takeWhile_append_dropWhile (p := fun x => decide (cmpHd x h ≤ 0)) (l := l)
  have := List.perm_middle (a := h) (l₁ := l.takeWhile (fun x => decide (cmpHd x h ≤ 0))) (l₂ := l.dropWhile (fun x => decide (cmpHd x h ≤ 0)))
  rw [e] at this
  exact this
theorem ins_comm {l : List Hd} (hs : SortH l) (a b : Hd) : insH (insH l a) b = insH (insH l b) a := by
  refine List.Perm.eq_of_pairwise (le := fun x y => cmpHd x y ≤ 0) (fun x y _ _ h1 h2 => cmpHd_anti (by have := cmpHd_neg x y; omega)) (insH_sort (insH_sort hs a) b) (insH_sort (insH_sort hs b) a) ?_
  exact ((insH_perm _ b).trans ((insH_perm l a).cons b)).trans ((List.Perm.swap a b l).trans ((((insH_perm l b).cons a).symm).trans (insH_perm _ a).symm))
theorem add_ok {qs : List Int} {cs : List Ct} {l : List Hd} {h : Hd} (h0 : chkH qs cs l = 0) (hl : l.length < 512) (hok : ∀ x ∈ l, okHd qs.length x) (hs : SortH l) (hp : chkPl qs cs = 0) (hh : okHd qs.length h) (hf : fitB qs (insH l h) = true) : chkH qs cs (insH l h) = 0 :=
  chkH_of hp (by rw [show (insH l h).length = l.length + 1 from insW_len _ _ _]; omega) (fun x hx => by
    rcases (insW_mem _ l h x).1 hx with rfl | hx
    · exact hh
    · exact hok x hx) (insH_sort hs h) hf
theorem add_res {qs : List Int} {cs : List Ct} {l : List Hd} {h : Hd} (h0 : chkH qs cs l = 0) (hl : l.length < 512) (hh : okHd qs.length h) : addR qs cs l h = if fitB qs (insH l h) then (insH l h, 0) else ([], 15) := by
  unfold addR
  rw [if_neg (fun h => h h0), if_neg (fun h => h hh), if_neg (by omega)]
end Go.Step
