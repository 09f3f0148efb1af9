/- Texts of this proof, one after the other; no conditions. -/
import Derived.Test.YtnbihndlbopmeaaWB9
import Derived.Test.YtnbihndlbopmeaaWB3
import Derived.Test.YtnbihndlbopmeaaWB4
set_option linter.all false
/- The law on profiles. -/
namespace Go.Proofs.Ytnbihndlbopmeaa
open Go.Eng Go.Step
set_option maxRecDepth 100000
set_option maxHeartbeats 4000000

theorem prof_rates {l : List Hd} {n : Int} {nq : Nat} (hok : ∀ h ∈ l, okHd nq h) (h16 : l.length ≤ 16) : rates (lvH l n) = true := by
  unfold rates
  rw [List.all_eq_true]
  intro x hx
  have h1 := (comb_mem hx).1
  have h2 := stored_bd (n := n) (t := x.a) hok
  simp only [decide_eq_true_eq]
  omega
set_option maxHeartbeats 32000000 in
theorem profiles_law (ρ τ σ : PH) (pq pc : Option Addr) (kq kc : Nat) (qs : List Int) (cs : List Ct) (v : Value) (l : List Hd) (n : Int) (hq : IntsAt ρ (.slice pq qs.length kq) qs) (hc : CtAt τ (.slice pc cs.length kc) cs) (hcap : cs.length ≤ kc) (lq : qs.length ≤ 9223372036854775807) (lc : cs.length ≤ 9223372036854775807) (hv : HdAt σ v l) (hl : l.length ≤ 9223372036854775807) :
    Ans Try.prog (fv 4) [.agg #[.slice pq qs.length kq, .slice pc cs.length kc], v, int n] [ρ, τ, σ] (fun r => r = .bool true) := by
  obtain ⟨_, _, e, hrq⟩ := hq.val Eng.encI_len
  simp only [Value.slice.injEq] at e
  obtain ⟨rfl, _, rfl⟩ := e
  have hv2 := hv
  obtain ⟨q, c, rfl, hr⟩ := hv.val encH_len
  refine spec_in (cap := []) Try.func4 rfl rfl Try.ntmps4 rfl (by (repeat (first | exact EnvA.nil EnvI.nil | apply EnvA.cons | apply EnvA.nil | exact EnvI.nil | apply EnvI.cons)); first | done | fail) (fun N β => ?_)
  refine jk_seq ?_
  refine jk_region ?_
  refine jk_op (l_boxS rfl) rfl rfl rfl ?_
  rintro _ _ ⟨b1, rfl, rfl⟩
  refine jk_freeze (ρ := sng b1 _) takeZ ?_
  have c1 : RdN (sng b1 (.cells #[.slice pq qs.length kq, .slice pc cs.length kc] 25 (0, 0))) b1 0 [.slice pq qs.length kq, .slice pc cs.length kc] := rdN_sng (vs := [.slice pq qs.length kq, .slice pc cs.length kc])
  have c10 : rdc (sng b1 (.cells #[.slice pq qs.length kq, .slice pc cs.length kc] 25 (0, 0))) b1 0 = some (.slice pq qs.length kq) := by rw [rdc_sng]; rfl
  refine zq_assign ?_
  refine jk_nil ?_
  refine jk_seq ?_
  refine jk_seq ?_
  refine jk_region ?_
  refine zq_loadS ?_
  refine zq_move ?_
  refine jk_call (small_spec ρ τ σ pq pc kq kc qs cs _ l hq hc hcap lq lc hv2 hl) rfl rfl rdZ rfl rfl ?_
  rintro _ rfl
  cases hsm : smallB qs cs l with
  | false =>
    refine zq_not ?_
    refine zq_move ?_
    refine jk_pass rfl rfl rfl ?_
    refine jk_pass rfl rfl rfl ?_
    refine jk_pass rfl rfl rfl ?_
    refine zq_pick_t ?_
    refine jk_nil ?_
    refine jk_if_t rfl ?_
    refine jk_seq ?_
    refine jk_region ?_
    focus ((refine jk_call awake_spec rfl rfl rdZ rfl rfl ?_; rintro _ rfl))
    refine zq_assign ?_
    refine jk_nil ?_
    exact jk_ret_any (res1 rfl rfl) (by (repeat (first | exact rs_nil | (refine rs_cons ?_ ?_; (focus ((repeat (first | exact .here | apply Mem.there | apply Take.there)); first | done | fail))) | exact fun ρ hρ => hρ | (intro ρ hρ; repeat (first | exact hρ | refine List.mem_cons_of_mem _ ?_)))); first | done | fail) selZ ⟨rfl, rfl⟩
  | true =>
  obtain ⟨h16, h0⟩ := small_ok hsm
  obtain ⟨hok, _, _⟩ := chkH_ok h0
  obtain ⟨hsort, hfit, hquo⟩ := chkH_sort h0
  have hpl := chkH_pl h0
  refine zq_not ?_
  refine zq_move ?_
  refine zq_loadS ?_
  refine jk_call (refPlanCheck_spec ρ τ pq pc kq kc qs cs hq hc lq lc) rfl rfl rdZ rfl rfl ?_
  rw [hpl]
  rintro _ rfl
  refine zq_neF ?_
  refine zq_pick_f ?_
  refine jk_nil ?_
  refine jk_if_f rfl ?_
  refine jk_skip ?_
  refine jk_seq ?_
  refine jk_region ?_
  refine zq_loadS ?_
  refine zq_move ?_
  refine zq_move ?_
  refine jk_callM (profile_spec ρ τ σ pq pc kq kc qs cs _ l n hq hc hcap lq lc hv2 hl) rfl rfl rdZ rfl rfl ?_
  rintro _ σ1 ⟨u1, rfl, hO1⟩
  refine jk_freeze (ρ := σ1) takeZ ?_
  refine zq_move ?_
  refine zq_extract ?_
  refine zq_extract ?_
  refine zq_assign ?_
  refine zq_assign ?_
  refine jk_nil ?_
  refine jk_seq ?_
  refine jk_region ?_
  refine zq_loadS ?_
  refine zq_move ?_
  refine zq_move ?_
  refine jk_call (peak_spec ρ τ σ pq pc kq kc qs cs _ l n hq hc hcap lq lc hv2 hl) rfl rfl rdZ rfl rfl ?_
  rintro _ rfl
  by_cases hbad : n < 0 ∨ (qs.length : Int) ≤ n
  · have hR : profR qs cs l n = ([], 2) := by unfold profR; rw [if_neg (fun h => h h0), if_pos hbad]
    have hR2 : peakR qs cs l n = (0, 2) := by unfold peakR; rw [if_neg (fun h => h h0), if_pos hbad]
    rw [hR, hR2]
    refine zq_move ?_
    refine zq_extract ?_
    refine zq_extract ?_
    refine zq_assign ?_
    refine zq_assign ?_
    refine jk_nil ?_
    refine jk_seq ?_
    refine jk_seq ?_
    refine jk_region ?_
    refine zq_move ?_
    refine zq_ne ?_
    refine zq_move ?_
    refine jk_pass rfl rfl rfl ?_
    refine jk_pass rfl rfl rfl ?_
    refine zq_pick_t ?_
    refine jk_nil ?_
    refine jk_if_t rfl ?_
    refine jk_seq ?_
    refine jk_region ?_
    refine zq_move ?_
    refine zq_eq ?_
    refine zq_move ?_
    refine zq_move ?_
    refine zq_eq ?_
    refine zq_pick_t ?_
    refine zq_move ?_
    focus ((refine jk_call awake_spec rfl rfl rdZ rfl rfl ?_; rintro _ rfl))
    refine zq_pick_t ?_
    refine zq_assign ?_
    refine jk_nil ?_
    exact jk_ret_any (res1 rfl rfl) (by (repeat (first | exact rs_nil | (refine rs_cons ?_ ?_; (focus ((repeat (first | exact .here | apply Mem.there | apply Take.there)); first | done | fail))) | exact fun ρ hρ => hρ | (intro ρ hρ; repeat (first | exact hρ | refine List.mem_cons_of_mem _ ?_)))); first | done | fail) selZ ⟨rfl, rfl⟩
  have hll := lvH_len l n
  have hR : profR qs cs l n = (lvH l n, 0) := by unfold profR; rw [if_neg (fun h => h h0), if_neg hbad, if_neg (by omega)]
  have hR2 : peakR qs cs l n = (mostL (lvH l n), 0) := by unfold peakR; rw [if_neg (fun h => h h0), if_neg hbad]
  rw [hR] at hO1
  rw [hR, hR2]
  dsimp only at hO1 ⊢
  obtain ⟨nn, rfl⟩ : ∃ nn : Nat, n = nn := ⟨n.toNat, by omega⟩
  have hnl : nn < qs.length := by omega
  obtain ⟨bq, oq, rfl, gq⟩ := hrq.int (List.getElem?_eq_getElem hnl)
  have hQ := hquo nn _ (List.getElem?_eq_getElem hnl)
  have hval : ∀ x ∈ lvH l nn, 0 ≤ x.v ∧ x.v ≤ qs[nn] := fun x hx => by
    have h1 := (comb_mem hx).1
    have h2 := stored_bd (n := nn) (t := x.a) hok
    have h3 := (fits_t (n := nn) (Q := qs[nn]) hok hQ.1).1 (fun h hh e => by
      have := fitB_iff.1 hfit h hh
      rw [e, Int.toNat_natCast, List.getD_eq_getElem?_getD, List.getElem?_eq_getElem hnl] at this
      exact this) x.a
    omega
  have hrt := prof_rates (n := nn) hok h16
  have hck : chkS (lvH l nn) = 0 := by
    unfold chkS
    rw [if_neg (by omega)]
    exact lvH_ok hok (by omega)
  have har : ∀ M : Int, M = 1099511627776 → cum (lvH l nn) M.toNat - cum (lvH l nn) (0 : Int).toNat = areaH nn l := fun M hM => by subst hM; exact areaH_cum (n := nn) hok
  generalize lvH l nn = f at hO1 hll hval hrt hck har
  have hF : LvAt σ1 u1 f := hO1.at
  have hF2 := hF
  obtain ⟨p1, k1, rfl, hrF⟩ := hF.val encV_len
  generalize hQQ : qs[nn] = Q at gq hval
  refine zq_move ?_
  refine zq_extract ?_
  refine zq_extract ?_
  refine zq_assign ?_
  refine zq_assign ?_
  refine jk_nil ?_
  refine jk_seq ?_
  refine jk_seq ?_
  refine jk_region ?_
  refine zq_move ?_
  refine zq_neF ?_
  refine zq_move ?_
  refine zq_move ?_
  refine zq_neF ?_
  refine zq_pick_f ?_
  refine jk_nil ?_
  refine jk_if_f rfl ?_
  refine jk_skip ?_
  refine jk_seq ?_
  refine jk_region ?_
  refine zq_assign ?_
  refine zq_assign ?_
  refine jk_nil ?_
  refine jk_seq ?_
  refine jk_seq ?_
  refine jk_region ?_
  refine zq_move ?_
  refine zq_len ?_
  refine zq_move ?_
  refine jk_nil ?_
  refine jk_block ?_
  refine jk_loop [1, 2, 3, 7, 9, 12, 58, 59] (0 : Nat) (fun k => k ≤ f.length) (fun k => [(60, int k), (11, int (mostL (f.take k)))]) (fun _ => []) (fun k => f.length - k) pickZ (by omega) covZ selZ ?_
  intro k hk
  by_cases hlt : k < f.length
  · have hx := List.getElem?_eq_getElem hlt
    have hvx := hval _ (List.getElem_mem hlt)
    have hm := mostL_take hx
    obtain ⟨b4, o4, rfl, hrd, g0, g1⟩ := lvRow hrF hx
    generalize f[k] = x at hrd g0 g1 hm hvx
    refine jk_seq ?_
    refine jk_region ?_
    refine zq_lt ?_
    refine jk_nil ?_
    refine jk_seq ?_
    refine jk_if_t rfl ?_
    refine jk_skip ?_
    refine jk_seq ?_
    refine jk_block ?_
    refine jk_seq ?_
    refine jk_region ?_
    refine zq_idxN ?_
    refine zq_loadS ?_
    refine zl_allocS ?_; rintro _ _ ⟨b, rfl, rfl⟩
    refine zs_storeS ?_; rintro _ _ ⟨rfl, rfl⟩
    refine jk_nil ?_
    refine jk_seq ?_
    refine jk_region ?_
    refine zq_move ?_
    refine zq_fld0 ?_
    refine zq_load ?_
    refine zq_max ?_
    refine zq_assign ?_
    refine jk_nil ?_
    refine jk_seq ?_
    refine jk_draw (.q 0 (.q 1 (.q 2 (.q 3 (.q 4 (.q 5 (.q 6 (.q 7 (.q 8 (.q 9 (.q 10 (.q 11 (.q 12 .nil))))))))))))) [sng b _] rfl (by kernel_rfl) selZ ?_
    refine zd_fld0 ?_
    refine zd_load ?_
    refine zd_ltF ?_
    refine zd_move ?_
    refine zd_fld0 ?_
    refine zd_load ?_
    refine zd_fld0 ?_
    refine zd_load ?_
    refine zd_move ?_
    refine zd_idx1 ?_
    refine zd_load ?_
    refine zd_gtF ?_
    refine zd_pick_f ?_
    refine dj_end ?_
    refine jk_if_f rfl ?_
    refine jk_skip ?_
    refine jk_blk ?_
    refine jk_region ?_
    refine zq_inc ?_
    refine zq_move ?_
    refine jk_nil ?_
    refine jk_round (k + 1) (by omega) (by omega) ?_ selZ
    rw [hm]
    exact covZ
  have hke : k = f.length := by omega
  subst hke
  rw [List.take_length]
  refine jk_seq ?_
  refine jk_region ?_
  refine zq_ltF ?_
  refine jk_nil ?_
  refine jk_seq ?_
  refine jk_if_f rfl ?_
  refine jk_exit rfl ?_
  refine jk_seq ?_
  refine jk_seq ?_
  refine jk_region ?_
  refine zq_move ?_
  refine zq_len ?_
  refine zq_move ?_
  refine jk_nil ?_
  refine jk_block ?_
  refine jk_loop [1, 2, 3, 7, 9, 11, 82, 83] (0 : Nat) (fun k => k ≤ l.length ∧ ∀ h ∈ l.take k, h.b - h.a ≤ 1073741824) (fun k => [(84, int k), (12, int (areaH nn (l.take k)))]) (fun _ => []) (fun k => l.length - k) pickZ ⟨by omega, by simp⟩ covZ selZ ?_
  rintro k2 ⟨hk2, hI⟩
  by_cases hlt2 : k2 < l.length
  · have hx := List.getElem?_eq_getElem hlt2
    have hox := hok _ (List.getElem_mem hlt2)
    have hnx := areaH_next nn hx
    have htk := List.take_succ_eq_append_getElem hlt2
    have hbd := areaH_bd nn k2 (l.take k2) (fun h hh => hok h (List.mem_of_mem_take hh)) hI (by rw [List.length_take]; omega)
    rw [List.take_take, Nat.min_self] at hbd
    obtain ⟨b5, o5, rfl, hrd, g0, g1, g2, g3, g4⟩ := hdRow5 hr hx
    generalize l[k2] = x at hrd g0 g1 g2 g3 g4 hox hnx htk
    generalize areaH nn (l.take k2) = A at hnx hbd
    have hox1 := hox.2.1
    have hox2 := hox.2.2.1
    by_cases hlong : 1073741824 < x.b - x.a
    · refine jk_seq ?_
      refine jk_region ?_
      refine zq_lt ?_
      refine jk_nil ?_
      refine jk_seq ?_
      refine jk_if_t rfl ?_
      refine jk_skip ?_
      refine jk_seq ?_
      refine jk_block ?_
      refine jk_seq ?_
      refine jk_region ?_
      refine zq_idxN ?_
      refine zq_loadS ?_
      refine zl_allocS ?_; rintro _ _ ⟨b, rfl, rfl⟩
      refine zs_storeS ?_; rintro _ _ ⟨rfl, rfl⟩
      refine jk_nil ?_
      refine jk_seq ?_
      refine jk_seq ?_
      refine jk_region ?_
      refine zq_fld0 ?_
      refine zq_load ?_
      refine zq_fld0 ?_
      refine zq_load ?_
      refine zq_sub ?_
      refine zq_gt ?_
      refine jk_nil ?_
      refine jk_if_t rfl ?_
      refine jk_seq ?_
      refine jk_region ?_
      focus ((refine jk_call awake_spec rfl rfl rdZ rfl rfl ?_; rintro _ rfl))
      refine zq_assign ?_
      refine jk_nil ?_
      exact jk_ret_any (res1 rfl rfl) (by (repeat (first | exact rs_nil | (refine rs_cons ?_ ?_; (focus ((repeat (first | exact .here | apply Mem.there | apply Take.there)); first | done | fail))) | exact fun ρ hρ => hρ | (intro ρ hρ; repeat (first | exact hρ | refine List.mem_cons_of_mem _ ?_)))); first | done | fail) selZ ⟨rfl, rfl⟩
    have hI2 : ∀ h ∈ l.take (k2 + 1), h.b - h.a ≤ 1073741824 := fun h hh => by
      rw [htk] at hh
      rcases List.mem_append.1 hh with hh | hh
      · exact hI h hh
      · simp only [List.mem_singleton] at hh; subst hh; omega
    have h3 : 0 ≤ x.s * (x.b - x.a) := Int.mul_nonneg (by omega) (by omega)
    have h4 : x.s * (x.b - x.a) ≤ 70368744177664 := Int.le_trans (Int.mul_le_mul (by omega : x.s ≤ 65536) (by omega : x.b - x.a ≤ 1073741824) (by omega) (by omega)) (by decide)
    by_cases hn : x.n = nn
    · rw [if_pos hn] at hnx
      refine jk_seq ?_
      refine jk_region ?_
      refine zq_lt ?_
      refine jk_nil ?_
      refine jk_seq ?_
      refine jk_if_t rfl ?_
      refine jk_skip ?_
      refine jk_seq ?_
      refine jk_block ?_
      refine jk_seq ?_
      refine jk_region ?_
      refine zq_idxN ?_
      refine zq_loadS ?_
      refine zl_allocS ?_; rintro _ _ ⟨b, rfl, rfl⟩
      refine zs_storeS ?_; rintro _ _ ⟨rfl, rfl⟩
      refine jk_nil ?_
      refine jk_seq ?_
      refine jk_seq ?_
      refine jk_region ?_
      refine zq_fld0 ?_
      refine zq_load ?_
      refine zq_fld0 ?_
      refine zq_load ?_
      refine zq_sub ?_
      refine zq_gtF ?_
      refine jk_nil ?_
      refine jk_if_f rfl ?_
      refine jk_skip ?_
      refine jk_seq ?_
      refine jk_region ?_
      refine zq_fld0 ?_
      refine zq_load ?_
      refine zq_move ?_
      refine zq_eq ?_
      refine jk_nil ?_
      refine jk_if_t rfl ?_
      refine jk_region ?_
      refine zq_move ?_
      refine zq_fld0 ?_
      refine zq_load ?_
      refine zq_fld0 ?_
      refine zq_load ?_
      refine zq_fld0 ?_
      refine zq_load ?_
      refine zq_sub ?_
      refine zq_mul ?_
      refine zq_add ?_
      refine zq_assign ?_
      refine jk_nil ?_
      refine jk_blk ?_
      refine jk_region ?_
      refine zq_inc ?_
      refine zq_move ?_
      refine jk_nil ?_
      refine jk_round (k2 + 1) ⟨by omega, hI2⟩ (by omega) ?_ selZ
      rw [hnx]
      exact covZ
    · rw [if_neg hn] at hnx
      refine jk_seq ?_
      refine jk_region ?_
      refine zq_lt ?_
      refine jk_nil ?_
      refine jk_seq ?_
      refine jk_if_t rfl ?_
      refine jk_skip ?_
      refine jk_seq ?_
      refine jk_block ?_
      refine jk_seq ?_
      refine jk_region ?_
      refine zq_idxN ?_
      refine zq_loadS ?_
      refine zl_allocS ?_; rintro _ _ ⟨b, rfl, rfl⟩
      refine zs_storeS ?_; rintro _ _ ⟨rfl, rfl⟩
      refine jk_nil ?_
      refine jk_seq ?_
      refine jk_seq ?_
      refine jk_region ?_
      refine zq_fld0 ?_
      refine zq_load ?_
      refine zq_fld0 ?_
      refine zq_load ?_
      refine zq_sub ?_
      refine zq_gtF ?_
      refine jk_nil ?_
      refine jk_if_f rfl ?_
      refine jk_skip ?_
      refine jk_seq ?_
      refine jk_region ?_
      refine zq_fld0 ?_
      refine zq_load ?_
      refine zq_move ?_
      refine zq_eqF ?_
      refine jk_nil ?_
      refine jk_if_f rfl ?_
      refine jk_skip ?_
      refine jk_blk ?_
      refine jk_region ?_
      refine zq_inc ?_
      refine zq_move ?_
      refine jk_nil ?_
      refine jk_round (k2 + 1) ⟨by omega, hI2⟩ (by omega) ?_ selZ
      rw [hnx]
      exact covZ
  have hke2 : k2 = l.length := by omega
  subst hke2
  rw [List.take_length]
  refine jk_seq ?_
  refine jk_region ?_
  refine zq_ltF ?_
  refine jk_nil ?_
  refine jk_seq ?_
  refine jk_if_f rfl ?_
  refine jk_exit rfl ?_
  refine jk_seq ?_
  refine jk_region ?_
  refine zq_move ?_
  refine zq_build ?_
  refine jk_call (integral_spec σ1 _ f 0 1099511627776 hF2 (by omega) hrt) rfl rfl rdZ rfl rfl ?_
  rw [if_pos hck, if_pos (by decide), har _ rfl]
  rintro _ rfl
  refine zq_move ?_
  refine zq_extract ?_
  refine zq_extract ?_
  refine zq_assign ?_
  refine zq_assign ?_
  refine jk_nil ?_
  refine jk_seq ?_
  refine jk_region ?_
  refine zq_move ?_
  refine jk_call (stepCheck_spec σ1 _ f hF2 (by omega)) rfl rfl rdZ rfl rfl ?_
  rw [hck]
  rintro _ rfl
  generalize areaH nn l = A
  generalize mostL f = mo
  refine zq_eq ?_
  refine zq_move ?_
  refine zq_move ?_
  refine zq_move ?_
  refine zq_eq ?_
  refine zq_pick_t ?_
  refine zq_move ?_
  refine zq_move ?_
  refine zq_eq ?_
  refine zq_pick_t ?_
  refine zq_move ?_
  refine zq_move ?_
  refine zq_move ?_
  refine zq_eq ?_
  refine zq_pick_t ?_
  refine zq_move ?_
  focus ((refine jk_call awake_spec rfl rfl rdZ rfl rfl ?_; rintro _ rfl))
  refine zq_pick_t ?_
  refine zq_assign ?_
  refine jk_nil ?_
  exact jk_ret_any (res1 rfl rfl) (by (repeat (first | exact rs_nil | (refine rs_cons ?_ ?_; (focus ((repeat (first | exact .here | apply Mem.there | apply Take.there)); first | done | fail))) | exact fun ρ hρ => hρ | (intro ρ hρ; repeat (first | exact hρ | refine List.mem_cons_of_mem _ ?_)))); first | done | fail) selZ ⟨rfl, rfl⟩
end Go.Proofs.Ytnbihndlbopmeaa
/- The rows: each law, for every input. -/
namespace Go.Proofs.Ytnbihndlbopmeaa
open Go.Eng Go.Step
set_option maxRecDepth 100000
set_option maxHeartbeats 4000000
open Go.ChangeShapes Go.WideShapes Go.ChangeAt Go.RowKit

set_option maxRecDepth 100000 in
theorem storageProfiles_lifted (os : Os) (started : os.Started) (H : Type) (enc : TypeId × Value → H) :
    ReturnsInHanded {} Try.checked os 4 .any (Rows.storageProfilesSpec.pre6 enc Try.prog Try.f4 Rows.storageProfilesRow.domain false) (Rows.storageProfilesSpec.post enc Try.prog Try.f4 false true false false) := by
  refine returnsInHanded_of_change (C := Try.checked) Try.own started (by kernel_rfl) Try.func4
    (ChangeSpec.witness6 (enc := enc) (C := Try.checked) false ⟨#[], #[.agg #[.slice none 0 0, .slice none 0 0], .slice none 0 0, .int .i64 0], []⟩ 8 (by kernel_rfl) (by kernel_rfl) (by kernel_rfl) (by kernel_rfl)) ?_
  intro W base args ds gs before hval0 hW hcnd _
  have hval : ∀ (j : Nat) t v, Try.f4.params[j]? = some t → args[j]? = some v → Value.okWide Try.prog W .any base t v := hval0
  have hW' := hW
  obtain ⟨p, q, hA0, hV, rfl, hfz, hnd⟩ := hW
  have hA : DataW.TrodAll enc Try.prog W 0 (fun _ => true) true Try.f4.params.toList args.toList ds p := hA0
  rw [Try.params4] at hA hval
  obtain ⟨v0, vs0, d0, ds0, p0, q0, hargs, rfl, rfl, h0, r0⟩ := trodAll_cons hA
  obtain ⟨v1, vs1, d1, ds1, p1, q1, rfl, rfl, rfl, h1, r1⟩ := trodAll_cons r0
  obtain ⟨v2, vs2, d2, ds2, p2, q2, rfl, rfl, rfl, h2, r2⟩ := trodAll_cons r1
  obtain ⟨rfl, rfl, rfl⟩ := trodAll_nil r2
  obtain rfl : args = #[v0, v1, v2] := by cases args; simp_all
  obtain ⟨rfl, rfl⟩ := trodVars_none hV
  have lt0 : ∀ x ∈ p0, x.block < W.heap.size := by obtain ⟨m, hm⟩ := h0; exact DataW.trod_lt m _ _ _ hm
  have lt1 : ∀ x ∈ p1, x.block < W.heap.size := by obtain ⟨m, hm⟩ := h1; exact DataW.trod_lt m _ _ _ hm
  have lt2 : ∀ x ∈ p2, x.block < W.heap.size := by obtain ⟨m, hm⟩ := h2; exact DataW.trod_lt m _ _ _ hm
  have hlaw : Ans Try.prog (fv 4) [v0, v1, v2] [heapPH W] (fun v => v = .bool true) := by
    obtain ⟨pq, pc, kq, kc, qs, cs, rfl, hq, hc, hcap, lq, lc⟩ := plan_of (hval 0 _ v0 rfl rfl) (RdT.of h0)
    obtain ⟨l, hl, cl, ll⟩ := holds_of (hval 1 _ v1 rfl rfl) (RdT.of h1)
    obtain ⟨n, rfl, _, _, wn⟩ := open_int Try.underlying3 (hval 2 _ v2 rfl rfl) h2
    exact (profiles_law _ _ _ pq pc kq kc qs cs v1 l n hq hc hcap lq lc hl ll).rsub (fun _ h => by simpa using h)
  refine (law_calls Try.func4 rfl rfl hlaw).mono fun e W' ⟨he, bel⟩ => ?_
  subst he
  exact ⟨_, rfl, _, _, _, [], _, [], hW', trodAll_mk1 (shut_bool Try.underlying4 _), (trodAll_cons_mk (Below.trod Try.laidOut (by kernel_rfl) (of_decide_eq_true (by kernel_rfl)) h0 bel lt0) (trodAll_cons_mk (Below.trod Try.laidOut (by kernel_rfl) (of_decide_eq_true (by kernel_rfl)) h1 bel lt1) (trodAll_cons_mk (Below.trod Try.laidOut (by kernel_rfl) (of_decide_eq_true (by kernel_rfl)) h2 bel lt2) trodAll_mk0))), rfl, bel.frame _, fun h => by cases h⟩
theorem storageProfiles_holds : Rows.StorageProfilesSaid :=
  OpenClaim.holds_of_wide 4 Try.f4 rfl rfl rfl rfl rfl rfl rfl ⟨rfl, rfl, rfl, rfl, rfl⟩ rfl rfl rfl rfl rfl (by kernel_rfl) Try.func4 (by kernel_rfl)
    (of_decide_eq_true (by kernel_rfl)) (by unfold Func.isWrapper; first | (rw [if_pos (by decide +kernel)]; kernel_rfl) | (rw [if_neg (by decide +kernel)]; exact ⟨rfl, rfl⟩))
    (fun os started H enc _ => storageProfiles_lifted os started H enc)
end Go.Proofs.Ytnbihndlbopmeaa
