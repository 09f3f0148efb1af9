/- Value, of the program and of the reference. -/
import Derived.Test.YtoccdekghjoldaaWFlC
set_option linter.all false
namespace Go.Proofs.Ytoccdekghjoldaa
open Go.Eng Go.Flow
set_option maxRecDepth 100000
set_option maxHeartbeats 4000000

theorem balanced_of {n : Nat} {l : List Arc} {fl : List Int} {s t : Int} (h : ∀ v : Nat, v < n → (v : Int) = s ∨ (v : Int) = t ∨ fval v l fl = 0) : balanced n l fl s t = true := by
  unfold balanced
  rw [List.all_eq_true]
  intro v hv
  rw [decide_eq_true_eq]
  exact h v (by simpa using hv)
theorem balanced_not {n : Nat} {l : List Arc} {fl : List Int} {s t : Int} {v : Nat} (hv : v < n) (h1 : (v : Int) ≠ s) (h2 : (v : Int) ≠ t) (h3 : fval v l fl ≠ 0) : balanced n l fl s t = false := by
  cases h : balanced n l fl s t with
  | false => rfl
  | true =>
    unfold balanced at h
    rw [List.all_eq_true] at h
    have := h v (by simpa using hv)
    rw [decide_eq_true_eq] at this
    exact absurd this (by simp [h1, h2, h3])
theorem inCap_take_false {l : List Arc} {fl : List Int} {k : Nat} (hk : k < l.length) (hfl : fl.length = l.length) (h : ¬ (0 ≤ fl[k] ∧ fl[k] ≤ l[k].c)) : inCap l fl = false := by
  cases hc : inCap l fl with
  | false => rfl
  | true => exact absurd (inCap_get l fl hc k l[k] fl[k] (List.getElem?_eq_getElem hk) (List.getElem?_eq_getElem (by omega))) h

theorem flowValue_spec (ρ σ : PH) (v u : Value) (n s t : Int) (l : List Arc) (fl : List Int) (hv : ArcsAt ρ v l) (hu : IntsAt σ u fl) (hl : l.length ≤ 1000000) :
    Ans Try.prog (fv 26) [int n, v, u, int s, int t] [ρ, σ] (fun r => r = .tuple #[int (valueSpec n l fl s t).1, int (valueSpec n l fl s t).2]) := by
  obtain ⟨q, c, rfl, hr⟩ := hv.val encA_len
  obtain ⟨q2, c2, rfl, hr2⟩ := hu.val encI_len
  refine spec_in (cap := []) Try.func26 rfl rfl Try.ntmps26 rfl (by (repeat (first | exact EnvA.nil EnvI.nil | apply EnvA.cons | apply EnvA.nil | exact EnvI.nil | apply EnvI.cons)); first | done | fail) (fun N β => ?_)
  refine jk_seq ?_
  refine jk_region ?_
  focus (refine' jk_q _ rfl rfl rfl _; rotate_left; (apply q_assign; exact rfl))
  focus (refine' jk_q _ rfl rfl rfl _; rotate_left; (apply q_assign; exact rfl))
  refine jk_nil ?_
  refine jk_seq ?_
  refine jk_seq ?_
  refine jk_region ?_
  focus (refine' jk_q _ rfl rfl rfl _; rotate_left; (apply q_move; exact rfl))
  focus (refine' jk_q _ rfl rfl rfl _; rotate_left; (apply q_move; exact rfl))
  focus ((refine jk_call (check_spec ρ _ n l hv hl) rfl rfl (by (repeat (first | exact RdOK.nil | (refine RdOK.consR ?_ ?_; (focus ((repeat (first | exact .here | apply Mem.there | apply Take.there)); first | done | fail))) | (refine RdOK.consH ?_ ?_; (focus ((repeat (first | exact .here | apply Mem.there | apply Take.there)); first | done | fail))) | exact (fun τ hτ => .inl (by simp [hτ])))); first | done | fail) rfl rfl ?_; rintro _ rfl))
  focus (refine' jk_q _ rfl rfl rfl _; rotate_left; (apply q_assign; exact rfl))
  refine jk_nil ?_
  refine jk_seq ?_
  refine jk_region ?_
  focus (refine' jk_q _ rfl rfl rfl _; rotate_left; (apply q_move; exact rfl))
  by_cases hc : chk n l = 0
  rotate_left
  · focus (refine' jk_q _ rfl rfl rfl _; rotate_left; (apply q_ne; exact rfl; exact rfl; omega))
    refine jk_nil ?_
    refine jk_if_t rfl ?_
    refine jk_seq ?_
    refine jk_region ?_
    focus (refine' jk_q _ rfl rfl rfl _; rotate_left; (apply q_move; exact rfl))
    focus (refine' jk_q _ rfl rfl rfl _; rotate_left; (apply q_assign; exact rfl))
    focus (refine' jk_q _ rfl rfl rfl _; rotate_left; (apply q_assign; exact rfl))
    refine jk_nil ?_
    refine jk_ret_any (res2 rfl rfl rfl) (by (repeat (first | exact rs_nil | (refine rs_cons ?_ ?_; (focus ((repeat (first | exact .here | apply Mem.there | apply Take.there)); first | done | fail))) | exact fun ρ hρ => hρ | (intro ρ hρ; repeat (first | exact hρ | refine List.mem_cons_of_mem _ ?_)))); first | done | fail) (by (repeat (first | exact Sel.nil | (apply Sel.cons; (focus ((repeat (first | exact .here | apply Mem.there | apply Take.there)); first | done | fail))))); first | done | fail) ⟨rfl, ?_⟩
    unfold valueSpec; rw [if_pos hc]
  obtain ⟨a1, a2, a3, hok⟩ := chk_ok hc
  obtain ⟨n, rfl⟩ := Int.eq_ofNat_of_zero_le a1
  by_cases he : okEnds n s t = true
  rotate_left
  · have he' : okEnds n s t = false := by simpa using he
    focus (refine' jk_q _ rfl rfl rfl _; rotate_left; (apply q_neF; exact rfl; exact rfl; omega))
    refine jk_nil ?_
    refine jk_if_f rfl ?_
    refine jk_skip ?_
    refine jk_seq ?_
    refine jk_seq ?_
    refine jk_region ?_
    focus (refine' jk_q _ rfl rfl rfl _; rotate_left; (apply q_move; exact rfl))
    focus (refine' jk_q _ rfl rfl rfl _; rotate_left; (apply q_move; exact rfl))
    focus (refine' jk_q _ rfl rfl rfl _; rotate_left; (apply q_move; exact rfl))
    focus ((refine jk_call (ends_spec n s t) rfl rfl (by (repeat (first | exact RdOK.nil | (refine RdOK.consR ?_ ?_; (focus ((repeat (first | exact .here | apply Mem.there | apply Take.there)); first | done | fail))) | (refine RdOK.consH ?_ ?_; (focus ((repeat (first | exact .here | apply Mem.there | apply Take.there)); first | done | fail))) | exact (fun τ hτ => .inl (by simp [hτ])))); first | done | fail) rfl rfl ?_; rintro _ rfl; rw [he', if_neg (by simp)]))
    focus (refine' jk_q _ rfl rfl rfl _; rotate_left; (apply q_assign; exact rfl))
    refine jk_nil ?_
    refine jk_seq ?_
    refine jk_region ?_
    focus (refine' jk_q _ rfl rfl rfl _; rotate_left; (apply q_move; exact rfl))
    focus (refine' jk_q _ rfl rfl rfl _; rotate_left; (apply q_ne; exact rfl; exact rfl; omega))
    refine jk_nil ?_
    refine jk_if_t rfl ?_
    refine jk_seq ?_
    refine jk_region ?_
    focus (refine' jk_q _ rfl rfl rfl _; rotate_left; (apply q_move; exact rfl))
    focus (refine' jk_q _ rfl rfl rfl _; rotate_left; (apply q_assign; exact rfl))
    focus (refine' jk_q _ rfl rfl rfl _; rotate_left; (apply q_assign; exact rfl))
    refine jk_nil ?_
    refine jk_ret_any (res2 rfl rfl rfl) (by (repeat (first | exact rs_nil | (refine rs_cons ?_ ?_; (focus ((repeat (first | exact .here | apply Mem.there | apply Take.there)); first | done | fail))) | exact fun ρ hρ => hρ | (intro ρ hρ; repeat (first | exact hρ | refine List.mem_cons_of_mem _ ?_)))); first | done | fail) (by (repeat (first | exact Sel.nil | (apply Sel.cons; (focus ((repeat (first | exact .here | apply Mem.there | apply Take.there)); first | done | fail))))); first | done | fail) ⟨rfl, ?_⟩
    unfold valueSpec; rw [if_neg (by rw [hc]; simp), if_pos he']
  obtain ⟨s1, s2, t1, t2, st⟩ := okEnds_iff.1 he
  focus (refine' jk_q _ rfl rfl rfl _; rotate_left; (apply q_neF; exact rfl; exact rfl; omega))
  refine jk_nil ?_
  refine jk_if_f rfl ?_
  refine jk_skip ?_
  refine jk_seq ?_
  refine jk_seq ?_
  refine jk_region ?_
  focus (refine' jk_q _ rfl rfl rfl _; rotate_left; (apply q_move; exact rfl))
  focus (refine' jk_q _ rfl rfl rfl _; rotate_left; (apply q_move; exact rfl))
  focus (refine' jk_q _ rfl rfl rfl _; rotate_left; (apply q_move; exact rfl))
  focus ((refine jk_call (ends_spec n s t) rfl rfl (by (repeat (first | exact RdOK.nil | (refine RdOK.consR ?_ ?_; (focus ((repeat (first | exact .here | apply Mem.there | apply Take.there)); first | done | fail))) | (refine RdOK.consH ?_ ?_; (focus ((repeat (first | exact .here | apply Mem.there | apply Take.there)); first | done | fail))) | exact (fun τ hτ => .inl (by simp [hτ])))); first | done | fail) rfl rfl ?_; rintro _ rfl; rw [he, if_pos rfl]))
  focus (refine' jk_q _ rfl rfl rfl _; rotate_left; (apply q_assign; exact rfl))
  refine jk_nil ?_
  refine jk_seq ?_
  refine jk_region ?_
  focus (refine' jk_q _ rfl rfl rfl _; rotate_left; (apply q_move; exact rfl))
  focus (refine' jk_q _ rfl rfl rfl _; rotate_left; (apply q_neF; exact rfl; exact rfl; omega))
  refine jk_nil ?_
  refine jk_if_f rfl ?_
  refine jk_skip ?_
  refine jk_seq ?_
  refine jk_seq ?_
  refine jk_region ?_
  focus (refine' jk_q _ rfl rfl rfl _; rotate_left; (apply q_move; exact rfl))
  focus (refine' jk_q _ rfl rfl rfl _; rotate_left; (apply q_len; exact rfl; exact rfl))
  focus (refine' jk_q _ rfl rfl rfl _; rotate_left; (apply q_move; exact rfl))
  focus (refine' jk_q _ rfl rfl rfl _; rotate_left; (apply q_len; exact rfl; exact rfl))
  by_cases hfl : fl.length = l.length
  rotate_left
  · focus (refine' jk_q _ rfl rfl rfl _; rotate_left; (apply q_ne; exact rfl; exact rfl; omega))
    refine jk_nil ?_
    refine jk_if_t rfl ?_
    refine jk_seq ?_
    refine jk_region ?_
    focus (refine' jk_q _ rfl rfl rfl _; rotate_left; (apply q_assign; exact rfl))
    focus (refine' jk_q _ rfl rfl rfl _; rotate_left; (apply q_assign; exact rfl))
    refine jk_nil ?_
    refine jk_ret_any (res2 rfl rfl rfl) (by (repeat (first | exact rs_nil | (refine rs_cons ?_ ?_; (focus ((repeat (first | exact .here | apply Mem.there | apply Take.there)); first | done | fail))) | exact fun ρ hρ => hρ | (intro ρ hρ; repeat (first | exact hρ | refine List.mem_cons_of_mem _ ?_)))); first | done | fail) (by (repeat (first | exact Sel.nil | (apply Sel.cons; (focus ((repeat (first | exact .here | apply Mem.there | apply Take.there)); first | done | fail))))); first | done | fail) ⟨rfl, ?_⟩
    unfold valueSpec; rw [if_neg (by rw [hc]; simp), if_neg (by rw [he]; simp), if_pos hfl]
  focus (refine' jk_q _ rfl rfl rfl _; rotate_left; (apply q_neF; exact rfl; exact rfl; omega))
  refine jk_nil ?_
  refine jk_if_f rfl ?_
  refine jk_skip ?_
  refine jk_seq ?_
  refine jk_region ?_
  focus (refine' jk_q _ rfl rfl rfl _; rotate_left; (apply q_move; exact rfl))
  focus (refine' jk_op _ rfl rfl rfl _; rotate_left; (apply l_makeI; exact rfl; exact rfl; exact rfl; exact rfl; exact rfl; exact rfl; omega; omega); rintro _ _ ⟨b, rfl, rfl⟩)
  focus (refine' jk_q _ rfl rfl rfl _; rotate_left; (apply q_assign; exact rfl))
  refine jk_nil ?_
  refine jk_seq ?_
  refine jk_seq ?_
  refine jk_region ?_
  focus (refine' jk_q _ rfl rfl rfl _; rotate_left; (apply q_move; exact rfl))
  focus (refine' jk_q _ rfl rfl rfl _; rotate_left; (apply q_len; exact rfl; exact rfl))
  focus (refine' jk_q _ rfl rfl rfl _; rotate_left; (apply q_move; exact rfl))
  refine jk_nil ?_
  refine jk_block ?_
  rw [show List.replicate n (0 : Int) = negL (netL n [] []) from by rw [netL_nil]; simp [negL]]
  refine jk_loop [0, 1, 2, 3, 4, 14, 39, 40] (0 : Nat) (fun k => k ≤ l.length ∧ inCap (l.take k) (fl.take k) = true) (fun k => [(41, int k)]) (fun k => [sng b (.cells (ints (negL (netL n (l.take k) (fl.take k)))) 3 (0, 0))]) (fun k => l.length - k) (by (repeat (first | exact Pick.nil | apply Pick.cons rfl)); first | done | fail) ⟨by omega, by simp [inCap]⟩ (by (repeat (first | exact trivial | refine And.intro rfl ?_)); first | done | fail) (by (repeat (first | exact Sel.nil | (apply Sel.cons; (focus ((repeat (first | exact .here | apply Mem.there | apply Take.there)); first | done | fail))))); first | done | fail) ?_
  rintro k ⟨hk, hy⟩
  by_cases hlt : k < l.length
  · have hltf : k < fl.length := by omega
    obtain ⟨b', o, rfl, hA, h0, h1, h2⟩ := arcRow hr (List.getElem?_eq_getElem hlt)
    obtain ⟨b2, o2, rfl, f0⟩ := hr2.int (List.getElem?_eq_getElem hltf)
    obtain ⟨g1, g2, g3, g4, g5, g6, g7⟩ := okArc_iff.1 (hok l[k] (List.getElem_mem hlt))
    by_cases hin : 0 ≤ fl[k] ∧ fl[k] ≤ l[k].c
    rotate_left
    · have hvs : valueSpec n l fl s t = (0, 2) := by
        unfold valueSpec
        rw [if_neg (by rw [hc]; simp), if_neg (by rw [he]; simp), if_neg (by simpa using hfl), if_pos (inCap_take_false hlt hfl hin)]
      rcases (show fl[k] < 0 ∨ (0 ≤ fl[k] ∧ l[k].c < fl[k]) by omega) with hin' | hin'
      all_goals
        refine jk_seq ?_
        refine jk_region ?_
        focus (refine' jk_q _ rfl rfl rfl _; rotate_left; (apply q_lt; exact rfl; exact rfl; omega))
        refine jk_nil ?_
        refine jk_seq ?_
        refine jk_if_t rfl ?_
        refine jk_skip ?_
        refine jk_seq ?_
        refine jk_block ?_
        refine jk_seq ?_
        refine jk_region ?_
        focus (refine' jk_q _ rfl rfl rfl _; rotate_left; (apply q_move; exact rfl))
        focus (refine' jk_q _ rfl rfl rfl _; rotate_left; (apply q_idxN; exact rfl; exact rfl; exact rfl; exact rfl; omega))
        focus (refine' jk_q _ rfl rfl rfl _; rotate_left; (apply q_loadS; exact rfl; exact rfl; (first | exact cells_own (by (repeat (first | exact .here | apply Mem.there)); first | done | fail) | exact cellsR (by assumption) (by (repeat (first | exact .here | apply Mem.there)); first | done | fail) | exact cellsH (by assumption) (by (repeat (first | exact .here | apply Mem.there)); first | done | fail)); exact rfl))
        focus (refine' jk_op _ rfl rfl rfl _; rotate_left; (apply l_allocS; exact rfl); rintro _ _ ⟨b, rfl, rfl⟩)
        focus (refine' jk_q _ rfl rfl rfl _; rotate_left; (apply q_assign; exact rfl))
        focus (refine' jk_op_none _ rfl rfl _; rotate_left; (apply l_storeS; exact rfl; exact rfl; exact (by (repeat (first | exact .here | apply Take.there)); first | done | fail); exact (by (repeat (first | exact (fun v hv => absurd hv List.not_mem_nil) | (refine List.forall_mem_cons.2 ⟨?_, ?_⟩; (focus (first | exact rfl | assumption))))); first | done | fail); exact rfl; exact rfl); rintro _ _ ⟨rfl, rfl⟩)
        refine jk_nil ?_
        refine jk_seq ?_
        refine jk_seq ?_
        refine jk_draw (.q 0 (.q 1 (.q 2 (.q 3 (.q 4 (.q 5 (.q 6 (.q 7 (.q 8 (.q 9 (.q 10 (.q 11 (.q 12 (.q 13 .nil)))))))))))))) [] rfl (by kernel_rfl) (by (repeat (first | exact Sel.nil | (apply Sel.cons; (focus ((repeat (first | exact .here | apply Mem.there | apply Take.there)); first | done | fail))))); first | done | fail) ?_
        repeat' (first
          | (refine' dj_q rfl _ rfl rfl rfl rfl _; rotate_left; (first | (first | (apply q_move; exact rfl) | (apply q_assign; exact rfl) | (apply q_extract; exact rfl; exact rfl) | (apply q_load; exact rfl; exact rfl; (first | exact cell_own (by (repeat (first | exact .here | apply Mem.there)); first | done | fail) rfl | exact cellR (by assumption) (by (repeat (first | exact .here | apply Mem.there)); first | done | fail) | exact cellH (by assumption) (by (repeat (first | exact .here | apply Mem.there)); first | done | fail) | exact cell_ints (by (repeat (first | exact .here | apply Mem.there)); first | done | fail) (by omega) | exact cell_bools (by assumption) (by (repeat (first | exact .here | apply Mem.there)); first | done | fail) | exact cell_intsR (by (repeat (first | exact .here | apply Mem.there)); first | done | fail) (by omega) | exact cell_boolsR (by assumption) (by (repeat (first | exact .here | apply Mem.there)); first | done | fail))) | (apply q_fld0; exact rfl; exact rfl) | (apply q_fldZ; exact rfl; exact rfl) | (apply q_fld; exact rfl; exact rfl) | (apply q_idx0; exact rfl; exact rfl; exact rfl; exact rfl; omega) | (apply q_idx1; exact rfl; exact rfl; exact rfl; exact rfl; omega) | (apply q_idxN; exact rfl; exact rfl; exact rfl; exact rfl; omega) | (apply q_idxZ; exact rfl; exact rfl; exact rfl; exact rfl; omega) | (apply q_pick_t; exact rfl; exact rfl)) | (first | (apply q_pick_f; exact rfl; exact rfl) | (apply q_len; exact rfl; exact rfl) | (apply q_not; exact rfl) | (apply q_nilCheck; exact rfl) | (apply q_nilCheckF; exact rfl) | (apply q_nilCheckY; exact rfl) | (apply q_inc; exact rfl; exact rfl; omega) | (apply q_lt; exact rfl; exact rfl; omega) | (apply q_ltF; exact rfl; exact rfl; omega) | (apply q_eq; exact rfl; exact rfl; omega) | (apply q_eqF; exact rfl; exact rfl; omega) | (apply q_ne; exact rfl; exact rfl; omega)) | (first | (apply q_neF; exact rfl; exact rfl; omega) | (apply q_gt; exact rfl; exact rfl; omega) | (apply q_gtF; exact rfl; exact rfl; omega) | (apply q_le; exact rfl; exact rfl; omega) | (apply q_leF; exact rfl; exact rfl; omega) | (apply q_ge; exact rfl; exact rfl; omega) | (apply q_geF; exact rfl; exact rfl; omega) | (apply q_sub_nat; exact rfl; exact rfl; omega; omega) | (apply q_add; exact rfl; exact rfl; exact ⟨by omega, by omega⟩) | (apply q_sub; exact rfl; exact rfl; exact ⟨by omega, by omega⟩) | (apply q_dbl; exact rfl; exact rfl; omega) | (apply q_mul; exact rfl; exact rfl; exact ⟨by omega, by omega⟩)) | (first | (apply q_half; exact rfl; exact rfl; omega) | (apply q_par; exact rfl; exact rfl) | (apply q_quo; exact rfl; exact rfl; omega; omega; omega) | (apply q_rem; exact rfl; exact rfl; omega; omega) | (apply q_loadS; exact rfl; exact rfl; (first | exact cells_own (by (repeat (first | exact .here | apply Mem.there)); first | done | fail) | exact cellsR (by assumption) (by (repeat (first | exact .here | apply Mem.there)); first | done | fail) | exact cellsH (by assumption) (by (repeat (first | exact .here | apply Mem.there)); first | done | fail)); exact rfl) | (apply q_min; exact rfl; exact rfl) | (apply q_max; exact rfl; exact rfl) | (apply q_makeFunc; exact rfl; exact rfl) | (apply q_field; exact rfl; exact rfl) | (apply q_build; exact rfl; exact rfl; exact (by (repeat (first | exact Bld.nil | apply Bld.put rfl rfl rfl | apply Bld.keep rfl)); first | done | fail)) | (apply q_neg; exact rfl; exact ⟨by omega, by omega⟩))))
          | refine dj_pass rfl rfl rfl rfl rfl ?_
          | (refine' dj_p rfl _ rfl rfl rfl _; rotate_left; (first | (first | (apply q_move; exact rfl) | (apply q_assign; exact rfl) | (apply q_extract; exact rfl; exact rfl) | (apply q_load; exact rfl; exact rfl; (first | exact cell_own (by (repeat (first | exact .here | apply Mem.there)); first | done | fail) rfl | exact cellR (by assumption) (by (repeat (first | exact .here | apply Mem.there)); first | done | fail) | exact cellH (by assumption) (by (repeat (first | exact .here | apply Mem.there)); first | done | fail) | exact cell_ints (by (repeat (first | exact .here | apply Mem.there)); first | done | fail) (by omega) | exact cell_bools (by assumption) (by (repeat (first | exact .here | apply Mem.there)); first | done | fail) | exact cell_intsR (by (repeat (first | exact .here | apply Mem.there)); first | done | fail) (by omega) | exact cell_boolsR (by assumption) (by (repeat (first | exact .here | apply Mem.there)); first | done | fail))) | (apply q_fld0; exact rfl; exact rfl) | (apply q_fldZ; exact rfl; exact rfl) | (apply q_fld; exact rfl; exact rfl) | (apply q_idx0; exact rfl; exact rfl; exact rfl; exact rfl; omega) | (apply q_idx1; exact rfl; exact rfl; exact rfl; exact rfl; omega) | (apply q_idxN; exact rfl; exact rfl; exact rfl; exact rfl; omega) | (apply q_idxZ; exact rfl; exact rfl; exact rfl; exact rfl; omega) | (apply q_pick_t; exact rfl; exact rfl)) | (first | (apply q_pick_f; exact rfl; exact rfl) | (apply q_len; exact rfl; exact rfl) | (apply q_not; exact rfl) | (apply q_nilCheck; exact rfl) | (apply q_nilCheckF; exact rfl) | (apply q_nilCheckY; exact rfl) | (apply q_inc; exact rfl; exact rfl; omega) | (apply q_lt; exact rfl; exact rfl; omega) | (apply q_ltF; exact rfl; exact rfl; omega) | (apply q_eq; exact rfl; exact rfl; omega) | (apply q_eqF; exact rfl; exact rfl; omega) | (apply q_ne; exact rfl; exact rfl; omega)) | (first | (apply q_neF; exact rfl; exact rfl; omega) | (apply q_gt; exact rfl; exact rfl; omega) | (apply q_gtF; exact rfl; exact rfl; omega) | (apply q_le; exact rfl; exact rfl; omega) | (apply q_leF; exact rfl; exact rfl; omega) | (apply q_ge; exact rfl; exact rfl; omega) | (apply q_geF; exact rfl; exact rfl; omega) | (apply q_sub_nat; exact rfl; exact rfl; omega; omega) | (apply q_add; exact rfl; exact rfl; exact ⟨by omega, by omega⟩) | (apply q_sub; exact rfl; exact rfl; exact ⟨by omega, by omega⟩) | (apply q_dbl; exact rfl; exact rfl; omega) | (apply q_mul; exact rfl; exact rfl; exact ⟨by omega, by omega⟩)) | (first | (apply q_half; exact rfl; exact rfl; omega) | (apply q_par; exact rfl; exact rfl) | (apply q_quo; exact rfl; exact rfl; omega; omega; omega) | (apply q_rem; exact rfl; exact rfl; omega; omega) | (apply q_loadS; exact rfl; exact rfl; (first | exact cells_own (by (repeat (first | exact .here | apply Mem.there)); first | done | fail) | exact cellsR (by assumption) (by (repeat (first | exact .here | apply Mem.there)); first | done | fail) | exact cellsH (by assumption) (by (repeat (first | exact .here | apply Mem.there)); first | done | fail)); exact rfl) | (apply q_min; exact rfl; exact rfl) | (apply q_max; exact rfl; exact rfl) | (apply q_makeFunc; exact rfl; exact rfl) | (apply q_field; exact rfl; exact rfl) | (apply q_build; exact rfl; exact rfl; exact (by (repeat (first | exact Bld.nil | apply Bld.put rfl rfl rfl | apply Bld.keep rfl)); first | done | fail)) | (apply q_neg; exact rfl; exact ⟨by omega, by omega⟩))))
          | refine dj_passp rfl rfl rfl rfl ?_
          | refine dj_end ?_
          | refine dj_l2 ?_ ?_
          | (refine dj_l ?_; refine' a_bq rfl _ rfl rfl rfl (by (repeat (first | exact Sel.nil | (apply Sel.cons; (focus ((repeat (first | exact .here | apply Mem.there | apply Take.there)); first | done | fail))))); first | done | fail) _; rotate_left; (first | (first | (apply q_move; exact rfl) | (apply q_assign; exact rfl) | (apply q_extract; exact rfl; exact rfl) | (apply q_load; exact rfl; exact rfl; (first | exact cell_own (by (repeat (first | exact .here | apply Mem.there)); first | done | fail) rfl | exact cellR (by assumption) (by (repeat (first | exact .here | apply Mem.there)); first | done | fail) | exact cellH (by assumption) (by (repeat (first | exact .here | apply Mem.there)); first | done | fail) | exact cell_ints (by (repeat (first | exact .here | apply Mem.there)); first | done | fail) (by omega) | exact cell_bools (by assumption) (by (repeat (first | exact .here | apply Mem.there)); first | done | fail) | exact cell_intsR (by (repeat (first | exact .here | apply Mem.there)); first | done | fail) (by omega) | exact cell_boolsR (by assumption) (by (repeat (first | exact .here | apply Mem.there)); first | done | fail))) | (apply q_fld0; exact rfl; exact rfl) | (apply q_fldZ; exact rfl; exact rfl) | (apply q_fld; exact rfl; exact rfl) | (apply q_idx0; exact rfl; exact rfl; exact rfl; exact rfl; omega) | (apply q_idx1; exact rfl; exact rfl; exact rfl; exact rfl; omega) | (apply q_idxN; exact rfl; exact rfl; exact rfl; exact rfl; omega) | (apply q_idxZ; exact rfl; exact rfl; exact rfl; exact rfl; omega) | (apply q_pick_t; exact rfl; exact rfl)) | (first | (apply q_pick_f; exact rfl; exact rfl) | (apply q_len; exact rfl; exact rfl) | (apply q_not; exact rfl) | (apply q_nilCheck; exact rfl) | (apply q_nilCheckF; exact rfl) | (apply q_nilCheckY; exact rfl) | (apply q_inc; exact rfl; exact rfl; omega) | (apply q_lt; exact rfl; exact rfl; omega) | (apply q_ltF; exact rfl; exact rfl; omega) | (apply q_eq; exact rfl; exact rfl; omega) | (apply q_eqF; exact rfl; exact rfl; omega) | (apply q_ne; exact rfl; exact rfl; omega)) | (first | (apply q_neF; exact rfl; exact rfl; omega) | (apply q_gt; exact rfl; exact rfl; omega) | (apply q_gtF; exact rfl; exact rfl; omega) | (apply q_le; exact rfl; exact rfl; omega) | (apply q_leF; exact rfl; exact rfl; omega) | (apply q_ge; exact rfl; exact rfl; omega) | (apply q_geF; exact rfl; exact rfl; omega) | (apply q_sub_nat; exact rfl; exact rfl; omega; omega) | (apply q_add; exact rfl; exact rfl; exact ⟨by omega, by omega⟩) | (apply q_sub; exact rfl; exact rfl; exact ⟨by omega, by omega⟩) | (apply q_dbl; exact rfl; exact rfl; omega) | (apply q_mul; exact rfl; exact rfl; exact ⟨by omega, by omega⟩)) | (first | (apply q_half; exact rfl; exact rfl; omega) | (apply q_par; exact rfl; exact rfl) | (apply q_quo; exact rfl; exact rfl; omega; omega; omega) | (apply q_rem; exact rfl; exact rfl; omega; omega) | (apply q_loadS; exact rfl; exact rfl; (first | exact cells_own (by (repeat (first | exact .here | apply Mem.there)); first | done | fail) | exact cellsR (by assumption) (by (repeat (first | exact .here | apply Mem.there)); first | done | fail) | exact cellsH (by assumption) (by (repeat (first | exact .here | apply Mem.there)); first | done | fail)); exact rfl) | (apply q_min; exact rfl; exact rfl) | (apply q_max; exact rfl; exact rfl) | (apply q_makeFunc; exact rfl; exact rfl) | (apply q_field; exact rfl; exact rfl) | (apply q_build; exact rfl; exact rfl; exact (by (repeat (first | exact Bld.nil | apply Bld.put rfl rfl rfl | apply Bld.keep rfl)); first | done | fail)) | (apply q_neg; exact rfl; exact ⟨by omega, by omega⟩))))
          | (refine dj_l ?_; refine' a_e rfl _ rfl rfl rfl _ _; rotate_left; (first | (apply l_makeV; exact rfl; exact rfl; exact rfl; exact rfl; exact rfl; exact rfl; omega; omega) | (apply l_makeI; exact rfl; exact rfl; exact rfl; exact rfl; exact rfl; exact rfl; omega; omega) | (apply l_makeB; exact rfl; exact rfl; exact rfl; exact rfl; exact rfl; exact rfl; omega; omega) | (apply l_allocS; exact rfl) | (apply l_alloc1; exact rfl; exact rfl) | (apply l_buildSlice; exact rfl; exact rfl; exact rfl; exact rfl; exact rfl; exact (by (repeat (first | exact (fun v hv => absurd hv List.not_mem_nil) | (refine List.forall_mem_cons.2 ⟨?_, ?_⟩; (focus (first | exact rfl | assumption))))); first | done | fail); exact (by (repeat (first | exact Flat.nil | apply Flat.one rfl | apply Flat.agg2 | apply Flat.agg3 | apply Flat.agg1 | apply Flat.agg4 | apply Flat.agg5)); first | done | fail); exact rfl) | (apply l_boxS; exact rfl) | (apply l_box1; exact rfl; exact rfl)); (focus (rintro _ _ ⟨b, rfl, rfl⟩ w hw; exact hw.tail)); rintro _ _ ⟨b, rfl, rfl⟩)
          | (refine dj_l ?_; refine' a_bn rfl _ rfl rfl _ _; rotate_left; (first | (apply l_storeI; exact rfl; exact rfl; exact rfl; exact (by (repeat (first | exact .here | apply Take.there)); first | done | fail); omega) | (apply l_storeB; exact rfl; exact rfl; exact rfl; exact (by (repeat (first | exact .here | apply Take.there)); first | done | fail); omega) | (apply l_storeL; exact rfl; exact rfl; (first | exact rfl | assumption); exact rfl; exact (by (repeat (first | exact .here | apply Take.there)); first | done | fail); (focus (repeat (first | exact SetL.here | apply SetL.there)); done)) | (apply l_store; exact rfl; exact rfl; (first | exact rfl | assumption); exact rfl; exact (by (repeat (first | exact .here | apply Take.there)); first | done | fail); exact (by first | decide | (simp; done) | (simp; omega)))); (focus (rintro _ _ ⟨_, rfl⟩ w hw; exact hw.sel (by (repeat (first | exact Sel.nil | (apply Sel.cons; (focus ((repeat (first | exact .here | apply Mem.there | apply Take.there)); first | done | fail))))); first | done | fail))); rintro _ _ ⟨rfl, rfl⟩)
          | (refine' a_bq rfl _ rfl rfl rfl (by (repeat (first | exact Sel.nil | (apply Sel.cons; (focus ((repeat (first | exact .here | apply Mem.there | apply Take.there)); first | done | fail))))); first | done | fail) _; rotate_left; (first | (first | (apply q_move; exact rfl) | (apply q_assign; exact rfl) | (apply q_extract; exact rfl; exact rfl) | (apply q_load; exact rfl; exact rfl; (first | exact cell_own (by (repeat (first | exact .here | apply Mem.there)); first | done | fail) rfl | exact cellR (by assumption) (by (repeat (first | exact .here | apply Mem.there)); first | done | fail) | exact cellH (by assumption) (by (repeat (first | exact .here | apply Mem.there)); first | done | fail) | exact cell_ints (by (repeat (first | exact .here | apply Mem.there)); first | done | fail) (by omega) | exact cell_bools (by assumption) (by (repeat (first | exact .here | apply Mem.there)); first | done | fail) | exact cell_intsR (by (repeat (first | exact .here | apply Mem.there)); first | done | fail) (by omega) | exact cell_boolsR (by assumption) (by (repeat (first | exact .here | apply Mem.there)); first | done | fail))) | (apply q_fld0; exact rfl; exact rfl) | (apply q_fldZ; exact rfl; exact rfl) | (apply q_fld; exact rfl; exact rfl) | (apply q_idx0; exact rfl; exact rfl; exact rfl; exact rfl; omega) | (apply q_idx1; exact rfl; exact rfl; exact rfl; exact rfl; omega) | (apply q_idxN; exact rfl; exact rfl; exact rfl; exact rfl; omega) | (apply q_idxZ; exact rfl; exact rfl; exact rfl; exact rfl; omega) | (apply q_pick_t; exact rfl; exact rfl)) | (first | (apply q_pick_f; exact rfl; exact rfl) | (apply q_len; exact rfl; exact rfl) | (apply q_not; exact rfl) | (apply q_nilCheck; exact rfl) | (apply q_nilCheckF; exact rfl) | (apply q_nilCheckY; exact rfl) | (apply q_inc; exact rfl; exact rfl; omega) | (apply q_lt; exact rfl; exact rfl; omega) | (apply q_ltF; exact rfl; exact rfl; omega) | (apply q_eq; exact rfl; exact rfl; omega) | (apply q_eqF; exact rfl; exact rfl; omega) | (apply q_ne; exact rfl; exact rfl; omega)) | (first | (apply q_neF; exact rfl; exact rfl; omega) | (apply q_gt; exact rfl; exact rfl; omega) | (apply q_gtF; exact rfl; exact rfl; omega) | (apply q_le; exact rfl; exact rfl; omega) | (apply q_leF; exact rfl; exact rfl; omega) | (apply q_ge; exact rfl; exact rfl; omega) | (apply q_geF; exact rfl; exact rfl; omega) | (apply q_sub_nat; exact rfl; exact rfl; omega; omega) | (apply q_add; exact rfl; exact rfl; exact ⟨by omega, by omega⟩) | (apply q_sub; exact rfl; exact rfl; exact ⟨by omega, by omega⟩) | (apply q_dbl; exact rfl; exact rfl; omega) | (apply q_mul; exact rfl; exact rfl; exact ⟨by omega, by omega⟩)) | (first | (apply q_half; exact rfl; exact rfl; omega) | (apply q_par; exact rfl; exact rfl) | (apply q_quo; exact rfl; exact rfl; omega; omega; omega) | (apply q_rem; exact rfl; exact rfl; omega; omega) | (apply q_loadS; exact rfl; exact rfl; (first | exact cells_own (by (repeat (first | exact .here | apply Mem.there)); first | done | fail) | exact cellsR (by assumption) (by (repeat (first | exact .here | apply Mem.there)); first | done | fail) | exact cellsH (by assumption) (by (repeat (first | exact .here | apply Mem.there)); first | done | fail)); exact rfl) | (apply q_min; exact rfl; exact rfl) | (apply q_max; exact rfl; exact rfl) | (apply q_makeFunc; exact rfl; exact rfl) | (apply q_field; exact rfl; exact rfl) | (apply q_build; exact rfl; exact rfl; exact (by (repeat (first | exact Bld.nil | apply Bld.put rfl rfl rfl | apply Bld.keep rfl)); first | done | fail)) | (apply q_neg; exact rfl; exact ⟨by omega, by omega⟩))))
          | (refine' a_e rfl _ rfl rfl rfl _ _; rotate_left; (first | (apply l_makeV; exact rfl; exact rfl; exact rfl; exact rfl; exact rfl; exact rfl; omega; omega) | (apply l_makeI; exact rfl; exact rfl; exact rfl; exact rfl; exact rfl; exact rfl; omega; omega) | (apply l_makeB; exact rfl; exact rfl; exact rfl; exact rfl; exact rfl; exact rfl; omega; omega) | (apply l_allocS; exact rfl) | (apply l_alloc1; exact rfl; exact rfl) | (apply l_buildSlice; exact rfl; exact rfl; exact rfl; exact rfl; exact rfl; exact (by (repeat (first | exact (fun v hv => absurd hv List.not_mem_nil) | (refine List.forall_mem_cons.2 ⟨?_, ?_⟩; (focus (first | exact rfl | assumption))))); first | done | fail); exact (by (repeat (first | exact Flat.nil | apply Flat.one rfl | apply Flat.agg2 | apply Flat.agg3 | apply Flat.agg1 | apply Flat.agg4 | apply Flat.agg5)); first | done | fail); exact rfl) | (apply l_boxS; exact rfl) | (apply l_box1; exact rfl; exact rfl)); (focus (rintro _ _ ⟨b, rfl, rfl⟩ w hw; exact hw.tail)); rintro _ _ ⟨b, rfl, rfl⟩)
          | (refine' a_bn rfl _ rfl rfl _ _; rotate_left; (first | (apply l_storeI; exact rfl; exact rfl; exact rfl; exact (by (repeat (first | exact .here | apply Take.there)); first | done | fail); omega) | (apply l_storeB; exact rfl; exact rfl; exact rfl; exact (by (repeat (first | exact .here | apply Take.there)); first | done | fail); omega) | (apply l_storeL; exact rfl; exact rfl; (first | exact rfl | assumption); exact rfl; exact (by (repeat (first | exact .here | apply Take.there)); first | done | fail); (focus (repeat (first | exact SetL.here | apply SetL.there)); done)) | (apply l_store; exact rfl; exact rfl; (first | exact rfl | assumption); exact rfl; exact (by (repeat (first | exact .here | apply Take.there)); first | done | fail); exact (by first | decide | (simp; done) | (simp; omega)))); (focus (rintro _ _ ⟨_, rfl⟩ w hw; exact hw.sel (by (repeat (first | exact Sel.nil | (apply Sel.cons; (focus ((repeat (first | exact .here | apply Mem.there | apply Take.there)); first | done | fail))))); first | done | fail))); rintro _ _ ⟨rfl, rfl⟩)
          | fail)
        refine jk_if_t rfl ?_
        refine jk_seq ?_
        refine jk_region ?_
        focus (refine' jk_q _ rfl rfl rfl _; rotate_left; (apply q_assign; exact rfl))
        focus (refine' jk_q _ rfl rfl rfl _; rotate_left; (apply q_assign; exact rfl))
        refine jk_nil ?_
        exact jk_ret_any (res2 rfl rfl rfl) (by (repeat (first | exact rs_nil | (refine rs_cons ?_ ?_; (focus ((repeat (first | exact .here | apply Mem.there | apply Take.there)); first | done | fail))) | exact fun ρ hρ => hρ | (intro ρ hρ; repeat (first | exact hρ | refine List.mem_cons_of_mem _ ?_)))); first | done | fail) (by (repeat (first | exact Sel.nil | (apply Sel.cons; (focus ((repeat (first | exact .here | apply Mem.there | apply Take.there)); first | done | fail))))); first | done | fail) ⟨rfl, by rw [hvs]⟩
    obtain ⟨f, hf⟩ := Int.eq_ofNat_of_zero_le g1
    obtain ⟨t', ht⟩ := Int.eq_ofNat_of_zero_le g3
    rw [hf, ht] at hA g5
    rw [hf] at g2
    rw [ht] at g4
    have hst : (l.take k).length = (fl.take k).length := by simp; omega
    have hlen : (fl.take k).length = k := by simp; omega
    have hnet := netL_snoc (n := n) (l := l.take k) (fl := fl.take k) (a := l[k]) (x := fl[k]) hst hf ht (by omega)
    rw [← take_snoc' hlt, ← take_snoc' hltf] at hnet
    have hsm : small (fl.take k) := inCap_small _ _ hst hy (fun a ha => hok a (List.mem_of_mem_take ha))
    have b1 := fval_bd f (l.take k) (fl.take k) hsm
    have b2' := fval_bd t' (l.take k) (fl.take k) hsm
    rw [hlen] at b1 b2'
    generalize hE : negL (netL n (l.take k) (fl.take k)) = E
    have hEl : E.length = n := by rw [← hE, negL_len, netL_len]
    have e1 : E.getD f 0 = -(fval f (l.take k) (fl.take k)) := by rw [← hE, negL_get (by rw [netL_len]; omega), netL_get (by omega)]
    have e2 : E.getD t' 0 = -(fval t' (l.take k) (fl.take k)) := by rw [← hE, negL_get (by rw [netL_len]; omega), netL_get (by omega)]
    have e3 : (E.set f (E.getD f 0 - fl[k])).getD t' 0 = E.getD t' 0 := by
      rw [List.getD_eq_getElem?_getD, List.getElem?_set_ne (by omega), ← List.getD_eq_getElem?_getD]
    have e4 : (E.set f (E.getD f 0 - fl[k])).length = n := by simp [hEl]
    refine jk_seq ?_
    refine jk_region ?_
    focus (refine' jk_q _ rfl rfl rfl _; rotate_left; (apply q_lt; exact rfl; exact rfl; omega))
    refine jk_nil ?_
    refine jk_seq ?_
    refine jk_if_t rfl ?_
    refine jk_skip ?_
    refine jk_seq ?_
    refine jk_block ?_
    refine jk_seq ?_
    refine jk_region ?_
    focus (refine' jk_q _ rfl rfl rfl _; rotate_left; (apply q_move; exact rfl))
    focus (refine' jk_q _ rfl rfl rfl _; rotate_left; (apply q_idxN; exact rfl; exact rfl; exact rfl; exact rfl; omega))
    focus (refine' jk_q _ rfl rfl rfl _; rotate_left; (apply q_loadS; exact rfl; exact rfl; (first | exact cells_own (by (repeat (first | exact .here | apply Mem.there)); first | done | fail) | exact cellsR (by assumption) (by (repeat (first | exact .here | apply Mem.there)); first | done | fail) | exact cellsH (by assumption) (by (repeat (first | exact .here | apply Mem.there)); first | done | fail)); exact rfl))
    focus (refine' jk_op _ rfl rfl rfl _; rotate_left; (apply l_allocS; exact rfl); rintro _ _ ⟨b, rfl, rfl⟩)
    focus (refine' jk_q _ rfl rfl rfl _; rotate_left; (apply q_assign; exact rfl))
    focus (refine' jk_op_none _ rfl rfl _; rotate_left; (apply l_storeS; exact rfl; exact rfl; exact (by (repeat (first | exact .here | apply Take.there)); first | done | fail); exact (by (repeat (first | exact (fun v hv => absurd hv List.not_mem_nil) | (refine List.forall_mem_cons.2 ⟨?_, ?_⟩; (focus (first | exact rfl | assumption))))); first | done | fail); exact rfl; exact rfl); rintro _ _ ⟨rfl, rfl⟩)
    refine jk_nil ?_
    refine jk_seq ?_
    refine jk_seq ?_
    refine jk_draw (.q 0 (.q 1 (.q 2 (.q 3 (.q 4 (.q 5 (.q 6 (.q 7 (.q 8 (.q 9 (.q 10 (.q 11 (.q 12 (.q 13 .nil)))))))))))))) [] rfl (by kernel_rfl) (by (repeat (first | exact Sel.nil | (apply Sel.cons; (focus ((repeat (first | exact .here | apply Mem.there | apply Take.there)); first | done | fail))))); first | done | fail) ?_
    focus (refine' dj_q rfl _ rfl rfl rfl rfl _; rotate_left; (apply q_move; exact rfl))
    focus (refine' dj_q rfl _ rfl rfl rfl rfl _; rotate_left; (apply q_move; exact rfl))
    focus (refine' dj_q rfl _ rfl rfl rfl rfl _; rotate_left; (apply q_idx1; exact rfl; exact rfl; exact rfl; exact rfl; omega))
    focus (refine' dj_q rfl _ rfl rfl rfl rfl _; rotate_left; (apply q_load; exact rfl; exact rfl; (first | exact cell_own (by (repeat (first | exact .here | apply Mem.there)); first | done | fail) rfl | exact cellR (by assumption) (by (repeat (first | exact .here | apply Mem.there)); first | done | fail) | exact cellH (by assumption) (by (repeat (first | exact .here | apply Mem.there)); first | done | fail) | exact cell_ints (by (repeat (first | exact .here | apply Mem.there)); first | done | fail) (by omega) | exact cell_bools (by assumption) (by (repeat (first | exact .here | apply Mem.there)); first | done | fail) | exact cell_intsR (by (repeat (first | exact .here | apply Mem.there)); first | done | fail) (by omega) | exact cell_boolsR (by assumption) (by (repeat (first | exact .here | apply Mem.there)); first | done | fail))))
    focus (refine' dj_q rfl _ rfl rfl rfl rfl _; rotate_left; (apply q_ltF; exact rfl; exact rfl; omega))
    focus (refine' dj_q rfl _ rfl rfl rfl rfl _; rotate_left; (apply q_move; exact rfl))
    focus (refine' dj_q rfl _ rfl rfl rfl rfl _; rotate_left; (apply q_move; exact rfl))
    focus (refine' dj_q rfl _ rfl rfl rfl rfl _; rotate_left; (apply q_move; exact rfl))
    focus (refine' dj_q rfl _ rfl rfl rfl rfl _; rotate_left; (apply q_idx1; exact rfl; exact rfl; exact rfl; exact rfl; omega))
    focus (refine' dj_q rfl _ rfl rfl rfl rfl _; rotate_left; (apply q_load; exact rfl; exact rfl; (first | exact cell_own (by (repeat (first | exact .here | apply Mem.there)); first | done | fail) rfl | exact cellR (by assumption) (by (repeat (first | exact .here | apply Mem.there)); first | done | fail) | exact cellH (by assumption) (by (repeat (first | exact .here | apply Mem.there)); first | done | fail) | exact cell_ints (by (repeat (first | exact .here | apply Mem.there)); first | done | fail) (by omega) | exact cell_bools (by assumption) (by (repeat (first | exact .here | apply Mem.there)); first | done | fail) | exact cell_intsR (by (repeat (first | exact .here | apply Mem.there)); first | done | fail) (by omega) | exact cell_boolsR (by assumption) (by (repeat (first | exact .here | apply Mem.there)); first | done | fail))))
    focus (refine' dj_q rfl _ rfl rfl rfl rfl _; rotate_left; (apply q_fld0; exact rfl; exact rfl))
    focus (refine' dj_q rfl _ rfl rfl rfl rfl _; rotate_left; (apply q_load; exact rfl; exact rfl; (first | exact cell_own (by (repeat (first | exact .here | apply Mem.there)); first | done | fail) rfl | exact cellR (by assumption) (by (repeat (first | exact .here | apply Mem.there)); first | done | fail) | exact cellH (by assumption) (by (repeat (first | exact .here | apply Mem.there)); first | done | fail) | exact cell_ints (by (repeat (first | exact .here | apply Mem.there)); first | done | fail) (by omega) | exact cell_bools (by assumption) (by (repeat (first | exact .here | apply Mem.there)); first | done | fail) | exact cell_intsR (by (repeat (first | exact .here | apply Mem.there)); first | done | fail) (by omega) | exact cell_boolsR (by assumption) (by (repeat (first | exact .here | apply Mem.there)); first | done | fail))))
    focus (refine' dj_q rfl _ rfl rfl rfl rfl _; rotate_left; (apply q_gtF; exact rfl; exact rfl; omega))
    focus (refine' dj_q rfl _ rfl rfl rfl rfl _; rotate_left; (apply q_pick_f; exact rfl; exact rfl))
    refine dj_end ?_
    refine jk_if_f rfl ?_
    refine jk_skip ?_
    refine jk_seq ?_
    refine jk_draw (.q 0 (.q 1 (.q 2 (.q 3 (.q 4 (.q 5 (.q 6 (.q 7 (.q 8 (.q 9 (.q 10 (.l 11 .b .nil)))))))))))) [] rfl (by kernel_rfl) (by (repeat (first | exact Sel.nil | (apply Sel.cons; (focus ((repeat (first | exact .here | apply Mem.there | apply Take.there)); first | done | fail))))); first | done | fail) ?_
    focus (refine' dj_q rfl _ rfl rfl rfl rfl _; rotate_left; (apply q_move; exact rfl))
    focus (refine' dj_q rfl _ rfl rfl rfl rfl _; rotate_left; (apply q_fld0; exact rfl; exact rfl))
    focus (refine' dj_q rfl _ rfl rfl rfl rfl _; rotate_left; (apply q_load; exact rfl; exact rfl; (first | exact cell_own (by (repeat (first | exact .here | apply Mem.there)); first | done | fail) rfl | exact cellR (by assumption) (by (repeat (first | exact .here | apply Mem.there)); first | done | fail) | exact cellH (by assumption) (by (repeat (first | exact .here | apply Mem.there)); first | done | fail) | exact cell_ints (by (repeat (first | exact .here | apply Mem.there)); first | done | fail) (by omega) | exact cell_bools (by assumption) (by (repeat (first | exact .here | apply Mem.there)); first | done | fail) | exact cell_intsR (by (repeat (first | exact .here | apply Mem.there)); first | done | fail) (by omega) | exact cell_boolsR (by assumption) (by (repeat (first | exact .here | apply Mem.there)); first | done | fail))))
    focus (refine' dj_q rfl _ rfl rfl rfl rfl _; rotate_left; (apply q_idx0; exact rfl; exact rfl; exact rfl; exact rfl; omega))
    focus (refine' dj_q rfl _ rfl rfl rfl rfl _; rotate_left; (apply q_load; exact rfl; exact rfl; (first | exact cell_own (by (repeat (first | exact .here | apply Mem.there)); first | done | fail) rfl | exact cellR (by assumption) (by (repeat (first | exact .here | apply Mem.there)); first | done | fail) | exact cellH (by assumption) (by (repeat (first | exact .here | apply Mem.there)); first | done | fail) | exact cell_ints (by (repeat (first | exact .here | apply Mem.there)); first | done | fail) (by omega) | exact cell_bools (by assumption) (by (repeat (first | exact .here | apply Mem.there)); first | done | fail) | exact cell_intsR (by (repeat (first | exact .here | apply Mem.there)); first | done | fail) (by omega) | exact cell_boolsR (by assumption) (by (repeat (first | exact .here | apply Mem.there)); first | done | fail))))
    focus (refine' dj_q rfl _ rfl rfl rfl rfl _; rotate_left; (apply q_move; exact rfl))
    focus (refine' dj_q rfl _ rfl rfl rfl rfl _; rotate_left; (apply q_move; exact rfl))
    focus (refine' dj_q rfl _ rfl rfl rfl rfl _; rotate_left; (apply q_idx1; exact rfl; exact rfl; exact rfl; exact rfl; omega))
    focus (refine' dj_q rfl _ rfl rfl rfl rfl _; rotate_left; (apply q_load; exact rfl; exact rfl; (first | exact cell_own (by (repeat (first | exact .here | apply Mem.there)); first | done | fail) rfl | exact cellR (by assumption) (by (repeat (first | exact .here | apply Mem.there)); first | done | fail) | exact cellH (by assumption) (by (repeat (first | exact .here | apply Mem.there)); first | done | fail) | exact cell_ints (by (repeat (first | exact .here | apply Mem.there)); first | done | fail) (by omega) | exact cell_bools (by assumption) (by (repeat (first | exact .here | apply Mem.there)); first | done | fail) | exact cell_intsR (by (repeat (first | exact .here | apply Mem.there)); first | done | fail) (by omega) | exact cell_boolsR (by assumption) (by (repeat (first | exact .here | apply Mem.there)); first | done | fail))))
    focus (refine' dj_q rfl _ rfl rfl rfl rfl _; rotate_left; (apply q_sub; exact rfl; exact rfl; exact ⟨by omega, by omega⟩))
    focus (refine' dj_q rfl _ rfl rfl rfl rfl _; rotate_left; (apply q_idx0; exact rfl; exact rfl; exact rfl; exact rfl; omega))
    focus (refine dj_l ?_; refine' a_bn rfl _ rfl rfl _ _; rotate_left; (apply l_storeI; exact rfl; exact rfl; exact rfl; exact (by (repeat (first | exact .here | apply Take.there)); first | done | fail); omega); (focus (rintro _ _ ⟨_, rfl⟩ w hw; exact hw.sel (by (repeat (first | exact Sel.nil | (apply Sel.cons; (focus ((repeat (first | exact .here | apply Mem.there | apply Take.there)); first | done | fail))))); first | done | fail))); rintro _ _ ⟨rfl, rfl⟩)
    refine dj_end ?_
    skip
    refine jk_draw (.q 0 (.q 1 (.q 2 (.q 3 (.q 4 (.q 5 (.q 6 (.q 7 (.q 8 (.q 9 (.q 10 (.l 11 .b .nil)))))))))))) [] rfl (by kernel_rfl) (by (repeat (first | exact Sel.nil | (apply Sel.cons; (focus ((repeat (first | exact .here | apply Mem.there | apply Take.there)); first | done | fail))))); first | done | fail) ?_
    focus (refine' dj_q rfl _ rfl rfl rfl rfl _; rotate_left; (apply q_move; exact rfl))
    focus (refine' dj_q rfl _ rfl rfl rfl rfl _; rotate_left; (apply q_fld0; exact rfl; exact rfl))
    focus (refine' dj_q rfl _ rfl rfl rfl rfl _; rotate_left; (apply q_load; exact rfl; exact rfl; (first | exact cell_own (by (repeat (first | exact .here | apply Mem.there)); first | done | fail) rfl | exact cellR (by assumption) (by (repeat (first | exact .here | apply Mem.there)); first | done | fail) | exact cellH (by assumption) (by (repeat (first | exact .here | apply Mem.there)); first | done | fail) | exact cell_ints (by (repeat (first | exact .here | apply Mem.there)); first | done | fail) (by omega) | exact cell_bools (by assumption) (by (repeat (first | exact .here | apply Mem.there)); first | done | fail) | exact cell_intsR (by (repeat (first | exact .here | apply Mem.there)); first | done | fail) (by omega) | exact cell_boolsR (by assumption) (by (repeat (first | exact .here | apply Mem.there)); first | done | fail))))
    focus (refine' dj_q rfl _ rfl rfl rfl rfl _; rotate_left; (apply q_idx0; exact rfl; exact rfl; exact rfl; exact rfl; omega))
    focus (refine' dj_q rfl _ rfl rfl rfl rfl _; rotate_left; (apply q_load; exact rfl; exact rfl; (first | exact cell_own (by (repeat (first | exact .here | apply Mem.there)); first | done | fail) rfl | exact cellR (by assumption) (by (repeat (first | exact .here | apply Mem.there)); first | done | fail) | exact cellH (by assumption) (by (repeat (first | exact .here | apply Mem.there)); first | done | fail) | exact cell_ints (by (repeat (first | exact .here | apply Mem.there)); first | done | fail) (by omega) | exact cell_bools (by assumption) (by (repeat (first | exact .here | apply Mem.there)); first | done | fail) | exact cell_intsR (by (repeat (first | exact .here | apply Mem.there)); first | done | fail) (by omega) | exact cell_boolsR (by assumption) (by (repeat (first | exact .here | apply Mem.there)); first | done | fail))))
    focus (refine' dj_q rfl _ rfl rfl rfl rfl _; rotate_left; (apply q_move; exact rfl))
    focus (refine' dj_q rfl _ rfl rfl rfl rfl _; rotate_left; (apply q_move; exact rfl))
    focus (refine' dj_q rfl _ rfl rfl rfl rfl _; rotate_left; (apply q_idx1; exact rfl; exact rfl; exact rfl; exact rfl; omega))
    focus (refine' dj_q rfl _ rfl rfl rfl rfl _; rotate_left; (apply q_load; exact rfl; exact rfl; (first | exact cell_own (by (repeat (first | exact .here | apply Mem.there)); first | done | fail) rfl | exact cellR (by assumption) (by (repeat (first | exact .here | apply Mem.there)); first | done | fail) | exact cellH (by assumption) (by (repeat (first | exact .here | apply Mem.there)); first | done | fail) | exact cell_ints (by (repeat (first | exact .here | apply Mem.there)); first | done | fail) (by omega) | exact cell_bools (by assumption) (by (repeat (first | exact .here | apply Mem.there)); first | done | fail) | exact cell_intsR (by (repeat (first | exact .here | apply Mem.there)); first | done | fail) (by omega) | exact cell_boolsR (by assumption) (by (repeat (first | exact .here | apply Mem.there)); first | done | fail))))
    focus (refine' dj_q rfl _ rfl rfl rfl rfl _; rotate_left; (apply q_add; exact rfl; exact rfl; exact ⟨by omega, by omega⟩))
    focus (refine' dj_q rfl _ rfl rfl rfl rfl _; rotate_left; (apply q_idx0; exact rfl; exact rfl; exact rfl; exact rfl; omega))
    focus (refine dj_l ?_; refine' a_bn rfl _ rfl rfl _ _; rotate_left; (apply l_storeI; exact rfl; exact rfl; exact rfl; exact (by (repeat (first | exact .here | apply Take.there)); first | done | fail); omega); (focus (rintro _ _ ⟨_, rfl⟩ w hw; exact hw.sel (by (repeat (first | exact Sel.nil | (apply Sel.cons; (focus ((repeat (first | exact .here | apply Mem.there | apply Take.there)); first | done | fail))))); first | done | fail))); rintro _ _ ⟨rfl, rfl⟩)
    refine dj_end ?_
    refine jk_blk ?_
    refine jk_region ?_
    focus (refine' jk_q _ rfl rfl rfl _; rotate_left; (apply q_inc; exact rfl; exact rfl; omega))
    focus (refine' jk_q _ rfl rfl rfl _; rotate_left; (apply q_move; exact rfl))
    refine jk_nil ?_
    refine jk_round (k + 1) ⟨by omega, ?_⟩ (by omega) (by (repeat (first | exact trivial | refine And.intro rfl ?_)); first | done | fail) ?_
    · rw [take_snoc' hlt, take_snoc' hltf, inCap_snoc _ _ _ _ hst, hy]
      simp; omega
    · rw [hnet, negL_set, negL_set, hE]
      rw [show -(fval f (l.take k) (fl.take k) + fl[k]) = E.getD f 0 - fl[k] from by omega]
      rw [show -(fval t' (l.take k) (fl.take k) - fl[k]) = (E.set f (E.getD f 0 - fl[k])).getD t' 0 + fl[k] from by rw [e3]; omega]
      exact (by (repeat (first | exact Sel.nil | (apply Sel.cons; (focus ((repeat (first | exact .here | apply Mem.there | apply Take.there)); first | done | fail))))); first | done | fail)
  obtain rfl : k = l.length := by omega
  rw [List.take_length, List.take_of_length_le (by omega)] at hy
  rw [List.take_length, List.take_of_length_le (by omega)]
  have hsm : small fl := inCap_small _ _ hfl.symm hy hok
  generalize hE : negL (netL n l fl) = E
  have hEl : E.length = n := by rw [← hE, negL_len, netL_len]
  refine jk_seq ?_
  refine jk_region ?_
  focus (refine' jk_q _ rfl rfl rfl _; rotate_left; (apply q_ltF; exact rfl; exact rfl; omega))
  refine jk_nil ?_
  refine jk_seq ?_
  refine jk_if_f rfl ?_
  refine jk_exit rfl ?_
  refine jk_seq ?_
  refine jk_seq ?_
  refine jk_region ?_
  focus (refine' jk_q _ rfl rfl rfl _; rotate_left; (apply q_move; exact rfl))
  focus (refine' jk_q _ rfl rfl rfl _; rotate_left; (apply q_len; exact rfl; exact rfl))
  focus (refine' jk_q _ rfl rfl rfl _; rotate_left; (apply q_move; exact rfl))
  refine jk_nil ?_
  refine jk_block ?_
  refine jk_loop [1, 2, 3, 4, 83, 84] (0 : Nat) (fun k => k ≤ n ∧ ∀ v : Nat, v < k → (v : Int) = s ∨ (v : Int) = t ∨ fval v l fl = 0) (fun k => [(85, int k)]) (fun _ => [sng b (.cells (ints E) 3 (0, 0))]) (fun k => n - k) (by (repeat (first | exact Pick.nil | apply Pick.cons rfl)); first | done | fail) ⟨by omega, by simp⟩ (by (repeat (first | exact trivial | refine And.intro rfl ?_)); first | done | fail) (by (repeat (first | exact Sel.nil | (apply Sel.cons; (focus ((repeat (first | exact .here | apply Mem.there | apply Take.there)); first | done | fail))))); first | done | fail) ?_
  rintro k ⟨hk, hz⟩
  by_cases hlt : k < n
  · have e1 : E.getD k 0 = -(fval k l fl) := by rw [← hE, negL_get (by rw [netL_len]; omega), netL_get (by omega)]
    repeat' (first
      | (refine' jk_q _ rfl rfl rfl _; rotate_left; (first | (first | (apply q_move; exact rfl) | (apply q_assign; exact rfl) | (apply q_extract; exact rfl; exact rfl) | (apply q_load; exact rfl; exact rfl; (first | exact cell_own (by (repeat (first | exact .here | apply Mem.there)); first | done | fail) rfl | exact cellR (by assumption) (by (repeat (first | exact .here | apply Mem.there)); first | done | fail) | exact cellH (by assumption) (by (repeat (first | exact .here | apply Mem.there)); first | done | fail) | exact cell_ints (by (repeat (first | exact .here | apply Mem.there)); first | done | fail) (by omega) | exact cell_bools (by assumption) (by (repeat (first | exact .here | apply Mem.there)); first | done | fail) | exact cell_intsR (by (repeat (first | exact .here | apply Mem.there)); first | done | fail) (by omega) | exact cell_boolsR (by assumption) (by (repeat (first | exact .here | apply Mem.there)); first | done | fail))) | (apply q_fld0; exact rfl; exact rfl) | (apply q_fldZ; exact rfl; exact rfl) | (apply q_fld; exact rfl; exact rfl) | (apply q_idx0; exact rfl; exact rfl; exact rfl; exact rfl; omega) | (apply q_idx1; exact rfl; exact rfl; exact rfl; exact rfl; omega) | (apply q_idxN; exact rfl; exact rfl; exact rfl; exact rfl; omega) | (apply q_idxZ; exact rfl; exact rfl; exact rfl; exact rfl; omega) | (apply q_pick_t; exact rfl; exact rfl)) | (first | (apply q_pick_f; exact rfl; exact rfl) | (apply q_len; exact rfl; exact rfl) | (apply q_not; exact rfl) | (apply q_nilCheck; exact rfl) | (apply q_nilCheckF; exact rfl) | (apply q_nilCheckY; exact rfl) | (apply q_inc; exact rfl; exact rfl; omega) | (apply q_lt; exact rfl; exact rfl; omega) | (apply q_ltF; exact rfl; exact rfl; omega) | (apply q_eq; exact rfl; exact rfl; omega) | (apply q_eqF; exact rfl; exact rfl; omega) | (apply q_ne; exact rfl; exact rfl; omega)) | (first | (apply q_neF; exact rfl; exact rfl; omega) | (apply q_gt; exact rfl; exact rfl; omega) | (apply q_gtF; exact rfl; exact rfl; omega) | (apply q_le; exact rfl; exact rfl; omega) | (apply q_leF; exact rfl; exact rfl; omega) | (apply q_ge; exact rfl; exact rfl; omega) | (apply q_geF; exact rfl; exact rfl; omega) | (apply q_sub_nat; exact rfl; exact rfl; omega; omega) | (apply q_add; exact rfl; exact rfl; exact ⟨by omega, by omega⟩) | (apply q_sub; exact rfl; exact rfl; exact ⟨by omega, by omega⟩) | (apply q_dbl; exact rfl; exact rfl; omega) | (apply q_mul; exact rfl; exact rfl; exact ⟨by omega, by omega⟩)) | (first | (apply q_half; exact rfl; exact rfl; omega) | (apply q_par; exact rfl; exact rfl) | (apply q_quo; exact rfl; exact rfl; omega; omega; omega) | (apply q_rem; exact rfl; exact rfl; omega; omega) | (apply q_loadS; exact rfl; exact rfl; (first | exact cells_own (by (repeat (first | exact .here | apply Mem.there)); first | done | fail) | exact cellsR (by assumption) (by (repeat (first | exact .here | apply Mem.there)); first | done | fail) | exact cellsH (by assumption) (by (repeat (first | exact .here | apply Mem.there)); first | done | fail)); exact rfl) | (apply q_min; exact rfl; exact rfl) | (apply q_max; exact rfl; exact rfl) | (apply q_makeFunc; exact rfl; exact rfl) | (apply q_field; exact rfl; exact rfl) | (apply q_build; exact rfl; exact rfl; exact (by (repeat (first | exact Bld.nil | apply Bld.put rfl rfl rfl | apply Bld.keep rfl)); first | done | fail)) | (apply q_neg; exact rfl; exact ⟨by omega, by omega⟩))))
      | refine jk_seq ?_
      | refine jk_region ?_
      | refine jk_nil ?_
      | refine jk_block ?_
      | refine jk_blk ?_
      | refine jk_skip ?_
      | refine jk_if_t rfl ?_
      | refine jk_if_f rfl ?_
      | refine jk_exit rfl ?_
      | refine jk_pass rfl rfl rfl ?_
      | (refine' jk_op _ rfl rfl rfl _; rotate_left; (first | (apply l_makeV; exact rfl; exact rfl; exact rfl; exact rfl; exact rfl; exact rfl; omega; omega) | (apply l_makeI; exact rfl; exact rfl; exact rfl; exact rfl; exact rfl; exact rfl; omega; omega) | (apply l_makeB; exact rfl; exact rfl; exact rfl; exact rfl; exact rfl; exact rfl; omega; omega) | (apply l_allocS; exact rfl) | (apply l_alloc1; exact rfl; exact rfl) | (apply l_buildSlice; exact rfl; exact rfl; exact rfl; exact rfl; exact rfl; exact (by (repeat (first | exact (fun v hv => absurd hv List.not_mem_nil) | (refine List.forall_mem_cons.2 ⟨?_, ?_⟩; (focus (first | exact rfl | assumption))))); first | done | fail); exact (by (repeat (first | exact Flat.nil | apply Flat.one rfl | apply Flat.agg2 | apply Flat.agg3 | apply Flat.agg1 | apply Flat.agg4 | apply Flat.agg5)); first | done | fail); exact rfl) | (apply l_boxS; exact rfl) | (apply l_box1; exact rfl; exact rfl)); rintro _ _ ⟨b, rfl, rfl⟩)
      | (refine' jk_op_none _ rfl rfl _; rotate_left; (first | (apply l_storeI; exact rfl; exact rfl; exact rfl; exact (by (repeat (first | exact .here | apply Take.there)); first | done | fail); omega) | (apply l_storeB; exact rfl; exact rfl; exact rfl; exact (by (repeat (first | exact .here | apply Take.there)); first | done | fail); omega) | (apply l_storeS; exact rfl; exact rfl; exact (by (repeat (first | exact .here | apply Take.there)); first | done | fail); exact (by (repeat (first | exact (fun v hv => absurd hv List.not_mem_nil) | (refine List.forall_mem_cons.2 ⟨?_, ?_⟩; (focus (first | exact rfl | assumption))))); first | done | fail); exact rfl; exact rfl) | (apply l_storeL; exact rfl; exact rfl; (first | exact rfl | assumption); exact rfl; exact (by (repeat (first | exact .here | apply Take.there)); first | done | fail); (focus (repeat (first | exact SetL.here | apply SetL.there)); done)) | (apply l_store; exact rfl; exact rfl; (first | exact rfl | assumption); exact rfl; exact (by (repeat (first | exact .here | apply Take.there)); first | done | fail); exact (by first | decide | (simp; done) | (simp; omega)))); rintro _ _ ⟨rfl, rfl⟩)
      | (refine jk_cmp rfl rfl (cmp_eq _ _) rfl rfl (fun h => ?_) (fun h => ?_))
      | (refine jk_cmp rfl rfl (cmp_ne _ _) rfl rfl (fun h => ?_) (fun h => ?_))
      | (refine jk_cmp rfl rfl (cmp_lt _ _) rfl rfl (fun h => ?_) (fun h => ?_))
      | (refine jk_cmp rfl rfl (cmp_le _ _) rfl rfl (fun h => ?_) (fun h => ?_))
      | (refine jk_cmp rfl rfl (cmp_gt _ _) rfl rfl (fun h => ?_) (fun h => ?_))
      | (refine jk_cmp rfl rfl (cmp_ge _ _) rfl rfl (fun h => ?_) (fun h => ?_))
      | (refine jk_if rfl (fun h => ?_) (fun h => ?_))
      | fail)
    all_goals first
      | (refine jk_round (k + 1) ⟨by omega, fun v hv => ?_⟩ (by omega) (by (repeat (first | exact trivial | refine And.intro rfl ?_)); first | done | fail) (by (repeat (first | exact Sel.nil | (apply Sel.cons; (focus ((repeat (first | exact .here | apply Mem.there | apply Take.there)); first | done | fail))))); first | done | fail)
         rcases Nat.lt_or_ge v k with hv' | hv'
         · exact hz v hv'
         · obtain rfl : v = k := by omega
           omega)
      | (refine jk_ret_any (res2 rfl rfl rfl) (by (repeat (first | exact rs_nil | (refine rs_cons ?_ ?_; (focus ((repeat (first | exact .here | apply Mem.there | apply Take.there)); first | done | fail))) | exact fun ρ hρ => hρ | (intro ρ hρ; repeat (first | exact hρ | refine List.mem_cons_of_mem _ ?_)))); first | done | fail) (by (repeat (first | exact Sel.nil | (apply Sel.cons; (focus ((repeat (first | exact .here | apply Mem.there | apply Take.there)); first | done | fail))))); first | done | fail) ⟨rfl, ?_⟩
         have hb := balanced_not (l := l) (fl := fl) (s := s) (t := t) hlt (by omega) (by omega) (by omega)
         unfold valueSpec
         rw [if_neg (by rw [hc]; simp), if_neg (by rw [he]; simp), if_neg (by simpa using hfl), if_neg (by rw [hy]; simp), Int.toNat_natCast, if_pos hb])
  · refine jk_seq ?_
    refine jk_region ?_
    focus (refine' jk_q _ rfl rfl rfl _; rotate_left; (apply q_ltF; exact rfl; exact rfl; omega))
    refine jk_nil ?_
    refine jk_seq ?_
    refine jk_if_f rfl ?_
    refine jk_exit rfl ?_
    refine jk_seq ?_
    refine jk_region ?_
    focus (refine' jk_q _ rfl rfl rfl _; rotate_left; (apply q_move; exact rfl))
    focus (refine' jk_q _ rfl rfl rfl _; rotate_left; (apply q_move; exact rfl))
    focus (refine' jk_q _ rfl rfl rfl _; rotate_left; (apply q_move; exact rfl))
    focus ((refine jk_call (value_spec ρ σ _ _ s l fl hv hu a3 hfl hsm) rfl rfl (by (repeat (first | exact RdOK.nil | (refine RdOK.consR ?_ ?_; (focus ((repeat (first | exact .here | apply Mem.there | apply Take.there)); first | done | fail))) | (refine RdOK.consH ?_ ?_; (focus ((repeat (first | exact .here | apply Mem.there | apply Take.there)); first | done | fail))) | exact (fun τ hτ => .inl (by simp [hτ])))); first | done | fail) rfl rfl ?_; rintro _ rfl))
    focus (refine' jk_q _ rfl rfl rfl _; rotate_left; (apply q_assign; exact rfl))
    focus (refine' jk_q _ rfl rfl rfl _; rotate_left; (apply q_assign; exact rfl))
    refine jk_nil ?_
    refine jk_ret_any (res2 rfl rfl rfl) (by (repeat (first | exact rs_nil | (refine rs_cons ?_ ?_; (focus ((repeat (first | exact .here | apply Mem.there | apply Take.there)); first | done | fail))) | exact fun ρ hρ => hρ | (intro ρ hρ; repeat (first | exact hρ | refine List.mem_cons_of_mem _ ?_)))); first | done | fail) (by (repeat (first | exact Sel.nil | (apply Sel.cons; (focus ((repeat (first | exact .here | apply Mem.there | apply Take.there)); first | done | fail))))); first | done | fail) ⟨rfl, ?_⟩
    have hb := balanced_of (n := n) (l := l) (fl := fl) (s := s) (t := t) (fun v hv => hz v (by omega))
    unfold valueSpec
    rw [if_neg (by rw [hc]; simp), if_neg (by rw [he]; simp), if_neg (by simpa using hfl), if_neg (by rw [hy]; simp), Int.toNat_natCast, if_neg (by rw [hb]; simp)]

theorem refValue_spec (ρ σ : PH) (v u : Value) (n s t : Int) (l : List Arc) (fl : List Int) (hv : ArcsAt ρ v l) (hu : IntsAt σ u fl) (hl : l.length ≤ 1000000) :
    Ans Try.prog (fv 28) [int n, v, u, int s, int t] [ρ, σ] (fun r => r = .tuple #[int (valueSpec n l fl s t).1, int (valueSpec n l fl s t).2]) := by
  obtain ⟨q, c, rfl, hr⟩ := hv.val encA_len
  obtain ⟨q2, c2, rfl, hr2⟩ := hu.val encI_len
  refine spec_in (cap := []) Try.func28 rfl rfl Try.ntmps28 rfl (by (repeat (first | exact EnvA.nil EnvI.nil | apply EnvA.cons | apply EnvA.nil | exact EnvI.nil | apply EnvI.cons)); first | done | fail) (fun N β => ?_)
  refine jk_seq ?_
  refine jk_region ?_
  focus (refine' jk_q _ rfl rfl rfl _; rotate_left; (apply q_assign; exact rfl))
  focus (refine' jk_q _ rfl rfl rfl _; rotate_left; (apply q_assign; exact rfl))
  refine jk_nil ?_
  refine jk_seq ?_
  refine jk_seq ?_
  refine jk_region ?_
  focus (refine' jk_q _ rfl rfl rfl _; rotate_left; (apply q_move; exact rfl))
  focus (refine' jk_q _ rfl rfl rfl _; rotate_left; (apply q_move; exact rfl))
  focus (refine' jk_q _ rfl rfl rfl _; rotate_left; (apply q_move; exact rfl))
  focus (refine' jk_q _ rfl rfl rfl _; rotate_left; (apply q_move; exact rfl))
  focus ((refine jk_call (refEnds_spec ρ _ n s t l hv hl) rfl rfl (by (repeat (first | exact RdOK.nil | (refine RdOK.consR ?_ ?_; (focus ((repeat (first | exact .here | apply Mem.there | apply Take.there)); first | done | fail))) | (refine RdOK.consH ?_ ?_; (focus ((repeat (first | exact .here | apply Mem.there | apply Take.there)); first | done | fail))) | exact (fun τ hτ => .inl (by simp [hτ])))); first | done | fail) rfl rfl ?_; rintro _ rfl))
  focus (refine' jk_q _ rfl rfl rfl _; rotate_left; (apply q_assign; exact rfl))
  refine jk_nil ?_
  refine jk_seq ?_
  refine jk_region ?_
  focus (refine' jk_q _ rfl rfl rfl _; rotate_left; (apply q_move; exact rfl))
  by_cases hc : chk n l = 0
  rotate_left
  · rw [if_pos hc]
    focus (refine' jk_q _ rfl rfl rfl _; rotate_left; (apply q_ne; exact rfl; exact rfl; omega))
    refine jk_nil ?_
    refine jk_if_t rfl ?_
    refine jk_seq ?_
    refine jk_region ?_
    focus (refine' jk_q _ rfl rfl rfl _; rotate_left; (apply q_move; exact rfl))
    focus (refine' jk_q _ rfl rfl rfl _; rotate_left; (apply q_assign; exact rfl))
    focus (refine' jk_q _ rfl rfl rfl _; rotate_left; (apply q_assign; exact rfl))
    refine jk_nil ?_
    refine jk_ret_any (res2 rfl rfl rfl) (by (repeat (first | exact rs_nil | (refine rs_cons ?_ ?_; (focus ((repeat (first | exact .here | apply Mem.there | apply Take.there)); first | done | fail))) | exact fun ρ hρ => hρ | (intro ρ hρ; repeat (first | exact hρ | refine List.mem_cons_of_mem _ ?_)))); first | done | fail) (by (repeat (first | exact Sel.nil | (apply Sel.cons; (focus ((repeat (first | exact .here | apply Mem.there | apply Take.there)); first | done | fail))))); first | done | fail) ⟨rfl, ?_⟩
    unfold valueSpec; rw [if_pos hc]
  rw [if_neg (by rw [hc]; simp)]
  obtain ⟨a1, a2, a3, hok⟩ := chk_ok hc
  obtain ⟨n, rfl⟩ := Int.eq_ofNat_of_zero_le a1
  by_cases he : okEnds n s t = true
  rotate_left
  · have he' : okEnds n s t = false := by simpa using he
    rw [if_neg he]
    focus (refine' jk_q _ rfl rfl rfl _; rotate_left; (apply q_ne; exact rfl; exact rfl; omega))
    refine jk_nil ?_
    refine jk_if_t rfl ?_
    refine jk_seq ?_
    refine jk_region ?_
    focus (refine' jk_q _ rfl rfl rfl _; rotate_left; (apply q_move; exact rfl))
    focus (refine' jk_q _ rfl rfl rfl _; rotate_left; (apply q_assign; exact rfl))
    focus (refine' jk_q _ rfl rfl rfl _; rotate_left; (apply q_assign; exact rfl))
    refine jk_nil ?_
    refine jk_ret_any (res2 rfl rfl rfl) (by (repeat (first | exact rs_nil | (refine rs_cons ?_ ?_; (focus ((repeat (first | exact .here | apply Mem.there | apply Take.there)); first | done | fail))) | exact fun ρ hρ => hρ | (intro ρ hρ; repeat (first | exact hρ | refine List.mem_cons_of_mem _ ?_)))); first | done | fail) (by (repeat (first | exact Sel.nil | (apply Sel.cons; (focus ((repeat (first | exact .here | apply Mem.there | apply Take.there)); first | done | fail))))); first | done | fail) ⟨rfl, ?_⟩
    unfold valueSpec; rw [if_neg (by rw [hc]; simp), if_pos he']
  rw [if_pos he]
  obtain ⟨s1, s2, t1, t2, st⟩ := okEnds_iff.1 he
  by_cases hfl : fl.length = l.length
  rotate_left
  · focus (refine' jk_q _ rfl rfl rfl _; rotate_left; (apply q_neF; exact rfl; exact rfl; omega))
    refine jk_nil ?_
    refine jk_if_f rfl ?_
    refine jk_skip ?_
    refine jk_seq ?_
    refine jk_seq ?_
    refine jk_region ?_
    focus (refine' jk_q _ rfl rfl rfl _; rotate_left; (apply q_move; exact rfl))
    focus (refine' jk_q _ rfl rfl rfl _; rotate_left; (apply q_len; exact rfl; exact rfl))
    focus (refine' jk_q _ rfl rfl rfl _; rotate_left; (apply q_move; exact rfl))
    focus (refine' jk_q _ rfl rfl rfl _; rotate_left; (apply q_len; exact rfl; exact rfl))
    focus (refine' jk_q _ rfl rfl rfl _; rotate_left; (apply q_ne; exact rfl; exact rfl; omega))
    refine jk_nil ?_
    refine jk_if_t rfl ?_
    refine jk_seq ?_
    refine jk_region ?_
    focus (refine' jk_q _ rfl rfl rfl _; rotate_left; (apply q_assign; exact rfl))
    focus (refine' jk_q _ rfl rfl rfl _; rotate_left; (apply q_assign; exact rfl))
    refine jk_nil ?_
    refine jk_ret_any (res2 rfl rfl rfl) (by (repeat (first | exact rs_nil | (refine rs_cons ?_ ?_; (focus ((repeat (first | exact .here | apply Mem.there | apply Take.there)); first | done | fail))) | exact fun ρ hρ => hρ | (intro ρ hρ; repeat (first | exact hρ | refine List.mem_cons_of_mem _ ?_)))); first | done | fail) (by (repeat (first | exact Sel.nil | (apply Sel.cons; (focus ((repeat (first | exact .here | apply Mem.there | apply Take.there)); first | done | fail))))); first | done | fail) ⟨rfl, ?_⟩
    unfold valueSpec; rw [if_neg (by rw [hc]; simp), if_neg (by rw [he]; simp), if_pos hfl]
  focus (refine' jk_q _ rfl rfl rfl _; rotate_left; (apply q_neF; exact rfl; exact rfl; omega))
  refine jk_nil ?_
  refine jk_if_f rfl ?_
  refine jk_skip ?_
  refine jk_seq ?_
  refine jk_seq ?_
  refine jk_region ?_
  focus (refine' jk_q _ rfl rfl rfl _; rotate_left; (apply q_move; exact rfl))
  focus (refine' jk_q _ rfl rfl rfl _; rotate_left; (apply q_len; exact rfl; exact rfl))
  focus (refine' jk_q _ rfl rfl rfl _; rotate_left; (apply q_move; exact rfl))
  focus (refine' jk_q _ rfl rfl rfl _; rotate_left; (apply q_len; exact rfl; exact rfl))
  focus (refine' jk_q _ rfl rfl rfl _; rotate_left; (apply q_neF; exact rfl; exact rfl; omega))
  refine jk_nil ?_
  refine jk_if_f rfl ?_
  refine jk_skip ?_
  refine jk_seq ?_
  refine jk_seq ?_
  refine jk_region ?_
  focus (refine' jk_q _ rfl rfl rfl _; rotate_left; (apply q_assign; exact rfl))
  refine jk_nil ?_
  refine jk_block ?_
  refine jk_loop [0, 1, 2, 3, 4] (0 : Nat) (fun k => k ≤ l.length ∧ inCap (l.take k) (fl.take k) = true) (fun k => [(13, int k)]) (fun k => []) (fun k => l.length - k) (by (repeat (first | exact Pick.nil | apply Pick.cons rfl)); first | done | fail) ⟨by omega, by simp [inCap]⟩ (by (repeat (first | exact trivial | refine And.intro rfl ?_)); first | done | fail) (by (repeat (first | exact Sel.nil | (apply Sel.cons; (focus ((repeat (first | exact .here | apply Mem.there | apply Take.there)); first | done | fail))))); first | done | fail) ?_
  rintro k ⟨hk, hy⟩
  by_cases hlt : k < l.length
  · have hltf : k < fl.length := by omega
    obtain ⟨b', o, rfl, hA, h0, h1, h2⟩ := arcRow hr (List.getElem?_eq_getElem hlt)
    obtain ⟨b2, o2, rfl, f0⟩ := hr2.int (List.getElem?_eq_getElem hltf)
    have hst : (l.take k).length = (fl.take k).length := by simp; omega
    by_cases hin : 0 ≤ fl[k] ∧ fl[k] ≤ l[k].c
    rotate_left
    · have hvs : valueSpec n l fl s t = (0, 2) := by
        unfold valueSpec
        rw [if_neg (by rw [hc]; simp), if_neg (by rw [he]; simp), if_neg (by simpa using hfl), if_pos (inCap_take_false hlt hfl hin)]
      rcases (show fl[k] < 0 ∨ (0 ≤ fl[k] ∧ l[k].c < fl[k]) by omega) with hin' | hin'
      all_goals
        refine jk_seq ?_
        refine jk_seq ?_
        refine jk_region ?_
        focus (refine' jk_q _ rfl rfl rfl _; rotate_left; (apply q_move; exact rfl))
        focus (refine' jk_q _ rfl rfl rfl _; rotate_left; (apply q_move; exact rfl))
        focus (refine' jk_q _ rfl rfl rfl _; rotate_left; (apply q_len; exact rfl; exact rfl))
        focus (refine' jk_q _ rfl rfl rfl _; rotate_left; (apply q_lt; exact rfl; exact rfl; omega))
        refine jk_nil ?_
        refine jk_if_t rfl ?_
        refine jk_skip ?_
        refine jk_seq ?_
        refine jk_block ?_
        refine jk_seq ?_
        refine jk_draw (.q 0 (.q 1 (.q 2 (.q 3 (.q 4 (.q 5 (.q 6 (.q 7 (.q 8 (.q 9 (.q 10 (.q 11 (.q 12 (.q 13 (.q 14 (.q 15 (.q 16 .nil))))))))))))))))) [] rfl (by kernel_rfl) (by (repeat (first | exact Sel.nil | (apply Sel.cons; (focus ((repeat (first | exact .here | apply Mem.there | apply Take.there)); first | done | fail))))); first | done | fail) ?_
        repeat' (first
          | (refine' dj_q rfl _ rfl rfl rfl rfl _; rotate_left; (first | (first | (apply q_move; exact rfl) | (apply q_assign; exact rfl) | (apply q_extract; exact rfl; exact rfl) | (apply q_load; exact rfl; exact rfl; (first | exact cell_own (by (repeat (first | exact .here | apply Mem.there)); first | done | fail) rfl | exact cellR (by assumption) (by (repeat (first | exact .here | apply Mem.there)); first | done | fail) | exact cellH (by assumption) (by (repeat (first | exact .here | apply Mem.there)); first | done | fail) | exact cell_ints (by (repeat (first | exact .here | apply Mem.there)); first | done | fail) (by omega) | exact cell_bools (by assumption) (by (repeat (first | exact .here | apply Mem.there)); first | done | fail) | exact cell_intsR (by (repeat (first | exact .here | apply Mem.there)); first | done | fail) (by omega) | exact cell_boolsR (by assumption) (by (repeat (first | exact .here | apply Mem.there)); first | done | fail))) | (apply q_fld0; exact rfl; exact rfl) | (apply q_fldZ; exact rfl; exact rfl) | (apply q_fld; exact rfl; exact rfl) | (apply q_idx0; exact rfl; exact rfl; exact rfl; exact rfl; omega) | (apply q_idx1; exact rfl; exact rfl; exact rfl; exact rfl; omega) | (apply q_idxN; exact rfl; exact rfl; exact rfl; exact rfl; omega) | (apply q_idxZ; exact rfl; exact rfl; exact rfl; exact rfl; omega) | (apply q_pick_t; exact rfl; exact rfl)) | (first | (apply q_pick_f; exact rfl; exact rfl) | (apply q_len; exact rfl; exact rfl) | (apply q_not; exact rfl) | (apply q_nilCheck; exact rfl) | (apply q_nilCheckF; exact rfl) | (apply q_nilCheckY; exact rfl) | (apply q_inc; exact rfl; exact rfl; omega) | (apply q_lt; exact rfl; exact rfl; omega) | (apply q_ltF; exact rfl; exact rfl; omega) | (apply q_eq; exact rfl; exact rfl; omega) | (apply q_eqF; exact rfl; exact rfl; omega) | (apply q_ne; exact rfl; exact rfl; omega)) | (first | (apply q_neF; exact rfl; exact rfl; omega) | (apply q_gt; exact rfl; exact rfl; omega) | (apply q_gtF; exact rfl; exact rfl; omega) | (apply q_le; exact rfl; exact rfl; omega) | (apply q_leF; exact rfl; exact rfl; omega) | (apply q_ge; exact rfl; exact rfl; omega) | (apply q_geF; exact rfl; exact rfl; omega) | (apply q_sub_nat; exact rfl; exact rfl; omega; omega) | (apply q_add; exact rfl; exact rfl; exact ⟨by omega, by omega⟩) | (apply q_sub; exact rfl; exact rfl; exact ⟨by omega, by omega⟩) | (apply q_dbl; exact rfl; exact rfl; omega) | (apply q_mul; exact rfl; exact rfl; exact ⟨by omega, by omega⟩)) | (first | (apply q_half; exact rfl; exact rfl; omega) | (apply q_par; exact rfl; exact rfl) | (apply q_quo; exact rfl; exact rfl; omega; omega; omega) | (apply q_rem; exact rfl; exact rfl; omega; omega) | (apply q_loadS; exact rfl; exact rfl; (first | exact cells_own (by (repeat (first | exact .here | apply Mem.there)); first | done | fail) | exact cellsR (by assumption) (by (repeat (first | exact .here | apply Mem.there)); first | done | fail) | exact cellsH (by assumption) (by (repeat (first | exact .here | apply Mem.there)); first | done | fail)); exact rfl) | (apply q_min; exact rfl; exact rfl) | (apply q_max; exact rfl; exact rfl) | (apply q_makeFunc; exact rfl; exact rfl) | (apply q_field; exact rfl; exact rfl) | (apply q_build; exact rfl; exact rfl; exact (by (repeat (first | exact Bld.nil | apply Bld.put rfl rfl rfl | apply Bld.keep rfl)); first | done | fail)) | (apply q_neg; exact rfl; exact ⟨by omega, by omega⟩))))
          | refine dj_pass rfl rfl rfl rfl rfl ?_
          | (refine' dj_p rfl _ rfl rfl rfl _; rotate_left; (first | (first | (apply q_move; exact rfl) | (apply q_assign; exact rfl) | (apply q_extract; exact rfl; exact rfl) | (apply q_load; exact rfl; exact rfl; (first | exact cell_own (by (repeat (first | exact .here | apply Mem.there)); first | done | fail) rfl | exact cellR (by assumption) (by (repeat (first | exact .here | apply Mem.there)); first | done | fail) | exact cellH (by assumption) (by (repeat (first | exact .here | apply Mem.there)); first | done | fail) | exact cell_ints (by (repeat (first | exact .here | apply Mem.there)); first | done | fail) (by omega) | exact cell_bools (by assumption) (by (repeat (first | exact .here | apply Mem.there)); first | done | fail) | exact cell_intsR (by (repeat (first | exact .here | apply Mem.there)); first | done | fail) (by omega) | exact cell_boolsR (by assumption) (by (repeat (first | exact .here | apply Mem.there)); first | done | fail))) | (apply q_fld0; exact rfl; exact rfl) | (apply q_fldZ; exact rfl; exact rfl) | (apply q_fld; exact rfl; exact rfl) | (apply q_idx0; exact rfl; exact rfl; exact rfl; exact rfl; omega) | (apply q_idx1; exact rfl; exact rfl; exact rfl; exact rfl; omega) | (apply q_idxN; exact rfl; exact rfl; exact rfl; exact rfl; omega) | (apply q_idxZ; exact rfl; exact rfl; exact rfl; exact rfl; omega) | (apply q_pick_t; exact rfl; exact rfl)) | (first | (apply q_pick_f; exact rfl; exact rfl) | (apply q_len; exact rfl; exact rfl) | (apply q_not; exact rfl) | (apply q_nilCheck; exact rfl) | (apply q_nilCheckF; exact rfl) | (apply q_nilCheckY; exact rfl) | (apply q_inc; exact rfl; exact rfl; omega) | (apply q_lt; exact rfl; exact rfl; omega) | (apply q_ltF; exact rfl; exact rfl; omega) | (apply q_eq; exact rfl; exact rfl; omega) | (apply q_eqF; exact rfl; exact rfl; omega) | (apply q_ne; exact rfl; exact rfl; omega)) | (first | (apply q_neF; exact rfl; exact rfl; omega) | (apply q_gt; exact rfl; exact rfl; omega) | (apply q_gtF; exact rfl; exact rfl; omega) | (apply q_le; exact rfl; exact rfl; omega) | (apply q_leF; exact rfl; exact rfl; omega) | (apply q_ge; exact rfl; exact rfl; omega) | (apply q_geF; exact rfl; exact rfl; omega) | (apply q_sub_nat; exact rfl; exact rfl; omega; omega) | (apply q_add; exact rfl; exact rfl; exact ⟨by omega, by omega⟩) | (apply q_sub; exact rfl; exact rfl; exact ⟨by omega, by omega⟩) | (apply q_dbl; exact rfl; exact rfl; omega) | (apply q_mul; exact rfl; exact rfl; exact ⟨by omega, by omega⟩)) | (first | (apply q_half; exact rfl; exact rfl; omega) | (apply q_par; exact rfl; exact rfl) | (apply q_quo; exact rfl; exact rfl; omega; omega; omega) | (apply q_rem; exact rfl; exact rfl; omega; omega) | (apply q_loadS; exact rfl; exact rfl; (first | exact cells_own (by (repeat (first | exact .here | apply Mem.there)); first | done | fail) | exact cellsR (by assumption) (by (repeat (first | exact .here | apply Mem.there)); first | done | fail) | exact cellsH (by assumption) (by (repeat (first | exact .here | apply Mem.there)); first | done | fail)); exact rfl) | (apply q_min; exact rfl; exact rfl) | (apply q_max; exact rfl; exact rfl) | (apply q_makeFunc; exact rfl; exact rfl) | (apply q_field; exact rfl; exact rfl) | (apply q_build; exact rfl; exact rfl; exact (by (repeat (first | exact Bld.nil | apply Bld.put rfl rfl rfl | apply Bld.keep rfl)); first | done | fail)) | (apply q_neg; exact rfl; exact ⟨by omega, by omega⟩))))
          | refine dj_passp rfl rfl rfl rfl ?_
          | refine dj_end ?_
          | refine dj_l2 ?_ ?_
          | (refine dj_l ?_; refine' a_bq rfl _ rfl rfl rfl (by (repeat (first | exact Sel.nil | (apply Sel.cons; (focus ((repeat (first | exact .here | apply Mem.there | apply Take.there)); first | done | fail))))); first | done | fail) _; rotate_left; (first | (first | (apply q_move; exact rfl) | (apply q_assign; exact rfl) | (apply q_extract; exact rfl; exact rfl) | (apply q_load; exact rfl; exact rfl; (first | exact cell_own (by (repeat (first | exact .here | apply Mem.there)); first | done | fail) rfl | exact cellR (by assumption) (by (repeat (first | exact .here | apply Mem.there)); first | done | fail) | exact cellH (by assumption) (by (repeat (first | exact .here | apply Mem.there)); first | done | fail) | exact cell_ints (by (repeat (first | exact .here | apply Mem.there)); first | done | fail) (by omega) | exact cell_bools (by assumption) (by (repeat (first | exact .here | apply Mem.there)); first | done | fail) | exact cell_intsR (by (repeat (first | exact .here | apply Mem.there)); first | done | fail) (by omega) | exact cell_boolsR (by assumption) (by (repeat (first | exact .here | apply Mem.there)); first | done | fail))) | (apply q_fld0; exact rfl; exact rfl) | (apply q_fldZ; exact rfl; exact rfl) | (apply q_fld; exact rfl; exact rfl) | (apply q_idx0; exact rfl; exact rfl; exact rfl; exact rfl; omega) | (apply q_idx1; exact rfl; exact rfl; exact rfl; exact rfl; omega) | (apply q_idxN; exact rfl; exact rfl; exact rfl; exact rfl; omega) | (apply q_idxZ; exact rfl; exact rfl; exact rfl; exact rfl; omega) | (apply q_pick_t; exact rfl; exact rfl)) | (first | (apply q_pick_f; exact rfl; exact rfl) | (apply q_len; exact rfl; exact rfl) | (apply q_not; exact rfl) | (apply q_nilCheck; exact rfl) | (apply q_nilCheckF; exact rfl) | (apply q_nilCheckY; exact rfl) | (apply q_inc; exact rfl; exact rfl; omega) | (apply q_lt; exact rfl; exact rfl; omega) | (apply q_ltF; exact rfl; exact rfl; omega) | (apply q_eq; exact rfl; exact rfl; omega) | (apply q_eqF; exact rfl; exact rfl; omega) | (apply q_ne; exact rfl; exact rfl; omega)) | (first | (apply q_neF; exact rfl; exact rfl; omega) | (apply q_gt; exact rfl; exact rfl; omega) | (apply q_gtF; exact rfl; exact rfl; omega) | (apply q_le; exact rfl; exact rfl; omega) | (apply q_leF; exact rfl; exact rfl; omega) | (apply q_ge; exact rfl; exact rfl; omega) | (apply q_geF; exact rfl; exact rfl; omega) | (apply q_sub_nat; exact rfl; exact rfl; omega; omega) | (apply q_add; exact rfl; exact rfl; exact ⟨by omega, by omega⟩) | (apply q_sub; exact rfl; exact rfl; exact ⟨by omega, by omega⟩) | (apply q_dbl; exact rfl; exact rfl; omega) | (apply q_mul; exact rfl; exact rfl; exact ⟨by omega, by omega⟩)) | (first | (apply q_half; exact rfl; exact rfl; omega) | (apply q_par; exact rfl; exact rfl) | (apply q_quo; exact rfl; exact rfl; omega; omega; omega) | (apply q_rem; exact rfl; exact rfl; omega; omega) | (apply q_loadS; exact rfl; exact rfl; (first | exact cells_own (by (repeat (first | exact .here | apply Mem.there)); first | done | fail) | exact cellsR (by assumption) (by (repeat (first | exact .here | apply Mem.there)); first | done | fail) | exact cellsH (by assumption) (by (repeat (first | exact .here | apply Mem.there)); first | done | fail)); exact rfl) | (apply q_min; exact rfl; exact rfl) | (apply q_max; exact rfl; exact rfl) | (apply q_makeFunc; exact rfl; exact rfl) | (apply q_field; exact rfl; exact rfl) | (apply q_build; exact rfl; exact rfl; exact (by (repeat (first | exact Bld.nil | apply Bld.put rfl rfl rfl | apply Bld.keep rfl)); first | done | fail)) | (apply q_neg; exact rfl; exact ⟨by omega, by omega⟩))))
          | (refine dj_l ?_; refine' a_e rfl _ rfl rfl rfl _ _; rotate_left; (first | (apply l_makeV; exact rfl; exact rfl; exact rfl; exact rfl; exact rfl; exact rfl; omega; omega) | (apply l_makeI; exact rfl; exact rfl; exact rfl; exact rfl; exact rfl; exact rfl; omega; omega) | (apply l_makeB; exact rfl; exact rfl; exact rfl; exact rfl; exact rfl; exact rfl; omega; omega) | (apply l_allocS; exact rfl) | (apply l_alloc1; exact rfl; exact rfl) | (apply l_buildSlice; exact rfl; exact rfl; exact rfl; exact rfl; exact rfl; exact (by (repeat (first | exact (fun v hv => absurd hv List.not_mem_nil) | (refine List.forall_mem_cons.2 ⟨?_, ?_⟩; (focus (first | exact rfl | assumption))))); first | done | fail); exact (by (repeat (first | exact Flat.nil | apply Flat.one rfl | apply Flat.agg2 | apply Flat.agg3 | apply Flat.agg1 | apply Flat.agg4 | apply Flat.agg5)); first | done | fail); exact rfl) | (apply l_boxS; exact rfl) | (apply l_box1; exact rfl; exact rfl)); (focus (rintro _ _ ⟨b, rfl, rfl⟩ w hw; exact hw.tail)); rintro _ _ ⟨b, rfl, rfl⟩)
          | (refine dj_l ?_; refine' a_bn rfl _ rfl rfl _ _; rotate_left; (first | (apply l_storeI; exact rfl; exact rfl; exact rfl; exact (by (repeat (first | exact .here | apply Take.there)); first | done | fail); omega) | (apply l_storeB; exact rfl; exact rfl; exact rfl; exact (by (repeat (first | exact .here | apply Take.there)); first | done | fail); omega) | (apply l_storeL; exact rfl; exact rfl; (first | exact rfl | assumption); exact rfl; exact (by (repeat (first | exact .here | apply Take.there)); first | done | fail); (focus (repeat (first | exact SetL.here | apply SetL.there)); done)) | (apply l_store; exact rfl; exact rfl; (first | exact rfl | assumption); exact rfl; exact (by (repeat (first | exact .here | apply Take.there)); first | done | fail); exact (by first | decide | (simp; done) | (simp; omega)))); (focus (rintro _ _ ⟨_, rfl⟩ w hw; exact hw.sel (by (repeat (first | exact Sel.nil | (apply Sel.cons; (focus ((repeat (first | exact .here | apply Mem.there | apply Take.there)); first | done | fail))))); first | done | fail))); rintro _ _ ⟨rfl, rfl⟩)
          | (refine' a_bq rfl _ rfl rfl rfl (by (repeat (first | exact Sel.nil | (apply Sel.cons; (focus ((repeat (first | exact .here | apply Mem.there | apply Take.there)); first | done | fail))))); first | done | fail) _; rotate_left; (first | (first | (apply q_move; exact rfl) | (apply q_assign; exact rfl) | (apply q_extract; exact rfl; exact rfl) | (apply q_load; exact rfl; exact rfl; (first | exact cell_own (by (repeat (first | exact .here | apply Mem.there)); first | done | fail) rfl | exact cellR (by assumption) (by (repeat (first | exact .here | apply Mem.there)); first | done | fail) | exact cellH (by assumption) (by (repeat (first | exact .here | apply Mem.there)); first | done | fail) | exact cell_ints (by (repeat (first | exact .here | apply Mem.there)); first | done | fail) (by omega) | exact cell_bools (by assumption) (by (repeat (first | exact .here | apply Mem.there)); first | done | fail) | exact cell_intsR (by (repeat (first | exact .here | apply Mem.there)); first | done | fail) (by omega) | exact cell_boolsR (by assumption) (by (repeat (first | exact .here | apply Mem.there)); first | done | fail))) | (apply q_fld0; exact rfl; exact rfl) | (apply q_fldZ; exact rfl; exact rfl) | (apply q_fld; exact rfl; exact rfl) | (apply q_idx0; exact rfl; exact rfl; exact rfl; exact rfl; omega) | (apply q_idx1; exact rfl; exact rfl; exact rfl; exact rfl; omega) | (apply q_idxN; exact rfl; exact rfl; exact rfl; exact rfl; omega) | (apply q_idxZ; exact rfl; exact rfl; exact rfl; exact rfl; omega) | (apply q_pick_t; exact rfl; exact rfl)) | (first | (apply q_pick_f; exact rfl; exact rfl) | (apply q_len; exact rfl; exact rfl) | (apply q_not; exact rfl) | (apply q_nilCheck; exact rfl) | (apply q_nilCheckF; exact rfl) | (apply q_nilCheckY; exact rfl) | (apply q_inc; exact rfl; exact rfl; omega) | (apply q_lt; exact rfl; exact rfl; omega) | (apply q_ltF; exact rfl; exact rfl; omega) | (apply q_eq; exact rfl; exact rfl; omega) | (apply q_eqF; exact rfl; exact rfl; omega) | (apply q_ne; exact rfl; exact rfl; omega)) | (first | (apply q_neF; exact rfl; exact rfl; omega) | (apply q_gt; exact rfl; exact rfl; omega) | (apply q_gtF; exact rfl; exact rfl; omega) | (apply q_le; exact rfl; exact rfl; omega) | (apply q_leF; exact rfl; exact rfl; omega) | (apply q_ge; exact rfl; exact rfl; omega) | (apply q_geF; exact rfl; exact rfl; omega) | (apply q_sub_nat; exact rfl; exact rfl; omega; omega) | (apply q_add; exact rfl; exact rfl; exact ⟨by omega, by omega⟩) | (apply q_sub; exact rfl; exact rfl; exact ⟨by omega, by omega⟩) | (apply q_dbl; exact rfl; exact rfl; omega) | (apply q_mul; exact rfl; exact rfl; exact ⟨by omega, by omega⟩)) | (first | (apply q_half; exact rfl; exact rfl; omega) | (apply q_par; exact rfl; exact rfl) | (apply q_quo; exact rfl; exact rfl; omega; omega; omega) | (apply q_rem; exact rfl; exact rfl; omega; omega) | (apply q_loadS; exact rfl; exact rfl; (first | exact cells_own (by (repeat (first | exact .here | apply Mem.there)); first | done | fail) | exact cellsR (by assumption) (by (repeat (first | exact .here | apply Mem.there)); first | done | fail) | exact cellsH (by assumption) (by (repeat (first | exact .here | apply Mem.there)); first | done | fail)); exact rfl) | (apply q_min; exact rfl; exact rfl) | (apply q_max; exact rfl; exact rfl) | (apply q_makeFunc; exact rfl; exact rfl) | (apply q_field; exact rfl; exact rfl) | (apply q_build; exact rfl; exact rfl; exact (by (repeat (first | exact Bld.nil | apply Bld.put rfl rfl rfl | apply Bld.keep rfl)); first | done | fail)) | (apply q_neg; exact rfl; exact ⟨by omega, by omega⟩))))
          | (refine' a_e rfl _ rfl rfl rfl _ _; rotate_left; (first | (apply l_makeV; exact rfl; exact rfl; exact rfl; exact rfl; exact rfl; exact rfl; omega; omega) | (apply l_makeI; exact rfl; exact rfl; exact rfl; exact rfl; exact rfl; exact rfl; omega; omega) | (apply l_makeB; exact rfl; exact rfl; exact rfl; exact rfl; exact rfl; exact rfl; omega; omega) | (apply l_allocS; exact rfl) | (apply l_alloc1; exact rfl; exact rfl) | (apply l_buildSlice; exact rfl; exact rfl; exact rfl; exact rfl; exact rfl; exact (by (repeat (first | exact (fun v hv => absurd hv List.not_mem_nil) | (refine List.forall_mem_cons.2 ⟨?_, ?_⟩; (focus (first | exact rfl | assumption))))); first | done | fail); exact (by (repeat (first | exact Flat.nil | apply Flat.one rfl | apply Flat.agg2 | apply Flat.agg3 | apply Flat.agg1 | apply Flat.agg4 | apply Flat.agg5)); first | done | fail); exact rfl) | (apply l_boxS; exact rfl) | (apply l_box1; exact rfl; exact rfl)); (focus (rintro _ _ ⟨b, rfl, rfl⟩ w hw; exact hw.tail)); rintro _ _ ⟨b, rfl, rfl⟩)
          | (refine' a_bn rfl _ rfl rfl _ _; rotate_left; (first | (apply l_storeI; exact rfl; exact rfl; exact rfl; exact (by (repeat (first | exact .here | apply Take.there)); first | done | fail); omega) | (apply l_storeB; exact rfl; exact rfl; exact rfl; exact (by (repeat (first | exact .here | apply Take.there)); first | done | fail); omega) | (apply l_storeL; exact rfl; exact rfl; (first | exact rfl | assumption); exact rfl; exact (by (repeat (first | exact .here | apply Take.there)); first | done | fail); (focus (repeat (first | exact SetL.here | apply SetL.there)); done)) | (apply l_store; exact rfl; exact rfl; (first | exact rfl | assumption); exact rfl; exact (by (repeat (first | exact .here | apply Take.there)); first | done | fail); exact (by first | decide | (simp; done) | (simp; omega)))); (focus (rintro _ _ ⟨_, rfl⟩ w hw; exact hw.sel (by (repeat (first | exact Sel.nil | (apply Sel.cons; (focus ((repeat (first | exact .here | apply Mem.there | apply Take.there)); first | done | fail))))); first | done | fail))); rintro _ _ ⟨rfl, rfl⟩)
          | fail)
        refine jk_if_t rfl ?_
        refine jk_seq ?_
        refine jk_region ?_
        focus (refine' jk_q _ rfl rfl rfl _; rotate_left; (apply q_assign; exact rfl))
        focus (refine' jk_q _ rfl rfl rfl _; rotate_left; (apply q_assign; exact rfl))
        refine jk_nil ?_
        exact jk_ret_any (res2 rfl rfl rfl) (by (repeat (first | exact rs_nil | (refine rs_cons ?_ ?_; (focus ((repeat (first | exact .here | apply Mem.there | apply Take.there)); first | done | fail))) | exact fun ρ hρ => hρ | (intro ρ hρ; repeat (first | exact hρ | refine List.mem_cons_of_mem _ ?_)))); first | done | fail) (by (repeat (first | exact Sel.nil | (apply Sel.cons; (focus ((repeat (first | exact .here | apply Mem.there | apply Take.there)); first | done | fail))))); first | done | fail) ⟨rfl, by rw [hvs]⟩
    refine jk_seq ?_
    refine jk_seq ?_
    refine jk_region ?_
    focus (refine' jk_q _ rfl rfl rfl _; rotate_left; (apply q_move; exact rfl))
    focus (refine' jk_q _ rfl rfl rfl _; rotate_left; (apply q_move; exact rfl))
    focus (refine' jk_q _ rfl rfl rfl _; rotate_left; (apply q_len; exact rfl; exact rfl))
    focus (refine' jk_q _ rfl rfl rfl _; rotate_left; (apply q_lt; exact rfl; exact rfl; omega))
    refine jk_nil ?_
    refine jk_if_t rfl ?_
    refine jk_skip ?_
    refine jk_seq ?_
    refine jk_block ?_
    refine jk_seq ?_
    refine jk_draw (.q 0 (.q 1 (.q 2 (.q 3 (.q 4 (.q 5 (.q 6 (.q 7 (.q 8 (.q 9 (.q 10 (.q 11 (.q 12 (.q 13 (.q 14 (.q 15 (.q 16 .nil))))))))))))))))) [] rfl (by kernel_rfl) (by (repeat (first | exact Sel.nil | (apply Sel.cons; (focus ((repeat (first | exact .here | apply Mem.there | apply Take.there)); first | done | fail))))); first | done | fail) ?_
    focus (refine' dj_q rfl _ rfl rfl rfl rfl _; rotate_left; (apply q_move; exact rfl))
    focus (refine' dj_q rfl _ rfl rfl rfl rfl _; rotate_left; (apply q_move; exact rfl))
    focus (refine' dj_q rfl _ rfl rfl rfl rfl _; rotate_left; (apply q_idx1; exact rfl; exact rfl; exact rfl; exact rfl; omega))
    focus (refine' dj_q rfl _ rfl rfl rfl rfl _; rotate_left; (apply q_load; exact rfl; exact rfl; (first | exact cell_own (by (repeat (first | exact .here | apply Mem.there)); first | done | fail) rfl | exact cellR (by assumption) (by (repeat (first | exact .here | apply Mem.there)); first | done | fail) | exact cellH (by assumption) (by (repeat (first | exact .here | apply Mem.there)); first | done | fail) | exact cell_ints (by (repeat (first | exact .here | apply Mem.there)); first | done | fail) (by omega) | exact cell_bools (by assumption) (by (repeat (first | exact .here | apply Mem.there)); first | done | fail) | exact cell_intsR (by (repeat (first | exact .here | apply Mem.there)); first | done | fail) (by omega) | exact cell_boolsR (by assumption) (by (repeat (first | exact .here | apply Mem.there)); first | done | fail))))
    focus (refine' dj_q rfl _ rfl rfl rfl rfl _; rotate_left; (apply q_ltF; exact rfl; exact rfl; omega))
    focus (refine' dj_q rfl _ rfl rfl rfl rfl _; rotate_left; (apply q_move; exact rfl))
    focus (refine' dj_q rfl _ rfl rfl rfl rfl _; rotate_left; (apply q_move; exact rfl))
    focus (refine' dj_q rfl _ rfl rfl rfl rfl _; rotate_left; (apply q_move; exact rfl))
    focus (refine' dj_q rfl _ rfl rfl rfl rfl _; rotate_left; (apply q_idx1; exact rfl; exact rfl; exact rfl; exact rfl; omega))
    focus (refine' dj_q rfl _ rfl rfl rfl rfl _; rotate_left; (apply q_load; exact rfl; exact rfl; (first | exact cell_own (by (repeat (first | exact .here | apply Mem.there)); first | done | fail) rfl | exact cellR (by assumption) (by (repeat (first | exact .here | apply Mem.there)); first | done | fail) | exact cellH (by assumption) (by (repeat (first | exact .here | apply Mem.there)); first | done | fail) | exact cell_ints (by (repeat (first | exact .here | apply Mem.there)); first | done | fail) (by omega) | exact cell_bools (by assumption) (by (repeat (first | exact .here | apply Mem.there)); first | done | fail) | exact cell_intsR (by (repeat (first | exact .here | apply Mem.there)); first | done | fail) (by omega) | exact cell_boolsR (by assumption) (by (repeat (first | exact .here | apply Mem.there)); first | done | fail))))
    focus (refine' dj_q rfl _ rfl rfl rfl rfl _; rotate_left; (apply q_move; exact rfl))
    focus (refine' dj_q rfl _ rfl rfl rfl rfl _; rotate_left; (apply q_move; exact rfl))
    focus (refine' dj_q rfl _ rfl rfl rfl rfl _; rotate_left; (apply q_idxN; exact rfl; exact rfl; exact rfl; exact rfl; omega))
    focus (refine' dj_q rfl _ rfl rfl rfl rfl _; rotate_left; (apply q_fld; exact rfl; exact rfl))
    focus (refine' dj_q rfl _ rfl rfl rfl rfl _; rotate_left; (apply q_load; exact rfl; exact rfl; (first | exact cell_own (by (repeat (first | exact .here | apply Mem.there)); first | done | fail) rfl | exact cellR (by assumption) (by (repeat (first | exact .here | apply Mem.there)); first | done | fail) | exact cellH (by assumption) (by (repeat (first | exact .here | apply Mem.there)); first | done | fail) | exact cell_ints (by (repeat (first | exact .here | apply Mem.there)); first | done | fail) (by omega) | exact cell_bools (by assumption) (by (repeat (first | exact .here | apply Mem.there)); first | done | fail) | exact cell_intsR (by (repeat (first | exact .here | apply Mem.there)); first | done | fail) (by omega) | exact cell_boolsR (by assumption) (by (repeat (first | exact .here | apply Mem.there)); first | done | fail))))
    focus (refine' dj_q rfl _ rfl rfl rfl rfl _; rotate_left; (apply q_gtF; exact rfl; exact rfl; omega))
    focus (refine' dj_q rfl _ rfl rfl rfl rfl _; rotate_left; (apply q_pick_f; exact rfl; exact rfl))
    refine dj_end ?_
    refine jk_if_f rfl ?_
    refine jk_skip ?_
    refine jk_blk ?_
    refine jk_region ?_
    focus (refine' jk_q _ rfl rfl rfl _; rotate_left; (apply q_move; exact rfl))
    focus (refine' jk_q _ rfl rfl rfl _; rotate_left; (apply q_inc; exact rfl; exact rfl; omega))
    focus (refine' jk_q _ rfl rfl rfl _; rotate_left; (apply q_assign; exact rfl))
    refine jk_nil ?_
    refine jk_round (k + 1) ⟨by omega, ?_⟩ (by omega) (by (repeat (first | exact trivial | refine And.intro rfl ?_)); first | done | fail) (by (repeat (first | exact Sel.nil | (apply Sel.cons; (focus ((repeat (first | exact .here | apply Mem.there | apply Take.there)); first | done | fail))))); first | done | fail)
    rw [take_snoc' hlt, take_snoc' hltf, inCap_snoc _ _ _ _ hst, hy]
    simp; omega
  obtain rfl : k = l.length := by omega
  rw [List.take_length, List.take_of_length_le (by omega)] at hy
  have hsm : small fl := inCap_small _ _ hfl.symm hy hok
  refine jk_seq ?_
  refine jk_seq ?_
  refine jk_region ?_
  focus (refine' jk_q _ rfl rfl rfl _; rotate_left; (apply q_move; exact rfl))
  focus (refine' jk_q _ rfl rfl rfl _; rotate_left; (apply q_move; exact rfl))
  focus (refine' jk_q _ rfl rfl rfl _; rotate_left; (apply q_len; exact rfl; exact rfl))
  focus (refine' jk_q _ rfl rfl rfl _; rotate_left; (apply q_ltF; exact rfl; exact rfl; omega))
  refine jk_nil ?_
  refine jk_if_f rfl ?_
  refine jk_exit rfl ?_
  refine jk_seq ?_
  refine jk_region ?_
  focus (refine' jk_q _ rfl rfl rfl _; rotate_left; (apply q_move; exact rfl))
  focus (refine' jk_op _ rfl rfl rfl _; rotate_left; (apply l_makeI; exact rfl; exact rfl; exact rfl; exact rfl; exact rfl; exact rfl; omega; omega); rintro _ _ ⟨b, rfl, rfl⟩)
  focus (refine' jk_q _ rfl rfl rfl _; rotate_left; (apply q_assign; exact rfl))
  refine jk_nil ?_
  refine jk_seq ?_
  refine jk_seq ?_
  refine jk_region ?_
  focus (refine' jk_q _ rfl rfl rfl _; rotate_left; (apply q_assign; exact rfl))
  refine jk_nil ?_
  refine jk_block ?_
  rw [show List.replicate n (0 : Int) = netL n [] [] from by rw [netL_nil]]
  refine jk_loop [0, 1, 2, 3, 4, 14] (0 : Nat) (fun k => k ≤ l.length) (fun k => [(15, int k)]) (fun k => [sng b (.cells (ints (netL n (l.take k) (fl.take k))) 3 (0, 0))]) (fun k => l.length - k) (by (repeat (first | exact Pick.nil | apply Pick.cons rfl)); first | done | fail) (by omega) (by (repeat (first | exact trivial | refine And.intro rfl ?_)); first | done | fail) (by (repeat (first | exact Sel.nil | (apply Sel.cons; (focus ((repeat (first | exact .here | apply Mem.there | apply Take.there)); first | done | fail))))); first | done | fail) ?_
  rintro k hk
  by_cases hlt : k < l.length
  · have hltf : k < fl.length := by omega
    obtain ⟨b', o, rfl, hA, h0, h1, h2⟩ := arcRow hr (List.getElem?_eq_getElem hlt)
    obtain ⟨b2, o2, rfl, f0⟩ := hr2.int (List.getElem?_eq_getElem hltf)
    obtain ⟨g1, g2, g3, g4, g5, g6, g7⟩ := okArc_iff.1 (hok l[k] (List.getElem_mem hlt))
    obtain ⟨f, hf⟩ := Int.eq_ofNat_of_zero_le g1
    obtain ⟨t', ht⟩ := Int.eq_ofNat_of_zero_le g3
    rw [hf] at g2 h0 g5
    rw [ht] at g4 h1 g5
    have hx3 := hsm fl[k] (List.getElem_mem _)
    have hst : (l.take k).length = (fl.take k).length := by simp; omega
    have hlen : (fl.take k).length = k := by simp; omega
    have hnet := netL_snoc (n := n) (l := l.take k) (fl := fl.take k) (a := l[k]) (x := fl[k]) hst hf ht (by omega)
    rw [← take_snoc' hlt, ← take_snoc' hltf] at hnet
    have b1 := fval_bd f (l.take k) (fl.take k) (small_take hsm k)
    have b2' := fval_bd t' (l.take k) (fl.take k) (small_take hsm k)
    rw [hlen] at b1 b2'
    generalize hE : netL n (l.take k) (fl.take k) = E
    have hEl : E.length = n := by rw [← hE, netL_len]
    have e1 : E.getD f 0 = (fval f (l.take k) (fl.take k)) := by rw [← hE, netL_get (by omega)]
    have e2 : E.getD t' 0 = (fval t' (l.take k) (fl.take k)) := by rw [← hE, netL_get (by omega)]
    have e3 : (E.set f (E.getD f 0 + fl[k])).getD t' 0 = E.getD t' 0 := by
      rw [List.getD_eq_getElem?_getD, List.getElem?_set_ne (by omega), ← List.getD_eq_getElem?_getD]
    have e4 : (E.set f (E.getD f 0 + fl[k])).length = n := by simp [hEl]
    refine jk_seq ?_
    refine jk_seq ?_
    refine jk_region ?_
    focus (refine' jk_q _ rfl rfl rfl _; rotate_left; (apply q_move; exact rfl))
    focus (refine' jk_q _ rfl rfl rfl _; rotate_left; (apply q_move; exact rfl))
    focus (refine' jk_q _ rfl rfl rfl _; rotate_left; (apply q_len; exact rfl; exact rfl))
    focus (refine' jk_q _ rfl rfl rfl _; rotate_left; (apply q_lt; exact rfl; exact rfl; omega))
    refine jk_nil ?_
    refine jk_if_t rfl ?_
    refine jk_skip ?_
    refine jk_seq ?_
    refine jk_block ?_
    refine jk_seq ?_
    refine jk_draw (.q 0 (.q 1 (.q 2 (.q 3 (.q 4 (.q 5 (.q 6 (.q 7 (.q 8 (.q 9 (.q 10 (.q 11 (.q 12 (.q 13 (.l 14 .b .nil))))))))))))))) [] rfl (by kernel_rfl) (by (repeat (first | exact Sel.nil | (apply Sel.cons; (focus ((repeat (first | exact .here | apply Mem.there | apply Take.there)); first | done | fail))))); first | done | fail) ?_
    focus (refine' dj_q rfl _ rfl rfl rfl rfl _; rotate_left; (apply q_move; exact rfl))
    focus (refine' dj_q rfl _ rfl rfl rfl rfl _; rotate_left; (apply q_move; exact rfl))
    focus (refine' dj_q rfl _ rfl rfl rfl rfl _; rotate_left; (apply q_move; exact rfl))
    focus (refine' dj_q rfl _ rfl rfl rfl rfl _; rotate_left; (apply q_idxN; exact rfl; exact rfl; exact rfl; exact rfl; omega))
    focus (refine' dj_q rfl _ rfl rfl rfl rfl _; rotate_left; (apply q_fldZ; exact rfl; exact rfl))
    focus (refine' dj_q rfl _ rfl rfl rfl rfl _; rotate_left; (apply q_load; exact rfl; exact rfl; (first | exact cell_own (by (repeat (first | exact .here | apply Mem.there)); first | done | fail) rfl | exact cellR (by assumption) (by (repeat (first | exact .here | apply Mem.there)); first | done | fail) | exact cellH (by assumption) (by (repeat (first | exact .here | apply Mem.there)); first | done | fail) | exact cell_ints (by (repeat (first | exact .here | apply Mem.there)); first | done | fail) (by omega) | exact cell_bools (by assumption) (by (repeat (first | exact .here | apply Mem.there)); first | done | fail) | exact cell_intsR (by (repeat (first | exact .here | apply Mem.there)); first | done | fail) (by omega) | exact cell_boolsR (by assumption) (by (repeat (first | exact .here | apply Mem.there)); first | done | fail))))
    focus (refine' dj_q rfl _ rfl rfl rfl rfl _; rotate_left; (apply q_idx0; exact rfl; exact rfl; exact rfl; exact rfl; omega))
    focus (refine' dj_q rfl _ rfl rfl rfl rfl _; rotate_left; (apply q_load; exact rfl; exact rfl; (first | exact cell_own (by (repeat (first | exact .here | apply Mem.there)); first | done | fail) rfl | exact cellR (by assumption) (by (repeat (first | exact .here | apply Mem.there)); first | done | fail) | exact cellH (by assumption) (by (repeat (first | exact .here | apply Mem.there)); first | done | fail) | exact cell_ints (by (repeat (first | exact .here | apply Mem.there)); first | done | fail) (by omega) | exact cell_bools (by assumption) (by (repeat (first | exact .here | apply Mem.there)); first | done | fail) | exact cell_intsR (by (repeat (first | exact .here | apply Mem.there)); first | done | fail) (by omega) | exact cell_boolsR (by assumption) (by (repeat (first | exact .here | apply Mem.there)); first | done | fail))))
    focus (refine' dj_q rfl _ rfl rfl rfl rfl _; rotate_left; (apply q_move; exact rfl))
    focus (refine' dj_q rfl _ rfl rfl rfl rfl _; rotate_left; (apply q_move; exact rfl))
    focus (refine' dj_q rfl _ rfl rfl rfl rfl _; rotate_left; (apply q_idx1; exact rfl; exact rfl; exact rfl; exact rfl; omega))
    focus (refine' dj_q rfl _ rfl rfl rfl rfl _; rotate_left; (apply q_load; exact rfl; exact rfl; (first | exact cell_own (by (repeat (first | exact .here | apply Mem.there)); first | done | fail) rfl | exact cellR (by assumption) (by (repeat (first | exact .here | apply Mem.there)); first | done | fail) | exact cellH (by assumption) (by (repeat (first | exact .here | apply Mem.there)); first | done | fail) | exact cell_ints (by (repeat (first | exact .here | apply Mem.there)); first | done | fail) (by omega) | exact cell_bools (by assumption) (by (repeat (first | exact .here | apply Mem.there)); first | done | fail) | exact cell_intsR (by (repeat (first | exact .here | apply Mem.there)); first | done | fail) (by omega) | exact cell_boolsR (by assumption) (by (repeat (first | exact .here | apply Mem.there)); first | done | fail))))
    focus (refine' dj_q rfl _ rfl rfl rfl rfl _; rotate_left; (apply q_add; exact rfl; exact rfl; exact ⟨by omega, by omega⟩))
    focus (refine' dj_q rfl _ rfl rfl rfl rfl _; rotate_left; (apply q_idx0; exact rfl; exact rfl; exact rfl; exact rfl; omega))
    focus (refine dj_l ?_; refine' a_bn rfl _ rfl rfl _ _; rotate_left; (apply l_storeI; exact rfl; exact rfl; exact rfl; exact (by (repeat (first | exact .here | apply Take.there)); first | done | fail); omega); (focus (rintro _ _ ⟨_, rfl⟩ w hw; exact hw.sel (by (repeat (first | exact Sel.nil | (apply Sel.cons; (focus ((repeat (first | exact .here | apply Mem.there | apply Take.there)); first | done | fail))))); first | done | fail))); rintro _ _ ⟨rfl, rfl⟩)
    refine dj_end ?_
    skip
    refine jk_draw (.q 0 (.q 1 (.q 2 (.q 3 (.q 4 (.q 5 (.q 6 (.q 7 (.q 8 (.q 9 (.q 10 (.q 11 (.q 12 (.q 13 (.l 14 .b .nil))))))))))))))) [] rfl (by kernel_rfl) (by (repeat (first | exact Sel.nil | (apply Sel.cons; (focus ((repeat (first | exact .here | apply Mem.there | apply Take.there)); first | done | fail))))); first | done | fail) ?_
    focus (refine' dj_q rfl _ rfl rfl rfl rfl _; rotate_left; (apply q_move; exact rfl))
    focus (refine' dj_q rfl _ rfl rfl rfl rfl _; rotate_left; (apply q_move; exact rfl))
    focus (refine' dj_q rfl _ rfl rfl rfl rfl _; rotate_left; (apply q_move; exact rfl))
    focus (refine' dj_q rfl _ rfl rfl rfl rfl _; rotate_left; (apply q_idxN; exact rfl; exact rfl; exact rfl; exact rfl; omega))
    focus (refine' dj_q rfl _ rfl rfl rfl rfl _; rotate_left; (apply q_fld; exact rfl; exact rfl))
    focus (refine' dj_q rfl _ rfl rfl rfl rfl _; rotate_left; (apply q_load; exact rfl; exact rfl; (first | exact cell_own (by (repeat (first | exact .here | apply Mem.there)); first | done | fail) rfl | exact cellR (by assumption) (by (repeat (first | exact .here | apply Mem.there)); first | done | fail) | exact cellH (by assumption) (by (repeat (first | exact .here | apply Mem.there)); first | done | fail) | exact cell_ints (by (repeat (first | exact .here | apply Mem.there)); first | done | fail) (by omega) | exact cell_bools (by assumption) (by (repeat (first | exact .here | apply Mem.there)); first | done | fail) | exact cell_intsR (by (repeat (first | exact .here | apply Mem.there)); first | done | fail) (by omega) | exact cell_boolsR (by assumption) (by (repeat (first | exact .here | apply Mem.there)); first | done | fail))))
    focus (refine' dj_q rfl _ rfl rfl rfl rfl _; rotate_left; (apply q_idx0; exact rfl; exact rfl; exact rfl; exact rfl; omega))
    focus (refine' dj_q rfl _ rfl rfl rfl rfl _; rotate_left; (apply q_load; exact rfl; exact rfl; (first | exact cell_own (by (repeat (first | exact .here | apply Mem.there)); first | done | fail) rfl | exact cellR (by assumption) (by (repeat (first | exact .here | apply Mem.there)); first | done | fail) | exact cellH (by assumption) (by (repeat (first | exact .here | apply Mem.there)); first | done | fail) | exact cell_ints (by (repeat (first | exact .here | apply Mem.there)); first | done | fail) (by omega) | exact cell_bools (by assumption) (by (repeat (first | exact .here | apply Mem.there)); first | done | fail) | exact cell_intsR (by (repeat (first | exact .here | apply Mem.there)); first | done | fail) (by omega) | exact cell_boolsR (by assumption) (by (repeat (first | exact .here | apply Mem.there)); first | done | fail))))
    focus (refine' dj_q rfl _ rfl rfl rfl rfl _; rotate_left; (apply q_move; exact rfl))
    focus (refine' dj_q rfl _ rfl rfl rfl rfl _; rotate_left; (apply q_move; exact rfl))
    focus (refine' dj_q rfl _ rfl rfl rfl rfl _; rotate_left; (apply q_idx1; exact rfl; exact rfl; exact rfl; exact rfl; omega))
    focus (refine' dj_q rfl _ rfl rfl rfl rfl _; rotate_left; (apply q_load; exact rfl; exact rfl; (first | exact cell_own (by (repeat (first | exact .here | apply Mem.there)); first | done | fail) rfl | exact cellR (by assumption) (by (repeat (first | exact .here | apply Mem.there)); first | done | fail) | exact cellH (by assumption) (by (repeat (first | exact .here | apply Mem.there)); first | done | fail) | exact cell_ints (by (repeat (first | exact .here | apply Mem.there)); first | done | fail) (by omega) | exact cell_bools (by assumption) (by (repeat (first | exact .here | apply Mem.there)); first | done | fail) | exact cell_intsR (by (repeat (first | exact .here | apply Mem.there)); first | done | fail) (by omega) | exact cell_boolsR (by assumption) (by (repeat (first | exact .here | apply Mem.there)); first | done | fail))))
    focus (refine' dj_q rfl _ rfl rfl rfl rfl _; rotate_left; (apply q_sub; exact rfl; exact rfl; exact ⟨by omega, by omega⟩))
    focus (refine' dj_q rfl _ rfl rfl rfl rfl _; rotate_left; (apply q_idx0; exact rfl; exact rfl; exact rfl; exact rfl; omega))
    focus (refine dj_l ?_; refine' a_bn rfl _ rfl rfl _ _; rotate_left; (apply l_storeI; exact rfl; exact rfl; exact rfl; exact (by (repeat (first | exact .here | apply Take.there)); first | done | fail); omega); (focus (rintro _ _ ⟨_, rfl⟩ w hw; exact hw.sel (by (repeat (first | exact Sel.nil | (apply Sel.cons; (focus ((repeat (first | exact .here | apply Mem.there | apply Take.there)); first | done | fail))))); first | done | fail))); rintro _ _ ⟨rfl, rfl⟩)
    refine dj_end ?_
    refine jk_blk ?_
    refine jk_region ?_
    focus (refine' jk_q _ rfl rfl rfl _; rotate_left; (apply q_move; exact rfl))
    focus (refine' jk_q _ rfl rfl rfl _; rotate_left; (apply q_inc; exact rfl; exact rfl; omega))
    focus (refine' jk_q _ rfl rfl rfl _; rotate_left; (apply q_assign; exact rfl))
    refine jk_nil ?_
    refine jk_round (k + 1) (by omega) (by omega) (by (repeat (first | exact trivial | refine And.intro rfl ?_)); first | done | fail) ?_
    rw [hnet, hE]
    rw [show fval f (l.take k) (fl.take k) + fl[k] = E.getD f 0 + fl[k] from by omega]
    rw [show fval t' (l.take k) (fl.take k) - fl[k] = (E.set f (E.getD f 0 + fl[k])).getD t' 0 - fl[k] from by rw [e3]; omega]
    exact (by (repeat (first | exact Sel.nil | (apply Sel.cons; (focus ((repeat (first | exact .here | apply Mem.there | apply Take.there)); first | done | fail))))); first | done | fail)
  obtain rfl : k = l.length := by omega
  rw [List.take_length, List.take_of_length_le (by omega)]
  generalize hE : netL n l fl = E
  have hEl : E.length = n := by rw [← hE, netL_len]
  refine jk_seq ?_
  refine jk_seq ?_
  refine jk_region ?_
  focus (refine' jk_q _ rfl rfl rfl _; rotate_left; (apply q_move; exact rfl))
  focus (refine' jk_q _ rfl rfl rfl _; rotate_left; (apply q_move; exact rfl))
  focus (refine' jk_q _ rfl rfl rfl _; rotate_left; (apply q_len; exact rfl; exact rfl))
  focus (refine' jk_q _ rfl rfl rfl _; rotate_left; (apply q_ltF; exact rfl; exact rfl; omega))
  refine jk_nil ?_
  refine jk_if_f rfl ?_
  refine jk_exit rfl ?_
  refine jk_seq ?_
  refine jk_seq ?_
  refine jk_region ?_
  focus (refine' jk_q _ rfl rfl rfl _; rotate_left; (apply q_assign; exact rfl))
  refine jk_nil ?_
  refine jk_block ?_
  refine jk_loop [0, 1, 2, 3, 4, 14] (0 : Nat) (fun k => k ≤ n ∧ ∀ v : Nat, v < k → (v : Int) = s ∨ (v : Int) = t ∨ fval v l fl = 0) (fun k => [(16, int k)]) (fun _ => [sng b (.cells (ints E) 3 (0, 0))]) (fun k => n - k) (by (repeat (first | exact Pick.nil | apply Pick.cons rfl)); first | done | fail) ⟨by omega, by simp⟩ (by (repeat (first | exact trivial | refine And.intro rfl ?_)); first | done | fail) (by (repeat (first | exact Sel.nil | (apply Sel.cons; (focus ((repeat (first | exact .here | apply Mem.there | apply Take.there)); first | done | fail))))); first | done | fail) ?_
  rintro k ⟨hk, hz⟩
  by_cases hlt : k < n
  · have e1 : E.getD k 0 = (fval k l fl) := by rw [← hE, netL_get (by omega)]
    repeat' (first
      | (refine' jk_q _ rfl rfl rfl _; rotate_left; (first | (first | (apply q_move; exact rfl) | (apply q_assign; exact rfl) | (apply q_extract; exact rfl; exact rfl) | (apply q_load; exact rfl; exact rfl; (first | exact cell_own (by (repeat (first | exact .here | apply Mem.there)); first | done | fail) rfl | exact cellR (by assumption) (by (repeat (first | exact .here | apply Mem.there)); first | done | fail) | exact cellH (by assumption) (by (repeat (first | exact .here | apply Mem.there)); first | done | fail) | exact cell_ints (by (repeat (first | exact .here | apply Mem.there)); first | done | fail) (by omega) | exact cell_bools (by assumption) (by (repeat (first | exact .here | apply Mem.there)); first | done | fail) | exact cell_intsR (by (repeat (first | exact .here | apply Mem.there)); first | done | fail) (by omega) | exact cell_boolsR (by assumption) (by (repeat (first | exact .here | apply Mem.there)); first | done | fail))) | (apply q_fld0; exact rfl; exact rfl) | (apply q_fldZ; exact rfl; exact rfl) | (apply q_fld; exact rfl; exact rfl) | (apply q_idx0; exact rfl; exact rfl; exact rfl; exact rfl; omega) | (apply q_idx1; exact rfl; exact rfl; exact rfl; exact rfl; omega) | (apply q_idxN; exact rfl; exact rfl; exact rfl; exact rfl; omega) | (apply q_idxZ; exact rfl; exact rfl; exact rfl; exact rfl; omega) | (apply q_pick_t; exact rfl; exact rfl)) | (first | (apply q_pick_f; exact rfl; exact rfl) | (apply q_len; exact rfl; exact rfl) | (apply q_not; exact rfl) | (apply q_nilCheck; exact rfl) | (apply q_nilCheckF; exact rfl) | (apply q_nilCheckY; exact rfl) | (apply q_inc; exact rfl; exact rfl; omega) | (apply q_lt; exact rfl; exact rfl; omega) | (apply q_ltF; exact rfl; exact rfl; omega) | (apply q_eq; exact rfl; exact rfl; omega) | (apply q_eqF; exact rfl; exact rfl; omega) | (apply q_ne; exact rfl; exact rfl; omega)) | (first | (apply q_neF; exact rfl; exact rfl; omega) | (apply q_gt; exact rfl; exact rfl; omega) | (apply q_gtF; exact rfl; exact rfl; omega) | (apply q_le; exact rfl; exact rfl; omega) | (apply q_leF; exact rfl; exact rfl; omega) | (apply q_ge; exact rfl; exact rfl; omega) | (apply q_geF; exact rfl; exact rfl; omega) | (apply q_sub_nat; exact rfl; exact rfl; omega; omega) | (apply q_add; exact rfl; exact rfl; exact ⟨by omega, by omega⟩) | (apply q_sub; exact rfl; exact rfl; exact ⟨by omega, by omega⟩) | (apply q_dbl; exact rfl; exact rfl; omega) | (apply q_mul; exact rfl; exact rfl; exact ⟨by omega, by omega⟩)) | (first | (apply q_half; exact rfl; exact rfl; omega) | (apply q_par; exact rfl; exact rfl) | (apply q_quo; exact rfl; exact rfl; omega; omega; omega) | (apply q_rem; exact rfl; exact rfl; omega; omega) | (apply q_loadS; exact rfl; exact rfl; (first | exact cells_own (by (repeat (first | exact .here | apply Mem.there)); first | done | fail) | exact cellsR (by assumption) (by (repeat (first | exact .here | apply Mem.there)); first | done | fail) | exact cellsH (by assumption) (by (repeat (first | exact .here | apply Mem.there)); first | done | fail)); exact rfl) | (apply q_min; exact rfl; exact rfl) | (apply q_max; exact rfl; exact rfl) | (apply q_makeFunc; exact rfl; exact rfl) | (apply q_field; exact rfl; exact rfl) | (apply q_build; exact rfl; exact rfl; exact (by (repeat (first | exact Bld.nil | apply Bld.put rfl rfl rfl | apply Bld.keep rfl)); first | done | fail)) | (apply q_neg; exact rfl; exact ⟨by omega, by omega⟩))))
      | refine jk_seq ?_
      | refine jk_region ?_
      | refine jk_nil ?_
      | refine jk_block ?_
      | refine jk_blk ?_
      | refine jk_skip ?_
      | refine jk_if_t rfl ?_
      | refine jk_if_f rfl ?_
      | refine jk_exit rfl ?_
      | refine jk_pass rfl rfl rfl ?_
      | (refine' jk_op _ rfl rfl rfl _; rotate_left; (first | (apply l_makeV; exact rfl; exact rfl; exact rfl; exact rfl; exact rfl; exact rfl; omega; omega) | (apply l_makeI; exact rfl; exact rfl; exact rfl; exact rfl; exact rfl; exact rfl; omega; omega) | (apply l_makeB; exact rfl; exact rfl; exact rfl; exact rfl; exact rfl; exact rfl; omega; omega) | (apply l_allocS; exact rfl) | (apply l_alloc1; exact rfl; exact rfl) | (apply l_buildSlice; exact rfl; exact rfl; exact rfl; exact rfl; exact rfl; exact (by (repeat (first | exact (fun v hv => absurd hv List.not_mem_nil) | (refine List.forall_mem_cons.2 ⟨?_, ?_⟩; (focus (first | exact rfl | assumption))))); first | done | fail); exact (by (repeat (first | exact Flat.nil | apply Flat.one rfl | apply Flat.agg2 | apply Flat.agg3 | apply Flat.agg1 | apply Flat.agg4 | apply Flat.agg5)); first | done | fail); exact rfl) | (apply l_boxS; exact rfl) | (apply l_box1; exact rfl; exact rfl)); rintro _ _ ⟨b, rfl, rfl⟩)
      | (refine' jk_op_none _ rfl rfl _; rotate_left; (first | (apply l_storeI; exact rfl; exact rfl; exact rfl; exact (by (repeat (first | exact .here | apply Take.there)); first | done | fail); omega) | (apply l_storeB; exact rfl; exact rfl; exact rfl; exact (by (repeat (first | exact .here | apply Take.there)); first | done | fail); omega) | (apply l_storeS; exact rfl; exact rfl; exact (by (repeat (first | exact .here | apply Take.there)); first | done | fail); exact (by (repeat (first | exact (fun v hv => absurd hv List.not_mem_nil) | (refine List.forall_mem_cons.2 ⟨?_, ?_⟩; (focus (first | exact rfl | assumption))))); first | done | fail); exact rfl; exact rfl) | (apply l_storeL; exact rfl; exact rfl; (first | exact rfl | assumption); exact rfl; exact (by (repeat (first | exact .here | apply Take.there)); first | done | fail); (focus (repeat (first | exact SetL.here | apply SetL.there)); done)) | (apply l_store; exact rfl; exact rfl; (first | exact rfl | assumption); exact rfl; exact (by (repeat (first | exact .here | apply Take.there)); first | done | fail); exact (by first | decide | (simp; done) | (simp; omega)))); rintro _ _ ⟨rfl, rfl⟩)
      | (refine jk_cmp rfl rfl (cmp_eq _ _) rfl rfl (fun h => ?_) (fun h => ?_))
      | (refine jk_cmp rfl rfl (cmp_ne _ _) rfl rfl (fun h => ?_) (fun h => ?_))
      | (refine jk_cmp rfl rfl (cmp_lt _ _) rfl rfl (fun h => ?_) (fun h => ?_))
      | (refine jk_cmp rfl rfl (cmp_le _ _) rfl rfl (fun h => ?_) (fun h => ?_))
      | (refine jk_cmp rfl rfl (cmp_gt _ _) rfl rfl (fun h => ?_) (fun h => ?_))
      | (refine jk_cmp rfl rfl (cmp_ge _ _) rfl rfl (fun h => ?_) (fun h => ?_))
      | (refine jk_if rfl (fun h => ?_) (fun h => ?_))
      | fail)
    all_goals first
      | (refine jk_round (k + 1) ⟨by omega, fun v hv => ?_⟩ (by omega) (by (repeat (first | exact trivial | refine And.intro rfl ?_)); first | done | fail) (by (repeat (first | exact Sel.nil | (apply Sel.cons; (focus ((repeat (first | exact .here | apply Mem.there | apply Take.there)); first | done | fail))))); first | done | fail)
         rcases Nat.lt_or_ge v k with hv' | hv'
         · exact hz v hv'
         · obtain rfl : v = k := by omega
           omega)
      | (refine jk_ret_any (res2 rfl rfl rfl) (by (repeat (first | exact rs_nil | (refine rs_cons ?_ ?_; (focus ((repeat (first | exact .here | apply Mem.there | apply Take.there)); first | done | fail))) | exact fun ρ hρ => hρ | (intro ρ hρ; repeat (first | exact hρ | refine List.mem_cons_of_mem _ ?_)))); first | done | fail) (by (repeat (first | exact Sel.nil | (apply Sel.cons; (focus ((repeat (first | exact .here | apply Mem.there | apply Take.there)); first | done | fail))))); first | done | fail) ⟨rfl, ?_⟩
         have hb := balanced_not (l := l) (fl := fl) (s := s) (t := t) hlt (by omega) (by omega) (by omega)
         unfold valueSpec
         rw [if_neg (by rw [hc]; simp), if_neg (by rw [he]; simp), if_neg (by simpa using hfl), if_neg (by rw [hy]; simp), Int.toNat_natCast, if_pos hb])
  · obtain ⟨s', rfl⟩ := Int.eq_ofNat_of_zero_le s1
    have e1 : E.getD s' 0 = (fval s' l fl) := by rw [← hE, netL_get (by omega)]
    refine jk_seq ?_
    refine jk_seq ?_
    refine jk_region ?_
    focus (refine' jk_q _ rfl rfl rfl _; rotate_left; (apply q_move; exact rfl))
    focus (refine' jk_q _ rfl rfl rfl _; rotate_left; (apply q_move; exact rfl))
    focus (refine' jk_q _ rfl rfl rfl _; rotate_left; (apply q_ltF; exact rfl; exact rfl; omega))
    refine jk_nil ?_
    refine jk_if_f rfl ?_
    refine jk_exit rfl ?_
    refine jk_seq ?_
    refine jk_region ?_
    focus (refine' jk_q _ rfl rfl rfl _; rotate_left; (apply q_move; exact rfl))
    focus (refine' jk_q _ rfl rfl rfl _; rotate_left; (apply q_move; exact rfl))
    focus (refine' jk_q _ rfl rfl rfl _; rotate_left; (apply q_idx0; exact rfl; exact rfl; exact rfl; exact rfl; omega))
    focus (refine' jk_q _ rfl rfl rfl _; rotate_left; (apply q_load; exact rfl; exact rfl; (first | exact cell_own (by (repeat (first | exact .here | apply Mem.there)); first | done | fail) rfl | exact cellR (by assumption) (by (repeat (first | exact .here | apply Mem.there)); first | done | fail) | exact cellH (by assumption) (by (repeat (first | exact .here | apply Mem.there)); first | done | fail) | exact cell_ints (by (repeat (first | exact .here | apply Mem.there)); first | done | fail) (by omega) | exact cell_bools (by assumption) (by (repeat (first | exact .here | apply Mem.there)); first | done | fail) | exact cell_intsR (by (repeat (first | exact .here | apply Mem.there)); first | done | fail) (by omega) | exact cell_boolsR (by assumption) (by (repeat (first | exact .here | apply Mem.there)); first | done | fail))))
    focus (refine' jk_q _ rfl rfl rfl _; rotate_left; (apply q_assign; exact rfl))
    focus (refine' jk_q _ rfl rfl rfl _; rotate_left; (apply q_assign; exact rfl))
    refine jk_nil ?_
    refine jk_ret_any (res2 rfl rfl rfl) (by (repeat (first | exact rs_nil | (refine rs_cons ?_ ?_; (focus ((repeat (first | exact .here | apply Mem.there | apply Take.there)); first | done | fail))) | exact fun ρ hρ => hρ | (intro ρ hρ; repeat (first | exact hρ | refine List.mem_cons_of_mem _ ?_)))); first | done | fail) (by (repeat (first | exact Sel.nil | (apply Sel.cons; (focus ((repeat (first | exact .here | apply Mem.there | apply Take.there)); first | done | fail))))); first | done | fail) ⟨rfl, ?_⟩
    have hb := balanced_of (n := n) (l := l) (fl := fl) (s := s') (t := t) (fun v hv => hz v (by omega))
    unfold valueSpec
    rw [if_neg (by rw [hc]; simp), if_neg (by rw [he]; simp), if_neg (by simpa using hfl), if_neg (by rw [hy]; simp), Int.toNat_natCast, if_neg (by rw [hb]; simp), e1]
end Go.Proofs.Ytoccdekghjoldaa
