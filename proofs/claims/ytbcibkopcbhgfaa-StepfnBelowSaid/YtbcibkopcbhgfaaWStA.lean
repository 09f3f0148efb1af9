/- The greatest and the least value; where a function is low: the program's. -/
import Derived.Test.YtbcibkopcbhgfaaWCvO
import Derived.Test.YtbcibkopcbhgfaaWCvAt
import Derived.Test.YtbcibkopcbhgfaaWCvEq
import Derived.Test.YtbcibkopcbhgfaaWMbBelow
import Derived.Test.YtbcibkopcbhgfaaWMbGrow
import Derived.Test.YtbcibkopcbhgfaaWMbMid2
set_option linter.all false
namespace Go.Proofs.Ytbcibkopcbhgfaa
open Go.Eng Go.Step
set_option maxRecDepth 100000
set_option maxHeartbeats 4000000

theorem validSp_iff (fr to : Int) : validSp fr to = true ↔ 0 ≤ fr ∧ fr ≤ to ∧ to ≤ 1099511627776 := by simp [validSp]
theorem most1_spec (a b : Int) : Ans Try.prog (fv 53) [int a, int b] [] (fun r => r = int (max a b)) := by
  refine spec_in (cap := []) Try.func53 rfl rfl Try.ntmps53 rfl (by (repeat (first | exact EnvA.nil EnvI.nil | apply EnvA.cons | apply EnvA.nil | exact EnvI.nil | apply EnvI.cons)); first | done | fail) (fun N β => ?_)
  refine jk_seq ?_
  refine jk_region ?_
  focus (refine' jk_q _ rfl rfl rfl _; rotate_left; (apply q_assign; exact rfl))
  refine jk_nil ?_
  refine jk_seq ?_
  refine jk_region ?_
  focus (refine' jk_q _ rfl rfl rfl _; rotate_left; (apply q_move; exact rfl))
  focus (refine' jk_q _ rfl rfl rfl _; rotate_left; (apply q_move; exact rfl))
  focus (refine' jk_q _ rfl rfl rfl _; rotate_left; (apply q_max; exact rfl; exact rfl))
  focus (refine' jk_q _ rfl rfl rfl _; rotate_left; (apply q_assign; exact rfl))
  refine jk_nil ?_
  exact jk_ret_any (res1 rfl rfl) (by (repeat (first | exact rs_nil | (refine rs_cons ?_ ?_; (focus ((repeat (first | exact .here | apply Mem.there | apply Take.there)); first | done | fail))) | exact fun ρ hρ => hρ | (intro ρ hρ; repeat (first | exact hρ | refine List.mem_cons_of_mem _ ?_)))); first | done | fail) (by (repeat (first | exact Sel.nil | (apply Sel.cons; (focus ((repeat (first | exact .here | apply Mem.there | apply Take.there)); first | done | fail))))); first | done | fail) ⟨rfl, rfl⟩
theorem least1_spec (a b : Int) : Ans Try.prog (fv 54) [int a, int b] [] (fun r => r = int (min a b)) := by
  refine spec_in (cap := []) Try.func54 rfl rfl Try.ntmps54 rfl (by (repeat (first | exact EnvA.nil EnvI.nil | apply EnvA.cons | apply EnvA.nil | exact EnvI.nil | apply EnvI.cons)); first | done | fail) (fun N β => ?_)
  refine jk_seq ?_
  refine jk_region ?_
  focus (refine' jk_q _ rfl rfl rfl _; rotate_left; (apply q_assign; exact rfl))
  refine jk_nil ?_
  refine jk_seq ?_
  refine jk_region ?_
  focus (refine' jk_q _ rfl rfl rfl _; rotate_left; (apply q_move; exact rfl))
  focus (refine' jk_q _ rfl rfl rfl _; rotate_left; (apply q_move; exact rfl))
  focus (refine' jk_q _ rfl rfl rfl _; rotate_left; (apply q_min; exact rfl; exact rfl))
  focus (refine' jk_q _ rfl rfl rfl _; rotate_left; (apply q_assign; exact rfl))
  refine jk_nil ?_
  exact jk_ret_any (res1 rfl rfl) (by (repeat (first | exact rs_nil | (refine rs_cons ?_ ?_; (focus ((repeat (first | exact .here | apply Mem.there | apply Take.there)); first | done | fail))) | exact fun ρ hρ => hρ | (intro ρ hρ; repeat (first | exact hρ | refine List.mem_cons_of_mem _ ?_)))); first | done | fail) (by (repeat (first | exact Sel.nil | (apply Sel.cons; (focus ((repeat (first | exact .here | apply Mem.there | apply Take.there)); first | done | fail))))); first | done | fail) ⟨rfl, rfl⟩
set_option maxHeartbeats 8000000 in
theorem best_spec (ρ : PH) (v : Value) (f : List Lv) (fr to : Int) (fn : FuncId) (op : Int → Int → Int) (hop : ∀ a b, Ans Try.prog (fv fn) [int a, int b] [] (fun r => r = int (op a b))) (hv : LvAt ρ v f) (hl : f.length ≤ 9223372036854775807) :
    Ans Try.prog (fv 52) [v, .agg #[int fr, int to], fv fn] [ρ] (fun r => r = int (bestR op f fr to)) := by
  have hv2 := hv
  obtain ⟨q, c, rfl, hr⟩ := hv.val encV_len
  refine spec_in (cap := []) Try.func52 rfl rfl Try.ntmps52 rfl (by (repeat (first | exact EnvA.nil EnvI.nil | apply EnvA.cons | apply EnvA.nil | exact EnvI.nil | apply EnvI.cons)); first | done | fail) (fun N β => ?_)
  refine jk_seq ?_
  refine jk_region ?_
  refine jk_op (l_boxS rfl) rfl rfl rfl ?_
  rintro _ _ ⟨b4, rfl, rfl⟩
  refine jk_op (l_box1 rfl rfl) rfl rfl rfl ?_
  rintro _ _ ⟨b5, rfl, rfl⟩
  refine jk_freeze (ρ := sng b5 _) (by (repeat (first | exact .here | apply Take.there)); first | done | fail) ?_
  have c5 : rdc (sng b5 (.cells #[fv fn] 63 (0, 0))) b5 0 = some (fv fn) := by rw [rdc_sng]; rfl
  focus (refine' jk_q _ rfl rfl rfl _; rotate_left; (apply q_assign; exact rfl))
  refine jk_nil ?_
  refine jk_seq ?_
  refine jk_seq ?_
  refine jk_region ?_
  focus (refine' jk_q _ rfl rfl rfl _; rotate_left; (apply q_move; exact rfl))
  refine jk_call (stepCheck_spec ρ _ f hv2 hl) rfl rfl (by (repeat (first | exact RdOK.nil | (refine RdOK.consR ?_ ?_; (focus ((repeat (first | exact .here | apply Mem.there | apply Take.there)); first | done | fail))) | (refine RdOK.consH ?_ ?_; (focus ((repeat (first | exact .here | apply Mem.there | apply Take.there)); first | done | fail))) | exact (fun τ hτ => .inl (by simp [hτ])))); first | done | fail) rfl rfl ?_
  rintro _ rfl
  by_cases h0 : chkS f = 0
  rotate_left
  · focus (refine' jk_q _ rfl rfl rfl _; rotate_left; (apply q_ne; exact rfl; exact rfl; omega))
    focus (refine' jk_q _ rfl rfl rfl _; rotate_left; (apply q_move; exact rfl))
    refine jk_pass rfl rfl rfl ?_
    refine jk_pass rfl rfl rfl ?_
    refine jk_pass rfl rfl rfl ?_
    focus (refine' jk_q _ rfl rfl rfl _; rotate_left; (apply q_pick_t; exact rfl; exact rfl))
    focus (refine' jk_q _ rfl rfl rfl _; rotate_left; (apply q_move; exact rfl))
    refine jk_pass rfl rfl rfl ?_
    refine jk_pass rfl rfl rfl ?_
    refine jk_pass rfl rfl rfl ?_
    refine jk_pass rfl rfl rfl ?_
    refine jk_pass rfl rfl rfl ?_
    focus (refine' jk_q _ rfl rfl rfl _; rotate_left; (apply q_pick_t; exact rfl; exact rfl))
    refine jk_nil ?_
    refine jk_if_t rfl ?_
    refine jk_seq ?_
    refine jk_region ?_
    focus (refine' jk_q _ rfl rfl rfl _; rotate_left; (apply q_assign; exact rfl))
    refine jk_nil ?_
    exact jk_ret_any (res1 rfl rfl) (by (repeat (first | exact rs_nil | (refine rs_cons ?_ ?_; (focus ((repeat (first | exact .here | apply Mem.there | apply Take.there)); first | done | fail))) | exact fun ρ hρ => hρ | (intro ρ hρ; repeat (first | exact hρ | refine List.mem_cons_of_mem _ ?_)))); first | done | fail) (by (repeat (first | exact Sel.nil | (apply Sel.cons; (focus ((repeat (first | exact .here | apply Mem.there | apply Take.there)); first | done | fail))))); first | done | fail) ⟨rfl, by unfold bestR; rw [if_neg (fun h => h0 h.1)]⟩
  focus (refine' jk_q _ rfl rfl rfl _; rotate_left; (apply q_neF; exact rfl; exact rfl; omega))
  focus (refine' jk_q _ rfl rfl rfl _; rotate_left; (apply q_move; exact rfl))
  focus (refine' jk_q _ rfl rfl rfl _; rotate_left; (apply q_loadS; exact rfl; exact rfl; (first | exact cells_own (by (repeat (first | exact .here | apply Mem.there)); first | done | fail) | exact cellsR (by assumption) (by (repeat (first | exact .here | apply Mem.there)); first | done | fail) | exact cellsH (by assumption) (by (repeat (first | exact .here | apply Mem.there)); first | done | fail)); exact rfl))
  refine jk_call (valid_spec fr to) rfl rfl (by (repeat (first | exact RdOK.nil | (refine RdOK.consR ?_ ?_; (focus ((repeat (first | exact .here | apply Mem.there | apply Take.there)); first | done | fail))) | (refine RdOK.consH ?_ ?_; (focus ((repeat (first | exact .here | apply Mem.there | apply Take.there)); first | done | fail))) | exact (fun τ hτ => .inl (by simp [hτ])))); first | done | fail) rfl rfl ?_
  rintro _ rfl
  cases hvs : validSp fr to with
  | false =>
    have hns : ¬ (0 ≤ fr ∧ fr ≤ to ∧ to ≤ 1099511627776) := by simpa [validSp] using hvs
    focus (refine' jk_q _ rfl rfl rfl _; rotate_left; (apply q_not; exact rfl))
    focus (refine' jk_q _ rfl rfl rfl _; rotate_left; (apply q_pick_f; exact rfl; exact rfl))
    focus (refine' jk_q _ rfl rfl rfl _; rotate_left; (apply q_move; exact rfl))
    refine jk_pass rfl rfl rfl ?_
    refine jk_pass rfl rfl rfl ?_
    refine jk_pass rfl rfl rfl ?_
    refine jk_pass rfl rfl rfl ?_
    refine jk_pass rfl rfl rfl ?_
    focus (refine' jk_q _ rfl rfl rfl _; rotate_left; (apply q_pick_t; exact rfl; exact rfl))
    refine jk_nil ?_
    refine jk_if_t rfl ?_
    refine jk_seq ?_
    refine jk_region ?_
    focus (refine' jk_q _ rfl rfl rfl _; rotate_left; (apply q_assign; exact rfl))
    refine jk_nil ?_
    exact jk_ret_any (res1 rfl rfl) (by (repeat (first | exact rs_nil | (refine rs_cons ?_ ?_; (focus ((repeat (first | exact .here | apply Mem.there | apply Take.there)); first | done | fail))) | exact fun ρ hρ => hρ | (intro ρ hρ; repeat (first | exact hρ | refine List.mem_cons_of_mem _ ?_)))); first | done | fail) (by (repeat (first | exact Sel.nil | (apply Sel.cons; (focus ((repeat (first | exact .here | apply Mem.there | apply Take.there)); first | done | fail))))); first | done | fail) ⟨rfl, by unfold bestR; rw [if_neg (fun h => hns h.2.1)]⟩
  | true =>
    have hsp := (validSp_iff fr to).1 hvs
    by_cases he : fr = to
    · focus (refine' jk_q _ rfl rfl rfl _; rotate_left; (apply q_not; exact rfl))
      focus (refine' jk_q _ rfl rfl rfl _; rotate_left; (apply q_pick_f; exact rfl; exact rfl))
      focus (refine' jk_q _ rfl rfl rfl _; rotate_left; (apply q_move; exact rfl))
      focus (refine' jk_q _ rfl rfl rfl _; rotate_left; (apply q_fld0; exact rfl; exact rfl))
      focus (refine' jk_q _ rfl rfl rfl _; rotate_left; (apply q_load; exact rfl; exact rfl; (first | exact cell_own (by (repeat (first | exact .here | apply Mem.there)); first | done | fail) rfl | exact cellR (by assumption) (by (repeat (first | exact .here | apply Mem.there)); first | done | fail) | exact cellH (by assumption) (by (repeat (first | exact .here | apply Mem.there)); first | done | fail) | exact cell_ints (by (repeat (first | exact .here | apply Mem.there)); first | done | fail) (by omega) | exact cell_bools (by assumption) (by (repeat (first | exact .here | apply Mem.there)); first | done | fail) | exact cell_intsR (by (repeat (first | exact .here | apply Mem.there)); first | done | fail) (by omega) | exact cell_boolsR (by assumption) (by (repeat (first | exact .here | apply Mem.there)); first | done | fail))))
      focus (refine' jk_q _ rfl rfl rfl _; rotate_left; (apply q_fld0; exact rfl; exact rfl))
      focus (refine' jk_q _ rfl rfl rfl _; rotate_left; (apply q_load; exact rfl; exact rfl; (first | exact cell_own (by (repeat (first | exact .here | apply Mem.there)); first | done | fail) rfl | exact cellR (by assumption) (by (repeat (first | exact .here | apply Mem.there)); first | done | fail) | exact cellH (by assumption) (by (repeat (first | exact .here | apply Mem.there)); first | done | fail) | exact cell_ints (by (repeat (first | exact .here | apply Mem.there)); first | done | fail) (by omega) | exact cell_bools (by assumption) (by (repeat (first | exact .here | apply Mem.there)); first | done | fail) | exact cell_intsR (by (repeat (first | exact .here | apply Mem.there)); first | done | fail) (by omega) | exact cell_boolsR (by assumption) (by (repeat (first | exact .here | apply Mem.there)); first | done | fail))))
      focus (refine' jk_q _ rfl rfl rfl _; rotate_left; (apply q_eq; exact rfl; exact rfl; omega))
      focus (refine' jk_q _ rfl rfl rfl _; rotate_left; (apply q_pick_f; exact rfl; exact rfl))
      refine jk_nil ?_
      refine jk_if_t rfl ?_
      refine jk_seq ?_
      refine jk_region ?_
      focus (refine' jk_q _ rfl rfl rfl _; rotate_left; (apply q_assign; exact rfl))
      refine jk_nil ?_
      exact jk_ret_any (res1 rfl rfl) (by (repeat (first | exact rs_nil | (refine rs_cons ?_ ?_; (focus ((repeat (first | exact .here | apply Mem.there | apply Take.there)); first | done | fail))) | exact fun ρ hρ => hρ | (intro ρ hρ; repeat (first | exact hρ | refine List.mem_cons_of_mem _ ?_)))); first | done | fail) (by (repeat (first | exact Sel.nil | (apply Sel.cons; (focus ((repeat (first | exact .here | apply Mem.there | apply Take.there)); first | done | fail))))); first | done | fail) ⟨rfl, by unfold bestR; rw [if_neg (fun h => h.2.2 he)]⟩
    obtain ⟨hlen, hA⟩ := chkS_ok h0
    have hR : bestR op f fr to = foldP op (val f fr) (parts f fr to) := by unfold bestR; rw [if_pos ⟨h0, hsp, he⟩]
    rw [hR]
    focus (refine' jk_q _ rfl rfl rfl _; rotate_left; (apply q_not; exact rfl))
    focus (refine' jk_q _ rfl rfl rfl _; rotate_left; (apply q_pick_f; exact rfl; exact rfl))
    focus (refine' jk_q _ rfl rfl rfl _; rotate_left; (apply q_move; exact rfl))
    focus (refine' jk_q _ rfl rfl rfl _; rotate_left; (apply q_fld0; exact rfl; exact rfl))
    focus (refine' jk_q _ rfl rfl rfl _; rotate_left; (apply q_load; exact rfl; exact rfl; (first | exact cell_own (by (repeat (first | exact .here | apply Mem.there)); first | done | fail) rfl | exact cellR (by assumption) (by (repeat (first | exact .here | apply Mem.there)); first | done | fail) | exact cellH (by assumption) (by (repeat (first | exact .here | apply Mem.there)); first | done | fail) | exact cell_ints (by (repeat (first | exact .here | apply Mem.there)); first | done | fail) (by omega) | exact cell_bools (by assumption) (by (repeat (first | exact .here | apply Mem.there)); first | done | fail) | exact cell_intsR (by (repeat (first | exact .here | apply Mem.there)); first | done | fail) (by omega) | exact cell_boolsR (by assumption) (by (repeat (first | exact .here | apply Mem.there)); first | done | fail))))
    focus (refine' jk_q _ rfl rfl rfl _; rotate_left; (apply q_fld0; exact rfl; exact rfl))
    focus (refine' jk_q _ rfl rfl rfl _; rotate_left; (apply q_load; exact rfl; exact rfl; (first | exact cell_own (by (repeat (first | exact .here | apply Mem.there)); first | done | fail) rfl | exact cellR (by assumption) (by (repeat (first | exact .here | apply Mem.there)); first | done | fail) | exact cellH (by assumption) (by (repeat (first | exact .here | apply Mem.there)); first | done | fail) | exact cell_ints (by (repeat (first | exact .here | apply Mem.there)); first | done | fail) (by omega) | exact cell_bools (by assumption) (by (repeat (first | exact .here | apply Mem.there)); first | done | fail) | exact cell_intsR (by (repeat (first | exact .here | apply Mem.there)); first | done | fail) (by omega) | exact cell_boolsR (by assumption) (by (repeat (first | exact .here | apply Mem.there)); first | done | fail))))
    focus (refine' jk_q _ rfl rfl rfl _; rotate_left; (apply q_eqF; exact rfl; exact rfl; omega))
    focus (refine' jk_q _ rfl rfl rfl _; rotate_left; (apply q_pick_f; exact rfl; exact rfl))
    refine jk_nil ?_
    refine jk_if_f rfl ?_
    refine jk_skip ?_
    refine jk_seq ?_
    refine jk_region ?_
    focus (refine' jk_q _ rfl rfl rfl _; rotate_left; (apply q_move; exact rfl))
    focus (refine' jk_q _ rfl rfl rfl _; rotate_left; (apply q_fld0; exact rfl; exact rfl))
    focus (refine' jk_q _ rfl rfl rfl _; rotate_left; (apply q_load; exact rfl; exact rfl; (first | exact cell_own (by (repeat (first | exact .here | apply Mem.there)); first | done | fail) rfl | exact cellR (by assumption) (by (repeat (first | exact .here | apply Mem.there)); first | done | fail) | exact cellH (by assumption) (by (repeat (first | exact .here | apply Mem.there)); first | done | fail) | exact cell_ints (by (repeat (first | exact .here | apply Mem.there)); first | done | fail) (by omega) | exact cell_bools (by assumption) (by (repeat (first | exact .here | apply Mem.there)); first | done | fail) | exact cell_intsR (by (repeat (first | exact .here | apply Mem.there)); first | done | fail) (by omega) | exact cell_boolsR (by assumption) (by (repeat (first | exact .here | apply Mem.there)); first | done | fail))))
    refine jk_call (stepValue_spec ρ _ f fr hv2 hA hlen (by omega)) rfl rfl (by (repeat (first | exact RdOK.nil | (refine RdOK.consR ?_ ?_; (focus ((repeat (first | exact .here | apply Mem.there | apply Take.there)); first | done | fail))) | (refine RdOK.consH ?_ ?_; (focus ((repeat (first | exact .here | apply Mem.there | apply Take.there)); first | done | fail))) | exact (fun τ hτ => .inl (by simp [hτ])))); first | done | fail) rfl rfl ?_
    rintro _ rfl
    focus (refine' jk_op _ rfl rfl rfl _; rotate_left; (apply l_alloc1; exact rfl; exact rfl); rintro _ _ ⟨b, rfl, rfl⟩)
    focus (refine' jk_op_none _ rfl rfl _; rotate_left; (apply l_storeL; exact rfl; exact rfl; (first | exact rfl | assumption); exact rfl; exact (by (repeat (first | exact .here | apply Take.there)); first | done | fail); (focus (repeat (first | exact SetL.here | apply SetL.there)); done)); rintro _ _ ⟨rfl, rfl⟩)
    refine jk_nil ?_
    refine jk_seq ?_
    refine jk_seq ?_
    refine jk_region ?_
    focus (refine' jk_q _ rfl rfl rfl _; rotate_left; (apply q_move; exact rfl))
    focus (refine' jk_q _ rfl rfl rfl _; rotate_left; (apply q_loadS; exact rfl; exact rfl; (first | exact cells_own (by (repeat (first | exact .here | apply Mem.there)); first | done | fail) | exact cellsR (by assumption) (by (repeat (first | exact .here | apply Mem.there)); first | done | fail) | exact cellsH (by assumption) (by (repeat (first | exact .here | apply Mem.there)); first | done | fail)); exact rfl))
    revert b; intro b7
    refine jk_callH (parts_spec (.slice q f.length c) fr to rfl) rfl rfl Takes.nil (fun τ hτ => by simp at hτ) rfl rfl ?_
    rintro _ _ ⟨bx, bf, rfl, rfl⟩
    refine jk_freeze (ρ := sng bx _) (by (repeat (first | exact .here | apply Take.there)); first | done | fail) ?_
    refine jk_freeze (ρ := sng bf _) (by (repeat (first | exact .here | apply Take.there)); first | done | fail) ?_
    refine jk_nil ?_
    refine jk_block ?_
    refine jk_range (gf := 67) (cap := [.pointer (some ⟨bx, 0, none⟩), .pointer (some ⟨bf, 0, none⟩)]) (ps := [32, 33]) (X := Int) rfl Try.func67 rfl rfl
      (parts_iter ρ bx bf _ f fr to hv2 hA hlen hsp.1 hsp.2.1 hsp.2.2) ?_
      (fun i x => x = foldP op (val f fr) ((parts f fr to).take i))
      (fun x => [sng b7 (.cells #[int x] 3 (0, 0))])
      (fun _ _ => False) (val f fr) rfl (by (repeat (first | exact Takes.nil | (apply Takes.cons; exact (by (repeat (first | exact .here | apply Take.there)); first | done | fail)))); first | done | fail) (by simp [foldP]) ?_ ?_ ?_
    · intro σ hσ
      simp only [List.mem_cons, List.not_mem_nil, or_false] at hσ ⊢
      rcases hσ with h | h | h <;> simp [h]
    · rintro l r i x vs hvs2 hI hps has hbd hst hpe hfr
      obtain ⟨st, pe, fnn, tm, prm, asg, bdy, df⟩ := r
      simp only at hps has hbd hst hpe hfr
      subst hps has hbd hst hpe
      rw [List.getElem?_map] at hvs2
      obtain ⟨p, hp, rfl⟩ := Option.map_eq_some_iff.1 hvs2
      have hft := foldP_take op (val f fr) _ i p hp
      rw [← hI] at hft
      refine yield_spec hfr rfl (by intro p hp; simp at hp; omega) (by (repeat (first | exact PutI.nil | apply PutI.cons)); first | done | fail) (fun N' β' => ?_)
      dsimp only
      refine jk_region ?_
      focus (refine' jk_q _ rfl rfl rfl _; rotate_left; (apply q_assign; exact rfl))
      refine jk_nil ?_
      refine jk_switch rfl rfl ?_
      refine jk_begin (by (repeat (first | exact .here | apply Take.there)); first | done | fail) rfl ?_
      refine jk_block ?_
      refine jk_region ?_
      focus (refine' jk_q _ rfl rfl rfl _; rotate_left; (apply q_load; exact rfl; exact rfl; (first | exact cell_own (by (repeat (first | exact .here | apply Mem.there)); first | done | fail) rfl | exact cellR (by assumption) (by (repeat (first | exact .here | apply Mem.there)); first | done | fail) | exact cellH (by assumption) (by (repeat (first | exact .here | apply Mem.there)); first | done | fail) | exact cell_ints (by (repeat (first | exact .here | apply Mem.there)); first | done | fail) (by omega) | exact cell_bools (by assumption) (by (repeat (first | exact .here | apply Mem.there)); first | done | fail) | exact cell_intsR (by (repeat (first | exact .here | apply Mem.there)); first | done | fail) (by omega) | exact cell_boolsR (by assumption) (by (repeat (first | exact .here | apply Mem.there)); first | done | fail))))
      focus (refine' jk_q _ rfl rfl rfl _; rotate_left; (apply q_load; exact rfl; exact rfl; (first | exact cell_own (by (repeat (first | exact .here | apply Mem.there)); first | done | fail) rfl | exact cellR (by assumption) (by (repeat (first | exact .here | apply Mem.there)); first | done | fail) | exact cellH (by assumption) (by (repeat (first | exact .here | apply Mem.there)); first | done | fail) | exact cell_ints (by (repeat (first | exact .here | apply Mem.there)); first | done | fail) (by omega) | exact cell_bools (by assumption) (by (repeat (first | exact .here | apply Mem.there)); first | done | fail) | exact cell_intsR (by (repeat (first | exact .here | apply Mem.there)); first | done | fail) (by omega) | exact cell_boolsR (by assumption) (by (repeat (first | exact .here | apply Mem.there)); first | done | fail))))
      focus (refine' jk_q _ rfl rfl rfl _; rotate_left; (apply q_move; exact rfl))
      refine jk_call (hop x p.2) rfl rfl (by (repeat (first | exact RdOK.nil | (refine RdOK.consR ?_ ?_; (focus ((repeat (first | exact .here | apply Mem.there | apply Take.there)); first | done | fail))) | (refine RdOK.consH ?_ ?_; (focus ((repeat (first | exact .here | apply Mem.there | apply Take.there)); first | done | fail))) | exact (fun τ hτ => .inl (by simp [hτ])))); first | done | fail) rfl rfl ?_
      rintro _ rfl
      focus (refine' jk_op_none _ rfl rfl _; rotate_left; (apply l_storeL; exact rfl; exact rfl; (first | exact rfl | assumption); exact rfl; exact (by (repeat (first | exact .here | apply Take.there)); first | done | fail); (focus (repeat (first | exact SetL.here | apply SetL.there)); done)); rintro _ _ ⟨rfl, rfl⟩)
      refine jk_nil ?_
      refine jk_blk ?_
      exact jk_roundEnd (by (repeat (first | exact .here | apply Take.there)); first | done | fail) (by (repeat (first | exact rs_nil | (refine rs_cons ?_ ?_; (focus ((repeat (first | exact .here | apply Mem.there | apply Take.there)); first | done | fail))) | exact fun ρ hρ => hρ | (intro ρ hρ; repeat (first | exact hρ | refine List.mem_cons_of_mem _ ?_)))); first | done | fail) (by (repeat (first | exact Sel.nil | (apply Sel.cons; (focus ((repeat (first | exact .here | apply Mem.there | apply Take.there)); first | done | fail))))); first | done | fail) ⟨op x p.2, .inl ⟨rfl, hft.symm, rfl⟩⟩
    · rintro b2 x hI
      rw [List.length_map, List.take_length] at hI
      dsimp only
      refine jk_blk ?_
      refine jk_seq ?_
      refine jk_region ?_
      focus (refine' jk_q _ rfl rfl rfl _; rotate_left; (apply q_load; exact rfl; exact rfl; (first | exact cell_own (by (repeat (first | exact .here | apply Mem.there)); first | done | fail) rfl | exact cellR (by assumption) (by (repeat (first | exact .here | apply Mem.there)); first | done | fail) | exact cellH (by assumption) (by (repeat (first | exact .here | apply Mem.there)); first | done | fail) | exact cell_ints (by (repeat (first | exact .here | apply Mem.there)); first | done | fail) (by omega) | exact cell_bools (by assumption) (by (repeat (first | exact .here | apply Mem.there)); first | done | fail) | exact cell_intsR (by (repeat (first | exact .here | apply Mem.there)); first | done | fail) (by omega) | exact cell_boolsR (by assumption) (by (repeat (first | exact .here | apply Mem.there)); first | done | fail))))
      focus (refine' jk_q _ rfl rfl rfl _; rotate_left; (apply q_assign; exact rfl))
      refine jk_nil ?_
      exact jk_retM (Marks.cons (by (repeat (first | exact .here | apply Take.there)); first | done | fail) .nil) (res1 rfl rfl) (by (repeat (first | exact rs_nil | (refine rs_cons ?_ ?_; (focus ((repeat (first | exact .here | apply Mem.there | apply Take.there)); first | done | fail))) | exact fun ρ hρ => hρ | (intro ρ hρ; repeat (first | exact hρ | refine List.mem_cons_of_mem _ ?_)))); first | done | fail) (by (repeat (first | exact Sel.nil | (apply Sel.cons; (focus ((repeat (first | exact .here | apply Mem.there | apply Take.there)); first | done | fail))))); first | done | fail) ⟨rfl, by rw [hI]; rfl⟩
    · rintro _ _ _ h; exact h.elim
theorem most_spec (ρ : PH) (v : Value) (f : List Lv) (fr to : Int) (hv : LvAt ρ v f) (hl : f.length ≤ 9223372036854775807) :
    Ans Try.prog (fv 25) [v, .agg #[int fr, int to]] [ρ] (fun r => r = int (bestR max f fr to)) := by
  have hv2 := hv
  obtain ⟨q, c, rfl, hr⟩ := hv.val encV_len
  refine spec_in (cap := []) Try.func25 rfl rfl Try.ntmps25 rfl (by (repeat (first | exact EnvA.nil EnvI.nil | apply EnvA.cons | apply EnvA.nil | exact EnvI.nil | apply EnvI.cons)); first | done | fail) (fun N β => ?_)
  refine jk_seq ?_
  refine jk_region ?_
  focus (refine' jk_op _ rfl rfl rfl _; rotate_left; (apply l_boxS; exact rfl); rintro _ _ ⟨b, rfl, rfl⟩)
  focus (refine' jk_q _ rfl rfl rfl _; rotate_left; (apply q_assign; exact rfl))
  refine jk_nil ?_
  refine jk_seq ?_
  refine jk_region ?_
  focus (refine' jk_q _ rfl rfl rfl _; rotate_left; (apply q_move; exact rfl))
  focus (refine' jk_q _ rfl rfl rfl _; rotate_left; (apply q_loadS; exact rfl; exact rfl; (first | exact cells_own (by (repeat (first | exact .here | apply Mem.there)); first | done | fail) | exact cellsR (by assumption) (by (repeat (first | exact .here | apply Mem.there)); first | done | fail) | exact cellsH (by assumption) (by (repeat (first | exact .here | apply Mem.there)); first | done | fail)); exact rfl))
  refine jk_call (best_spec ρ _ f fr to 53 max most1_spec hv2 hl) rfl rfl (by (repeat (first | exact RdOK.nil | (refine RdOK.consR ?_ ?_; (focus ((repeat (first | exact .here | apply Mem.there | apply Take.there)); first | done | fail))) | (refine RdOK.consH ?_ ?_; (focus ((repeat (first | exact .here | apply Mem.there | apply Take.there)); first | done | fail))) | exact (fun τ hτ => .inl (by simp [hτ])))); first | done | fail) rfl rfl ?_
  rintro _ rfl
  focus (refine' jk_q _ rfl rfl rfl _; rotate_left; (apply q_assign; exact rfl))
  refine jk_nil ?_
  exact jk_ret_any (res1 rfl rfl) (by (repeat (first | exact rs_nil | (refine rs_cons ?_ ?_; (focus ((repeat (first | exact .here | apply Mem.there | apply Take.there)); first | done | fail))) | exact fun ρ hρ => hρ | (intro ρ hρ; repeat (first | exact hρ | refine List.mem_cons_of_mem _ ?_)))); first | done | fail) (by (repeat (first | exact Sel.nil | (apply Sel.cons; (focus ((repeat (first | exact .here | apply Mem.there | apply Take.there)); first | done | fail))))); first | done | fail) ⟨rfl, rfl⟩
theorem least_spec (ρ : PH) (v : Value) (f : List Lv) (fr to : Int) (hv : LvAt ρ v f) (hl : f.length ≤ 9223372036854775807) :
    Ans Try.prog (fv 27) [v, .agg #[int fr, int to]] [ρ] (fun r => r = int (bestR min f fr to)) := by
  have hv2 := hv
  obtain ⟨q, c, rfl, hr⟩ := hv.val encV_len
  refine spec_in (cap := []) Try.func27 rfl rfl Try.ntmps27 rfl (by (repeat (first | exact EnvA.nil EnvI.nil | apply EnvA.cons | apply EnvA.nil | exact EnvI.nil | apply EnvI.cons)); first | done | fail) (fun N β => ?_)
  refine jk_seq ?_
  refine jk_region ?_
  focus (refine' jk_op _ rfl rfl rfl _; rotate_left; (apply l_boxS; exact rfl); rintro _ _ ⟨b, rfl, rfl⟩)
  focus (refine' jk_q _ rfl rfl rfl _; rotate_left; (apply q_assign; exact rfl))
  refine jk_nil ?_
  refine jk_seq ?_
  refine jk_region ?_
  focus (refine' jk_q _ rfl rfl rfl _; rotate_left; (apply q_move; exact rfl))
  focus (refine' jk_q _ rfl rfl rfl _; rotate_left; (apply q_loadS; exact rfl; exact rfl; (first | exact cells_own (by (repeat (first | exact .here | apply Mem.there)); first | done | fail) | exact cellsR (by assumption) (by (repeat (first | exact .here | apply Mem.there)); first | done | fail) | exact cellsH (by assumption) (by (repeat (first | exact .here | apply Mem.there)); first | done | fail)); exact rfl))
  refine jk_call (best_spec ρ _ f fr to 54 min least1_spec hv2 hl) rfl rfl (by (repeat (first | exact RdOK.nil | (refine RdOK.consR ?_ ?_; (focus ((repeat (first | exact .here | apply Mem.there | apply Take.there)); first | done | fail))) | (refine RdOK.consH ?_ ?_; (focus ((repeat (first | exact .here | apply Mem.there | apply Take.there)); first | done | fail))) | exact (fun τ hτ => .inl (by simp [hτ])))); first | done | fail) rfl rfl ?_
  rintro _ rfl
  focus (refine' jk_q _ rfl rfl rfl _; rotate_left; (apply q_assign; exact rfl))
  refine jk_nil ?_
  exact jk_ret_any (res1 rfl rfl) (by (repeat (first | exact rs_nil | (refine rs_cons ?_ ?_; (focus ((repeat (first | exact .here | apply Mem.there | apply Take.there)); first | done | fail))) | exact fun ρ hρ => hρ | (intro ρ hρ; repeat (first | exact hρ | refine List.mem_cons_of_mem _ ?_)))); first | done | fail) (by (repeat (first | exact Sel.nil | (apply Sel.cons; (focus ((repeat (first | exact .here | apply Mem.there | apply Take.there)); first | done | fail))))); first | done | fail) ⟨rfl, rfl⟩
abbrev SpAt (ρ : PH) (v : Value) (l : List (Int × Int)) : Prop := SlE encS 2 ρ v l
theorem last_get {α : Type} {l : List α} {q : α} (h : l.getLast? = some q) : l[l.length - 1]? = some q := by
  rw [List.getLast?_eq_getElem?] at h; exact h
theorem set_last {α : Type} {l : List α} {q : α} (h : l ≠ []) : l.set (l.length - 1) q = l.dropLast ++ [q] := by
  obtain ⟨m, x, rfl⟩ : ∃ m x, l = m ++ [x] := ⟨l.dropLast, l.getLast h, (List.dropLast_concat_getLast h).symm⟩
  simp
set_option maxHeartbeats 16000000 in
theorem below_spec (ρ : PH) (v : Value) (f : List Lv) (lim fr to : Int) (hv : LvAt ρ v f) (hl : f.length ≤ 9223372036854775807) :
    Makes Try.prog (fv 17) [v, int lim, .agg #[int fr, int to]] [ρ] (fun r σ => ∃ u, r = .tuple #[u, int (lowR f lim fr to).2] ∧ OwnS 24 2 u (lowR f lim fr to).1.length ((lowR f lim fr to).1.flatMap encS) σ) := by
  have hv2 := hv
  obtain ⟨q, c, rfl, hr⟩ := hv.val encV_len
  refine spec_in (cap := []) Try.func17 rfl rfl Try.ntmps17 rfl (by (repeat (first | exact EnvA.nil EnvI.nil | apply EnvA.cons | apply EnvA.nil | exact EnvI.nil | apply EnvI.cons)); first | done | fail) (fun N β => ?_)
  refine jk_emp ?_
  refine jk_seq ?_
  refine jk_region ?_
  refine jk_op (l_box1 rfl rfl) rfl rfl rfl ?_
  rintro _ _ ⟨b4, rfl, rfl⟩
  refine jk_freeze (ρ := sng b4 _) (by (repeat (first | exact .here | apply Take.there)); first | done | fail) ?_
  have c4 : rdc (sng b4 (.cells #[int lim] 3 (0, 0))) b4 0 = some (int lim) := by rw [rdc_sng]; rfl
  refine jk_op (l_boxS rfl) rfl rfl rfl ?_
  rintro _ _ ⟨b5, rfl, rfl⟩
  focus (refine' jk_q _ rfl rfl rfl _; rotate_left; (apply q_assign; exact rfl))
  focus (refine' jk_q _ rfl rfl rfl _; rotate_left; (apply q_assign; exact rfl))
  refine jk_nil ?_
  refine jk_seq ?_
  refine jk_seq ?_
  refine jk_region ?_
  focus (refine' jk_q _ rfl rfl rfl _; rotate_left; (apply q_move; exact rfl))
  refine jk_call (stepCheck_spec ρ _ f hv2 hl) rfl rfl (by (repeat (first | exact RdOK.nil | (refine RdOK.consR ?_ ?_; (focus ((repeat (first | exact .here | apply Mem.there | apply Take.there)); first | done | fail))) | (refine RdOK.consH ?_ ?_; (focus ((repeat (first | exact .here | apply Mem.there | apply Take.there)); first | done | fail))) | exact (fun τ hτ => .inl (by simp [hτ])))); first | done | fail) rfl rfl ?_
  rintro _ rfl
  by_cases h0 : chkS f = 0
  rotate_left
  · have hR : lowR f lim fr to = ([], 1) := by unfold lowR; rw [if_neg h0]
    rw [hR]
    focus (refine' jk_q _ rfl rfl rfl _; rotate_left; (apply q_ne; exact rfl; exact rfl; omega))
    refine jk_nil ?_
    refine jk_if_t rfl ?_
    refine jk_seq ?_
    refine jk_region ?_
    focus (refine' jk_q _ rfl rfl rfl _; rotate_left; (apply q_assign; exact rfl))
    focus (refine' jk_q _ rfl rfl rfl _; rotate_left; (apply q_assign; exact rfl))
    refine jk_nil ?_
    exact jk_ret_any (res2 rfl rfl rfl) (by (repeat (first | exact rs_nil | (refine rs_cons ?_ ?_; (focus ((repeat (first | exact .here | apply Mem.there | apply Take.there)); first | done | fail))) | exact fun ρ hρ => hρ | (intro ρ hρ; repeat (first | exact hρ | refine List.mem_cons_of_mem _ ?_)))); first | done | fail) (by (repeat (first | exact Sel.nil | (apply Sel.cons; (focus ((repeat (first | exact .here | apply Mem.there | apply Take.there)); first | done | fail))))); first | done | fail) ⟨emp, ⟨_, rfl, OwnS.nil _ _⟩, rfl⟩
  focus (refine' jk_q _ rfl rfl rfl _; rotate_left; (apply q_neF; exact rfl; exact rfl; omega))
  refine jk_nil ?_
  refine jk_if_f rfl ?_
  refine jk_skip ?_
  refine jk_seq ?_
  refine jk_seq ?_
  refine jk_region ?_
  focus (refine' jk_q _ rfl rfl rfl _; rotate_left; (apply q_loadS; exact rfl; exact rfl; (first | exact cells_own (by (repeat (first | exact .here | apply Mem.there)); first | done | fail) | exact cellsR (by assumption) (by (repeat (first | exact .here | apply Mem.there)); first | done | fail) | exact cellsH (by assumption) (by (repeat (first | exact .here | apply Mem.there)); first | done | fail)); exact rfl))
  refine jk_call (valid_spec fr to) rfl rfl (by (repeat (first | exact RdOK.nil | (refine RdOK.consR ?_ ?_; (focus ((repeat (first | exact .here | apply Mem.there | apply Take.there)); first | done | fail))) | (refine RdOK.consH ?_ ?_; (focus ((repeat (first | exact .here | apply Mem.there | apply Take.there)); first | done | fail))) | exact (fun τ hτ => .inl (by simp [hτ])))); first | done | fail) rfl rfl ?_
  rintro _ rfl
  cases hvs : validSp fr to with
  | false =>
    have hns : ¬ (0 ≤ fr ∧ fr ≤ to ∧ to ≤ 1099511627776) := by simpa [validSp] using hvs
    have hR : lowR f lim fr to = ([], 2) := by unfold lowR; rw [if_pos h0, if_neg hns]
    rw [hR]
    focus (refine' jk_q _ rfl rfl rfl _; rotate_left; (apply q_not; exact rfl))
    refine jk_nil ?_
    refine jk_if_t rfl ?_
    refine jk_seq ?_
    refine jk_region ?_
    focus (refine' jk_q _ rfl rfl rfl _; rotate_left; (apply q_assign; exact rfl))
    focus (refine' jk_q _ rfl rfl rfl _; rotate_left; (apply q_assign; exact rfl))
    refine jk_nil ?_
    exact jk_ret_any (res2 rfl rfl rfl) (by (repeat (first | exact rs_nil | (refine rs_cons ?_ ?_; (focus ((repeat (first | exact .here | apply Mem.there | apply Take.there)); first | done | fail))) | exact fun ρ hρ => hρ | (intro ρ hρ; repeat (first | exact hρ | refine List.mem_cons_of_mem _ ?_)))); first | done | fail) (by (repeat (first | exact Sel.nil | (apply Sel.cons; (focus ((repeat (first | exact .here | apply Mem.there | apply Take.there)); first | done | fail))))); first | done | fail) ⟨emp, ⟨_, rfl, OwnS.nil _ _⟩, rfl⟩
  | true =>
    have hsp := (validSp_iff fr to).1 hvs
    obtain ⟨hlen, hA⟩ := chkS_ok h0
    have hR : lowR f lim fr to = (lowP lim (parts f fr to), 0) := by unfold lowR; rw [if_pos h0, if_pos hsp]
    rw [hR]
    have hpl : (parts f fr to).length ≤ f.length + 1 := partsFrom_len f fr _
    focus (refine' jk_q _ rfl rfl rfl _; rotate_left; (apply q_not; exact rfl))
    refine jk_nil ?_
    refine jk_if_f rfl ?_
    refine jk_skip ?_
    refine jk_seq ?_
    refine jk_region ?_
    focus (refine' jk_op _ rfl rfl rfl _; rotate_left; (apply l_alloc1; exact rfl; exact rfl); rintro _ _ ⟨b, rfl, rfl⟩)
    refine jk_nil ?_
    refine jk_seq ?_
    refine jk_seq ?_
    refine jk_region ?_
    focus (refine' jk_q _ rfl rfl rfl _; rotate_left; (apply q_move; exact rfl))
    focus (refine' jk_q _ rfl rfl rfl _; rotate_left; (apply q_loadS; exact rfl; exact rfl; (first | exact cells_own (by (repeat (first | exact .here | apply Mem.there)); first | done | fail) | exact cellsR (by assumption) (by (repeat (first | exact .here | apply Mem.there)); first | done | fail) | exact cellsH (by assumption) (by (repeat (first | exact .here | apply Mem.there)); first | done | fail)); exact rfl))
    revert b; intro b8
    refine jk_callH (parts_spec (.slice q f.length c) fr to rfl) rfl rfl Takes.nil (fun τ hτ => by simp at hτ) rfl rfl ?_
    rintro _ _ ⟨bx, bf, rfl, rfl⟩
    refine jk_freeze (ρ := sng bx _) (by (repeat (first | exact .here | apply Take.there)); first | done | fail) ?_
    refine jk_freeze (ρ := sng bf _) (by (repeat (first | exact .here | apply Take.there)); first | done | fail) ?_
    refine jk_nil ?_
    refine jk_block ?_
    refine jk_range (gf := 67) (cap := [.pointer (some ⟨bx, 0, none⟩), .pointer (some ⟨bf, 0, none⟩)]) (ps := [21, 22]) (X := Value × PH) rfl Try.func67 rfl rfl
      (parts_iter ρ bx bf _ f fr to hv2 hA hlen hsp.1 hsp.2.1 hsp.2.2) ?_
      (fun i x => OwnS 24 2 x.1 (lowP lim ((parts f fr to).take i)).length ((lowP lim ((parts f fr to).take i)).flatMap encS) x.2)
      (fun x => [sng b8 (.cells #[x.1] 35 (0, 0)), x.2])
      (fun _ _ => False) (.slice none 0 0, emp) rfl (by (repeat (first | exact Takes.nil | (apply Takes.cons; exact (by (repeat (first | exact .here | apply Take.there)); first | done | fail)))); first | done | fail) (OwnS.nil _ _) ?_ ?_ ?_
    · intro σ hσ
      simp only [List.mem_cons, List.not_mem_nil, or_false] at hσ ⊢
      rcases hσ with h | h | h <;> simp [h]
    · rintro l r i ⟨u, σ⟩ vs hvs2 hI hps has hbd hst hpe hfr
      obtain ⟨st, pe, fnn, tm, prm, asg, bdy, df⟩ := r
      simp only at hps has hbd hst hpe hfr hI
      subst hps has hbd hst hpe
      rw [List.getElem?_map] at hvs2
      obtain ⟨⟨⟨p1, p2⟩, p3⟩, hp, rfl⟩ := Option.map_eq_some_iff.1 hvs2
      have hlt := lowP_take lim _ i _ hp
      have hln := lowP_len lim (parts f fr to) i
      have hil : i < (parts f fr to).length := (List.getElem?_eq_some_iff.1 hp).1
      generalize hoe : lowP lim ((parts f fr to).take i) = out at hlt hI hln
      obtain ⟨pu, cu, rfl⟩ := SlAt.cap hI.at
      refine yield_spec hfr rfl (by intro p hp; simp at hp; omega) (by (repeat (first | exact PutI.nil | apply PutI.cons)); first | done | fail) (fun N' β' => ?_)
      dsimp only
      refine jk_seq ?_
      refine jk_region ?_
      focus (refine' jk_op _ rfl rfl rfl _; rotate_left; (apply l_allocS; exact rfl); rintro _ _ ⟨b, rfl, rfl⟩)
      focus (refine' jk_op_none _ rfl rfl _; rotate_left; (apply l_storeS; exact rfl; exact rfl; exact (by (repeat (first | exact .here | apply Take.there)); first | done | fail); exact (by (repeat (first | exact (fun v hv => absurd hv List.not_mem_nil) | (refine List.forall_mem_cons.2 ⟨?_, ?_⟩; (focus (first | exact rfl | assumption))))); first | done | fail); exact rfl; exact rfl); rintro _ _ ⟨rfl, rfl⟩)
      refine jk_nil ?_
      refine jk_region ?_
      focus (refine' jk_q _ rfl rfl rfl _; rotate_left; (apply q_assign; exact rfl))
      refine jk_nil ?_
      revert b; intro b9
      refine jk_switch rfl rfl ?_
      refine jk_begin (by (repeat (first | exact .here | apply Take.there)); first | done | fail) rfl ?_
      by_cases hgt : lim < p3
      · have hb : bstep lim out ((p1, p2), p3) = out := by unfold bstep; rw [if_pos hgt]
        rw [hb] at hlt
        refine jk_block ?_
        refine jk_seq ?_
        refine jk_seq ?_
        refine jk_region ?_
        focus (refine' jk_q _ rfl rfl rfl _; rotate_left; (apply q_move; exact rfl))
        focus (refine' jk_q _ rfl rfl rfl _; rotate_left; (apply q_load; exact rfl; exact rfl; (first | exact cell_own (by (repeat (first | exact .here | apply Mem.there)); first | done | fail) rfl | exact cellR (by assumption) (by (repeat (first | exact .here | apply Mem.there)); first | done | fail) | exact cellH (by assumption) (by (repeat (first | exact .here | apply Mem.there)); first | done | fail) | exact cell_ints (by (repeat (first | exact .here | apply Mem.there)); first | done | fail) (by omega) | exact cell_bools (by assumption) (by (repeat (first | exact .here | apply Mem.there)); first | done | fail) | exact cell_intsR (by (repeat (first | exact .here | apply Mem.there)); first | done | fail) (by omega) | exact cell_boolsR (by assumption) (by (repeat (first | exact .here | apply Mem.there)); first | done | fail))))
        focus (refine' jk_q _ rfl rfl rfl _; rotate_left; (apply q_gt; exact rfl; exact rfl; omega))
        refine jk_nil ?_
        refine jk_if_t rfl ?_
        refine jk_exit rfl ?_
        exact jk_roundEnd (by (repeat (first | exact .here | apply Take.there)); first | done | fail) (by (repeat (first | exact rs_nil | (refine rs_cons ?_ ?_; (focus ((repeat (first | exact .here | apply Mem.there | apply Take.there)); first | done | fail))) | exact fun ρ hρ => hρ | (intro ρ hρ; repeat (first | exact hρ | refine List.mem_cons_of_mem _ ?_)))); first | done | fail) (by (repeat (first | exact Sel.nil | (apply Sel.cons; (focus ((repeat (first | exact .here | apply Mem.there | apply Take.there)); first | done | fail))))); first | done | fail) ⟨(.slice pu out.length cu, σ), .inl ⟨rfl, by dsimp only; rw [hlt]; exact hI, rfl⟩⟩
      cases hgl : out.getLast? with
      | none =>
        have hnil : out = [] := List.getLast?_eq_none_iff.1 hgl
        have hb : bstep lim out ((p1, p2), p3) = out ++ [(p1, p2)] := by unfold bstep; rw [if_neg hgt, hgl]
        rw [hb] at hlt
        have h00 : out.length = 0 := by rw [hnil]; rfl
        refine jk_block ?_
        refine jk_seq ?_
        refine jk_seq ?_
        refine jk_region ?_
        focus (refine' jk_q _ rfl rfl rfl _; rotate_left; (apply q_move; exact rfl))
        focus (refine' jk_q _ rfl rfl rfl _; rotate_left; (apply q_load; exact rfl; exact rfl; (first | exact cell_own (by (repeat (first | exact .here | apply Mem.there)); first | done | fail) rfl | exact cellR (by assumption) (by (repeat (first | exact .here | apply Mem.there)); first | done | fail) | exact cellH (by assumption) (by (repeat (first | exact .here | apply Mem.there)); first | done | fail) | exact cell_ints (by (repeat (first | exact .here | apply Mem.there)); first | done | fail) (by omega) | exact cell_bools (by assumption) (by (repeat (first | exact .here | apply Mem.there)); first | done | fail) | exact cell_intsR (by (repeat (first | exact .here | apply Mem.there)); first | done | fail) (by omega) | exact cell_boolsR (by assumption) (by (repeat (first | exact .here | apply Mem.there)); first | done | fail))))
        focus (refine' jk_q _ rfl rfl rfl _; rotate_left; (apply q_gtF; exact rfl; exact rfl; omega))
        refine jk_nil ?_
        refine jk_if_f rfl ?_
        refine jk_skip ?_
        refine jk_seq ?_
        refine jk_region ?_
        focus (refine' jk_q _ rfl rfl rfl _; rotate_left; (apply q_load; exact rfl; exact rfl; (first | exact cell_own (by (repeat (first | exact .here | apply Mem.there)); first | done | fail) rfl | exact cellR (by assumption) (by (repeat (first | exact .here | apply Mem.there)); first | done | fail) | exact cellH (by assumption) (by (repeat (first | exact .here | apply Mem.there)); first | done | fail) | exact cell_ints (by (repeat (first | exact .here | apply Mem.there)); first | done | fail) (by omega) | exact cell_bools (by assumption) (by (repeat (first | exact .here | apply Mem.there)); first | done | fail) | exact cell_intsR (by (repeat (first | exact .here | apply Mem.there)); first | done | fail) (by omega) | exact cell_boolsR (by assumption) (by (repeat (first | exact .here | apply Mem.there)); first | done | fail))))
        focus (refine' jk_q _ rfl rfl rfl _; rotate_left; (apply q_len; exact rfl; exact rfl))
        focus (refine' jk_q _ rfl rfl rfl _; rotate_left; (apply q_assign; exact rfl))
        refine jk_nil ?_
        refine jk_seq ?_
        refine jk_draw (.q 0 (.q 1 (.q 2 (.q 3 (.q 4 (.q 5 (.q 6 (.q 7 (.q 8 (.q 9 (.q 10 (.q 11 (.q 12 .nil))))))))))))) [] rfl (by kernel_rfl) Sel.nil ?_
        focus (refine' dj_q rfl _ rfl rfl rfl rfl _; rotate_left; (apply q_move; exact rfl))
        focus (refine' dj_q rfl _ rfl rfl rfl rfl _; rotate_left; (apply q_gtF; exact rfl; exact rfl; omega))
        focus (refine' dj_q rfl _ rfl rfl rfl rfl _; rotate_left; (apply q_move; exact rfl))
        refine dj_pass rfl rfl rfl rfl rfl ?_
        refine dj_pass rfl rfl rfl rfl rfl ?_
        refine dj_pass rfl rfl rfl rfl rfl ?_
        refine dj_pass rfl rfl rfl rfl rfl ?_
        refine dj_pass rfl rfl rfl rfl rfl ?_
        refine dj_pass rfl rfl rfl rfl rfl ?_
        refine dj_pass rfl rfl rfl rfl rfl ?_
        refine dj_pass rfl rfl rfl rfl rfl ?_
        refine dj_pass rfl rfl rfl rfl rfl ?_
        focus (refine' dj_q rfl _ rfl rfl rfl rfl _; rotate_left; (apply q_pick_f; exact rfl; exact rfl))
        refine dj_end ?_
        refine jk_if_f rfl ?_
        refine jk_region ?_
        focus (refine' jk_q _ rfl rfl rfl _; rotate_left; (apply q_load; exact rfl; exact rfl; (first | exact cell_own (by (repeat (first | exact .here | apply Mem.there)); first | done | fail) rfl | exact cellR (by assumption) (by (repeat (first | exact .here | apply Mem.there)); first | done | fail) | exact cellH (by assumption) (by (repeat (first | exact .here | apply Mem.there)); first | done | fail) | exact cell_ints (by (repeat (first | exact .here | apply Mem.there)); first | done | fail) (by omega) | exact cell_bools (by assumption) (by (repeat (first | exact .here | apply Mem.there)); first | done | fail) | exact cell_intsR (by (repeat (first | exact .here | apply Mem.there)); first | done | fail) (by omega) | exact cell_boolsR (by assumption) (by (repeat (first | exact .here | apply Mem.there)); first | done | fail))))
        focus (refine' jk_q _ rfl rfl rfl _; rotate_left; (apply q_loadS; exact rfl; exact rfl; (first | exact cells_own (by (repeat (first | exact .here | apply Mem.there)); first | done | fail) | exact cellsR (by assumption) (by (repeat (first | exact .here | apply Mem.there)); first | done | fail) | exact cellsH (by assumption) (by (repeat (first | exact .here | apply Mem.there)); first | done | fail)); exact rfl))
        focus (refine' jk_op _ rfl rfl rfl _; rotate_left; (apply l_buildSlice; exact rfl; exact rfl; exact rfl; exact rfl; exact rfl; exact (by (repeat (first | exact (fun v hv => absurd hv List.not_mem_nil) | (refine List.forall_mem_cons.2 ⟨?_, ?_⟩; (focus (first | exact rfl | assumption))))); first | done | fail); exact (by (repeat (first | exact Flat.nil | apply Flat.one rfl | apply Flat.agg2 | apply Flat.agg3 | apply Flat.agg1 | apply Flat.agg4 | apply Flat.agg5)); first | done | fail); exact rfl); rintro _ _ ⟨b, rfl, rfl⟩)
        refine jk_op (l_append (by_ := 16) (s := 2) (news := [int p1, int p2]) rfl rfl rfl rfl rfl rfl rfl hI (by (repeat (first | exact .here | apply Take.there)); first | done | fail) (cells_own (by (repeat (first | exact .here | apply Mem.there)); first | done | fail)) rfl (by (repeat (first | exact (fun v hv => absurd hv List.not_mem_nil) | (refine List.forall_mem_cons.2 ⟨?_, ?_⟩; (focus (first | exact rfl | assumption))))); first | done | fail) (by omega) (by simp only [maxLen]; omega) (by omega)) rfl rfl rfl ?_
        rintro u1 _ ⟨σ1, hO1, rfl⟩
        have hu1 : u1.oneCell' = true := by obtain ⟨p, c, rfl⟩ := SlAt.cap hO1.at; rfl
        focus (refine' jk_op_none _ rfl rfl _; rotate_left; (apply l_storeL; exact rfl; exact rfl; (first | exact rfl | assumption); exact rfl; exact (by (repeat (first | exact .here | apply Take.there)); first | done | fail); (focus (repeat (first | exact SetL.here | apply SetL.there)); done)); rintro _ _ ⟨rfl, rfl⟩)
        refine jk_nil ?_
        refine jk_blk ?_
        refine jk_roundEnd (by (repeat (first | exact .here | apply Take.there)); first | done | fail) (by (repeat (first | exact rs_nil | (refine rs_cons ?_ ?_; (focus ((repeat (first | exact .here | apply Mem.there | apply Take.there)); first | done | fail))) | exact fun ρ hρ => hρ | (intro ρ hρ; repeat (first | exact hρ | refine List.mem_cons_of_mem _ ?_)))); first | done | fail) (by (repeat (first | exact Sel.nil | (apply Sel.cons; (focus ((repeat (first | exact .here | apply Mem.there | apply Take.there)); first | done | fail))))); first | done | fail) ⟨(u1, σ1), .inl ⟨rfl, ?_, rfl⟩⟩
        dsimp only
        rw [hlt, List.length_append, List.flatMap_append]
        exact hO1
      | some qq =>
        obtain ⟨q1, q2⟩ := qq
        have hne : out ≠ [] := by intro h; subst h; simp at hgl
        have hpos : 0 < out.length := List.length_pos_iff.2 hne
        have hget := last_get hgl
        obtain ⟨j, hj⟩ : ∃ j, out.length = j + 1 := ⟨out.length - 1, by omega⟩
        have hje : out.length - 1 = j := by omega
        rw [hje] at hget
        rcases hI.block with ⟨_, h2, _⟩ | ⟨bu, capu, curu, eu, _, hcap, _⟩
        · exact absurd h2 hne
        simp only [Value.slice.injEq] at eu
        obtain ⟨rfl, _, rfl⟩ := eu
        have hS : SpAt σ _ out := hI.at
        obtain ⟨pm, cm, em, hrm⟩ := hS.val encS_len
        simp only [Value.slice.injEq] at em
        obtain ⟨rfl, _, rfl⟩ := em
        obtain ⟨bb, oo, eb, hrd⟩ := hrm j _ hget
        simp only [Option.some.injEq, Addr.mk.injEq, and_true] at eb
        obtain ⟨rfl, rfl⟩ := eb
        have g1 : rdc σ bu (0 + j * 2 + 1) = some (int q2) := hrd.get (j := 1) rfl
        by_cases hq : q2 = p1
        · have hb : bstep lim out ((p1, p2), p3) = out.dropLast ++ [(q1, p2)] := by unfold bstep; rw [if_neg hgt, hgl]; dsimp only; rw [if_pos hq]
          rw [hb] at hlt
          refine jk_block ?_
          refine jk_seq ?_
          refine jk_seq ?_
          refine jk_region ?_
          focus (refine' jk_q _ rfl rfl rfl _; rotate_left; (apply q_move; exact rfl))
          focus (refine' jk_q _ rfl rfl rfl _; rotate_left; (apply q_load; exact rfl; exact rfl; (first | exact cell_own (by (repeat (first | exact .here | apply Mem.there)); first | done | fail) rfl | exact cellR (by assumption) (by (repeat (first | exact .here | apply Mem.there)); first | done | fail) | exact cellH (by assumption) (by (repeat (first | exact .here | apply Mem.there)); first | done | fail) | exact cell_ints (by (repeat (first | exact .here | apply Mem.there)); first | done | fail) (by omega) | exact cell_bools (by assumption) (by (repeat (first | exact .here | apply Mem.there)); first | done | fail) | exact cell_intsR (by (repeat (first | exact .here | apply Mem.there)); first | done | fail) (by omega) | exact cell_boolsR (by assumption) (by (repeat (first | exact .here | apply Mem.there)); first | done | fail))))
          focus (refine' jk_q _ rfl rfl rfl _; rotate_left; (apply q_gtF; exact rfl; exact rfl; omega))
          refine jk_nil ?_
          refine jk_if_f rfl ?_
          refine jk_skip ?_
          refine jk_seq ?_
          refine jk_region ?_
          focus (refine' jk_q _ rfl rfl rfl _; rotate_left; (apply q_load; exact rfl; exact rfl; (first | exact cell_own (by (repeat (first | exact .here | apply Mem.there)); first | done | fail) rfl | exact cellR (by assumption) (by (repeat (first | exact .here | apply Mem.there)); first | done | fail) | exact cellH (by assumption) (by (repeat (first | exact .here | apply Mem.there)); first | done | fail) | exact cell_ints (by (repeat (first | exact .here | apply Mem.there)); first | done | fail) (by omega) | exact cell_bools (by assumption) (by (repeat (first | exact .here | apply Mem.there)); first | done | fail) | exact cell_intsR (by (repeat (first | exact .here | apply Mem.there)); first | done | fail) (by omega) | exact cell_boolsR (by assumption) (by (repeat (first | exact .here | apply Mem.there)); first | done | fail))))
          focus (refine' jk_q _ rfl rfl rfl _; rotate_left; (apply q_len; exact rfl; exact rfl))
          focus (refine' jk_q _ rfl rfl rfl _; rotate_left; (apply q_assign; exact rfl))
          refine jk_nil ?_
          refine jk_seq ?_
          refine jk_draw (.q 0 (.q 1 (.q 2 (.q 3 (.q 4 (.q 5 (.q 6 (.q 7 (.q 8 (.q 9 (.q 10 (.q 11 (.q 12 .nil))))))))))))) [] rfl (by kernel_rfl) Sel.nil ?_
          focus (refine' dj_q rfl _ rfl rfl rfl rfl _; rotate_left; (apply q_move; exact rfl))
          focus (refine' dj_q rfl _ rfl rfl rfl rfl _; rotate_left; (apply q_gt; exact rfl; exact rfl; omega))
          focus (refine' dj_q rfl _ rfl rfl rfl rfl _; rotate_left; (apply q_move; exact rfl))
          focus (refine' dj_q rfl _ rfl rfl rfl rfl _; rotate_left; (apply q_load; exact rfl; exact rfl; (first | exact cell_own (by (repeat (first | exact .here | apply Mem.there)); first | done | fail) rfl | exact cellR (by assumption) (by (repeat (first | exact .here | apply Mem.there)); first | done | fail) | exact cellH (by assumption) (by (repeat (first | exact .here | apply Mem.there)); first | done | fail) | exact cell_ints (by (repeat (first | exact .here | apply Mem.there)); first | done | fail) (by omega) | exact cell_bools (by assumption) (by (repeat (first | exact .here | apply Mem.there)); first | done | fail) | exact cell_intsR (by (repeat (first | exact .here | apply Mem.there)); first | done | fail) (by omega) | exact cell_boolsR (by assumption) (by (repeat (first | exact .here | apply Mem.there)); first | done | fail))))
          focus (refine' dj_q rfl _ rfl rfl rfl rfl _; rotate_left; (apply q_move; exact rfl))
          focus (refine' dj_q rfl _ rfl rfl rfl rfl _; rotate_left; (apply q_sub_nat; exact rfl; exact rfl; omega; omega))
          focus (refine' dj_q rfl _ rfl rfl rfl rfl _; rotate_left; (apply q_idxN; exact rfl; exact rfl; exact rfl; exact rfl; omega))
          focus (refine' dj_q rfl _ rfl rfl rfl rfl _; rotate_left; (apply q_fld; exact rfl; exact rfl))
          focus ((rw [hje]))
          focus (refine' dj_q rfl _ rfl rfl rfl rfl _; rotate_left; (apply q_load; exact rfl; exact rfl; (first | exact cell_own (by (repeat (first | exact .here | apply Mem.there)); first | done | fail) rfl | exact cellR (by assumption) (by (repeat (first | exact .here | apply Mem.there)); first | done | fail) | exact cellH (by assumption) (by (repeat (first | exact .here | apply Mem.there)); first | done | fail) | exact cell_ints (by (repeat (first | exact .here | apply Mem.there)); first | done | fail) (by omega) | exact cell_bools (by assumption) (by (repeat (first | exact .here | apply Mem.there)); first | done | fail) | exact cell_intsR (by (repeat (first | exact .here | apply Mem.there)); first | done | fail) (by omega) | exact cell_boolsR (by assumption) (by (repeat (first | exact .here | apply Mem.there)); first | done | fail))))
          focus (refine' dj_q rfl _ rfl rfl rfl rfl _; rotate_left; (apply q_fld0; exact rfl; exact rfl))
          focus (refine' dj_q rfl _ rfl rfl rfl rfl _; rotate_left; (apply q_load; exact rfl; exact rfl; (first | exact cell_own (by (repeat (first | exact .here | apply Mem.there)); first | done | fail) rfl | exact cellR (by assumption) (by (repeat (first | exact .here | apply Mem.there)); first | done | fail) | exact cellH (by assumption) (by (repeat (first | exact .here | apply Mem.there)); first | done | fail) | exact cell_ints (by (repeat (first | exact .here | apply Mem.there)); first | done | fail) (by omega) | exact cell_bools (by assumption) (by (repeat (first | exact .here | apply Mem.there)); first | done | fail) | exact cell_intsR (by (repeat (first | exact .here | apply Mem.there)); first | done | fail) (by omega) | exact cell_boolsR (by assumption) (by (repeat (first | exact .here | apply Mem.there)); first | done | fail))))
          focus (refine' dj_q rfl _ rfl rfl rfl rfl _; rotate_left; (apply q_eq; exact rfl; exact rfl; omega))
          focus (refine' dj_q rfl _ rfl rfl rfl rfl _; rotate_left; (apply q_pick_t; exact rfl; exact rfl))
          refine dj_end ?_
          refine jk_if_t rfl ?_
          refine jk_region ?_
          focus (refine' jk_q _ rfl rfl rfl _; rotate_left; (apply q_load; exact rfl; exact rfl; (first | exact cell_own (by (repeat (first | exact .here | apply Mem.there)); first | done | fail) rfl | exact cellR (by assumption) (by (repeat (first | exact .here | apply Mem.there)); first | done | fail) | exact cellH (by assumption) (by (repeat (first | exact .here | apply Mem.there)); first | done | fail) | exact cell_ints (by (repeat (first | exact .here | apply Mem.there)); first | done | fail) (by omega) | exact cell_bools (by assumption) (by (repeat (first | exact .here | apply Mem.there)); first | done | fail) | exact cell_intsR (by (repeat (first | exact .here | apply Mem.there)); first | done | fail) (by omega) | exact cell_boolsR (by assumption) (by (repeat (first | exact .here | apply Mem.there)); first | done | fail))))
          focus (refine' jk_q _ rfl rfl rfl _; rotate_left; (apply q_move; exact rfl))
          focus (refine' jk_q _ rfl rfl rfl _; rotate_left; (apply q_sub_nat; exact rfl; exact rfl; omega; omega))
          focus (refine' jk_q _ rfl rfl rfl _; rotate_left; (apply q_fld0; exact rfl; exact rfl))
          focus (refine' jk_q _ rfl rfl rfl _; rotate_left; (apply q_load; exact rfl; exact rfl; (first | exact cell_own (by (repeat (first | exact .here | apply Mem.there)); first | done | fail) rfl | exact cellR (by assumption) (by (repeat (first | exact .here | apply Mem.there)); first | done | fail) | exact cellH (by assumption) (by (repeat (first | exact .here | apply Mem.there)); first | done | fail) | exact cell_ints (by (repeat (first | exact .here | apply Mem.there)); first | done | fail) (by omega) | exact cell_bools (by assumption) (by (repeat (first | exact .here | apply Mem.there)); first | done | fail) | exact cell_intsR (by (repeat (first | exact .here | apply Mem.there)); first | done | fail) (by omega) | exact cell_boolsR (by assumption) (by (repeat (first | exact .here | apply Mem.there)); first | done | fail))))
          focus (refine' jk_q _ rfl rfl rfl _; rotate_left; (apply q_idxN; exact rfl; exact rfl; exact rfl; exact rfl; omega))
          focus (refine' jk_q _ rfl rfl rfl _; rotate_left; (apply q_fld; exact rfl; exact rfl))
          focus ((rw [hje]))
          refine jk_op_none (l_storeF encS_len (s := 2) j 1 (q1, p2) hI rfl (by simp; rfl) (by decide) hget rfl rfl rfl rfl (by (repeat (first | exact .here | apply Take.there)); first | done | fail)) rfl rfl ?_
          rintro _ _ ⟨rfl, σ1, hO1, rfl⟩
          refine jk_nil ?_
          refine jk_blk ?_
          refine jk_roundEnd (by (repeat (first | exact .here | apply Take.there)); first | done | fail) (by (repeat (first | exact rs_nil | (refine rs_cons ?_ ?_; (focus ((repeat (first | exact .here | apply Mem.there | apply Take.there)); first | done | fail))) | exact fun ρ hρ => hρ | (intro ρ hρ; repeat (first | exact hρ | refine List.mem_cons_of_mem _ ?_)))); first | done | fail) (by (repeat (first | exact Sel.nil | (apply Sel.cons; (focus ((repeat (first | exact .here | apply Mem.there | apply Take.there)); first | done | fail))))); first | done | fail) ⟨(.slice (some ⟨bu, 0, none⟩) out.length cu, σ1), .inl ⟨rfl, ?_, rfl⟩⟩
          dsimp only
          rw [hlt, ← set_last hne, hje]
          simpa using hO1
        · have hb : bstep lim out ((p1, p2), p3) = out ++ [(p1, p2)] := by unfold bstep; rw [if_neg hgt, hgl]; dsimp only; rw [if_neg hq]
          rw [hb] at hlt
          refine jk_block ?_
          refine jk_seq ?_
          refine jk_seq ?_
          refine jk_region ?_
          focus (refine' jk_q _ rfl rfl rfl _; rotate_left; (apply q_move; exact rfl))
          focus (refine' jk_q _ rfl rfl rfl _; rotate_left; (apply q_load; exact rfl; exact rfl; (first | exact cell_own (by (repeat (first | exact .here | apply Mem.there)); first | done | fail) rfl | exact cellR (by assumption) (by (repeat (first | exact .here | apply Mem.there)); first | done | fail) | exact cellH (by assumption) (by (repeat (first | exact .here | apply Mem.there)); first | done | fail) | exact cell_ints (by (repeat (first | exact .here | apply Mem.there)); first | done | fail) (by omega) | exact cell_bools (by assumption) (by (repeat (first | exact .here | apply Mem.there)); first | done | fail) | exact cell_intsR (by (repeat (first | exact .here | apply Mem.there)); first | done | fail) (by omega) | exact cell_boolsR (by assumption) (by (repeat (first | exact .here | apply Mem.there)); first | done | fail))))
          focus (refine' jk_q _ rfl rfl rfl _; rotate_left; (apply q_gtF; exact rfl; exact rfl; omega))
          refine jk_nil ?_
          refine jk_if_f rfl ?_
          refine jk_skip ?_
          refine jk_seq ?_
          refine jk_region ?_
          focus (refine' jk_q _ rfl rfl rfl _; rotate_left; (apply q_load; exact rfl; exact rfl; (first | exact cell_own (by (repeat (first | exact .here | apply Mem.there)); first | done | fail) rfl | exact cellR (by assumption) (by (repeat (first | exact .here | apply Mem.there)); first | done | fail) | exact cellH (by assumption) (by (repeat (first | exact .here | apply Mem.there)); first | done | fail) | exact cell_ints (by (repeat (first | exact .here | apply Mem.there)); first | done | fail) (by omega) | exact cell_bools (by assumption) (by (repeat (first | exact .here | apply Mem.there)); first | done | fail) | exact cell_intsR (by (repeat (first | exact .here | apply Mem.there)); first | done | fail) (by omega) | exact cell_boolsR (by assumption) (by (repeat (first | exact .here | apply Mem.there)); first | done | fail))))
          focus (refine' jk_q _ rfl rfl rfl _; rotate_left; (apply q_len; exact rfl; exact rfl))
          focus (refine' jk_q _ rfl rfl rfl _; rotate_left; (apply q_assign; exact rfl))
          refine jk_nil ?_
          refine jk_seq ?_
          refine jk_draw (.q 0 (.q 1 (.q 2 (.q 3 (.q 4 (.q 5 (.q 6 (.q 7 (.q 8 (.q 9 (.q 10 (.q 11 (.q 12 .nil))))))))))))) [] rfl (by kernel_rfl) Sel.nil ?_
          focus (refine' dj_q rfl _ rfl rfl rfl rfl _; rotate_left; (apply q_move; exact rfl))
          focus (refine' dj_q rfl _ rfl rfl rfl rfl _; rotate_left; (apply q_gt; exact rfl; exact rfl; omega))
          focus (refine' dj_q rfl _ rfl rfl rfl rfl _; rotate_left; (apply q_move; exact rfl))
          focus (refine' dj_q rfl _ rfl rfl rfl rfl _; rotate_left; (apply q_load; exact rfl; exact rfl; (first | exact cell_own (by (repeat (first | exact .here | apply Mem.there)); first | done | fail) rfl | exact cellR (by assumption) (by (repeat (first | exact .here | apply Mem.there)); first | done | fail) | exact cellH (by assumption) (by (repeat (first | exact .here | apply Mem.there)); first | done | fail) | exact cell_ints (by (repeat (first | exact .here | apply Mem.there)); first | done | fail) (by omega) | exact cell_bools (by assumption) (by (repeat (first | exact .here | apply Mem.there)); first | done | fail) | exact cell_intsR (by (repeat (first | exact .here | apply Mem.there)); first | done | fail) (by omega) | exact cell_boolsR (by assumption) (by (repeat (first | exact .here | apply Mem.there)); first | done | fail))))
          focus (refine' dj_q rfl _ rfl rfl rfl rfl _; rotate_left; (apply q_move; exact rfl))
          focus (refine' dj_q rfl _ rfl rfl rfl rfl _; rotate_left; (apply q_sub_nat; exact rfl; exact rfl; omega; omega))
          focus (refine' dj_q rfl _ rfl rfl rfl rfl _; rotate_left; (apply q_idxN; exact rfl; exact rfl; exact rfl; exact rfl; omega))
          focus (refine' dj_q rfl _ rfl rfl rfl rfl _; rotate_left; (apply q_fld; exact rfl; exact rfl))
          focus ((rw [hje]))
          focus (refine' dj_q rfl _ rfl rfl rfl rfl _; rotate_left; (apply q_load; exact rfl; exact rfl; (first | exact cell_own (by (repeat (first | exact .here | apply Mem.there)); first | done | fail) rfl | exact cellR (by assumption) (by (repeat (first | exact .here | apply Mem.there)); first | done | fail) | exact cellH (by assumption) (by (repeat (first | exact .here | apply Mem.there)); first | done | fail) | exact cell_ints (by (repeat (first | exact .here | apply Mem.there)); first | done | fail) (by omega) | exact cell_bools (by assumption) (by (repeat (first | exact .here | apply Mem.there)); first | done | fail) | exact cell_intsR (by (repeat (first | exact .here | apply Mem.there)); first | done | fail) (by omega) | exact cell_boolsR (by assumption) (by (repeat (first | exact .here | apply Mem.there)); first | done | fail))))
          focus (refine' dj_q rfl _ rfl rfl rfl rfl _; rotate_left; (apply q_fld0; exact rfl; exact rfl))
          focus (refine' dj_q rfl _ rfl rfl rfl rfl _; rotate_left; (apply q_load; exact rfl; exact rfl; (first | exact cell_own (by (repeat (first | exact .here | apply Mem.there)); first | done | fail) rfl | exact cellR (by assumption) (by (repeat (first | exact .here | apply Mem.there)); first | done | fail) | exact cellH (by assumption) (by (repeat (first | exact .here | apply Mem.there)); first | done | fail) | exact cell_ints (by (repeat (first | exact .here | apply Mem.there)); first | done | fail) (by omega) | exact cell_bools (by assumption) (by (repeat (first | exact .here | apply Mem.there)); first | done | fail) | exact cell_intsR (by (repeat (first | exact .here | apply Mem.there)); first | done | fail) (by omega) | exact cell_boolsR (by assumption) (by (repeat (first | exact .here | apply Mem.there)); first | done | fail))))
          focus (refine' dj_q rfl _ rfl rfl rfl rfl _; rotate_left; (apply q_eqF; exact rfl; exact rfl; omega))
          focus (refine' dj_q rfl _ rfl rfl rfl rfl _; rotate_left; (apply q_pick_t; exact rfl; exact rfl))
          refine dj_end ?_
          refine jk_if_f rfl ?_
          refine jk_region ?_
          focus (refine' jk_q _ rfl rfl rfl _; rotate_left; (apply q_load; exact rfl; exact rfl; (first | exact cell_own (by (repeat (first | exact .here | apply Mem.there)); first | done | fail) rfl | exact cellR (by assumption) (by (repeat (first | exact .here | apply Mem.there)); first | done | fail) | exact cellH (by assumption) (by (repeat (first | exact .here | apply Mem.there)); first | done | fail) | exact cell_ints (by (repeat (first | exact .here | apply Mem.there)); first | done | fail) (by omega) | exact cell_bools (by assumption) (by (repeat (first | exact .here | apply Mem.there)); first | done | fail) | exact cell_intsR (by (repeat (first | exact .here | apply Mem.there)); first | done | fail) (by omega) | exact cell_boolsR (by assumption) (by (repeat (first | exact .here | apply Mem.there)); first | done | fail))))
          focus (refine' jk_q _ rfl rfl rfl _; rotate_left; (apply q_loadS; exact rfl; exact rfl; (first | exact cells_own (by (repeat (first | exact .here | apply Mem.there)); first | done | fail) | exact cellsR (by assumption) (by (repeat (first | exact .here | apply Mem.there)); first | done | fail) | exact cellsH (by assumption) (by (repeat (first | exact .here | apply Mem.there)); first | done | fail)); exact rfl))
          focus (refine' jk_op _ rfl rfl rfl _; rotate_left; (apply l_buildSlice; exact rfl; exact rfl; exact rfl; exact rfl; exact rfl; exact (by (repeat (first | exact (fun v hv => absurd hv List.not_mem_nil) | (refine List.forall_mem_cons.2 ⟨?_, ?_⟩; (focus (first | exact rfl | assumption))))); first | done | fail); exact (by (repeat (first | exact Flat.nil | apply Flat.one rfl | apply Flat.agg2 | apply Flat.agg3 | apply Flat.agg1 | apply Flat.agg4 | apply Flat.agg5)); first | done | fail); exact rfl); rintro _ _ ⟨b, rfl, rfl⟩)
          refine jk_op (l_append (by_ := 16) (s := 2) (news := [int p1, int p2]) rfl rfl rfl rfl rfl rfl rfl hI (by (repeat (first | exact .here | apply Take.there)); first | done | fail) (cells_own (by (repeat (first | exact .here | apply Mem.there)); first | done | fail)) rfl (by (repeat (first | exact (fun v hv => absurd hv List.not_mem_nil) | (refine List.forall_mem_cons.2 ⟨?_, ?_⟩; (focus (first | exact rfl | assumption))))); first | done | fail) (by omega) (by simp only [maxLen]; omega) (by omega)) rfl rfl rfl ?_
          rintro u1 _ ⟨σ1, hO1, rfl⟩
          have hu1 : u1.oneCell' = true := by obtain ⟨p, c, rfl⟩ := SlAt.cap hO1.at; rfl
          focus (refine' jk_op_none _ rfl rfl _; rotate_left; (apply l_storeL; exact rfl; exact rfl; (first | exact rfl | assumption); exact rfl; exact (by (repeat (first | exact .here | apply Take.there)); first | done | fail); (focus (repeat (first | exact SetL.here | apply SetL.there)); done)); rintro _ _ ⟨rfl, rfl⟩)
          refine jk_nil ?_
          refine jk_blk ?_
          refine jk_roundEnd (by (repeat (first | exact .here | apply Take.there)); first | done | fail) (by (repeat (first | exact rs_nil | (refine rs_cons ?_ ?_; (focus ((repeat (first | exact .here | apply Mem.there | apply Take.there)); first | done | fail))) | exact fun ρ hρ => hρ | (intro ρ hρ; repeat (first | exact hρ | refine List.mem_cons_of_mem _ ?_)))); first | done | fail) (by (repeat (first | exact Sel.nil | (apply Sel.cons; (focus ((repeat (first | exact .here | apply Mem.there | apply Take.there)); first | done | fail))))); first | done | fail) ⟨(u1, σ1), .inl ⟨rfl, ?_, rfl⟩⟩
          dsimp only
          rw [hlt, List.length_append, List.flatMap_append]
          exact hO1
    · rintro b2 ⟨u, σ⟩ hI
      rw [List.length_map, List.take_length] at hI
      dsimp only at hI ⊢
      refine jk_blk ?_
      refine jk_seq ?_
      refine jk_region ?_
      focus (refine' jk_q _ rfl rfl rfl _; rotate_left; (apply q_load; exact rfl; exact rfl; (first | exact cell_own (by (repeat (first | exact .here | apply Mem.there)); first | done | fail) rfl | exact cellR (by assumption) (by (repeat (first | exact .here | apply Mem.there)); first | done | fail) | exact cellH (by assumption) (by (repeat (first | exact .here | apply Mem.there)); first | done | fail) | exact cell_ints (by (repeat (first | exact .here | apply Mem.there)); first | done | fail) (by omega) | exact cell_bools (by assumption) (by (repeat (first | exact .here | apply Mem.there)); first | done | fail) | exact cell_intsR (by (repeat (first | exact .here | apply Mem.there)); first | done | fail) (by omega) | exact cell_boolsR (by assumption) (by (repeat (first | exact .here | apply Mem.there)); first | done | fail))))
      focus (refine' jk_q _ rfl rfl rfl _; rotate_left; (apply q_assign; exact rfl))
      focus (refine' jk_q _ rfl rfl rfl _; rotate_left; (apply q_assign; exact rfl))
      refine jk_nil ?_
      exact jk_retM (Marks.cons (by (repeat (first | exact .here | apply Take.there)); first | done | fail) .nil) (res2 rfl rfl rfl) (by (repeat (first | exact rs_nil | (refine rs_cons ?_ ?_; (focus ((repeat (first | exact .here | apply Mem.there | apply Take.there)); first | done | fail))) | exact fun ρ hρ => hρ | (intro ρ hρ; repeat (first | exact hρ | refine List.mem_cons_of_mem _ ?_)))); first | done | fail) (by (repeat (first | exact Sel.nil | (apply Sel.cons; (focus ((repeat (first | exact .here | apply Mem.there | apply Take.there)); first | done | fail))))); first | done | fail) ⟨σ, ⟨u, rfl, hI⟩, rfl⟩
    · rintro _ _ _ h; exact h.elim
end Go.Proofs.Ytbcibkopcbhgfaa
