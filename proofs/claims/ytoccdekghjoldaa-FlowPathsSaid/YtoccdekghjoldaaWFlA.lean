/- Check, ends and the like: what they answer. -/
import Derived.Test.YtoccdekghjoldaaWMbData
import Derived.Test.YtoccdekghjoldaaWMbFlowDefs
import Derived.Test.YtoccdekghjoldaaRows
set_option linter.all false
namespace Go.Proofs.Ytoccdekghjoldaa
open Go.Eng Go.Flow
set_option maxRecDepth 100000
set_option maxHeartbeats 4000000

def encA (a : Arc) : List Value := [int a.f, int a.t, int a.c]
theorem encA_len (a : Arc) : (encA a).length = 3 := rfl
abbrev ArcsAt (ρ : PH) (v : Value) (l : List Arc) : Prop := SlE encA 3 ρ v l
theorem arcRow {ρ : PH} {p : Option Addr} {l : List Arc} (h : RowsE encA 3 ρ p l) {i : Nat} {x : Arc} (hx : l[i]? = some x) :
    ∃ b o, p = some ⟨b, o, none⟩ ∧ RdN ρ b (o + i * 3) [int x.f, int x.t, int x.c] ∧ rdc ρ b (o + i * 3) = some (int x.f) ∧ rdc ρ b (o + i * 3 + 1) = some (int x.t) ∧ rdc ρ b (o + i * 3 + 2) = some (int x.c) := by
  obtain ⟨b, o, e, hr⟩ := h i x hx
  exact ⟨b, o, e, hr, hr.get0, hr.get (j := 1) rfl, hr.get (j := 2) rfl⟩

theorem inside_spec (k n : Int) : Ans Try.prog (fv 43) [int k, int n] [] (fun v => (v = .bool true ∧ 0 ≤ k ∧ k < n) ∨ (v = .bool false ∧ (k < 0 ∨ n ≤ k))) := by
  refine spec_in (cap := []) Try.func43 rfl rfl Try.ntmps43 rfl (by (repeat (first | exact EnvA.nil EnvI.nil | apply EnvA.cons | apply EnvA.nil | exact EnvI.nil | apply EnvI.cons)); first | done | fail) (fun N β => ?_)
  repeat' (first
    | (refine' jk_q _ rfl rfl rfl _; rotate_left; (first | (first | (apply q_move; exact rfl) | (apply q_assign; exact rfl) | (apply q_extract; exact rfl; exact rfl) | (apply q_load; exact rfl; exact rfl; (first | exact cell_own (by (repeat (first | exact .here | apply Mem.there)); first | done | fail) rfl | exact cellR (by assumption) (by (repeat (first | exact .here | apply Mem.there)); first | done | fail) | exact cellH (by assumption) (by (repeat (first | exact .here | apply Mem.there)); first | done | fail) | exact cell_ints (by (repeat (first | exact .here | apply Mem.there)); first | done | fail) (by omega) | exact cell_bools (by assumption) (by (repeat (first | exact .here | apply Mem.there)); first | done | fail) | exact cell_intsR (by (repeat (first | exact .here | apply Mem.there)); first | done | fail) (by omega) | exact cell_boolsR (by assumption) (by (repeat (first | exact .here | apply Mem.there)); first | done | fail))) | (apply q_fld0; exact rfl; exact rfl) | (apply q_fldZ; exact rfl; exact rfl) | (apply q_fld; exact rfl; exact rfl) | (apply q_idx0; exact rfl; exact rfl; exact rfl; exact rfl; omega) | (apply q_idx1; exact rfl; exact rfl; exact rfl; exact rfl; omega) | (apply q_idxN; exact rfl; exact rfl; exact rfl; exact rfl; omega) | (apply q_idxZ; exact rfl; exact rfl; exact rfl; exact rfl; omega) | (apply q_pick_t; exact rfl; exact rfl)) | (first | (apply q_pick_f; exact rfl; exact rfl) | (apply q_len; exact rfl; exact rfl) | (apply q_not; exact rfl) | (apply q_nilCheck; exact rfl) | (apply q_nilCheckF; exact rfl) | (apply q_nilCheckY; exact rfl) | (apply q_inc; exact rfl; exact rfl; omega) | (apply q_lt; exact rfl; exact rfl; omega) | (apply q_ltF; exact rfl; exact rfl; omega) | (apply q_eq; exact rfl; exact rfl; omega) | (apply q_eqF; exact rfl; exact rfl; omega) | (apply q_ne; exact rfl; exact rfl; omega)) | (first | (apply q_neF; exact rfl; exact rfl; omega) | (apply q_gt; exact rfl; exact rfl; omega) | (apply q_gtF; exact rfl; exact rfl; omega) | (apply q_le; exact rfl; exact rfl; omega) | (apply q_leF; exact rfl; exact rfl; omega) | (apply q_ge; exact rfl; exact rfl; omega) | (apply q_geF; exact rfl; exact rfl; omega) | (apply q_sub_nat; exact rfl; exact rfl; omega; omega) | (apply q_add; exact rfl; exact rfl; exact ⟨by omega, by omega⟩) | (apply q_sub; exact rfl; exact rfl; exact ⟨by omega, by omega⟩) | (apply q_dbl; exact rfl; exact rfl; omega) | (apply q_mul; exact rfl; exact rfl; exact ⟨by omega, by omega⟩)) | (first | (apply q_half; exact rfl; exact rfl; omega) | (apply q_par; exact rfl; exact rfl) | (apply q_quo; exact rfl; exact rfl; omega; omega; omega) | (apply q_rem; exact rfl; exact rfl; omega; omega) | (apply q_loadS; exact rfl; exact rfl; (first | exact cells_own (by (repeat (first | exact .here | apply Mem.there)); first | done | fail) | exact cellsR (by assumption) (by (repeat (first | exact .here | apply Mem.there)); first | done | fail) | exact cellsH (by assumption) (by (repeat (first | exact .here | apply Mem.there)); first | done | fail)); exact rfl) | (apply q_min; exact rfl; exact rfl) | (apply q_max; exact rfl; exact rfl) | (apply q_makeFunc; exact rfl; exact rfl) | (apply q_field; exact rfl; exact rfl) | (apply q_build; exact rfl; exact rfl; exact (by (repeat (first | exact Bld.nil | apply Bld.put rfl rfl rfl | apply Bld.keep rfl)); first | done | fail)) | (apply q_neg; exact rfl; exact ⟨by omega, by omega⟩))))
    | refine jk_seq ?_
    | refine jk_region ?_
    | refine jk_nil ?_
    | refine jk_block ?_
    | refine jk_blk ?_
    | refine jk_skip ?_
    | refine jk_if_t rfl ?_
    | refine jk_if_f rfl ?_
    | refine jk_exit rfl ?_
    | refine jk_pass rfl rfl rfl ?_
    | (refine' jk_op _ rfl rfl rfl _; rotate_left; (first | (apply l_makeV; exact rfl; exact rfl; exact rfl; exact rfl; exact rfl; exact rfl; omega; omega) | (apply l_makeI; exact rfl; exact rfl; exact rfl; exact rfl; exact rfl; exact rfl; omega; omega) | (apply l_makeB; exact rfl; exact rfl; exact rfl; exact rfl; exact rfl; exact rfl; omega; omega) | (apply l_allocS; exact rfl) | (apply l_alloc1; exact rfl; exact rfl) | (apply l_buildSlice; exact rfl; exact rfl; exact rfl; exact rfl; exact rfl; exact (by (repeat (first | exact (fun v hv => absurd hv List.not_mem_nil) | (refine List.forall_mem_cons.2 ⟨?_, ?_⟩; (focus (first | exact rfl | assumption))))); first | done | fail); exact (by (repeat (first | exact Flat.nil | apply Flat.one rfl | apply Flat.agg2 | apply Flat.agg3 | apply Flat.agg1 | apply Flat.agg4 | apply Flat.agg5)); first | done | fail); exact rfl) | (apply l_boxS; exact rfl) | (apply l_box1; exact rfl; exact rfl)); rintro _ _ ⟨b, rfl, rfl⟩)
    | (refine' jk_op_none _ rfl rfl _; rotate_left; (first | (apply l_storeI; exact rfl; exact rfl; exact rfl; exact (by (repeat (first | exact .here | apply Take.there)); first | done | fail); omega) | (apply l_storeB; exact rfl; exact rfl; exact rfl; exact (by (repeat (first | exact .here | apply Take.there)); first | done | fail); omega) | (apply l_storeS; exact rfl; exact rfl; exact (by (repeat (first | exact .here | apply Take.there)); first | done | fail); exact (by (repeat (first | exact (fun v hv => absurd hv List.not_mem_nil) | (refine List.forall_mem_cons.2 ⟨?_, ?_⟩; (focus (first | exact rfl | assumption))))); first | done | fail); exact rfl; exact rfl) | (apply l_storeL; exact rfl; exact rfl; (first | exact rfl | assumption); exact rfl; exact (by (repeat (first | exact .here | apply Take.there)); first | done | fail); (focus (repeat (first | exact SetL.here | apply SetL.there)); done)) | (apply l_store; exact rfl; exact rfl; (first | exact rfl | assumption); exact rfl; exact (by (repeat (first | exact .here | apply Take.there)); first | done | fail); exact (by first | decide | (simp; done) | (simp; omega)))); rintro _ _ ⟨rfl, rfl⟩)
    | (refine jk_cmp rfl rfl (cmp_eq _ _) rfl rfl (fun h => ?_) (fun h => ?_))
    | (refine jk_cmp rfl rfl (cmp_ne _ _) rfl rfl (fun h => ?_) (fun h => ?_))
    | (refine jk_cmp rfl rfl (cmp_lt _ _) rfl rfl (fun h => ?_) (fun h => ?_))
    | (refine jk_cmp rfl rfl (cmp_le _ _) rfl rfl (fun h => ?_) (fun h => ?_))
    | (refine jk_cmp rfl rfl (cmp_gt _ _) rfl rfl (fun h => ?_) (fun h => ?_))
    | (refine jk_cmp rfl rfl (cmp_ge _ _) rfl rfl (fun h => ?_) (fun h => ?_))
    | (refine jk_if rfl (fun h => ?_) (fun h => ?_))
    | fail)
  all_goals refine jk_ret_any (res1 rfl rfl) (by (repeat (first | exact rs_nil | (refine rs_cons ?_ ?_; (focus ((repeat (first | exact .here | apply Mem.there | apply Take.there)); first | done | fail))) | exact fun ρ hρ => hρ | (intro ρ hρ; repeat (first | exact hρ | refine List.mem_cons_of_mem _ ?_)))); first | done | fail) (by (repeat (first | exact Sel.nil | (apply Sel.cons; (focus ((repeat (first | exact .here | apply Mem.there | apply Take.there)); first | done | fail))))); first | done | fail) ⟨rfl, ?_⟩
  · exact .inl ⟨rfl, by omega⟩
  · exact .inr ⟨rfl, by omega⟩
  · exact .inr ⟨rfl, by omega⟩

theorem ends_spec (n s t : Int) : Ans Try.prog (fv 33) [int n, int s, int t] [] (fun v => v = int (if okEnds n s t then 0 else 2)) := by
  refine spec_in (cap := []) Try.func33 rfl rfl Try.ntmps33 rfl (by (repeat (first | exact EnvA.nil EnvI.nil | apply EnvA.cons | apply EnvA.nil | exact EnvI.nil | apply EnvI.cons)); first | done | fail) (fun N β => ?_)
  repeat' (first
    | (refine' jk_q _ rfl rfl rfl _; rotate_left; (first | (first | (apply q_move; exact rfl) | (apply q_assign; exact rfl) | (apply q_extract; exact rfl; exact rfl) | (apply q_load; exact rfl; exact rfl; (first | exact cell_own (by (repeat (first | exact .here | apply Mem.there)); first | done | fail) rfl | exact cellR (by assumption) (by (repeat (first | exact .here | apply Mem.there)); first | done | fail) | exact cellH (by assumption) (by (repeat (first | exact .here | apply Mem.there)); first | done | fail) | exact cell_ints (by (repeat (first | exact .here | apply Mem.there)); first | done | fail) (by omega) | exact cell_bools (by assumption) (by (repeat (first | exact .here | apply Mem.there)); first | done | fail) | exact cell_intsR (by (repeat (first | exact .here | apply Mem.there)); first | done | fail) (by omega) | exact cell_boolsR (by assumption) (by (repeat (first | exact .here | apply Mem.there)); first | done | fail))) | (apply q_fld0; exact rfl; exact rfl) | (apply q_fldZ; exact rfl; exact rfl) | (apply q_fld; exact rfl; exact rfl) | (apply q_idx0; exact rfl; exact rfl; exact rfl; exact rfl; omega) | (apply q_idx1; exact rfl; exact rfl; exact rfl; exact rfl; omega) | (apply q_idxN; exact rfl; exact rfl; exact rfl; exact rfl; omega) | (apply q_idxZ; exact rfl; exact rfl; exact rfl; exact rfl; omega) | (apply q_pick_t; exact rfl; exact rfl)) | (first | (apply q_pick_f; exact rfl; exact rfl) | (apply q_len; exact rfl; exact rfl) | (apply q_not; exact rfl) | (apply q_nilCheck; exact rfl) | (apply q_nilCheckF; exact rfl) | (apply q_nilCheckY; exact rfl) | (apply q_inc; exact rfl; exact rfl; omega) | (apply q_lt; exact rfl; exact rfl; omega) | (apply q_ltF; exact rfl; exact rfl; omega) | (apply q_eq; exact rfl; exact rfl; omega) | (apply q_eqF; exact rfl; exact rfl; omega) | (apply q_ne; exact rfl; exact rfl; omega)) | (first | (apply q_neF; exact rfl; exact rfl; omega) | (apply q_gt; exact rfl; exact rfl; omega) | (apply q_gtF; exact rfl; exact rfl; omega) | (apply q_le; exact rfl; exact rfl; omega) | (apply q_leF; exact rfl; exact rfl; omega) | (apply q_ge; exact rfl; exact rfl; omega) | (apply q_geF; exact rfl; exact rfl; omega) | (apply q_sub_nat; exact rfl; exact rfl; omega; omega) | (apply q_add; exact rfl; exact rfl; exact ⟨by omega, by omega⟩) | (apply q_sub; exact rfl; exact rfl; exact ⟨by omega, by omega⟩) | (apply q_dbl; exact rfl; exact rfl; omega) | (apply q_mul; exact rfl; exact rfl; exact ⟨by omega, by omega⟩)) | (first | (apply q_half; exact rfl; exact rfl; omega) | (apply q_par; exact rfl; exact rfl) | (apply q_quo; exact rfl; exact rfl; omega; omega; omega) | (apply q_rem; exact rfl; exact rfl; omega; omega) | (apply q_loadS; exact rfl; exact rfl; (first | exact cells_own (by (repeat (first | exact .here | apply Mem.there)); first | done | fail) | exact cellsR (by assumption) (by (repeat (first | exact .here | apply Mem.there)); first | done | fail) | exact cellsH (by assumption) (by (repeat (first | exact .here | apply Mem.there)); first | done | fail)); exact rfl) | (apply q_min; exact rfl; exact rfl) | (apply q_max; exact rfl; exact rfl) | (apply q_makeFunc; exact rfl; exact rfl) | (apply q_field; exact rfl; exact rfl) | (apply q_build; exact rfl; exact rfl; exact (by (repeat (first | exact Bld.nil | apply Bld.put rfl rfl rfl | apply Bld.keep rfl)); first | done | fail)) | (apply q_neg; exact rfl; exact ⟨by omega, by omega⟩))))
    | refine jk_seq ?_
    | refine jk_region ?_
    | refine jk_nil ?_
    | refine jk_block ?_
    | refine jk_blk ?_
    | refine jk_skip ?_
    | refine jk_if_t rfl ?_
    | refine jk_if_f rfl ?_
    | refine jk_exit rfl ?_
    | refine jk_pass rfl rfl rfl ?_
    | (refine jk_call (inside_spec _ _) rfl rfl (by (repeat (first | exact RdOK.nil | (refine RdOK.consR ?_ ?_; (focus ((repeat (first | exact .here | apply Mem.there | apply Take.there)); first | done | fail))) | (refine RdOK.consH ?_ ?_; (focus ((repeat (first | exact .here | apply Mem.there | apply Take.there)); first | done | fail))) | exact (fun τ hτ => .inl (by simp [hτ])))); first | done | fail) rfl rfl ?_; rintro v (⟨rfl, h⟩ | ⟨rfl, h⟩))
    | (refine' jk_op _ rfl rfl rfl _; rotate_left; (first | (apply l_makeV; exact rfl; exact rfl; exact rfl; exact rfl; exact rfl; exact rfl; omega; omega) | (apply l_makeI; exact rfl; exact rfl; exact rfl; exact rfl; exact rfl; exact rfl; omega; omega) | (apply l_makeB; exact rfl; exact rfl; exact rfl; exact rfl; exact rfl; exact rfl; omega; omega) | (apply l_allocS; exact rfl) | (apply l_alloc1; exact rfl; exact rfl) | (apply l_buildSlice; exact rfl; exact rfl; exact rfl; exact rfl; exact rfl; exact (by (repeat (first | exact (fun v hv => absurd hv List.not_mem_nil) | (refine List.forall_mem_cons.2 ⟨?_, ?_⟩; (focus (first | exact rfl | assumption))))); first | done | fail); exact (by (repeat (first | exact Flat.nil | apply Flat.one rfl | apply Flat.agg2 | apply Flat.agg3 | apply Flat.agg1 | apply Flat.agg4 | apply Flat.agg5)); first | done | fail); exact rfl) | (apply l_boxS; exact rfl) | (apply l_box1; exact rfl; exact rfl)); rintro _ _ ⟨b, rfl, rfl⟩)
    | (refine' jk_op_none _ rfl rfl _; rotate_left; (first | (apply l_storeI; exact rfl; exact rfl; exact rfl; exact (by (repeat (first | exact .here | apply Take.there)); first | done | fail); omega) | (apply l_storeB; exact rfl; exact rfl; exact rfl; exact (by (repeat (first | exact .here | apply Take.there)); first | done | fail); omega) | (apply l_storeS; exact rfl; exact rfl; exact (by (repeat (first | exact .here | apply Take.there)); first | done | fail); exact (by (repeat (first | exact (fun v hv => absurd hv List.not_mem_nil) | (refine List.forall_mem_cons.2 ⟨?_, ?_⟩; (focus (first | exact rfl | assumption))))); first | done | fail); exact rfl; exact rfl) | (apply l_storeL; exact rfl; exact rfl; (first | exact rfl | assumption); exact rfl; exact (by (repeat (first | exact .here | apply Take.there)); first | done | fail); (focus (repeat (first | exact SetL.here | apply SetL.there)); done)) | (apply l_store; exact rfl; exact rfl; (first | exact rfl | assumption); exact rfl; exact (by (repeat (first | exact .here | apply Take.there)); first | done | fail); exact (by first | decide | (simp; done) | (simp; omega)))); rintro _ _ ⟨rfl, rfl⟩)
    | (refine jk_cmp rfl rfl (cmp_eq _ _) rfl rfl (fun h => ?_) (fun h => ?_))
    | (refine jk_cmp rfl rfl (cmp_ne _ _) rfl rfl (fun h => ?_) (fun h => ?_))
    | (refine jk_cmp rfl rfl (cmp_lt _ _) rfl rfl (fun h => ?_) (fun h => ?_))
    | (refine jk_cmp rfl rfl (cmp_le _ _) rfl rfl (fun h => ?_) (fun h => ?_))
    | (refine jk_cmp rfl rfl (cmp_gt _ _) rfl rfl (fun h => ?_) (fun h => ?_))
    | (refine jk_cmp rfl rfl (cmp_ge _ _) rfl rfl (fun h => ?_) (fun h => ?_))
    | (refine jk_if rfl (fun h => ?_) (fun h => ?_))
    | fail)
  all_goals refine jk_ret_any (res1 rfl rfl) (by (repeat (first | exact rs_nil | (refine rs_cons ?_ ?_; (focus ((repeat (first | exact .here | apply Mem.there | apply Take.there)); first | done | fail))) | exact fun ρ hρ => hρ | (intro ρ hρ; repeat (first | exact hρ | refine List.mem_cons_of_mem _ ?_)))); first | done | fail) (by (repeat (first | exact Sel.nil | (apply Sel.cons; (focus ((repeat (first | exact .here | apply Mem.there | apply Take.there)); first | done | fail))))); first | done | fail) ⟨rfl, ?_⟩
  all_goals first | rw [if_pos (by unfold okEnds; rw [decide_eq_true_eq]; omega)] | rw [if_neg (by unfold okEnds; rw [decide_eq_true_eq]; omega)]

theorem check1_spec (b : Nat) (T : TypeId) (n : Int) (a : Arc) : Ans Try.prog (.func (.func 42) #[] #[.pointer (some ⟨b, 0, none⟩)]) [.agg (encA a).toArray] [sng b (.cells #[int n] T (0, 0))] (fun v => v = .bool (!okArc n a)) := by
  refine spec_in (cap := [.pointer (some ⟨b, 0, none⟩)]) Try.func42 rfl rfl Try.ntmps42 rfl (by (repeat (first | exact EnvA.nil EnvI.nil | apply EnvA.cons | apply EnvA.nil | exact EnvI.nil | apply EnvI.cons)); first | done | fail) (fun N β => ?_)
  have hb : rdc (sng b (.cells #[int n] T (0, 0))) b 0 = some (int n) := by rw [rdc_sng]; rfl
  unfold encA
  repeat' (first
    | (refine' jk_q _ rfl rfl rfl _; rotate_left; (first | (first | (apply q_move; exact rfl) | (apply q_assign; exact rfl) | (apply q_extract; exact rfl; exact rfl) | (apply q_load; exact rfl; exact rfl; (first | exact cell_own (by (repeat (first | exact .here | apply Mem.there)); first | done | fail) rfl | exact cellR (by assumption) (by (repeat (first | exact .here | apply Mem.there)); first | done | fail) | exact cellH (by assumption) (by (repeat (first | exact .here | apply Mem.there)); first | done | fail) | exact cell_ints (by (repeat (first | exact .here | apply Mem.there)); first | done | fail) (by omega) | exact cell_bools (by assumption) (by (repeat (first | exact .here | apply Mem.there)); first | done | fail) | exact cell_intsR (by (repeat (first | exact .here | apply Mem.there)); first | done | fail) (by omega) | exact cell_boolsR (by assumption) (by (repeat (first | exact .here | apply Mem.there)); first | done | fail))) | (apply q_fld0; exact rfl; exact rfl) | (apply q_fldZ; exact rfl; exact rfl) | (apply q_fld; exact rfl; exact rfl) | (apply q_idx0; exact rfl; exact rfl; exact rfl; exact rfl; omega) | (apply q_idx1; exact rfl; exact rfl; exact rfl; exact rfl; omega) | (apply q_idxN; exact rfl; exact rfl; exact rfl; exact rfl; omega) | (apply q_idxZ; exact rfl; exact rfl; exact rfl; exact rfl; omega) | (apply q_pick_t; exact rfl; exact rfl)) | (first | (apply q_pick_f; exact rfl; exact rfl) | (apply q_len; exact rfl; exact rfl) | (apply q_not; exact rfl) | (apply q_nilCheck; exact rfl) | (apply q_nilCheckF; exact rfl) | (apply q_nilCheckY; exact rfl) | (apply q_inc; exact rfl; exact rfl; omega) | (apply q_lt; exact rfl; exact rfl; omega) | (apply q_ltF; exact rfl; exact rfl; omega) | (apply q_eq; exact rfl; exact rfl; omega) | (apply q_eqF; exact rfl; exact rfl; omega) | (apply q_ne; exact rfl; exact rfl; omega)) | (first | (apply q_neF; exact rfl; exact rfl; omega) | (apply q_gt; exact rfl; exact rfl; omega) | (apply q_gtF; exact rfl; exact rfl; omega) | (apply q_le; exact rfl; exact rfl; omega) | (apply q_leF; exact rfl; exact rfl; omega) | (apply q_ge; exact rfl; exact rfl; omega) | (apply q_geF; exact rfl; exact rfl; omega) | (apply q_sub_nat; exact rfl; exact rfl; omega; omega) | (apply q_add; exact rfl; exact rfl; exact ⟨by omega, by omega⟩) | (apply q_sub; exact rfl; exact rfl; exact ⟨by omega, by omega⟩) | (apply q_dbl; exact rfl; exact rfl; omega) | (apply q_mul; exact rfl; exact rfl; exact ⟨by omega, by omega⟩)) | (first | (apply q_half; exact rfl; exact rfl; omega) | (apply q_par; exact rfl; exact rfl) | (apply q_quo; exact rfl; exact rfl; omega; omega; omega) | (apply q_rem; exact rfl; exact rfl; omega; omega) | (apply q_loadS; exact rfl; exact rfl; (first | exact cells_own (by (repeat (first | exact .here | apply Mem.there)); first | done | fail) | exact cellsR (by assumption) (by (repeat (first | exact .here | apply Mem.there)); first | done | fail) | exact cellsH (by assumption) (by (repeat (first | exact .here | apply Mem.there)); first | done | fail)); exact rfl) | (apply q_min; exact rfl; exact rfl) | (apply q_max; exact rfl; exact rfl) | (apply q_makeFunc; exact rfl; exact rfl) | (apply q_field; exact rfl; exact rfl) | (apply q_build; exact rfl; exact rfl; exact (by (repeat (first | exact Bld.nil | apply Bld.put rfl rfl rfl | apply Bld.keep rfl)); first | done | fail)) | (apply q_neg; exact rfl; exact ⟨by omega, by omega⟩))))
    | refine jk_seq ?_
    | refine jk_region ?_
    | refine jk_nil ?_
    | refine jk_block ?_
    | refine jk_blk ?_
    | refine jk_skip ?_
    | refine jk_if_t rfl ?_
    | refine jk_if_f rfl ?_
    | refine jk_exit rfl ?_
    | refine jk_pass rfl rfl rfl ?_
    | (refine jk_call (inside_spec _ _) rfl rfl (by (repeat (first | exact RdOK.nil | (refine RdOK.consR ?_ ?_; (focus ((repeat (first | exact .here | apply Mem.there | apply Take.there)); first | done | fail))) | (refine RdOK.consH ?_ ?_; (focus ((repeat (first | exact .here | apply Mem.there | apply Take.there)); first | done | fail))) | exact (fun τ hτ => .inl (by simp [hτ])))); first | done | fail) rfl rfl ?_; rintro v (⟨rfl, h⟩ | ⟨rfl, h⟩))
    | (refine' jk_op _ rfl rfl rfl _; rotate_left; (first | (apply l_makeV; exact rfl; exact rfl; exact rfl; exact rfl; exact rfl; exact rfl; omega; omega) | (apply l_makeI; exact rfl; exact rfl; exact rfl; exact rfl; exact rfl; exact rfl; omega; omega) | (apply l_makeB; exact rfl; exact rfl; exact rfl; exact rfl; exact rfl; exact rfl; omega; omega) | (apply l_allocS; exact rfl) | (apply l_alloc1; exact rfl; exact rfl) | (apply l_buildSlice; exact rfl; exact rfl; exact rfl; exact rfl; exact rfl; exact (by (repeat (first | exact (fun v hv => absurd hv List.not_mem_nil) | (refine List.forall_mem_cons.2 ⟨?_, ?_⟩; (focus (first | exact rfl | assumption))))); first | done | fail); exact (by (repeat (first | exact Flat.nil | apply Flat.one rfl | apply Flat.agg2 | apply Flat.agg3 | apply Flat.agg1 | apply Flat.agg4 | apply Flat.agg5)); first | done | fail); exact rfl) | (apply l_boxS; exact rfl) | (apply l_box1; exact rfl; exact rfl)); rintro _ _ ⟨b, rfl, rfl⟩)
    | (refine' jk_op_none _ rfl rfl _; rotate_left; (first | (apply l_storeI; exact rfl; exact rfl; exact rfl; exact (by (repeat (first | exact .here | apply Take.there)); first | done | fail); omega) | (apply l_storeB; exact rfl; exact rfl; exact rfl; exact (by (repeat (first | exact .here | apply Take.there)); first | done | fail); omega) | (apply l_storeS; exact rfl; exact rfl; exact (by (repeat (first | exact .here | apply Take.there)); first | done | fail); exact (by (repeat (first | exact (fun v hv => absurd hv List.not_mem_nil) | (refine List.forall_mem_cons.2 ⟨?_, ?_⟩; (focus (first | exact rfl | assumption))))); first | done | fail); exact rfl; exact rfl) | (apply l_storeL; exact rfl; exact rfl; (first | exact rfl | assumption); exact rfl; exact (by (repeat (first | exact .here | apply Take.there)); first | done | fail); (focus (repeat (first | exact SetL.here | apply SetL.there)); done)) | (apply l_store; exact rfl; exact rfl; (first | exact rfl | assumption); exact rfl; exact (by (repeat (first | exact .here | apply Take.there)); first | done | fail); exact (by first | decide | (simp; done) | (simp; omega)))); rintro _ _ ⟨rfl, rfl⟩)
    | (refine jk_cmp rfl rfl (cmp_eq _ _) rfl rfl (fun h => ?_) (fun h => ?_))
    | (refine jk_cmp rfl rfl (cmp_ne _ _) rfl rfl (fun h => ?_) (fun h => ?_))
    | (refine jk_cmp rfl rfl (cmp_lt _ _) rfl rfl (fun h => ?_) (fun h => ?_))
    | (refine jk_cmp rfl rfl (cmp_le _ _) rfl rfl (fun h => ?_) (fun h => ?_))
    | (refine jk_cmp rfl rfl (cmp_gt _ _) rfl rfl (fun h => ?_) (fun h => ?_))
    | (refine jk_cmp rfl rfl (cmp_ge _ _) rfl rfl (fun h => ?_) (fun h => ?_))
    | (refine jk_if rfl (fun h => ?_) (fun h => ?_))
    | fail)
  all_goals refine jk_ret_any (res1 rfl rfl) (by (repeat (first | exact rs_nil | (refine rs_cons ?_ ?_; (focus ((repeat (first | exact .here | apply Mem.there | apply Take.there)); first | done | fail))) | exact fun ρ hρ => hρ | (intro ρ hρ; repeat (first | exact hρ | refine List.mem_cons_of_mem _ ?_)))); first | done | fail) (by (repeat (first | exact Sel.nil | (apply Sel.cons; (focus ((repeat (first | exact .here | apply Mem.there | apply Take.there)); first | done | fail))))); first | done | fail) ⟨rfl, ?_⟩
  all_goals first
    | (rw [show okArc n a = true from by unfold okArc; rw [decide_eq_true_eq]; omega]; rfl)
    | (rw [show okArc n a = false from by unfold okArc; rw [decide_eq_false_iff_not]; omega]; rfl)

/-- the first place at which a condition holds; -1: none -/
def idxOf {α : Type} (p : α → Bool) (l : List α) : Int := match l.findIdx? p with
  | some i => i
  | none => -1
theorem idxOf_ge {α : Type} (p : α → Bool) (l : List α) : (0 ≤ idxOf p l ↔ l.any p = true) := by
  unfold idxOf
  cases h : l.findIdx? p with
  | none =>
    rw [List.findIdx?_eq_none_iff] at h
    simp; exact h
  | some i =>
    have := List.findIdx?_isSome (xs := l) (p := p)
    rw [h] at this
    simp at this ⊢
    exact this
theorem indexArc_spec (ρ : PH) (v f : Value) (R1 : List PH) (l : List Arc) (p : Arc → Bool) (hv : ArcsAt ρ v l) (hl : l.length ≤ 1000000) (hf : ∀ a ∈ l, Ans Try.prog f [.agg (encA a).toArray] R1 (fun u => u = .bool (p a))) :
    Ans Try.prog (fv 55) [v, f] (ρ :: R1) (fun u => u = int (idxOf p l)) := by
  obtain ⟨q, c, rfl, hr⟩ := hv.val encA_len
  refine spec_in (cap := []) Try.func55 rfl rfl Try.ntmps55 rfl (by (repeat (first | exact EnvA.nil EnvI.nil | apply EnvA.cons | apply EnvA.nil | exact EnvI.nil | apply EnvI.cons)); first | done | fail) (fun N β => ?_)
  refine jk_seq ?_
  refine jk_region ?_
  focus (refine' jk_q _ rfl rfl rfl _; rotate_left; (apply q_assign; exact rfl))
  refine jk_nil ?_
  refine jk_seq ?_
  refine jk_seq ?_
  refine jk_region ?_
  focus (refine' jk_q _ rfl rfl rfl _; rotate_left; (apply q_move; exact rfl))
  focus (refine' jk_q _ rfl rfl rfl _; rotate_left; (apply q_len; exact rfl; exact rfl))
  focus (refine' jk_q _ rfl rfl rfl _; rotate_left; (apply q_move; exact rfl))
  refine jk_nil ?_
  refine jk_block ?_
  refine jk_loop [0, 1, 6, 7] (0 : Nat) (fun k => k ≤ l.length ∧ ∀ x ∈ l.take k, p x = false) (fun k => [(8, int k)]) (fun _ => []) (fun k => l.length - k) (by (repeat (first | exact Pick.nil | apply Pick.cons rfl)); first | done | fail) ⟨by omega, by simp⟩ (by (repeat (first | exact trivial | refine And.intro rfl ?_)); first | done | fail) (by (repeat (first | exact Sel.nil | (apply Sel.cons; (focus ((repeat (first | exact .here | apply Mem.there | apply Take.there)); first | done | fail))))); first | done | fail) ?_
  rintro k ⟨hk, hno⟩
  by_cases hlt : k < l.length
  · have hx := List.getElem?_eq_getElem hlt
    obtain ⟨b, o, rfl, hA, h0, h1, h2⟩ := arcRow hr hx
    have hfa := hf l[k] (List.getElem_mem hlt)
    unfold encA at hfa
    refine jk_seq ?_
    refine jk_region ?_
    focus (refine' jk_q _ rfl rfl rfl _; rotate_left; (apply q_lt; exact rfl; exact rfl; omega))
    refine jk_nil ?_
    refine jk_seq ?_
    refine jk_if_t rfl ?_
    refine jk_skip ?_
    refine jk_seq ?_
    refine jk_block ?_
    refine jk_seq ?_
    refine jk_region ?_
    focus (refine' jk_q _ rfl rfl rfl _; rotate_left; (apply q_move; exact rfl))
    focus (refine' jk_q _ rfl rfl rfl _; rotate_left; (apply q_assign; exact rfl))
    refine jk_nil ?_
    refine jk_seq ?_
    refine jk_region ?_
    focus (refine' jk_q _ rfl rfl rfl _; rotate_left; (apply q_move; exact rfl))
    focus (refine' jk_q _ rfl rfl rfl _; rotate_left; (apply q_move; exact rfl))
    focus (refine' jk_q _ rfl rfl rfl _; rotate_left; (apply q_move; exact rfl))
    focus (refine' jk_q _ rfl rfl rfl _; rotate_left; (apply q_idxN; exact rfl; exact rfl; exact rfl; exact rfl; omega))
    focus (refine' jk_q _ rfl rfl rfl _; rotate_left; (apply q_loadS; exact rfl; exact rfl; (first | exact cells_own (by (repeat (first | exact .here | apply Mem.there)); first | done | fail) | exact cellsR (by assumption) (by (repeat (first | exact .here | apply Mem.there)); first | done | fail) | exact cellsH (by assumption) (by (repeat (first | exact .here | apply Mem.there)); first | done | fail)); exact rfl))
    refine jk_call (hfa.rsub (R' := R1) (fun _ h => h)) rfl rfl ?_ rfl rfl ?_
    · intro σ hσ; left; simp [hσ]
    rintro u rfl
    refine jk_nil ?_
    refine jk_if rfl (fun hp => ?_) (fun hp => ?_)
    · refine jk_seq ?_
      refine jk_region ?_
      focus (refine' jk_q _ rfl rfl rfl _; rotate_left; (apply q_move; exact rfl))
      focus (refine' jk_q _ rfl rfl rfl _; rotate_left; (apply q_assign; exact rfl))
      refine jk_nil ?_
      refine jk_ret_any (res1 rfl rfl) ?_ (by (repeat (first | exact Sel.nil | (apply Sel.cons; (focus ((repeat (first | exact .here | apply Mem.there | apply Take.there)); first | done | fail))))); first | done | fail) ⟨rfl, ?_⟩
      · intro σ hσ; exact hσ
      · have : l.findIdx? p = some k := by
          rw [List.findIdx?_eq_some_iff_getElem]
          refine ⟨hlt, hp, fun j hj => ?_⟩
          have := hno l[j] (List.mem_take_iff_getElem.2 ⟨j, by omega, rfl⟩)
          simp [this]
        unfold idxOf; rw [this]
    · refine jk_skip ?_
      refine jk_blk ?_
      refine jk_region ?_
      focus (refine' jk_q _ rfl rfl rfl _; rotate_left; (apply q_inc; exact rfl; exact rfl; omega))
      focus (refine' jk_q _ rfl rfl rfl _; rotate_left; (apply q_move; exact rfl))
      refine jk_nil ?_
      refine jk_round (k + 1) ⟨by omega, fun x hx' => ?_⟩ (by omega) (by (repeat (first | exact trivial | refine And.intro rfl ?_)); first | done | fail) (by (repeat (first | exact Sel.nil | (apply Sel.cons; (focus ((repeat (first | exact .here | apply Mem.there | apply Take.there)); first | done | fail))))); first | done | fail)
      rw [List.take_succ_eq_append_getElem hlt] at hx'
      rcases List.mem_append.1 hx' with hx' | hx'
      · exact hno x hx'
      · rw [List.mem_singleton.1 hx']; exact hp
  · refine jk_seq ?_
    refine jk_region ?_
    focus (refine' jk_q _ rfl rfl rfl _; rotate_left; (apply q_ltF; exact rfl; exact rfl; omega))
    refine jk_nil ?_
    refine jk_seq ?_
    refine jk_if_f rfl ?_
    refine jk_exit rfl ?_
    refine jk_seq ?_
    refine jk_region ?_
    focus (refine' jk_q _ rfl rfl rfl _; rotate_left; (apply q_assign; exact rfl))
    refine jk_nil ?_
    refine jk_ret_any (res1 rfl rfl) ?_ (by (repeat (first | exact Sel.nil | (apply Sel.cons; (focus ((repeat (first | exact .here | apply Mem.there | apply Take.there)); first | done | fail))))); first | done | fail) ⟨rfl, ?_⟩
    · intro σ hσ; exact hσ
    · have hkl : k = l.length := by omega
      subst hkl
      rw [List.take_length] at hno
      have : l.findIdx? p = none := by rw [List.findIdx?_eq_none_iff]; exact hno
      unfold idxOf; rw [this]
theorem containsArc_spec (ρ : PH) (v f : Value) (R1 : List PH) (l : List Arc) (p : Arc → Bool) (hv : ArcsAt ρ v l) (hl : l.length ≤ 1000000) (hf : ∀ a ∈ l, Ans Try.prog f [.agg (encA a).toArray] R1 (fun u => u = .bool (p a))) :
    Ans Try.prog (fv 41) [v, f] (ρ :: R1) (fun u => u = .bool (l.any p)) := by
  refine spec_in (cap := []) Try.func41 rfl rfl Try.ntmps41 rfl (by (repeat (first | exact EnvA.nil EnvI.nil | apply EnvA.cons | apply EnvA.nil | exact EnvI.nil | apply EnvI.cons)); first | done | fail) (fun N β => ?_)
  refine jk_seq ?_
  refine jk_region ?_
  focus (refine' jk_q _ rfl rfl rfl _; rotate_left; (apply q_assign; exact rfl))
  refine jk_nil ?_
  refine jk_seq ?_
  refine jk_region ?_
  focus (refine' jk_q _ rfl rfl rfl _; rotate_left; (apply q_move; exact rfl))
  focus (refine' jk_q _ rfl rfl rfl _; rotate_left; (apply q_move; exact rfl))
  refine jk_call (indexArc_spec ρ v f R1 l p hv hl hf) rfl rfl ?_ rfl rfl ?_
  · intro σ hσ; left; simp at hσ ⊢; right; exact hσ
  rintro u rfl
  have hi := idxOf_ge p l
  by_cases hc : 0 ≤ idxOf p l
  all_goals
    repeat' (first
      | (refine' jk_q _ rfl rfl rfl _; rotate_left; (first | (first | (apply q_move; exact rfl) | (apply q_assign; exact rfl) | (apply q_extract; exact rfl; exact rfl) | (apply q_load; exact rfl; exact rfl; (first | exact cell_own (by (repeat (first | exact .here | apply Mem.there)); first | done | fail) rfl | exact cellR (by assumption) (by (repeat (first | exact .here | apply Mem.there)); first | done | fail) | exact cellH (by assumption) (by (repeat (first | exact .here | apply Mem.there)); first | done | fail) | exact cell_ints (by (repeat (first | exact .here | apply Mem.there)); first | done | fail) (by omega) | exact cell_bools (by assumption) (by (repeat (first | exact .here | apply Mem.there)); first | done | fail) | exact cell_intsR (by (repeat (first | exact .here | apply Mem.there)); first | done | fail) (by omega) | exact cell_boolsR (by assumption) (by (repeat (first | exact .here | apply Mem.there)); first | done | fail))) | (apply q_fld0; exact rfl; exact rfl) | (apply q_fldZ; exact rfl; exact rfl) | (apply q_fld; exact rfl; exact rfl) | (apply q_idx0; exact rfl; exact rfl; exact rfl; exact rfl; omega) | (apply q_idx1; exact rfl; exact rfl; exact rfl; exact rfl; omega) | (apply q_idxN; exact rfl; exact rfl; exact rfl; exact rfl; omega) | (apply q_idxZ; exact rfl; exact rfl; exact rfl; exact rfl; omega) | (apply q_pick_t; exact rfl; exact rfl)) | (first | (apply q_pick_f; exact rfl; exact rfl) | (apply q_len; exact rfl; exact rfl) | (apply q_not; exact rfl) | (apply q_nilCheck; exact rfl) | (apply q_nilCheckF; exact rfl) | (apply q_nilCheckY; exact rfl) | (apply q_inc; exact rfl; exact rfl; omega) | (apply q_lt; exact rfl; exact rfl; omega) | (apply q_ltF; exact rfl; exact rfl; omega) | (apply q_eq; exact rfl; exact rfl; omega) | (apply q_eqF; exact rfl; exact rfl; omega) | (apply q_ne; exact rfl; exact rfl; omega)) | (first | (apply q_neF; exact rfl; exact rfl; omega) | (apply q_gt; exact rfl; exact rfl; omega) | (apply q_gtF; exact rfl; exact rfl; omega) | (apply q_le; exact rfl; exact rfl; omega) | (apply q_leF; exact rfl; exact rfl; omega) | (apply q_ge; exact rfl; exact rfl; omega) | (apply q_geF; exact rfl; exact rfl; omega) | (apply q_sub_nat; exact rfl; exact rfl; omega; omega) | (apply q_add; exact rfl; exact rfl; exact ⟨by omega, by omega⟩) | (apply q_sub; exact rfl; exact rfl; exact ⟨by omega, by omega⟩) | (apply q_dbl; exact rfl; exact rfl; omega) | (apply q_mul; exact rfl; exact rfl; exact ⟨by omega, by omega⟩)) | (first | (apply q_half; exact rfl; exact rfl; omega) | (apply q_par; exact rfl; exact rfl) | (apply q_quo; exact rfl; exact rfl; omega; omega; omega) | (apply q_rem; exact rfl; exact rfl; omega; omega) | (apply q_loadS; exact rfl; exact rfl; (first | exact cells_own (by (repeat (first | exact .here | apply Mem.there)); first | done | fail) | exact cellsR (by assumption) (by (repeat (first | exact .here | apply Mem.there)); first | done | fail) | exact cellsH (by assumption) (by (repeat (first | exact .here | apply Mem.there)); first | done | fail)); exact rfl) | (apply q_min; exact rfl; exact rfl) | (apply q_max; exact rfl; exact rfl) | (apply q_makeFunc; exact rfl; exact rfl) | (apply q_field; exact rfl; exact rfl) | (apply q_build; exact rfl; exact rfl; exact (by (repeat (first | exact Bld.nil | apply Bld.put rfl rfl rfl | apply Bld.keep rfl)); first | done | fail)) | (apply q_neg; exact rfl; exact ⟨by omega, by omega⟩))))
      | refine jk_seq ?_
      | refine jk_region ?_
      | refine jk_nil ?_
      | refine jk_block ?_
      | refine jk_blk ?_
      | refine jk_skip ?_
      | refine jk_if_t rfl ?_
      | refine jk_if_f rfl ?_
      | refine jk_exit rfl ?_
      | refine jk_pass rfl rfl rfl ?_
      | (refine' jk_op _ rfl rfl rfl _; rotate_left; (first | (apply l_makeV; exact rfl; exact rfl; exact rfl; exact rfl; exact rfl; exact rfl; omega; omega) | (apply l_makeI; exact rfl; exact rfl; exact rfl; exact rfl; exact rfl; exact rfl; omega; omega) | (apply l_makeB; exact rfl; exact rfl; exact rfl; exact rfl; exact rfl; exact rfl; omega; omega) | (apply l_allocS; exact rfl) | (apply l_alloc1; exact rfl; exact rfl) | (apply l_buildSlice; exact rfl; exact rfl; exact rfl; exact rfl; exact rfl; exact (by (repeat (first | exact (fun v hv => absurd hv List.not_mem_nil) | (refine List.forall_mem_cons.2 ⟨?_, ?_⟩; (focus (first | exact rfl | assumption))))); first | done | fail); exact (by (repeat (first | exact Flat.nil | apply Flat.one rfl | apply Flat.agg2 | apply Flat.agg3 | apply Flat.agg1 | apply Flat.agg4 | apply Flat.agg5)); first | done | fail); exact rfl) | (apply l_boxS; exact rfl) | (apply l_box1; exact rfl; exact rfl)); rintro _ _ ⟨b, rfl, rfl⟩)
      | (refine' jk_op_none _ rfl rfl _; rotate_left; (first | (apply l_storeI; exact rfl; exact rfl; exact rfl; exact (by (repeat (first | exact .here | apply Take.there)); first | done | fail); omega) | (apply l_storeB; exact rfl; exact rfl; exact rfl; exact (by (repeat (first | exact .here | apply Take.there)); first | done | fail); omega) | (apply l_storeS; exact rfl; exact rfl; exact (by (repeat (first | exact .here | apply Take.there)); first | done | fail); exact (by (repeat (first | exact (fun v hv => absurd hv List.not_mem_nil) | (refine List.forall_mem_cons.2 ⟨?_, ?_⟩; (focus (first | exact rfl | assumption))))); first | done | fail); exact rfl; exact rfl) | (apply l_storeL; exact rfl; exact rfl; (first | exact rfl | assumption); exact rfl; exact (by (repeat (first | exact .here | apply Take.there)); first | done | fail); (focus (repeat (first | exact SetL.here | apply SetL.there)); done)) | (apply l_store; exact rfl; exact rfl; (first | exact rfl | assumption); exact rfl; exact (by (repeat (first | exact .here | apply Take.there)); first | done | fail); exact (by first | decide | (simp; done) | (simp; omega)))); rintro _ _ ⟨rfl, rfl⟩)
      | fail)
    refine jk_ret_any (res1 rfl rfl) (by intro σ hσ; exact hσ) (by (repeat (first | exact Sel.nil | (apply Sel.cons; (focus ((repeat (first | exact .here | apply Mem.there | apply Take.there)); first | done | fail))))); first | done | fail) ⟨rfl, ?_⟩
  · rw [hi.1 hc]
  · have : l.any p = false := by
      cases h : l.any p with
      | false => rfl
      | true => exact absurd (hi.2 h) hc
    rw [this]

theorem check_spec (ρ : PH) (v : Value) (n : Int) (l : List Arc) (hv : ArcsAt ρ v l) (hl : l.length ≤ 1000000) :
    Ans Try.prog (fv 17) [int n, v] [ρ] (fun u => u = int (chk n l)) := by
  obtain ⟨q, c, rfl, hr⟩ := hv.val encA_len
  refine spec_in (cap := []) Try.func17 rfl rfl Try.ntmps17 rfl (by (repeat (first | exact EnvA.nil EnvI.nil | apply EnvA.cons | apply EnvA.nil | exact EnvI.nil | apply EnvI.cons)); first | done | fail) (fun N β => ?_)
  repeat' (first
    | (refine' jk_q _ rfl rfl rfl _; rotate_left; (first | (first | (apply q_move; exact rfl) | (apply q_assign; exact rfl) | (apply q_extract; exact rfl; exact rfl) | (apply q_load; exact rfl; exact rfl; (first | exact cell_own (by (repeat (first | exact .here | apply Mem.there)); first | done | fail) rfl | exact cellR (by assumption) (by (repeat (first | exact .here | apply Mem.there)); first | done | fail) | exact cellH (by assumption) (by (repeat (first | exact .here | apply Mem.there)); first | done | fail) | exact cell_ints (by (repeat (first | exact .here | apply Mem.there)); first | done | fail) (by omega) | exact cell_bools (by assumption) (by (repeat (first | exact .here | apply Mem.there)); first | done | fail) | exact cell_intsR (by (repeat (first | exact .here | apply Mem.there)); first | done | fail) (by omega) | exact cell_boolsR (by assumption) (by (repeat (first | exact .here | apply Mem.there)); first | done | fail))) | (apply q_fld0; exact rfl; exact rfl) | (apply q_fldZ; exact rfl; exact rfl) | (apply q_fld; exact rfl; exact rfl) | (apply q_idx0; exact rfl; exact rfl; exact rfl; exact rfl; omega) | (apply q_idx1; exact rfl; exact rfl; exact rfl; exact rfl; omega) | (apply q_idxN; exact rfl; exact rfl; exact rfl; exact rfl; omega) | (apply q_idxZ; exact rfl; exact rfl; exact rfl; exact rfl; omega) | (apply q_pick_t; exact rfl; exact rfl)) | (first | (apply q_pick_f; exact rfl; exact rfl) | (apply q_len; exact rfl; exact rfl) | (apply q_not; exact rfl) | (apply q_nilCheck; exact rfl) | (apply q_nilCheckF; exact rfl) | (apply q_nilCheckY; exact rfl) | (apply q_inc; exact rfl; exact rfl; omega) | (apply q_lt; exact rfl; exact rfl; omega) | (apply q_ltF; exact rfl; exact rfl; omega) | (apply q_eq; exact rfl; exact rfl; omega) | (apply q_eqF; exact rfl; exact rfl; omega) | (apply q_ne; exact rfl; exact rfl; omega)) | (first | (apply q_neF; exact rfl; exact rfl; omega) | (apply q_gt; exact rfl; exact rfl; omega) | (apply q_gtF; exact rfl; exact rfl; omega) | (apply q_le; exact rfl; exact rfl; omega) | (apply q_leF; exact rfl; exact rfl; omega) | (apply q_ge; exact rfl; exact rfl; omega) | (apply q_geF; exact rfl; exact rfl; omega) | (apply q_sub_nat; exact rfl; exact rfl; omega; omega) | (apply q_add; exact rfl; exact rfl; exact ⟨by omega, by omega⟩) | (apply q_sub; exact rfl; exact rfl; exact ⟨by omega, by omega⟩) | (apply q_dbl; exact rfl; exact rfl; omega) | (apply q_mul; exact rfl; exact rfl; exact ⟨by omega, by omega⟩)) | (first | (apply q_half; exact rfl; exact rfl; omega) | (apply q_par; exact rfl; exact rfl) | (apply q_quo; exact rfl; exact rfl; omega; omega; omega) | (apply q_rem; exact rfl; exact rfl; omega; omega) | (apply q_loadS; exact rfl; exact rfl; (first | exact cells_own (by (repeat (first | exact .here | apply Mem.there)); first | done | fail) | exact cellsR (by assumption) (by (repeat (first | exact .here | apply Mem.there)); first | done | fail) | exact cellsH (by assumption) (by (repeat (first | exact .here | apply Mem.there)); first | done | fail)); exact rfl) | (apply q_min; exact rfl; exact rfl) | (apply q_max; exact rfl; exact rfl) | (apply q_makeFunc; exact rfl; exact rfl) | (apply q_field; exact rfl; exact rfl) | (apply q_build; exact rfl; exact rfl; exact (by (repeat (first | exact Bld.nil | apply Bld.put rfl rfl rfl | apply Bld.keep rfl)); first | done | fail)) | (apply q_neg; exact rfl; exact ⟨by omega, by omega⟩))))
    | refine jk_seq ?_
    | refine jk_region ?_
    | refine jk_nil ?_
    | refine jk_block ?_
    | refine jk_blk ?_
    | refine jk_skip ?_
    | refine jk_if_t rfl ?_
    | refine jk_if_f rfl ?_
    | refine jk_exit rfl ?_
    | refine jk_pass rfl rfl rfl ?_
    | (refine jk_call (containsArc_spec ρ _ _ [_] l (fun a => !okArc n a) hv hl (fun a _ => check1_spec _ _ n a)) rfl rfl (by (repeat (first | exact RdOK.nil | (refine RdOK.consR ?_ ?_; (focus ((repeat (first | exact .here | apply Mem.there | apply Take.there)); first | done | fail))) | (refine RdOK.consH ?_ ?_; (focus ((repeat (first | exact .here | apply Mem.there | apply Take.there)); first | done | fail))) | exact (fun τ hτ => .inl (by simp [hτ])))); first | done | fail) rfl rfl ?_; rintro u rfl)
    | (refine' jk_op _ rfl rfl rfl _; rotate_left; (first | (apply l_makeV; exact rfl; exact rfl; exact rfl; exact rfl; exact rfl; exact rfl; omega; omega) | (apply l_makeI; exact rfl; exact rfl; exact rfl; exact rfl; exact rfl; exact rfl; omega; omega) | (apply l_makeB; exact rfl; exact rfl; exact rfl; exact rfl; exact rfl; exact rfl; omega; omega) | (apply l_allocS; exact rfl) | (apply l_alloc1; exact rfl; exact rfl) | (apply l_buildSlice; exact rfl; exact rfl; exact rfl; exact rfl; exact rfl; exact (by (repeat (first | exact (fun v hv => absurd hv List.not_mem_nil) | (refine List.forall_mem_cons.2 ⟨?_, ?_⟩; (focus (first | exact rfl | assumption))))); first | done | fail); exact (by (repeat (first | exact Flat.nil | apply Flat.one rfl | apply Flat.agg2 | apply Flat.agg3 | apply Flat.agg1 | apply Flat.agg4 | apply Flat.agg5)); first | done | fail); exact rfl) | (apply l_boxS; exact rfl) | (apply l_box1; exact rfl; exact rfl)); rintro _ _ ⟨b, rfl, rfl⟩)
    | (refine' jk_op_none _ rfl rfl _; rotate_left; (first | (apply l_storeI; exact rfl; exact rfl; exact rfl; exact (by (repeat (first | exact .here | apply Take.there)); first | done | fail); omega) | (apply l_storeB; exact rfl; exact rfl; exact rfl; exact (by (repeat (first | exact .here | apply Take.there)); first | done | fail); omega) | (apply l_storeS; exact rfl; exact rfl; exact (by (repeat (first | exact .here | apply Take.there)); first | done | fail); exact (by (repeat (first | exact (fun v hv => absurd hv List.not_mem_nil) | (refine List.forall_mem_cons.2 ⟨?_, ?_⟩; (focus (first | exact rfl | assumption))))); first | done | fail); exact rfl; exact rfl) | (apply l_storeL; exact rfl; exact rfl; (first | exact rfl | assumption); exact rfl; exact (by (repeat (first | exact .here | apply Take.there)); first | done | fail); (focus (repeat (first | exact SetL.here | apply SetL.there)); done)) | (apply l_store; exact rfl; exact rfl; (first | exact rfl | assumption); exact rfl; exact (by (repeat (first | exact .here | apply Take.there)); first | done | fail); exact (by first | decide | (simp; done) | (simp; omega)))); rintro _ _ ⟨rfl, rfl⟩)
    | (refine jk_cmp rfl rfl (cmp_eq _ _) rfl rfl (fun h => ?_) (fun h => ?_))
    | (refine jk_cmp rfl rfl (cmp_ne _ _) rfl rfl (fun h => ?_) (fun h => ?_))
    | (refine jk_cmp rfl rfl (cmp_lt _ _) rfl rfl (fun h => ?_) (fun h => ?_))
    | (refine jk_cmp rfl rfl (cmp_le _ _) rfl rfl (fun h => ?_) (fun h => ?_))
    | (refine jk_cmp rfl rfl (cmp_gt _ _) rfl rfl (fun h => ?_) (fun h => ?_))
    | (refine jk_cmp rfl rfl (cmp_ge _ _) rfl rfl (fun h => ?_) (fun h => ?_))
    | (refine jk_if rfl (fun h => ?_) (fun h => ?_))
    | fail)
  all_goals refine jk_ret_any (res1 rfl rfl) (by (repeat (first | exact rs_nil | (refine rs_cons ?_ ?_; (focus ((repeat (first | exact .here | apply Mem.there | apply Take.there)); first | done | fail))) | exact fun ρ hρ => hρ | (intro ρ hρ; repeat (first | exact hρ | refine List.mem_cons_of_mem _ ?_)))); first | done | fail) (by (repeat (first | exact Sel.nil | (apply Sel.cons; (focus ((repeat (first | exact .here | apply Mem.there | apply Take.there)); first | done | fail))))); first | done | fail) ⟨rfl, ?_⟩
  all_goals unfold chk
  · rw [if_pos (by omega)]
  · rw [if_neg (by omega), if_pos (by omega)]
  · rw [if_neg (by omega), if_pos (by omega)]
  · rename_i h
    rw [if_neg (by omega), if_neg (by omega), if_neg (fun h2 => ?_)]
    simp only [List.all_eq_true, List.any_eq_true, Bool.not_eq_true'] at h h2
    obtain ⟨x, hx, e⟩ := h
    rw [h2 x hx] at e
    simp at e
  · rename_i h
    rw [if_neg (by omega), if_neg (by omega), if_pos ?_]
    rw [List.all_eq_true]
    rw [List.any_eq_false] at h
    intro x hx
    simpa using h x hx

theorem refCheck_spec (ρ : PH) (v : Value) (n : Int) (l : List Arc) (hv : ArcsAt ρ v l) (hl : l.length ≤ 1000000) :
    Ans Try.prog (fv 18) [int n, v] [ρ] (fun u => u = int (chk n l)) := by
  obtain ⟨q, c, rfl, hr⟩ := hv.val encA_len
  refine spec_in (cap := []) Try.func18 rfl rfl Try.ntmps18 rfl (by (repeat (first | exact EnvA.nil EnvI.nil | apply EnvA.cons | apply EnvA.nil | exact EnvI.nil | apply EnvI.cons)); first | done | fail) (fun N β => ?_)
  by_cases c1 : n < 0
  · refine jk_seq ?_
    refine jk_region ?_
    focus (refine' jk_q _ rfl rfl rfl _; rotate_left; (apply q_assign; exact rfl))
    refine jk_nil ?_
    refine jk_seq ?_
    refine jk_seq ?_
    refine jk_region ?_
    focus (refine' jk_q _ rfl rfl rfl _; rotate_left; (apply q_move; exact rfl))
    focus (refine' jk_q _ rfl rfl rfl _; rotate_left; (apply q_lt; exact rfl; exact rfl; omega))
    refine jk_nil ?_
    refine jk_if_t rfl ?_
    refine jk_seq ?_
    refine jk_region ?_
    focus (refine' jk_q _ rfl rfl rfl _; rotate_left; (apply q_assign; exact rfl))
    refine jk_nil ?_
    exact jk_ret_any (res1 rfl rfl) (by (repeat (first | exact rs_nil | (refine rs_cons ?_ ?_; (focus ((repeat (first | exact .here | apply Mem.there | apply Take.there)); first | done | fail))) | exact fun ρ hρ => hρ | (intro ρ hρ; repeat (first | exact hρ | refine List.mem_cons_of_mem _ ?_)))); first | done | fail) (by (repeat (first | exact Sel.nil | (apply Sel.cons; (focus ((repeat (first | exact .here | apply Mem.there | apply Take.there)); first | done | fail))))); first | done | fail) ⟨rfl, by unfold chk; rw [if_pos c1]⟩
  by_cases c2 : 2000 < n ∨ 20000 < l.length
  · have hchk : chk n l = 4 := by unfold chk; rw [if_neg c1, if_pos c2]
    repeat' (first
      | (refine' jk_q _ rfl rfl rfl _; rotate_left; (first | (first | (apply q_move; exact rfl) | (apply q_assign; exact rfl) | (apply q_extract; exact rfl; exact rfl) | (apply q_load; exact rfl; exact rfl; (first | exact cell_own (by (repeat (first | exact .here | apply Mem.there)); first | done | fail) rfl | exact cellR (by assumption) (by (repeat (first | exact .here | apply Mem.there)); first | done | fail) | exact cellH (by assumption) (by (repeat (first | exact .here | apply Mem.there)); first | done | fail) | exact cell_ints (by (repeat (first | exact .here | apply Mem.there)); first | done | fail) (by omega) | exact cell_bools (by assumption) (by (repeat (first | exact .here | apply Mem.there)); first | done | fail) | exact cell_intsR (by (repeat (first | exact .here | apply Mem.there)); first | done | fail) (by omega) | exact cell_boolsR (by assumption) (by (repeat (first | exact .here | apply Mem.there)); first | done | fail))) | (apply q_fld0; exact rfl; exact rfl) | (apply q_fldZ; exact rfl; exact rfl) | (apply q_fld; exact rfl; exact rfl) | (apply q_idx0; exact rfl; exact rfl; exact rfl; exact rfl; omega) | (apply q_idx1; exact rfl; exact rfl; exact rfl; exact rfl; omega) | (apply q_idxN; exact rfl; exact rfl; exact rfl; exact rfl; omega) | (apply q_idxZ; exact rfl; exact rfl; exact rfl; exact rfl; omega) | (apply q_pick_t; exact rfl; exact rfl)) | (first | (apply q_pick_f; exact rfl; exact rfl) | (apply q_len; exact rfl; exact rfl) | (apply q_not; exact rfl) | (apply q_nilCheck; exact rfl) | (apply q_nilCheckF; exact rfl) | (apply q_nilCheckY; exact rfl) | (apply q_inc; exact rfl; exact rfl; omega) | (apply q_lt; exact rfl; exact rfl; omega) | (apply q_ltF; exact rfl; exact rfl; omega) | (apply q_eq; exact rfl; exact rfl; omega) | (apply q_eqF; exact rfl; exact rfl; omega) | (apply q_ne; exact rfl; exact rfl; omega)) | (first | (apply q_neF; exact rfl; exact rfl; omega) | (apply q_gt; exact rfl; exact rfl; omega) | (apply q_gtF; exact rfl; exact rfl; omega) | (apply q_le; exact rfl; exact rfl; omega) | (apply q_leF; exact rfl; exact rfl; omega) | (apply q_ge; exact rfl; exact rfl; omega) | (apply q_geF; exact rfl; exact rfl; omega) | (apply q_sub_nat; exact rfl; exact rfl; omega; omega) | (apply q_add; exact rfl; exact rfl; exact ⟨by omega, by omega⟩) | (apply q_sub; exact rfl; exact rfl; exact ⟨by omega, by omega⟩) | (apply q_dbl; exact rfl; exact rfl; omega) | (apply q_mul; exact rfl; exact rfl; exact ⟨by omega, by omega⟩)) | (first | (apply q_half; exact rfl; exact rfl; omega) | (apply q_par; exact rfl; exact rfl) | (apply q_quo; exact rfl; exact rfl; omega; omega; omega) | (apply q_rem; exact rfl; exact rfl; omega; omega) | (apply q_loadS; exact rfl; exact rfl; (first | exact cells_own (by (repeat (first | exact .here | apply Mem.there)); first | done | fail) | exact cellsR (by assumption) (by (repeat (first | exact .here | apply Mem.there)); first | done | fail) | exact cellsH (by assumption) (by (repeat (first | exact .here | apply Mem.there)); first | done | fail)); exact rfl) | (apply q_min; exact rfl; exact rfl) | (apply q_max; exact rfl; exact rfl) | (apply q_makeFunc; exact rfl; exact rfl) | (apply q_field; exact rfl; exact rfl) | (apply q_build; exact rfl; exact rfl; exact (by (repeat (first | exact Bld.nil | apply Bld.put rfl rfl rfl | apply Bld.keep rfl)); first | done | fail)) | (apply q_neg; exact rfl; exact ⟨by omega, by omega⟩))))
      | refine jk_seq ?_
      | refine jk_region ?_
      | refine jk_nil ?_
      | refine jk_block ?_
      | refine jk_blk ?_
      | refine jk_skip ?_
      | refine jk_if_t rfl ?_
      | refine jk_if_f rfl ?_
      | refine jk_exit rfl ?_
      | refine jk_pass rfl rfl rfl ?_
      | (refine' jk_op _ rfl rfl rfl _; rotate_left; (first | (apply l_makeV; exact rfl; exact rfl; exact rfl; exact rfl; exact rfl; exact rfl; omega; omega) | (apply l_makeI; exact rfl; exact rfl; exact rfl; exact rfl; exact rfl; exact rfl; omega; omega) | (apply l_makeB; exact rfl; exact rfl; exact rfl; exact rfl; exact rfl; exact rfl; omega; omega) | (apply l_allocS; exact rfl) | (apply l_alloc1; exact rfl; exact rfl) | (apply l_buildSlice; exact rfl; exact rfl; exact rfl; exact rfl; exact rfl; exact (by (repeat (first | exact (fun v hv => absurd hv List.not_mem_nil) | (refine List.forall_mem_cons.2 ⟨?_, ?_⟩; (focus (first | exact rfl | assumption))))); first | done | fail); exact (by (repeat (first | exact Flat.nil | apply Flat.one rfl | apply Flat.agg2 | apply Flat.agg3 | apply Flat.agg1 | apply Flat.agg4 | apply Flat.agg5)); first | done | fail); exact rfl) | (apply l_boxS; exact rfl) | (apply l_box1; exact rfl; exact rfl)); rintro _ _ ⟨b, rfl, rfl⟩)
      | (refine' jk_op_none _ rfl rfl _; rotate_left; (first | (apply l_storeI; exact rfl; exact rfl; exact rfl; exact (by (repeat (first | exact .here | apply Take.there)); first | done | fail); omega) | (apply l_storeB; exact rfl; exact rfl; exact rfl; exact (by (repeat (first | exact .here | apply Take.there)); first | done | fail); omega) | (apply l_storeS; exact rfl; exact rfl; exact (by (repeat (first | exact .here | apply Take.there)); first | done | fail); exact (by (repeat (first | exact (fun v hv => absurd hv List.not_mem_nil) | (refine List.forall_mem_cons.2 ⟨?_, ?_⟩; (focus (first | exact rfl | assumption))))); first | done | fail); exact rfl; exact rfl) | (apply l_storeL; exact rfl; exact rfl; (first | exact rfl | assumption); exact rfl; exact (by (repeat (first | exact .here | apply Take.there)); first | done | fail); (focus (repeat (first | exact SetL.here | apply SetL.there)); done)) | (apply l_store; exact rfl; exact rfl; (first | exact rfl | assumption); exact rfl; exact (by (repeat (first | exact .here | apply Take.there)); first | done | fail); exact (by first | decide | (simp; done) | (simp; omega)))); rintro _ _ ⟨rfl, rfl⟩)
      | (refine jk_cmp rfl rfl (cmp_eq _ _) rfl rfl (fun h => ?_) (fun h => ?_))
      | (refine jk_cmp rfl rfl (cmp_ne _ _) rfl rfl (fun h => ?_) (fun h => ?_))
      | (refine jk_cmp rfl rfl (cmp_lt _ _) rfl rfl (fun h => ?_) (fun h => ?_))
      | (refine jk_cmp rfl rfl (cmp_le _ _) rfl rfl (fun h => ?_) (fun h => ?_))
      | (refine jk_cmp rfl rfl (cmp_gt _ _) rfl rfl (fun h => ?_) (fun h => ?_))
      | (refine jk_cmp rfl rfl (cmp_ge _ _) rfl rfl (fun h => ?_) (fun h => ?_))
      | (refine jk_if rfl (fun h => ?_) (fun h => ?_))
      | fail)
    all_goals exact jk_ret_any (res1 rfl rfl) (by (repeat (first | exact rs_nil | (refine rs_cons ?_ ?_; (focus ((repeat (first | exact .here | apply Mem.there | apply Take.there)); first | done | fail))) | exact fun ρ hρ => hρ | (intro ρ hρ; repeat (first | exact hρ | refine List.mem_cons_of_mem _ ?_)))); first | done | fail) (by (repeat (first | exact Sel.nil | (apply Sel.cons; (focus ((repeat (first | exact .here | apply Mem.there | apply Take.there)); first | done | fail))))); first | done | fail) ⟨rfl, by rw [hchk]⟩
  refine jk_seq ?_
  refine jk_region ?_
  focus (refine' jk_q _ rfl rfl rfl _; rotate_left; (apply q_assign; exact rfl))
  refine jk_nil ?_
  refine jk_seq ?_
  refine jk_seq ?_
  refine jk_region ?_
  focus (refine' jk_q _ rfl rfl rfl _; rotate_left; (apply q_move; exact rfl))
  focus (refine' jk_q _ rfl rfl rfl _; rotate_left; (apply q_ltF; exact rfl; exact rfl; omega))
  refine jk_nil ?_
  refine jk_if_f rfl ?_
  refine jk_skip ?_
  refine jk_seq ?_
  refine jk_seq ?_
  refine jk_region ?_
  focus (refine' jk_q _ rfl rfl rfl _; rotate_left; (apply q_move; exact rfl))
  focus (refine' jk_q _ rfl rfl rfl _; rotate_left; (apply q_gtF; exact rfl; exact rfl; omega))
  focus (refine' jk_q _ rfl rfl rfl _; rotate_left; (apply q_move; exact rfl))
  focus (refine' jk_q _ rfl rfl rfl _; rotate_left; (apply q_move; exact rfl))
  focus (refine' jk_q _ rfl rfl rfl _; rotate_left; (apply q_len; exact rfl; exact rfl))
  focus (refine' jk_q _ rfl rfl rfl _; rotate_left; (apply q_gtF; exact rfl; exact rfl; omega))
  focus (refine' jk_q _ rfl rfl rfl _; rotate_left; (apply q_pick_f; exact rfl; exact rfl))
  refine jk_nil ?_
  refine jk_if_f rfl ?_
  refine jk_skip ?_
  refine jk_seq ?_
  refine jk_seq ?_
  refine jk_region ?_
  focus (refine' jk_q _ rfl rfl rfl _; rotate_left; (apply q_assign; exact rfl))
  refine jk_nil ?_
  refine jk_block ?_
  refine jk_loop [0, 1] (0 : Nat) (fun k => k ≤ l.length ∧ ∀ x ∈ l.take k, okArc n x = true) (fun k => [(5, int k)]) (fun _ => []) (fun k => l.length - k) (by (repeat (first | exact Pick.nil | apply Pick.cons rfl)); first | done | fail) ⟨by omega, by simp⟩ (by (repeat (first | exact trivial | refine And.intro rfl ?_)); first | done | fail) (by (repeat (first | exact Sel.nil | (apply Sel.cons; (focus ((repeat (first | exact .here | apply Mem.there | apply Take.there)); first | done | fail))))); first | done | fail) ?_
  rintro k ⟨hk, hno⟩
  by_cases hlt : k < l.length
  · have hx := List.getElem?_eq_getElem hlt
    obtain ⟨b, o, rfl, hA, h0, h1, h2⟩ := arcRow hr hx
    by_cases hok : okArc n l[k] = true
    · have hok' := hok
      unfold okArc at hok'
      rw [decide_eq_true_eq] at hok'
      obtain ⟨g1, g2, g3, g4, g5, g6, g7⟩ := hok'
      refine jk_seq ?_
      refine jk_seq ?_
      refine jk_region ?_
      focus (refine' jk_q _ rfl rfl rfl _; rotate_left; (apply q_move; exact rfl))
      focus (refine' jk_q _ rfl rfl rfl _; rotate_left; (apply q_move; exact rfl))
      focus (refine' jk_q _ rfl rfl rfl _; rotate_left; (apply q_len; exact rfl; exact rfl))
      focus (refine' jk_q _ rfl rfl rfl _; rotate_left; (apply q_lt; exact rfl; exact rfl; omega))
      refine jk_nil ?_
      refine jk_if_t rfl ?_
      refine jk_skip ?_
      refine jk_seq ?_
      refine jk_block ?_
      refine jk_seq ?_
      refine jk_region ?_
      focus (refine' jk_q _ rfl rfl rfl _; rotate_left; (apply q_move; exact rfl))
      focus (refine' jk_q _ rfl rfl rfl _; rotate_left; (apply q_move; exact rfl))
      focus (refine' jk_q _ rfl rfl rfl _; rotate_left; (apply q_idxN; exact rfl; exact rfl; exact rfl; exact rfl; omega))
      focus (refine' jk_q _ rfl rfl rfl _; rotate_left; (apply q_loadS; exact rfl; exact rfl; (first | exact cells_own (by (repeat (first | exact .here | apply Mem.there)); first | done | fail) | exact cellsR (by assumption) (by (repeat (first | exact .here | apply Mem.there)); first | done | fail) | exact cellsH (by assumption) (by (repeat (first | exact .here | apply Mem.there)); first | done | fail)); exact rfl))
      focus (refine' jk_op _ rfl rfl rfl _; rotate_left; (apply l_allocS; exact rfl); rintro _ _ ⟨b, rfl, rfl⟩)
      focus (refine' jk_op_none _ rfl rfl _; rotate_left; (apply l_storeS; exact rfl; exact rfl; exact (by (repeat (first | exact .here | apply Take.there)); first | done | fail); exact (by (repeat (first | exact (fun v hv => absurd hv List.not_mem_nil) | (refine List.forall_mem_cons.2 ⟨?_, ?_⟩; (focus (first | exact rfl | assumption))))); first | done | fail); exact rfl; exact rfl); rintro _ _ ⟨rfl, rfl⟩)
      refine jk_nil ?_
      refine jk_seq ?_
      refine jk_region ?_
      focus (refine' jk_q _ rfl rfl rfl _; rotate_left; (apply q_fld0; exact rfl; exact rfl))
      focus (refine' jk_q _ rfl rfl rfl _; rotate_left; (apply q_load; exact rfl; exact rfl; (first | exact cell_own (by (repeat (first | exact .here | apply Mem.there)); first | done | fail) rfl | exact cellR (by assumption) (by (repeat (first | exact .here | apply Mem.there)); first | done | fail) | exact cellH (by assumption) (by (repeat (first | exact .here | apply Mem.there)); first | done | fail) | exact cell_ints (by (repeat (first | exact .here | apply Mem.there)); first | done | fail) (by omega) | exact cell_bools (by assumption) (by (repeat (first | exact .here | apply Mem.there)); first | done | fail) | exact cell_intsR (by (repeat (first | exact .here | apply Mem.there)); first | done | fail) (by omega) | exact cell_boolsR (by assumption) (by (repeat (first | exact .here | apply Mem.there)); first | done | fail))))
      focus (refine' jk_q _ rfl rfl rfl _; rotate_left; (apply q_ltF; exact rfl; exact rfl; omega))
      focus (refine' jk_q _ rfl rfl rfl _; rotate_left; (apply q_move; exact rfl))
      focus (refine' jk_q _ rfl rfl rfl _; rotate_left; (apply q_fld0; exact rfl; exact rfl))
      focus (refine' jk_q _ rfl rfl rfl _; rotate_left; (apply q_load; exact rfl; exact rfl; (first | exact cell_own (by (repeat (first | exact .here | apply Mem.there)); first | done | fail) rfl | exact cellR (by assumption) (by (repeat (first | exact .here | apply Mem.there)); first | done | fail) | exact cellH (by assumption) (by (repeat (first | exact .here | apply Mem.there)); first | done | fail) | exact cell_ints (by (repeat (first | exact .here | apply Mem.there)); first | done | fail) (by omega) | exact cell_bools (by assumption) (by (repeat (first | exact .here | apply Mem.there)); first | done | fail) | exact cell_intsR (by (repeat (first | exact .here | apply Mem.there)); first | done | fail) (by omega) | exact cell_boolsR (by assumption) (by (repeat (first | exact .here | apply Mem.there)); first | done | fail))))
      focus (refine' jk_q _ rfl rfl rfl _; rotate_left; (apply q_move; exact rfl))
      focus (refine' jk_q _ rfl rfl rfl _; rotate_left; (apply q_geF; exact rfl; exact rfl; omega))
      focus (refine' jk_q _ rfl rfl rfl _; rotate_left; (apply q_pick_f; exact rfl; exact rfl))
      focus (refine' jk_q _ rfl rfl rfl _; rotate_left; (apply q_move; exact rfl))
      focus (refine' jk_q _ rfl rfl rfl _; rotate_left; (apply q_fld0; exact rfl; exact rfl))
      focus (refine' jk_q _ rfl rfl rfl _; rotate_left; (apply q_load; exact rfl; exact rfl; (first | exact cell_own (by (repeat (first | exact .here | apply Mem.there)); first | done | fail) rfl | exact cellR (by assumption) (by (repeat (first | exact .here | apply Mem.there)); first | done | fail) | exact cellH (by assumption) (by (repeat (first | exact .here | apply Mem.there)); first | done | fail) | exact cell_ints (by (repeat (first | exact .here | apply Mem.there)); first | done | fail) (by omega) | exact cell_bools (by assumption) (by (repeat (first | exact .here | apply Mem.there)); first | done | fail) | exact cell_intsR (by (repeat (first | exact .here | apply Mem.there)); first | done | fail) (by omega) | exact cell_boolsR (by assumption) (by (repeat (first | exact .here | apply Mem.there)); first | done | fail))))
      focus (refine' jk_q _ rfl rfl rfl _; rotate_left; (apply q_ltF; exact rfl; exact rfl; omega))
      focus (refine' jk_q _ rfl rfl rfl _; rotate_left; (apply q_pick_f; exact rfl; exact rfl))
      focus (refine' jk_q _ rfl rfl rfl _; rotate_left; (apply q_move; exact rfl))
      focus (refine' jk_q _ rfl rfl rfl _; rotate_left; (apply q_fld0; exact rfl; exact rfl))
      focus (refine' jk_q _ rfl rfl rfl _; rotate_left; (apply q_load; exact rfl; exact rfl; (first | exact cell_own (by (repeat (first | exact .here | apply Mem.there)); first | done | fail) rfl | exact cellR (by assumption) (by (repeat (first | exact .here | apply Mem.there)); first | done | fail) | exact cellH (by assumption) (by (repeat (first | exact .here | apply Mem.there)); first | done | fail) | exact cell_ints (by (repeat (first | exact .here | apply Mem.there)); first | done | fail) (by omega) | exact cell_bools (by assumption) (by (repeat (first | exact .here | apply Mem.there)); first | done | fail) | exact cell_intsR (by (repeat (first | exact .here | apply Mem.there)); first | done | fail) (by omega) | exact cell_boolsR (by assumption) (by (repeat (first | exact .here | apply Mem.there)); first | done | fail))))
      focus (refine' jk_q _ rfl rfl rfl _; rotate_left; (apply q_move; exact rfl))
      focus (refine' jk_q _ rfl rfl rfl _; rotate_left; (apply q_geF; exact rfl; exact rfl; omega))
      focus (refine' jk_q _ rfl rfl rfl _; rotate_left; (apply q_pick_f; exact rfl; exact rfl))
      focus (refine' jk_q _ rfl rfl rfl _; rotate_left; (apply q_move; exact rfl))
      focus (refine' jk_q _ rfl rfl rfl _; rotate_left; (apply q_fld0; exact rfl; exact rfl))
      focus (refine' jk_q _ rfl rfl rfl _; rotate_left; (apply q_load; exact rfl; exact rfl; (first | exact cell_own (by (repeat (first | exact .here | apply Mem.there)); first | done | fail) rfl | exact cellR (by assumption) (by (repeat (first | exact .here | apply Mem.there)); first | done | fail) | exact cellH (by assumption) (by (repeat (first | exact .here | apply Mem.there)); first | done | fail) | exact cell_ints (by (repeat (first | exact .here | apply Mem.there)); first | done | fail) (by omega) | exact cell_bools (by assumption) (by (repeat (first | exact .here | apply Mem.there)); first | done | fail) | exact cell_intsR (by (repeat (first | exact .here | apply Mem.there)); first | done | fail) (by omega) | exact cell_boolsR (by assumption) (by (repeat (first | exact .here | apply Mem.there)); first | done | fail))))
      focus (refine' jk_q _ rfl rfl rfl _; rotate_left; (apply q_fld0; exact rfl; exact rfl))
      focus (refine' jk_q _ rfl rfl rfl _; rotate_left; (apply q_load; exact rfl; exact rfl; (first | exact cell_own (by (repeat (first | exact .here | apply Mem.there)); first | done | fail) rfl | exact cellR (by assumption) (by (repeat (first | exact .here | apply Mem.there)); first | done | fail) | exact cellH (by assumption) (by (repeat (first | exact .here | apply Mem.there)); first | done | fail) | exact cell_ints (by (repeat (first | exact .here | apply Mem.there)); first | done | fail) (by omega) | exact cell_bools (by assumption) (by (repeat (first | exact .here | apply Mem.there)); first | done | fail) | exact cell_intsR (by (repeat (first | exact .here | apply Mem.there)); first | done | fail) (by omega) | exact cell_boolsR (by assumption) (by (repeat (first | exact .here | apply Mem.there)); first | done | fail))))
      focus (refine' jk_q _ rfl rfl rfl _; rotate_left; (apply q_eqF; exact rfl; exact rfl; omega))
      focus (refine' jk_q _ rfl rfl rfl _; rotate_left; (apply q_pick_f; exact rfl; exact rfl))
      focus (refine' jk_q _ rfl rfl rfl _; rotate_left; (apply q_move; exact rfl))
      focus (refine' jk_q _ rfl rfl rfl _; rotate_left; (apply q_fld0; exact rfl; exact rfl))
      focus (refine' jk_q _ rfl rfl rfl _; rotate_left; (apply q_load; exact rfl; exact rfl; (first | exact cell_own (by (repeat (first | exact .here | apply Mem.there)); first | done | fail) rfl | exact cellR (by assumption) (by (repeat (first | exact .here | apply Mem.there)); first | done | fail) | exact cellH (by assumption) (by (repeat (first | exact .here | apply Mem.there)); first | done | fail) | exact cell_ints (by (repeat (first | exact .here | apply Mem.there)); first | done | fail) (by omega) | exact cell_bools (by assumption) (by (repeat (first | exact .here | apply Mem.there)); first | done | fail) | exact cell_intsR (by (repeat (first | exact .here | apply Mem.there)); first | done | fail) (by omega) | exact cell_boolsR (by assumption) (by (repeat (first | exact .here | apply Mem.there)); first | done | fail))))
      focus (refine' jk_q _ rfl rfl rfl _; rotate_left; (apply q_ltF; exact rfl; exact rfl; omega))
      focus (refine' jk_q _ rfl rfl rfl _; rotate_left; (apply q_pick_f; exact rfl; exact rfl))
      focus (refine' jk_q _ rfl rfl rfl _; rotate_left; (apply q_move; exact rfl))
      focus (refine' jk_q _ rfl rfl rfl _; rotate_left; (apply q_fld0; exact rfl; exact rfl))
      focus (refine' jk_q _ rfl rfl rfl _; rotate_left; (apply q_load; exact rfl; exact rfl; (first | exact cell_own (by (repeat (first | exact .here | apply Mem.there)); first | done | fail) rfl | exact cellR (by assumption) (by (repeat (first | exact .here | apply Mem.there)); first | done | fail) | exact cellH (by assumption) (by (repeat (first | exact .here | apply Mem.there)); first | done | fail) | exact cell_ints (by (repeat (first | exact .here | apply Mem.there)); first | done | fail) (by omega) | exact cell_bools (by assumption) (by (repeat (first | exact .here | apply Mem.there)); first | done | fail) | exact cell_intsR (by (repeat (first | exact .here | apply Mem.there)); first | done | fail) (by omega) | exact cell_boolsR (by assumption) (by (repeat (first | exact .here | apply Mem.there)); first | done | fail))))
      focus (refine' jk_q _ rfl rfl rfl _; rotate_left; (apply q_gtF; exact rfl; exact rfl; omega))
      focus (refine' jk_q _ rfl rfl rfl _; rotate_left; (apply q_pick_f; exact rfl; exact rfl))
      refine jk_nil ?_
      refine jk_if_f rfl ?_
      refine jk_skip ?_
      refine jk_blk ?_
      refine jk_region ?_
      focus (refine' jk_q _ rfl rfl rfl _; rotate_left; (apply q_move; exact rfl))
      focus (refine' jk_q _ rfl rfl rfl _; rotate_left; (apply q_inc; exact rfl; exact rfl; omega))
      focus (refine' jk_q _ rfl rfl rfl _; rotate_left; (apply q_assign; exact rfl))
      refine jk_nil ?_
      refine jk_round (k + 1) ⟨by omega, fun x hx' => ?_⟩ (by omega) (by (repeat (first | exact trivial | refine And.intro rfl ?_)); first | done | fail) (by (repeat (first | exact Sel.nil | (apply Sel.cons; (focus ((repeat (first | exact .here | apply Mem.there | apply Take.there)); first | done | fail))))); first | done | fail)
      rw [List.take_succ_eq_append_getElem hlt] at hx'
      rcases List.mem_append.1 hx' with hx' | hx'
      · exact hno x hx'
      · rw [List.mem_singleton.1 hx']; exact hok
    · have hok' := hok
      unfold okArc at hok'
      rw [decide_eq_true_eq] at hok'
      have hchk : chk n l = 2 := by
        unfold chk
        rw [if_neg c1, if_neg c2, if_neg]
        intro h
        rw [List.all_eq_true] at h
        exact hok (h l[k] (List.getElem_mem hlt))
      repeat' (first
        | (refine' jk_q _ rfl rfl rfl _; rotate_left; (first | (first | (apply q_move; exact rfl) | (apply q_assign; exact rfl) | (apply q_extract; exact rfl; exact rfl) | (apply q_load; exact rfl; exact rfl; (first | exact cell_own (by (repeat (first | exact .here | apply Mem.there)); first | done | fail) rfl | exact cellR (by assumption) (by (repeat (first | exact .here | apply Mem.there)); first | done | fail) | exact cellH (by assumption) (by (repeat (first | exact .here | apply Mem.there)); first | done | fail) | exact cell_ints (by (repeat (first | exact .here | apply Mem.there)); first | done | fail) (by omega) | exact cell_bools (by assumption) (by (repeat (first | exact .here | apply Mem.there)); first | done | fail) | exact cell_intsR (by (repeat (first | exact .here | apply Mem.there)); first | done | fail) (by omega) | exact cell_boolsR (by assumption) (by (repeat (first | exact .here | apply Mem.there)); first | done | fail))) | (apply q_fld0; exact rfl; exact rfl) | (apply q_fldZ; exact rfl; exact rfl) | (apply q_fld; exact rfl; exact rfl) | (apply q_idx0; exact rfl; exact rfl; exact rfl; exact rfl; omega) | (apply q_idx1; exact rfl; exact rfl; exact rfl; exact rfl; omega) | (apply q_idxN; exact rfl; exact rfl; exact rfl; exact rfl; omega) | (apply q_idxZ; exact rfl; exact rfl; exact rfl; exact rfl; omega) | (apply q_pick_t; exact rfl; exact rfl)) | (first | (apply q_pick_f; exact rfl; exact rfl) | (apply q_len; exact rfl; exact rfl) | (apply q_not; exact rfl) | (apply q_nilCheck; exact rfl) | (apply q_nilCheckF; exact rfl) | (apply q_nilCheckY; exact rfl) | (apply q_inc; exact rfl; exact rfl; omega) | (apply q_lt; exact rfl; exact rfl; omega) | (apply q_ltF; exact rfl; exact rfl; omega) | (apply q_eq; exact rfl; exact rfl; omega) | (apply q_eqF; exact rfl; exact rfl; omega) | (apply q_ne; exact rfl; exact rfl; omega)) | (first | (apply q_neF; exact rfl; exact rfl; omega) | (apply q_gt; exact rfl; exact rfl; omega) | (apply q_gtF; exact rfl; exact rfl; omega) | (apply q_le; exact rfl; exact rfl; omega) | (apply q_leF; exact rfl; exact rfl; omega) | (apply q_ge; exact rfl; exact rfl; omega) | (apply q_geF; exact rfl; exact rfl; omega) | (apply q_sub_nat; exact rfl; exact rfl; omega; omega) | (apply q_add; exact rfl; exact rfl; exact ⟨by omega, by omega⟩) | (apply q_sub; exact rfl; exact rfl; exact ⟨by omega, by omega⟩) | (apply q_dbl; exact rfl; exact rfl; omega) | (apply q_mul; exact rfl; exact rfl; exact ⟨by omega, by omega⟩)) | (first | (apply q_half; exact rfl; exact rfl; omega) | (apply q_par; exact rfl; exact rfl) | (apply q_quo; exact rfl; exact rfl; omega; omega; omega) | (apply q_rem; exact rfl; exact rfl; omega; omega) | (apply q_loadS; exact rfl; exact rfl; (first | exact cells_own (by (repeat (first | exact .here | apply Mem.there)); first | done | fail) | exact cellsR (by assumption) (by (repeat (first | exact .here | apply Mem.there)); first | done | fail) | exact cellsH (by assumption) (by (repeat (first | exact .here | apply Mem.there)); first | done | fail)); exact rfl) | (apply q_min; exact rfl; exact rfl) | (apply q_max; exact rfl; exact rfl) | (apply q_makeFunc; exact rfl; exact rfl) | (apply q_field; exact rfl; exact rfl) | (apply q_build; exact rfl; exact rfl; exact (by (repeat (first | exact Bld.nil | apply Bld.put rfl rfl rfl | apply Bld.keep rfl)); first | done | fail)) | (apply q_neg; exact rfl; exact ⟨by omega, by omega⟩))))
        | refine jk_seq ?_
        | refine jk_region ?_
        | refine jk_nil ?_
        | refine jk_block ?_
        | refine jk_blk ?_
        | refine jk_skip ?_
        | refine jk_if_t rfl ?_
        | refine jk_if_f rfl ?_
        | refine jk_exit rfl ?_
        | refine jk_pass rfl rfl rfl ?_
        | (refine' jk_op _ rfl rfl rfl _; rotate_left; (first | (apply l_makeV; exact rfl; exact rfl; exact rfl; exact rfl; exact rfl; exact rfl; omega; omega) | (apply l_makeI; exact rfl; exact rfl; exact rfl; exact rfl; exact rfl; exact rfl; omega; omega) | (apply l_makeB; exact rfl; exact rfl; exact rfl; exact rfl; exact rfl; exact rfl; omega; omega) | (apply l_allocS; exact rfl) | (apply l_alloc1; exact rfl; exact rfl) | (apply l_buildSlice; exact rfl; exact rfl; exact rfl; exact rfl; exact rfl; exact (by (repeat (first | exact (fun v hv => absurd hv List.not_mem_nil) | (refine List.forall_mem_cons.2 ⟨?_, ?_⟩; (focus (first | exact rfl | assumption))))); first | done | fail); exact (by (repeat (first | exact Flat.nil | apply Flat.one rfl | apply Flat.agg2 | apply Flat.agg3 | apply Flat.agg1 | apply Flat.agg4 | apply Flat.agg5)); first | done | fail); exact rfl) | (apply l_boxS; exact rfl) | (apply l_box1; exact rfl; exact rfl)); rintro _ _ ⟨b, rfl, rfl⟩)
        | (refine' jk_op_none _ rfl rfl _; rotate_left; (first | (apply l_storeI; exact rfl; exact rfl; exact rfl; exact (by (repeat (first | exact .here | apply Take.there)); first | done | fail); omega) | (apply l_storeB; exact rfl; exact rfl; exact rfl; exact (by (repeat (first | exact .here | apply Take.there)); first | done | fail); omega) | (apply l_storeS; exact rfl; exact rfl; exact (by (repeat (first | exact .here | apply Take.there)); first | done | fail); exact (by (repeat (first | exact (fun v hv => absurd hv List.not_mem_nil) | (refine List.forall_mem_cons.2 ⟨?_, ?_⟩; (focus (first | exact rfl | assumption))))); first | done | fail); exact rfl; exact rfl) | (apply l_storeL; exact rfl; exact rfl; (first | exact rfl | assumption); exact rfl; exact (by (repeat (first | exact .here | apply Take.there)); first | done | fail); (focus (repeat (first | exact SetL.here | apply SetL.there)); done)) | (apply l_store; exact rfl; exact rfl; (first | exact rfl | assumption); exact rfl; exact (by (repeat (first | exact .here | apply Take.there)); first | done | fail); exact (by first | decide | (simp; done) | (simp; omega)))); rintro _ _ ⟨rfl, rfl⟩)
        | (refine jk_cmp rfl rfl (cmp_eq _ _) rfl rfl (fun h => ?_) (fun h => ?_))
        | (refine jk_cmp rfl rfl (cmp_ne _ _) rfl rfl (fun h => ?_) (fun h => ?_))
        | (refine jk_cmp rfl rfl (cmp_lt _ _) rfl rfl (fun h => ?_) (fun h => ?_))
        | (refine jk_cmp rfl rfl (cmp_le _ _) rfl rfl (fun h => ?_) (fun h => ?_))
        | (refine jk_cmp rfl rfl (cmp_gt _ _) rfl rfl (fun h => ?_) (fun h => ?_))
        | (refine jk_cmp rfl rfl (cmp_ge _ _) rfl rfl (fun h => ?_) (fun h => ?_))
        | (refine jk_if rfl (fun h => ?_) (fun h => ?_))
        | fail)
      all_goals first
        | (exfalso; omega)
        | exact jk_ret_any (res1 rfl rfl) (by (repeat (first | exact rs_nil | (refine rs_cons ?_ ?_; (focus ((repeat (first | exact .here | apply Mem.there | apply Take.there)); first | done | fail))) | exact fun ρ hρ => hρ | (intro ρ hρ; repeat (first | exact hρ | refine List.mem_cons_of_mem _ ?_)))); first | done | fail) (by (repeat (first | exact Sel.nil | (apply Sel.cons; (focus ((repeat (first | exact .here | apply Mem.there | apply Take.there)); first | done | fail))))); first | done | fail) ⟨rfl, by rw [hchk]⟩
  · refine jk_seq ?_
    refine jk_seq ?_
    refine jk_region ?_
    focus (refine' jk_q _ rfl rfl rfl _; rotate_left; (apply q_move; exact rfl))
    focus (refine' jk_q _ rfl rfl rfl _; rotate_left; (apply q_move; exact rfl))
    focus (refine' jk_q _ rfl rfl rfl _; rotate_left; (apply q_len; exact rfl; exact rfl))
    focus (refine' jk_q _ rfl rfl rfl _; rotate_left; (apply q_ltF; exact rfl; exact rfl; omega))
    refine jk_nil ?_
    refine jk_if_f rfl ?_
    refine jk_exit rfl ?_
    refine jk_seq ?_
    refine jk_region ?_
    focus (refine' jk_q _ rfl rfl rfl _; rotate_left; (apply q_assign; exact rfl))
    refine jk_nil ?_
    refine jk_ret_any (res1 rfl rfl) (by (repeat (first | exact rs_nil | (refine rs_cons ?_ ?_; (focus ((repeat (first | exact .here | apply Mem.there | apply Take.there)); first | done | fail))) | exact fun ρ hρ => hρ | (intro ρ hρ; repeat (first | exact hρ | refine List.mem_cons_of_mem _ ?_)))); first | done | fail) (by (repeat (first | exact Sel.nil | (apply Sel.cons; (focus ((repeat (first | exact .here | apply Mem.there | apply Take.there)); first | done | fail))))); first | done | fail) ⟨rfl, ?_⟩
    have hkl : k = l.length := by omega
    subst hkl
    rw [List.take_length] at hno
    unfold chk
    rw [if_neg c1, if_neg c2, if_pos (by rw [List.all_eq_true]; exact hno)]

theorem refEnds_spec (ρ : PH) (v : Value) (n s t : Int) (l : List Arc) (hv : ArcsAt ρ v l) (hl : l.length ≤ 1000000) :
    Ans Try.prog (fv 36) [int n, v, int s, int t] [ρ] (fun u => u = int (if chk n l ≠ 0 then chk n l else if okEnds n s t then 0 else 2)) := by
  refine spec_in (cap := []) Try.func36 rfl rfl Try.ntmps36 rfl (by (repeat (first | exact EnvA.nil EnvI.nil | apply EnvA.cons | apply EnvA.nil | exact EnvI.nil | apply EnvI.cons)); first | done | fail) (fun N β => ?_)
  repeat' (first
    | (refine' jk_q _ rfl rfl rfl _; rotate_left; (first | (first | (apply q_move; exact rfl) | (apply q_assign; exact rfl) | (apply q_extract; exact rfl; exact rfl) | (apply q_load; exact rfl; exact rfl; (first | exact cell_own (by (repeat (first | exact .here | apply Mem.there)); first | done | fail) rfl | exact cellR (by assumption) (by (repeat (first | exact .here | apply Mem.there)); first | done | fail) | exact cellH (by assumption) (by (repeat (first | exact .here | apply Mem.there)); first | done | fail) | exact cell_ints (by (repeat (first | exact .here | apply Mem.there)); first | done | fail) (by omega) | exact cell_bools (by assumption) (by (repeat (first | exact .here | apply Mem.there)); first | done | fail) | exact cell_intsR (by (repeat (first | exact .here | apply Mem.there)); first | done | fail) (by omega) | exact cell_boolsR (by assumption) (by (repeat (first | exact .here | apply Mem.there)); first | done | fail))) | (apply q_fld0; exact rfl; exact rfl) | (apply q_fldZ; exact rfl; exact rfl) | (apply q_fld; exact rfl; exact rfl) | (apply q_idx0; exact rfl; exact rfl; exact rfl; exact rfl; omega) | (apply q_idx1; exact rfl; exact rfl; exact rfl; exact rfl; omega) | (apply q_idxN; exact rfl; exact rfl; exact rfl; exact rfl; omega) | (apply q_idxZ; exact rfl; exact rfl; exact rfl; exact rfl; omega) | (apply q_pick_t; exact rfl; exact rfl)) | (first | (apply q_pick_f; exact rfl; exact rfl) | (apply q_len; exact rfl; exact rfl) | (apply q_not; exact rfl) | (apply q_nilCheck; exact rfl) | (apply q_nilCheckF; exact rfl) | (apply q_nilCheckY; exact rfl) | (apply q_inc; exact rfl; exact rfl; omega) | (apply q_lt; exact rfl; exact rfl; omega) | (apply q_ltF; exact rfl; exact rfl; omega) | (apply q_eq; exact rfl; exact rfl; omega) | (apply q_eqF; exact rfl; exact rfl; omega) | (apply q_ne; exact rfl; exact rfl; omega)) | (first | (apply q_neF; exact rfl; exact rfl; omega) | (apply q_gt; exact rfl; exact rfl; omega) | (apply q_gtF; exact rfl; exact rfl; omega) | (apply q_le; exact rfl; exact rfl; omega) | (apply q_leF; exact rfl; exact rfl; omega) | (apply q_ge; exact rfl; exact rfl; omega) | (apply q_geF; exact rfl; exact rfl; omega) | (apply q_sub_nat; exact rfl; exact rfl; omega; omega) | (apply q_add; exact rfl; exact rfl; exact ⟨by omega, by omega⟩) | (apply q_sub; exact rfl; exact rfl; exact ⟨by omega, by omega⟩) | (apply q_dbl; exact rfl; exact rfl; omega) | (apply q_mul; exact rfl; exact rfl; exact ⟨by omega, by omega⟩)) | (first | (apply q_half; exact rfl; exact rfl; omega) | (apply q_par; exact rfl; exact rfl) | (apply q_quo; exact rfl; exact rfl; omega; omega; omega) | (apply q_rem; exact rfl; exact rfl; omega; omega) | (apply q_loadS; exact rfl; exact rfl; (first | exact cells_own (by (repeat (first | exact .here | apply Mem.there)); first | done | fail) | exact cellsR (by assumption) (by (repeat (first | exact .here | apply Mem.there)); first | done | fail) | exact cellsH (by assumption) (by (repeat (first | exact .here | apply Mem.there)); first | done | fail)); exact rfl) | (apply q_min; exact rfl; exact rfl) | (apply q_max; exact rfl; exact rfl) | (apply q_makeFunc; exact rfl; exact rfl) | (apply q_field; exact rfl; exact rfl) | (apply q_build; exact rfl; exact rfl; exact (by (repeat (first | exact Bld.nil | apply Bld.put rfl rfl rfl | apply Bld.keep rfl)); first | done | fail)) | (apply q_neg; exact rfl; exact ⟨by omega, by omega⟩))))
    | refine jk_seq ?_
    | refine jk_region ?_
    | refine jk_nil ?_
    | refine jk_block ?_
    | refine jk_blk ?_
    | refine jk_skip ?_
    | refine jk_if_t rfl ?_
    | refine jk_if_f rfl ?_
    | refine jk_exit rfl ?_
    | refine jk_pass rfl rfl rfl ?_
    | (refine jk_call (refCheck_spec ρ v n l hv hl) rfl rfl (by (repeat (first | exact RdOK.nil | (refine RdOK.consR ?_ ?_; (focus ((repeat (first | exact .here | apply Mem.there | apply Take.there)); first | done | fail))) | (refine RdOK.consH ?_ ?_; (focus ((repeat (first | exact .here | apply Mem.there | apply Take.there)); first | done | fail))) | exact (fun τ hτ => .inl (by simp [hτ])))); first | done | fail) rfl rfl ?_; rintro u rfl)
    | (refine' jk_op _ rfl rfl rfl _; rotate_left; (first | (apply l_makeV; exact rfl; exact rfl; exact rfl; exact rfl; exact rfl; exact rfl; omega; omega) | (apply l_makeI; exact rfl; exact rfl; exact rfl; exact rfl; exact rfl; exact rfl; omega; omega) | (apply l_makeB; exact rfl; exact rfl; exact rfl; exact rfl; exact rfl; exact rfl; omega; omega) | (apply l_allocS; exact rfl) | (apply l_alloc1; exact rfl; exact rfl) | (apply l_buildSlice; exact rfl; exact rfl; exact rfl; exact rfl; exact rfl; exact (by (repeat (first | exact (fun v hv => absurd hv List.not_mem_nil) | (refine List.forall_mem_cons.2 ⟨?_, ?_⟩; (focus (first | exact rfl | assumption))))); first | done | fail); exact (by (repeat (first | exact Flat.nil | apply Flat.one rfl | apply Flat.agg2 | apply Flat.agg3 | apply Flat.agg1 | apply Flat.agg4 | apply Flat.agg5)); first | done | fail); exact rfl) | (apply l_boxS; exact rfl) | (apply l_box1; exact rfl; exact rfl)); rintro _ _ ⟨b, rfl, rfl⟩)
    | (refine' jk_op_none _ rfl rfl _; rotate_left; (first | (apply l_storeI; exact rfl; exact rfl; exact rfl; exact (by (repeat (first | exact .here | apply Take.there)); first | done | fail); omega) | (apply l_storeB; exact rfl; exact rfl; exact rfl; exact (by (repeat (first | exact .here | apply Take.there)); first | done | fail); omega) | (apply l_storeS; exact rfl; exact rfl; exact (by (repeat (first | exact .here | apply Take.there)); first | done | fail); exact (by (repeat (first | exact (fun v hv => absurd hv List.not_mem_nil) | (refine List.forall_mem_cons.2 ⟨?_, ?_⟩; (focus (first | exact rfl | assumption))))); first | done | fail); exact rfl; exact rfl) | (apply l_storeL; exact rfl; exact rfl; (first | exact rfl | assumption); exact rfl; exact (by (repeat (first | exact .here | apply Take.there)); first | done | fail); (focus (repeat (first | exact SetL.here | apply SetL.there)); done)) | (apply l_store; exact rfl; exact rfl; (first | exact rfl | assumption); exact rfl; exact (by (repeat (first | exact .here | apply Take.there)); first | done | fail); exact (by first | decide | (simp; done) | (simp; omega)))); rintro _ _ ⟨rfl, rfl⟩)
    | (refine jk_cmp rfl rfl (cmp_eq _ _) rfl rfl (fun h => ?_) (fun h => ?_))
    | (refine jk_cmp rfl rfl (cmp_ne _ _) rfl rfl (fun h => ?_) (fun h => ?_))
    | (refine jk_cmp rfl rfl (cmp_lt _ _) rfl rfl (fun h => ?_) (fun h => ?_))
    | (refine jk_cmp rfl rfl (cmp_le _ _) rfl rfl (fun h => ?_) (fun h => ?_))
    | (refine jk_cmp rfl rfl (cmp_gt _ _) rfl rfl (fun h => ?_) (fun h => ?_))
    | (refine jk_cmp rfl rfl (cmp_ge _ _) rfl rfl (fun h => ?_) (fun h => ?_))
    | (refine jk_if rfl (fun h => ?_) (fun h => ?_))
    | fail)
  all_goals refine jk_ret_any (res1 rfl rfl) (by (repeat (first | exact rs_nil | (refine rs_cons ?_ ?_; (focus ((repeat (first | exact .here | apply Mem.there | apply Take.there)); first | done | fail))) | exact fun ρ hρ => hρ | (intro ρ hρ; repeat (first | exact hρ | refine List.mem_cons_of_mem _ ?_)))); first | done | fail) (by (repeat (first | exact Sel.nil | (apply Sel.cons; (focus ((repeat (first | exact .here | apply Mem.there | apply Take.there)); first | done | fail))))); first | done | fail) ⟨rfl, ?_⟩
  · rw [if_pos (by assumption)]
  all_goals rw [if_neg (by assumption)]
  all_goals first
    | rw [if_pos (by unfold okEnds; rw [decide_eq_true_eq]; omega)]
    | rw [if_neg (by unfold okEnds; rw [decide_eq_true_eq]; omega)]

def great (n : Int) (k : Nat) : Bool := decide ((10 < n ∧ n ≤ 2000) ∨ 24 < k)
theorem refGreat_spec (p : Option Addr) (n : Int) (k c : Nat) :
    Ans Try.prog (fv 32) [int n, .slice p k c] [] (fun u => u = .bool (great n k)) := by
  refine spec_in (cap := []) Try.func32 rfl rfl Try.ntmps32 rfl (by (repeat (first | exact EnvA.nil EnvI.nil | apply EnvA.cons | apply EnvA.nil | exact EnvI.nil | apply EnvI.cons)); first | done | fail) (fun N β => ?_)
  repeat' (first
    | (refine' jk_q _ rfl rfl rfl _; rotate_left; (first | (first | (apply q_move; exact rfl) | (apply q_assign; exact rfl) | (apply q_extract; exact rfl; exact rfl) | (apply q_load; exact rfl; exact rfl; (first | exact cell_own (by (repeat (first | exact .here | apply Mem.there)); first | done | fail) rfl | exact cellR (by assumption) (by (repeat (first | exact .here | apply Mem.there)); first | done | fail) | exact cellH (by assumption) (by (repeat (first | exact .here | apply Mem.there)); first | done | fail) | exact cell_ints (by (repeat (first | exact .here | apply Mem.there)); first | done | fail) (by omega) | exact cell_bools (by assumption) (by (repeat (first | exact .here | apply Mem.there)); first | done | fail) | exact cell_intsR (by (repeat (first | exact .here | apply Mem.there)); first | done | fail) (by omega) | exact cell_boolsR (by assumption) (by (repeat (first | exact .here | apply Mem.there)); first | done | fail))) | (apply q_fld0; exact rfl; exact rfl) | (apply q_fldZ; exact rfl; exact rfl) | (apply q_fld; exact rfl; exact rfl) | (apply q_idx0; exact rfl; exact rfl; exact rfl; exact rfl; omega) | (apply q_idx1; exact rfl; exact rfl; exact rfl; exact rfl; omega) | (apply q_idxN; exact rfl; exact rfl; exact rfl; exact rfl; omega) | (apply q_idxZ; exact rfl; exact rfl; exact rfl; exact rfl; omega) | (apply q_pick_t; exact rfl; exact rfl)) | (first | (apply q_pick_f; exact rfl; exact rfl) | (apply q_len; exact rfl; exact rfl) | (apply q_not; exact rfl) | (apply q_nilCheck; exact rfl) | (apply q_nilCheckF; exact rfl) | (apply q_nilCheckY; exact rfl) | (apply q_inc; exact rfl; exact rfl; omega) | (apply q_lt; exact rfl; exact rfl; omega) | (apply q_ltF; exact rfl; exact rfl; omega) | (apply q_eq; exact rfl; exact rfl; omega) | (apply q_eqF; exact rfl; exact rfl; omega) | (apply q_ne; exact rfl; exact rfl; omega)) | (first | (apply q_neF; exact rfl; exact rfl; omega) | (apply q_gt; exact rfl; exact rfl; omega) | (apply q_gtF; exact rfl; exact rfl; omega) | (apply q_le; exact rfl; exact rfl; omega) | (apply q_leF; exact rfl; exact rfl; omega) | (apply q_ge; exact rfl; exact rfl; omega) | (apply q_geF; exact rfl; exact rfl; omega) | (apply q_sub_nat; exact rfl; exact rfl; omega; omega) | (apply q_add; exact rfl; exact rfl; exact ⟨by omega, by omega⟩) | (apply q_sub; exact rfl; exact rfl; exact ⟨by omega, by omega⟩) | (apply q_dbl; exact rfl; exact rfl; omega) | (apply q_mul; exact rfl; exact rfl; exact ⟨by omega, by omega⟩)) | (first | (apply q_half; exact rfl; exact rfl; omega) | (apply q_par; exact rfl; exact rfl) | (apply q_quo; exact rfl; exact rfl; omega; omega; omega) | (apply q_rem; exact rfl; exact rfl; omega; omega) | (apply q_loadS; exact rfl; exact rfl; (first | exact cells_own (by (repeat (first | exact .here | apply Mem.there)); first | done | fail) | exact cellsR (by assumption) (by (repeat (first | exact .here | apply Mem.there)); first | done | fail) | exact cellsH (by assumption) (by (repeat (first | exact .here | apply Mem.there)); first | done | fail)); exact rfl) | (apply q_min; exact rfl; exact rfl) | (apply q_max; exact rfl; exact rfl) | (apply q_makeFunc; exact rfl; exact rfl) | (apply q_field; exact rfl; exact rfl) | (apply q_build; exact rfl; exact rfl; exact (by (repeat (first | exact Bld.nil | apply Bld.put rfl rfl rfl | apply Bld.keep rfl)); first | done | fail)) | (apply q_neg; exact rfl; exact ⟨by omega, by omega⟩))))
    | refine jk_seq ?_
    | refine jk_region ?_
    | refine jk_nil ?_
    | refine jk_block ?_
    | refine jk_blk ?_
    | refine jk_skip ?_
    | refine jk_if_t rfl ?_
    | refine jk_if_f rfl ?_
    | refine jk_exit rfl ?_
    | refine jk_pass rfl rfl rfl ?_
    | (refine' jk_op _ rfl rfl rfl _; rotate_left; (first | (apply l_makeV; exact rfl; exact rfl; exact rfl; exact rfl; exact rfl; exact rfl; omega; omega) | (apply l_makeI; exact rfl; exact rfl; exact rfl; exact rfl; exact rfl; exact rfl; omega; omega) | (apply l_makeB; exact rfl; exact rfl; exact rfl; exact rfl; exact rfl; exact rfl; omega; omega) | (apply l_allocS; exact rfl) | (apply l_alloc1; exact rfl; exact rfl) | (apply l_buildSlice; exact rfl; exact rfl; exact rfl; exact rfl; exact rfl; exact (by (repeat (first | exact (fun v hv => absurd hv List.not_mem_nil) | (refine List.forall_mem_cons.2 ⟨?_, ?_⟩; (focus (first | exact rfl | assumption))))); first | done | fail); exact (by (repeat (first | exact Flat.nil | apply Flat.one rfl | apply Flat.agg2 | apply Flat.agg3 | apply Flat.agg1 | apply Flat.agg4 | apply Flat.agg5)); first | done | fail); exact rfl) | (apply l_boxS; exact rfl) | (apply l_box1; exact rfl; exact rfl)); rintro _ _ ⟨b, rfl, rfl⟩)
    | (refine' jk_op_none _ rfl rfl _; rotate_left; (first | (apply l_storeI; exact rfl; exact rfl; exact rfl; exact (by (repeat (first | exact .here | apply Take.there)); first | done | fail); omega) | (apply l_storeB; exact rfl; exact rfl; exact rfl; exact (by (repeat (first | exact .here | apply Take.there)); first | done | fail); omega) | (apply l_storeS; exact rfl; exact rfl; exact (by (repeat (first | exact .here | apply Take.there)); first | done | fail); exact (by (repeat (first | exact (fun v hv => absurd hv List.not_mem_nil) | (refine List.forall_mem_cons.2 ⟨?_, ?_⟩; (focus (first | exact rfl | assumption))))); first | done | fail); exact rfl; exact rfl) | (apply l_storeL; exact rfl; exact rfl; (first | exact rfl | assumption); exact rfl; exact (by (repeat (first | exact .here | apply Take.there)); first | done | fail); (focus (repeat (first | exact SetL.here | apply SetL.there)); done)) | (apply l_store; exact rfl; exact rfl; (first | exact rfl | assumption); exact rfl; exact (by (repeat (first | exact .here | apply Take.there)); first | done | fail); exact (by first | decide | (simp; done) | (simp; omega)))); rintro _ _ ⟨rfl, rfl⟩)
    | (refine jk_cmp rfl rfl (cmp_eq _ _) rfl rfl (fun h => ?_) (fun h => ?_))
    | (refine jk_cmp rfl rfl (cmp_ne _ _) rfl rfl (fun h => ?_) (fun h => ?_))
    | (refine jk_cmp rfl rfl (cmp_lt _ _) rfl rfl (fun h => ?_) (fun h => ?_))
    | (refine jk_cmp rfl rfl (cmp_le _ _) rfl rfl (fun h => ?_) (fun h => ?_))
    | (refine jk_cmp rfl rfl (cmp_gt _ _) rfl rfl (fun h => ?_) (fun h => ?_))
    | (refine jk_cmp rfl rfl (cmp_ge _ _) rfl rfl (fun h => ?_) (fun h => ?_))
    | (refine jk_if rfl (fun h => ?_) (fun h => ?_))
    | fail)
  all_goals refine jk_ret_any (res1 rfl rfl) (by (repeat (first | exact rs_nil | (refine rs_cons ?_ ?_; (focus ((repeat (first | exact .here | apply Mem.there | apply Take.there)); first | done | fail))) | exact fun ρ hρ => hρ | (intro ρ hρ; repeat (first | exact hρ | refine List.mem_cons_of_mem _ ?_)))); first | done | fail) (by (repeat (first | exact Sel.nil | (apply Sel.cons; (focus ((repeat (first | exact .here | apply Mem.there | apply Take.there)); first | done | fail))))); first | done | fail) ⟨rfl, ?_⟩
  all_goals first
    | rw [show great n k = true from by unfold great; rw [decide_eq_true_eq]; omega]
    | rw [show great n k = false from by unfold great; rw [decide_eq_false_iff_not]; omega]
theorem lawGreat_spec (p : Option Addr) (n s t : Int) (k c : Nat) :
    Ans Try.prog (fv 11) [.agg #[int n, .slice p k c, int s, int t]] [] (fun u => u = .bool (great n k)) := by
  refine spec_in (cap := []) Try.func11 rfl rfl Try.ntmps11 rfl (by (repeat (first | exact EnvA.nil EnvI.nil | apply EnvA.cons | apply EnvA.nil | exact EnvI.nil | apply EnvI.cons)); first | done | fail) (fun N β => ?_)
  refine jk_seq ?_
  refine jk_region ?_
  focus (refine' jk_op _ rfl rfl rfl _; rotate_left; (apply l_boxS; exact rfl); rintro _ _ ⟨b, rfl, rfl⟩)
  focus (refine' jk_q _ rfl rfl rfl _; rotate_left; (apply q_assign; exact rfl))
  refine jk_nil ?_
  refine jk_seq ?_
  refine jk_region ?_
  focus (refine' jk_q _ rfl rfl rfl _; rotate_left; (apply q_fld0; exact rfl; exact rfl))
  focus (refine' jk_q _ rfl rfl rfl _; rotate_left; (apply q_load; exact rfl; exact rfl; (first | exact cell_own (by (repeat (first | exact .here | apply Mem.there)); first | done | fail) rfl | exact cellR (by assumption) (by (repeat (first | exact .here | apply Mem.there)); first | done | fail) | exact cellH (by assumption) (by (repeat (first | exact .here | apply Mem.there)); first | done | fail) | exact cell_ints (by (repeat (first | exact .here | apply Mem.there)); first | done | fail) (by omega) | exact cell_bools (by assumption) (by (repeat (first | exact .here | apply Mem.there)); first | done | fail) | exact cell_intsR (by (repeat (first | exact .here | apply Mem.there)); first | done | fail) (by omega) | exact cell_boolsR (by assumption) (by (repeat (first | exact .here | apply Mem.there)); first | done | fail))))
  focus (refine' jk_q _ rfl rfl rfl _; rotate_left; (apply q_fld0; exact rfl; exact rfl))
  focus (refine' jk_q _ rfl rfl rfl _; rotate_left; (apply q_load; exact rfl; exact rfl; (first | exact cell_own (by (repeat (first | exact .here | apply Mem.there)); first | done | fail) rfl | exact cellR (by assumption) (by (repeat (first | exact .here | apply Mem.there)); first | done | fail) | exact cellH (by assumption) (by (repeat (first | exact .here | apply Mem.there)); first | done | fail) | exact cell_ints (by (repeat (first | exact .here | apply Mem.there)); first | done | fail) (by omega) | exact cell_bools (by assumption) (by (repeat (first | exact .here | apply Mem.there)); first | done | fail) | exact cell_intsR (by (repeat (first | exact .here | apply Mem.there)); first | done | fail) (by omega) | exact cell_boolsR (by assumption) (by (repeat (first | exact .here | apply Mem.there)); first | done | fail))))
  focus ((refine jk_call (refGreat_spec _ _ _ _) rfl rfl (by (repeat (first | exact RdOK.nil | (refine RdOK.consR ?_ ?_; (focus ((repeat (first | exact .here | apply Mem.there | apply Take.there)); first | done | fail))) | (refine RdOK.consH ?_ ?_; (focus ((repeat (first | exact .here | apply Mem.there | apply Take.there)); first | done | fail))) | exact (fun τ hτ => .inl (by simp [hτ])))); first | done | fail) rfl rfl ?_; rintro v rfl))
  focus (refine' jk_q _ rfl rfl rfl _; rotate_left; (apply q_assign; exact rfl))
  refine jk_nil ?_
  exact jk_ret_any (res1 rfl rfl) (by (repeat (first | exact rs_nil | (refine rs_cons ?_ ?_; (focus ((repeat (first | exact .here | apply Mem.there | apply Take.there)); first | done | fail))) | exact fun ρ hρ => hρ | (intro ρ hρ; repeat (first | exact hρ | refine List.mem_cons_of_mem _ ?_)))); first | done | fail) (by (repeat (first | exact Sel.nil | (apply Sel.cons; (focus ((repeat (first | exact .here | apply Mem.there | apply Take.there)); first | done | fail))))); first | done | fail) ⟨rfl, rfl⟩
end Go.Proofs.Ytoccdekghjoldaa
