/- What a node stores, by a map of changes. -/
import Derived.Test.YtnbihndlbopmeaaWSgC
import Derived.Test.YtnbihndlbopmeaaWMbNote
set_option linter.all false
namespace Go.Proofs.Ytnbihndlbopmeaa
open Go.Eng Go.Step
set_option maxRecDepth 100000
set_option maxHeartbeats 4000000

set_option maxHeartbeats 16000000 in
theorem note_spec (bm bt b : Nat) (m : List (Int × Int)) (T : List Int) (u : Value) (σ : PH) (t d : Int) (hO : OwnS 3 1 u T.length (T.flatMap encI) σ) (hT : T.length ≤ 100000) (hd : -4611686018427387904 ≤ (mget t m).getD 0 + d ∧ (mget t m).getD 0 + d ≤ 4611686018427387904) :
    Eng.Spec Try.prog (.func (.func 59) #[] #[.pointer (some ⟨bm, 0, none⟩), .pointer (some ⟨bt, 0, none⟩)]) [int t, int d] [] [sng bm (.cells #[.map (some b)] 90 (0, 0)), sng b (mapO m), sng bt (.cells #[u] 22 (0, 0)), σ]
      (fun r H' => r = .tuple #[] ∧ ∃ u' σ', OwnS 3 1 u' (noteT m T t).length ((noteT m T t).flatMap encI) σ' ∧ H' = [sng bm (.cells #[.map (some b)] 90 (0, 0)), sng b (mapO (mset t ((mget t m).getD 0 + d) m)), sng bt (.cells #[u'] 22 (0, 0)), σ']) := by
  obtain ⟨pu, cu, rfl⟩ := SlAt.cap hO.at
  refine spec_in (cap := [.pointer (some ⟨bm, 0, none⟩), .pointer (some ⟨bt, 0, none⟩)]) Try.func59 rfl rfl Try.ntmps59 rfl (by (repeat (first | exact EnvA.nil EnvI.nil | apply EnvA.cons | apply EnvA.nil | exact EnvI.nil | apply EnvI.cons)); first | done | fail) (fun N β => ?_)
  unfold noteT
  cases hm : mget t m with
  | some w =>
    rw [hm] at hd
    rw [if_neg (by simp)]
    refine jk_seq ?_
    refine jk_seq ?_
    refine jk_region ?_
    focus (refine' jk_q _ rfl rfl rfl _; rotate_left; (apply q_load; exact rfl; exact rfl; (first | exact cell_own (by (repeat (first | exact .here | apply Mem.there)); first | done | fail) rfl | exact cellR (by assumption) (by (repeat (first | exact .here | apply Mem.there)); first | done | fail) | exact cellH (by assumption) (by (repeat (first | exact .here | apply Mem.there)); first | done | fail) | exact cell_ints (by (repeat (first | exact .here | apply Mem.there)); first | done | fail) (by omega) | exact cell_bools (by assumption) (by (repeat (first | exact .here | apply Mem.there)); first | done | fail) | exact cell_intsR (by (repeat (first | exact .here | apply Mem.there)); first | done | fail) (by omega) | exact cell_boolsR (by assumption) (by (repeat (first | exact .here | apply Mem.there)); first | done | fail))))
    focus (refine' jk_q _ rfl rfl rfl _; rotate_left; (apply q_move; exact rfl))
    focus ((refine' jk_q _ rfl rfl rfl _; rotate_left; (apply q_lookup2 (l := m); exact rfl; exact rfl; exact rfl; exact rfl; exact rfl; exact mapAt_own (by (repeat (first | exact .here | apply Mem.there)); first | done | fail)); rw [hm]))
    focus (refine' jk_q _ rfl rfl rfl _; rotate_left; (apply q_move; exact rfl))
    focus (refine' jk_q _ rfl rfl rfl _; rotate_left; (apply q_extract; exact rfl; exact rfl))
    focus (refine' jk_q _ rfl rfl rfl _; rotate_left; (apply q_extract; exact rfl; exact rfl))
    focus (refine' jk_q _ rfl rfl rfl _; rotate_left; (apply q_assign; exact rfl))
    focus (refine' jk_q _ rfl rfl rfl _; rotate_left; (apply q_assign; exact rfl))
    refine jk_nil ?_
    refine jk_seq ?_
    refine jk_region ?_
    focus (refine' jk_q _ rfl rfl rfl _; rotate_left; (apply q_move; exact rfl))
    focus (refine' jk_q _ rfl rfl rfl _; rotate_left; (apply q_not; exact rfl))
    refine jk_nil ?_
    refine jk_if_f rfl ?_
    refine jk_skip ?_
    refine jk_region ?_
    focus (refine' jk_q _ rfl rfl rfl _; rotate_left; (apply q_load; exact rfl; exact rfl; (first | exact cell_own (by (repeat (first | exact .here | apply Mem.there)); first | done | fail) rfl | exact cellR (by assumption) (by (repeat (first | exact .here | apply Mem.there)); first | done | fail) | exact cellH (by assumption) (by (repeat (first | exact .here | apply Mem.there)); first | done | fail) | exact cell_ints (by (repeat (first | exact .here | apply Mem.there)); first | done | fail) (by omega) | exact cell_bools (by assumption) (by (repeat (first | exact .here | apply Mem.there)); first | done | fail) | exact cell_intsR (by (repeat (first | exact .here | apply Mem.there)); first | done | fail) (by omega) | exact cell_boolsR (by assumption) (by (repeat (first | exact .here | apply Mem.there)); first | done | fail))))
    focus (refine' jk_q _ rfl rfl rfl _; rotate_left; (apply q_move; exact rfl))
    focus ((refine' jk_q _ rfl rfl rfl _; rotate_left; (apply q_lookup (l := m); exact rfl; exact rfl; exact rfl; exact rfl; exact rfl; exact mapAt_own (by (repeat (first | exact .here | apply Mem.there)); first | done | fail)); rw [hm]))
    focus (refine' jk_q _ rfl rfl rfl _; rotate_left; (apply q_move; exact rfl))
    focus (refine' jk_q _ rfl rfl rfl _; rotate_left; (apply q_add; exact rfl; exact rfl; exact ⟨by omega, by omega⟩))
    focus ((refine' jk_op_none _ rfl rfl _; rotate_left; (apply l_mapUpdate (l := m); exact rfl; exact rfl; exact rfl; exact rfl; exact rfl; exact (by (repeat (first | exact .here | apply Take.there)); first | done | fail)); rintro _ _ ⟨rfl, rfl⟩))
    refine jk_nil ?_
    exact jk_end_any (res0 rfl) (by (repeat (first | exact rs_nil | (refine rs_cons ?_ ?_; (focus ((repeat (first | exact .here | apply Mem.there | apply Take.there)); first | done | fail))) | exact fun ρ hρ => hρ | (intro ρ hρ; repeat (first | exact hρ | refine List.mem_cons_of_mem _ ?_)))); first | done | fail) (by (repeat (first | exact Sel.nil | (apply Sel.cons; (focus ((repeat (first | exact .here | apply Mem.there | apply Take.there)); first | done | fail))))); first | done | fail) ⟨rfl, _, _, hO, rfl⟩
  | none =>
    rw [hm] at hd
    rw [if_pos rfl]
    refine jk_seq ?_
    refine jk_seq ?_
    refine jk_region ?_
    focus (refine' jk_q _ rfl rfl rfl _; rotate_left; (apply q_load; exact rfl; exact rfl; (first | exact cell_own (by (repeat (first | exact .here | apply Mem.there)); first | done | fail) rfl | exact cellR (by assumption) (by (repeat (first | exact .here | apply Mem.there)); first | done | fail) | exact cellH (by assumption) (by (repeat (first | exact .here | apply Mem.there)); first | done | fail) | exact cell_ints (by (repeat (first | exact .here | apply Mem.there)); first | done | fail) (by omega) | exact cell_bools (by assumption) (by (repeat (first | exact .here | apply Mem.there)); first | done | fail) | exact cell_intsR (by (repeat (first | exact .here | apply Mem.there)); first | done | fail) (by omega) | exact cell_boolsR (by assumption) (by (repeat (first | exact .here | apply Mem.there)); first | done | fail))))
    focus (refine' jk_q _ rfl rfl rfl _; rotate_left; (apply q_move; exact rfl))
    focus ((refine' jk_q _ rfl rfl rfl _; rotate_left; (apply q_lookup2 (l := m); exact rfl; exact rfl; exact rfl; exact rfl; exact rfl; exact mapAt_own (by (repeat (first | exact .here | apply Mem.there)); first | done | fail)); rw [hm]))
    focus (refine' jk_q _ rfl rfl rfl _; rotate_left; (apply q_move; exact rfl))
    focus (refine' jk_q _ rfl rfl rfl _; rotate_left; (apply q_extract; exact rfl; exact rfl))
    focus (refine' jk_q _ rfl rfl rfl _; rotate_left; (apply q_extract; exact rfl; exact rfl))
    focus (refine' jk_q _ rfl rfl rfl _; rotate_left; (apply q_assign; exact rfl))
    focus (refine' jk_q _ rfl rfl rfl _; rotate_left; (apply q_assign; exact rfl))
    refine jk_nil ?_
    refine jk_seq ?_
    refine jk_region ?_
    focus (refine' jk_q _ rfl rfl rfl _; rotate_left; (apply q_move; exact rfl))
    focus (refine' jk_q _ rfl rfl rfl _; rotate_left; (apply q_not; exact rfl))
    refine jk_nil ?_
    refine jk_if_t rfl ?_
    refine jk_region ?_
    focus (refine' jk_q _ rfl rfl rfl _; rotate_left; (apply q_load; exact rfl; exact rfl; (first | exact cell_own (by (repeat (first | exact .here | apply Mem.there)); first | done | fail) rfl | exact cellR (by assumption) (by (repeat (first | exact .here | apply Mem.there)); first | done | fail) | exact cellH (by assumption) (by (repeat (first | exact .here | apply Mem.there)); first | done | fail) | exact cell_ints (by (repeat (first | exact .here | apply Mem.there)); first | done | fail) (by omega) | exact cell_bools (by assumption) (by (repeat (first | exact .here | apply Mem.there)); first | done | fail) | exact cell_intsR (by (repeat (first | exact .here | apply Mem.there)); first | done | fail) (by omega) | exact cell_boolsR (by assumption) (by (repeat (first | exact .here | apply Mem.there)); first | done | fail))))
    focus (refine' jk_q _ rfl rfl rfl _; rotate_left; (apply q_move; exact rfl))
    focus (refine' jk_op _ rfl rfl rfl _; rotate_left; (apply l_buildSlice; exact rfl; exact rfl; exact rfl; exact rfl; exact rfl; exact (by (repeat (first | exact (fun v hv => absurd hv List.not_mem_nil) | (refine List.forall_mem_cons.2 ⟨?_, ?_⟩; (focus (first | exact rfl | assumption))))); first | done | fail); exact (by (repeat (first | exact Flat.nil | apply Flat.one rfl | apply Flat.agg2 | apply Flat.agg3 | apply Flat.agg1 | apply Flat.agg4 | apply Flat.agg5)); first | done | fail); exact rfl); rintro _ _ ⟨b, rfl, rfl⟩)
    refine jk_op (l_append (by_ := 8) (s := 1) (news := [int t]) rfl rfl rfl rfl rfl rfl rfl hO (by (repeat (first | exact .here | apply Take.there)); first | done | fail) (cells_own (by (repeat (first | exact .here | apply Mem.there)); first | done | fail)) rfl (by (repeat (first | exact (fun v hv => absurd hv List.not_mem_nil) | (refine List.forall_mem_cons.2 ⟨?_, ?_⟩; (focus (first | exact rfl | assumption))))); first | done | fail) (by omega) (by simp only [maxLen]; omega) (by omega)) rfl rfl rfl ?_
    rintro u1 _ ⟨σ1, hO1, rfl⟩
    have hu1 : u1.oneCell' = true := by obtain ⟨p, c, rfl⟩ := SlAt.cap hO1.at; rfl
    focus (refine' jk_op_none _ rfl rfl _; rotate_left; (apply l_storeL; exact rfl; exact rfl; (first | exact rfl | assumption); exact rfl; exact (by (repeat (first | exact .here | apply Take.there)); first | done | fail); (focus (repeat (first | exact SetL.here | apply SetL.there)); done)); rintro _ _ ⟨rfl, rfl⟩)
    refine jk_nil ?_
    refine jk_region ?_
    focus (refine' jk_q _ rfl rfl rfl _; rotate_left; (apply q_load; exact rfl; exact rfl; (first | exact cell_own (by (repeat (first | exact .here | apply Mem.there)); first | done | fail) rfl | exact cellR (by assumption) (by (repeat (first | exact .here | apply Mem.there)); first | done | fail) | exact cellH (by assumption) (by (repeat (first | exact .here | apply Mem.there)); first | done | fail) | exact cell_ints (by (repeat (first | exact .here | apply Mem.there)); first | done | fail) (by omega) | exact cell_bools (by assumption) (by (repeat (first | exact .here | apply Mem.there)); first | done | fail) | exact cell_intsR (by (repeat (first | exact .here | apply Mem.there)); first | done | fail) (by omega) | exact cell_boolsR (by assumption) (by (repeat (first | exact .here | apply Mem.there)); first | done | fail))))
    focus (refine' jk_q _ rfl rfl rfl _; rotate_left; (apply q_move; exact rfl))
    focus ((refine' jk_q _ rfl rfl rfl _; rotate_left; (apply q_lookup (l := m); exact rfl; exact rfl; exact rfl; exact rfl; exact rfl; exact mapAt_own (by (repeat (first | exact .here | apply Mem.there)); first | done | fail)); rw [hm]))
    focus (refine' jk_q _ rfl rfl rfl _; rotate_left; (apply q_move; exact rfl))
    focus (refine' jk_q _ rfl rfl rfl _; rotate_left; (apply q_add; exact rfl; exact rfl; exact ⟨by omega, by omega⟩))
    focus ((refine' jk_op_none _ rfl rfl _; rotate_left; (apply l_mapUpdate (l := m); exact rfl; exact rfl; exact rfl; exact rfl; exact rfl; exact (by (repeat (first | exact .here | apply Take.there)); first | done | fail)); rintro _ _ ⟨rfl, rfl⟩))
    refine jk_nil ?_
    refine jk_end_any (res0 rfl) (by (repeat (first | exact rs_nil | (refine rs_cons ?_ ?_; (focus ((repeat (first | exact .here | apply Mem.there | apply Take.there)); first | done | fail))) | exact fun ρ hρ => hρ | (intro ρ hρ; repeat (first | exact hρ | refine List.mem_cons_of_mem _ ?_)))); first | done | fail) (by (repeat (first | exact Sel.nil | (apply Sel.cons; (focus ((repeat (first | exact .here | apply Mem.there | apply Take.there)); first | done | fail))))); first | done | fail) ⟨rfl, u1, σ1, ?_, rfl⟩
    rw [List.length_append, List.flatMap_append]
    exact hO1
end Go.Proofs.Ytnbihndlbopmeaa
