/- Sums of functions. -/
import Derived.Test.YtbcibkopcbhgfaaWCvU
set_option linter.all false
namespace Go.Proofs.Ytbcibkopcbhgfaa
open Go.Eng Go.Step
set_option maxRecDepth 100000
set_option maxHeartbeats 4000000

theorem sum_spec (ρ τ : PH) (v w : Value) (f g : List Lv) (hv : LvAt ρ v f) (hw : LvAt τ w g) (hl : f.length ≤ 9223372036854775807) (hl2 : g.length ≤ 9223372036854775807) :
    Makes Try.prog (fv 14) [v, w] [ρ, τ] (fun r σ => ∃ u out e, r = .tuple #[u, int e] ∧ OwnS 33 2 u out.length (out.flatMap encV) σ ∧ SumR f g out e) := by
  have hv2 := hv
  have hw2 := hw
  obtain ⟨qf, cf, rfl, _⟩ := hv.val encV_len
  obtain ⟨qg, cg, rfl, _⟩ := hw.val encV_len
  refine spec_in (cap := []) Try.func14 rfl rfl Try.ntmps14 rfl (by (repeat (first | exact EnvA.nil EnvI.nil | apply EnvA.cons | apply EnvA.nil | exact EnvI.nil | apply EnvI.cons)); first | done | fail) (fun N β => ?_)
  refine jk_emp ?_
  refine jk_seq ?_
  refine jk_region ?_
  focus (refine' jk_q _ rfl rfl rfl _; rotate_left; (apply q_assign; exact rfl))
  focus (refine' jk_q _ rfl rfl rfl _; rotate_left; (apply q_assign; exact rfl))
  refine jk_nil ?_
  refine jk_seq ?_
  refine jk_seq ?_
  refine jk_region ?_
  focus (refine' jk_q _ rfl rfl rfl _; rotate_left; (apply q_move; exact rfl))
  refine jk_call (stepCheck_spec ρ _ f hv2 hl) rfl rfl (by (repeat (first | exact RdOK.nil | (refine RdOK.consR ?_ ?_; (focus ((repeat (first | exact .here | apply Mem.there | apply Take.there)); first | done | fail))) | (refine RdOK.consH ?_ ?_; (focus ((repeat (first | exact .here | apply Mem.there | apply Take.there)); first | done | fail))) | exact (fun τ hτ => .inl (by simp [hτ])))); first | done | fail) rfl rfl ?_
  rintro _ rfl
  by_cases h0 : chkS f = 0
  rotate_left
  · focus (refine' jk_q _ rfl rfl rfl _; rotate_left; (apply q_ne; exact rfl; exact rfl; omega))
    focus (refine' jk_q _ rfl rfl rfl _; rotate_left; (apply q_move; exact rfl))
    refine jk_pass rfl rfl rfl ?_
    refine jk_pass rfl rfl rfl ?_
    refine jk_pass rfl rfl rfl ?_
    focus (refine' jk_q _ rfl rfl rfl _; rotate_left; (apply q_pick_t; exact rfl; exact rfl))
    refine jk_nil ?_
    refine jk_if_t rfl ?_
    refine jk_seq ?_
    refine jk_region ?_
    focus (refine' jk_q _ rfl rfl rfl _; rotate_left; (apply q_assign; exact rfl))
    focus (refine' jk_q _ rfl rfl rfl _; rotate_left; (apply q_assign; exact rfl))
    refine jk_nil ?_
    exact jk_ret_any (res2 rfl rfl rfl) (by (repeat (first | exact rs_nil | (refine rs_cons ?_ ?_; (focus ((repeat (first | exact .here | apply Mem.there | apply Take.there)); first | done | fail))) | exact fun ρ hρ => hρ | (intro ρ hρ; repeat (first | exact hρ | refine List.mem_cons_of_mem _ ?_)))); first | done | fail) (by (repeat (first | exact Sel.nil | (apply Sel.cons; (focus ((repeat (first | exact .here | apply Mem.there | apply Take.there)); first | done | fail))))); first | done | fail) ⟨emp, ⟨_, [], _, rfl, OwnS.nil _ _, .inl ⟨.inl h0, rfl, rfl⟩⟩, rfl⟩
  focus (refine' jk_q _ rfl rfl rfl _; rotate_left; (apply q_neF; exact rfl; exact rfl; omega))
  focus (refine' jk_q _ rfl rfl rfl _; rotate_left; (apply q_move; exact rfl))
  focus (refine' jk_q _ rfl rfl rfl _; rotate_left; (apply q_move; exact rfl))
  refine jk_call (stepCheck_spec τ _ g hw2 hl2) rfl rfl (by (repeat (first | exact RdOK.nil | (refine RdOK.consR ?_ ?_; (focus ((repeat (first | exact .here | apply Mem.there | apply Take.there)); first | done | fail))) | (refine RdOK.consH ?_ ?_; (focus ((repeat (first | exact .here | apply Mem.there | apply Take.there)); first | done | fail))) | exact (fun τ hτ => .inl (by simp [hτ])))); first | done | fail) rfl rfl ?_
  rintro _ rfl
  by_cases h1 : chkS g = 0
  rotate_left
  · focus (refine' jk_q _ rfl rfl rfl _; rotate_left; (apply q_ne; exact rfl; exact rfl; omega))
    focus (refine' jk_q _ rfl rfl rfl _; rotate_left; (apply q_pick_f; exact rfl; exact rfl))
    refine jk_nil ?_
    refine jk_if_t rfl ?_
    refine jk_seq ?_
    refine jk_region ?_
    focus (refine' jk_q _ rfl rfl rfl _; rotate_left; (apply q_assign; exact rfl))
    focus (refine' jk_q _ rfl rfl rfl _; rotate_left; (apply q_assign; exact rfl))
    refine jk_nil ?_
    exact jk_ret_any (res2 rfl rfl rfl) (by (repeat (first | exact rs_nil | (refine rs_cons ?_ ?_; (focus ((repeat (first | exact .here | apply Mem.there | apply Take.there)); first | done | fail))) | exact fun ρ hρ => hρ | (intro ρ hρ; repeat (first | exact hρ | refine List.mem_cons_of_mem _ ?_)))); first | done | fail) (by (repeat (first | exact Sel.nil | (apply Sel.cons; (focus ((repeat (first | exact .here | apply Mem.there | apply Take.there)); first | done | fail))))); first | done | fail) ⟨emp, ⟨_, [], _, rfl, OwnS.nil _ _, .inl ⟨.inr h1, rfl, rfl⟩⟩, rfl⟩
  have hA := (chkS_ok h0).2
  have hB := (chkS_ok h1).2
  focus (refine' jk_q _ rfl rfl rfl _; rotate_left; (apply q_neF; exact rfl; exact rfl; omega))
  focus (refine' jk_q _ rfl rfl rfl _; rotate_left; (apply q_pick_f; exact rfl; exact rfl))
  refine jk_nil ?_
  refine jk_if_f rfl ?_
  refine jk_skip ?_
  refine jk_seq ?_
  refine jk_region ?_
  focus (refine' jk_q _ rfl rfl rfl _; rotate_left; (apply q_move; exact rfl))
  focus (refine' jk_q _ rfl rfl rfl _; rotate_left; (apply q_move; exact rfl))
  refine jk_callM (combine_spec ρ τ _ _ f g hv2 hw2 hA.t hB.t (chkS_ok h0).1 (chkS_ok h1).1 (fun l hl => by have := hA.gt l hl; omega) (fun l hl => by have := hB.gt l hl; omega)) rfl rfl (by (repeat (first | exact RdOK.nil | (refine RdOK.consR ?_ ?_; (focus ((repeat (first | exact .here | apply Mem.there | apply Take.there)); first | done | fail))) | (refine RdOK.consH ?_ ?_; (focus ((repeat (first | exact .here | apply Mem.there | apply Take.there)); first | done | fail))) | exact (fun τ hτ => .inl (by simp [hτ])))); first | done | fail) rfl rfl ?_
  rintro _ σ ⟨u, out, e, rfl, hO, hP⟩
  focus (refine' jk_q _ rfl rfl rfl _; rotate_left; (apply q_extract; exact rfl; exact rfl))
  focus (refine' jk_q _ rfl rfl rfl _; rotate_left; (apply q_extract; exact rfl; exact rfl))
  focus (refine' jk_q _ rfl rfl rfl _; rotate_left; (apply q_assign; exact rfl))
  focus (refine' jk_q _ rfl rfl rfl _; rotate_left; (apply q_assign; exact rfl))
  refine jk_nil ?_
  exact jk_ret_any (res2 rfl rfl rfl) (by (repeat (first | exact rs_nil | (refine rs_cons ?_ ?_; (focus ((repeat (first | exact .here | apply Mem.there | apply Take.there)); first | done | fail))) | exact fun ρ hρ => hρ | (intro ρ hρ; repeat (first | exact hρ | refine List.mem_cons_of_mem _ ?_)))); first | done | fail) (by (repeat (first | exact Sel.nil | (apply Sel.cons; (focus ((repeat (first | exact .here | apply Mem.there | apply Take.there)); first | done | fail))))); first | done | fail) ⟨σ, ⟨_, out, e, rfl, hO, .inr ⟨h0, h1, hP⟩⟩, rfl⟩
end Go.Proofs.Ytbcibkopcbhgfaa
