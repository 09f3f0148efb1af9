/- The laws on first times and on the backlog. -/
import Derived.Test.YtlpemhpfljhhbaaWCvK
import Derived.Test.YtlpemhpfljhhbaaWMbEql
set_option linter.all false
namespace Go.Proofs.Ytlpemhpfljhhbaa
open Go.Eng Go.Step
set_option maxRecDepth 100000
set_option maxHeartbeats 4000000

theorem jobs_sizes : ∀ {l : List Jb} {p : Int}, Jobs p l → ∀ j ∈ l, 0 ≤ j.s ∧ j.s ≤ 1099511627776 := by
  intro l
  induction l with
  | nil => intro p _ j hj; simp at hj
  | cons a l ih =>
    intro p h j hj
    simp at hj
    rcases hj with rfl | hj
    · exact h.2.1.2.2
    · exact ih h.2.2 j hj
theorem inverse_law (ρ : PH) (v : Value) (f : List Lv) (t u am : Int) (hv : LvAt ρ v f) (hl : f.length ≤ 9223372036854775807) (ht : In64 t) (hu : In64 u) (ham : In64 am) :
    Ans Try.prog (fv 4) [v, int t, int u, int am] [ρ] (fun r => r = .bool true) := by
  have hv2 := hv
  obtain ⟨qf, cf, rfl, _⟩ := hv.val encV_len
  obtain ⟨ht1, ht2⟩ := ht
  obtain ⟨hu1, hu2⟩ := hu
  obtain ⟨ha1, ha2⟩ := ham
  refine spec_in (cap := []) Try.func4 rfl rfl Try.ntmps4 rfl (by (repeat (first | exact EnvA.nil EnvI.nil | apply EnvA.cons | apply EnvA.nil | exact EnvI.nil | apply EnvI.cons)); first | done | fail) (fun N β => ?_)
  refine jk_seq ?_
  refine jk_region ?_
  focus (refine' jk_q _ rfl rfl rfl _; rotate_left; (apply q_assign; exact rfl))
  refine jk_nil ?_
  refine jk_seq ?_
  refine jk_seq ?_
  refine jk_region ?_
  focus (refine' jk_q _ rfl rfl rfl _; rotate_left; (apply q_move; exact rfl))
  refine jk_call (great_spec _ _ _ _ _ _) rfl rfl (by (repeat (first | exact RdOK.nil | (refine RdOK.consR ?_ ?_; (focus ((repeat (first | exact .here | apply Mem.there | apply Take.there)); first | done | fail))) | (refine RdOK.consH ?_ ?_; (focus ((repeat (first | exact .here | apply Mem.there | apply Take.there)); first | done | fail))) | exact (fun τ hτ => .inl (by simp [hτ])))); first | done | fail) rfl rfl ?_
  rintro _ rfl
  by_cases hg : 40 < f.length ∧ f.length ≤ 1000 ∨ 1010 < f.length ∨ 12 < 0 ∧ 0 ≤ 1000 ∨ 1010 < 0
  · rw [decide_eq_true hg]
    focus (refine' jk_q _ rfl rfl rfl _; rotate_left; (apply q_move; exact rfl))
    refine jk_pass rfl rfl rfl ?_
    refine jk_pass rfl rfl rfl ?_
    refine jk_pass rfl rfl rfl ?_
    focus (refine' jk_q _ rfl rfl rfl _; rotate_left; (apply q_pick_t; exact rfl; exact rfl))
    focus (refine' jk_q _ rfl rfl rfl _; rotate_left; (apply q_move; exact rfl))
    refine jk_pass rfl rfl rfl ?_
    refine jk_pass rfl rfl rfl ?_
    focus (refine' jk_q _ rfl rfl rfl _; rotate_left; (apply q_pick_t; exact rfl; exact rfl))
    focus (refine' jk_q _ rfl rfl rfl _; rotate_left; (apply q_move; exact rfl))
    refine jk_pass rfl rfl rfl ?_
    refine jk_pass rfl rfl rfl ?_
    focus (refine' jk_q _ rfl rfl rfl _; rotate_left; (apply q_pick_t; exact rfl; exact rfl))
    focus (refine' jk_q _ rfl rfl rfl _; rotate_left; (apply q_move; exact rfl))
    refine jk_pass rfl rfl rfl ?_
    refine jk_pass rfl rfl rfl ?_
    refine jk_pass rfl rfl rfl ?_
    focus (refine' jk_q _ rfl rfl rfl _; rotate_left; (apply q_pick_t; exact rfl; exact rfl))
    focus (refine' jk_q _ rfl rfl rfl _; rotate_left; (apply q_move; exact rfl))
    refine jk_pass rfl rfl rfl ?_
    refine jk_pass rfl rfl rfl ?_
    focus (refine' jk_q _ rfl rfl rfl _; rotate_left; (apply q_pick_t; exact rfl; exact rfl))
    focus (refine' jk_q _ rfl rfl rfl _; rotate_left; (apply q_move; exact rfl))
    refine jk_pass rfl rfl rfl ?_
    refine jk_pass rfl rfl rfl ?_
    focus (refine' jk_q _ rfl rfl rfl _; rotate_left; (apply q_pick_t; exact rfl; exact rfl))
    focus (refine' jk_q _ rfl rfl rfl _; rotate_left; (apply q_move; exact rfl))
    refine jk_pass rfl rfl rfl ?_
    refine jk_pass rfl rfl rfl ?_
    focus (refine' jk_q _ rfl rfl rfl _; rotate_left; (apply q_pick_t; exact rfl; exact rfl))
    refine jk_nil ?_
    refine jk_if_t rfl ?_
    refine jk_seq ?_
    refine jk_region ?_
    focus ((refine jk_call awake_spec rfl rfl (by (repeat (first | exact RdOK.nil | (refine RdOK.consR ?_ ?_; (focus ((repeat (first | exact .here | apply Mem.there | apply Take.there)); first | done | fail))) | (refine RdOK.consH ?_ ?_; (focus ((repeat (first | exact .here | apply Mem.there | apply Take.there)); first | done | fail))) | exact (fun τ hτ => .inl (by simp [hτ])))); first | done | fail) rfl rfl ?_; rintro _ rfl))
    focus (refine' jk_q _ rfl rfl rfl _; rotate_left; (apply q_assign; exact rfl))
    refine jk_nil ?_
    exact jk_ret_any (res1 rfl rfl) (by (repeat (first | exact rs_nil | (refine rs_cons ?_ ?_; (focus ((repeat (first | exact .here | apply Mem.there | apply Take.there)); first | done | fail))) | exact fun ρ hρ => hρ | (intro ρ hρ; repeat (first | exact hρ | refine List.mem_cons_of_mem _ ?_)))); first | done | fail) (by (repeat (first | exact Sel.nil | (apply Sel.cons; (focus ((repeat (first | exact .here | apply Mem.there | apply Take.there)); first | done | fail))))); first | done | fail) ⟨rfl, rfl⟩
  rw [decide_eq_false hg]
  focus (refine' jk_q _ rfl rfl rfl _; rotate_left; (apply q_move; exact rfl))
  focus (refine' jk_q _ rfl rfl rfl _; rotate_left; (apply q_move; exact rfl))
  refine jk_call (curveCheck_spec ρ _ f hv2 hl) rfl rfl (by (repeat (first | exact RdOK.nil | (refine RdOK.consR ?_ ?_; (focus ((repeat (first | exact .here | apply Mem.there | apply Take.there)); first | done | fail))) | (refine RdOK.consH ?_ ?_; (focus ((repeat (first | exact .here | apply Mem.there | apply Take.there)); first | done | fail))) | exact (fun τ hτ => .inl (by simp [hτ])))); first | done | fail) rfl rfl ?_
  rintro _ rfl
  by_cases h0 : chkC f = 0
  rotate_left
  · focus (refine' jk_q _ rfl rfl rfl _; rotate_left; (apply q_ne; exact rfl; exact rfl; omega))
    focus (refine' jk_q _ rfl rfl rfl _; rotate_left; (apply q_pick_f; exact rfl; exact rfl))
    focus (refine' jk_q _ rfl rfl rfl _; rotate_left; (apply q_move; exact rfl))
    refine jk_pass rfl rfl rfl ?_
    refine jk_pass rfl rfl rfl ?_
    focus (refine' jk_q _ rfl rfl rfl _; rotate_left; (apply q_pick_t; exact rfl; exact rfl))
    focus (refine' jk_q _ rfl rfl rfl _; rotate_left; (apply q_move; exact rfl))
    refine jk_pass rfl rfl rfl ?_
    refine jk_pass rfl rfl rfl ?_
    focus (refine' jk_q _ rfl rfl rfl _; rotate_left; (apply q_pick_t; exact rfl; exact rfl))
    focus (refine' jk_q _ rfl rfl rfl _; rotate_left; (apply q_move; exact rfl))
    refine jk_pass rfl rfl rfl ?_
    refine jk_pass rfl rfl rfl ?_
    refine jk_pass rfl rfl rfl ?_
    focus (refine' jk_q _ rfl rfl rfl _; rotate_left; (apply q_pick_t; exact rfl; exact rfl))
    focus (refine' jk_q _ rfl rfl rfl _; rotate_left; (apply q_move; exact rfl))
    refine jk_pass rfl rfl rfl ?_
    refine jk_pass rfl rfl rfl ?_
    focus (refine' jk_q _ rfl rfl rfl _; rotate_left; (apply q_pick_t; exact rfl; exact rfl))
    focus (refine' jk_q _ rfl rfl rfl _; rotate_left; (apply q_move; exact rfl))
    refine jk_pass rfl rfl rfl ?_
    refine jk_pass rfl rfl rfl ?_
    focus (refine' jk_q _ rfl rfl rfl _; rotate_left; (apply q_pick_t; exact rfl; exact rfl))
    focus (refine' jk_q _ rfl rfl rfl _; rotate_left; (apply q_move; exact rfl))
    refine jk_pass rfl rfl rfl ?_
    refine jk_pass rfl rfl rfl ?_
    focus (refine' jk_q _ rfl rfl rfl _; rotate_left; (apply q_pick_t; exact rfl; exact rfl))
    refine jk_nil ?_
    refine jk_if_t rfl ?_
    refine jk_seq ?_
    refine jk_region ?_
    focus ((refine jk_call awake_spec rfl rfl (by (repeat (first | exact RdOK.nil | (refine RdOK.consR ?_ ?_; (focus ((repeat (first | exact .here | apply Mem.there | apply Take.there)); first | done | fail))) | (refine RdOK.consH ?_ ?_; (focus ((repeat (first | exact .here | apply Mem.there | apply Take.there)); first | done | fail))) | exact (fun τ hτ => .inl (by simp [hτ])))); first | done | fail) rfl rfl ?_; rintro _ rfl))
    focus (refine' jk_q _ rfl rfl rfl _; rotate_left; (apply q_assign; exact rfl))
    refine jk_nil ?_
    exact jk_ret_any (res1 rfl rfl) (by (repeat (first | exact rs_nil | (refine rs_cons ?_ ?_; (focus ((repeat (first | exact .here | apply Mem.there | apply Take.there)); first | done | fail))) | exact fun ρ hρ => hρ | (intro ρ hρ; repeat (first | exact hρ | refine List.mem_cons_of_mem _ ?_)))); first | done | fail) (by (repeat (first | exact Sel.nil | (apply Sel.cons; (focus ((repeat (first | exact .here | apply Mem.there | apply Take.there)); first | done | fail))))); first | done | fail) ⟨rfl, rfl⟩
  by_cases h1 : t < 0
  · focus (refine' jk_q _ rfl rfl rfl _; rotate_left; (apply q_neF; exact rfl; exact rfl; omega))
    focus (refine' jk_q _ rfl rfl rfl _; rotate_left; (apply q_pick_f; exact rfl; exact rfl))
    focus (refine' jk_q _ rfl rfl rfl _; rotate_left; (apply q_move; exact rfl))
    focus (refine' jk_q _ rfl rfl rfl _; rotate_left; (apply q_move; exact rfl))
    focus (refine' jk_q _ rfl rfl rfl _; rotate_left; (apply q_lt; exact rfl; exact rfl; omega))
    focus (refine' jk_q _ rfl rfl rfl _; rotate_left; (apply q_pick_f; exact rfl; exact rfl))
    focus (refine' jk_q _ rfl rfl rfl _; rotate_left; (apply q_move; exact rfl))
    refine jk_pass rfl rfl rfl ?_
    refine jk_pass rfl rfl rfl ?_
    focus (refine' jk_q _ rfl rfl rfl _; rotate_left; (apply q_pick_t; exact rfl; exact rfl))
    focus (refine' jk_q _ rfl rfl rfl _; rotate_left; (apply q_move; exact rfl))
    refine jk_pass rfl rfl rfl ?_
    refine jk_pass rfl rfl rfl ?_
    refine jk_pass rfl rfl rfl ?_
    focus (refine' jk_q _ rfl rfl rfl _; rotate_left; (apply q_pick_t; exact rfl; exact rfl))
    focus (refine' jk_q _ rfl rfl rfl _; rotate_left; (apply q_move; exact rfl))
    refine jk_pass rfl rfl rfl ?_
    refine jk_pass rfl rfl rfl ?_
    focus (refine' jk_q _ rfl rfl rfl _; rotate_left; (apply q_pick_t; exact rfl; exact rfl))
    focus (refine' jk_q _ rfl rfl rfl _; rotate_left; (apply q_move; exact rfl))
    refine jk_pass rfl rfl rfl ?_
    refine jk_pass rfl rfl rfl ?_
    focus (refine' jk_q _ rfl rfl rfl _; rotate_left; (apply q_pick_t; exact rfl; exact rfl))
    focus (refine' jk_q _ rfl rfl rfl _; rotate_left; (apply q_move; exact rfl))
    refine jk_pass rfl rfl rfl ?_
    refine jk_pass rfl rfl rfl ?_
    focus (refine' jk_q _ rfl rfl rfl _; rotate_left; (apply q_pick_t; exact rfl; exact rfl))
    refine jk_nil ?_
    refine jk_if_t rfl ?_
    refine jk_seq ?_
    refine jk_region ?_
    focus ((refine jk_call awake_spec rfl rfl (by (repeat (first | exact RdOK.nil | (refine RdOK.consR ?_ ?_; (focus ((repeat (first | exact .here | apply Mem.there | apply Take.there)); first | done | fail))) | (refine RdOK.consH ?_ ?_; (focus ((repeat (first | exact .here | apply Mem.there | apply Take.there)); first | done | fail))) | exact (fun τ hτ => .inl (by simp [hτ])))); first | done | fail) rfl rfl ?_; rintro _ rfl))
    focus (refine' jk_q _ rfl rfl rfl _; rotate_left; (apply q_assign; exact rfl))
    refine jk_nil ?_
    exact jk_ret_any (res1 rfl rfl) (by (repeat (first | exact rs_nil | (refine rs_cons ?_ ?_; (focus ((repeat (first | exact .here | apply Mem.there | apply Take.there)); first | done | fail))) | exact fun ρ hρ => hρ | (intro ρ hρ; repeat (first | exact hρ | refine List.mem_cons_of_mem _ ?_)))); first | done | fail) (by (repeat (first | exact Sel.nil | (apply Sel.cons; (focus ((repeat (first | exact .here | apply Mem.there | apply Take.there)); first | done | fail))))); first | done | fail) ⟨rfl, rfl⟩
  by_cases h2 : 1099511627776 < t
  · focus (refine' jk_q _ rfl rfl rfl _; rotate_left; (apply q_neF; exact rfl; exact rfl; omega))
    focus (refine' jk_q _ rfl rfl rfl _; rotate_left; (apply q_pick_f; exact rfl; exact rfl))
    focus (refine' jk_q _ rfl rfl rfl _; rotate_left; (apply q_move; exact rfl))
    focus (refine' jk_q _ rfl rfl rfl _; rotate_left; (apply q_move; exact rfl))
    focus (refine' jk_q _ rfl rfl rfl _; rotate_left; (apply q_ltF; exact rfl; exact rfl; omega))
    focus (refine' jk_q _ rfl rfl rfl _; rotate_left; (apply q_pick_f; exact rfl; exact rfl))
    focus (refine' jk_q _ rfl rfl rfl _; rotate_left; (apply q_move; exact rfl))
    focus (refine' jk_q _ rfl rfl rfl _; rotate_left; (apply q_move; exact rfl))
    focus (refine' jk_q _ rfl rfl rfl _; rotate_left; (apply q_gt; exact rfl; exact rfl; omega))
    focus (refine' jk_q _ rfl rfl rfl _; rotate_left; (apply q_pick_f; exact rfl; exact rfl))
    focus (refine' jk_q _ rfl rfl rfl _; rotate_left; (apply q_move; exact rfl))
    refine jk_pass rfl rfl rfl ?_
    refine jk_pass rfl rfl rfl ?_
    refine jk_pass rfl rfl rfl ?_
    focus (refine' jk_q _ rfl rfl rfl _; rotate_left; (apply q_pick_t; exact rfl; exact rfl))
    focus (refine' jk_q _ rfl rfl rfl _; rotate_left; (apply q_move; exact rfl))
    refine jk_pass rfl rfl rfl ?_
    refine jk_pass rfl rfl rfl ?_
    focus (refine' jk_q _ rfl rfl rfl _; rotate_left; (apply q_pick_t; exact rfl; exact rfl))
    focus (refine' jk_q _ rfl rfl rfl _; rotate_left; (apply q_move; exact rfl))
    refine jk_pass rfl rfl rfl ?_
    refine jk_pass rfl rfl rfl ?_
    focus (refine' jk_q _ rfl rfl rfl _; rotate_left; (apply q_pick_t; exact rfl; exact rfl))
    focus (refine' jk_q _ rfl rfl rfl _; rotate_left; (apply q_move; exact rfl))
    refine jk_pass rfl rfl rfl ?_
    refine jk_pass rfl rfl rfl ?_
    focus (refine' jk_q _ rfl rfl rfl _; rotate_left; (apply q_pick_t; exact rfl; exact rfl))
    refine jk_nil ?_
    refine jk_if_t rfl ?_
    refine jk_seq ?_
    refine jk_region ?_
    focus ((refine jk_call awake_spec rfl rfl (by (repeat (first | exact RdOK.nil | (refine RdOK.consR ?_ ?_; (focus ((repeat (first | exact .here | apply Mem.there | apply Take.there)); first | done | fail))) | (refine RdOK.consH ?_ ?_; (focus ((repeat (first | exact .here | apply Mem.there | apply Take.there)); first | done | fail))) | exact (fun τ hτ => .inl (by simp [hτ])))); first | done | fail) rfl rfl ?_; rintro _ rfl))
    focus (refine' jk_q _ rfl rfl rfl _; rotate_left; (apply q_assign; exact rfl))
    refine jk_nil ?_
    exact jk_ret_any (res1 rfl rfl) (by (repeat (first | exact rs_nil | (refine rs_cons ?_ ?_; (focus ((repeat (first | exact .here | apply Mem.there | apply Take.there)); first | done | fail))) | exact fun ρ hρ => hρ | (intro ρ hρ; repeat (first | exact hρ | refine List.mem_cons_of_mem _ ?_)))); first | done | fail) (by (repeat (first | exact Sel.nil | (apply Sel.cons; (focus ((repeat (first | exact .here | apply Mem.there | apply Take.there)); first | done | fail))))); first | done | fail) ⟨rfl, rfl⟩
  by_cases h3 : u < t
  · focus (refine' jk_q _ rfl rfl rfl _; rotate_left; (apply q_neF; exact rfl; exact rfl; omega))
    focus (refine' jk_q _ rfl rfl rfl _; rotate_left; (apply q_pick_f; exact rfl; exact rfl))
    focus (refine' jk_q _ rfl rfl rfl _; rotate_left; (apply q_move; exact rfl))
    focus (refine' jk_q _ rfl rfl rfl _; rotate_left; (apply q_move; exact rfl))
    focus (refine' jk_q _ rfl rfl rfl _; rotate_left; (apply q_ltF; exact rfl; exact rfl; omega))
    focus (refine' jk_q _ rfl rfl rfl _; rotate_left; (apply q_pick_f; exact rfl; exact rfl))
    focus (refine' jk_q _ rfl rfl rfl _; rotate_left; (apply q_move; exact rfl))
    focus (refine' jk_q _ rfl rfl rfl _; rotate_left; (apply q_move; exact rfl))
    focus (refine' jk_q _ rfl rfl rfl _; rotate_left; (apply q_gtF; exact rfl; exact rfl; omega))
    focus (refine' jk_q _ rfl rfl rfl _; rotate_left; (apply q_pick_f; exact rfl; exact rfl))
    focus (refine' jk_q _ rfl rfl rfl _; rotate_left; (apply q_move; exact rfl))
    focus (refine' jk_q _ rfl rfl rfl _; rotate_left; (apply q_move; exact rfl))
    focus (refine' jk_q _ rfl rfl rfl _; rotate_left; (apply q_move; exact rfl))
    focus (refine' jk_q _ rfl rfl rfl _; rotate_left; (apply q_lt; exact rfl; exact rfl; omega))
    focus (refine' jk_q _ rfl rfl rfl _; rotate_left; (apply q_pick_f; exact rfl; exact rfl))
    focus (refine' jk_q _ rfl rfl rfl _; rotate_left; (apply q_move; exact rfl))
    refine jk_pass rfl rfl rfl ?_
    refine jk_pass rfl rfl rfl ?_
    focus (refine' jk_q _ rfl rfl rfl _; rotate_left; (apply q_pick_t; exact rfl; exact rfl))
    focus (refine' jk_q _ rfl rfl rfl _; rotate_left; (apply q_move; exact rfl))
    refine jk_pass rfl rfl rfl ?_
    refine jk_pass rfl rfl rfl ?_
    focus (refine' jk_q _ rfl rfl rfl _; rotate_left; (apply q_pick_t; exact rfl; exact rfl))
    focus (refine' jk_q _ rfl rfl rfl _; rotate_left; (apply q_move; exact rfl))
    refine jk_pass rfl rfl rfl ?_
    refine jk_pass rfl rfl rfl ?_
    focus (refine' jk_q _ rfl rfl rfl _; rotate_left; (apply q_pick_t; exact rfl; exact rfl))
    refine jk_nil ?_
    refine jk_if_t rfl ?_
    refine jk_seq ?_
    refine jk_region ?_
    focus ((refine jk_call awake_spec rfl rfl (by (repeat (first | exact RdOK.nil | (refine RdOK.consR ?_ ?_; (focus ((repeat (first | exact .here | apply Mem.there | apply Take.there)); first | done | fail))) | (refine RdOK.consH ?_ ?_; (focus ((repeat (first | exact .here | apply Mem.there | apply Take.there)); first | done | fail))) | exact (fun τ hτ => .inl (by simp [hτ])))); first | done | fail) rfl rfl ?_; rintro _ rfl))
    focus (refine' jk_q _ rfl rfl rfl _; rotate_left; (apply q_assign; exact rfl))
    refine jk_nil ?_
    exact jk_ret_any (res1 rfl rfl) (by (repeat (first | exact rs_nil | (refine rs_cons ?_ ?_; (focus ((repeat (first | exact .here | apply Mem.there | apply Take.there)); first | done | fail))) | exact fun ρ hρ => hρ | (intro ρ hρ; repeat (first | exact hρ | refine List.mem_cons_of_mem _ ?_)))); first | done | fail) (by (repeat (first | exact Sel.nil | (apply Sel.cons; (focus ((repeat (first | exact .here | apply Mem.there | apply Take.there)); first | done | fail))))); first | done | fail) ⟨rfl, rfl⟩
  by_cases h4 : 1099511627776 < u
  · focus (refine' jk_q _ rfl rfl rfl _; rotate_left; (apply q_neF; exact rfl; exact rfl; omega))
    focus (refine' jk_q _ rfl rfl rfl _; rotate_left; (apply q_pick_f; exact rfl; exact rfl))
    focus (refine' jk_q _ rfl rfl rfl _; rotate_left; (apply q_move; exact rfl))
    focus (refine' jk_q _ rfl rfl rfl _; rotate_left; (apply q_move; exact rfl))
    focus (refine' jk_q _ rfl rfl rfl _; rotate_left; (apply q_ltF; exact rfl; exact rfl; omega))
    focus (refine' jk_q _ rfl rfl rfl _; rotate_left; (apply q_pick_f; exact rfl; exact rfl))
    focus (refine' jk_q _ rfl rfl rfl _; rotate_left; (apply q_move; exact rfl))
    focus (refine' jk_q _ rfl rfl rfl _; rotate_left; (apply q_move; exact rfl))
    focus (refine' jk_q _ rfl rfl rfl _; rotate_left; (apply q_gtF; exact rfl; exact rfl; omega))
    focus (refine' jk_q _ rfl rfl rfl _; rotate_left; (apply q_pick_f; exact rfl; exact rfl))
    focus (refine' jk_q _ rfl rfl rfl _; rotate_left; (apply q_move; exact rfl))
    focus (refine' jk_q _ rfl rfl rfl _; rotate_left; (apply q_move; exact rfl))
    focus (refine' jk_q _ rfl rfl rfl _; rotate_left; (apply q_move; exact rfl))
    focus (refine' jk_q _ rfl rfl rfl _; rotate_left; (apply q_ltF; exact rfl; exact rfl; omega))
    focus (refine' jk_q _ rfl rfl rfl _; rotate_left; (apply q_pick_f; exact rfl; exact rfl))
    focus (refine' jk_q _ rfl rfl rfl _; rotate_left; (apply q_move; exact rfl))
    focus (refine' jk_q _ rfl rfl rfl _; rotate_left; (apply q_move; exact rfl))
    focus (refine' jk_q _ rfl rfl rfl _; rotate_left; (apply q_gt; exact rfl; exact rfl; omega))
    focus (refine' jk_q _ rfl rfl rfl _; rotate_left; (apply q_pick_f; exact rfl; exact rfl))
    focus (refine' jk_q _ rfl rfl rfl _; rotate_left; (apply q_move; exact rfl))
    refine jk_pass rfl rfl rfl ?_
    refine jk_pass rfl rfl rfl ?_
    focus (refine' jk_q _ rfl rfl rfl _; rotate_left; (apply q_pick_t; exact rfl; exact rfl))
    focus (refine' jk_q _ rfl rfl rfl _; rotate_left; (apply q_move; exact rfl))
    refine jk_pass rfl rfl rfl ?_
    refine jk_pass rfl rfl rfl ?_
    focus (refine' jk_q _ rfl rfl rfl _; rotate_left; (apply q_pick_t; exact rfl; exact rfl))
    refine jk_nil ?_
    refine jk_if_t rfl ?_
    refine jk_seq ?_
    refine jk_region ?_
    focus ((refine jk_call awake_spec rfl rfl (by (repeat (first | exact RdOK.nil | (refine RdOK.consR ?_ ?_; (focus ((repeat (first | exact .here | apply Mem.there | apply Take.there)); first | done | fail))) | (refine RdOK.consH ?_ ?_; (focus ((repeat (first | exact .here | apply Mem.there | apply Take.there)); first | done | fail))) | exact (fun τ hτ => .inl (by simp [hτ])))); first | done | fail) rfl rfl ?_; rintro _ rfl))
    focus (refine' jk_q _ rfl rfl rfl _; rotate_left; (apply q_assign; exact rfl))
    refine jk_nil ?_
    exact jk_ret_any (res1 rfl rfl) (by (repeat (first | exact rs_nil | (refine rs_cons ?_ ?_; (focus ((repeat (first | exact .here | apply Mem.there | apply Take.there)); first | done | fail))) | exact fun ρ hρ => hρ | (intro ρ hρ; repeat (first | exact hρ | refine List.mem_cons_of_mem _ ?_)))); first | done | fail) (by (repeat (first | exact Sel.nil | (apply Sel.cons; (focus ((repeat (first | exact .here | apply Mem.there | apply Take.there)); first | done | fail))))); first | done | fail) ⟨rfl, rfl⟩
  by_cases h5 : am < 0
  · focus (refine' jk_q _ rfl rfl rfl _; rotate_left; (apply q_neF; exact rfl; exact rfl; omega))
    focus (refine' jk_q _ rfl rfl rfl _; rotate_left; (apply q_pick_f; exact rfl; exact rfl))
    focus (refine' jk_q _ rfl rfl rfl _; rotate_left; (apply q_move; exact rfl))
    focus (refine' jk_q _ rfl rfl rfl _; rotate_left; (apply q_move; exact rfl))
    focus (refine' jk_q _ rfl rfl rfl _; rotate_left; (apply q_ltF; exact rfl; exact rfl; omega))
    focus (refine' jk_q _ rfl rfl rfl _; rotate_left; (apply q_pick_f; exact rfl; exact rfl))
    focus (refine' jk_q _ rfl rfl rfl _; rotate_left; (apply q_move; exact rfl))
    focus (refine' jk_q _ rfl rfl rfl _; rotate_left; (apply q_move; exact rfl))
    focus (refine' jk_q _ rfl rfl rfl _; rotate_left; (apply q_gtF; exact rfl; exact rfl; omega))
    focus (refine' jk_q _ rfl rfl rfl _; rotate_left; (apply q_pick_f; exact rfl; exact rfl))
    focus (refine' jk_q _ rfl rfl rfl _; rotate_left; (apply q_move; exact rfl))
    focus (refine' jk_q _ rfl rfl rfl _; rotate_left; (apply q_move; exact rfl))
    focus (refine' jk_q _ rfl rfl rfl _; rotate_left; (apply q_move; exact rfl))
    focus (refine' jk_q _ rfl rfl rfl _; rotate_left; (apply q_ltF; exact rfl; exact rfl; omega))
    focus (refine' jk_q _ rfl rfl rfl _; rotate_left; (apply q_pick_f; exact rfl; exact rfl))
    focus (refine' jk_q _ rfl rfl rfl _; rotate_left; (apply q_move; exact rfl))
    focus (refine' jk_q _ rfl rfl rfl _; rotate_left; (apply q_move; exact rfl))
    focus (refine' jk_q _ rfl rfl rfl _; rotate_left; (apply q_gtF; exact rfl; exact rfl; omega))
    focus (refine' jk_q _ rfl rfl rfl _; rotate_left; (apply q_pick_f; exact rfl; exact rfl))
    focus (refine' jk_q _ rfl rfl rfl _; rotate_left; (apply q_move; exact rfl))
    focus (refine' jk_q _ rfl rfl rfl _; rotate_left; (apply q_move; exact rfl))
    focus (refine' jk_q _ rfl rfl rfl _; rotate_left; (apply q_lt; exact rfl; exact rfl; omega))
    focus (refine' jk_q _ rfl rfl rfl _; rotate_left; (apply q_pick_f; exact rfl; exact rfl))
    focus (refine' jk_q _ rfl rfl rfl _; rotate_left; (apply q_move; exact rfl))
    refine jk_pass rfl rfl rfl ?_
    refine jk_pass rfl rfl rfl ?_
    focus (refine' jk_q _ rfl rfl rfl _; rotate_left; (apply q_pick_t; exact rfl; exact rfl))
    refine jk_nil ?_
    refine jk_if_t rfl ?_
    refine jk_seq ?_
    refine jk_region ?_
    focus ((refine jk_call awake_spec rfl rfl (by (repeat (first | exact RdOK.nil | (refine RdOK.consR ?_ ?_; (focus ((repeat (first | exact .here | apply Mem.there | apply Take.there)); first | done | fail))) | (refine RdOK.consH ?_ ?_; (focus ((repeat (first | exact .here | apply Mem.there | apply Take.there)); first | done | fail))) | exact (fun τ hτ => .inl (by simp [hτ])))); first | done | fail) rfl rfl ?_; rintro _ rfl))
    focus (refine' jk_q _ rfl rfl rfl _; rotate_left; (apply q_assign; exact rfl))
    refine jk_nil ?_
    exact jk_ret_any (res1 rfl rfl) (by (repeat (first | exact rs_nil | (refine rs_cons ?_ ?_; (focus ((repeat (first | exact .here | apply Mem.there | apply Take.there)); first | done | fail))) | exact fun ρ hρ => hρ | (intro ρ hρ; repeat (first | exact hρ | refine List.mem_cons_of_mem _ ?_)))); first | done | fail) (by (repeat (first | exact Sel.nil | (apply Sel.cons; (focus ((repeat (first | exact .here | apply Mem.there | apply Take.there)); first | done | fail))))); first | done | fail) ⟨rfl, rfl⟩
  by_cases h6 : 1152921504606846976 < am
  · focus (refine' jk_q _ rfl rfl rfl _; rotate_left; (apply q_neF; exact rfl; exact rfl; omega))
    focus (refine' jk_q _ rfl rfl rfl _; rotate_left; (apply q_pick_f; exact rfl; exact rfl))
    focus (refine' jk_q _ rfl rfl rfl _; rotate_left; (apply q_move; exact rfl))
    focus (refine' jk_q _ rfl rfl rfl _; rotate_left; (apply q_move; exact rfl))
    focus (refine' jk_q _ rfl rfl rfl _; rotate_left; (apply q_ltF; exact rfl; exact rfl; omega))
    focus (refine' jk_q _ rfl rfl rfl _; rotate_left; (apply q_pick_f; exact rfl; exact rfl))
    focus (refine' jk_q _ rfl rfl rfl _; rotate_left; (apply q_move; exact rfl))
    focus (refine' jk_q _ rfl rfl rfl _; rotate_left; (apply q_move; exact rfl))
    focus (refine' jk_q _ rfl rfl rfl _; rotate_left; (apply q_gtF; exact rfl; exact rfl; omega))
    focus (refine' jk_q _ rfl rfl rfl _; rotate_left; (apply q_pick_f; exact rfl; exact rfl))
    focus (refine' jk_q _ rfl rfl rfl _; rotate_left; (apply q_move; exact rfl))
    focus (refine' jk_q _ rfl rfl rfl _; rotate_left; (apply q_move; exact rfl))
    focus (refine' jk_q _ rfl rfl rfl _; rotate_left; (apply q_move; exact rfl))
    focus (refine' jk_q _ rfl rfl rfl _; rotate_left; (apply q_ltF; exact rfl; exact rfl; omega))
    focus (refine' jk_q _ rfl rfl rfl _; rotate_left; (apply q_pick_f; exact rfl; exact rfl))
    focus (refine' jk_q _ rfl rfl rfl _; rotate_left; (apply q_move; exact rfl))
    focus (refine' jk_q _ rfl rfl rfl _; rotate_left; (apply q_move; exact rfl))
    focus (refine' jk_q _ rfl rfl rfl _; rotate_left; (apply q_gtF; exact rfl; exact rfl; omega))
    focus (refine' jk_q _ rfl rfl rfl _; rotate_left; (apply q_pick_f; exact rfl; exact rfl))
    focus (refine' jk_q _ rfl rfl rfl _; rotate_left; (apply q_move; exact rfl))
    focus (refine' jk_q _ rfl rfl rfl _; rotate_left; (apply q_move; exact rfl))
    focus (refine' jk_q _ rfl rfl rfl _; rotate_left; (apply q_ltF; exact rfl; exact rfl; omega))
    focus (refine' jk_q _ rfl rfl rfl _; rotate_left; (apply q_pick_f; exact rfl; exact rfl))
    focus (refine' jk_q _ rfl rfl rfl _; rotate_left; (apply q_move; exact rfl))
    focus (refine' jk_q _ rfl rfl rfl _; rotate_left; (apply q_move; exact rfl))
    focus (refine' jk_q _ rfl rfl rfl _; rotate_left; (apply q_gt; exact rfl; exact rfl; omega))
    focus (refine' jk_q _ rfl rfl rfl _; rotate_left; (apply q_pick_f; exact rfl; exact rfl))
    refine jk_nil ?_
    refine jk_if_t rfl ?_
    refine jk_seq ?_
    refine jk_region ?_
    focus ((refine jk_call awake_spec rfl rfl (by (repeat (first | exact RdOK.nil | (refine RdOK.consR ?_ ?_; (focus ((repeat (first | exact .here | apply Mem.there | apply Take.there)); first | done | fail))) | (refine RdOK.consH ?_ ?_; (focus ((repeat (first | exact .here | apply Mem.there | apply Take.there)); first | done | fail))) | exact (fun τ hτ => .inl (by simp [hτ])))); first | done | fail) rfl rfl ?_; rintro _ rfl))
    focus (refine' jk_q _ rfl rfl rfl _; rotate_left; (apply q_assign; exact rfl))
    refine jk_nil ?_
    exact jk_ret_any (res1 rfl rfl) (by (repeat (first | exact rs_nil | (refine rs_cons ?_ ?_; (focus ((repeat (first | exact .here | apply Mem.there | apply Take.there)); first | done | fail))) | exact fun ρ hρ => hρ | (intro ρ hρ; repeat (first | exact hρ | refine List.mem_cons_of_mem _ ?_)))); first | done | fail) (by (repeat (first | exact Sel.nil | (apply Sel.cons; (focus ((repeat (first | exact .here | apply Mem.there | apply Take.there)); first | done | fail))))); first | done | fail) ⟨rfl, rfl⟩
  have hrt := (chkC_ok h0).2
  have m1 := cum_mono hrt (show t.toNat ≤ u.toNat by omega)
  have m2 := (cum_bd hrt t.toNat).1
  focus (refine' jk_q _ rfl rfl rfl _; rotate_left; (apply q_neF; exact rfl; exact rfl; omega))
  focus (refine' jk_q _ rfl rfl rfl _; rotate_left; (apply q_pick_f; exact rfl; exact rfl))
  focus (refine' jk_q _ rfl rfl rfl _; rotate_left; (apply q_move; exact rfl))
  focus (refine' jk_q _ rfl rfl rfl _; rotate_left; (apply q_move; exact rfl))
  focus (refine' jk_q _ rfl rfl rfl _; rotate_left; (apply q_ltF; exact rfl; exact rfl; omega))
  focus (refine' jk_q _ rfl rfl rfl _; rotate_left; (apply q_pick_f; exact rfl; exact rfl))
  focus (refine' jk_q _ rfl rfl rfl _; rotate_left; (apply q_move; exact rfl))
  focus (refine' jk_q _ rfl rfl rfl _; rotate_left; (apply q_move; exact rfl))
  focus (refine' jk_q _ rfl rfl rfl _; rotate_left; (apply q_gtF; exact rfl; exact rfl; omega))
  focus (refine' jk_q _ rfl rfl rfl _; rotate_left; (apply q_pick_f; exact rfl; exact rfl))
  focus (refine' jk_q _ rfl rfl rfl _; rotate_left; (apply q_move; exact rfl))
  focus (refine' jk_q _ rfl rfl rfl _; rotate_left; (apply q_move; exact rfl))
  focus (refine' jk_q _ rfl rfl rfl _; rotate_left; (apply q_move; exact rfl))
  focus (refine' jk_q _ rfl rfl rfl _; rotate_left; (apply q_ltF; exact rfl; exact rfl; omega))
  focus (refine' jk_q _ rfl rfl rfl _; rotate_left; (apply q_pick_f; exact rfl; exact rfl))
  focus (refine' jk_q _ rfl rfl rfl _; rotate_left; (apply q_move; exact rfl))
  focus (refine' jk_q _ rfl rfl rfl _; rotate_left; (apply q_move; exact rfl))
  focus (refine' jk_q _ rfl rfl rfl _; rotate_left; (apply q_gtF; exact rfl; exact rfl; omega))
  focus (refine' jk_q _ rfl rfl rfl _; rotate_left; (apply q_pick_f; exact rfl; exact rfl))
  focus (refine' jk_q _ rfl rfl rfl _; rotate_left; (apply q_move; exact rfl))
  focus (refine' jk_q _ rfl rfl rfl _; rotate_left; (apply q_move; exact rfl))
  focus (refine' jk_q _ rfl rfl rfl _; rotate_left; (apply q_ltF; exact rfl; exact rfl; omega))
  focus (refine' jk_q _ rfl rfl rfl _; rotate_left; (apply q_pick_f; exact rfl; exact rfl))
  focus (refine' jk_q _ rfl rfl rfl _; rotate_left; (apply q_move; exact rfl))
  focus (refine' jk_q _ rfl rfl rfl _; rotate_left; (apply q_move; exact rfl))
  focus (refine' jk_q _ rfl rfl rfl _; rotate_left; (apply q_gtF; exact rfl; exact rfl; omega))
  focus (refine' jk_q _ rfl rfl rfl _; rotate_left; (apply q_pick_f; exact rfl; exact rfl))
  refine jk_nil ?_
  refine jk_if_f rfl ?_
  refine jk_skip ?_
  refine jk_seq ?_
  refine jk_region ?_
  focus (refine' jk_q _ rfl rfl rfl _; rotate_left; (apply q_move; exact rfl))
  focus (refine' jk_q _ rfl rfl rfl _; rotate_left; (apply q_move; exact rfl))
  refine jk_call (cvTop_spec ρ _ f t hv2 hl) rfl rfl (by (repeat (first | exact RdOK.nil | (refine RdOK.consR ?_ ?_; (focus ((repeat (first | exact .here | apply Mem.there | apply Take.there)); first | done | fail))) | (refine RdOK.consH ?_ ?_; (focus ((repeat (first | exact .here | apply Mem.there | apply Take.there)); first | done | fail))) | exact (fun τ hτ => .inl (by simp [hτ])))); first | done | fail) rfl rfl ?_
  rw [if_pos h0, if_pos (by omega)]
  rintro _ rfl
  focus (refine' jk_q _ rfl rfl rfl _; rotate_left; (apply q_move; exact rfl))
  focus (refine' jk_q _ rfl rfl rfl _; rotate_left; (apply q_extract; exact rfl; exact rfl))
  focus (refine' jk_q _ rfl rfl rfl _; rotate_left; (apply q_extract; exact rfl; exact rfl))
  focus (refine' jk_q _ rfl rfl rfl _; rotate_left; (apply q_assign; exact rfl))
  focus (refine' jk_q _ rfl rfl rfl _; rotate_left; (apply q_assign; exact rfl))
  refine jk_nil ?_
  refine jk_seq ?_
  refine jk_region ?_
  focus (refine' jk_q _ rfl rfl rfl _; rotate_left; (apply q_move; exact rfl))
  focus (refine' jk_q _ rfl rfl rfl _; rotate_left; (apply q_move; exact rfl))
  refine jk_call (cvTop_spec ρ _ f u hv2 hl) rfl rfl (by (repeat (first | exact RdOK.nil | (refine RdOK.consR ?_ ?_; (focus ((repeat (first | exact .here | apply Mem.there | apply Take.there)); first | done | fail))) | (refine RdOK.consH ?_ ?_; (focus ((repeat (first | exact .here | apply Mem.there | apply Take.there)); first | done | fail))) | exact (fun τ hτ => .inl (by simp [hτ])))); first | done | fail) rfl rfl ?_
  rw [if_pos h0, if_pos (by omega)]
  rintro _ rfl
  focus (refine' jk_q _ rfl rfl rfl _; rotate_left; (apply q_move; exact rfl))
  focus (refine' jk_q _ rfl rfl rfl _; rotate_left; (apply q_extract; exact rfl; exact rfl))
  focus (refine' jk_q _ rfl rfl rfl _; rotate_left; (apply q_extract; exact rfl; exact rfl))
  focus (refine' jk_q _ rfl rfl rfl _; rotate_left; (apply q_assign; exact rfl))
  focus (refine' jk_q _ rfl rfl rfl _; rotate_left; (apply q_assign; exact rfl))
  refine jk_nil ?_
  refine jk_seq ?_
  refine jk_region ?_
  focus (refine' jk_q _ rfl rfl rfl _; rotate_left; (apply q_move; exact rfl))
  focus (refine' jk_q _ rfl rfl rfl _; rotate_left; (apply q_move; exact rfl))
  refine jk_call (when_spec ρ _ f am hv2 hl) rfl rfl (by (repeat (first | exact RdOK.nil | (refine RdOK.consR ?_ ?_; (focus ((repeat (first | exact .here | apply Mem.there | apply Take.there)); first | done | fail))) | (refine RdOK.consH ?_ ?_; (focus ((repeat (first | exact .here | apply Mem.there | apply Take.there)); first | done | fail))) | exact (fun τ hτ => .inl (by simp [hτ])))); first | done | fail) rfl rfl ?_
  rintro _ ⟨_, _, hw⟩
  rcases hw h0 (by omega) (by omega) with ⟨k, hk, rfl, k1, k2⟩ | ⟨hN, rfl⟩
  · have e1 : ∀ x : Nat, x < k → cum f x < am := fun x hx => k2 x hx
    by_cases c1 : (k : Int) ≤ t
    · have d1 : am ≤ cum f t.toNat := by have := cum_mono hrt (show k ≤ t.toNat by omega); omega
      have d2 : am ≤ cum f u.toNat := by have := cum_mono hrt (show k ≤ u.toNat by omega); omega
      focus (refine' jk_q _ rfl rfl rfl _; rotate_left; (apply q_move; exact rfl))
      focus (refine' jk_q _ rfl rfl rfl _; rotate_left; (apply q_extract; exact rfl; exact rfl))
      focus (refine' jk_q _ rfl rfl rfl _; rotate_left; (apply q_extract; exact rfl; exact rfl))
      focus (refine' jk_q _ rfl rfl rfl _; rotate_left; (apply q_assign; exact rfl))
      focus (refine' jk_q _ rfl rfl rfl _; rotate_left; (apply q_assign; exact rfl))
      refine jk_nil ?_
      refine jk_seq ?_
      refine jk_seq ?_
      refine jk_region ?_
      focus (refine' jk_q _ rfl rfl rfl _; rotate_left; (apply q_move; exact rfl))
      focus (refine' jk_q _ rfl rfl rfl _; rotate_left; (apply q_neF; exact rfl; exact rfl; omega))
      focus (refine' jk_q _ rfl rfl rfl _; rotate_left; (apply q_move; exact rfl))
      focus (refine' jk_q _ rfl rfl rfl _; rotate_left; (apply q_move; exact rfl))
      focus (refine' jk_q _ rfl rfl rfl _; rotate_left; (apply q_neF; exact rfl; exact rfl; omega))
      focus (refine' jk_q _ rfl rfl rfl _; rotate_left; (apply q_pick_f; exact rfl; exact rfl))
      focus (refine' jk_q _ rfl rfl rfl _; rotate_left; (apply q_move; exact rfl))
      focus (refine' jk_q _ rfl rfl rfl _; rotate_left; (apply q_move; exact rfl))
      focus (refine' jk_q _ rfl rfl rfl _; rotate_left; (apply q_move; exact rfl))
      focus (refine' jk_q _ rfl rfl rfl _; rotate_left; (apply q_gtF; exact rfl; exact rfl; omega))
      focus (refine' jk_q _ rfl rfl rfl _; rotate_left; (apply q_pick_f; exact rfl; exact rfl))
      focus (refine' jk_q _ rfl rfl rfl _; rotate_left; (apply q_move; exact rfl))
      focus (refine' jk_q _ rfl rfl rfl _; rotate_left; (apply q_move; exact rfl))
      focus (refine' jk_q _ rfl rfl rfl _; rotate_left; (apply q_ltF; exact rfl; exact rfl; omega))
      focus (refine' jk_q _ rfl rfl rfl _; rotate_left; (apply q_pick_f; exact rfl; exact rfl))
      refine jk_nil ?_
      refine jk_if_f rfl ?_
      refine jk_skip ?_
      refine jk_seq ?_
      refine jk_seq ?_
      refine jk_region ?_
      focus (refine' jk_q _ rfl rfl rfl _; rotate_left; (apply q_move; exact rfl))
      focus (refine' jk_q _ rfl rfl rfl _; rotate_left; (apply q_neF; exact rfl; exact rfl; omega))
      refine jk_nil ?_
      refine jk_if_f rfl ?_
      refine jk_skip ?_
      refine jk_seq ?_
      refine jk_region ?_
      focus (refine' jk_q _ rfl rfl rfl _; rotate_left; (apply q_move; exact rfl))
      focus (refine' jk_q _ rfl rfl rfl _; rotate_left; (apply q_ge; exact rfl; exact rfl; omega))
      focus (refine' jk_q _ rfl rfl rfl _; rotate_left; (apply q_move; exact rfl))
      focus (refine' jk_q _ rfl rfl rfl _; rotate_left; (apply q_move; exact rfl))
      focus (refine' jk_q _ rfl rfl rfl _; rotate_left; (apply q_move; exact rfl))
      focus (refine' jk_q _ rfl rfl rfl _; rotate_left; (apply q_le; exact rfl; exact rfl; omega))
      focus (refine' jk_q _ rfl rfl rfl _; rotate_left; (apply q_move; exact rfl))
      focus (refine' jk_q _ rfl rfl rfl _; rotate_left; (apply q_move; exact rfl))
      focus (refine' jk_q _ rfl rfl rfl _; rotate_left; (apply q_ge; exact rfl; exact rfl; omega))
      focus (refine' jk_q _ rfl rfl rfl _; rotate_left; (apply q_eqBool; exact rfl; exact rfl; exact rfl))
      focus (refine' jk_q _ rfl rfl rfl _; rotate_left; (apply q_pick_t; exact rfl; exact rfl))
      focus (refine' jk_q _ rfl rfl rfl _; rotate_left; (apply q_move; exact rfl))
      focus (refine' jk_q _ rfl rfl rfl _; rotate_left; (apply q_move; exact rfl))
      focus (refine' jk_q _ rfl rfl rfl _; rotate_left; (apply q_move; exact rfl))
      focus (refine' jk_q _ rfl rfl rfl _; rotate_left; (apply q_le; exact rfl; exact rfl; omega))
      focus (refine' jk_q _ rfl rfl rfl _; rotate_left; (apply q_move; exact rfl))
      focus (refine' jk_q _ rfl rfl rfl _; rotate_left; (apply q_move; exact rfl))
      focus (refine' jk_q _ rfl rfl rfl _; rotate_left; (apply q_ge; exact rfl; exact rfl; omega))
      focus (refine' jk_q _ rfl rfl rfl _; rotate_left; (apply q_eqBool; exact rfl; exact rfl; exact rfl))
      focus (refine' jk_q _ rfl rfl rfl _; rotate_left; (apply q_pick_t; exact rfl; exact rfl))
      focus (refine' jk_q _ rfl rfl rfl _; rotate_left; (apply q_move; exact rfl))
      focus ((refine jk_call awake_spec rfl rfl (by (repeat (first | exact RdOK.nil | (refine RdOK.consR ?_ ?_; (focus ((repeat (first | exact .here | apply Mem.there | apply Take.there)); first | done | fail))) | (refine RdOK.consH ?_ ?_; (focus ((repeat (first | exact .here | apply Mem.there | apply Take.there)); first | done | fail))) | exact (fun τ hτ => .inl (by simp [hτ])))); first | done | fail) rfl rfl ?_; rintro _ rfl))
      focus (refine' jk_q _ rfl rfl rfl _; rotate_left; (apply q_pick_t; exact rfl; exact rfl))
      focus (refine' jk_q _ rfl rfl rfl _; rotate_left; (apply q_assign; exact rfl))
      refine jk_nil ?_
      exact jk_ret_any (res1 rfl rfl) (by (repeat (first | exact rs_nil | (refine rs_cons ?_ ?_; (focus ((repeat (first | exact .here | apply Mem.there | apply Take.there)); first | done | fail))) | exact fun ρ hρ => hρ | (intro ρ hρ; repeat (first | exact hρ | refine List.mem_cons_of_mem _ ?_)))); first | done | fail) (by (repeat (first | exact Sel.nil | (apply Sel.cons; (focus ((repeat (first | exact .here | apply Mem.there | apply Take.there)); first | done | fail))))); first | done | fail) ⟨rfl, rfl⟩
    · have d1 := k2 t.toNat (by omega)
      by_cases c2 : (k : Int) ≤ u
      · have d2 : am ≤ cum f u.toNat := by have := cum_mono hrt (show k ≤ u.toNat by omega); omega
        focus (refine' jk_q _ rfl rfl rfl _; rotate_left; (apply q_move; exact rfl))
        focus (refine' jk_q _ rfl rfl rfl _; rotate_left; (apply q_extract; exact rfl; exact rfl))
        focus (refine' jk_q _ rfl rfl rfl _; rotate_left; (apply q_extract; exact rfl; exact rfl))
        focus (refine' jk_q _ rfl rfl rfl _; rotate_left; (apply q_assign; exact rfl))
        focus (refine' jk_q _ rfl rfl rfl _; rotate_left; (apply q_assign; exact rfl))
        refine jk_nil ?_
        refine jk_seq ?_
        refine jk_seq ?_
        refine jk_region ?_
        focus (refine' jk_q _ rfl rfl rfl _; rotate_left; (apply q_move; exact rfl))
        focus (refine' jk_q _ rfl rfl rfl _; rotate_left; (apply q_neF; exact rfl; exact rfl; omega))
        focus (refine' jk_q _ rfl rfl rfl _; rotate_left; (apply q_move; exact rfl))
        focus (refine' jk_q _ rfl rfl rfl _; rotate_left; (apply q_move; exact rfl))
        focus (refine' jk_q _ rfl rfl rfl _; rotate_left; (apply q_neF; exact rfl; exact rfl; omega))
        focus (refine' jk_q _ rfl rfl rfl _; rotate_left; (apply q_pick_f; exact rfl; exact rfl))
        focus (refine' jk_q _ rfl rfl rfl _; rotate_left; (apply q_move; exact rfl))
        focus (refine' jk_q _ rfl rfl rfl _; rotate_left; (apply q_move; exact rfl))
        focus (refine' jk_q _ rfl rfl rfl _; rotate_left; (apply q_move; exact rfl))
        focus (refine' jk_q _ rfl rfl rfl _; rotate_left; (apply q_gtF; exact rfl; exact rfl; omega))
        focus (refine' jk_q _ rfl rfl rfl _; rotate_left; (apply q_pick_f; exact rfl; exact rfl))
        focus (refine' jk_q _ rfl rfl rfl _; rotate_left; (apply q_move; exact rfl))
        focus (refine' jk_q _ rfl rfl rfl _; rotate_left; (apply q_move; exact rfl))
        focus (refine' jk_q _ rfl rfl rfl _; rotate_left; (apply q_ltF; exact rfl; exact rfl; omega))
        focus (refine' jk_q _ rfl rfl rfl _; rotate_left; (apply q_pick_f; exact rfl; exact rfl))
        refine jk_nil ?_
        refine jk_if_f rfl ?_
        refine jk_skip ?_
        refine jk_seq ?_
        refine jk_seq ?_
        refine jk_region ?_
        focus (refine' jk_q _ rfl rfl rfl _; rotate_left; (apply q_move; exact rfl))
        focus (refine' jk_q _ rfl rfl rfl _; rotate_left; (apply q_neF; exact rfl; exact rfl; omega))
        refine jk_nil ?_
        refine jk_if_f rfl ?_
        refine jk_skip ?_
        refine jk_seq ?_
        refine jk_region ?_
        focus (refine' jk_q _ rfl rfl rfl _; rotate_left; (apply q_move; exact rfl))
        focus (refine' jk_q _ rfl rfl rfl _; rotate_left; (apply q_ge; exact rfl; exact rfl; omega))
        focus (refine' jk_q _ rfl rfl rfl _; rotate_left; (apply q_move; exact rfl))
        focus (refine' jk_q _ rfl rfl rfl _; rotate_left; (apply q_move; exact rfl))
        focus (refine' jk_q _ rfl rfl rfl _; rotate_left; (apply q_move; exact rfl))
        focus (refine' jk_q _ rfl rfl rfl _; rotate_left; (apply q_leF; exact rfl; exact rfl; omega))
        focus (refine' jk_q _ rfl rfl rfl _; rotate_left; (apply q_move; exact rfl))
        focus (refine' jk_q _ rfl rfl rfl _; rotate_left; (apply q_move; exact rfl))
        focus (refine' jk_q _ rfl rfl rfl _; rotate_left; (apply q_geF; exact rfl; exact rfl; omega))
        focus (refine' jk_q _ rfl rfl rfl _; rotate_left; (apply q_eqBool; exact rfl; exact rfl; exact rfl))
        focus (refine' jk_q _ rfl rfl rfl _; rotate_left; (apply q_pick_t; exact rfl; exact rfl))
        focus (refine' jk_q _ rfl rfl rfl _; rotate_left; (apply q_move; exact rfl))
        focus (refine' jk_q _ rfl rfl rfl _; rotate_left; (apply q_move; exact rfl))
        focus (refine' jk_q _ rfl rfl rfl _; rotate_left; (apply q_move; exact rfl))
        focus (refine' jk_q _ rfl rfl rfl _; rotate_left; (apply q_le; exact rfl; exact rfl; omega))
        focus (refine' jk_q _ rfl rfl rfl _; rotate_left; (apply q_move; exact rfl))
        focus (refine' jk_q _ rfl rfl rfl _; rotate_left; (apply q_move; exact rfl))
        focus (refine' jk_q _ rfl rfl rfl _; rotate_left; (apply q_ge; exact rfl; exact rfl; omega))
        focus (refine' jk_q _ rfl rfl rfl _; rotate_left; (apply q_eqBool; exact rfl; exact rfl; exact rfl))
        focus (refine' jk_q _ rfl rfl rfl _; rotate_left; (apply q_pick_t; exact rfl; exact rfl))
        focus (refine' jk_q _ rfl rfl rfl _; rotate_left; (apply q_move; exact rfl))
        focus ((refine jk_call awake_spec rfl rfl (by (repeat (first | exact RdOK.nil | (refine RdOK.consR ?_ ?_; (focus ((repeat (first | exact .here | apply Mem.there | apply Take.there)); first | done | fail))) | (refine RdOK.consH ?_ ?_; (focus ((repeat (first | exact .here | apply Mem.there | apply Take.there)); first | done | fail))) | exact (fun τ hτ => .inl (by simp [hτ])))); first | done | fail) rfl rfl ?_; rintro _ rfl))
        focus (refine' jk_q _ rfl rfl rfl _; rotate_left; (apply q_pick_t; exact rfl; exact rfl))
        focus (refine' jk_q _ rfl rfl rfl _; rotate_left; (apply q_assign; exact rfl))
        refine jk_nil ?_
        exact jk_ret_any (res1 rfl rfl) (by (repeat (first | exact rs_nil | (refine rs_cons ?_ ?_; (focus ((repeat (first | exact .here | apply Mem.there | apply Take.there)); first | done | fail))) | exact fun ρ hρ => hρ | (intro ρ hρ; repeat (first | exact hρ | refine List.mem_cons_of_mem _ ?_)))); first | done | fail) (by (repeat (first | exact Sel.nil | (apply Sel.cons; (focus ((repeat (first | exact .here | apply Mem.there | apply Take.there)); first | done | fail))))); first | done | fail) ⟨rfl, rfl⟩
      · have d2 := k2 u.toNat (by omega)
        focus (refine' jk_q _ rfl rfl rfl _; rotate_left; (apply q_move; exact rfl))
        focus (refine' jk_q _ rfl rfl rfl _; rotate_left; (apply q_extract; exact rfl; exact rfl))
        focus (refine' jk_q _ rfl rfl rfl _; rotate_left; (apply q_extract; exact rfl; exact rfl))
        focus (refine' jk_q _ rfl rfl rfl _; rotate_left; (apply q_assign; exact rfl))
        focus (refine' jk_q _ rfl rfl rfl _; rotate_left; (apply q_assign; exact rfl))
        refine jk_nil ?_
        refine jk_seq ?_
        refine jk_seq ?_
        refine jk_region ?_
        focus (refine' jk_q _ rfl rfl rfl _; rotate_left; (apply q_move; exact rfl))
        focus (refine' jk_q _ rfl rfl rfl _; rotate_left; (apply q_neF; exact rfl; exact rfl; omega))
        focus (refine' jk_q _ rfl rfl rfl _; rotate_left; (apply q_move; exact rfl))
        focus (refine' jk_q _ rfl rfl rfl _; rotate_left; (apply q_move; exact rfl))
        focus (refine' jk_q _ rfl rfl rfl _; rotate_left; (apply q_neF; exact rfl; exact rfl; omega))
        focus (refine' jk_q _ rfl rfl rfl _; rotate_left; (apply q_pick_f; exact rfl; exact rfl))
        focus (refine' jk_q _ rfl rfl rfl _; rotate_left; (apply q_move; exact rfl))
        focus (refine' jk_q _ rfl rfl rfl _; rotate_left; (apply q_move; exact rfl))
        focus (refine' jk_q _ rfl rfl rfl _; rotate_left; (apply q_move; exact rfl))
        focus (refine' jk_q _ rfl rfl rfl _; rotate_left; (apply q_gtF; exact rfl; exact rfl; omega))
        focus (refine' jk_q _ rfl rfl rfl _; rotate_left; (apply q_pick_f; exact rfl; exact rfl))
        focus (refine' jk_q _ rfl rfl rfl _; rotate_left; (apply q_move; exact rfl))
        focus (refine' jk_q _ rfl rfl rfl _; rotate_left; (apply q_move; exact rfl))
        focus (refine' jk_q _ rfl rfl rfl _; rotate_left; (apply q_ltF; exact rfl; exact rfl; omega))
        focus (refine' jk_q _ rfl rfl rfl _; rotate_left; (apply q_pick_f; exact rfl; exact rfl))
        refine jk_nil ?_
        refine jk_if_f rfl ?_
        refine jk_skip ?_
        refine jk_seq ?_
        refine jk_seq ?_
        refine jk_region ?_
        focus (refine' jk_q _ rfl rfl rfl _; rotate_left; (apply q_move; exact rfl))
        focus (refine' jk_q _ rfl rfl rfl _; rotate_left; (apply q_neF; exact rfl; exact rfl; omega))
        refine jk_nil ?_
        refine jk_if_f rfl ?_
        refine jk_skip ?_
        refine jk_seq ?_
        refine jk_region ?_
        focus (refine' jk_q _ rfl rfl rfl _; rotate_left; (apply q_move; exact rfl))
        focus (refine' jk_q _ rfl rfl rfl _; rotate_left; (apply q_ge; exact rfl; exact rfl; omega))
        focus (refine' jk_q _ rfl rfl rfl _; rotate_left; (apply q_move; exact rfl))
        focus (refine' jk_q _ rfl rfl rfl _; rotate_left; (apply q_move; exact rfl))
        focus (refine' jk_q _ rfl rfl rfl _; rotate_left; (apply q_move; exact rfl))
        focus (refine' jk_q _ rfl rfl rfl _; rotate_left; (apply q_leF; exact rfl; exact rfl; omega))
        focus (refine' jk_q _ rfl rfl rfl _; rotate_left; (apply q_move; exact rfl))
        focus (refine' jk_q _ rfl rfl rfl _; rotate_left; (apply q_move; exact rfl))
        focus (refine' jk_q _ rfl rfl rfl _; rotate_left; (apply q_geF; exact rfl; exact rfl; omega))
        focus (refine' jk_q _ rfl rfl rfl _; rotate_left; (apply q_eqBool; exact rfl; exact rfl; exact rfl))
        focus (refine' jk_q _ rfl rfl rfl _; rotate_left; (apply q_pick_t; exact rfl; exact rfl))
        focus (refine' jk_q _ rfl rfl rfl _; rotate_left; (apply q_move; exact rfl))
        focus (refine' jk_q _ rfl rfl rfl _; rotate_left; (apply q_move; exact rfl))
        focus (refine' jk_q _ rfl rfl rfl _; rotate_left; (apply q_move; exact rfl))
        focus (refine' jk_q _ rfl rfl rfl _; rotate_left; (apply q_leF; exact rfl; exact rfl; omega))
        focus (refine' jk_q _ rfl rfl rfl _; rotate_left; (apply q_move; exact rfl))
        focus (refine' jk_q _ rfl rfl rfl _; rotate_left; (apply q_move; exact rfl))
        focus (refine' jk_q _ rfl rfl rfl _; rotate_left; (apply q_geF; exact rfl; exact rfl; omega))
        focus (refine' jk_q _ rfl rfl rfl _; rotate_left; (apply q_eqBool; exact rfl; exact rfl; exact rfl))
        focus (refine' jk_q _ rfl rfl rfl _; rotate_left; (apply q_pick_t; exact rfl; exact rfl))
        focus (refine' jk_q _ rfl rfl rfl _; rotate_left; (apply q_move; exact rfl))
        focus ((refine jk_call awake_spec rfl rfl (by (repeat (first | exact RdOK.nil | (refine RdOK.consR ?_ ?_; (focus ((repeat (first | exact .here | apply Mem.there | apply Take.there)); first | done | fail))) | (refine RdOK.consH ?_ ?_; (focus ((repeat (first | exact .here | apply Mem.there | apply Take.there)); first | done | fail))) | exact (fun τ hτ => .inl (by simp [hτ])))); first | done | fail) rfl rfl ?_; rintro _ rfl))
        focus (refine' jk_q _ rfl rfl rfl _; rotate_left; (apply q_pick_t; exact rfl; exact rfl))
        focus (refine' jk_q _ rfl rfl rfl _; rotate_left; (apply q_assign; exact rfl))
        refine jk_nil ?_
        exact jk_ret_any (res1 rfl rfl) (by (repeat (first | exact rs_nil | (refine rs_cons ?_ ?_; (focus ((repeat (first | exact .here | apply Mem.there | apply Take.there)); first | done | fail))) | exact fun ρ hρ => hρ | (intro ρ hρ; repeat (first | exact hρ | refine List.mem_cons_of_mem _ ?_)))); first | done | fail) (by (repeat (first | exact Sel.nil | (apply Sel.cons; (focus ((repeat (first | exact .here | apply Mem.there | apply Take.there)); first | done | fail))))); first | done | fail) ⟨rfl, rfl⟩
  · have d1 := hN (1099511627776 : Int).toNat (by omega)
    focus (refine' jk_q _ rfl rfl rfl _; rotate_left; (apply q_move; exact rfl))
    focus (refine' jk_q _ rfl rfl rfl _; rotate_left; (apply q_extract; exact rfl; exact rfl))
    focus (refine' jk_q _ rfl rfl rfl _; rotate_left; (apply q_extract; exact rfl; exact rfl))
    focus (refine' jk_q _ rfl rfl rfl _; rotate_left; (apply q_assign; exact rfl))
    focus (refine' jk_q _ rfl rfl rfl _; rotate_left; (apply q_assign; exact rfl))
    refine jk_nil ?_
    refine jk_seq ?_
    refine jk_seq ?_
    refine jk_region ?_
    focus (refine' jk_q _ rfl rfl rfl _; rotate_left; (apply q_move; exact rfl))
    focus (refine' jk_q _ rfl rfl rfl _; rotate_left; (apply q_neF; exact rfl; exact rfl; omega))
    focus (refine' jk_q _ rfl rfl rfl _; rotate_left; (apply q_move; exact rfl))
    focus (refine' jk_q _ rfl rfl rfl _; rotate_left; (apply q_move; exact rfl))
    focus (refine' jk_q _ rfl rfl rfl _; rotate_left; (apply q_neF; exact rfl; exact rfl; omega))
    focus (refine' jk_q _ rfl rfl rfl _; rotate_left; (apply q_pick_f; exact rfl; exact rfl))
    focus (refine' jk_q _ rfl rfl rfl _; rotate_left; (apply q_move; exact rfl))
    focus (refine' jk_q _ rfl rfl rfl _; rotate_left; (apply q_move; exact rfl))
    focus (refine' jk_q _ rfl rfl rfl _; rotate_left; (apply q_move; exact rfl))
    focus (refine' jk_q _ rfl rfl rfl _; rotate_left; (apply q_gtF; exact rfl; exact rfl; omega))
    focus (refine' jk_q _ rfl rfl rfl _; rotate_left; (apply q_pick_f; exact rfl; exact rfl))
    focus (refine' jk_q _ rfl rfl rfl _; rotate_left; (apply q_move; exact rfl))
    focus (refine' jk_q _ rfl rfl rfl _; rotate_left; (apply q_move; exact rfl))
    focus (refine' jk_q _ rfl rfl rfl _; rotate_left; (apply q_ltF; exact rfl; exact rfl; omega))
    focus (refine' jk_q _ rfl rfl rfl _; rotate_left; (apply q_pick_f; exact rfl; exact rfl))
    refine jk_nil ?_
    refine jk_if_f rfl ?_
    refine jk_skip ?_
    refine jk_seq ?_
    refine jk_seq ?_
    refine jk_region ?_
    focus (refine' jk_q _ rfl rfl rfl _; rotate_left; (apply q_move; exact rfl))
    focus (refine' jk_q _ rfl rfl rfl _; rotate_left; (apply q_ne; exact rfl; exact rfl; omega))
    refine jk_nil ?_
    refine jk_if_t rfl ?_
    refine jk_seq ?_
    refine jk_region ?_
    focus (refine' jk_q _ rfl rfl rfl _; rotate_left; (apply q_move; exact rfl))
    refine jk_call (cvTop_spec ρ _ f 1099511627776 hv2 hl) rfl rfl (by (repeat (first | exact RdOK.nil | (refine RdOK.consR ?_ ?_; (focus ((repeat (first | exact .here | apply Mem.there | apply Take.there)); first | done | fail))) | (refine RdOK.consH ?_ ?_; (focus ((repeat (first | exact .here | apply Mem.there | apply Take.there)); first | done | fail))) | exact (fun τ hτ => .inl (by simp [hτ])))); first | done | fail) rfl rfl ?_
    rw [if_pos h0, if_pos (by omega)]
    rintro _ rfl
    focus (refine' jk_q _ rfl rfl rfl _; rotate_left; (apply q_move; exact rfl))
    focus (refine' jk_q _ rfl rfl rfl _; rotate_left; (apply q_extract; exact rfl; exact rfl))
    focus (refine' jk_q _ rfl rfl rfl _; rotate_left; (apply q_extract; exact rfl; exact rfl))
    focus (refine' jk_q _ rfl rfl rfl _; rotate_left; (apply q_assign; exact rfl))
    focus (refine' jk_q _ rfl rfl rfl _; rotate_left; (apply q_assign; exact rfl))
    refine jk_nil ?_
    refine jk_seq ?_
    refine jk_region ?_
    focus (refine' jk_q _ rfl rfl rfl _; rotate_left; (apply q_move; exact rfl))
    focus (refine' jk_q _ rfl rfl rfl _; rotate_left; (apply q_eq; exact rfl; exact rfl; omega))
    focus (refine' jk_q _ rfl rfl rfl _; rotate_left; (apply q_move; exact rfl))
    focus (refine' jk_q _ rfl rfl rfl _; rotate_left; (apply q_move; exact rfl))
    focus (refine' jk_q _ rfl rfl rfl _; rotate_left; (apply q_eq; exact rfl; exact rfl; omega))
    focus (refine' jk_q _ rfl rfl rfl _; rotate_left; (apply q_pick_t; exact rfl; exact rfl))
    focus (refine' jk_q _ rfl rfl rfl _; rotate_left; (apply q_move; exact rfl))
    focus (refine' jk_q _ rfl rfl rfl _; rotate_left; (apply q_move; exact rfl))
    focus (refine' jk_q _ rfl rfl rfl _; rotate_left; (apply q_move; exact rfl))
    focus (refine' jk_q _ rfl rfl rfl _; rotate_left; (apply q_lt; exact rfl; exact rfl; omega))
    focus (refine' jk_q _ rfl rfl rfl _; rotate_left; (apply q_pick_t; exact rfl; exact rfl))
    focus (refine' jk_q _ rfl rfl rfl _; rotate_left; (apply q_move; exact rfl))
    focus ((refine jk_call awake_spec rfl rfl (by (repeat (first | exact RdOK.nil | (refine RdOK.consR ?_ ?_; (focus ((repeat (first | exact .here | apply Mem.there | apply Take.there)); first | done | fail))) | (refine RdOK.consH ?_ ?_; (focus ((repeat (first | exact .here | apply Mem.there | apply Take.there)); first | done | fail))) | exact (fun τ hτ => .inl (by simp [hτ])))); first | done | fail) rfl rfl ?_; rintro _ rfl))
    focus (refine' jk_q _ rfl rfl rfl _; rotate_left; (apply q_pick_t; exact rfl; exact rfl))
    focus (refine' jk_q _ rfl rfl rfl _; rotate_left; (apply q_assign; exact rfl))
    refine jk_nil ?_
    exact jk_ret_any (res1 rfl rfl) (by (repeat (first | exact rs_nil | (refine rs_cons ?_ ?_; (focus ((repeat (first | exact .here | apply Mem.there | apply Take.there)); first | done | fail))) | exact fun ρ hρ => hρ | (intro ρ hρ; repeat (first | exact hρ | refine List.mem_cons_of_mem _ ?_)))); first | done | fail) (by (repeat (first | exact Sel.nil | (apply Sel.cons; (focus ((repeat (first | exact .here | apply Mem.there | apply Take.there)); first | done | fail))))); first | done | fail) ⟨rfl, rfl⟩
theorem sumS_take {l : List Jb} {k : Nat} (h : k < l.length) : sumS (l.take (k + 1)) = sumS (l.take k) + l[k].s := by
  induction l generalizing k with
  | nil => simp at h
  | cons a l ih =>
    cases k with
    | zero => simp [sumS]
    | succ k =>
      have := ih (k := k) (by simpa using h)
      simp only [List.take_succ_cons, sumS_cons, List.getElem_cons_succ]
      omega
theorem sumS_bd {l : List Jb} (h : ∀ j ∈ l, 0 ≤ j.s ∧ j.s ≤ 1099511627776) : 0 ≤ sumS l ∧ sumS l ≤ 1099511627776 * (l.length : Int) := by
  induction l with
  | nil => simp [sumS]
  | cons a l ih =>
    have := ih (fun j hj => h j (by simp [hj]))
    have := h a (by simp)
    rw [sumS_cons, List.length_cons]
    omega
def anyOpen (t : Int) (l : List Jb) (o : List Int) (k : Nat) : Bool := (List.range k).any (fun i => decide ((l.getD i default).a ≤ t ∧ t < o.getD i 0))
theorem anyOpen_succ (t : Int) (l : List Jb) (o : List Int) (k : Nat) : anyOpen t l o (k + 1) = (anyOpen t l o k || decide ((l.getD k default).a ≤ t ∧ t < o.getD k 0)) := by
  unfold anyOpen; rw [List.range_succ, List.any_append]; simp
theorem anyOpen_iff {t : Int} {l : List Jb} {o : List Int} (h : o.length = l.length) : anyOpen t l o l.length = true ↔ ∃ (i : Nat) (j : Jb) (u : Int), l[i]? = some j ∧ o[i]? = some u ∧ j.a ≤ t ∧ t < u := by
  unfold anyOpen
  rw [List.any_eq_true]
  constructor
  · rintro ⟨i, hi, hp⟩
    rw [List.mem_range] at hi
    rw [decide_eq_true_eq] at hp
    refine ⟨i, l[i], o[i]'(by omega), List.getElem?_eq_getElem hi, List.getElem?_eq_getElem (by omega), ?_, ?_⟩
    · simpa [List.getD_eq_getElem?_getD, hi] using hp.1
    · simpa [List.getD_eq_getElem?_getD, show i < o.length by omega] using hp.2
  · rintro ⟨i, j, u, h1, h2, h3, h4⟩
    refine ⟨i, List.mem_range.2 (List.getElem?_eq_some_iff.1 h1).1, ?_⟩
    rw [decide_eq_true_eq]
    simp [List.getD_eq_getElem?_getD, h1, h2, h3, h4]
set_option maxHeartbeats 8000000 in
theorem backlog_law (ρ : PH) (v w : Value) (f : List Lv) (l : List Jb) (t : Int) (hv : LvAt ρ v f) (hw : JbAt ρ w l) (hl : f.length ≤ 9223372036854775807) (hl2 : l.length ≤ 9223372036854775807) (ht : In64 t) :
    Ans Try.prog (fv 6) [v, w, int t] [ρ] (fun r => r = .bool true) := by
  have hv2 := hv
  have hw2 := hw
  obtain ⟨qf, cf, rfl, _⟩ := hv.val encV_len
  obtain ⟨q, c, rfl, hr⟩ := hw.val encJ_len
  obtain ⟨ht1, ht2⟩ := ht
  refine spec_in (cap := []) Try.func6 rfl rfl Try.ntmps6 rfl (by (repeat (first | exact EnvA.nil EnvI.nil | apply EnvA.cons | apply EnvA.nil | exact EnvI.nil | apply EnvI.cons)); first | done | fail) (fun N β => ?_)
  refine jk_seq ?_
  refine jk_region ?_
  focus (refine' jk_q _ rfl rfl rfl _; rotate_left; (apply q_assign; exact rfl))
  refine jk_nil ?_
  refine jk_seq ?_
  refine jk_seq ?_
  refine jk_region ?_
  focus (refine' jk_q _ rfl rfl rfl _; rotate_left; (apply q_move; exact rfl))
  focus (refine' jk_q _ rfl rfl rfl _; rotate_left; (apply q_move; exact rfl))
  refine jk_call (great_spec _ _ _ _ _ _) rfl rfl (by (repeat (first | exact RdOK.nil | (refine RdOK.consR ?_ ?_; (focus ((repeat (first | exact .here | apply Mem.there | apply Take.there)); first | done | fail))) | (refine RdOK.consH ?_ ?_; (focus ((repeat (first | exact .here | apply Mem.there | apply Take.there)); first | done | fail))) | exact (fun τ hτ => .inl (by simp [hτ])))); first | done | fail) rfl rfl ?_
  rintro _ rfl
  by_cases hg : 40 < f.length ∧ f.length ≤ 1000 ∨ 1010 < f.length ∨ 12 < l.length ∧ l.length ≤ 1000 ∨ 1010 < l.length
  · rw [decide_eq_true hg]
    focus (refine' jk_q _ rfl rfl rfl _; rotate_left; (apply q_move; exact rfl))
    refine jk_pass rfl rfl rfl ?_
    refine jk_pass rfl rfl rfl ?_
    refine jk_pass rfl rfl rfl ?_
    focus (refine' jk_q _ rfl rfl rfl _; rotate_left; (apply q_pick_t; exact rfl; exact rfl))
    focus (refine' jk_q _ rfl rfl rfl _; rotate_left; (apply q_move; exact rfl))
    refine jk_pass rfl rfl rfl ?_
    refine jk_pass rfl rfl rfl ?_
    focus (refine' jk_q _ rfl rfl rfl _; rotate_left; (apply q_pick_t; exact rfl; exact rfl))
    focus (refine' jk_q _ rfl rfl rfl _; rotate_left; (apply q_move; exact rfl))
    refine jk_pass rfl rfl rfl ?_
    refine jk_pass rfl rfl rfl ?_
    focus (refine' jk_q _ rfl rfl rfl _; rotate_left; (apply q_pick_t; exact rfl; exact rfl))
    refine jk_nil ?_
    refine jk_if_t rfl ?_
    refine jk_seq ?_
    refine jk_region ?_
    focus ((refine jk_call awake_spec rfl rfl (by (repeat (first | exact RdOK.nil | (refine RdOK.consR ?_ ?_; (focus ((repeat (first | exact .here | apply Mem.there | apply Take.there)); first | done | fail))) | (refine RdOK.consH ?_ ?_; (focus ((repeat (first | exact .here | apply Mem.there | apply Take.there)); first | done | fail))) | exact (fun τ hτ => .inl (by simp [hτ])))); first | done | fail) rfl rfl ?_; rintro _ rfl))
    focus (refine' jk_q _ rfl rfl rfl _; rotate_left; (apply q_assign; exact rfl))
    refine jk_nil ?_
    exact jk_ret_any (res1 rfl rfl) (by (repeat (first | exact rs_nil | (refine rs_cons ?_ ?_; (focus ((repeat (first | exact .here | apply Mem.there | apply Take.there)); first | done | fail))) | exact fun ρ hρ => hρ | (intro ρ hρ; repeat (first | exact hρ | refine List.mem_cons_of_mem _ ?_)))); first | done | fail) (by (repeat (first | exact Sel.nil | (apply Sel.cons; (focus ((repeat (first | exact .here | apply Mem.there | apply Take.there)); first | done | fail))))); first | done | fail) ⟨rfl, rfl⟩
  rw [decide_eq_false hg]
  by_cases h12 : 12 < l.length
  · focus (refine' jk_q _ rfl rfl rfl _; rotate_left; (apply q_move; exact rfl))
    focus (refine' jk_q _ rfl rfl rfl _; rotate_left; (apply q_move; exact rfl))
    focus (refine' jk_q _ rfl rfl rfl _; rotate_left; (apply q_len; exact rfl; exact rfl))
    focus (refine' jk_q _ rfl rfl rfl _; rotate_left; (apply q_gt; exact rfl; exact rfl; omega))
    focus (refine' jk_q _ rfl rfl rfl _; rotate_left; (apply q_pick_f; exact rfl; exact rfl))
    focus (refine' jk_q _ rfl rfl rfl _; rotate_left; (apply q_move; exact rfl))
    refine jk_pass rfl rfl rfl ?_
    refine jk_pass rfl rfl rfl ?_
    focus (refine' jk_q _ rfl rfl rfl _; rotate_left; (apply q_pick_t; exact rfl; exact rfl))
    focus (refine' jk_q _ rfl rfl rfl _; rotate_left; (apply q_move; exact rfl))
    refine jk_pass rfl rfl rfl ?_
    refine jk_pass rfl rfl rfl ?_
    focus (refine' jk_q _ rfl rfl rfl _; rotate_left; (apply q_pick_t; exact rfl; exact rfl))
    refine jk_nil ?_
    refine jk_if_t rfl ?_
    refine jk_seq ?_
    refine jk_region ?_
    focus ((refine jk_call awake_spec rfl rfl (by (repeat (first | exact RdOK.nil | (refine RdOK.consR ?_ ?_; (focus ((repeat (first | exact .here | apply Mem.there | apply Take.there)); first | done | fail))) | (refine RdOK.consH ?_ ?_; (focus ((repeat (first | exact .here | apply Mem.there | apply Take.there)); first | done | fail))) | exact (fun τ hτ => .inl (by simp [hτ])))); first | done | fail) rfl rfl ?_; rintro _ rfl))
    focus (refine' jk_q _ rfl rfl rfl _; rotate_left; (apply q_assign; exact rfl))
    refine jk_nil ?_
    exact jk_ret_any (res1 rfl rfl) (by (repeat (first | exact rs_nil | (refine rs_cons ?_ ?_; (focus ((repeat (first | exact .here | apply Mem.there | apply Take.there)); first | done | fail))) | exact fun ρ hρ => hρ | (intro ρ hρ; repeat (first | exact hρ | refine List.mem_cons_of_mem _ ?_)))); first | done | fail) (by (repeat (first | exact Sel.nil | (apply Sel.cons; (focus ((repeat (first | exact .here | apply Mem.there | apply Take.there)); first | done | fail))))); first | done | fail) ⟨rfl, rfl⟩
  by_cases h1 : t < 0
  · focus (refine' jk_q _ rfl rfl rfl _; rotate_left; (apply q_move; exact rfl))
    focus (refine' jk_q _ rfl rfl rfl _; rotate_left; (apply q_move; exact rfl))
    focus (refine' jk_q _ rfl rfl rfl _; rotate_left; (apply q_len; exact rfl; exact rfl))
    focus (refine' jk_q _ rfl rfl rfl _; rotate_left; (apply q_gtF; exact rfl; exact rfl; omega))
    focus (refine' jk_q _ rfl rfl rfl _; rotate_left; (apply q_pick_f; exact rfl; exact rfl))
    focus (refine' jk_q _ rfl rfl rfl _; rotate_left; (apply q_move; exact rfl))
    focus (refine' jk_q _ rfl rfl rfl _; rotate_left; (apply q_move; exact rfl))
    focus (refine' jk_q _ rfl rfl rfl _; rotate_left; (apply q_lt; exact rfl; exact rfl; omega))
    focus (refine' jk_q _ rfl rfl rfl _; rotate_left; (apply q_pick_f; exact rfl; exact rfl))
    focus (refine' jk_q _ rfl rfl rfl _; rotate_left; (apply q_move; exact rfl))
    refine jk_pass rfl rfl rfl ?_
    refine jk_pass rfl rfl rfl ?_
    focus (refine' jk_q _ rfl rfl rfl _; rotate_left; (apply q_pick_t; exact rfl; exact rfl))
    refine jk_nil ?_
    refine jk_if_t rfl ?_
    refine jk_seq ?_
    refine jk_region ?_
    focus ((refine jk_call awake_spec rfl rfl (by (repeat (first | exact RdOK.nil | (refine RdOK.consR ?_ ?_; (focus ((repeat (first | exact .here | apply Mem.there | apply Take.there)); first | done | fail))) | (refine RdOK.consH ?_ ?_; (focus ((repeat (first | exact .here | apply Mem.there | apply Take.there)); first | done | fail))) | exact (fun τ hτ => .inl (by simp [hτ])))); first | done | fail) rfl rfl ?_; rintro _ rfl))
    focus (refine' jk_q _ rfl rfl rfl _; rotate_left; (apply q_assign; exact rfl))
    refine jk_nil ?_
    exact jk_ret_any (res1 rfl rfl) (by (repeat (first | exact rs_nil | (refine rs_cons ?_ ?_; (focus ((repeat (first | exact .here | apply Mem.there | apply Take.there)); first | done | fail))) | exact fun ρ hρ => hρ | (intro ρ hρ; repeat (first | exact hρ | refine List.mem_cons_of_mem _ ?_)))); first | done | fail) (by (repeat (first | exact Sel.nil | (apply Sel.cons; (focus ((repeat (first | exact .here | apply Mem.there | apply Take.there)); first | done | fail))))); first | done | fail) ⟨rfl, rfl⟩
  by_cases h2 : 1099511627776 < t
  · focus (refine' jk_q _ rfl rfl rfl _; rotate_left; (apply q_move; exact rfl))
    focus (refine' jk_q _ rfl rfl rfl _; rotate_left; (apply q_move; exact rfl))
    focus (refine' jk_q _ rfl rfl rfl _; rotate_left; (apply q_len; exact rfl; exact rfl))
    focus (refine' jk_q _ rfl rfl rfl _; rotate_left; (apply q_gtF; exact rfl; exact rfl; omega))
    focus (refine' jk_q _ rfl rfl rfl _; rotate_left; (apply q_pick_f; exact rfl; exact rfl))
    focus (refine' jk_q _ rfl rfl rfl _; rotate_left; (apply q_move; exact rfl))
    focus (refine' jk_q _ rfl rfl rfl _; rotate_left; (apply q_move; exact rfl))
    focus (refine' jk_q _ rfl rfl rfl _; rotate_left; (apply q_ltF; exact rfl; exact rfl; omega))
    focus (refine' jk_q _ rfl rfl rfl _; rotate_left; (apply q_pick_f; exact rfl; exact rfl))
    focus (refine' jk_q _ rfl rfl rfl _; rotate_left; (apply q_move; exact rfl))
    focus (refine' jk_q _ rfl rfl rfl _; rotate_left; (apply q_move; exact rfl))
    focus (refine' jk_q _ rfl rfl rfl _; rotate_left; (apply q_gt; exact rfl; exact rfl; omega))
    focus (refine' jk_q _ rfl rfl rfl _; rotate_left; (apply q_pick_f; exact rfl; exact rfl))
    refine jk_nil ?_
    refine jk_if_t rfl ?_
    refine jk_seq ?_
    refine jk_region ?_
    focus ((refine jk_call awake_spec rfl rfl (by (repeat (first | exact RdOK.nil | (refine RdOK.consR ?_ ?_; (focus ((repeat (first | exact .here | apply Mem.there | apply Take.there)); first | done | fail))) | (refine RdOK.consH ?_ ?_; (focus ((repeat (first | exact .here | apply Mem.there | apply Take.there)); first | done | fail))) | exact (fun τ hτ => .inl (by simp [hτ])))); first | done | fail) rfl rfl ?_; rintro _ rfl))
    focus (refine' jk_q _ rfl rfl rfl _; rotate_left; (apply q_assign; exact rfl))
    refine jk_nil ?_
    exact jk_ret_any (res1 rfl rfl) (by (repeat (first | exact rs_nil | (refine rs_cons ?_ ?_; (focus ((repeat (first | exact .here | apply Mem.there | apply Take.there)); first | done | fail))) | exact fun ρ hρ => hρ | (intro ρ hρ; repeat (first | exact hρ | refine List.mem_cons_of_mem _ ?_)))); first | done | fail) (by (repeat (first | exact Sel.nil | (apply Sel.cons; (focus ((repeat (first | exact .here | apply Mem.there | apply Take.there)); first | done | fail))))); first | done | fail) ⟨rfl, rfl⟩
  focus (refine' jk_q _ rfl rfl rfl _; rotate_left; (apply q_move; exact rfl))
  focus (refine' jk_q _ rfl rfl rfl _; rotate_left; (apply q_move; exact rfl))
  focus (refine' jk_q _ rfl rfl rfl _; rotate_left; (apply q_len; exact rfl; exact rfl))
  focus (refine' jk_q _ rfl rfl rfl _; rotate_left; (apply q_gtF; exact rfl; exact rfl; omega))
  focus (refine' jk_q _ rfl rfl rfl _; rotate_left; (apply q_pick_f; exact rfl; exact rfl))
  focus (refine' jk_q _ rfl rfl rfl _; rotate_left; (apply q_move; exact rfl))
  focus (refine' jk_q _ rfl rfl rfl _; rotate_left; (apply q_move; exact rfl))
  focus (refine' jk_q _ rfl rfl rfl _; rotate_left; (apply q_ltF; exact rfl; exact rfl; omega))
  focus (refine' jk_q _ rfl rfl rfl _; rotate_left; (apply q_pick_f; exact rfl; exact rfl))
  focus (refine' jk_q _ rfl rfl rfl _; rotate_left; (apply q_move; exact rfl))
  focus (refine' jk_q _ rfl rfl rfl _; rotate_left; (apply q_move; exact rfl))
  focus (refine' jk_q _ rfl rfl rfl _; rotate_left; (apply q_gtF; exact rfl; exact rfl; omega))
  focus (refine' jk_q _ rfl rfl rfl _; rotate_left; (apply q_pick_f; exact rfl; exact rfl))
  refine jk_nil ?_
  refine jk_if_f rfl ?_
  refine jk_skip ?_
  refine jk_seq ?_
  refine jk_region ?_
  focus (refine' jk_q _ rfl rfl rfl _; rotate_left; (apply q_move; exact rfl))
  focus (refine' jk_q _ rfl rfl rfl _; rotate_left; (apply q_move; exact rfl))
  refine jk_callM (serve_spec ρ ρ _ _ f l hv2 hw2 hl hl2) rfl rfl (by (repeat (first | exact RdOK.nil | (refine RdOK.consR ?_ ?_; (focus ((repeat (first | exact .here | apply Mem.there | apply Take.there)); first | done | fail))) | (refine RdOK.consH ?_ ?_; (focus ((repeat (first | exact .here | apply Mem.there | apply Take.there)); first | done | fail))) | exact (fun τ hτ => .inl (by simp [hτ])))); first | done | fail) rfl rfl ?_
  rintro _ σ ⟨u, o, e, rfl, hO, hS⟩
  have hA : IntsAt σ u o := hO.at
  obtain ⟨pu, cu, rfl, hru⟩ := hA.val encI_len
  refine jk_freeze (ρ := σ) (by (repeat (first | exact .here | apply Take.there)); first | done | fail) ?_
  by_cases he : e = 0
  rotate_left
  · focus (refine' jk_q _ rfl rfl rfl _; rotate_left; (apply q_move; exact rfl))
    focus (refine' jk_q _ rfl rfl rfl _; rotate_left; (apply q_extract; exact rfl; exact rfl))
    focus (refine' jk_q _ rfl rfl rfl _; rotate_left; (apply q_extract; exact rfl; exact rfl))
    focus (refine' jk_q _ rfl rfl rfl _; rotate_left; (apply q_assign; exact rfl))
    focus (refine' jk_q _ rfl rfl rfl _; rotate_left; (apply q_assign; exact rfl))
    refine jk_nil ?_
    refine jk_seq ?_
    refine jk_seq ?_
    refine jk_region ?_
    focus (refine' jk_q _ rfl rfl rfl _; rotate_left; (apply q_move; exact rfl))
    focus (refine' jk_q _ rfl rfl rfl _; rotate_left; (apply q_ne; exact rfl; exact rfl; omega))
    refine jk_nil ?_
    refine jk_if_t rfl ?_
    refine jk_seq ?_
    refine jk_region ?_
    focus ((refine jk_call awake_spec rfl rfl (by (repeat (first | exact RdOK.nil | (refine RdOK.consR ?_ ?_; (focus ((repeat (first | exact .here | apply Mem.there | apply Take.there)); first | done | fail))) | (refine RdOK.consH ?_ ?_; (focus ((repeat (first | exact .here | apply Mem.there | apply Take.there)); first | done | fail))) | exact (fun τ hτ => .inl (by simp [hτ])))); first | done | fail) rfl rfl ?_; rintro _ rfl))
    focus (refine' jk_q _ rfl rfl rfl _; rotate_left; (apply q_assign; exact rfl))
    refine jk_nil ?_
    exact jk_ret_any (res1 rfl rfl) (by (repeat (first | exact rs_nil | (refine rs_cons ?_ ?_; (focus ((repeat (first | exact .here | apply Mem.there | apply Take.there)); first | done | fail))) | exact fun ρ hρ => hρ | (intro ρ hρ; repeat (first | exact hρ | refine List.mem_cons_of_mem _ ?_)))); first | done | fail) (by (repeat (first | exact Sel.nil | (apply Sel.cons; (focus ((repeat (first | exact .here | apply Mem.there | apply Take.there)); first | done | fail))))); first | done | fail) ⟨rfl, rfl⟩
  subst he
  obtain ⟨hchk, hSrv⟩ : chkA f l = 0 ∧ Srv f 0 l (some o) := by
    rcases hS with ⟨h, h1, _⟩ | ⟨_, _, h, _⟩ | ⟨h, _, h2⟩
    · exact absurd h1.symm h
    · simp at h
    · exact ⟨h, h2⟩
  obtain ⟨hc, hl3, hJ⟩ := chkA_ok hchk
  have hrt := (chkC_ok hc).2
  have hlen := hSrv.len
  have hsz := jobs_sizes hJ
  have hJs : ∀ j ∈ l, 0 ≤ j.s := fun j hj => (hsz j hj).1
  obtain ⟨i1, i2, i3⟩ := Srv.order hrt hSrv hJ hJs
  focus (refine' jk_q _ rfl rfl rfl _; rotate_left; (apply q_move; exact rfl))
  focus (refine' jk_q _ rfl rfl rfl _; rotate_left; (apply q_extract; exact rfl; exact rfl))
  focus (refine' jk_q _ rfl rfl rfl _; rotate_left; (apply q_extract; exact rfl; exact rfl))
  focus (refine' jk_q _ rfl rfl rfl _; rotate_left; (apply q_assign; exact rfl))
  focus (refine' jk_q _ rfl rfl rfl _; rotate_left; (apply q_assign; exact rfl))
  refine jk_nil ?_
  refine jk_seq ?_
  refine jk_seq ?_
  refine jk_region ?_
  focus (refine' jk_q _ rfl rfl rfl _; rotate_left; (apply q_move; exact rfl))
  focus (refine' jk_q _ rfl rfl rfl _; rotate_left; (apply q_neF; exact rfl; exact rfl; omega))
  refine jk_nil ?_
  refine jk_if_f rfl ?_
  refine jk_skip ?_
  refine jk_seq ?_
  refine jk_seq ?_
  refine jk_region ?_
  focus (refine' jk_q _ rfl rfl rfl _; rotate_left; (apply q_move; exact rfl))
  focus (refine' jk_q _ rfl rfl rfl _; rotate_left; (apply q_len; exact rfl; exact rfl))
  focus (refine' jk_q _ rfl rfl rfl _; rotate_left; (apply q_move; exact rfl))
  focus (refine' jk_q _ rfl rfl rfl _; rotate_left; (apply q_len; exact rfl; exact rfl))
  focus (refine' jk_q _ rfl rfl rfl _; rotate_left; (apply q_neF; exact rfl; exact rfl; omega))
  refine jk_nil ?_
  refine jk_if_f rfl ?_
  refine jk_skip ?_
  refine jk_seq ?_
  refine jk_region ?_
  focus (refine' jk_q _ rfl rfl rfl _; rotate_left; (apply q_assign; exact rfl))
  refine jk_nil ?_
  refine jk_seq ?_
  refine jk_seq ?_
  refine jk_region ?_
  focus (refine' jk_q _ rfl rfl rfl _; rotate_left; (apply q_move; exact rfl))
  focus (refine' jk_q _ rfl rfl rfl _; rotate_left; (apply q_len; exact rfl; exact rfl))
  focus (refine' jk_q _ rfl rfl rfl _; rotate_left; (apply q_move; exact rfl))
  refine jk_nil ?_
  refine jk_block ?_
  refine jk_loop [0, 1, 2, 7, 50, 51] (0 : Nat) (fun k => k ≤ l.length) (fun k => [(52, int k), (9, int (sumS (l.take k)))]) (fun _ => []) (fun k => l.length - k) (by (repeat (first | exact Pick.nil | apply Pick.cons rfl)); first | done | fail) (by omega) ?_ (by (repeat (first | exact Sel.nil | (apply Sel.cons; (focus ((repeat (first | exact .here | apply Mem.there | apply Take.there)); first | done | fail))))); first | done | fail) ?_
  · exact ⟨rfl, rfl, trivial⟩
  rintro k hk
  by_cases hlt : k < l.length
  · have hxo := List.getElem?_eq_getElem (show k < o.length by omega)
    have hx := List.getElem?_eq_getElem hlt
    obtain ⟨j, j1, j2, j3, j4⟩ := i1 k _ hxo
    rw [hx] at j1
    injection j1 with j1
    obtain ⟨b1, o1, rfl, g1⟩ := hru.int hxo
    obtain ⟨b2, o2, rfl, hRd, g2, g3⟩ := jbRow hr hx
    have hst := sumS_take hlt
    have hb0 := sumS_bd (l := l.take k) (fun j hj => hsz j (List.mem_of_mem_take hj))
    have hb1 := hsz l[k] (List.getElem_mem hlt)
    have hbl : blR f l o[k] = (max 0 (lastM f o[k] 0 l - cum f o[k].toNat), 0) := by unfold blR; rw [if_neg (by rw [hchk]; simp), if_neg (by omega)]
    have hlk : (l.take k).length ≤ l.length := by simp; omega
    refine jk_seq ?_
    refine jk_region ?_
    focus (refine' jk_q _ rfl rfl rfl _; rotate_left; (apply q_lt; exact rfl; exact rfl; omega))
    refine jk_nil ?_
    refine jk_seq ?_
    refine jk_if_t rfl ?_
    refine jk_skip ?_
    refine jk_seq ?_
    refine jk_block ?_
    refine jk_seq ?_
    refine jk_region ?_
    focus (refine' jk_q _ rfl rfl rfl _; rotate_left; (apply q_move; exact rfl))
    focus (refine' jk_q _ rfl rfl rfl _; rotate_left; (apply q_idxN; exact rfl; exact rfl; exact rfl; exact rfl; omega))
    focus (refine' jk_q _ rfl rfl rfl _; rotate_left; (apply q_loadS; exact rfl; exact rfl; (first | exact cells_own (by (repeat (first | exact .here | apply Mem.there)); first | done | fail) | exact cellsR (by assumption) (by (repeat (first | exact .here | apply Mem.there)); first | done | fail) | exact cellsH (by assumption) (by (repeat (first | exact .here | apply Mem.there)); first | done | fail)); exact rfl))
    focus (refine' jk_op _ rfl rfl rfl _; rotate_left; (apply l_allocS; exact rfl); rintro _ _ ⟨b, rfl, rfl⟩)
    focus (refine' jk_q _ rfl rfl rfl _; rotate_left; (apply q_assign; exact rfl))
    focus (refine' jk_op_none _ rfl rfl _; rotate_left; (apply l_storeS; exact rfl; exact rfl; exact (by (repeat (first | exact .here | apply Take.there)); first | done | fail); exact (by (repeat (first | exact (fun v hv => absurd hv List.not_mem_nil) | (refine List.forall_mem_cons.2 ⟨?_, ?_⟩; (focus (first | exact rfl | assumption))))); first | done | fail); exact rfl; exact rfl); rintro _ _ ⟨rfl, rfl⟩)
    refine jk_nil ?_
    refine jk_seq ?_
    refine jk_region ?_
    focus (refine' jk_q _ rfl rfl rfl _; rotate_left; (apply q_move; exact rfl))
    focus (refine' jk_q _ rfl rfl rfl _; rotate_left; (apply q_fld0; exact rfl; exact rfl))
    focus (refine' jk_q _ rfl rfl rfl _; rotate_left; (apply q_load; exact rfl; exact rfl; (first | exact cell_own (by (repeat (first | exact .here | apply Mem.there)); first | done | fail) rfl | exact cellR (by assumption) (by (repeat (first | exact .here | apply Mem.there)); first | done | fail) | exact cellH (by assumption) (by (repeat (first | exact .here | apply Mem.there)); first | done | fail) | exact cell_ints (by (repeat (first | exact .here | apply Mem.there)); first | done | fail) (by omega) | exact cell_bools (by assumption) (by (repeat (first | exact .here | apply Mem.there)); first | done | fail) | exact cell_intsR (by (repeat (first | exact .here | apply Mem.there)); first | done | fail) (by omega) | exact cell_boolsR (by assumption) (by (repeat (first | exact .here | apply Mem.there)); first | done | fail))))
    focus (refine' jk_q _ rfl rfl rfl _; rotate_left; (apply q_add; exact rfl; exact rfl; exact ⟨by omega, by omega⟩))
    focus (refine' jk_q _ rfl rfl rfl _; rotate_left; (apply q_assign; exact rfl))
    refine jk_nil ?_
    refine jk_seq ?_
    refine jk_region ?_
    focus (refine' jk_q _ rfl rfl rfl _; rotate_left; (apply q_move; exact rfl))
    focus (refine' jk_q _ rfl rfl rfl _; rotate_left; (apply q_move; exact rfl))
    focus (refine' jk_q _ rfl rfl rfl _; rotate_left; (apply q_move; exact rfl))
    focus (refine' jk_q _ rfl rfl rfl _; rotate_left; (apply q_move; exact rfl))
    focus (refine' jk_q _ rfl rfl rfl _; rotate_left; (apply q_idx1; exact rfl; exact rfl; exact rfl; exact rfl; omega))
    focus (refine' jk_q _ rfl rfl rfl _; rotate_left; (apply q_load; exact rfl; exact rfl; (first | exact cell_own (by (repeat (first | exact .here | apply Mem.there)); first | done | fail) rfl | exact cellR (by assumption) (by (repeat (first | exact .here | apply Mem.there)); first | done | fail) | exact cellH (by assumption) (by (repeat (first | exact .here | apply Mem.there)); first | done | fail) | exact cell_ints (by (repeat (first | exact .here | apply Mem.there)); first | done | fail) (by omega) | exact cell_bools (by assumption) (by (repeat (first | exact .here | apply Mem.there)); first | done | fail) | exact cell_intsR (by (repeat (first | exact .here | apply Mem.there)); first | done | fail) (by omega) | exact cell_boolsR (by assumption) (by (repeat (first | exact .here | apply Mem.there)); first | done | fail))))
    refine jk_call (backlog_spec ρ ρ _ _ f l o[k] hv2 hw2 hl hl2) rfl rfl (by (repeat (first | exact RdOK.nil | (refine RdOK.consR ?_ ?_; (focus ((repeat (first | exact .here | apply Mem.there | apply Take.there)); first | done | fail))) | (refine RdOK.consH ?_ ?_; (focus ((repeat (first | exact .here | apply Mem.there | apply Take.there)); first | done | fail))) | exact (fun τ hτ => .inl (by simp [hτ])))); first | done | fail) rfl rfl ?_
    rw [hbl]
    rintro _ rfl
    by_cases hlast : k + 1 = l.length
    · have hcl := closed_at hrt hSrv hJ hJs k o[k].toNat (by rw [Int.toNat_of_nonneg (by omega)]; exact hxo) (fun j hj => by rw [List.getElem?_eq_none (by omega)] at hj; simp at hj)
      rw [Int.toNat_of_nonneg (by omega)] at hcl
      have hz : max 0 (lastM f o[k] 0 l - cum f o[k].toNat) = 0 := by omega
      rw [hz]
      focus (refine' jk_q _ rfl rfl rfl _; rotate_left; (apply q_move; exact rfl))
      focus (refine' jk_q _ rfl rfl rfl _; rotate_left; (apply q_extract; exact rfl; exact rfl))
      focus (refine' jk_q _ rfl rfl rfl _; rotate_left; (apply q_extract; exact rfl; exact rfl))
      focus (refine' jk_q _ rfl rfl rfl _; rotate_left; (apply q_assign; exact rfl))
      focus (refine' jk_q _ rfl rfl rfl _; rotate_left; (apply q_assign; exact rfl))
      refine jk_nil ?_
      refine jk_seq ?_
      refine jk_draw (.q 0 (.q 1 (.q 2 (.q 3 (.q 4 (.q 5 (.q 6 (.q 7 (.q 8 (.q 9 (.q 10 (.q 11 (.q 12 (.q 13 (.q 14 (.q 15 (.q 16 (.q 17 (.q 18 (.q 19 (.q 20 (.q 21 (.q 22 (.q 23 (.q 24 (.q 25 .nil)))))))))))))))))))))))))) [] rfl (by kernel_rfl) (by (repeat (first | exact Sel.nil | (apply Sel.cons; (focus ((repeat (first | exact .here | apply Mem.there | apply Take.there)); first | done | fail))))); first | done | fail) ?_
      focus (refine' dj_q rfl _ rfl rfl rfl rfl _; rotate_left; (apply q_move; exact rfl))
      focus (refine' dj_q rfl _ rfl rfl rfl rfl _; rotate_left; (apply q_neF; exact rfl; exact rfl; omega))
      focus (refine' dj_q rfl _ rfl rfl rfl rfl _; rotate_left; (apply q_move; exact rfl))
      focus (refine' dj_q rfl _ rfl rfl rfl rfl _; rotate_left; (apply q_move; exact rfl))
      focus (refine' dj_q rfl _ rfl rfl rfl rfl _; rotate_left; (apply q_inc; exact rfl; exact rfl; omega))
      focus (refine' dj_q rfl _ rfl rfl rfl rfl _; rotate_left; (apply q_move; exact rfl))
      focus (refine' dj_q rfl _ rfl rfl rfl rfl _; rotate_left; (apply q_len; exact rfl; exact rfl))
      focus (refine' dj_q rfl _ rfl rfl rfl rfl _; rotate_left; (apply q_eq; exact rfl; exact rfl; omega))
      focus (refine' dj_q rfl _ rfl rfl rfl rfl _; rotate_left; (apply q_move; exact rfl))
      refine dj_pass rfl rfl rfl rfl rfl ?_
      refine dj_pass rfl rfl rfl rfl rfl ?_
      refine dj_pass rfl rfl rfl rfl rfl ?_
      refine dj_pass rfl rfl rfl rfl rfl ?_
      refine dj_pass rfl rfl rfl rfl rfl ?_
      refine dj_pass rfl rfl rfl rfl rfl ?_
      refine dj_pass rfl rfl rfl rfl rfl ?_
      refine dj_pass rfl rfl rfl rfl rfl ?_
      refine dj_pass rfl rfl rfl rfl rfl ?_
      refine dj_pass rfl rfl rfl rfl rfl ?_
      refine dj_pass rfl rfl rfl rfl rfl ?_
      focus (refine' dj_q rfl _ rfl rfl rfl rfl _; rotate_left; (apply q_pick_t; exact rfl; exact rfl))
      focus (refine' dj_q rfl _ rfl rfl rfl rfl _; rotate_left; (apply q_move; exact rfl))
      focus (refine' dj_q rfl _ rfl rfl rfl rfl _; rotate_left; (apply q_move; exact rfl))
      focus (refine' dj_q rfl _ rfl rfl rfl rfl _; rotate_left; (apply q_neF; exact rfl; exact rfl; omega))
      focus (refine' dj_q rfl _ rfl rfl rfl rfl _; rotate_left; (apply q_pick_t; exact rfl; exact rfl))
      focus (refine' dj_q rfl _ rfl rfl rfl rfl _; rotate_left; (apply q_pick_f; exact rfl; exact rfl))
      refine dj_end ?_
      refine jk_if_f rfl ?_
      refine jk_skip ?_
      refine jk_blk ?_
      refine jk_region ?_
      focus (refine' jk_q _ rfl rfl rfl _; rotate_left; (apply q_inc; exact rfl; exact rfl; omega))
      focus (refine' jk_q _ rfl rfl rfl _; rotate_left; (apply q_move; exact rfl))
      refine jk_nil ?_
      exact jk_round (k + 1) (by omega) (by omega) (by dsimp only; rw [hst]; exact (by (repeat (first | exact trivial | refine And.intro rfl ?_)); first | done | fail)) (by (repeat (first | exact Sel.nil | (apply Sel.cons; (focus ((repeat (first | exact .here | apply Mem.there | apply Take.there)); first | done | fail))))); first | done | fail)
    · have hlt2 : k + 1 < l.length := by omega
      have hx2 := List.getElem?_eq_getElem hlt2
      obtain ⟨g4, g5⟩ := jbRow' hr hx2
      by_cases hn : o[k] < l[k + 1].a
      · have hcl := closed_at hrt hSrv hJ hJs k o[k].toNat (by rw [Int.toNat_of_nonneg (by omega)]; exact hxo) (fun j hj => by rw [hx2] at hj; injection hj with hj; rw [← hj]; omega)
        rw [Int.toNat_of_nonneg (by omega)] at hcl
        have hz : max 0 (lastM f o[k] 0 l - cum f o[k].toNat) = 0 := by omega
        rw [hz]
        focus (refine' jk_q _ rfl rfl rfl _; rotate_left; (apply q_move; exact rfl))
        focus (refine' jk_q _ rfl rfl rfl _; rotate_left; (apply q_extract; exact rfl; exact rfl))
        focus (refine' jk_q _ rfl rfl rfl _; rotate_left; (apply q_extract; exact rfl; exact rfl))
        focus (refine' jk_q _ rfl rfl rfl _; rotate_left; (apply q_assign; exact rfl))
        focus (refine' jk_q _ rfl rfl rfl _; rotate_left; (apply q_assign; exact rfl))
        refine jk_nil ?_
        refine jk_seq ?_
        refine jk_draw (.q 0 (.q 1 (.q 2 (.q 3 (.q 4 (.q 5 (.q 6 (.q 7 (.q 8 (.q 9 (.q 10 (.q 11 (.q 12 (.q 13 (.q 14 (.q 15 (.q 16 (.q 17 (.q 18 (.q 19 (.q 20 (.q 21 (.q 22 (.q 23 (.q 24 (.q 25 .nil)))))))))))))))))))))))))) [] rfl (by kernel_rfl) (by (repeat (first | exact Sel.nil | (apply Sel.cons; (focus ((repeat (first | exact .here | apply Mem.there | apply Take.there)); first | done | fail))))); first | done | fail) ?_
        focus (refine' dj_q rfl _ rfl rfl rfl rfl _; rotate_left; (apply q_move; exact rfl))
        focus (refine' dj_q rfl _ rfl rfl rfl rfl _; rotate_left; (apply q_neF; exact rfl; exact rfl; omega))
        focus (refine' dj_q rfl _ rfl rfl rfl rfl _; rotate_left; (apply q_move; exact rfl))
        focus (refine' dj_q rfl _ rfl rfl rfl rfl _; rotate_left; (apply q_move; exact rfl))
        focus (refine' dj_q rfl _ rfl rfl rfl rfl _; rotate_left; (apply q_inc; exact rfl; exact rfl; omega))
        focus (refine' dj_q rfl _ rfl rfl rfl rfl _; rotate_left; (apply q_move; exact rfl))
        focus (refine' dj_q rfl _ rfl rfl rfl rfl _; rotate_left; (apply q_len; exact rfl; exact rfl))
        focus (refine' dj_q rfl _ rfl rfl rfl rfl _; rotate_left; (apply q_eqF; exact rfl; exact rfl; omega))
        focus (refine' dj_q rfl _ rfl rfl rfl rfl _; rotate_left; (apply q_move; exact rfl))
        focus (refine' dj_q rfl _ rfl rfl rfl rfl _; rotate_left; (apply q_move; exact rfl))
        focus (refine' dj_q rfl _ rfl rfl rfl rfl _; rotate_left; (apply q_move; exact rfl))
        focus (refine' dj_q rfl _ rfl rfl rfl rfl _; rotate_left; (apply q_inc; exact rfl; exact rfl; omega))
        focus (refine' dj_q rfl _ rfl rfl rfl rfl _; rotate_left; (apply q_idxN; exact rfl; exact rfl; exact rfl; exact rfl; omega))
        focus (refine' dj_q rfl _ rfl rfl rfl rfl _; rotate_left; (apply q_fldZ; exact rfl; exact rfl))
        focus (refine' dj_q rfl _ rfl rfl rfl rfl _; rotate_left; (apply q_load; exact rfl; exact rfl; (first | exact cell_own (by (repeat (first | exact .here | apply Mem.there)); first | done | fail) rfl | exact cellR (by assumption) (by (repeat (first | exact .here | apply Mem.there)); first | done | fail) | exact cellH (by assumption) (by (repeat (first | exact .here | apply Mem.there)); first | done | fail) | exact cell_ints (by (repeat (first | exact .here | apply Mem.there)); first | done | fail) (by omega) | exact cell_bools (by assumption) (by (repeat (first | exact .here | apply Mem.there)); first | done | fail) | exact cell_intsR (by (repeat (first | exact .here | apply Mem.there)); first | done | fail) (by omega) | exact cell_boolsR (by assumption) (by (repeat (first | exact .here | apply Mem.there)); first | done | fail))))
        focus (refine' dj_q rfl _ rfl rfl rfl rfl _; rotate_left; (apply q_move; exact rfl))
        focus (refine' dj_q rfl _ rfl rfl rfl rfl _; rotate_left; (apply q_move; exact rfl))
        focus (refine' dj_q rfl _ rfl rfl rfl rfl _; rotate_left; (apply q_idx1; exact rfl; exact rfl; exact rfl; exact rfl; omega))
        focus (refine' dj_q rfl _ rfl rfl rfl rfl _; rotate_left; (apply q_load; exact rfl; exact rfl; (first | exact cell_own (by (repeat (first | exact .here | apply Mem.there)); first | done | fail) rfl | exact cellR (by assumption) (by (repeat (first | exact .here | apply Mem.there)); first | done | fail) | exact cellH (by assumption) (by (repeat (first | exact .here | apply Mem.there)); first | done | fail) | exact cell_ints (by (repeat (first | exact .here | apply Mem.there)); first | done | fail) (by omega) | exact cell_bools (by assumption) (by (repeat (first | exact .here | apply Mem.there)); first | done | fail) | exact cell_intsR (by (repeat (first | exact .here | apply Mem.there)); first | done | fail) (by omega) | exact cell_boolsR (by assumption) (by (repeat (first | exact .here | apply Mem.there)); first | done | fail))))
        focus (refine' dj_q rfl _ rfl rfl rfl rfl _; rotate_left; (apply q_gt; exact rfl; exact rfl; omega))
        focus (refine' dj_q rfl _ rfl rfl rfl rfl _; rotate_left; (apply q_pick_f; exact rfl; exact rfl))
        focus (refine' dj_q rfl _ rfl rfl rfl rfl _; rotate_left; (apply q_move; exact rfl))
        focus (refine' dj_q rfl _ rfl rfl rfl rfl _; rotate_left; (apply q_move; exact rfl))
        focus (refine' dj_q rfl _ rfl rfl rfl rfl _; rotate_left; (apply q_neF; exact rfl; exact rfl; omega))
        focus (refine' dj_q rfl _ rfl rfl rfl rfl _; rotate_left; (apply q_pick_t; exact rfl; exact rfl))
        focus (refine' dj_q rfl _ rfl rfl rfl rfl _; rotate_left; (apply q_pick_f; exact rfl; exact rfl))
        refine dj_end ?_
        refine jk_if_f rfl ?_
        refine jk_skip ?_
        refine jk_blk ?_
        refine jk_region ?_
        focus (refine' jk_q _ rfl rfl rfl _; rotate_left; (apply q_inc; exact rfl; exact rfl; omega))
        focus (refine' jk_q _ rfl rfl rfl _; rotate_left; (apply q_move; exact rfl))
        refine jk_nil ?_
        exact jk_round (k + 1) (by omega) (by omega) (by dsimp only; rw [hst]; exact (by (repeat (first | exact trivial | refine And.intro rfl ?_)); first | done | fail)) (by (repeat (first | exact Sel.nil | (apply Sel.cons; (focus ((repeat (first | exact .here | apply Mem.there | apply Take.there)); first | done | fail))))); first | done | fail)
      · focus (refine' jk_q _ rfl rfl rfl _; rotate_left; (apply q_move; exact rfl))
        focus (refine' jk_q _ rfl rfl rfl _; rotate_left; (apply q_extract; exact rfl; exact rfl))
        focus (refine' jk_q _ rfl rfl rfl _; rotate_left; (apply q_extract; exact rfl; exact rfl))
        focus (refine' jk_q _ rfl rfl rfl _; rotate_left; (apply q_assign; exact rfl))
        focus (refine' jk_q _ rfl rfl rfl _; rotate_left; (apply q_assign; exact rfl))
        refine jk_nil ?_
        refine jk_seq ?_
        refine jk_draw (.q 0 (.q 1 (.q 2 (.q 3 (.q 4 (.q 5 (.q 6 (.q 7 (.q 8 (.q 9 (.q 10 (.q 11 (.q 12 (.q 13 (.q 14 (.q 15 (.q 16 (.q 17 (.q 18 (.q 19 (.q 20 (.q 21 (.q 22 (.q 23 (.q 24 (.q 25 .nil)))))))))))))))))))))))))) [] rfl (by kernel_rfl) (by (repeat (first | exact Sel.nil | (apply Sel.cons; (focus ((repeat (first | exact .here | apply Mem.there | apply Take.there)); first | done | fail))))); first | done | fail) ?_
        focus (refine' dj_q rfl _ rfl rfl rfl rfl _; rotate_left; (apply q_move; exact rfl))
        focus (refine' dj_q rfl _ rfl rfl rfl rfl _; rotate_left; (apply q_neF; exact rfl; exact rfl; omega))
        focus (refine' dj_q rfl _ rfl rfl rfl rfl _; rotate_left; (apply q_move; exact rfl))
        focus (refine' dj_q rfl _ rfl rfl rfl rfl _; rotate_left; (apply q_move; exact rfl))
        focus (refine' dj_q rfl _ rfl rfl rfl rfl _; rotate_left; (apply q_inc; exact rfl; exact rfl; omega))
        focus (refine' dj_q rfl _ rfl rfl rfl rfl _; rotate_left; (apply q_move; exact rfl))
        focus (refine' dj_q rfl _ rfl rfl rfl rfl _; rotate_left; (apply q_len; exact rfl; exact rfl))
        focus (refine' dj_q rfl _ rfl rfl rfl rfl _; rotate_left; (apply q_eqF; exact rfl; exact rfl; omega))
        focus (refine' dj_q rfl _ rfl rfl rfl rfl _; rotate_left; (apply q_move; exact rfl))
        focus (refine' dj_q rfl _ rfl rfl rfl rfl _; rotate_left; (apply q_move; exact rfl))
        focus (refine' dj_q rfl _ rfl rfl rfl rfl _; rotate_left; (apply q_move; exact rfl))
        focus (refine' dj_q rfl _ rfl rfl rfl rfl _; rotate_left; (apply q_inc; exact rfl; exact rfl; omega))
        focus (refine' dj_q rfl _ rfl rfl rfl rfl _; rotate_left; (apply q_idxN; exact rfl; exact rfl; exact rfl; exact rfl; omega))
        focus (refine' dj_q rfl _ rfl rfl rfl rfl _; rotate_left; (apply q_fldZ; exact rfl; exact rfl))
        focus (refine' dj_q rfl _ rfl rfl rfl rfl _; rotate_left; (apply q_load; exact rfl; exact rfl; (first | exact cell_own (by (repeat (first | exact .here | apply Mem.there)); first | done | fail) rfl | exact cellR (by assumption) (by (repeat (first | exact .here | apply Mem.there)); first | done | fail) | exact cellH (by assumption) (by (repeat (first | exact .here | apply Mem.there)); first | done | fail) | exact cell_ints (by (repeat (first | exact .here | apply Mem.there)); first | done | fail) (by omega) | exact cell_bools (by assumption) (by (repeat (first | exact .here | apply Mem.there)); first | done | fail) | exact cell_intsR (by (repeat (first | exact .here | apply Mem.there)); first | done | fail) (by omega) | exact cell_boolsR (by assumption) (by (repeat (first | exact .here | apply Mem.there)); first | done | fail))))
        focus (refine' dj_q rfl _ rfl rfl rfl rfl _; rotate_left; (apply q_move; exact rfl))
        focus (refine' dj_q rfl _ rfl rfl rfl rfl _; rotate_left; (apply q_move; exact rfl))
        focus (refine' dj_q rfl _ rfl rfl rfl rfl _; rotate_left; (apply q_idx1; exact rfl; exact rfl; exact rfl; exact rfl; omega))
        focus (refine' dj_q rfl _ rfl rfl rfl rfl _; rotate_left; (apply q_load; exact rfl; exact rfl; (first | exact cell_own (by (repeat (first | exact .here | apply Mem.there)); first | done | fail) rfl | exact cellR (by assumption) (by (repeat (first | exact .here | apply Mem.there)); first | done | fail) | exact cellH (by assumption) (by (repeat (first | exact .here | apply Mem.there)); first | done | fail) | exact cell_ints (by (repeat (first | exact .here | apply Mem.there)); first | done | fail) (by omega) | exact cell_bools (by assumption) (by (repeat (first | exact .here | apply Mem.there)); first | done | fail) | exact cell_intsR (by (repeat (first | exact .here | apply Mem.there)); first | done | fail) (by omega) | exact cell_boolsR (by assumption) (by (repeat (first | exact .here | apply Mem.there)); first | done | fail))))
        focus (refine' dj_q rfl _ rfl rfl rfl rfl _; rotate_left; (apply q_gtF; exact rfl; exact rfl; omega))
        focus (refine' dj_q rfl _ rfl rfl rfl rfl _; rotate_left; (apply q_pick_f; exact rfl; exact rfl))
        focus (refine' dj_q rfl _ rfl rfl rfl rfl _; rotate_left; (apply q_move; exact rfl))
        refine dj_pass rfl rfl rfl rfl rfl ?_
        refine dj_pass rfl rfl rfl rfl rfl ?_
        focus (refine' dj_q rfl _ rfl rfl rfl rfl _; rotate_left; (apply q_pick_f; exact rfl; exact rfl))
        focus (refine' dj_q rfl _ rfl rfl rfl rfl _; rotate_left; (apply q_pick_f; exact rfl; exact rfl))
        refine dj_end ?_
        refine jk_if_f rfl ?_
        refine jk_skip ?_
        refine jk_blk ?_
        refine jk_region ?_
        focus (refine' jk_q _ rfl rfl rfl _; rotate_left; (apply q_inc; exact rfl; exact rfl; omega))
        focus (refine' jk_q _ rfl rfl rfl _; rotate_left; (apply q_move; exact rfl))
        refine jk_nil ?_
        exact jk_round (k + 1) (by omega) (by omega) (by dsimp only; rw [hst]; exact (by (repeat (first | exact trivial | refine And.intro rfl ?_)); first | done | fail)) (by (repeat (first | exact Sel.nil | (apply Sel.cons; (focus ((repeat (first | exact .here | apply Mem.there | apply Take.there)); first | done | fail))))); first | done | fail)
  · have hkl : k = l.length := by omega
    subst hkl
    rw [List.take_length]
    have hbl : blR f l t = (max 0 (lastM f t 0 l - cum f t.toNat), 0) := by unfold blR; rw [if_neg (by rw [hchk]; simp), if_neg (by omega)]
    have hle := lastM_le hrt (t := t.toNat) (m := 0) hJ
    have hop := open_iff hrt (t := t.toNat) (by omega) hSrv hJ
    have hcb := cum_bd hrt t.toNat
    have hsn := sumS_nn hJ
    have hao := anyOpen_iff (t := t) hlen
    rw [Int.toNat_of_nonneg (by omega)] at hle hop
    have hle1 := hle.1
    have hn1 : max 0 (lastM f t 0 l - cum f t.toNat) ≤ sumS l := by clear hop hao hbl hle; omega
    have hn0 : 0 ≤ max 0 (lastM f t 0 l - cum f t.toNat) := by omega
    have hn2 : 0 < max 0 (lastM f t 0 l - cum f t.toNat) ↔ cum f t.toNat < lastM f t 0 l := by omega
    generalize max 0 (lastM f t 0 l - cum f t.toNat) = nn at *
    have hbs := backlog_spec ρ ρ _ _ f l t hv2 hw2 hl hl2
    rw [hbl] at hbs
    dsimp only at hbs
    refine jk_seq ?_
    refine jk_region ?_
    focus (refine' jk_q _ rfl rfl rfl _; rotate_left; (apply q_ltF; exact rfl; exact rfl; omega))
    refine jk_nil ?_
    refine jk_seq ?_
    refine jk_if_f rfl ?_
    refine jk_exit rfl ?_
    refine jk_seq ?_
    refine jk_region ?_
    focus (refine' jk_q _ rfl rfl rfl _; rotate_left; (apply q_move; exact rfl))
    focus (refine' jk_q _ rfl rfl rfl _; rotate_left; (apply q_move; exact rfl))
    focus (refine' jk_q _ rfl rfl rfl _; rotate_left; (apply q_move; exact rfl))
    refine jk_call hbs rfl rfl (by (repeat (first | exact RdOK.nil | (refine RdOK.consR ?_ ?_; (focus ((repeat (first | exact .here | apply Mem.there | apply Take.there)); first | done | fail))) | (refine RdOK.consH ?_ ?_; (focus ((repeat (first | exact .here | apply Mem.there | apply Take.there)); first | done | fail))) | exact (fun τ hτ => .inl (by simp [hτ])))); first | done | fail) rfl rfl ?_
    rintro _ rfl
    focus (refine' jk_q _ rfl rfl rfl _; rotate_left; (apply q_move; exact rfl))
    focus (refine' jk_q _ rfl rfl rfl _; rotate_left; (apply q_extract; exact rfl; exact rfl))
    focus (refine' jk_q _ rfl rfl rfl _; rotate_left; (apply q_extract; exact rfl; exact rfl))
    focus (refine' jk_q _ rfl rfl rfl _; rotate_left; (apply q_assign; exact rfl))
    focus (refine' jk_q _ rfl rfl rfl _; rotate_left; (apply q_assign; exact rfl))
    refine jk_nil ?_
    refine jk_seq ?_
    refine jk_seq ?_
    refine jk_region ?_
    focus (refine' jk_q _ rfl rfl rfl _; rotate_left; (apply q_move; exact rfl))
    focus (refine' jk_q _ rfl rfl rfl _; rotate_left; (apply q_neF; exact rfl; exact rfl; omega))
    focus (refine' jk_q _ rfl rfl rfl _; rotate_left; (apply q_move; exact rfl))
    focus (refine' jk_q _ rfl rfl rfl _; rotate_left; (apply q_move; exact rfl))
    focus (refine' jk_q _ rfl rfl rfl _; rotate_left; (apply q_ltF; exact rfl; exact rfl; omega))
    focus (refine' jk_q _ rfl rfl rfl _; rotate_left; (apply q_pick_f; exact rfl; exact rfl))
    focus (refine' jk_q _ rfl rfl rfl _; rotate_left; (apply q_move; exact rfl))
    focus (refine' jk_q _ rfl rfl rfl _; rotate_left; (apply q_move; exact rfl))
    focus (refine' jk_q _ rfl rfl rfl _; rotate_left; (apply q_move; exact rfl))
    focus (refine' jk_q _ rfl rfl rfl _; rotate_left; (apply q_gtF; exact rfl; exact rfl; omega))
    focus (refine' jk_q _ rfl rfl rfl _; rotate_left; (apply q_pick_f; exact rfl; exact rfl))
    refine jk_nil ?_
    refine jk_if_f rfl ?_
    refine jk_skip ?_
    refine jk_seq ?_
    refine jk_region ?_
    focus (refine' jk_q _ rfl rfl rfl _; rotate_left; (apply q_assign; exact rfl))
    refine jk_nil ?_
    refine jk_seq ?_
    refine jk_seq ?_
    refine jk_region ?_
    focus (refine' jk_q _ rfl rfl rfl _; rotate_left; (apply q_move; exact rfl))
    focus (refine' jk_q _ rfl rfl rfl _; rotate_left; (apply q_len; exact rfl; exact rfl))
    focus (refine' jk_q _ rfl rfl rfl _; rotate_left; (apply q_move; exact rfl))
    refine jk_nil ?_
    refine jk_block ?_
    refine jk_loop [0, 1, 2, 7, 14, 116, 117] (0 : Nat) (fun k => k ≤ l.length) (fun k => [(118, int k), (16, .bool (anyOpen t l o k))]) (fun _ => []) (fun k => l.length - k) (by (repeat (first | exact Pick.nil | apply Pick.cons rfl)); first | done | fail) (by omega) ⟨rfl, rfl, trivial⟩ (by (repeat (first | exact Sel.nil | (apply Sel.cons; (focus ((repeat (first | exact .here | apply Mem.there | apply Take.there)); first | done | fail))))); first | done | fail) ?_
    rintro k hk
    by_cases hlt : k < l.length
    · have hxo := List.getElem?_eq_getElem (show k < o.length by omega)
      have hx := List.getElem?_eq_getElem hlt
      obtain ⟨b1, o1, rfl, g1⟩ := hru.int hxo
      obtain ⟨b2, o2, rfl, hRd, g2, g3⟩ := jbRow hr hx
      have hsu := anyOpen_succ t l o k
      have eg1 : (l.getD k default) = l[k] := by simp [List.getD_eq_getElem?_getD, hlt]
      have eg2 : o.getD k 0 = o[k] := by simp [List.getD_eq_getElem?_getD, show k < o.length by omega]
      rw [eg1, eg2] at hsu
      cases hav : anyOpen t l o k with
      | true =>
        rw [hav, Bool.true_or] at hsu
        refine jk_seq ?_
        refine jk_region ?_
        focus (refine' jk_q _ rfl rfl rfl _; rotate_left; (apply q_lt; exact rfl; exact rfl; omega))
        refine jk_nil ?_
        refine jk_seq ?_
        refine jk_if_t rfl ?_
        refine jk_skip ?_
        refine jk_seq ?_
        refine jk_block ?_
        refine jk_seq ?_
        refine jk_region ?_
        focus (refine' jk_q _ rfl rfl rfl _; rotate_left; (apply q_move; exact rfl))
        focus (refine' jk_q _ rfl rfl rfl _; rotate_left; (apply q_idxN; exact rfl; exact rfl; exact rfl; exact rfl; omega))
        focus (refine' jk_q _ rfl rfl rfl _; rotate_left; (apply q_loadS; exact rfl; exact rfl; (first | exact cells_own (by (repeat (first | exact .here | apply Mem.there)); first | done | fail) | exact cellsR (by assumption) (by (repeat (first | exact .here | apply Mem.there)); first | done | fail) | exact cellsH (by assumption) (by (repeat (first | exact .here | apply Mem.there)); first | done | fail)); exact rfl))
        focus (refine' jk_op _ rfl rfl rfl _; rotate_left; (apply l_allocS; exact rfl); rintro _ _ ⟨b, rfl, rfl⟩)
        focus (refine' jk_q _ rfl rfl rfl _; rotate_left; (apply q_assign; exact rfl))
        focus (refine' jk_op_none _ rfl rfl _; rotate_left; (apply l_storeS; exact rfl; exact rfl; exact (by (repeat (first | exact .here | apply Take.there)); first | done | fail); exact (by (repeat (first | exact (fun v hv => absurd hv List.not_mem_nil) | (refine List.forall_mem_cons.2 ⟨?_, ?_⟩; (focus (first | exact rfl | assumption))))); first | done | fail); exact rfl; exact rfl); rintro _ _ ⟨rfl, rfl⟩)
        refine jk_nil ?_
        refine jk_region ?_
        focus (refine' jk_q _ rfl rfl rfl _; rotate_left; (apply q_move; exact rfl))
        focus (refine' jk_q _ rfl rfl rfl _; rotate_left; (apply q_move; exact rfl))
        refine jk_pass rfl rfl rfl ?_
        refine jk_pass rfl rfl rfl ?_
        refine jk_pass rfl rfl rfl ?_
        refine jk_pass rfl rfl rfl ?_
        refine jk_pass rfl rfl rfl ?_
        refine jk_pass rfl rfl rfl ?_
        refine jk_pass rfl rfl rfl ?_
        refine jk_pass rfl rfl rfl ?_
        refine jk_pass rfl rfl rfl ?_
        refine jk_pass rfl rfl rfl ?_
        refine jk_pass rfl rfl rfl ?_
        refine jk_pass rfl rfl rfl ?_
        focus (refine' jk_q _ rfl rfl rfl _; rotate_left; (apply q_pick_t; exact rfl; exact rfl))
        focus (refine' jk_q _ rfl rfl rfl _; rotate_left; (apply q_assign; exact rfl))
        refine jk_nil ?_
        refine jk_blk ?_
        refine jk_region ?_
        focus (refine' jk_q _ rfl rfl rfl _; rotate_left; (apply q_inc; exact rfl; exact rfl; omega))
        focus (refine' jk_q _ rfl rfl rfl _; rotate_left; (apply q_move; exact rfl))
        refine jk_nil ?_
        exact jk_round (k + 1) (by omega) (by omega) (by dsimp only; rw [hsu]; exact (by (repeat (first | exact trivial | refine And.intro rfl ?_)); first | done | fail)) (by (repeat (first | exact Sel.nil | (apply Sel.cons; (focus ((repeat (first | exact .here | apply Mem.there | apply Take.there)); first | done | fail))))); first | done | fail)
      | false =>
        rw [hav, Bool.false_or] at hsu
        by_cases d1 : l[k].a ≤ t
        · by_cases d2 : t < o[k]
          · rw [decide_eq_true ⟨d1, d2⟩] at hsu
            refine jk_seq ?_
            refine jk_region ?_
            focus (refine' jk_q _ rfl rfl rfl _; rotate_left; (apply q_lt; exact rfl; exact rfl; omega))
            refine jk_nil ?_
            refine jk_seq ?_
            refine jk_if_t rfl ?_
            refine jk_skip ?_
            refine jk_seq ?_
            refine jk_block ?_
            refine jk_seq ?_
            refine jk_region ?_
            focus (refine' jk_q _ rfl rfl rfl _; rotate_left; (apply q_move; exact rfl))
            focus (refine' jk_q _ rfl rfl rfl _; rotate_left; (apply q_idxN; exact rfl; exact rfl; exact rfl; exact rfl; omega))
            focus (refine' jk_q _ rfl rfl rfl _; rotate_left; (apply q_loadS; exact rfl; exact rfl; (first | exact cells_own (by (repeat (first | exact .here | apply Mem.there)); first | done | fail) | exact cellsR (by assumption) (by (repeat (first | exact .here | apply Mem.there)); first | done | fail) | exact cellsH (by assumption) (by (repeat (first | exact .here | apply Mem.there)); first | done | fail)); exact rfl))
            focus (refine' jk_op _ rfl rfl rfl _; rotate_left; (apply l_allocS; exact rfl); rintro _ _ ⟨b, rfl, rfl⟩)
            focus (refine' jk_q _ rfl rfl rfl _; rotate_left; (apply q_assign; exact rfl))
            focus (refine' jk_op_none _ rfl rfl _; rotate_left; (apply l_storeS; exact rfl; exact rfl; exact (by (repeat (first | exact .here | apply Take.there)); first | done | fail); exact (by (repeat (first | exact (fun v hv => absurd hv List.not_mem_nil) | (refine List.forall_mem_cons.2 ⟨?_, ?_⟩; (focus (first | exact rfl | assumption))))); first | done | fail); exact rfl; exact rfl); rintro _ _ ⟨rfl, rfl⟩)
            refine jk_nil ?_
            refine jk_region ?_
            focus (refine' jk_q _ rfl rfl rfl _; rotate_left; (apply q_move; exact rfl))
            focus (refine' jk_q _ rfl rfl rfl _; rotate_left; (apply q_move; exact rfl))
            focus (refine' jk_q _ rfl rfl rfl _; rotate_left; (apply q_fld0; exact rfl; exact rfl))
            focus (refine' jk_q _ rfl rfl rfl _; rotate_left; (apply q_load; exact rfl; exact rfl; (first | exact cell_own (by (repeat (first | exact .here | apply Mem.there)); first | done | fail) rfl | exact cellR (by assumption) (by (repeat (first | exact .here | apply Mem.there)); first | done | fail) | exact cellH (by assumption) (by (repeat (first | exact .here | apply Mem.there)); first | done | fail) | exact cell_ints (by (repeat (first | exact .here | apply Mem.there)); first | done | fail) (by omega) | exact cell_bools (by assumption) (by (repeat (first | exact .here | apply Mem.there)); first | done | fail) | exact cell_intsR (by (repeat (first | exact .here | apply Mem.there)); first | done | fail) (by omega) | exact cell_boolsR (by assumption) (by (repeat (first | exact .here | apply Mem.there)); first | done | fail))))
            focus (refine' jk_q _ rfl rfl rfl _; rotate_left; (apply q_move; exact rfl))
            focus (refine' jk_q _ rfl rfl rfl _; rotate_left; (apply q_le; exact rfl; exact rfl; omega))
            focus (refine' jk_q _ rfl rfl rfl _; rotate_left; (apply q_move; exact rfl))
            focus (refine' jk_q _ rfl rfl rfl _; rotate_left; (apply q_move; exact rfl))
            focus (refine' jk_q _ rfl rfl rfl _; rotate_left; (apply q_move; exact rfl))
            focus (refine' jk_q _ rfl rfl rfl _; rotate_left; (apply q_idx1; exact rfl; exact rfl; exact rfl; exact rfl; omega))
            focus (refine' jk_q _ rfl rfl rfl _; rotate_left; (apply q_load; exact rfl; exact rfl; (first | exact cell_own (by (repeat (first | exact .here | apply Mem.there)); first | done | fail) rfl | exact cellR (by assumption) (by (repeat (first | exact .here | apply Mem.there)); first | done | fail) | exact cellH (by assumption) (by (repeat (first | exact .here | apply Mem.there)); first | done | fail) | exact cell_ints (by (repeat (first | exact .here | apply Mem.there)); first | done | fail) (by omega) | exact cell_bools (by assumption) (by (repeat (first | exact .here | apply Mem.there)); first | done | fail) | exact cell_intsR (by (repeat (first | exact .here | apply Mem.there)); first | done | fail) (by omega) | exact cell_boolsR (by assumption) (by (repeat (first | exact .here | apply Mem.there)); first | done | fail))))
            focus (refine' jk_q _ rfl rfl rfl _; rotate_left; (apply q_move; exact rfl))
            focus (refine' jk_q _ rfl rfl rfl _; rotate_left; (apply q_gt; exact rfl; exact rfl; omega))
            focus (refine' jk_q _ rfl rfl rfl _; rotate_left; (apply q_pick_t; exact rfl; exact rfl))
            focus (refine' jk_q _ rfl rfl rfl _; rotate_left; (apply q_pick_f; exact rfl; exact rfl))
            focus (refine' jk_q _ rfl rfl rfl _; rotate_left; (apply q_assign; exact rfl))
            refine jk_nil ?_
            refine jk_blk ?_
            refine jk_region ?_
            focus (refine' jk_q _ rfl rfl rfl _; rotate_left; (apply q_inc; exact rfl; exact rfl; omega))
            focus (refine' jk_q _ rfl rfl rfl _; rotate_left; (apply q_move; exact rfl))
            refine jk_nil ?_
            exact jk_round (k + 1) (by omega) (by omega) (by dsimp only; rw [hsu]; exact (by (repeat (first | exact trivial | refine And.intro rfl ?_)); first | done | fail)) (by (repeat (first | exact Sel.nil | (apply Sel.cons; (focus ((repeat (first | exact .here | apply Mem.there | apply Take.there)); first | done | fail))))); first | done | fail)
          · rw [decide_eq_false (by omega)] at hsu
            refine jk_seq ?_
            refine jk_region ?_
            focus (refine' jk_q _ rfl rfl rfl _; rotate_left; (apply q_lt; exact rfl; exact rfl; omega))
            refine jk_nil ?_
            refine jk_seq ?_
            refine jk_if_t rfl ?_
            refine jk_skip ?_
            refine jk_seq ?_
            refine jk_block ?_
            refine jk_seq ?_
            refine jk_region ?_
            focus (refine' jk_q _ rfl rfl rfl _; rotate_left; (apply q_move; exact rfl))
            focus (refine' jk_q _ rfl rfl rfl _; rotate_left; (apply q_idxN; exact rfl; exact rfl; exact rfl; exact rfl; omega))
            focus (refine' jk_q _ rfl rfl rfl _; rotate_left; (apply q_loadS; exact rfl; exact rfl; (first | exact cells_own (by (repeat (first | exact .here | apply Mem.there)); first | done | fail) | exact cellsR (by assumption) (by (repeat (first | exact .here | apply Mem.there)); first | done | fail) | exact cellsH (by assumption) (by (repeat (first | exact .here | apply Mem.there)); first | done | fail)); exact rfl))
            focus (refine' jk_op _ rfl rfl rfl _; rotate_left; (apply l_allocS; exact rfl); rintro _ _ ⟨b, rfl, rfl⟩)
            focus (refine' jk_q _ rfl rfl rfl _; rotate_left; (apply q_assign; exact rfl))
            focus (refine' jk_op_none _ rfl rfl _; rotate_left; (apply l_storeS; exact rfl; exact rfl; exact (by (repeat (first | exact .here | apply Take.there)); first | done | fail); exact (by (repeat (first | exact (fun v hv => absurd hv List.not_mem_nil) | (refine List.forall_mem_cons.2 ⟨?_, ?_⟩; (focus (first | exact rfl | assumption))))); first | done | fail); exact rfl; exact rfl); rintro _ _ ⟨rfl, rfl⟩)
            refine jk_nil ?_
            refine jk_region ?_
            focus (refine' jk_q _ rfl rfl rfl _; rotate_left; (apply q_move; exact rfl))
            focus (refine' jk_q _ rfl rfl rfl _; rotate_left; (apply q_move; exact rfl))
            focus (refine' jk_q _ rfl rfl rfl _; rotate_left; (apply q_fld0; exact rfl; exact rfl))
            focus (refine' jk_q _ rfl rfl rfl _; rotate_left; (apply q_load; exact rfl; exact rfl; (first | exact cell_own (by (repeat (first | exact .here | apply Mem.there)); first | done | fail) rfl | exact cellR (by assumption) (by (repeat (first | exact .here | apply Mem.there)); first | done | fail) | exact cellH (by assumption) (by (repeat (first | exact .here | apply Mem.there)); first | done | fail) | exact cell_ints (by (repeat (first | exact .here | apply Mem.there)); first | done | fail) (by omega) | exact cell_bools (by assumption) (by (repeat (first | exact .here | apply Mem.there)); first | done | fail) | exact cell_intsR (by (repeat (first | exact .here | apply Mem.there)); first | done | fail) (by omega) | exact cell_boolsR (by assumption) (by (repeat (first | exact .here | apply Mem.there)); first | done | fail))))
            focus (refine' jk_q _ rfl rfl rfl _; rotate_left; (apply q_move; exact rfl))
            focus (refine' jk_q _ rfl rfl rfl _; rotate_left; (apply q_le; exact rfl; exact rfl; omega))
            focus (refine' jk_q _ rfl rfl rfl _; rotate_left; (apply q_move; exact rfl))
            focus (refine' jk_q _ rfl rfl rfl _; rotate_left; (apply q_move; exact rfl))
            focus (refine' jk_q _ rfl rfl rfl _; rotate_left; (apply q_move; exact rfl))
            focus (refine' jk_q _ rfl rfl rfl _; rotate_left; (apply q_idx1; exact rfl; exact rfl; exact rfl; exact rfl; omega))
            focus (refine' jk_q _ rfl rfl rfl _; rotate_left; (apply q_load; exact rfl; exact rfl; (first | exact cell_own (by (repeat (first | exact .here | apply Mem.there)); first | done | fail) rfl | exact cellR (by assumption) (by (repeat (first | exact .here | apply Mem.there)); first | done | fail) | exact cellH (by assumption) (by (repeat (first | exact .here | apply Mem.there)); first | done | fail) | exact cell_ints (by (repeat (first | exact .here | apply Mem.there)); first | done | fail) (by omega) | exact cell_bools (by assumption) (by (repeat (first | exact .here | apply Mem.there)); first | done | fail) | exact cell_intsR (by (repeat (first | exact .here | apply Mem.there)); first | done | fail) (by omega) | exact cell_boolsR (by assumption) (by (repeat (first | exact .here | apply Mem.there)); first | done | fail))))
            focus (refine' jk_q _ rfl rfl rfl _; rotate_left; (apply q_move; exact rfl))
            focus (refine' jk_q _ rfl rfl rfl _; rotate_left; (apply q_gtF; exact rfl; exact rfl; omega))
            focus (refine' jk_q _ rfl rfl rfl _; rotate_left; (apply q_pick_t; exact rfl; exact rfl))
            focus (refine' jk_q _ rfl rfl rfl _; rotate_left; (apply q_pick_f; exact rfl; exact rfl))
            focus (refine' jk_q _ rfl rfl rfl _; rotate_left; (apply q_assign; exact rfl))
            refine jk_nil ?_
            refine jk_blk ?_
            refine jk_region ?_
            focus (refine' jk_q _ rfl rfl rfl _; rotate_left; (apply q_inc; exact rfl; exact rfl; omega))
            focus (refine' jk_q _ rfl rfl rfl _; rotate_left; (apply q_move; exact rfl))
            refine jk_nil ?_
            exact jk_round (k + 1) (by omega) (by omega) (by dsimp only; rw [hsu]; exact (by (repeat (first | exact trivial | refine And.intro rfl ?_)); first | done | fail)) (by (repeat (first | exact Sel.nil | (apply Sel.cons; (focus ((repeat (first | exact .here | apply Mem.there | apply Take.there)); first | done | fail))))); first | done | fail)
        · rw [decide_eq_false (by omega)] at hsu
          refine jk_seq ?_
          refine jk_region ?_
          focus (refine' jk_q _ rfl rfl rfl _; rotate_left; (apply q_lt; exact rfl; exact rfl; omega))
          refine jk_nil ?_
          refine jk_seq ?_
          refine jk_if_t rfl ?_
          refine jk_skip ?_
          refine jk_seq ?_
          refine jk_block ?_
          refine jk_seq ?_
          refine jk_region ?_
          focus (refine' jk_q _ rfl rfl rfl _; rotate_left; (apply q_move; exact rfl))
          focus (refine' jk_q _ rfl rfl rfl _; rotate_left; (apply q_idxN; exact rfl; exact rfl; exact rfl; exact rfl; omega))
          focus (refine' jk_q _ rfl rfl rfl _; rotate_left; (apply q_loadS; exact rfl; exact rfl; (first | exact cells_own (by (repeat (first | exact .here | apply Mem.there)); first | done | fail) | exact cellsR (by assumption) (by (repeat (first | exact .here | apply Mem.there)); first | done | fail) | exact cellsH (by assumption) (by (repeat (first | exact .here | apply Mem.there)); first | done | fail)); exact rfl))
          focus (refine' jk_op _ rfl rfl rfl _; rotate_left; (apply l_allocS; exact rfl); rintro _ _ ⟨b, rfl, rfl⟩)
          focus (refine' jk_q _ rfl rfl rfl _; rotate_left; (apply q_assign; exact rfl))
          focus (refine' jk_op_none _ rfl rfl _; rotate_left; (apply l_storeS; exact rfl; exact rfl; exact (by (repeat (first | exact .here | apply Take.there)); first | done | fail); exact (by (repeat (first | exact (fun v hv => absurd hv List.not_mem_nil) | (refine List.forall_mem_cons.2 ⟨?_, ?_⟩; (focus (first | exact rfl | assumption))))); first | done | fail); exact rfl; exact rfl); rintro _ _ ⟨rfl, rfl⟩)
          refine jk_nil ?_
          refine jk_region ?_
          focus (refine' jk_q _ rfl rfl rfl _; rotate_left; (apply q_move; exact rfl))
          focus (refine' jk_q _ rfl rfl rfl _; rotate_left; (apply q_move; exact rfl))
          focus (refine' jk_q _ rfl rfl rfl _; rotate_left; (apply q_fld0; exact rfl; exact rfl))
          focus (refine' jk_q _ rfl rfl rfl _; rotate_left; (apply q_load; exact rfl; exact rfl; (first | exact cell_own (by (repeat (first | exact .here | apply Mem.there)); first | done | fail) rfl | exact cellR (by assumption) (by (repeat (first | exact .here | apply Mem.there)); first | done | fail) | exact cellH (by assumption) (by (repeat (first | exact .here | apply Mem.there)); first | done | fail) | exact cell_ints (by (repeat (first | exact .here | apply Mem.there)); first | done | fail) (by omega) | exact cell_bools (by assumption) (by (repeat (first | exact .here | apply Mem.there)); first | done | fail) | exact cell_intsR (by (repeat (first | exact .here | apply Mem.there)); first | done | fail) (by omega) | exact cell_boolsR (by assumption) (by (repeat (first | exact .here | apply Mem.there)); first | done | fail))))
          focus (refine' jk_q _ rfl rfl rfl _; rotate_left; (apply q_move; exact rfl))
          focus (refine' jk_q _ rfl rfl rfl _; rotate_left; (apply q_leF; exact rfl; exact rfl; omega))
          focus (refine' jk_q _ rfl rfl rfl _; rotate_left; (apply q_move; exact rfl))
          refine jk_pass rfl rfl rfl ?_
          refine jk_pass rfl rfl rfl ?_
          refine jk_pass rfl rfl rfl ?_
          refine jk_pass rfl rfl rfl ?_
          refine jk_pass rfl rfl rfl ?_
          refine jk_pass rfl rfl rfl ?_
          focus (refine' jk_q _ rfl rfl rfl _; rotate_left; (apply q_pick_f; exact rfl; exact rfl))
          focus (refine' jk_q _ rfl rfl rfl _; rotate_left; (apply q_pick_f; exact rfl; exact rfl))
          focus (refine' jk_q _ rfl rfl rfl _; rotate_left; (apply q_assign; exact rfl))
          refine jk_nil ?_
          refine jk_blk ?_
          refine jk_region ?_
          focus (refine' jk_q _ rfl rfl rfl _; rotate_left; (apply q_inc; exact rfl; exact rfl; omega))
          focus (refine' jk_q _ rfl rfl rfl _; rotate_left; (apply q_move; exact rfl))
          refine jk_nil ?_
          exact jk_round (k + 1) (by omega) (by omega) (by dsimp only; rw [hsu]; exact (by (repeat (first | exact trivial | refine And.intro rfl ?_)); first | done | fail)) (by (repeat (first | exact Sel.nil | (apply Sel.cons; (focus ((repeat (first | exact .here | apply Mem.there | apply Take.there)); first | done | fail))))); first | done | fail)
    · have hkl : k = l.length := by omega
      subst hkl
      by_cases hpos : cum f t.toNat < lastM f t 0 l
      · have hx : anyOpen t l o l.length = true := hao.2 ((hop.1 hpos).resolve_left (by omega))
        rw [hx]
        refine jk_seq ?_
        refine jk_region ?_
        focus (refine' jk_q _ rfl rfl rfl _; rotate_left; (apply q_ltF; exact rfl; exact rfl; omega))
        refine jk_nil ?_
        refine jk_seq ?_
        refine jk_if_f rfl ?_
        refine jk_exit rfl ?_
        refine jk_seq ?_
        refine jk_region ?_
        focus (refine' jk_q _ rfl rfl rfl _; rotate_left; (apply q_move; exact rfl))
        focus (refine' jk_q _ rfl rfl rfl _; rotate_left; (apply q_gt; exact rfl; exact rfl; omega))
        focus (refine' jk_q _ rfl rfl rfl _; rotate_left; (apply q_move; exact rfl))
        focus (refine' jk_q _ rfl rfl rfl _; rotate_left; (apply q_eqBool; exact rfl; exact rfl; exact rfl))
        focus (refine' jk_q _ rfl rfl rfl _; rotate_left; (apply q_move; exact rfl))
        focus ((refine jk_call awake_spec rfl rfl (by (repeat (first | exact RdOK.nil | (refine RdOK.consR ?_ ?_; (focus ((repeat (first | exact .here | apply Mem.there | apply Take.there)); first | done | fail))) | (refine RdOK.consH ?_ ?_; (focus ((repeat (first | exact .here | apply Mem.there | apply Take.there)); first | done | fail))) | exact (fun τ hτ => .inl (by simp [hτ])))); first | done | fail) rfl rfl ?_; rintro _ rfl))
        focus (refine' jk_q _ rfl rfl rfl _; rotate_left; (apply q_pick_t; exact rfl; exact rfl))
        focus (refine' jk_q _ rfl rfl rfl _; rotate_left; (apply q_assign; exact rfl))
        refine jk_nil ?_
        exact jk_ret_any (res1 rfl rfl) (by (repeat (first | exact rs_nil | (refine rs_cons ?_ ?_; (focus ((repeat (first | exact .here | apply Mem.there | apply Take.there)); first | done | fail))) | exact fun ρ hρ => hρ | (intro ρ hρ; repeat (first | exact hρ | refine List.mem_cons_of_mem _ ?_)))); first | done | fail) (by (repeat (first | exact Sel.nil | (apply Sel.cons; (focus ((repeat (first | exact .here | apply Mem.there | apply Take.there)); first | done | fail))))); first | done | fail) ⟨rfl, rfl⟩
      · have hx : anyOpen t l o l.length = false := by
          cases hh : anyOpen t l o l.length with
          | false => rfl
          | true => exact absurd (hop.2 (.inr (hao.1 hh))) hpos
        rw [hx]
        refine jk_seq ?_
        refine jk_region ?_
        focus (refine' jk_q _ rfl rfl rfl _; rotate_left; (apply q_ltF; exact rfl; exact rfl; omega))
        refine jk_nil ?_
        refine jk_seq ?_
        refine jk_if_f rfl ?_
        refine jk_exit rfl ?_
        refine jk_seq ?_
        refine jk_region ?_
        focus (refine' jk_q _ rfl rfl rfl _; rotate_left; (apply q_move; exact rfl))
        focus (refine' jk_q _ rfl rfl rfl _; rotate_left; (apply q_gtF; exact rfl; exact rfl; omega))
        focus (refine' jk_q _ rfl rfl rfl _; rotate_left; (apply q_move; exact rfl))
        focus (refine' jk_q _ rfl rfl rfl _; rotate_left; (apply q_eqBool; exact rfl; exact rfl; exact rfl))
        focus (refine' jk_q _ rfl rfl rfl _; rotate_left; (apply q_move; exact rfl))
        focus ((refine jk_call awake_spec rfl rfl (by (repeat (first | exact RdOK.nil | (refine RdOK.consR ?_ ?_; (focus ((repeat (first | exact .here | apply Mem.there | apply Take.there)); first | done | fail))) | (refine RdOK.consH ?_ ?_; (focus ((repeat (first | exact .here | apply Mem.there | apply Take.there)); first | done | fail))) | exact (fun τ hτ => .inl (by simp [hτ])))); first | done | fail) rfl rfl ?_; rintro _ rfl))
        focus (refine' jk_q _ rfl rfl rfl _; rotate_left; (apply q_pick_t; exact rfl; exact rfl))
        focus (refine' jk_q _ rfl rfl rfl _; rotate_left; (apply q_assign; exact rfl))
        refine jk_nil ?_
        exact jk_ret_any (res1 rfl rfl) (by (repeat (first | exact rs_nil | (refine rs_cons ?_ ?_; (focus ((repeat (first | exact .here | apply Mem.there | apply Take.there)); first | done | fail))) | exact fun ρ hρ => hρ | (intro ρ hρ; repeat (first | exact hρ | refine List.mem_cons_of_mem _ ?_)))); first | done | fail) (by (repeat (first | exact Sel.nil | (apply Sel.cons; (focus ((repeat (first | exact .here | apply Mem.there | apply Take.there)); first | done | fail))))); first | done | fail) ⟨rfl, rfl⟩
end Go.Proofs.Ytlpemhpfljhhbaa
