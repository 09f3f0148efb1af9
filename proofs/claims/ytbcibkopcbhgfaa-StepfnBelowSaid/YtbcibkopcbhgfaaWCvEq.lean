/- Functions compared. -/
import Derived.Test.YtbcibkopcbhgfaaWCvA
import Derived.Test.YtbcibkopcbhgfaaWMbEql
set_option linter.all false
namespace Go.Proofs.Ytbcibkopcbhgfaa
open Go.Eng Go.Step
set_option maxRecDepth 100000
set_option maxHeartbeats 4000000

theorem equalV_spec (ρ τ : PH) (v w : Value) (l m : List Lv) (hv : LvAt ρ v l) (hw : LvAt τ w m) (hl : l.length ≤ 9223372036854775807) :
    Ans Try.prog (fv 16) [v, w] [ρ, τ] (fun r => r = .bool (decide (l = m))) := by
  obtain ⟨q, c, rfl, hr⟩ := hv.val encV_len
  obtain ⟨q', c', rfl, hr'⟩ := hw.val encV_len
  refine spec_in (cap := []) Try.func16 rfl rfl Try.ntmps16 rfl (by (repeat (first | exact EnvA.nil EnvI.nil | apply EnvA.cons | apply EnvA.nil | exact EnvI.nil | apply EnvI.cons)); first | done | fail) (fun N β => ?_)
  by_cases hlen : l.length = m.length
  rotate_left
  · refine jk_seq ?_
    refine jk_region ?_
    focus (refine' jk_q _ rfl rfl rfl _; rotate_left; (apply q_assign; exact rfl))
    refine jk_nil ?_
    refine jk_seq ?_
    refine jk_seq ?_
    refine jk_region ?_
    focus (refine' jk_q _ rfl rfl rfl _; rotate_left; (apply q_move; exact rfl))
    focus (refine' jk_q _ rfl rfl rfl _; rotate_left; (apply q_len; exact rfl; exact rfl))
    focus (refine' jk_q _ rfl rfl rfl _; rotate_left; (apply q_move; exact rfl))
    focus (refine' jk_q _ rfl rfl rfl _; rotate_left; (apply q_len; exact rfl; exact rfl))
    focus (refine' jk_q _ rfl rfl rfl _; rotate_left; (apply q_ne; exact rfl; exact rfl; omega))
    refine jk_nil ?_
    refine jk_if_t rfl ?_
    refine jk_seq ?_
    refine jk_region ?_
    focus (refine' jk_q _ rfl rfl rfl _; rotate_left; (apply q_assign; exact rfl))
    refine jk_nil ?_
    exact jk_ret_any (res1 rfl rfl) (by (repeat (first | exact rs_nil | (refine rs_cons ?_ ?_; (focus ((repeat (first | exact .here | apply Mem.there | apply Take.there)); first | done | fail))) | exact fun ρ hρ => hρ | (intro ρ hρ; repeat (first | exact hρ | refine List.mem_cons_of_mem _ ?_)))); first | done | fail) (by (repeat (first | exact Sel.nil | (apply Sel.cons; (focus ((repeat (first | exact .here | apply Mem.there | apply Take.there)); first | done | fail))))); first | done | fail) ⟨rfl, by rw [decide_eq_false (fun h => hlen (by rw [h]))]⟩
  refine jk_seq ?_
  refine jk_region ?_
  focus (refine' jk_q _ rfl rfl rfl _; rotate_left; (apply q_assign; exact rfl))
  refine jk_nil ?_
  refine jk_seq ?_
  refine jk_seq ?_
  refine jk_region ?_
  focus (refine' jk_q _ rfl rfl rfl _; rotate_left; (apply q_move; exact rfl))
  focus (refine' jk_q _ rfl rfl rfl _; rotate_left; (apply q_len; exact rfl; exact rfl))
  focus (refine' jk_q _ rfl rfl rfl _; rotate_left; (apply q_move; exact rfl))
  focus (refine' jk_q _ rfl rfl rfl _; rotate_left; (apply q_len; exact rfl; exact rfl))
  focus (refine' jk_q _ rfl rfl rfl _; rotate_left; (apply q_neF; exact rfl; exact rfl; omega))
  refine jk_nil ?_
  refine jk_if_f rfl ?_
  refine jk_skip ?_
  refine jk_seq ?_
  refine jk_seq ?_
  refine jk_region ?_
  focus (refine' jk_q _ rfl rfl rfl _; rotate_left; (apply q_move; exact rfl))
  focus (refine' jk_q _ rfl rfl rfl _; rotate_left; (apply q_len; exact rfl; exact rfl))
  focus (refine' jk_q _ rfl rfl rfl _; rotate_left; (apply q_move; exact rfl))
  refine jk_nil ?_
  refine jk_block ?_
  refine jk_loop [0, 1, 12] (0 : Nat) (fun k => k ≤ l.length ∧ l.take k = m.take k) (fun k => [(13, int k)]) (fun _ => []) (fun k => l.length - k) (by (repeat (first | exact Pick.nil | apply Pick.cons rfl)); first | done | fail) ⟨by omega, by simp⟩ (by (repeat (first | exact trivial | refine And.intro rfl ?_)); first | done | fail) (by (repeat (first | exact Sel.nil | (apply Sel.cons; (focus ((repeat (first | exact .here | apply Mem.there | apply Take.there)); first | done | fail))))); first | done | fail) ?_
  rintro k ⟨hk, hI⟩
  by_cases hlt : k < l.length
  · have hx := List.getElem?_eq_getElem hlt
    have hx' := List.getElem?_eq_getElem (show k < m.length by omega)
    obtain ⟨b1, o1, rfl, hRd1, _⟩ := lvRow hr hx
    obtain ⟨b2, o2, rfl, hRd2, _⟩ := lvRow hr' hx'
    refine jk_seq ?_
    refine jk_region ?_
    focus (refine' jk_q _ rfl rfl rfl _; rotate_left; (apply q_lt; exact rfl; exact rfl; omega))
    refine jk_nil ?_
    refine jk_seq ?_
    refine jk_if_t rfl ?_
    refine jk_skip ?_
    refine jk_seq ?_
    refine jk_block ?_
    refine jk_seq ?_
    refine jk_region ?_
    focus (refine' jk_q _ rfl rfl rfl _; rotate_left; (apply q_move; exact rfl))
    focus (refine' jk_q _ rfl rfl rfl _; rotate_left; (apply q_assign; exact rfl))
    refine jk_nil ?_
    refine jk_seq ?_
    refine jk_draw (.q 0 (.q 1 (.q 2 (.q 3 (.q 4 (.q 5 (.q 6 (.q 7 (.q 8 .nil))))))))) [] rfl (by kernel_rfl) Sel.nil ?_
    focus (refine' dj_q rfl _ rfl rfl rfl rfl _; rotate_left; (apply q_move; exact rfl))
    focus (refine' dj_q rfl _ rfl rfl rfl rfl _; rotate_left; (apply q_move; exact rfl))
    focus (refine' dj_q rfl _ rfl rfl rfl rfl _; rotate_left; (apply q_idxN; exact rfl; exact rfl; exact rfl; exact rfl; omega))
    focus (refine' dj_q rfl _ rfl rfl rfl rfl _; rotate_left; (apply q_loadS; exact rfl; exact rfl; (first | exact cells_own (by (repeat (first | exact .here | apply Mem.there)); first | done | fail) | exact cellsR (by assumption) (by (repeat (first | exact .here | apply Mem.there)); first | done | fail) | exact cellsH (by assumption) (by (repeat (first | exact .here | apply Mem.there)); first | done | fail)); exact rfl))
    focus (refine' dj_q rfl _ rfl rfl rfl rfl _; rotate_left; (apply q_move; exact rfl))
    focus (refine' dj_q rfl _ rfl rfl rfl rfl _; rotate_left; (apply q_move; exact rfl))
    focus (refine' dj_q rfl _ rfl rfl rfl rfl _; rotate_left; (apply q_idxN; exact rfl; exact rfl; exact rfl; exact rfl; omega))
    focus (refine' dj_q rfl _ rfl rfl rfl rfl _; rotate_left; (apply q_loadS; exact rfl; exact rfl; (first | exact cells_own (by (repeat (first | exact .here | apply Mem.there)); first | done | fail) | exact cellsR (by assumption) (by (repeat (first | exact .here | apply Mem.there)); first | done | fail) | exact cellsH (by assumption) (by (repeat (first | exact .here | apply Mem.there)); first | done | fail)); exact rfl))
    focus ((refine' dj_q rfl _ rfl rfl rfl rfl _; rotate_left; (apply q_neS [l[k].a, l[k].v] [m[k].a, m[k].v] (n := 2); exact rfl; exact rfl; kernel_rfl; kernel_rfl; kernel_rfl; exact rfl; exact rfl)))
    refine dj_end ?_
    by_cases he : l[k] = m[k]
    · rw [he]
      rw [show (!decide ([m[k].a, m[k].v] = [m[k].a, m[k].v])) = false by simp]
      skip
      refine jk_if_f rfl ?_
      refine jk_skip ?_
      refine jk_blk ?_
      refine jk_region ?_
      focus (refine' jk_q _ rfl rfl rfl _; rotate_left; (apply q_inc; exact rfl; exact rfl; omega))
      focus (refine' jk_q _ rfl rfl rfl _; rotate_left; (apply q_move; exact rfl))
      refine jk_nil ?_
      refine jk_round (k + 1) ⟨by omega, ?_⟩ (by omega) (by (repeat (first | exact trivial | refine And.intro rfl ?_)); first | done | fail) (by (repeat (first | exact Sel.nil | (apply Sel.cons; (focus ((repeat (first | exact .here | apply Mem.there | apply Take.there)); first | done | fail))))); first | done | fail)
      rw [List.take_succ_eq_append_getElem hlt, List.take_succ_eq_append_getElem (show k < m.length by omega), hI, he]
    · have hne : ¬ ([l[k].a, l[k].v] = [m[k].a, m[k].v]) := fun h => he (by
        simp only [List.cons.injEq, and_true] at h
        generalize l[k] = x at *
        generalize m[k] = y at *
        obtain ⟨x1, x2⟩ := x
        obtain ⟨y1, y2⟩ := y
        simp only at h
        rw [h.1, h.2])
      rw [show (!decide ([l[k].a, l[k].v] = [m[k].a, m[k].v])) = true by simp only [decide_eq_false hne, Bool.not_false]]
      skip
      refine jk_if_t rfl ?_
      refine jk_seq ?_
      refine jk_region ?_
      focus (refine' jk_q _ rfl rfl rfl _; rotate_left; (apply q_assign; exact rfl))
      refine jk_nil ?_
      exact jk_ret_any (res1 rfl rfl) (by (repeat (first | exact rs_nil | (refine rs_cons ?_ ?_; (focus ((repeat (first | exact .here | apply Mem.there | apply Take.there)); first | done | fail))) | exact fun ρ hρ => hρ | (intro ρ hρ; repeat (first | exact hρ | refine List.mem_cons_of_mem _ ?_)))); first | done | fail) (by (repeat (first | exact Sel.nil | (apply Sel.cons; (focus ((repeat (first | exact .here | apply Mem.there | apply Take.there)); first | done | fail))))); first | done | fail) ⟨rfl, by rw [decide_eq_false (fun h => he (by subst h; rfl))]⟩
  · rw [List.take_of_length_le (by omega), List.take_of_length_le (by omega)] at hI
    refine jk_seq ?_
    refine jk_region ?_
    focus (refine' jk_q _ rfl rfl rfl _; rotate_left; (apply q_ltF; exact rfl; exact rfl; omega))
    refine jk_nil ?_
    refine jk_seq ?_
    refine jk_if_f rfl ?_
    refine jk_exit rfl ?_
    refine jk_seq ?_
    refine jk_region ?_
    focus (refine' jk_q _ rfl rfl rfl _; rotate_left; (apply q_assign; exact rfl))
    refine jk_nil ?_
    exact jk_ret_any (res1 rfl rfl) (by (repeat (first | exact rs_nil | (refine rs_cons ?_ ?_; (focus ((repeat (first | exact .here | apply Mem.there | apply Take.there)); first | done | fail))) | exact fun ρ hρ => hρ | (intro ρ hρ; repeat (first | exact hρ | refine List.mem_cons_of_mem _ ?_)))); first | done | fail) (by (repeat (first | exact Sel.nil | (apply Sel.cons; (focus ((repeat (first | exact .here | apply Mem.there | apply Take.there)); first | done | fail))))); first | done | fail) ⟨rfl, by rw [decide_eq_true hI]⟩
end Go.Proofs.Ytbcibkopcbhgfaa
