/- Texts of this proof, one after the other; no conditions. -/
import Derived.Test.YtjbebmealbnmgaaGreatWB7
import Derived.Test.YtjbebmealbnmgaaGreatWB2
import Derived.Test.YtjbebmealbnmgaaGreatWB11
import Derived.Test.YtjbebmealbnmgaaGreatWB4
import Derived.Test.YtjbebmealbnmgaaGreatWB0
import Derived.Test.YtjbebmealbnmgaaGreatWB9
set_option linter.all false
/- Sizes that the statements examine. -/
namespace Go.Proofs.YtjbebmealbnmgaaGreat
open Go.Eng Go.Step
set_option maxRecDepth 100000
set_option maxHeartbeats 4000000

theorem greatPlan_spec (pq pc : Option Addr) (kq kc nq nc : Nat) : Ans Tryz.prog (fv 38) [.agg #[.slice pq nq kq, .slice pc nc kc]] [] (fun r => r = .bool (decide (6 < nq ∨ 10 < nc))) := by
  refine spec_in (cap := []) Tryz.func38 rfl rfl Tryz.ntmps38 rfl (by (repeat (first | exact EnvA.nil EnvI.nil | apply EnvA.cons | apply EnvA.nil | exact EnvI.nil | apply EnvI.cons)); first | done | fail) (fun N β => ?_)
  refine jk_seq ?_
  refine jk_region ?_
  refine jk_op (l_boxS rfl) rfl rfl rfl ?_
  rintro _ _ ⟨b1, rfl, rfl⟩
  refine jk_freeze (ρ := sng b1 _) takeZ ?_
  have c : RdN (sng b1 (.cells #[.slice pq nq kq, .slice pc nc kc] 25 (0, 0))) b1 0 [.slice pq nq kq, .slice pc nc kc] := rdN_sng (vs := [.slice pq nq kq, .slice pc nc kc])
  have c0 : rdc (sng b1 (.cells #[.slice pq nq kq, .slice pc nc kc] 25 (0, 0))) b1 0 = some (.slice pq nq kq) := by rw [rdc_sng]; rfl
  have c1 : rdc (sng b1 (.cells #[.slice pq nq kq, .slice pc nc kc] 25 (0, 0))) b1 1 = some (.slice pc nc kc) := by rw [rdc_sng]; rfl
  by_cases h1 : 6 < nq
  · rw [decide_eq_true (.inl h1)]
    refine zq_assign ?_
    refine jk_nil ?_
    refine jk_seq ?_
    refine jk_region ?_
    refine zq_fld0 ?_
    refine zq_load ?_
    refine zq_len ?_
    refine zq_gt ?_
    refine zq_move ?_
    refine jk_pass rfl rfl rfl ?_
    refine jk_pass rfl rfl rfl ?_
    refine jk_pass rfl rfl rfl ?_
    refine jk_pass rfl rfl rfl ?_
    refine zq_pick_t ?_
    refine zq_assign ?_
    refine jk_nil ?_
    exact jk_ret_any (res1 rfl rfl) (by (repeat (first | exact rs_nil | (refine rs_cons ?_ ?_; (focus ((repeat (first | exact .here | apply Mem.there | apply Take.there)); first | done | fail))) | exact fun ρ hρ => hρ | (intro ρ hρ; repeat (first | exact hρ | refine List.mem_cons_of_mem _ ?_)))); first | done | fail) selZ ⟨rfl, rfl⟩
  by_cases h2 : 10 < nc
  · rw [decide_eq_true (.inr h2)]
    refine zq_assign ?_
    refine jk_nil ?_
    refine jk_seq ?_
    refine jk_region ?_
    refine zq_fld0 ?_
    refine zq_load ?_
    refine zq_len ?_
    refine zq_gtF ?_
    refine zq_move ?_
    refine zq_fld0 ?_
    refine zq_load ?_
    refine zq_len ?_
    refine zq_gt ?_
    refine zq_pick_f ?_
    refine zq_assign ?_
    refine jk_nil ?_
    exact jk_ret_any (res1 rfl rfl) (by (repeat (first | exact rs_nil | (refine rs_cons ?_ ?_; (focus ((repeat (first | exact .here | apply Mem.there | apply Take.there)); first | done | fail))) | exact fun ρ hρ => hρ | (intro ρ hρ; repeat (first | exact hρ | refine List.mem_cons_of_mem _ ?_)))); first | done | fail) selZ ⟨rfl, rfl⟩
  rw [decide_eq_false (by omega)]
  refine zq_assign ?_
  refine jk_nil ?_
  refine jk_seq ?_
  refine jk_region ?_
  refine zq_fld0 ?_
  refine zq_load ?_
  refine zq_len ?_
  refine zq_gtF ?_
  refine zq_move ?_
  refine zq_fld0 ?_
  refine zq_load ?_
  refine zq_len ?_
  refine zq_gtF ?_
  refine zq_pick_f ?_
  refine zq_assign ?_
  refine jk_nil ?_
  exact jk_ret_any (res1 rfl rfl) (by (repeat (first | exact rs_nil | (refine rs_cons ?_ ?_; (focus ((repeat (first | exact .here | apply Mem.there | apply Take.there)); first | done | fail))) | exact fun ρ hρ => hρ | (intro ρ hρ; repeat (first | exact hρ | refine List.mem_cons_of_mem _ ?_)))); first | done | fail) selZ ⟨rfl, rfl⟩
set_option maxHeartbeats 16000000 in
theorem great29_spec (pq pc pb ph : Option Addr) (kq kc kb kh nq nc nb nh : Nat) : Ans Tryz.prog (fv 14) [.agg #[.slice pq nq kq, .slice pc nc kc, .slice pb nb kb, .slice ph nh kh]] [] (fun r => r = .bool (decide (6 < nq ∨ 10 < nc ∨ 30 < nb ∨ 30 < nh))) := by
  refine spec_in (cap := []) Tryz.func14 rfl rfl Tryz.ntmps14 rfl (by (repeat (first | exact EnvA.nil EnvI.nil | apply EnvA.cons | apply EnvA.nil | exact EnvI.nil | apply EnvI.cons)); first | done | fail) (fun N β => ?_)
  refine jk_seq ?_
  refine jk_region ?_
  refine jk_op (l_boxS rfl) rfl rfl rfl ?_
  rintro _ _ ⟨b1, rfl, rfl⟩
  refine jk_freeze (ρ := sng b1 _) takeZ ?_
  have c : RdN (sng b1 (.cells #[.slice pq nq kq, .slice pc nc kc, .slice pb nb kb, .slice ph nh kh] 29 (0, 0))) b1 0 [.slice pq nq kq, .slice pc nc kc, .slice pb nb kb, .slice ph nh kh] := rdN_sng (vs := [.slice pq nq kq, .slice pc nc kc, .slice pb nb kb, .slice ph nh kh])
  have c0 : rdc (sng b1 (.cells #[.slice pq nq kq, .slice pc nc kc, .slice pb nb kb, .slice ph nh kh] 29 (0, 0))) b1 0 = some (.slice pq nq kq) := by rw [rdc_sng]; rfl
  have c1 : rdc (sng b1 (.cells #[.slice pq nq kq, .slice pc nc kc, .slice pb nb kb, .slice ph nh kh] 29 (0, 0))) b1 1 = some (.slice pc nc kc) := by rw [rdc_sng]; rfl
  have c2 : rdc (sng b1 (.cells #[.slice pq nq kq, .slice pc nc kc, .slice pb nb kb, .slice ph nh kh] 29 (0, 0))) b1 2 = some (.slice pb nb kb) := by rw [rdc_sng]; rfl
  have c3 : rdc (sng b1 (.cells #[.slice pq nq kq, .slice pc nc kc, .slice pb nb kb, .slice ph nh kh] 29 (0, 0))) b1 3 = some (.slice ph nh kh) := by rw [rdc_sng]; rfl
  have ctp : RdP (sng b1 (.cells #[.slice pq nq kq, .slice pc nc kc, .slice pb nb kb, .slice ph nh kh] 29 (0, 0))) b1 0 [.slice pq nq kq, .slice pc nc kc] := rdP_sng (xs := [.slice pq nq kq, .slice pc nc kc, .slice pb nb kb, .slice ph nh kh]) rfl
  refine zq_assign ?_
  refine jk_nil ?_
  refine jk_seq ?_
  refine jk_region ?_
  refine zq_fld0 ?_
  refine zq_loadS ?_
  refine jk_call (greatPlan_spec pq pc kq kc nq nc) rfl rfl rdZ rfl rfl ?_
  rintro _ rfl
  by_cases h1 : 6 < nq ∨ 10 < nc
  · rw [decide_eq_true h1, decide_eq_true (by omega)]
    refine zq_move ?_
    refine jk_pass rfl rfl rfl ?_
    refine jk_pass rfl rfl rfl ?_
    refine jk_pass rfl rfl rfl ?_
    refine jk_pass rfl rfl rfl ?_
    refine zq_pick_t ?_
    refine zq_move ?_
    refine jk_pass rfl rfl rfl ?_
    refine jk_pass rfl rfl rfl ?_
    refine jk_pass rfl rfl rfl ?_
    refine jk_pass rfl rfl rfl ?_
    refine zq_pick_t ?_
    refine zq_assign ?_
    refine jk_nil ?_
    exact jk_ret_any (res1 rfl rfl) (by (repeat (first | exact rs_nil | (refine rs_cons ?_ ?_; (focus ((repeat (first | exact .here | apply Mem.there | apply Take.there)); first | done | fail))) | exact fun ρ hρ => hρ | (intro ρ hρ; repeat (first | exact hρ | refine List.mem_cons_of_mem _ ?_)))); first | done | fail) selZ ⟨rfl, rfl⟩
  rw [decide_eq_false h1]
  by_cases h2 : 30 < nb
  · rw [decide_eq_true (by omega)]
    refine zq_move ?_
    refine zq_fld0 ?_
    refine zq_load ?_
    refine zq_len ?_
    refine zq_gt ?_
    refine zq_pick_f ?_
    refine zq_move ?_
    refine jk_pass rfl rfl rfl ?_
    refine jk_pass rfl rfl rfl ?_
    refine jk_pass rfl rfl rfl ?_
    refine jk_pass rfl rfl rfl ?_
    refine zq_pick_t ?_
    refine zq_assign ?_
    refine jk_nil ?_
    exact jk_ret_any (res1 rfl rfl) (by (repeat (first | exact rs_nil | (refine rs_cons ?_ ?_; (focus ((repeat (first | exact .here | apply Mem.there | apply Take.there)); first | done | fail))) | exact fun ρ hρ => hρ | (intro ρ hρ; repeat (first | exact hρ | refine List.mem_cons_of_mem _ ?_)))); first | done | fail) selZ ⟨rfl, rfl⟩
  by_cases h3 : 30 < nh
  · rw [decide_eq_true (by omega)]
    refine zq_move ?_
    refine zq_fld0 ?_
    refine zq_load ?_
    refine zq_len ?_
    refine zq_gtF ?_
    refine zq_pick_f ?_
    refine zq_move ?_
    refine zq_fld0 ?_
    refine zq_load ?_
    refine zq_len ?_
    refine zq_gt ?_
    refine zq_pick_f ?_
    refine zq_assign ?_
    refine jk_nil ?_
    exact jk_ret_any (res1 rfl rfl) (by (repeat (first | exact rs_nil | (refine rs_cons ?_ ?_; (focus ((repeat (first | exact .here | apply Mem.there | apply Take.there)); first | done | fail))) | exact fun ρ hρ => hρ | (intro ρ hρ; repeat (first | exact hρ | refine List.mem_cons_of_mem _ ?_)))); first | done | fail) selZ ⟨rfl, rfl⟩
  rw [decide_eq_false (by omega)]
  refine zq_move ?_
  refine zq_fld0 ?_
  refine zq_load ?_
  refine zq_len ?_
  refine zq_gtF ?_
  refine zq_pick_f ?_
  refine zq_move ?_
  refine zq_fld0 ?_
  refine zq_load ?_
  refine zq_len ?_
  refine zq_gtF ?_
  refine zq_pick_f ?_
  refine zq_assign ?_
  refine jk_nil ?_
  exact jk_ret_any (res1 rfl rfl) (by (repeat (first | exact rs_nil | (refine rs_cons ?_ ?_; (focus ((repeat (first | exact .here | apply Mem.there | apply Take.there)); first | done | fail))) | exact fun ρ hρ => hρ | (intro ρ hρ; repeat (first | exact hρ | refine List.mem_cons_of_mem _ ?_)))); first | done | fail) selZ ⟨rfl, rfl⟩
theorem refGreatC_spec (γ κ : PH) (p : Option Addr) (kk : Nat) (c : Cu) (hc : CutRow γ κ p c) (hcl : c.length ≤ 9223372036854775807) : Ans Tryz.prog (fv 5) [.slice p c.length kk] [γ] (fun r => r = .bool (greatC c)) := by
  refine spec_in (cap := []) Tryz.func5 rfl rfl Tryz.ntmps5 rfl (by (repeat (first | exact EnvA.nil EnvI.nil | apply EnvA.cons | apply EnvA.nil | exact EnvI.nil | apply EnvI.cons)); first | done | fail) (fun N β => ?_)
  by_cases h8 : 8 < c.length
  · have hR : greatC c = true := by unfold greatC; rw [decide_eq_true h8]; rfl
    rw [hR]
    refine jk_seq ?_
    refine jk_region ?_
    refine zq_assign ?_
    refine jk_nil ?_
    refine jk_seq ?_
    refine jk_seq ?_
    refine jk_region ?_
    refine zq_move ?_
    refine zq_len ?_
    refine zq_gt ?_
    refine jk_nil ?_
    refine jk_if_t rfl ?_
    refine jk_seq ?_
    refine jk_region ?_
    refine zq_assign ?_
    refine jk_nil ?_
    exact jk_ret_any (res1 rfl rfl) (by (repeat (first | exact rs_nil | (refine rs_cons ?_ ?_; (focus ((repeat (first | exact .here | apply Mem.there | apply Take.there)); first | done | fail))) | exact fun ρ hρ => hρ | (intro ρ hρ; repeat (first | exact hρ | refine List.mem_cons_of_mem _ ?_)))); first | done | fail) selZ ⟨rfl, rfl⟩
  have hR0 : greatC c = c.any (fun l => decide (20 < l.length)) := by unfold greatC; rw [decide_eq_false h8, Bool.false_or]
  rw [hR0]
  refine jk_seq ?_
  refine jk_region ?_
  refine zq_assign ?_
  refine jk_nil ?_
  refine jk_seq ?_
  refine jk_seq ?_
  refine jk_region ?_
  refine zq_move ?_
  refine zq_len ?_
  refine zq_gtF ?_
  refine jk_nil ?_
  refine jk_if_f rfl ?_
  refine jk_skip ?_
  refine jk_seq ?_
  refine jk_seq ?_
  refine jk_region ?_
  refine zq_assign ?_
  refine jk_nil ?_
  refine jk_block ?_
  refine jk_loop [0, 2] (0 : Nat) (fun i => i ≤ c.length ∧ (c.take i).any (fun l => decide (20 < l.length)) = false) (fun i => [(3, int i)]) (fun _ => []) (fun i => c.length - i) pickZ ⟨by omega, rfl⟩ covZ selZ ?_
  rintro i ⟨hi, hI⟩
  by_cases hlt : i < c.length
  · have hnx := any_take (fun l : List (Int × Int) => decide (20 < l.length)) hlt
    rw [hI, Bool.false_or] at hnx
    obtain ⟨b, o, q, k, rfl, g, hs, hl⟩ := hc i _ (List.getElem?_eq_getElem hlt)
    have hyes : 20 < c[i].length → c.any (fun l => decide (20 < l.length)) = true := fun h => List.any_eq_true.2 ⟨_, List.getElem_mem hlt, decide_eq_true h⟩
    generalize c[i] = l at hnx hs hl hyes g
    by_cases h20 : 20 < l.length
    · rw [hyes h20]
      refine jk_seq ?_
      refine jk_seq ?_
      refine jk_region ?_
      refine zq_move ?_
      refine zq_move ?_
      refine zq_len ?_
      refine zq_lt ?_
      refine jk_nil ?_
      refine jk_if_t rfl ?_
      refine jk_skip ?_
      refine jk_seq ?_
      refine jk_block ?_
      refine jk_seq ?_
      refine jk_region ?_
      refine zq_move ?_
      refine zq_move ?_
      refine zq_idx1 ?_
      refine zq_load ?_
      refine zq_len ?_
      refine zq_gt ?_
      refine jk_nil ?_
      refine jk_if_t rfl ?_
      refine jk_seq ?_
      refine jk_region ?_
      refine zq_assign ?_
      refine jk_nil ?_
      exact jk_ret_any (res1 rfl rfl) (by (repeat (first | exact rs_nil | (refine rs_cons ?_ ?_; (focus ((repeat (first | exact .here | apply Mem.there | apply Take.there)); first | done | fail))) | exact fun ρ hρ => hρ | (intro ρ hρ; repeat (first | exact hρ | refine List.mem_cons_of_mem _ ?_)))); first | done | fail) selZ ⟨rfl, rfl⟩
    · rw [decide_eq_false h20] at hnx
      refine jk_seq ?_
      refine jk_seq ?_
      refine jk_region ?_
      refine zq_move ?_
      refine zq_move ?_
      refine zq_len ?_
      refine zq_lt ?_
      refine jk_nil ?_
      refine jk_if_t rfl ?_
      refine jk_skip ?_
      refine jk_seq ?_
      refine jk_block ?_
      refine jk_seq ?_
      refine jk_region ?_
      refine zq_move ?_
      refine zq_move ?_
      refine zq_idx1 ?_
      refine zq_load ?_
      refine zq_len ?_
      refine zq_gtF ?_
      refine jk_nil ?_
      refine jk_if_f rfl ?_
      refine jk_skip ?_
      refine jk_blk ?_
      refine jk_region ?_
      refine zq_move ?_
      refine zq_inc ?_
      refine zq_assign ?_
      refine jk_nil ?_
      exact jk_round (i + 1) ⟨by omega, hnx⟩ (by omega) covZ selZ
  have hie : i = c.length := by omega
  subst hie
  rw [List.take_length] at hI
  rw [hI]
  refine jk_seq ?_
  refine jk_seq ?_
  refine jk_region ?_
  refine zq_move ?_
  refine zq_move ?_
  refine zq_len ?_
  refine zq_ltF ?_
  refine jk_nil ?_
  refine jk_if_f rfl ?_
  refine jk_exit rfl ?_
  refine jk_seq ?_
  refine jk_region ?_
  refine zq_assign ?_
  refine jk_nil ?_
  exact jk_ret_any (res1 rfl rfl) (by (repeat (first | exact rs_nil | (refine rs_cons ?_ ?_; (focus ((repeat (first | exact .here | apply Mem.there | apply Take.there)); first | done | fail))) | exact fun ρ hρ => hρ | (intro ρ hρ; repeat (first | exact hρ | refine List.mem_cons_of_mem _ ?_)))); first | done | fail) selZ ⟨rfl, rfl⟩
set_option maxHeartbeats 16000000 in
theorem great55_spec (pq pc pb ph q : Option Addr) (kq kc kb kh kl nq nc nb nh n : Nat) (d : Dm) : Ans Tryz.prog (fv 4) [.agg #[.slice pq nq kq, .slice pc nc kc, .slice pb nb kb, .slice ph nh kh], .agg #[int d.s, int d.d, int d.v, int d.r, int d.e], .slice q n kl] [] (fun r => ∃ b, r = .bool b ∧ (b = false → (nq ≤ 6 ∧ nc ≤ 10 ∧ nb ≤ 30 ∧ nh ≤ 30) ∧ n ≤ 60)) := by
  refine spec_in (cap := []) Tryz.func4 rfl rfl Tryz.ntmps4 rfl (by (repeat (first | exact EnvA.nil EnvI.nil | apply EnvA.cons | apply EnvA.nil | exact EnvI.nil | apply EnvI.cons)); first | done | fail) (fun N β => ?_)
  refine jk_seq ?_
  refine jk_region ?_
  refine jk_op (l_boxS rfl) rfl rfl rfl ?_
  rintro _ _ ⟨b1, rfl, rfl⟩
  refine jk_freeze (ρ := sng b1 _) takeZ ?_
  have c : RdN (sng b1 (.cells #[.slice pq nq kq, .slice pc nc kc, .slice pb nb kb, .slice ph nh kh] 29 (0, 0))) b1 0 [.slice pq nq kq, .slice pc nc kc, .slice pb nb kb, .slice ph nh kh] := rdN_sng (vs := [.slice pq nq kq, .slice pc nc kc, .slice pb nb kb, .slice ph nh kh])
  refine jk_op (l_boxS rfl) rfl rfl rfl ?_
  rintro _ _ ⟨b2, rfl, rfl⟩
  refine jk_freeze (ρ := sng b2 _) takeZ ?_
  have cd : RdN (sng b2 (.cells #[int d.s, int d.d, int d.v, int d.r, int d.e] 31 (0, 0))) b2 0 [int d.s, int d.d, int d.v, int d.r, int d.e] := rdN_sng (vs := [int d.s, int d.d, int d.v, int d.r, int d.e])
  have cd0 : rdc (sng b2 (.cells #[int d.s, int d.d, int d.v, int d.r, int d.e] 31 (0, 0))) b2 0 = some (int d.s) := by rw [rdc_sng]; rfl
  have cd1 : rdc (sng b2 (.cells #[int d.s, int d.d, int d.v, int d.r, int d.e] 31 (0, 0))) b2 1 = some (int d.d) := by rw [rdc_sng]; rfl
  have cd2 : rdc (sng b2 (.cells #[int d.s, int d.d, int d.v, int d.r, int d.e] 31 (0, 0))) b2 2 = some (int d.v) := by rw [rdc_sng]; rfl
  have cd3 : rdc (sng b2 (.cells #[int d.s, int d.d, int d.v, int d.r, int d.e] 31 (0, 0))) b2 3 = some (int d.r) := by rw [rdc_sng]; rfl
  have cd4 : rdc (sng b2 (.cells #[int d.s, int d.d, int d.v, int d.r, int d.e] 31 (0, 0))) b2 4 = some (int d.e) := by rw [rdc_sng]; rfl
  refine zq_assign ?_
  refine jk_nil ?_
  refine jk_seq ?_
  refine jk_region ?_
  refine zq_loadS ?_
  refine jk_call (great29_spec pq pc pb ph kq kc kb kh nq nc nb nh) rfl rfl rdZ rfl rfl ?_
  rintro _ rfl
  by_cases h1 : 6 < nq ∨ 10 < nc ∨ 30 < nb ∨ 30 < nh
  · rw [decide_eq_true h1]
    refine zq_move ?_
    refine jk_pass rfl rfl rfl ?_
    refine jk_pass rfl rfl rfl ?_
    refine jk_pass rfl rfl rfl ?_
    refine jk_pass rfl rfl rfl ?_
    refine jk_pass rfl rfl rfl ?_
    refine jk_pass rfl rfl rfl ?_
    refine jk_pass rfl rfl rfl ?_
    refine jk_pass rfl rfl rfl ?_
    refine jk_pass rfl rfl rfl ?_
    refine jk_pass rfl rfl rfl ?_
    refine jk_pass rfl rfl rfl ?_
    refine jk_pass rfl rfl rfl ?_
    refine jk_pass rfl rfl rfl ?_
    refine jk_pass rfl rfl rfl ?_
    refine zq_pick_t ?_
    refine zq_move ?_
    refine jk_pass rfl rfl rfl ?_
    refine jk_pass rfl rfl rfl ?_
    refine jk_pass rfl rfl rfl ?_
    refine zq_pick_t ?_
    refine zq_assign ?_
    refine jk_nil ?_
    exact jk_ret_any (res1 rfl rfl) (by (repeat (first | exact rs_nil | (refine rs_cons ?_ ?_; (focus ((repeat (first | exact .here | apply Mem.there | apply Take.there)); first | done | fail))) | exact fun ρ hρ => hρ | (intro ρ hρ; repeat (first | exact hρ | refine List.mem_cons_of_mem _ ?_)))); first | done | fail) selZ ⟨rfl, true, rfl, fun h => by simp at h⟩
  rw [decide_eq_false h1]
  obtain ⟨w1, hw1⟩ : ∃ w1, w1 = IntKind.i64.wrap (d.r + 30) := ⟨_, rfl⟩
  obtain ⟨w2, hw2⟩ : ∃ w2, w2 = IntKind.i64.wrap (d.r + 100) := ⟨_, rfl⟩
  by_cases h2 : w1 < d.e
  · by_cases h3 : d.e ≤ w2
    · refine zq_move ?_
      refine zq_fld0 ?_
      refine zq_load ?_
      refine zq_fld0 ?_
      refine zq_load ?_
      focus ((refine jk_q (q_addW rfl rfl) rfl rfl rfl ?_; first | rw [← hw1] | rw [← hw2]))
      refine zq_gt ?_
      refine zq_move ?_
      refine zq_fld0 ?_
      refine zq_load ?_
      refine zq_fld0 ?_
      refine zq_load ?_
      focus ((refine jk_q (q_addW rfl rfl) rfl rfl rfl ?_; first | rw [← hw1] | rw [← hw2]))
      refine zq_le ?_
      refine zq_pick_t ?_
      refine zq_pick_f ?_
      refine zq_move ?_
      refine jk_pass rfl rfl rfl ?_
      refine jk_pass rfl rfl rfl ?_
      refine jk_pass rfl rfl rfl ?_
      refine zq_pick_t ?_
      refine zq_assign ?_
      refine jk_nil ?_
      exact jk_ret_any (res1 rfl rfl) (by (repeat (first | exact rs_nil | (refine rs_cons ?_ ?_; (focus ((repeat (first | exact .here | apply Mem.there | apply Take.there)); first | done | fail))) | exact fun ρ hρ => hρ | (intro ρ hρ; repeat (first | exact hρ | refine List.mem_cons_of_mem _ ?_)))); first | done | fail) selZ ⟨rfl, true, rfl, fun h => by simp at h⟩
    · by_cases h4 : 60 < n
      · refine zq_move ?_
        refine zq_fld0 ?_
        refine zq_load ?_
        refine zq_fld0 ?_
        refine zq_load ?_
        focus ((refine jk_q (q_addW rfl rfl) rfl rfl rfl ?_; first | rw [← hw1] | rw [← hw2]))
        refine zq_gt ?_
        refine zq_move ?_
        refine zq_fld0 ?_
        refine zq_load ?_
        refine zq_fld0 ?_
        refine zq_load ?_
        focus ((refine jk_q (q_addW rfl rfl) rfl rfl rfl ?_; first | rw [← hw1] | rw [← hw2]))
        refine zq_leF ?_
        refine zq_pick_t ?_
        refine zq_pick_f ?_
        refine zq_move ?_
        refine zq_move ?_
        refine zq_len ?_
        refine zq_gt ?_
        refine zq_pick_f ?_
        refine zq_assign ?_
        refine jk_nil ?_
        exact jk_ret_any (res1 rfl rfl) (by (repeat (first | exact rs_nil | (refine rs_cons ?_ ?_; (focus ((repeat (first | exact .here | apply Mem.there | apply Take.there)); first | done | fail))) | exact fun ρ hρ => hρ | (intro ρ hρ; repeat (first | exact hρ | refine List.mem_cons_of_mem _ ?_)))); first | done | fail) selZ ⟨rfl, true, rfl, fun h => by simp at h⟩
      · refine zq_move ?_
        refine zq_fld0 ?_
        refine zq_load ?_
        refine zq_fld0 ?_
        refine zq_load ?_
        focus ((refine jk_q (q_addW rfl rfl) rfl rfl rfl ?_; first | rw [← hw1] | rw [← hw2]))
        refine zq_gt ?_
        refine zq_move ?_
        refine zq_fld0 ?_
        refine zq_load ?_
        refine zq_fld0 ?_
        refine zq_load ?_
        focus ((refine jk_q (q_addW rfl rfl) rfl rfl rfl ?_; first | rw [← hw1] | rw [← hw2]))
        refine zq_leF ?_
        refine zq_pick_t ?_
        refine zq_pick_f ?_
        refine zq_move ?_
        refine zq_move ?_
        refine zq_len ?_
        refine zq_gtF ?_
        refine zq_pick_f ?_
        refine zq_assign ?_
        refine jk_nil ?_
        exact jk_ret_any (res1 rfl rfl) (by (repeat (first | exact rs_nil | (refine rs_cons ?_ ?_; (focus ((repeat (first | exact .here | apply Mem.there | apply Take.there)); first | done | fail))) | exact fun ρ hρ => hρ | (intro ρ hρ; repeat (first | exact hρ | refine List.mem_cons_of_mem _ ?_)))); first | done | fail) selZ ⟨rfl, false, rfl, fun _ => by omega⟩
  · by_cases h4 : 60 < n
    · refine zq_move ?_
      refine zq_fld0 ?_
      refine zq_load ?_
      refine zq_fld0 ?_
      refine zq_load ?_
      focus ((refine jk_q (q_addW rfl rfl) rfl rfl rfl ?_; first | rw [← hw1] | rw [← hw2]))
      refine zq_gtF ?_
      refine zq_move ?_
      refine jk_pass rfl rfl rfl ?_
      refine jk_pass rfl rfl rfl ?_
      refine jk_pass rfl rfl rfl ?_
      refine jk_pass rfl rfl rfl ?_
      refine jk_pass rfl rfl rfl ?_
      refine jk_pass rfl rfl rfl ?_
      refine zq_pick_f ?_
      refine zq_pick_f ?_
      refine zq_move ?_
      refine zq_move ?_
      refine zq_len ?_
      refine zq_gt ?_
      refine zq_pick_f ?_
      refine zq_assign ?_
      refine jk_nil ?_
      exact jk_ret_any (res1 rfl rfl) (by (repeat (first | exact rs_nil | (refine rs_cons ?_ ?_; (focus ((repeat (first | exact .here | apply Mem.there | apply Take.there)); first | done | fail))) | exact fun ρ hρ => hρ | (intro ρ hρ; repeat (first | exact hρ | refine List.mem_cons_of_mem _ ?_)))); first | done | fail) selZ ⟨rfl, true, rfl, fun h => by simp at h⟩
    · refine zq_move ?_
      refine zq_fld0 ?_
      refine zq_load ?_
      refine zq_fld0 ?_
      refine zq_load ?_
      focus ((refine jk_q (q_addW rfl rfl) rfl rfl rfl ?_; first | rw [← hw1] | rw [← hw2]))
      refine zq_gtF ?_
      refine zq_move ?_
      refine jk_pass rfl rfl rfl ?_
      refine jk_pass rfl rfl rfl ?_
      refine jk_pass rfl rfl rfl ?_
      refine jk_pass rfl rfl rfl ?_
      refine jk_pass rfl rfl rfl ?_
      refine jk_pass rfl rfl rfl ?_
      refine zq_pick_f ?_
      refine zq_pick_f ?_
      refine zq_move ?_
      refine zq_move ?_
      refine zq_len ?_
      refine zq_gtF ?_
      refine zq_pick_f ?_
      refine zq_assign ?_
      refine jk_nil ?_
      exact jk_ret_any (res1 rfl rfl) (by (repeat (first | exact rs_nil | (refine rs_cons ?_ ?_; (focus ((repeat (first | exact .here | apply Mem.there | apply Take.there)); first | done | fail))) | exact fun ρ hρ => hρ | (intro ρ hρ; repeat (first | exact hρ | refine List.mem_cons_of_mem _ ?_)))); first | done | fail) selZ ⟨rfl, false, rfl, fun _ => by omega⟩
end Go.Proofs.YtjbebmealbnmgaaGreat
/- Building structs whose fields are structs. No conditions. -/
namespace Go.Eng
variable {C : Cx} {R H : List PH} {L : Env}
def placesP (P : Program) : List Field → Option (List (Nat × Nat))
  | [] => some []
  | f :: fs => match szP P f.type, placesP P fs with
    | some n, some r => some ((f.offset, n) :: r)
    | _, _ => none
def evalPs (L : Env) : List (Nat × Operand) → Option (List (Nat × Value))
  | [] => some []
  | (i, x) :: ps => match evalE L x, evalPs L ps with
    | some v, some r => some ((i, v) :: r)
    | _, _ => none
def fillL (pl : List (Nat × Nat)) : List Value → List (Nat × Value) → Option (List Value)
  | zs, [] => some zs
  | zs, (i, v) :: r => match pl[i]? with
    | none => none
    | some (off, size) => if v.cells.size = size ∧ off + size ≤ zs.length then fillL pl (zs.take off ++ (v.cells.toList ++ zs.drop (off + size))) r else none
theorem fillL_eq {pl : List (Nat × Nat)} : ∀ {pvs : List (Nat × Value)} {zs out : List Value}, fillL pl zs pvs = some out → Instr.fill (fun i => pl[i]?) zs.toArray pvs = some out.toArray
  | [], zs, out, h => by simp [fillL] at h; subst h; rfl
  | (i, v) :: r, zs, out, h => by
    unfold fillL at h
    unfold Instr.fill

    split at h
    · simp at h
    · rename_i off size e
      rw [e]
      split at h
      · rename_i hc
        have ih := fillL_eq h
        have hs := splice_fold v.cells.toList 0 off zs.toArray (by simp; omega)
        simp only
        rw [if_neg (by simp; omega)]
        rw [← ih]
        congr 1
        apply Array.ext'
        simpa [← Array.toList_zipIdx, ← hc.1] using hs
      · simp at h
theorem evalPs_eq {a : Act} : ∀ {ps : List (Nat × Operand)} {pvs : List (Nat × Value)}, evalPs L ps = some pvs → (∀ x ∈ ps.map (·.2), OnE L a x) → ps.map (fun (x : Nat × Operand) => (x.1, a.eval x.2)) = pvs
  | [], pvs, h, _ => by simp [evalPs] at h; subst h; rfl
  | (i, x) :: ps, pvs, h, hx => by
    unfold evalPs at h
    split at h
    · rename_i v r e1 e2
      simp at h; subst h
      rw [List.map_cons, evalPs_eq e2 (fun y hy => hx y (by simp at hy ⊢; exact .inr hy)), hx x (by simp) v e1]
    · simp at h
theorem placesP_run {P : Program} : ∀ (fs : List Field) (pl : List (Nat × Nat)) (w : World), placesP P fs = some pl → (fs.mapM (fun f => Prod.mk f.offset <$> sizeOf f.type : Field → Sem (Nat × Nat))).run P w = .ok pl w
  | [], pl, w, h => by simp [placesP] at h; subst h; simp
  | f :: fs, pl, w, h => by
    unfold placesP at h
    split at h
    · rename_i n r e1 e2
      simp at h; subst h
      simp [List.mapM_cons, run_sizeOf e1, placesP_run fs r w e2]
    · simp at h
theorem q_buildN {dst : Option Tmp} {ty : TypeId} {pos : String} {aft : Array Edge} {g : Option (Nat × Bool)} {t : TypeId} {ps : List (Nat × Operand)} {fs : List Field} {pl : List (Nat × Nat)} {pvs : List (Nat × Value)} {zs out : List Value}
    (hu : C.P.underlying t = some (.struct fs.toArray)) (hz : zeroP C.P t = some (.agg zs.toArray)) (hpl : placesP C.P fs = some pl) (hv : evalPs L ps = some pvs) (ho : fillL pl zs pvs = some out) :
    Quiet C R H L ⟨dst, .build t ps.toArray, ty, pos, aft, g⟩ (.agg out.toArray) :=
  ⟨by intro c; simp, fun a w hxx _ => by
    have h1 := evalPs_eq (a := a) hv (fun x hx => hxx x (by simp [Op.operands] at hx ⊢; exact hx))
    have h2 := placesP_run fs pl w hpl
    have h3 := fillL_eq ho
    simp only [execOp, Instr.build]

    simp [run_zeroValue hz, Value.cells, run_underlying hu, h1, h2, h3]⟩
end Go.Eng
/- The example; the laws on flows and answers. -/
namespace Go.Proofs.YtjbebmealbnmgaaGreat
open Go.Eng Go.Step
set_option maxRecDepth 100000
set_option maxHeartbeats 4000000

def exQ : List Int := [9, 9]
def exC : List Ct := [⟨0, 1, 0, 10, 4, 2, 0⟩]
def exD : Dm := ⟨0, 1, 13, 0, 5⟩
def exL : List Sh := [⟨0, 0, 4⟩, ⟨0, 1, 4⟩, ⟨0, 2, 4⟩]
def exK : Cu := [[(0, 6)], []]
theorem ex_flow : flowR exQ exC [] [] exD exL = (12, 0) := by decide +kernel
theorem ex_cap : capR exQ exC [] [] exD exK = (12, 0) := by decide +kernel
theorem ex_chk : checkR exQ exC [] [] exD false 12 [] exK = 0 := by decide +kernel
theorem example_spec : Eng.Spec Tryz.prog (fv 15) [] [] [] (fun r H' => ∃ bq bc, r = .tuple #[.agg #[.slice (some ⟨bq, 0, none⟩) 2 2, .slice (some ⟨bc, 0, none⟩) 1 1, .slice none 0 0, .slice none 0 0], .agg #[int 0, int 1, int 13, int 0, int 5]] ∧ H' = [sng bq (.cells #[int 9, int 9] 3 (0, 0)), sng bc (.cells #[int 0, int 1, int 0, int 10, int 4, int 2, int 0] 63 (0, 0))]) := by
  refine spec_in (cap := []) Tryz.func15 rfl rfl Tryz.ntmps15 rfl (by (repeat (first | exact EnvA.nil EnvI.nil | apply EnvA.cons | apply EnvA.nil | exact EnvI.nil | apply EnvI.cons)); first | done | fail) (fun N β => ?_)
  refine jk_seq ?_
  refine jk_region ?_
  refine zl_allocS ?_; rintro _ _ ⟨b, rfl, rfl⟩
  refine zl_allocS ?_; rintro _ _ ⟨b, rfl, rfl⟩
  refine jk_nil ?_
  refine jk_seq ?_
  refine jk_region ?_
  refine zl_buildSlice ?_; rintro _ _ ⟨b, rfl, rfl⟩
  refine zq_build ?_
  focus ((refine' jk_op _ rfl rfl rfl _; rotate_left; (focus (apply l_buildSlice; exact rfl; exact rfl; exact rfl; exact rfl; exact rfl; exact (by (repeat (first | exact (fun v hv => absurd hv List.not_mem_nil) | (refine List.forall_mem_cons.2 ⟨?_, ?_⟩; (focus (first | exact rfl | assumption))))); first | done | fail); exact Flat.agg7 Flat.nil; exact rfl)); rintro _ _ ⟨b, rfl, rfl⟩))
  refine zq_build ?_
  refine zl_allocS ?_; rintro _ _ ⟨b, rfl, rfl⟩
  refine zs_storeS ?_; rintro _ _ ⟨rfl, rfl⟩
  refine jk_nil ?_
  refine jk_seq ?_
  refine jk_region ?_
  refine zq_loadS ?_
  revert b; intro bp
  revert b; intro bc
  revert b; intro bq
  revert b; intro bd
  revert b; intro bt
  refine jk_q (q_buildN (out := [.slice (some ⟨bq, 0, none⟩) 2 2, .slice (some ⟨bc, 0, none⟩) 1 1, .slice none 0 0, .slice none 0 0]) rfl rfl rfl rfl rfl) rfl rfl rfl ?_
  refine zq_build ?_
  refine zs_storeS ?_; rintro _ _ ⟨rfl, rfl⟩
  refine zs_storeS ?_; rintro _ _ ⟨rfl, rfl⟩
  refine jk_nil ?_
  exact jk_ret_any (resS2 (b1 := bt) (b2 := bd) (T := 29) (U := 31) (v1 := [.slice (some ⟨bq, 0, none⟩) 2 2, .slice (some ⟨bc, 0, none⟩) 1 1, .slice none 0 0, .slice none 0 0]) (v2 := [int 0, int 1, int 13, int 0, int 5]) rfl rfl rfl rfl rfl rfl rfl (cells_own memZ) (cells_own memZ)) (by (repeat (first | exact rs_nil | (refine rs_cons ?_ ?_; (focus ((repeat (first | exact .here | apply Mem.there | apply Take.there)); first | done | fail))) | exact fun ρ hρ => hρ | (intro ρ hρ; repeat (first | exact hρ | refine List.mem_cons_of_mem _ ?_)))); first | done | fail) selZ ⟨bq, bc, rfl, rfl⟩
set_option maxHeartbeats 16000000 in
theorem awake55_spec : Ans Tryz.prog (fv 6) [] [] (fun r => r = .bool true) := by
  refine spec_in (cap := []) Tryz.func6 rfl rfl Tryz.ntmps6 rfl (by (repeat (first | exact EnvA.nil EnvI.nil | apply EnvA.cons | apply EnvA.nil | exact EnvI.nil | apply EnvI.cons)); first | done | fail) (fun N β => ?_)
  refine jk_emp ?_
  refine jk_seq ?_
  refine jk_region ?_
  refine zq_assign ?_
  refine jk_nil ?_
  refine jk_seq ?_
  refine jk_region ?_
  refine jk_callH example_spec rfl rfl Takes.nil rdZ rfl rfl ?_
  rintro _ _ ⟨bq, bc, rfl, rfl⟩
  refine zq_move ?_
  refine zq_extract ?_
  refine zq_extract ?_
  refine zl_allocS ?_; rintro _ _ ⟨b, rfl, rfl⟩
  refine zl_allocS ?_; rintro _ _ ⟨b, rfl, rfl⟩
  refine zs_storeS ?_; rintro _ _ ⟨rfl, rfl⟩
  refine zs_storeS ?_; rintro _ _ ⟨rfl, rfl⟩
  refine jk_nil ?_
  refine jk_seq ?_
  refine jk_region ?_
  refine zq_loadS ?_
  refine zq_loadS ?_
  refine zq_build ?_
  refine zq_build ?_
  refine zq_build ?_
  refine zl_buildSlice ?_; rintro _ _ ⟨b, rfl, rfl⟩
  revert b; intro bs
  revert b; intro bd
  revert b; intro bt
  have hT : TbAt (sng bq (.cells #[int 9, int 9] 3 (0, 0))) (sng bc (.cells #[int 0, int 1, int 0, int 10, int 4, int 2, int 0] 63 (0, 0))) emp emp (some ⟨bq, 0, none⟩) (some ⟨bc, 0, none⟩) none none 2 1 0 0 exQ exC [] [] :=
    ⟨slE_sng (l := exQ) Eng.encI_len, slE_sng (l := exC) encC_len, by decide, by decide, by decide, ⟨rfl, .inl ⟨rfl, none, 0, rfl⟩⟩, by decide, ⟨rfl, .inl ⟨rfl, none, 0, rfl⟩⟩, by decide⟩
  have hv : ShAt (sng bs (.cells #[int 0, int 0, int 4, int 0, int 1, int 4, int 0, int 2, int 4] 51 (0, 0))) (.slice (some ⟨bs, 0, none⟩) 3 3) exL := slE_sng (l := exL) encX_len
  have h1 := certFlow_spec _ hT exD _ exL hv (by decide)
  rw [ex_flow] at h1
  refine jk_call h1 rfl rfl rdZ rfl rfl ?_
  rintro _ rfl
  refine zq_move ?_
  refine zq_extract ?_
  refine zq_extract ?_
  refine zq_assign ?_
  refine zq_assign ?_
  refine jk_nil ?_
  refine jk_seq ?_
  refine jk_region ?_
  refine zq_loadS ?_
  refine zq_loadS ?_
  refine zq_build ?_
  refine zl_buildSlice ?_; rintro _ _ ⟨b, rfl, rfl⟩
  refine zl_buildSlice ?_; rintro _ _ ⟨b, rfl, rfl⟩
  revert b; intro bk
  revert b; intro bx
  have hc : CutRow (sng bk (.cells #[.slice (some ⟨bx, 0, none⟩) 1 1, .slice none 0 0] 46 (0, 0))) (sng bx (.cells #[int 0, int 6] 53 (0, 0))) (some ⟨bk, 0, none⟩) exK := fun i l hl => by
    match i, hl with
    | 0, hl =>
      obtain rfl : [(0, 6)] = l := by simpa [exK] using hl
      exact ⟨bk, 0, some ⟨bx, 0, none⟩, 1, rfl, by rw [rdc_sng]; rfl, slE_sng (l := [((0 : Int), (6 : Int))]) encS_len, by decide⟩
    | 1, hl =>
      obtain rfl : [] = l := by simpa [exK] using hl
      exact ⟨bk, 0, none, 0, rfl, by rw [rdc_sng]; rfl, ⟨rfl, .inl ⟨rfl, none, 0, rfl⟩⟩, by decide⟩
    | i + 2, hl => simp [exK] at hl
  have h2 := certCap_spec hT _ _ exD _ 2 exK hc (by decide)
  rw [ex_cap] at h2
  refine jk_call h2 rfl rfl rdZ rfl rfl ?_
  rintro _ rfl
  refine zq_move ?_
  refine zq_extract ?_
  refine zq_extract ?_
  refine zq_assign ?_
  refine zq_assign ?_
  refine jk_nil ?_
  refine jk_seq ?_
  refine jk_region ?_
  refine zq_loadS ?_
  refine zq_loadS ?_
  refine zq_build ?_
  refine zl_buildSlice ?_; rintro _ _ ⟨b, rfl, rfl⟩
  refine zl_buildSlice ?_; rintro _ _ ⟨b, rfl, rfl⟩
  refine zq_build ?_
  revert b; intro bk2
  revert b; intro bx2
  have hc2 : CutRow (sng bk2 (.cells #[.slice (some ⟨bx2, 0, none⟩) 1 1, .slice none 0 0] 46 (0, 0))) (sng bx2 (.cells #[int 0, int 6] 53 (0, 0))) (some ⟨bk2, 0, none⟩) exK := fun i l hl => by
    match i, hl with
    | 0, hl =>
      obtain rfl : [(0, 6)] = l := by simpa [exK] using hl
      exact ⟨bk2, 0, some ⟨bx2, 0, none⟩, 1, rfl, by rw [rdc_sng]; rfl, slE_sng (l := [((0 : Int), (6 : Int))]) encS_len, by decide⟩
    | 1, hl =>
      obtain rfl : [] = l := by simpa [exK] using hl
      exact ⟨bk2, 0, none, 0, rfl, by rw [rdc_sng]; rfl, ⟨rfl, .inl ⟨rfl, none, 0, rfl⟩⟩, by decide⟩
    | i + 2, hl => simp [exK] at hl
  have hv0 : ShAt emp (.slice none 0 0) [] := ⟨rfl, .inl ⟨rfl, none, 0, rfl⟩⟩
  have h3 := certChk_spec emp hT _ _ exD false 12 none 0 [] hv0 (by decide) _ 2 exK hc2 (by decide)
  rw [ex_chk] at h3
  refine jk_call h3 rfl rfl rdZ rfl rfl ?_
  rintro _ rfl
  refine zq_assign ?_
  refine jk_nil ?_
  refine jk_seq ?_
  refine jk_region ?_
  refine zq_move ?_
  refine zq_eq ?_
  refine zq_move ?_
  refine zq_move ?_
  refine zq_eq ?_
  refine zq_pick_t ?_
  refine zq_move ?_
  refine zq_move ?_
  refine zq_eq ?_
  refine zq_pick_t ?_
  refine zq_move ?_
  refine zq_move ?_
  refine zq_eq ?_
  refine zq_pick_t ?_
  refine zq_move ?_
  refine zq_move ?_
  refine zq_eq ?_
  refine zq_pick_t ?_
  refine zq_assign ?_
  refine jk_nil ?_
  exact jk_ret_any (res1 rfl rfl) (by (repeat (first | exact rs_nil | (refine rs_cons ?_ ?_; (focus ((repeat (first | exact .here | apply Mem.there | apply Take.there)); first | done | fail))) | exact fun ρ hρ => hρ | (intro ρ hρ; repeat (first | exact hρ | refine List.mem_cons_of_mem _ ?_)))); first | done | fail) selZ ⟨rfl, rfl⟩
end Go.Proofs.YtjbebmealbnmgaaGreat
/- The law on cuts. -/
namespace Go.Proofs.YtjbebmealbnmgaaGreat
open Go.Eng Go.Step
set_option maxRecDepth 100000
set_option maxHeartbeats 4000000

set_option maxHeartbeats 16000000 in
theorem cut_law {ρ τ σ υ : PH} {pq pc pb ph : Option Addr} {kq kc kb kh : Nat} {qs : List Int} {cs : List Ct} {bs : List Bk} {hs : List Hd} (hT : TbAt ρ τ σ υ pq pc pb ph kq kc kb kh qs cs bs hs) (γ κ γ' κ' : PH) (d : Dm) (p p' : Option Addr) (kk kk' : Nat) (a b : Cu) (hc : CutRow γ κ p a) (hc' : CutRow γ' κ' p' b) (lla : a.length ≤ 9223372036854775807) (llb : b.length ≤ 9223372036854775807) :
    Ans Tryz.prog (fv 3) [.agg #[.slice pq qs.length kq, .slice pc cs.length kc, .slice pb bs.length kb, .slice ph hs.length kh], .agg #[int d.s, int d.d, int d.v, int d.r, int d.e], .slice p a.length kk, .slice p' b.length kk'] [ρ, τ, σ, υ, γ, κ, γ', κ'] (fun r => r = .bool true) := by
  obtain ⟨La, ea, nla, hca⟩ := hc.cutL kk
  obtain ⟨Lb, eb, nlb, hcb⟩ := hc'.cutL kk'
  refine spec_in (cap := []) Tryz.func3 rfl rfl Tryz.ntmps3 rfl (by (repeat (first | exact EnvA.nil EnvI.nil | apply EnvA.cons | apply EnvA.nil | exact EnvI.nil | apply EnvI.cons)); first | done | fail) (fun N β => ?_)
  refine jk_seq ?_
  refine jk_region ?_
  refine jk_op (l_boxS rfl) rfl rfl rfl ?_
  rintro _ _ ⟨b1, rfl, rfl⟩
  refine jk_freeze (ρ := sng b1 _) takeZ ?_
  have ct : RdN (sng b1 (.cells #[.slice pq qs.length kq, .slice pc cs.length kc, .slice pb bs.length kb, .slice ph hs.length kh] 29 (0, 0))) b1 0 [.slice pq qs.length kq, .slice pc cs.length kc, .slice pb bs.length kb, .slice ph hs.length kh] := rdN_sng (vs := [.slice pq qs.length kq, .slice pc cs.length kc, .slice pb bs.length kb, .slice ph hs.length kh])
  have ct0 : rdc (sng b1 (.cells #[.slice pq qs.length kq, .slice pc cs.length kc, .slice pb bs.length kb, .slice ph hs.length kh] 29 (0, 0))) b1 0 = some (.slice pq qs.length kq) := by rw [rdc_sng]; rfl
  have ct1 : rdc (sng b1 (.cells #[.slice pq qs.length kq, .slice pc cs.length kc, .slice pb bs.length kb, .slice ph hs.length kh] 29 (0, 0))) b1 1 = some (.slice pc cs.length kc) := by rw [rdc_sng]; rfl
  have ct2 : rdc (sng b1 (.cells #[.slice pq qs.length kq, .slice pc cs.length kc, .slice pb bs.length kb, .slice ph hs.length kh] 29 (0, 0))) b1 2 = some (.slice pb bs.length kb) := by rw [rdc_sng]; rfl
  have ct3 : rdc (sng b1 (.cells #[.slice pq qs.length kq, .slice pc cs.length kc, .slice pb bs.length kb, .slice ph hs.length kh] 29 (0, 0))) b1 3 = some (.slice ph hs.length kh) := by rw [rdc_sng]; rfl
  have ctp : RdP (sng b1 (.cells #[.slice pq qs.length kq, .slice pc cs.length kc, .slice pb bs.length kb, .slice ph hs.length kh] 29 (0, 0))) b1 0 [.slice pq qs.length kq, .slice pc cs.length kc] := rdP_sng (xs := [.slice pq qs.length kq, .slice pc cs.length kc, .slice pb bs.length kb, .slice ph hs.length kh]) rfl
  refine jk_op (l_boxS rfl) rfl rfl rfl ?_
  rintro _ _ ⟨b2, rfl, rfl⟩
  refine jk_freeze (ρ := sng b2 _) takeZ ?_
  have cd : RdN (sng b2 (.cells #[int d.s, int d.d, int d.v, int d.r, int d.e] 31 (0, 0))) b2 0 [int d.s, int d.d, int d.v, int d.r, int d.e] := rdN_sng (vs := [int d.s, int d.d, int d.v, int d.r, int d.e])
  have cd0 : rdc (sng b2 (.cells #[int d.s, int d.d, int d.v, int d.r, int d.e] 31 (0, 0))) b2 0 = some (int d.s) := by rw [rdc_sng]; rfl
  have cd1 : rdc (sng b2 (.cells #[int d.s, int d.d, int d.v, int d.r, int d.e] 31 (0, 0))) b2 1 = some (int d.d) := by rw [rdc_sng]; rfl
  have cd2 : rdc (sng b2 (.cells #[int d.s, int d.d, int d.v, int d.r, int d.e] 31 (0, 0))) b2 2 = some (int d.v) := by rw [rdc_sng]; rfl
  have cd3 : rdc (sng b2 (.cells #[int d.s, int d.d, int d.v, int d.r, int d.e] 31 (0, 0))) b2 3 = some (int d.r) := by rw [rdc_sng]; rfl
  have cd4 : rdc (sng b2 (.cells #[int d.s, int d.d, int d.v, int d.r, int d.e] 31 (0, 0))) b2 4 = some (int d.e) := by rw [rdc_sng]; rfl
  refine zq_assign ?_
  refine jk_nil ?_
  refine jk_seq ?_
  refine jk_seq ?_
  refine jk_region ?_
  refine zq_loadS ?_
  refine zq_loadS ?_
  refine jk_call (great55_spec pq pc pb ph none kq kc kb kh 0 qs.length cs.length bs.length hs.length 0 d) rfl rfl rdZ rfl rfl ?_
  rintro _ ⟨g, rfl, hg⟩
  cases g with
  | true =>
    refine zq_move ?_
    refine jk_pass rfl rfl rfl ?_
    refine jk_pass rfl rfl rfl ?_
    refine zq_pick_t ?_
    refine zq_move ?_
    refine jk_pass rfl rfl rfl ?_
    refine jk_pass rfl rfl rfl ?_
    refine zq_pick_t ?_
    refine jk_nil ?_
    refine jk_if_t rfl ?_
    refine jk_seq ?_
    refine jk_region ?_
    focus ((refine jk_call awake55_spec rfl rfl rdZ rfl rfl ?_; rintro _ rfl))
    refine zq_assign ?_
    refine jk_nil ?_
    exact jk_ret_any (res1 rfl rfl) (by (repeat (first | exact rs_nil | (refine rs_cons ?_ ?_; (focus ((repeat (first | exact .here | apply Mem.there | apply Take.there)); first | done | fail))) | exact fun ρ hρ => hρ | (intro ρ hρ; repeat (first | exact hρ | refine List.mem_cons_of_mem _ ?_)))); first | done | fail) selZ ⟨rfl, rfl⟩
  | false =>
  refine zq_move ?_
  refine zq_move ?_
  refine jk_call (refGreatC_spec γ κ p kk a hc lla) rfl rfl rdZ rfl rfl ?_
  rintro _ rfl
  cases hga : greatC a with
  | true =>
    refine zq_pick_f ?_
    refine zq_move ?_
    refine jk_pass rfl rfl rfl ?_
    refine jk_pass rfl rfl rfl ?_
    refine zq_pick_t ?_
    refine jk_nil ?_
    refine jk_if_t rfl ?_
    refine jk_seq ?_
    refine jk_region ?_
    focus ((refine jk_call awake55_spec rfl rfl rdZ rfl rfl ?_; rintro _ rfl))
    refine zq_assign ?_
    refine jk_nil ?_
    exact jk_ret_any (res1 rfl rfl) (by (repeat (first | exact rs_nil | (refine rs_cons ?_ ?_; (focus ((repeat (first | exact .here | apply Mem.there | apply Take.there)); first | done | fail))) | exact fun ρ hρ => hρ | (intro ρ hρ; repeat (first | exact hρ | refine List.mem_cons_of_mem _ ?_)))); first | done | fail) selZ ⟨rfl, rfl⟩
  | false =>
  refine zq_pick_f ?_
  refine zq_move ?_
  refine zq_move ?_
  refine jk_call (refGreatC_spec γ' κ' p' kk' b hc' llb) rfl rfl rdZ rfl rfl ?_
  rintro _ rfl
  cases hgb : greatC b with
  | true =>
    refine zq_pick_f ?_
    refine jk_nil ?_
    refine jk_if_t rfl ?_
    refine jk_seq ?_
    refine jk_region ?_
    focus ((refine jk_call awake55_spec rfl rfl rdZ rfl rfl ?_; rintro _ rfl))
    refine zq_assign ?_
    refine jk_nil ?_
    exact jk_ret_any (res1 rfl rfl) (by (repeat (first | exact rs_nil | (refine rs_cons ?_ ?_; (focus ((repeat (first | exact .here | apply Mem.there | apply Take.there)); first | done | fail))) | exact fun ρ hρ => hρ | (intro ρ hρ; repeat (first | exact hρ | refine List.mem_cons_of_mem _ ?_)))); first | done | fail) selZ ⟨rfl, rfl⟩
  | false =>
  obtain ⟨na, sa⟩ := greatC_len hga
  obtain ⟨nb, sb⟩ := greatC_len hgb
  refine zq_pick_f ?_
  refine jk_nil ?_
  refine jk_if_f rfl ?_
  refine jk_skip ?_
  refine jk_seq ?_
  refine jk_region ?_
  refine zq_loadS ?_
  refine zq_loadS ?_
  refine zq_move ?_
  refine jk_call (certCap_spec hT γ κ d p kk a hc lla) rfl rfl rdZ rfl rfl ?_
  rintro _ rfl
  refine zq_move ?_
  refine zq_extract ?_
  refine zq_extract ?_
  refine zq_assign ?_
  refine zq_assign ?_
  refine jk_nil ?_
  refine jk_seq ?_
  refine jk_region ?_
  refine zq_loadS ?_
  refine zq_loadS ?_
  refine zq_move ?_
  refine jk_call (refCap_spec hT γ κ d p kk a hc lla) rfl rfl rdZ rfl rfl ?_
  rintro _ rfl
  generalize (capR qs cs bs hs d a).1 = z1
  generalize (capR qs cs bs hs d a).2 = z2
  have hj := join_spec γ κ γ' κ' p p' kk kk' La Lb hca hcb (by omega) (by omega) (fun l h => by have := sa l.2 (by rw [← ea]; exact List.mem_map.2 ⟨l, h, rfl⟩); omega) (fun l h => by have := sb l.2 (by rw [← eb]; exact List.mem_map.2 ⟨l, h, rfl⟩); omega)
  have hrj := refJoin_spec γ κ γ' κ' p p' kk kk' La Lb hca hcb (by omega) (by omega) (fun l h => by have := sa l.2 (by rw [← ea]; exact List.mem_map.2 ⟨l, h, rfl⟩); omega) (fun l h => by have := sb l.2 (by rw [← eb]; exact List.mem_map.2 ⟨l, h, rfl⟩); omega)
  have hm := meet_spec γ κ γ' κ' p p' kk kk' La Lb hca hcb (by omega) (by omega) (fun l h => by have := sa l.2 (by rw [← ea]; exact List.mem_map.2 ⟨l, h, rfl⟩); omega) (fun l h => by have := sb l.2 (by rw [← eb]; exact List.mem_map.2 ⟨l, h, rfl⟩); omega)
  have hrm := refMeet_spec γ κ γ' κ' p p' kk kk' La Lb hca hcb (by omega) (by omega) (fun l h => by have := sa l.2 (by rw [← ea]; exact List.mem_map.2 ⟨l, h, rfl⟩); omega) (fun l h => by have := sb l.2 (by rw [← eb]; exact List.mem_map.2 ⟨l, h, rfl⟩); omega)
  rw [ea, eb, nla, nlb] at hj hrj hm hrm
  refine zq_move ?_
  refine zq_extract ?_
  refine zq_extract ?_
  refine zq_assign ?_
  refine zq_assign ?_
  refine jk_nil ?_
  refine jk_seq ?_
  refine jk_region ?_
  refine zq_move ?_
  refine zq_move ?_
  refine jk_callH hj rfl rfl Takes.nil rdZ rfl rfl ?_
  rintro _ _ ⟨L1, u1, σ1, χ1, rfl, rfl, e1, hO1, hS1⟩
  obtain ⟨p1, k1, rfl⟩ := hO1.form
  have n1 : L1.length ≤ 1000000 := by
    have h := congrArg List.length e1
    rw [List.length_map] at h
    unfold cmbC at h
    split at h
    · rw [List.length_zipWith] at h; omega
    · rw [List.length_nil] at h; omega
  refine zq_move ?_
  refine zq_extract ?_
  refine zq_extract ?_
  refine zq_assign ?_
  refine zq_assign ?_
  refine jk_nil ?_
  refine jk_seq ?_
  refine jk_region ?_
  refine zq_move ?_
  refine zq_move ?_
  refine jk_callH hrj rfl rfl Takes.nil rdZ rfl rfl ?_
  rintro _ _ ⟨L2, u2, σ2, χ2, rfl, rfl, e2, hO2, hS2⟩
  obtain ⟨p2, k2, rfl⟩ := hO2.form
  have n2 : L2.length ≤ 1000000 := by
    have h := congrArg List.length e2
    rw [List.length_map] at h
    unfold cmbC at h
    split at h
    · rw [List.length_zipWith] at h; omega
    · rw [List.length_nil] at h; omega
  refine zq_move ?_
  refine zq_extract ?_
  refine zq_extract ?_
  refine zq_assign ?_
  refine zq_assign ?_
  refine jk_nil ?_
  refine jk_seq ?_
  refine jk_region ?_
  refine zq_move ?_
  refine zq_move ?_
  refine jk_callH hm rfl rfl Takes.nil rdZ rfl rfl ?_
  rintro _ _ ⟨L3, u3, σ3, χ3, rfl, rfl, e3, hO3, hS3⟩
  obtain ⟨p3, k3, rfl⟩ := hO3.form
  have n3 : L3.length ≤ 1000000 := by
    have h := congrArg List.length e3
    rw [List.length_map] at h
    unfold cmbC at h
    split at h
    · rw [List.length_zipWith] at h; omega
    · rw [List.length_nil] at h; omega
  refine zq_move ?_
  refine zq_extract ?_
  refine zq_extract ?_
  refine zq_assign ?_
  refine zq_assign ?_
  refine jk_nil ?_
  refine jk_seq ?_
  refine jk_region ?_
  refine zq_move ?_
  refine zq_move ?_
  refine jk_callH hrm rfl rfl Takes.nil rdZ rfl rfl ?_
  rintro _ _ ⟨L4, u4, σ4, χ4, rfl, rfl, e4, hO4, hS4⟩
  obtain ⟨p4, k4, rfl⟩ := hO4.form
  have n4 : L4.length ≤ 1000000 := by
    have h := congrArg List.length e4
    rw [List.length_map] at h
    unfold cmbC at h
    split at h
    · rw [List.length_zipWith] at h; omega
    · rw [List.length_nil] at h; omega
  generalize cmbE a b = z3
  have s1 := refSameCut_spec σ1 χ1 σ2 χ2 p1 p2 k1 k2 L1 L2 ⟨hO1.at, hS1⟩ ⟨hO2.at, hS2⟩ (by rw [e1, e2]) n1
  have s2 := refSameCut_spec σ3 χ3 σ4 χ4 p3 p4 k3 k4 L3 L4 ⟨hO3.at, hS3⟩ ⟨hO4.at, hS4⟩ (by rw [e3, e4]) n3
  refine zq_move ?_
  refine zq_extract ?_
  refine zq_extract ?_
  refine zq_assign ?_
  refine zq_assign ?_
  refine jk_nil ?_
  refine jk_seq ?_
  refine jk_region ?_
  refine zq_move ?_
  refine zq_move ?_
  refine zq_eq ?_
  refine zq_move ?_
  refine zq_move ?_
  refine zq_move ?_
  refine zq_eq ?_
  refine zq_pick_t ?_
  refine zq_move ?_
  refine zq_move ?_
  refine zq_move ?_
  focus ((refine jk_call s1 rfl rfl rdZ rfl rfl ?_; rintro _ rfl))
  refine zq_pick_t ?_
  refine zq_move ?_
  refine zq_move ?_
  refine zq_move ?_
  refine zq_eq ?_
  refine zq_pick_t ?_
  refine zq_move ?_
  refine zq_move ?_
  refine zq_move ?_
  focus ((refine jk_call s2 rfl rfl rdZ rfl rfl ?_; rintro _ rfl))
  refine zq_pick_t ?_
  refine zq_move ?_
  refine zq_move ?_
  refine zq_move ?_
  refine zq_eq ?_
  refine zq_pick_t ?_
  refine zq_move ?_
  focus ((refine jk_call awake55_spec rfl rfl rdZ rfl rfl ?_; rintro _ rfl))
  refine zq_pick_t ?_
  refine zq_assign ?_
  refine jk_nil ?_
  exact jk_ret_any (res1 rfl rfl) (by (repeat (first | exact rs_nil | (refine rs_cons ?_ ?_; (focus ((repeat (first | exact .here | apply Mem.there | apply Take.there)); first | done | fail))) | exact fun ρ hρ => hρ | (intro ρ hρ; repeat (first | exact hρ | refine List.mem_cons_of_mem _ ?_)))); first | done | fail) selZ ⟨rfl, rfl⟩
end Go.Proofs.YtjbebmealbnmgaaGreat
/- The rows: each law, for every input. -/
namespace Go.Proofs.YtjbebmealbnmgaaGreat
open Go.Eng Go.Step
set_option maxRecDepth 100000
set_option maxHeartbeats 4000000
open Go.ChangeShapes Go.WideShapes Go.ChangeAt Go.RowKit

set_option maxRecDepth 100000 in
theorem certificateCut_lifted (os : Os) (started : os.Started) (H : Type) (enc : TypeId × Value → H) :
    ReturnsInHanded {} Tryz.checked os 3 .any (Rows.certificateCutSpec.pre6 enc Tryz.prog Tryz.f3 Rows.certificateCutRow.domain false) (Rows.certificateCutSpec.post enc Tryz.prog Tryz.f3 false true false false) := by
  refine returnsInHanded_of_change (C := Tryz.checked) Tryz.own started (by kernel_rfl) Tryz.func3
    (ChangeSpec.witness6 (enc := enc) (C := Tryz.checked) false ⟨#[], #[.agg #[.slice none 0 0, .slice none 0 0, .slice none 0 0, .slice none 0 0], .agg #[.int .i64 0, .int .i64 0, .int .i64 0, .int .i64 0, .int .i64 0], .slice none 0 0, .slice none 0 0], []⟩ 8 (by kernel_rfl) (by kernel_rfl) (by kernel_rfl) (by kernel_rfl)) ?_
  intro W base args ds gs before hval0 hW hcnd _
  have hval : ∀ (j : Nat) t v, Tryz.f3.params[j]? = some t → args[j]? = some v → Value.okWide Tryz.prog W .any base t v := hval0
  have hW' := hW
  obtain ⟨p, q, hA0, hV, rfl, hfz, hnd⟩ := hW
  have hA : DataW.TrodAll enc Tryz.prog W 0 (fun _ => true) true Tryz.f3.params.toList args.toList ds p := hA0
  rw [Tryz.params3] at hA hval
  obtain ⟨v0, vs0, d0, ds0, p0, q0, hargs, rfl, rfl, h0, r0⟩ := trodAll_cons hA
  obtain ⟨v1, vs1, d1, ds1, p1, q1, rfl, rfl, rfl, h1, r1⟩ := trodAll_cons r0
  obtain ⟨v2, vs2, d2, ds2, p2, q2, rfl, rfl, rfl, h2, r2⟩ := trodAll_cons r1
  obtain ⟨v3, vs3, d3, ds3, p3, q3, rfl, rfl, rfl, h3, r3⟩ := trodAll_cons r2
  obtain ⟨rfl, rfl, rfl⟩ := trodAll_nil r3
  obtain rfl : args = #[v0, v1, v2, v3] := by cases args; simp_all
  obtain ⟨rfl, rfl⟩ := trodVars_none hV
  have lt0 : ∀ x ∈ p0, x.block < W.heap.size := by obtain ⟨m, hm⟩ := h0; exact DataW.trod_lt m _ _ _ hm
  have lt1 : ∀ x ∈ p1, x.block < W.heap.size := by obtain ⟨m, hm⟩ := h1; exact DataW.trod_lt m _ _ _ hm
  have lt2 : ∀ x ∈ p2, x.block < W.heap.size := by obtain ⟨m, hm⟩ := h2; exact DataW.trod_lt m _ _ _ hm
  have lt3 : ∀ x ∈ p3, x.block < W.heap.size := by obtain ⟨m, hm⟩ := h3; exact DataW.trod_lt m _ _ _ hm
  have hlaw : Ans Tryz.prog (fv 3) [v0, v1, v2, v3] [heapPH W] (fun v => v = .bool true) := by
    obtain ⟨pq, pc, pb, ph, kq, kc, kb, kh, qs, cs, bs, hs, rfl, hT⟩ := tables_of (hval 0 _ v0 rfl rfl) (RdT.of h0)
    obtain ⟨d, rfl, id0, id1, id2, id3, id4⟩ := demand_of (hval 1 _ v1 rfl rfl) (RdT.of h1)
    obtain ⟨pa, ka, a, rfl, ha, la⟩ := cutV_of (hval 2 _ v2 rfl rfl) (RdT.of h2)
    obtain ⟨pb, kb, b, rfl, hb, lb⟩ := cutV_of (hval 3 _ v3 rfl rfl) (RdT.of h3)
    exact (cut_law hT _ _ _ _ d pa pb ka kb a b ha hb la lb).rsub (fun _ h => by simpa using h)
  refine (law_calls Tryz.func3 rfl rfl hlaw).mono fun e W' ⟨he, bel⟩ => ?_
  subst he
  exact ⟨_, rfl, _, _, _, [], _, [], hW', trodAll_mk1 (shut_bool Tryz.underlying4 _), (trodAll_cons_mk (Below.trod Tryz.laidOut (by kernel_rfl) (of_decide_eq_true (by kernel_rfl)) h0 bel lt0) (trodAll_cons_mk (Below.trod Tryz.laidOut (by kernel_rfl) (of_decide_eq_true (by kernel_rfl)) h1 bel lt1) (trodAll_cons_mk (Below.trod Tryz.laidOut (by kernel_rfl) (of_decide_eq_true (by kernel_rfl)) h2 bel lt2) (trodAll_cons_mk (Below.trod Tryz.laidOut (by kernel_rfl) (of_decide_eq_true (by kernel_rfl)) h3 bel lt3) trodAll_mk0)))), rfl, bel.frame _, fun h => by cases h⟩
theorem certificateCut_holds : Rows.CertificateCutSaid :=
  OpenClaim.holds_of_wide 3 Tryz.f3 rfl rfl rfl rfl rfl rfl rfl ⟨rfl, rfl, rfl, rfl, rfl⟩ rfl rfl rfl rfl rfl (by kernel_rfl) Tryz.func3 (by kernel_rfl)
    (of_decide_eq_true (by kernel_rfl)) (by unfold Func.isWrapper; first | (rw [if_pos (by decide +kernel)]; kernel_rfl) | (rw [if_neg (by decide +kernel)]; exact ⟨rfl, rfl⟩))
    (fun os started H enc _ => certificateCut_lifted os started H enc)
end Go.Proofs.YtjbebmealbnmgaaGreat
