/- A job split into two. -/
import Derived.Test.YtlpemhpfljhhbaaWCvK
import Derived.Test.YtlpemhpfljhhbaaWCvSJ
import Derived.Test.YtlpemhpfljhhbaaWMbDel
set_option linter.all false
namespace Go.Proofs.Ytlpemhpfljhhbaa
open Go.Eng Go.Step
set_option maxRecDepth 100000
set_option maxHeartbeats 4000000

theorem ones_I (l : List Int) : ∀ u ∈ l.flatMap encI, u.oneCell' = true := by
  intro u hu
  rw [List.mem_flatMap] at hu
  obtain ⟨a, _, hu⟩ := hu
  simp only [encI, List.mem_cons, List.not_mem_nil, or_false] at hu
  rw [hu]; rfl
theorem cloneI_spec (ρ : PH) (v : Value) (l : List Int) (hv : IntsAt ρ v l) (hl : l.length ≤ 1000000) :
    Makes Try.prog (fv 32) [v] [ρ] (fun r σ => OwnS 3 1 r l.length (l.flatMap encI) σ) := by
  have hv2 := hv
  obtain ⟨q, c, rfl, hr⟩ := hv.val encI_len
  refine spec_in (cap := []) Try.func32 rfl rfl Try.ntmps32 rfl (by (repeat (first | exact EnvA.nil EnvI.nil | apply EnvA.cons | apply EnvA.nil | exact EnvI.nil | apply EnvI.cons)); first | done | fail) (fun N β => ?_)
  cases q with
  | none =>
    have hnil : l = [] := by
      cases l with
      | nil => rfl
      | cons a l =>
        obtain ⟨b, o, e, _⟩ := hr 0 a rfl
        simp at e
    subst hnil
    refine jk_emp ?_
    refine jk_seq ?_
    refine jk_region ?_
    focus (refine' jk_q _ rfl rfl rfl _; rotate_left; (apply q_assign; exact rfl))
    refine jk_nil ?_
    refine jk_seq ?_
    refine jk_seq ?_
    refine jk_region ?_
    focus (refine' jk_q _ rfl rfl rfl _; rotate_left; (apply q_move; exact rfl))
    focus ((refine' jk_q _ rfl rfl rfl _; rotate_left; (apply q_nilSt; exact rfl; exact rfl; exact rfl)))
    refine jk_nil ?_
    refine jk_if_t rfl ?_
    refine jk_seq ?_
    refine jk_region ?_
    focus (refine' jk_q _ rfl rfl rfl _; rotate_left; (apply q_assign; exact rfl))
    refine jk_nil ?_
    exact jk_ret_any (res1 rfl rfl) (by (repeat (first | exact rs_nil | (refine rs_cons ?_ ?_; (focus ((repeat (first | exact .here | apply Mem.there | apply Take.there)); first | done | fail))) | exact fun ρ hρ => hρ | (intro ρ hρ; repeat (first | exact hρ | refine List.mem_cons_of_mem _ ?_)))); first | done | fail) (by (repeat (first | exact Sel.nil | (apply Sel.cons; (focus ((repeat (first | exact .here | apply Mem.there | apply Take.there)); first | done | fail))))); first | done | fail) ⟨emp, OwnS.nil _ _, rfl⟩
  | some ad =>
    refine jk_seq ?_
    refine jk_region ?_
    focus (refine' jk_q _ rfl rfl rfl _; rotate_left; (apply q_assign; exact rfl))
    refine jk_nil ?_
    refine jk_seq ?_
    refine jk_seq ?_
    refine jk_region ?_
    focus (refine' jk_q _ rfl rfl rfl _; rotate_left; (apply q_move; exact rfl))
    focus ((refine' jk_q _ rfl rfl rfl _; rotate_left; (apply q_nilSf; exact rfl; exact rfl; exact rfl)))
    refine jk_nil ?_
    refine jk_if_f rfl ?_
    refine jk_skip ?_
    refine jk_seq ?_
    refine jk_region ?_
    focus (refine' jk_op _ rfl rfl rfl _; rotate_left; (apply l_buildSlice; exact rfl; exact rfl; exact rfl; exact rfl; exact rfl; exact (by (repeat (first | exact (fun v hv => absurd hv List.not_mem_nil) | (refine List.forall_mem_cons.2 ⟨?_, ?_⟩; (focus (first | exact rfl | assumption))))); first | done | fail); exact (by (repeat (first | exact Flat.nil | apply Flat.one rfl | apply Flat.agg2 | apply Flat.agg3 | apply Flat.agg1 | apply Flat.agg4 | apply Flat.agg5)); first | done | fail); exact rfl); rintro _ _ ⟨b, rfl, rfl⟩)
    focus (refine' jk_q _ rfl rfl rfl _; rotate_left; (apply q_move; exact rfl))
    refine jk_op (l_appendE (by_ := 8) (s := 1) (σ := ρ) (news := l.flatMap encI) (m := l.length) rfl rfl rfl rfl rfl rfl rfl (OwnS.empty (b := b)) (by (repeat (first | exact .here | apply Take.there)); first | done | fail) hv2 (fun b o h => cellsR h (by (repeat (first | exact .here | apply Mem.there)); first | done | fail)) (ones_I l) (by simp only [maxLen]; omega) (by omega)) rfl rfl rfl ?_
    rintro r1 _ ⟨σ, hO, rfl⟩
    focus (refine' jk_q _ rfl rfl rfl _; rotate_left; (apply q_assign; exact rfl))
    refine jk_nil ?_
    refine jk_ret_any (res1 rfl rfl) (by (repeat (first | exact rs_nil | (refine rs_cons ?_ ?_; (focus ((repeat (first | exact .here | apply Mem.there | apply Take.there)); first | done | fail))) | exact fun ρ hρ => hρ | (intro ρ hρ; repeat (first | exact hρ | refine List.mem_cons_of_mem _ ?_)))); first | done | fail) (by (repeat (first | exact Sel.nil | (apply Sel.cons; (focus ((repeat (first | exact .here | apply Mem.there | apply Take.there)); first | done | fail))))); first | done | fail) ⟨σ, ?_, rfl⟩
    simpa using hO
set_option maxHeartbeats 8000000 in
theorem deleteI_spec (σ : PH) (v : Value) (l : List Int) (k : Nat) (hO : OwnS 3 1 v l.length (l.flatMap encI) σ) (hk : k < l.length) (hl : l.length ≤ 1000000) :
    Eng.Spec Try.prog (fv 31) [v, int k, int ((k + 1 : Nat) : Int)] [] [σ] (fun r H' => ∃ σ', OwnS 3 1 r (l.take k ++ l.drop (k + 1)).length ((l.take k ++ l.drop (k + 1)).flatMap encI) σ' ∧ H' = [σ']) := by
  have hO1 := hO
  rcases hO.block with ⟨_, h2, _⟩ | ⟨b, cap, cur, rfl, _, hcap, _⟩
  · rw [h2] at hk; simp at hk
  have hnl : (l.take k ++ l.drop (k + 1)).length = k + (l.length - (k + 1)) := by simp; omega
  have hfl : (l.take k ++ l.drop (k + 1)).flatMap encI = (l.flatMap encI).take (k * 1) ++ (l.flatMap encI).drop ((k + 1) * 1) := by
    rw [List.flatMap_append, flat_take encI_len, flat_cut encI_len l (k + 1) (by omega)]
  refine spec_in (cap := []) Try.func31 rfl rfl Try.ntmps31 rfl (by (repeat (first | exact EnvA.nil EnvI.nil | apply EnvA.cons | apply EnvA.nil | exact EnvI.nil | apply EnvI.cons)); first | done | fail) (fun N β => ?_)
  refine jk_seq ?_
  refine jk_region ?_
  focus (refine' jk_q _ rfl rfl rfl _; rotate_left; (apply q_assign; exact rfl))
  refine jk_nil ?_
  refine jk_seq ?_
  refine jk_region ?_
  focus (refine' jk_q _ rfl rfl rfl _; rotate_left; (apply q_move; exact rfl))
  focus (refine' jk_q _ rfl rfl rfl _; rotate_left; (apply q_move; exact rfl))
  focus (refine' jk_q _ rfl rfl rfl _; rotate_left; (apply q_move; exact rfl))
  focus (refine' jk_q _ rfl rfl rfl _; rotate_left; (apply q_move; exact rfl))
  focus (refine' jk_q _ rfl rfl rfl _; rotate_left; (apply q_len; exact rfl; exact rfl))
  focus ((refine' jk_q _ rfl rfl rfl _; rotate_left; (apply q_cut3 (s := 1); exact rfl; exact rfl; exact rfl; exact rfl; exact rfl; exact rfl; omega; omega; omega)))
  refine jk_nil ?_
  refine jk_seq ?_
  refine jk_seq ?_
  refine jk_region ?_
  focus (refine' jk_q _ rfl rfl rfl _; rotate_left; (apply q_move; exact rfl))
  focus (refine' jk_q _ rfl rfl rfl _; rotate_left; (apply q_move; exact rfl))
  focus (refine' jk_q _ rfl rfl rfl _; rotate_left; (apply q_eqF; exact rfl; exact rfl; omega))
  refine jk_nil ?_
  refine jk_if_f rfl ?_
  refine jk_skip ?_
  refine jk_seq ?_
  refine jk_region ?_
  focus (refine' jk_q _ rfl rfl rfl _; rotate_left; (apply q_move; exact rfl))
  focus (refine' jk_q _ rfl rfl rfl _; rotate_left; (apply q_len; exact rfl; exact rfl))
  focus (refine' jk_q _ rfl rfl rfl _; rotate_left; (apply q_assign; exact rfl))
  refine jk_nil ?_
  refine jk_seq ?_
  refine jk_draw (.q 0 (.q 1 (.q 2 (.q 3 (.q 4 (.q 5 (.l 6 .b (.l 7 .b .nil)))))))) [] rfl (by kernel_rfl) Sel.nil ?_
  focus (refine' dj_q rfl _ rfl rfl rfl rfl _; rotate_left; (apply q_move; exact rfl))
  focus (refine' dj_q rfl _ rfl rfl rfl rfl _; rotate_left; (apply q_move; exact rfl))
  focus (refine' dj_q rfl _ rfl rfl rfl rfl _; rotate_left; (apply q_cutHi; exact rfl; exact rfl; exact rfl; exact rfl; omega))
  focus (refine' dj_q rfl _ rfl rfl rfl rfl _; rotate_left; (apply q_move; exact rfl))
  focus (refine' dj_q rfl _ rfl rfl rfl rfl _; rotate_left; (apply q_move; exact rfl))
  focus (refine' dj_q rfl _ rfl rfl rfl rfl _; rotate_left; (apply q_cutLo; exact rfl; exact rfl; exact rfl; exact rfl; omega))
  refine dj_l ?_
  refine' a_b rfl _ rfl rfl rfl _ _
  rotate_left
  · exact l_appendSelf (by_ := 8) (s := 1) (i := k) (j := k + 1) (n := l.length) (xs := l.flatMap encI) (by show some (Value.slice (cutP (some ⟨b, 0, none⟩) cap 0 _) k cap) = _; rw [cutP_zero]) rfl rfl rfl rfl rfl hO1 (by (repeat (first | exact .here | apply Take.there)); first | done | fail) (ones_I l) (by omega) (by omega)
  · rintro _ _ ⟨_, _, _, rfl⟩ w hw
    exact hw.sel (by (repeat (first | exact Sel.nil | (apply Sel.cons; (focus ((repeat (first | exact .here | apply Mem.there | apply Take.there)); first | done | fail))))); first | done | fail)
  rintro _ _ ⟨rfl, σ1, hO2, rfl⟩
  focus (refine dj_l ?_; refine' a_bq rfl _ rfl rfl rfl (by (repeat (first | exact Sel.nil | (apply Sel.cons; (focus ((repeat (first | exact .here | apply Mem.there | apply Take.there)); first | done | fail))))); first | done | fail) _; rotate_left; (apply q_assign; exact rfl))
  refine dj_end ?_
  refine jk_seq ?_
  refine jk_region ?_
  focus (refine' jk_q _ rfl rfl rfl _; rotate_left; (apply q_move; exact rfl))
  focus (refine' jk_q _ rfl rfl rfl _; rotate_left; (apply q_move; exact rfl))
  focus (refine' jk_q _ rfl rfl rfl _; rotate_left; (apply q_len; exact rfl; exact rfl))
  focus (refine' jk_q _ rfl rfl rfl _; rotate_left; (apply q_move; exact rfl))
  focus (refine' jk_q _ rfl rfl rfl _; rotate_left; (apply q_cutLoHi; exact rfl; exact rfl; exact rfl; exact rfl; exact rfl; omega; omega))
  refine jk_op_none (l_clearO (by_ := 8) (s := 1) (n := k + (l.length - (k + 1))) rfl rfl rfl rfl rfl rfl (by intro u hu; have hu2 : u ∈ [int 0] := hu; simp at hu2; rw [hu2]; rfl) hO2 (by (repeat (first | exact .here | apply Take.there)); first | done | fail) (by omega) (by omega)) rfl rfl ?_
  rintro _ _ ⟨rfl, σ2, hO3, rfl⟩
  refine jk_nil ?_
  refine jk_seq ?_
  refine jk_region ?_
  focus (refine' jk_q _ rfl rfl rfl _; rotate_left; (apply q_move; exact rfl))
  focus (refine' jk_q _ rfl rfl rfl _; rotate_left; (apply q_assign; exact rfl))
  refine jk_nil ?_
  refine jk_ret_any (res1 rfl rfl) (by (repeat (first | exact rs_nil | (refine rs_cons ?_ ?_; (focus ((repeat (first | exact .here | apply Mem.there | apply Take.there)); first | done | fail))) | exact fun ρ hρ => hρ | (intro ρ hρ; repeat (first | exact hρ | refine List.mem_cons_of_mem _ ?_)))); first | done | fail) (by (repeat (first | exact Sel.nil | (apply Sel.cons; (focus ((repeat (first | exact .here | apply Mem.there | apply Take.there)); first | done | fail))))); first | done | fail) ⟨σ2, ?_, rfl⟩
  rw [hnl, hfl]
  exact hO3
end Go.Proofs.Ytlpemhpfljhhbaa
