/- The reference's sums. -/
import Derived.Test.YtbcibkopcbhgfaaWStA
import Derived.Test.YtbcibkopcbhgfaaWCvV
set_option linter.all false
namespace Go.Proofs.Ytbcibkopcbhgfaa
open Go.Eng Go.Step
set_option maxRecDepth 100000
set_option maxHeartbeats 4000000

set_option maxHeartbeats 16000000 in
theorem refTimes_spec (ρ τ : PH) (v w : Value) (f g : List Lv) (hv : LvAt ρ v f) (hw : LvAt τ w g) (hf : AscT (-1) f) (hg : AscT (-1) g) (lf : f.length ≤ 1000) (lg : g.length ≤ 1000) :
    Makes Try.prog (fv 66) [v, w] [ρ, τ] (fun r σ => OwnS 3 1 r (tms f g).length ((tms f g).flatMap Eng.encI) σ) := by
  obtain ⟨qf, cf, rfl, hrf⟩ := hv.val encV_len
  obtain ⟨qg, cg, rfl, hrg⟩ := hw.val encV_len
  refine spec_in (cap := []) Try.func66 rfl rfl Try.ntmps66 rfl (by (repeat (first | exact EnvA.nil EnvI.nil | apply EnvA.cons | apply EnvA.nil | exact EnvI.nil | apply EnvI.cons)); first | done | fail) (fun N β => ?_)
  refine jk_seq ?_
  refine jk_region ?_
  focus (refine' jk_q _ rfl rfl rfl _; rotate_left; (apply q_assign; exact rfl))
  refine jk_nil ?_
  refine jk_seq ?_
  refine jk_region ?_
  focus (refine' jk_op _ rfl rfl rfl _; rotate_left; (apply l_buildSlice; exact rfl; exact rfl; exact rfl; exact rfl; exact rfl; exact (by (repeat (first | exact (fun v hv => absurd hv List.not_mem_nil) | (refine List.forall_mem_cons.2 ⟨?_, ?_⟩; (focus (first | exact rfl | assumption))))); first | done | fail); exact (by (repeat (first | exact Flat.nil | apply Flat.one rfl | apply Flat.agg2 | apply Flat.agg3 | apply Flat.agg1 | apply Flat.agg4 | apply Flat.agg5)); first | done | fail); exact rfl); rintro _ _ ⟨b, rfl, rfl⟩)
  focus (refine' jk_q _ rfl rfl rfl _; rotate_left; (apply q_assign; exact rfl))
  refine jk_nil ?_
  refine jk_seq ?_
  refine jk_region ?_
  focus (refine' jk_q _ rfl rfl rfl _; rotate_left; (apply q_assign; exact rfl))
  focus (refine' jk_q _ rfl rfl rfl _; rotate_left; (apply q_assign; exact rfl))
  refine jk_nil ?_
  refine jk_seq ?_
  refine jk_block ?_
  refine jk_loop [0, 1] (X := (Nat × Nat) × (List Int × (Value × PH))) ((0, 0), ([], (.slice (some ⟨b, 0, none⟩) 0 0, sng b (.cells #[] 3 (0, 0))))) (fun x => x.1.1 ≤ f.length ∧ x.1.2 ≤ g.length ∧ TInv f g x.1.1 x.1.2 x.2.1 ∧ OwnS 3 1 x.2.2.1 x.2.1.length (x.2.1.flatMap Eng.encI) x.2.2.2) (fun x => [(6, int x.1.1), (7, int x.1.2), (5, x.2.2.1)]) (fun x => [x.2.2.2]) (fun x => (f.length - x.1.1) + (g.length - x.1.2))
    (by (repeat (first | exact Pick.nil | apply Pick.cons rfl)); first | done | fail) ⟨by dsimp only; omega, by dsimp only; omega, TInv.zero f g, OwnS.empty⟩ (by (repeat (first | exact trivial | refine And.intro rfl ?_)); first | done | fail) (by (repeat (first | exact Sel.nil | (apply Sel.cons; (focus ((repeat (first | exact .here | apply Mem.there | apply Take.there)); first | done | fail))))); first | done | fail) ?_
  clear b
  rintro ⟨⟨i, k⟩, ⟨out, ⟨u, σ⟩⟩⟩ ⟨hi, hk, hT, hO⟩
  dsimp only at hi hk hT hO ⊢
  by_cases hend : i = f.length ∧ k = g.length
  · obtain ⟨rfl, rfl⟩ := hend
    rw [hT.done] at hO
    refine jk_seq ?_
    refine jk_seq ?_
    refine jk_region ?_
    focus (refine' jk_q _ rfl rfl rfl _; rotate_left; (apply q_move; exact rfl))
    focus (refine' jk_q _ rfl rfl rfl _; rotate_left; (apply q_move; exact rfl))
    focus (refine' jk_q _ rfl rfl rfl _; rotate_left; (apply q_len; exact rfl; exact rfl))
    focus (refine' jk_q _ rfl rfl rfl _; rotate_left; (apply q_ltF; exact rfl; exact rfl; omega))
    focus (refine' jk_q _ rfl rfl rfl _; rotate_left; (apply q_move; exact rfl))
    focus (refine' jk_q _ rfl rfl rfl _; rotate_left; (apply q_move; exact rfl))
    focus (refine' jk_q _ rfl rfl rfl _; rotate_left; (apply q_move; exact rfl))
    focus (refine' jk_q _ rfl rfl rfl _; rotate_left; (apply q_len; exact rfl; exact rfl))
    focus (refine' jk_q _ rfl rfl rfl _; rotate_left; (apply q_ltF; exact rfl; exact rfl; omega))
    focus (refine' jk_q _ rfl rfl rfl _; rotate_left; (apply q_pick_f; exact rfl; exact rfl))
    refine jk_nil ?_
    refine jk_if_f rfl ?_
    refine jk_exit rfl ?_
    refine jk_seq ?_
    refine jk_region ?_
    focus (refine' jk_q _ rfl rfl rfl _; rotate_left; (apply q_move; exact rfl))
    focus (refine' jk_q _ rfl rfl rfl _; rotate_left; (apply q_assign; exact rfl))
    refine jk_nil ?_
    exact jk_ret_any (res1 rfl rfl) (by (repeat (first | exact rs_nil | (refine rs_cons ?_ ?_; (focus ((repeat (first | exact .here | apply Mem.there | apply Take.there)); first | done | fail))) | exact fun ρ hρ => hρ | (intro ρ hρ; repeat (first | exact hρ | refine List.mem_cons_of_mem _ ?_)))); first | done | fail) (by (repeat (first | exact Sel.nil | (apply Sel.cons; (focus ((repeat (first | exact .here | apply Mem.there | apply Take.there)); first | done | fail))))); first | done | fail) ⟨σ, hO, rfl⟩
  have hol := hT.len
  refine jk_seq ?_
  refine jk_mid (X := Unit) [0, 1, 5, 6, 7] (fun _ => True) (fun _ => []) (fun _ => [σ]) (by (repeat (first | exact Pick.nil | apply Pick.cons rfl)); first | done | fail) ?_ ?_
  · by_cases hlt : i < f.length
    · refine jk_seq ?_
      refine jk_region ?_
      focus (refine' jk_q _ rfl rfl rfl _; rotate_left; (apply q_move; exact rfl))
      focus (refine' jk_q _ rfl rfl rfl _; rotate_left; (apply q_move; exact rfl))
      focus (refine' jk_q _ rfl rfl rfl _; rotate_left; (apply q_len; exact rfl; exact rfl))
      focus (refine' jk_q _ rfl rfl rfl _; rotate_left; (apply q_lt; exact rfl; exact rfl; omega))
      focus (refine' jk_q _ rfl rfl rfl _; rotate_left; (apply q_move; exact rfl))
      refine jk_pass rfl rfl rfl ?_
      refine jk_pass rfl rfl rfl ?_
      refine jk_pass rfl rfl rfl ?_
      refine jk_pass rfl rfl rfl ?_
      focus (refine' jk_q _ rfl rfl rfl _; rotate_left; (apply q_pick_t; exact rfl; exact rfl))
      refine jk_nil ?_
      refine jk_if_t rfl ?_
      refine jk_skip ?_
      exact jk_meet () trivial (by (repeat (first | exact trivial | refine And.intro rfl ?_)); first | done | fail) (by (repeat (first | exact Sel.nil | (apply Sel.cons; (focus ((repeat (first | exact .here | apply Mem.there | apply Take.there)); first | done | fail))))); first | done | fail)
    · have hkl : k < g.length := by omega
      refine jk_seq ?_
      refine jk_region ?_
      focus (refine' jk_q _ rfl rfl rfl _; rotate_left; (apply q_move; exact rfl))
      focus (refine' jk_q _ rfl rfl rfl _; rotate_left; (apply q_move; exact rfl))
      focus (refine' jk_q _ rfl rfl rfl _; rotate_left; (apply q_len; exact rfl; exact rfl))
      focus (refine' jk_q _ rfl rfl rfl _; rotate_left; (apply q_ltF; exact rfl; exact rfl; omega))
      focus (refine' jk_q _ rfl rfl rfl _; rotate_left; (apply q_move; exact rfl))
      focus (refine' jk_q _ rfl rfl rfl _; rotate_left; (apply q_move; exact rfl))
      focus (refine' jk_q _ rfl rfl rfl _; rotate_left; (apply q_move; exact rfl))
      focus (refine' jk_q _ rfl rfl rfl _; rotate_left; (apply q_len; exact rfl; exact rfl))
      focus (refine' jk_q _ rfl rfl rfl _; rotate_left; (apply q_lt; exact rfl; exact rfl; omega))
      focus (refine' jk_q _ rfl rfl rfl _; rotate_left; (apply q_pick_f; exact rfl; exact rfl))
      refine jk_nil ?_
      refine jk_if_t rfl ?_
      refine jk_skip ?_
      exact jk_meet () trivial (by (repeat (first | exact trivial | refine And.intro rfl ?_)); first | done | fail) (by (repeat (first | exact Sel.nil | (apply Sel.cons; (focus ((repeat (first | exact .here | apply Mem.there | apply Take.there)); first | done | fail))))); first | done | fail)
  rintro _ _
  refine jk_block ?_
  refine jk_seq ?_
  refine jk_region ?_
  focus (refine' jk_q _ rfl rfl rfl _; rotate_left; (apply q_assign; exact rfl))
  refine jk_nil ?_
  refine jk_seq ?_
  refine jk_seq ?_
  refine jk_mid2 (X := (Nat × Nat) × Int) [0, 1, 5] (fun x => x.1.1 ≤ f.length ∧ x.1.2 ≤ g.length ∧ TInv f g x.1.1 x.1.2 (nextT out x.2) ∧ (f.length - x.1.1) + (g.length - x.1.2) < (f.length - i) + (g.length - k)) (fun x => [(6, int x.1.1), (7, int x.1.2), (8, int x.2)]) (fun _ => [σ]) (by (repeat (first | exact Pick.nil | apply Pick.cons rfl)); first | done | fail) ?_ ?_
  · by_cases hkl : k < g.length
    · have hy := List.getElem?_eq_getElem hkl
      obtain ⟨bg, og, rfl, _, gg0, _⟩ := lvRow hrg hy
      by_cases hlt : i < f.length
      · have hx := List.getElem?_eq_getElem hlt
        obtain ⟨bf, of, rfl, _, gf0, _⟩ := lvRow hrf hx
        by_cases hc : f[i].a ≤ g[k].a
        · refine jk_draw (.q 0 (.q 1 (.q 2 (.q 3 (.q 4 (.q 5 (.q 6 (.q 7 (.q 8 (.q 9 (.q 10 (.q 11 (.q 12 (.q 13 (.q 14 (.q 15 (.q 16 (.q 17 (.q 18 (.q 19 (.q 20 (.q 21 (.q 22 .nil))))))))))))))))))))))) [σ] rfl (by kernel_rfl) (by (repeat (first | exact Sel.nil | (apply Sel.cons; (focus ((repeat (first | exact .here | apply Mem.there | apply Take.there)); first | done | fail))))); first | done | fail) ?_
          focus (refine' dj_q rfl _ rfl rfl rfl rfl _; rotate_left; (apply q_move; exact rfl))
          focus (refine' dj_q rfl _ rfl rfl rfl rfl _; rotate_left; (apply q_move; exact rfl))
          focus (refine' dj_q rfl _ rfl rfl rfl rfl _; rotate_left; (apply q_len; exact rfl; exact rfl))
          focus (refine' dj_q rfl _ rfl rfl rfl rfl _; rotate_left; (apply q_eqF; exact rfl; exact rfl; omega))
          focus (refine' dj_q rfl _ rfl rfl rfl rfl _; rotate_left; (apply q_move; exact rfl))
          focus (refine' dj_q rfl _ rfl rfl rfl rfl _; rotate_left; (apply q_move; exact rfl))
          focus (refine' dj_q rfl _ rfl rfl rfl rfl _; rotate_left; (apply q_move; exact rfl))
          focus (refine' dj_q rfl _ rfl rfl rfl rfl _; rotate_left; (apply q_len; exact rfl; exact rfl))
          focus (refine' dj_q rfl _ rfl rfl rfl rfl _; rotate_left; (apply q_lt; exact rfl; exact rfl; omega))
          focus (refine' dj_q rfl _ rfl rfl rfl rfl _; rotate_left; (apply q_move; exact rfl))
          focus (refine' dj_q rfl _ rfl rfl rfl rfl _; rotate_left; (apply q_move; exact rfl))
          focus (refine' dj_q rfl _ rfl rfl rfl rfl _; rotate_left; (apply q_move; exact rfl))
          focus (refine' dj_q rfl _ rfl rfl rfl rfl _; rotate_left; (apply q_idxN; exact rfl; exact rfl; exact rfl; exact rfl; omega))
          focus (refine' dj_q rfl _ rfl rfl rfl rfl _; rotate_left; (apply q_fldZ; exact rfl; exact rfl))
          focus (refine' dj_q rfl _ rfl rfl rfl rfl _; rotate_left; (apply q_load; exact rfl; exact rfl; (first | exact cell_own (by (repeat (first | exact .here | apply Mem.there)); first | done | fail) rfl | exact cellR (by assumption) (by (repeat (first | exact .here | apply Mem.there)); first | done | fail) | exact cellH (by assumption) (by (repeat (first | exact .here | apply Mem.there)); first | done | fail) | exact cell_ints (by (repeat (first | exact .here | apply Mem.there)); first | done | fail) (by omega) | exact cell_bools (by assumption) (by (repeat (first | exact .here | apply Mem.there)); first | done | fail) | exact cell_intsR (by (repeat (first | exact .here | apply Mem.there)); first | done | fail) (by omega) | exact cell_boolsR (by assumption) (by (repeat (first | exact .here | apply Mem.there)); first | done | fail))))
          focus (refine' dj_q rfl _ rfl rfl rfl rfl _; rotate_left; (apply q_move; exact rfl))
          focus (refine' dj_q rfl _ rfl rfl rfl rfl _; rotate_left; (apply q_move; exact rfl))
          focus (refine' dj_q rfl _ rfl rfl rfl rfl _; rotate_left; (apply q_idxN; exact rfl; exact rfl; exact rfl; exact rfl; omega))
          focus (refine' dj_q rfl _ rfl rfl rfl rfl _; rotate_left; (apply q_fldZ; exact rfl; exact rfl))
          focus (refine' dj_q rfl _ rfl rfl rfl rfl _; rotate_left; (apply q_load; exact rfl; exact rfl; (first | exact cell_own (by (repeat (first | exact .here | apply Mem.there)); first | done | fail) rfl | exact cellR (by assumption) (by (repeat (first | exact .here | apply Mem.there)); first | done | fail) | exact cellH (by assumption) (by (repeat (first | exact .here | apply Mem.there)); first | done | fail) | exact cell_ints (by (repeat (first | exact .here | apply Mem.there)); first | done | fail) (by omega) | exact cell_bools (by assumption) (by (repeat (first | exact .here | apply Mem.there)); first | done | fail) | exact cell_intsR (by (repeat (first | exact .here | apply Mem.there)); first | done | fail) (by omega) | exact cell_boolsR (by assumption) (by (repeat (first | exact .here | apply Mem.there)); first | done | fail))))
          focus (refine' dj_q rfl _ rfl rfl rfl rfl _; rotate_left; (apply q_le; exact rfl; exact rfl; omega))
          focus (refine' dj_q rfl _ rfl rfl rfl rfl _; rotate_left; (apply q_pick_t; exact rfl; exact rfl))
          focus (refine' dj_q rfl _ rfl rfl rfl rfl _; rotate_left; (apply q_pick_f; exact rfl; exact rfl))
          refine dj_end ?_
          refine jk_if_t rfl ?_
          refine jk_seq ?_
          refine jk_region ?_
          focus (refine' jk_q _ rfl rfl rfl _; rotate_left; (apply q_move; exact rfl))
          focus (refine' jk_q _ rfl rfl rfl _; rotate_left; (apply q_move; exact rfl))
          focus (refine' jk_q _ rfl rfl rfl _; rotate_left; (apply q_idxN; exact rfl; exact rfl; exact rfl; exact rfl; omega))
          focus (refine' jk_q _ rfl rfl rfl _; rotate_left; (apply q_fldZ; exact rfl; exact rfl))
          focus (refine' jk_q _ rfl rfl rfl _; rotate_left; (apply q_load; exact rfl; exact rfl; (first | exact cell_own (by (repeat (first | exact .here | apply Mem.there)); first | done | fail) rfl | exact cellR (by assumption) (by (repeat (first | exact .here | apply Mem.there)); first | done | fail) | exact cellH (by assumption) (by (repeat (first | exact .here | apply Mem.there)); first | done | fail) | exact cell_ints (by (repeat (first | exact .here | apply Mem.there)); first | done | fail) (by omega) | exact cell_bools (by assumption) (by (repeat (first | exact .here | apply Mem.there)); first | done | fail) | exact cell_intsR (by (repeat (first | exact .here | apply Mem.there)); first | done | fail) (by omega) | exact cell_boolsR (by assumption) (by (repeat (first | exact .here | apply Mem.there)); first | done | fail))))
          focus (refine' jk_q _ rfl rfl rfl _; rotate_left; (apply q_assign; exact rfl))
          refine jk_nil ?_
          refine jk_region ?_
          focus (refine' jk_q _ rfl rfl rfl _; rotate_left; (apply q_move; exact rfl))
          focus (refine' jk_q _ rfl rfl rfl _; rotate_left; (apply q_inc; exact rfl; exact rfl; omega))
          focus (refine' jk_q _ rfl rfl rfl _; rotate_left; (apply q_assign; exact rfl))
          refine jk_nil ?_
          exact jk_meet ((i + 1, k), f[i].a) ⟨by dsimp only; omega, hk, hT.stepF hf hg hlt (fun x hx2 => by rw [hy] at hx2; injection hx2 with hx2; rw [← hx2]; exact hc), by dsimp only; omega⟩ (by (repeat (first | exact trivial | refine And.intro rfl ?_)); first | done | fail) (by (repeat (first | exact Sel.nil | (apply Sel.cons; (focus ((repeat (first | exact .here | apply Mem.there | apply Take.there)); first | done | fail))))); first | done | fail)
        · refine jk_draw (.q 0 (.q 1 (.q 2 (.q 3 (.q 4 (.q 5 (.q 6 (.q 7 (.q 8 (.q 9 (.q 10 (.q 11 (.q 12 (.q 13 (.q 14 (.q 15 (.q 16 (.q 17 (.q 18 (.q 19 (.q 20 (.q 21 (.q 22 .nil))))))))))))))))))))))) [σ] rfl (by kernel_rfl) (by (repeat (first | exact Sel.nil | (apply Sel.cons; (focus ((repeat (first | exact .here | apply Mem.there | apply Take.there)); first | done | fail))))); first | done | fail) ?_
          focus (refine' dj_q rfl _ rfl rfl rfl rfl _; rotate_left; (apply q_move; exact rfl))
          focus (refine' dj_q rfl _ rfl rfl rfl rfl _; rotate_left; (apply q_move; exact rfl))
          focus (refine' dj_q rfl _ rfl rfl rfl rfl _; rotate_left; (apply q_len; exact rfl; exact rfl))
          focus (refine' dj_q rfl _ rfl rfl rfl rfl _; rotate_left; (apply q_eqF; exact rfl; exact rfl; omega))
          focus (refine' dj_q rfl _ rfl rfl rfl rfl _; rotate_left; (apply q_move; exact rfl))
          focus (refine' dj_q rfl _ rfl rfl rfl rfl _; rotate_left; (apply q_move; exact rfl))
          focus (refine' dj_q rfl _ rfl rfl rfl rfl _; rotate_left; (apply q_move; exact rfl))
          focus (refine' dj_q rfl _ rfl rfl rfl rfl _; rotate_left; (apply q_len; exact rfl; exact rfl))
          focus (refine' dj_q rfl _ rfl rfl rfl rfl _; rotate_left; (apply q_lt; exact rfl; exact rfl; omega))
          focus (refine' dj_q rfl _ rfl rfl rfl rfl _; rotate_left; (apply q_move; exact rfl))
          focus (refine' dj_q rfl _ rfl rfl rfl rfl _; rotate_left; (apply q_move; exact rfl))
          focus (refine' dj_q rfl _ rfl rfl rfl rfl _; rotate_left; (apply q_move; exact rfl))
          focus (refine' dj_q rfl _ rfl rfl rfl rfl _; rotate_left; (apply q_idxN; exact rfl; exact rfl; exact rfl; exact rfl; omega))
          focus (refine' dj_q rfl _ rfl rfl rfl rfl _; rotate_left; (apply q_fldZ; exact rfl; exact rfl))
          focus (refine' dj_q rfl _ rfl rfl rfl rfl _; rotate_left; (apply q_load; exact rfl; exact rfl; (first | exact cell_own (by (repeat (first | exact .here | apply Mem.there)); first | done | fail) rfl | exact cellR (by assumption) (by (repeat (first | exact .here | apply Mem.there)); first | done | fail) | exact cellH (by assumption) (by (repeat (first | exact .here | apply Mem.there)); first | done | fail) | exact cell_ints (by (repeat (first | exact .here | apply Mem.there)); first | done | fail) (by omega) | exact cell_bools (by assumption) (by (repeat (first | exact .here | apply Mem.there)); first | done | fail) | exact cell_intsR (by (repeat (first | exact .here | apply Mem.there)); first | done | fail) (by omega) | exact cell_boolsR (by assumption) (by (repeat (first | exact .here | apply Mem.there)); first | done | fail))))
          focus (refine' dj_q rfl _ rfl rfl rfl rfl _; rotate_left; (apply q_move; exact rfl))
          focus (refine' dj_q rfl _ rfl rfl rfl rfl _; rotate_left; (apply q_move; exact rfl))
          focus (refine' dj_q rfl _ rfl rfl rfl rfl _; rotate_left; (apply q_idxN; exact rfl; exact rfl; exact rfl; exact rfl; omega))
          focus (refine' dj_q rfl _ rfl rfl rfl rfl _; rotate_left; (apply q_fldZ; exact rfl; exact rfl))
          focus (refine' dj_q rfl _ rfl rfl rfl rfl _; rotate_left; (apply q_load; exact rfl; exact rfl; (first | exact cell_own (by (repeat (first | exact .here | apply Mem.there)); first | done | fail) rfl | exact cellR (by assumption) (by (repeat (first | exact .here | apply Mem.there)); first | done | fail) | exact cellH (by assumption) (by (repeat (first | exact .here | apply Mem.there)); first | done | fail) | exact cell_ints (by (repeat (first | exact .here | apply Mem.there)); first | done | fail) (by omega) | exact cell_bools (by assumption) (by (repeat (first | exact .here | apply Mem.there)); first | done | fail) | exact cell_intsR (by (repeat (first | exact .here | apply Mem.there)); first | done | fail) (by omega) | exact cell_boolsR (by assumption) (by (repeat (first | exact .here | apply Mem.there)); first | done | fail))))
          focus (refine' dj_q rfl _ rfl rfl rfl rfl _; rotate_left; (apply q_leF; exact rfl; exact rfl; omega))
          focus (refine' dj_q rfl _ rfl rfl rfl rfl _; rotate_left; (apply q_pick_t; exact rfl; exact rfl))
          focus (refine' dj_q rfl _ rfl rfl rfl rfl _; rotate_left; (apply q_pick_f; exact rfl; exact rfl))
          refine dj_end ?_
          refine jk_if_f rfl ?_
          refine jk_seq ?_
          refine jk_region ?_
          focus (refine' jk_q _ rfl rfl rfl _; rotate_left; (apply q_move; exact rfl))
          focus (refine' jk_q _ rfl rfl rfl _; rotate_left; (apply q_move; exact rfl))
          focus (refine' jk_q _ rfl rfl rfl _; rotate_left; (apply q_idxN; exact rfl; exact rfl; exact rfl; exact rfl; omega))
          focus (refine' jk_q _ rfl rfl rfl _; rotate_left; (apply q_fldZ; exact rfl; exact rfl))
          focus (refine' jk_q _ rfl rfl rfl _; rotate_left; (apply q_load; exact rfl; exact rfl; (first | exact cell_own (by (repeat (first | exact .here | apply Mem.there)); first | done | fail) rfl | exact cellR (by assumption) (by (repeat (first | exact .here | apply Mem.there)); first | done | fail) | exact cellH (by assumption) (by (repeat (first | exact .here | apply Mem.there)); first | done | fail) | exact cell_ints (by (repeat (first | exact .here | apply Mem.there)); first | done | fail) (by omega) | exact cell_bools (by assumption) (by (repeat (first | exact .here | apply Mem.there)); first | done | fail) | exact cell_intsR (by (repeat (first | exact .here | apply Mem.there)); first | done | fail) (by omega) | exact cell_boolsR (by assumption) (by (repeat (first | exact .here | apply Mem.there)); first | done | fail))))
          focus (refine' jk_q _ rfl rfl rfl _; rotate_left; (apply q_assign; exact rfl))
          refine jk_nil ?_
          refine jk_region ?_
          focus (refine' jk_q _ rfl rfl rfl _; rotate_left; (apply q_move; exact rfl))
          focus (refine' jk_q _ rfl rfl rfl _; rotate_left; (apply q_inc; exact rfl; exact rfl; omega))
          focus (refine' jk_q _ rfl rfl rfl _; rotate_left; (apply q_assign; exact rfl))
          refine jk_nil ?_
          exact jk_meet ((i, k + 1), g[k].a) ⟨hi, by dsimp only; omega, hT.stepG hf hg hkl (fun x hx2 => by rw [hx] at hx2; injection hx2 with hx2; rw [← hx2]; omega), by dsimp only; omega⟩ (by (repeat (first | exact trivial | refine And.intro rfl ?_)); first | done | fail) (by (repeat (first | exact Sel.nil | (apply Sel.cons; (focus ((repeat (first | exact .here | apply Mem.there | apply Take.there)); first | done | fail))))); first | done | fail)
      · refine jk_draw (.q 0 (.q 1 (.q 2 (.q 3 (.q 4 (.q 5 (.q 6 (.q 7 (.q 8 (.q 9 (.q 10 (.q 11 (.q 12 (.q 13 (.q 14 (.q 15 (.q 16 (.q 17 (.q 18 (.q 19 (.q 20 (.q 21 (.q 22 .nil))))))))))))))))))))))) [σ] rfl (by kernel_rfl) (by (repeat (first | exact Sel.nil | (apply Sel.cons; (focus ((repeat (first | exact .here | apply Mem.there | apply Take.there)); first | done | fail))))); first | done | fail) ?_
        focus (refine' dj_q rfl _ rfl rfl rfl rfl _; rotate_left; (apply q_move; exact rfl))
        focus (refine' dj_q rfl _ rfl rfl rfl rfl _; rotate_left; (apply q_move; exact rfl))
        focus (refine' dj_q rfl _ rfl rfl rfl rfl _; rotate_left; (apply q_len; exact rfl; exact rfl))
        focus (refine' dj_q rfl _ rfl rfl rfl rfl _; rotate_left; (apply q_eqF; exact rfl; exact rfl; omega))
        focus (refine' dj_q rfl _ rfl rfl rfl rfl _; rotate_left; (apply q_move; exact rfl))
        focus (refine' dj_q rfl _ rfl rfl rfl rfl _; rotate_left; (apply q_move; exact rfl))
        focus (refine' dj_q rfl _ rfl rfl rfl rfl _; rotate_left; (apply q_move; exact rfl))
        focus (refine' dj_q rfl _ rfl rfl rfl rfl _; rotate_left; (apply q_len; exact rfl; exact rfl))
        focus (refine' dj_q rfl _ rfl rfl rfl rfl _; rotate_left; (apply q_ltF; exact rfl; exact rfl; omega))
        focus (refine' dj_q rfl _ rfl rfl rfl rfl _; rotate_left; (apply q_move; exact rfl))
        refine dj_pass rfl rfl rfl rfl rfl ?_
        refine dj_pass rfl rfl rfl rfl rfl ?_
        refine dj_pass rfl rfl rfl rfl rfl ?_
        refine dj_pass rfl rfl rfl rfl rfl ?_
        refine dj_pass rfl rfl rfl rfl rfl ?_
        refine dj_pass rfl rfl rfl rfl rfl ?_
        refine dj_pass rfl rfl rfl rfl rfl ?_
        refine dj_pass rfl rfl rfl rfl rfl ?_
        refine dj_pass rfl rfl rfl rfl rfl ?_
        refine dj_pass rfl rfl rfl rfl rfl ?_
        refine dj_pass rfl rfl rfl rfl rfl ?_
        focus (refine' dj_q rfl _ rfl rfl rfl rfl _; rotate_left; (apply q_pick_f; exact rfl; exact rfl))
        focus (refine' dj_q rfl _ rfl rfl rfl rfl _; rotate_left; (apply q_pick_f; exact rfl; exact rfl))
        refine dj_end ?_
        refine jk_if_f rfl ?_
        refine jk_seq ?_
        refine jk_region ?_
        focus (refine' jk_q _ rfl rfl rfl _; rotate_left; (apply q_move; exact rfl))
        focus (refine' jk_q _ rfl rfl rfl _; rotate_left; (apply q_move; exact rfl))
        focus (refine' jk_q _ rfl rfl rfl _; rotate_left; (apply q_idxN; exact rfl; exact rfl; exact rfl; exact rfl; omega))
        focus (refine' jk_q _ rfl rfl rfl _; rotate_left; (apply q_fldZ; exact rfl; exact rfl))
        focus (refine' jk_q _ rfl rfl rfl _; rotate_left; (apply q_load; exact rfl; exact rfl; (first | exact cell_own (by (repeat (first | exact .here | apply Mem.there)); first | done | fail) rfl | exact cellR (by assumption) (by (repeat (first | exact .here | apply Mem.there)); first | done | fail) | exact cellH (by assumption) (by (repeat (first | exact .here | apply Mem.there)); first | done | fail) | exact cell_ints (by (repeat (first | exact .here | apply Mem.there)); first | done | fail) (by omega) | exact cell_bools (by assumption) (by (repeat (first | exact .here | apply Mem.there)); first | done | fail) | exact cell_intsR (by (repeat (first | exact .here | apply Mem.there)); first | done | fail) (by omega) | exact cell_boolsR (by assumption) (by (repeat (first | exact .here | apply Mem.there)); first | done | fail))))
        focus (refine' jk_q _ rfl rfl rfl _; rotate_left; (apply q_assign; exact rfl))
        refine jk_nil ?_
        refine jk_region ?_
        focus (refine' jk_q _ rfl rfl rfl _; rotate_left; (apply q_move; exact rfl))
        focus (refine' jk_q _ rfl rfl rfl _; rotate_left; (apply q_inc; exact rfl; exact rfl; omega))
        focus (refine' jk_q _ rfl rfl rfl _; rotate_left; (apply q_assign; exact rfl))
        refine jk_nil ?_
        exact jk_meet ((i, k + 1), g[k].a) ⟨hi, by dsimp only; omega, hT.stepG hf hg hkl (fun x hx2 => by rw [List.getElem?_eq_none (by omega)] at hx2; simp at hx2), by dsimp only; omega⟩ (by (repeat (first | exact trivial | refine And.intro rfl ?_)); first | done | fail) (by (repeat (first | exact Sel.nil | (apply Sel.cons; (focus ((repeat (first | exact .here | apply Mem.there | apply Take.there)); first | done | fail))))); first | done | fail)
    · have hke : k = g.length := by omega
      have hlt : i < f.length := by omega
      have hx := List.getElem?_eq_getElem hlt
      obtain ⟨bf, of, rfl, _, gf0, _⟩ := lvRow hrf hx
      refine jk_draw (.q 0 (.q 1 (.q 2 (.q 3 (.q 4 (.q 5 (.q 6 (.q 7 (.q 8 (.q 9 (.q 10 (.q 11 (.q 12 (.q 13 (.q 14 (.q 15 (.q 16 (.q 17 (.q 18 (.q 19 (.q 20 (.q 21 (.q 22 .nil))))))))))))))))))))))) [σ] rfl (by kernel_rfl) (by (repeat (first | exact Sel.nil | (apply Sel.cons; (focus ((repeat (first | exact .here | apply Mem.there | apply Take.there)); first | done | fail))))); first | done | fail) ?_
      focus (refine' dj_q rfl _ rfl rfl rfl rfl _; rotate_left; (apply q_move; exact rfl))
      focus (refine' dj_q rfl _ rfl rfl rfl rfl _; rotate_left; (apply q_move; exact rfl))
      focus (refine' dj_q rfl _ rfl rfl rfl rfl _; rotate_left; (apply q_len; exact rfl; exact rfl))
      focus (refine' dj_q rfl _ rfl rfl rfl rfl _; rotate_left; (apply q_eq; exact rfl; exact rfl; omega))
      focus (refine' dj_q rfl _ rfl rfl rfl rfl _; rotate_left; (apply q_move; exact rfl))
      refine dj_pass rfl rfl rfl rfl rfl ?_
      refine dj_pass rfl rfl rfl rfl rfl ?_
      refine dj_pass rfl rfl rfl rfl rfl ?_
      refine dj_pass rfl rfl rfl rfl rfl ?_
      refine dj_pass rfl rfl rfl rfl rfl ?_
      refine dj_pass rfl rfl rfl rfl rfl ?_
      refine dj_pass rfl rfl rfl rfl rfl ?_
      refine dj_pass rfl rfl rfl rfl rfl ?_
      refine dj_pass rfl rfl rfl rfl rfl ?_
      refine dj_pass rfl rfl rfl rfl rfl ?_
      refine dj_pass rfl rfl rfl rfl rfl ?_
      refine dj_pass rfl rfl rfl rfl rfl ?_
      refine dj_pass rfl rfl rfl rfl rfl ?_
      refine dj_pass rfl rfl rfl rfl rfl ?_
      refine dj_pass rfl rfl rfl rfl rfl ?_
      refine dj_pass rfl rfl rfl rfl rfl ?_
      refine dj_pass rfl rfl rfl rfl rfl ?_
      focus (refine' dj_q rfl _ rfl rfl rfl rfl _; rotate_left; (apply q_pick_t; exact rfl; exact rfl))
      refine dj_end ?_
      refine jk_if_t rfl ?_
      refine jk_seq ?_
      refine jk_region ?_
      focus (refine' jk_q _ rfl rfl rfl _; rotate_left; (apply q_move; exact rfl))
      focus (refine' jk_q _ rfl rfl rfl _; rotate_left; (apply q_move; exact rfl))
      focus (refine' jk_q _ rfl rfl rfl _; rotate_left; (apply q_idxN; exact rfl; exact rfl; exact rfl; exact rfl; omega))
      focus (refine' jk_q _ rfl rfl rfl _; rotate_left; (apply q_fldZ; exact rfl; exact rfl))
      focus (refine' jk_q _ rfl rfl rfl _; rotate_left; (apply q_load; exact rfl; exact rfl; (first | exact cell_own (by (repeat (first | exact .here | apply Mem.there)); first | done | fail) rfl | exact cellR (by assumption) (by (repeat (first | exact .here | apply Mem.there)); first | done | fail) | exact cellH (by assumption) (by (repeat (first | exact .here | apply Mem.there)); first | done | fail) | exact cell_ints (by (repeat (first | exact .here | apply Mem.there)); first | done | fail) (by omega) | exact cell_bools (by assumption) (by (repeat (first | exact .here | apply Mem.there)); first | done | fail) | exact cell_intsR (by (repeat (first | exact .here | apply Mem.there)); first | done | fail) (by omega) | exact cell_boolsR (by assumption) (by (repeat (first | exact .here | apply Mem.there)); first | done | fail))))
      focus (refine' jk_q _ rfl rfl rfl _; rotate_left; (apply q_assign; exact rfl))
      refine jk_nil ?_
      refine jk_region ?_
      focus (refine' jk_q _ rfl rfl rfl _; rotate_left; (apply q_move; exact rfl))
      focus (refine' jk_q _ rfl rfl rfl _; rotate_left; (apply q_inc; exact rfl; exact rfl; omega))
      focus (refine' jk_q _ rfl rfl rfl _; rotate_left; (apply q_assign; exact rfl))
      refine jk_nil ?_
      exact jk_meet ((i + 1, k), f[i].a) ⟨by dsimp only; omega, hk, hT.stepF hf hg hlt (fun x hx2 => by rw [List.getElem?_eq_none (by omega)] at hx2; simp at hx2), by dsimp only; omega⟩ (by (repeat (first | exact trivial | refine And.intro rfl ?_)); first | done | fail) (by (repeat (first | exact Sel.nil | (apply Sel.cons; (focus ((repeat (first | exact .here | apply Mem.there | apply Take.there)); first | done | fail))))); first | done | fail)
  rintro ⟨⟨i', k'⟩, t⟩ ⟨hi', hk', hT', hm⟩
  dsimp only at hi' hk' hT' hm ⊢
  obtain ⟨pu, cu, rfl⟩ := SlAt.cap hO.at
  have happ : nextT out t = out ++ [t] → ∀ (u1 : Value) (σ1 : PH), OwnS 3 1 u1 (out.length + 1) (out.flatMap Eng.encI ++ [int t]) σ1 → OwnS 3 1 u1 (nextT out t).length ((nextT out t).flatMap Eng.encI) σ1 := by
    intro h u1 σ1 h1
    rw [h, List.length_append, List.flatMap_append]
    exact h1
  cases out with
  | nil =>
    have hnx : nextT [] t = [] ++ [t] := by unfold nextT; rw [if_pos (.inl rfl)]
    have h00 := @List.length_nil Int
    refine jk_seq ?_
    refine jk_region ?_
    focus (refine' jk_q _ rfl rfl rfl _; rotate_left; (apply q_move; exact rfl))
    focus (refine' jk_q _ rfl rfl rfl _; rotate_left; (apply q_len; exact rfl; exact rfl))
    focus (refine' jk_q _ rfl rfl rfl _; rotate_left; (apply q_eq; exact rfl; exact rfl; omega))
    focus (refine' jk_q _ rfl rfl rfl _; rotate_left; (apply q_move; exact rfl))
    refine jk_pass rfl rfl rfl ?_
    refine jk_pass rfl rfl rfl ?_
    refine jk_pass rfl rfl rfl ?_
    refine jk_pass rfl rfl rfl ?_
    refine jk_pass rfl rfl rfl ?_
    refine jk_pass rfl rfl rfl ?_
    refine jk_pass rfl rfl rfl ?_
    refine jk_pass rfl rfl rfl ?_
    focus (refine' jk_q _ rfl rfl rfl _; rotate_left; (apply q_pick_t; exact rfl; exact rfl))
    refine jk_nil ?_
    refine jk_if_t rfl ?_
    refine jk_region ?_
    focus (refine' jk_q _ rfl rfl rfl _; rotate_left; (apply q_move; exact rfl))
    focus (refine' jk_q _ rfl rfl rfl _; rotate_left; (apply q_move; exact rfl))
    focus (refine' jk_op _ rfl rfl rfl _; rotate_left; (apply l_buildSlice; exact rfl; exact rfl; exact rfl; exact rfl; exact rfl; exact (by (repeat (first | exact (fun v hv => absurd hv List.not_mem_nil) | (refine List.forall_mem_cons.2 ⟨?_, ?_⟩; (focus (first | exact rfl | assumption))))); first | done | fail); exact (by (repeat (first | exact Flat.nil | apply Flat.one rfl | apply Flat.agg2 | apply Flat.agg3 | apply Flat.agg1 | apply Flat.agg4 | apply Flat.agg5)); first | done | fail); exact rfl); rintro _ _ ⟨b, rfl, rfl⟩)
    refine jk_op (l_append (by_ := 8) (s := 1) (news := [int t]) rfl rfl rfl rfl rfl rfl rfl hO (by (repeat (first | exact .here | apply Take.there)); first | done | fail) (cells_own (by (repeat (first | exact .here | apply Mem.there)); first | done | fail)) rfl (by (repeat (first | exact (fun v hv => absurd hv List.not_mem_nil) | (refine List.forall_mem_cons.2 ⟨?_, ?_⟩; (focus (first | exact rfl | assumption))))); first | done | fail) (by omega) (by simp only [maxLen]; omega) (by omega)) rfl rfl rfl ?_
    rintro u1 _ ⟨σ1, hO1, rfl⟩
    focus (refine' jk_q _ rfl rfl rfl _; rotate_left; (apply q_assign; exact rfl))
    refine jk_nil ?_
    refine jk_blk ?_
    exact jk_round ((i', k'), (nextT [] t, (u1, σ1))) ⟨hi', hk', hT', happ hnx u1 σ1 hO1⟩ (by dsimp only; omega) (by (repeat (first | exact trivial | refine And.intro rfl ?_)); first | done | fail) (by (repeat (first | exact Sel.nil | (apply Sel.cons; (focus ((repeat (first | exact .here | apply Mem.there | apply Take.there)); first | done | fail))))); first | done | fail)
  | cons x0 rest =>
    generalize hoe : x0 :: rest = out at *
    have hpos : 0 < out.length := by rw [← hoe]; simp
    have hne : out ≠ [] := by rw [← hoe]; simp
    obtain ⟨j, hj⟩ : ∃ j, out.length = j + 1 := ⟨out.length - 1, by omega⟩
    have hje : out.length - 1 = j := by omega
    have hS : IntsAt σ _ out := hO.at
    obtain ⟨pm, cm, em, hrm⟩ := hS.val Eng.encI_len
    simp only [Value.slice.injEq] at em
    obtain ⟨rfl, _, rfl⟩ := em
    have hget := List.getElem?_eq_getElem (show j < out.length by omega)
    obtain ⟨bb, oo, rfl, g1⟩ := hrm.int hget
    have hgd : out.getD (out.length - 1) 0 = out[j]'(by omega) := by rw [hje]; simp [List.getD_eq_getElem?_getD, show j < out.length by omega]
    by_cases hlast : out[j]'(by omega) = t
    · have hnx : nextT out t = out := by unfold nextT; rw [if_neg (by rw [hgd]; simp [hne, hlast])]
      rw [hnx] at hT'
      refine jk_seq ?_
      refine jk_region ?_
      focus (refine' jk_q _ rfl rfl rfl _; rotate_left; (apply q_move; exact rfl))
      focus (refine' jk_q _ rfl rfl rfl _; rotate_left; (apply q_len; exact rfl; exact rfl))
      focus (refine' jk_q _ rfl rfl rfl _; rotate_left; (apply q_eqF; exact rfl; exact rfl; omega))
      focus (refine' jk_q _ rfl rfl rfl _; rotate_left; (apply q_move; exact rfl))
      focus (refine' jk_q _ rfl rfl rfl _; rotate_left; (apply q_move; exact rfl))
      focus (refine' jk_q _ rfl rfl rfl _; rotate_left; (apply q_move; exact rfl))
      focus (refine' jk_q _ rfl rfl rfl _; rotate_left; (apply q_len; exact rfl; exact rfl))
      focus (refine' jk_q _ rfl rfl rfl _; rotate_left; (apply q_sub_nat; exact rfl; exact rfl; omega; omega))
      focus (refine' jk_q _ rfl rfl rfl _; rotate_left; (apply q_idx1; exact rfl; exact rfl; exact rfl; exact rfl; omega))
      focus ((rw [hje]))
      focus (refine' jk_q _ rfl rfl rfl _; rotate_left; (apply q_load; exact rfl; exact rfl; (first | exact cell_own (by (repeat (first | exact .here | apply Mem.there)); first | done | fail) rfl | exact cellR (by assumption) (by (repeat (first | exact .here | apply Mem.there)); first | done | fail) | exact cellH (by assumption) (by (repeat (first | exact .here | apply Mem.there)); first | done | fail) | exact cell_ints (by (repeat (first | exact .here | apply Mem.there)); first | done | fail) (by omega) | exact cell_bools (by assumption) (by (repeat (first | exact .here | apply Mem.there)); first | done | fail) | exact cell_intsR (by (repeat (first | exact .here | apply Mem.there)); first | done | fail) (by omega) | exact cell_boolsR (by assumption) (by (repeat (first | exact .here | apply Mem.there)); first | done | fail))))
      focus (refine' jk_q _ rfl rfl rfl _; rotate_left; (apply q_move; exact rfl))
      focus (refine' jk_q _ rfl rfl rfl _; rotate_left; (apply q_neF; exact rfl; exact rfl; omega))
      focus (refine' jk_q _ rfl rfl rfl _; rotate_left; (apply q_pick_f; exact rfl; exact rfl))
      refine jk_nil ?_
      refine jk_if_f rfl ?_
      refine jk_skip ?_
      refine jk_blk ?_
      exact jk_round ((i', k'), (out, (.slice (some ⟨bb, oo, none⟩) out.length cu, σ))) ⟨hi', hk', hT', hO⟩ (by dsimp only; omega) (by (repeat (first | exact trivial | refine And.intro rfl ?_)); first | done | fail) (by (repeat (first | exact Sel.nil | (apply Sel.cons; (focus ((repeat (first | exact .here | apply Mem.there | apply Take.there)); first | done | fail))))); first | done | fail)
    · have hnx : nextT out t = out ++ [t] := by unfold nextT; rw [if_pos (.inr (by rw [hgd]; exact hlast))]
      refine jk_seq ?_
      refine jk_region ?_
      focus (refine' jk_q _ rfl rfl rfl _; rotate_left; (apply q_move; exact rfl))
      focus (refine' jk_q _ rfl rfl rfl _; rotate_left; (apply q_len; exact rfl; exact rfl))
      focus (refine' jk_q _ rfl rfl rfl _; rotate_left; (apply q_eqF; exact rfl; exact rfl; omega))
      focus (refine' jk_q _ rfl rfl rfl _; rotate_left; (apply q_move; exact rfl))
      focus (refine' jk_q _ rfl rfl rfl _; rotate_left; (apply q_move; exact rfl))
      focus (refine' jk_q _ rfl rfl rfl _; rotate_left; (apply q_move; exact rfl))
      focus (refine' jk_q _ rfl rfl rfl _; rotate_left; (apply q_len; exact rfl; exact rfl))
      focus (refine' jk_q _ rfl rfl rfl _; rotate_left; (apply q_sub_nat; exact rfl; exact rfl; omega; omega))
      focus (refine' jk_q _ rfl rfl rfl _; rotate_left; (apply q_idx1; exact rfl; exact rfl; exact rfl; exact rfl; omega))
      focus ((rw [hje]))
      focus (refine' jk_q _ rfl rfl rfl _; rotate_left; (apply q_load; exact rfl; exact rfl; (first | exact cell_own (by (repeat (first | exact .here | apply Mem.there)); first | done | fail) rfl | exact cellR (by assumption) (by (repeat (first | exact .here | apply Mem.there)); first | done | fail) | exact cellH (by assumption) (by (repeat (first | exact .here | apply Mem.there)); first | done | fail) | exact cell_ints (by (repeat (first | exact .here | apply Mem.there)); first | done | fail) (by omega) | exact cell_bools (by assumption) (by (repeat (first | exact .here | apply Mem.there)); first | done | fail) | exact cell_intsR (by (repeat (first | exact .here | apply Mem.there)); first | done | fail) (by omega) | exact cell_boolsR (by assumption) (by (repeat (first | exact .here | apply Mem.there)); first | done | fail))))
      focus (refine' jk_q _ rfl rfl rfl _; rotate_left; (apply q_move; exact rfl))
      focus (refine' jk_q _ rfl rfl rfl _; rotate_left; (apply q_ne; exact rfl; exact rfl; omega))
      focus (refine' jk_q _ rfl rfl rfl _; rotate_left; (apply q_pick_f; exact rfl; exact rfl))
      refine jk_nil ?_
      refine jk_if_t rfl ?_
      refine jk_region ?_
      focus (refine' jk_q _ rfl rfl rfl _; rotate_left; (apply q_move; exact rfl))
      focus (refine' jk_q _ rfl rfl rfl _; rotate_left; (apply q_move; exact rfl))
      focus (refine' jk_op _ rfl rfl rfl _; rotate_left; (apply l_buildSlice; exact rfl; exact rfl; exact rfl; exact rfl; exact rfl; exact (by (repeat (first | exact (fun v hv => absurd hv List.not_mem_nil) | (refine List.forall_mem_cons.2 ⟨?_, ?_⟩; (focus (first | exact rfl | assumption))))); first | done | fail); exact (by (repeat (first | exact Flat.nil | apply Flat.one rfl | apply Flat.agg2 | apply Flat.agg3 | apply Flat.agg1 | apply Flat.agg4 | apply Flat.agg5)); first | done | fail); exact rfl); rintro _ _ ⟨b, rfl, rfl⟩)
      refine jk_op (l_append (by_ := 8) (s := 1) (news := [int t]) rfl rfl rfl rfl rfl rfl rfl hO (by (repeat (first | exact .here | apply Take.there)); first | done | fail) (cells_own (by (repeat (first | exact .here | apply Mem.there)); first | done | fail)) rfl (by (repeat (first | exact (fun v hv => absurd hv List.not_mem_nil) | (refine List.forall_mem_cons.2 ⟨?_, ?_⟩; (focus (first | exact rfl | assumption))))); first | done | fail) (by omega) (by simp only [maxLen]; omega) (by omega)) rfl rfl rfl ?_
      rintro u1 _ ⟨σ1, hO1, rfl⟩
      focus (refine' jk_q _ rfl rfl rfl _; rotate_left; (apply q_assign; exact rfl))
      refine jk_nil ?_
      refine jk_blk ?_
      exact jk_round ((i', k'), (nextT out t, (u1, σ1))) ⟨hi', hk', hT', happ hnx u1 σ1 hO1⟩ (by dsimp only; omega) (by (repeat (first | exact trivial | refine And.intro rfl ?_)); first | done | fail) (by (repeat (first | exact Sel.nil | (apply Sel.cons; (focus ((repeat (first | exact .here | apply Mem.there | apply Take.there)); first | done | fail))))); first | done | fail)
end Go.Proofs.Ytbcibkopcbhgfaa
