/- The reference's sum of two functions. -/
import Derived.Test.YtbcibkopcbhgfaaWStB
set_option linter.all false
namespace Go.Proofs.Ytbcibkopcbhgfaa
open Go.Eng Go.Step
set_option maxRecDepth 100000
set_option maxHeartbeats 4000000

set_option maxHeartbeats 16000000 in
theorem refSum0_spec (ρ τ : PH) (v w : Value) (f g : List Lv) (hv : LvAt ρ v f) (hw : LvAt τ w g) (hf : AscT (-1) f) (hg : AscT (-1) g) (lf : f.length ≤ 1000) (lg : g.length ≤ 1000) (bf : ∀ l ∈ f, -2251799813685248 ≤ l.v ∧ l.v ≤ 2251799813685248) (bg : ∀ l ∈ g, -2251799813685248 ≤ l.v ∧ l.v ≤ 2251799813685248) :
    Makes Try.prog (fv 45) [v, w] [ρ, τ] (fun r σ => ∃ u out e, r = .tuple #[u, int e] ∧ OwnS 33 2 u out.length (out.flatMap encV) σ ∧ CombP (fun t => val f t + val g t) (tms f g) out e) := by
  have hv2 := hv
  have hw2 := hw
  obtain ⟨qf, cf, rfl, hrf⟩ := hv.val encV_len
  obtain ⟨qg, cg, rfl, hrg⟩ := hw.val encV_len
  obtain ⟨hsa, hmem⟩ := tms_sa f g
  have hvf := val_bd (B := 2251799813685248) (by omega) bf
  have hvg := val_bd (B := 2251799813685248) (by omega) bg
  have htl : (tms f g).length ≤ 2000 := by
    have := SA.len (f := (f ++ g).map (·.a)) hsa (fun x hx => by
      obtain ⟨l, hl, rfl⟩ := (hmem x).1 hx
      exact List.mem_map.2 ⟨l, hl, rfl⟩)
    rw [List.length_map, List.length_append] at this
    omega
  refine spec_in (cap := []) Try.func45 rfl rfl Try.ntmps45 rfl (by (repeat (first | exact EnvA.nil EnvI.nil | apply EnvA.cons | apply EnvA.nil | exact EnvI.nil | apply EnvI.cons)); first | done | fail) (fun N β => ?_)
  refine jk_seq ?_
  refine jk_region ?_
  focus (refine' jk_q _ rfl rfl rfl _; rotate_left; (apply q_assign; exact rfl))
  focus (refine' jk_q _ rfl rfl rfl _; rotate_left; (apply q_assign; exact rfl))
  refine jk_nil ?_
  refine jk_seq ?_
  refine jk_region ?_
  focus (refine' jk_op _ rfl rfl rfl _; rotate_left; (apply l_buildSlice; exact rfl; exact rfl; exact rfl; exact rfl; exact rfl; exact (by (repeat (first | exact (fun v hv => absurd hv List.not_mem_nil) | (refine List.forall_mem_cons.2 ⟨?_, ?_⟩; (focus (first | exact rfl | assumption))))); first | done | fail); exact (by (repeat (first | exact Flat.nil | apply Flat.one rfl | apply Flat.agg2 | apply Flat.agg3 | apply Flat.agg1 | apply Flat.agg4 | apply Flat.agg5)); first | done | fail); exact rfl); rintro _ _ ⟨b, rfl, rfl⟩)
  focus (refine' jk_q _ rfl rfl rfl _; rotate_left; (apply q_assign; exact rfl))
  refine jk_nil ?_
  refine jk_seq ?_
  refine jk_region ?_
  focus (refine' jk_q _ rfl rfl rfl _; rotate_left; (apply q_move; exact rfl))
  focus (refine' jk_q _ rfl rfl rfl _; rotate_left; (apply q_move; exact rfl))
  revert b; intro b6
  refine jk_callM (refTimes_spec ρ τ _ _ f g hv2 hw2 hf hg lf lg) rfl rfl (by (repeat (first | exact RdOK.nil | (refine RdOK.consR ?_ ?_; (focus ((repeat (first | exact .here | apply Mem.there | apply Take.there)); first | done | fail))) | (refine RdOK.consH ?_ ?_; (focus ((repeat (first | exact .here | apply Mem.there | apply Take.there)); first | done | fail))) | exact (fun τ hτ => .inl (by simp [hτ])))); first | done | fail) rfl rfl ?_
  rintro ut σt hOt
  generalize hts : tms f g = ts at *
  have hT : IntsAt σt ut ts := hOt.at
  refine jk_freeze (ρ := σt) (by (repeat (first | exact .here | apply Take.there)); first | done | fail) ?_
  obtain ⟨qt, ct, rfl, hrt⟩ := hT.val Eng.encI_len
  focus (refine' jk_q _ rfl rfl rfl _; rotate_left; (apply q_assign; exact rfl))
  refine jk_nil ?_
  refine jk_seq ?_
  refine jk_region ?_
  focus (refine' jk_q _ rfl rfl rfl _; rotate_left; (apply q_assign; exact rfl))
  focus (refine' jk_q _ rfl rfl rfl _; rotate_left; (apply q_assign; exact rfl))
  refine jk_nil ?_
  refine jk_seq ?_
  refine jk_region ?_
  focus (refine' jk_q _ rfl rfl rfl _; rotate_left; (apply q_assign; exact rfl))
  refine jk_nil ?_
  refine jk_seq ?_
  refine jk_seq ?_
  refine jk_region ?_
  focus (refine' jk_q _ rfl rfl rfl _; rotate_left; (apply q_assign; exact rfl))
  refine jk_nil ?_
  refine jk_block ?_
  refine jk_loop [0, 1, 7] (X := (Nat × (Nat × Nat)) × (Value × PH)) ((0, (0, 0)), (.slice (some ⟨b6, 0, none⟩) 0 0, sng b6 (.cells #[] 33 (0, 0))))
    (fun x => x.1.1 ≤ ts.length ∧ x.1.2.1 ≤ f.length ∧ x.1.2.2 ≤ g.length ∧ (∀ (u : Nat) (y : Lv), u < x.1.2.1 → f[u]? = some y → ∀ t ∈ ts.drop x.1.1, y.a ≤ t) ∧ (∀ (u : Nat) (y : Lv), u < x.1.2.2 → g[u]? = some y → ∀ t ∈ ts.drop x.1.1, y.a ≤ t) ∧ (∀ t ∈ ts.take x.1.1, okV (val f t + val g t)) ∧ OwnS 33 2 x.2.1 (comb (fun t => val f t + val g t) 0 (ts.take x.1.1)).length ((comb (fun t => val f t + val g t) 0 (ts.take x.1.1)).flatMap encV) x.2.2)
    (fun x => [(11, int x.1.1), (8, int x.1.2.1), (9, int x.1.2.2), (10, int (lastF (fun t => val f t + val g t) ts x.1.1)), (6, x.2.1)]) (fun x => [x.2.2]) (fun x => ts.length - x.1.1)
    (by (repeat (first | exact Pick.nil | apply Pick.cons rfl)); first | done | fail) ⟨by dsimp only; omega, by dsimp only; omega, by dsimp only; omega, fun u y hu => by dsimp only at hu; omega, fun u y hu => by dsimp only at hu; omega, by simp, OwnS.empty⟩ (by (repeat (first | exact trivial | refine And.intro rfl ?_)); first | done | fail) (by (repeat (first | exact Sel.nil | (apply Sel.cons; (focus ((repeat (first | exact .here | apply Mem.there | apply Take.there)); first | done | fail))))); first | done | fail) ?_
  rintro ⟨⟨n, ⟨i0, k0⟩⟩, ⟨u, σ⟩⟩ ⟨hn, hi0, hk0, hF0, hG0, hok, hO⟩
  dsimp only at hn hi0 hk0 hF0 hG0 hok hO ⊢
  by_cases hlt : n < ts.length
  rotate_left
  · rw [List.take_of_length_le (by omega)] at hO hok
    have hlen : ∃ p c, u = .slice p (comb (fun t => val f t + val g t) 0 ts).length c := SlAt.cap hO.at
    obtain ⟨pu, cu, rfl⟩ := hlen
    by_cases hbig : 1000 < (comb (fun t => val f t + val g t) 0 ts).length
    · refine jk_seq ?_
      refine jk_seq ?_
      refine jk_region ?_
      focus (refine' jk_q _ rfl rfl rfl _; rotate_left; (apply q_move; exact rfl))
      focus (refine' jk_q _ rfl rfl rfl _; rotate_left; (apply q_move; exact rfl))
      focus (refine' jk_q _ rfl rfl rfl _; rotate_left; (apply q_len; exact rfl; exact rfl))
      focus (refine' jk_q _ rfl rfl rfl _; rotate_left; (apply q_ltF; exact rfl; exact rfl; omega))
      refine jk_nil ?_
      refine jk_if_f rfl ?_
      refine jk_exit rfl ?_
      refine jk_seq ?_
      refine jk_seq ?_
      refine jk_region ?_
      focus (refine' jk_q _ rfl rfl rfl _; rotate_left; (apply q_move; exact rfl))
      focus (refine' jk_q _ rfl rfl rfl _; rotate_left; (apply q_len; exact rfl; exact rfl))
      focus (refine' jk_q _ rfl rfl rfl _; rotate_left; (apply q_gt; exact rfl; exact rfl; omega))
      refine jk_nil ?_
      refine jk_if_t rfl ?_
      refine jk_seq ?_
      refine jk_region ?_
      focus (refine' jk_op _ rfl rfl rfl _; rotate_left; (apply l_buildSlice; exact rfl; exact rfl; exact rfl; exact rfl; exact rfl; exact (by (repeat (first | exact (fun v hv => absurd hv List.not_mem_nil) | (refine List.forall_mem_cons.2 ⟨?_, ?_⟩; (focus (first | exact rfl | assumption))))); first | done | fail); exact (by (repeat (first | exact Flat.nil | apply Flat.one rfl | apply Flat.agg2 | apply Flat.agg3 | apply Flat.agg1 | apply Flat.agg4 | apply Flat.agg5)); first | done | fail); exact rfl); rintro _ _ ⟨b, rfl, rfl⟩)
      focus (refine' jk_q _ rfl rfl rfl _; rotate_left; (apply q_assign; exact rfl))
      focus (refine' jk_q _ rfl rfl rfl _; rotate_left; (apply q_assign; exact rfl))
      refine jk_nil ?_
      exact jk_ret_any (res2 rfl rfl rfl) (by (repeat (first | exact rs_nil | (refine rs_cons ?_ ?_; (focus ((repeat (first | exact .here | apply Mem.there | apply Take.there)); first | done | fail))) | exact fun ρ hρ => hρ | (intro ρ hρ; repeat (first | exact hρ | refine List.mem_cons_of_mem _ ?_)))); first | done | fail) (by (repeat (first | exact Sel.nil | (apply Sel.cons; (focus ((repeat (first | exact .here | apply Mem.there | apply Take.there)); first | done | fail))))); first | done | fail) ⟨_, ⟨_, [], _, rfl, OwnS.empty, .inr (.inl ⟨hok, hbig, rfl, rfl⟩)⟩, rfl⟩
    · refine jk_seq ?_
      refine jk_seq ?_
      refine jk_region ?_
      focus (refine' jk_q _ rfl rfl rfl _; rotate_left; (apply q_move; exact rfl))
      focus (refine' jk_q _ rfl rfl rfl _; rotate_left; (apply q_move; exact rfl))
      focus (refine' jk_q _ rfl rfl rfl _; rotate_left; (apply q_len; exact rfl; exact rfl))
      focus (refine' jk_q _ rfl rfl rfl _; rotate_left; (apply q_ltF; exact rfl; exact rfl; omega))
      refine jk_nil ?_
      refine jk_if_f rfl ?_
      refine jk_exit rfl ?_
      refine jk_seq ?_
      refine jk_seq ?_
      refine jk_region ?_
      focus (refine' jk_q _ rfl rfl rfl _; rotate_left; (apply q_move; exact rfl))
      focus (refine' jk_q _ rfl rfl rfl _; rotate_left; (apply q_len; exact rfl; exact rfl))
      focus (refine' jk_q _ rfl rfl rfl _; rotate_left; (apply q_gtF; exact rfl; exact rfl; omega))
      refine jk_nil ?_
      refine jk_if_f rfl ?_
      refine jk_skip ?_
      refine jk_seq ?_
      refine jk_region ?_
      focus (refine' jk_q _ rfl rfl rfl _; rotate_left; (apply q_move; exact rfl))
      focus (refine' jk_q _ rfl rfl rfl _; rotate_left; (apply q_assign; exact rfl))
      focus (refine' jk_q _ rfl rfl rfl _; rotate_left; (apply q_assign; exact rfl))
      refine jk_nil ?_
      exact jk_ret_any (res2 rfl rfl rfl) (by (repeat (first | exact rs_nil | (refine rs_cons ?_ ?_; (focus ((repeat (first | exact .here | apply Mem.there | apply Take.there)); first | done | fail))) | exact fun ρ hρ => hρ | (intro ρ hρ; repeat (first | exact hρ | refine List.mem_cons_of_mem _ ?_)))); first | done | fail) (by (repeat (first | exact Sel.nil | (apply Sel.cons; (focus ((repeat (first | exact .here | apply Mem.there | apply Take.there)); first | done | fail))))); first | done | fail) ⟨σ, ⟨_, _, _, rfl, hO, .inr (.inr ⟨hok, by omega, rfl, rfl⟩)⟩, rfl⟩
  have hx := List.getElem?_eq_getElem hlt
  obtain ⟨bt, ot, rfl, gt⟩ := hrt.int hx
  have htm : ts[n] ∈ ts.drop n := (mem_drop_iff hlt _).2 (.inl rfl)
  have hnext : ∀ t ∈ ts.drop (n + 1), ts[n] < t := fun t ht => by
    obtain ⟨j, hj, rfl⟩ := List.getElem_of_mem ht
    rw [List.getElem_drop]
    rw [List.length_drop] at hj
    exact List.pairwise_iff_getElem.1 hsa n (n + 1 + j) hlt (by omega) (by omega)
  refine jk_seq ?_
  refine jk_seq ?_
  refine jk_region ?_
  focus (refine' jk_q _ rfl rfl rfl _; rotate_left; (apply q_move; exact rfl))
  focus (refine' jk_q _ rfl rfl rfl _; rotate_left; (apply q_move; exact rfl))
  focus (refine' jk_q _ rfl rfl rfl _; rotate_left; (apply q_len; exact rfl; exact rfl))
  focus (refine' jk_q _ rfl rfl rfl _; rotate_left; (apply q_lt; exact rfl; exact rfl; omega))
  refine jk_nil ?_
  refine jk_if_t rfl ?_
  refine jk_skip ?_
  refine jk_seq ?_
  refine jk_block ?_
  refine jk_seq ?_
  refine jk_block ?_
  refine jk_midB (X := Nat) [0, 1, 6, 7, 9, 10, 11] (fun i => i ≤ f.length ∧ (∀ (u : Nat) (y : Lv), u < i → f[u]? = some y → y.a ≤ ts[n]) ∧ ∀ y, f[i]? = some y → ts[n] < y.a) (fun i => [(8, int i)]) (fun _ => [σ]) (by (repeat (first | exact Pick.nil | apply Pick.cons rfl)); first | done | fail) ?_ ?_
  · refine jk_loop [0, 1, 6, 7, 9, 10, 11] (X := Nat) i0 (fun i => i ≤ f.length ∧ ∀ (u : Nat) (y : Lv), u < i → f[u]? = some y → y.a ≤ ts[n]) (fun i => [(8, int i)]) (fun _ => [σ]) (fun i => f.length - i) (by (repeat (first | exact Pick.nil | apply Pick.cons rfl)); first | done | fail) ⟨hi0, fun u y hu hy => hF0 u y hu hy _ htm⟩ (by (repeat (first | exact trivial | refine And.intro rfl ?_)); first | done | fail) (by (repeat (first | exact Sel.nil | (apply Sel.cons; (focus ((repeat (first | exact .here | apply Mem.there | apply Take.there)); first | done | fail))))); first | done | fail) ?_
    rintro i ⟨hi, hF⟩
    by_cases hil : i < f.length
    · have hy := List.getElem?_eq_getElem hil
      obtain ⟨bb, oo, rfl, _, g0, _⟩ := lvRow hrf hy
      by_cases hc : f[i].a ≤ ts[n]
      · refine jk_seq ?_
        refine jk_seq ?_
        refine jk_draw (.q 0 (.q 1 (.q 2 (.q 3 (.q 4 (.q 5 (.q 6 (.q 7 (.q 8 (.q 9 (.q 10 (.q 11 (.q 12 (.q 13 (.q 14 (.q 15 .nil)))))))))))))))) [σ] rfl (by kernel_rfl) (by (repeat (first | exact Sel.nil | (apply Sel.cons; (focus ((repeat (first | exact .here | apply Mem.there | apply Take.there)); first | done | fail))))); first | done | fail) ?_
        focus (refine' dj_q rfl _ rfl rfl rfl rfl _; rotate_left; (apply q_move; exact rfl))
        focus (refine' dj_q rfl _ rfl rfl rfl rfl _; rotate_left; (apply q_move; exact rfl))
        focus (refine' dj_q rfl _ rfl rfl rfl rfl _; rotate_left; (apply q_len; exact rfl; exact rfl))
        focus (refine' dj_q rfl _ rfl rfl rfl rfl _; rotate_left; (apply q_lt; exact rfl; exact rfl; omega))
        focus (refine' dj_q rfl _ rfl rfl rfl rfl _; rotate_left; (apply q_move; exact rfl))
        focus (refine' dj_q rfl _ rfl rfl rfl rfl _; rotate_left; (apply q_move; exact rfl))
        focus (refine' dj_q rfl _ rfl rfl rfl rfl _; rotate_left; (apply q_move; exact rfl))
        focus (refine' dj_q rfl _ rfl rfl rfl rfl _; rotate_left; (apply q_idxN; exact rfl; exact rfl; exact rfl; exact rfl; omega))
        focus (refine' dj_q rfl _ rfl rfl rfl rfl _; rotate_left; (apply q_fldZ; exact rfl; exact rfl))
        focus (refine' dj_q rfl _ rfl rfl rfl rfl _; rotate_left; (apply q_load; exact rfl; exact rfl; (first | exact cell_own (by (repeat (first | exact .here | apply Mem.there)); first | done | fail) rfl | exact cellR (by assumption) (by (repeat (first | exact .here | apply Mem.there)); first | done | fail) | exact cellH (by assumption) (by (repeat (first | exact .here | apply Mem.there)); first | done | fail) | exact cell_ints (by (repeat (first | exact .here | apply Mem.there)); first | done | fail) (by omega) | exact cell_bools (by assumption) (by (repeat (first | exact .here | apply Mem.there)); first | done | fail) | exact cell_intsR (by (repeat (first | exact .here | apply Mem.there)); first | done | fail) (by omega) | exact cell_boolsR (by assumption) (by (repeat (first | exact .here | apply Mem.there)); first | done | fail))))
        focus (refine' dj_q rfl _ rfl rfl rfl rfl _; rotate_left; (apply q_move; exact rfl))
        focus (refine' dj_q rfl _ rfl rfl rfl rfl _; rotate_left; (apply q_move; exact rfl))
        focus (refine' dj_q rfl _ rfl rfl rfl rfl _; rotate_left; (apply q_idx1; exact rfl; exact rfl; exact rfl; exact rfl; omega))
        focus (refine' dj_q rfl _ rfl rfl rfl rfl _; rotate_left; (apply q_load; exact rfl; exact rfl; (first | exact cell_own (by (repeat (first | exact .here | apply Mem.there)); first | done | fail) rfl | exact cellR (by assumption) (by (repeat (first | exact .here | apply Mem.there)); first | done | fail) | exact cellH (by assumption) (by (repeat (first | exact .here | apply Mem.there)); first | done | fail) | exact cell_ints (by (repeat (first | exact .here | apply Mem.there)); first | done | fail) (by omega) | exact cell_bools (by assumption) (by (repeat (first | exact .here | apply Mem.there)); first | done | fail) | exact cell_intsR (by (repeat (first | exact .here | apply Mem.there)); first | done | fail) (by omega) | exact cell_boolsR (by assumption) (by (repeat (first | exact .here | apply Mem.there)); first | done | fail))))
        focus (refine' dj_q rfl _ rfl rfl rfl rfl _; rotate_left; (apply q_le; exact rfl; exact rfl; omega))
        focus (refine' dj_q rfl _ rfl rfl rfl rfl _; rotate_left; (apply q_pick_t; exact rfl; exact rfl))
        refine dj_end ?_
        refine jk_if_t rfl ?_
        refine jk_skip ?_
        refine jk_block ?_
        refine jk_region ?_
        focus (refine' jk_q _ rfl rfl rfl _; rotate_left; (apply q_move; exact rfl))
        focus (refine' jk_q _ rfl rfl rfl _; rotate_left; (apply q_inc; exact rfl; exact rfl; omega))
        focus (refine' jk_q _ rfl rfl rfl _; rotate_left; (apply q_assign; exact rfl))
        refine jk_nil ?_
        refine jk_blk ?_
        refine jk_round (Inv := fun i => i ≤ f.length ∧ ∀ (u : Nat) (y : Lv), u < i → f[u]? = some y → y.a ≤ ts[n]) (i + 1) ⟨by omega, fun u y hu hy2 => ?_⟩ (by omega) (by (repeat (first | exact trivial | refine And.intro rfl ?_)); first | done | fail) (by (repeat (first | exact Sel.nil | (apply Sel.cons; (focus ((repeat (first | exact .here | apply Mem.there | apply Take.there)); first | done | fail))))); first | done | fail)
        by_cases hui : u = i
        · subst hui; rw [hy] at hy2; injection hy2 with hy2; rw [← hy2]; exact hc
        · exact hF u y (by omega) hy2
      · refine jk_seq ?_
        refine jk_seq ?_
        refine jk_draw (.q 0 (.q 1 (.q 2 (.q 3 (.q 4 (.q 5 (.q 6 (.q 7 (.q 8 (.q 9 (.q 10 (.q 11 (.q 12 (.q 13 (.q 14 (.q 15 .nil)))))))))))))))) [σ] rfl (by kernel_rfl) (by (repeat (first | exact Sel.nil | (apply Sel.cons; (focus ((repeat (first | exact .here | apply Mem.there | apply Take.there)); first | done | fail))))); first | done | fail) ?_
        focus (refine' dj_q rfl _ rfl rfl rfl rfl _; rotate_left; (apply q_move; exact rfl))
        focus (refine' dj_q rfl _ rfl rfl rfl rfl _; rotate_left; (apply q_move; exact rfl))
        focus (refine' dj_q rfl _ rfl rfl rfl rfl _; rotate_left; (apply q_len; exact rfl; exact rfl))
        focus (refine' dj_q rfl _ rfl rfl rfl rfl _; rotate_left; (apply q_lt; exact rfl; exact rfl; omega))
        focus (refine' dj_q rfl _ rfl rfl rfl rfl _; rotate_left; (apply q_move; exact rfl))
        focus (refine' dj_q rfl _ rfl rfl rfl rfl _; rotate_left; (apply q_move; exact rfl))
        focus (refine' dj_q rfl _ rfl rfl rfl rfl _; rotate_left; (apply q_move; exact rfl))
        focus (refine' dj_q rfl _ rfl rfl rfl rfl _; rotate_left; (apply q_idxN; exact rfl; exact rfl; exact rfl; exact rfl; omega))
        focus (refine' dj_q rfl _ rfl rfl rfl rfl _; rotate_left; (apply q_fldZ; exact rfl; exact rfl))
        focus (refine' dj_q rfl _ rfl rfl rfl rfl _; rotate_left; (apply q_load; exact rfl; exact rfl; (first | exact cell_own (by (repeat (first | exact .here | apply Mem.there)); first | done | fail) rfl | exact cellR (by assumption) (by (repeat (first | exact .here | apply Mem.there)); first | done | fail) | exact cellH (by assumption) (by (repeat (first | exact .here | apply Mem.there)); first | done | fail) | exact cell_ints (by (repeat (first | exact .here | apply Mem.there)); first | done | fail) (by omega) | exact cell_bools (by assumption) (by (repeat (first | exact .here | apply Mem.there)); first | done | fail) | exact cell_intsR (by (repeat (first | exact .here | apply Mem.there)); first | done | fail) (by omega) | exact cell_boolsR (by assumption) (by (repeat (first | exact .here | apply Mem.there)); first | done | fail))))
        focus (refine' dj_q rfl _ rfl rfl rfl rfl _; rotate_left; (apply q_move; exact rfl))
        focus (refine' dj_q rfl _ rfl rfl rfl rfl _; rotate_left; (apply q_move; exact rfl))
        focus (refine' dj_q rfl _ rfl rfl rfl rfl _; rotate_left; (apply q_idx1; exact rfl; exact rfl; exact rfl; exact rfl; omega))
        focus (refine' dj_q rfl _ rfl rfl rfl rfl _; rotate_left; (apply q_load; exact rfl; exact rfl; (first | exact cell_own (by (repeat (first | exact .here | apply Mem.there)); first | done | fail) rfl | exact cellR (by assumption) (by (repeat (first | exact .here | apply Mem.there)); first | done | fail) | exact cellH (by assumption) (by (repeat (first | exact .here | apply Mem.there)); first | done | fail) | exact cell_ints (by (repeat (first | exact .here | apply Mem.there)); first | done | fail) (by omega) | exact cell_bools (by assumption) (by (repeat (first | exact .here | apply Mem.there)); first | done | fail) | exact cell_intsR (by (repeat (first | exact .here | apply Mem.there)); first | done | fail) (by omega) | exact cell_boolsR (by assumption) (by (repeat (first | exact .here | apply Mem.there)); first | done | fail))))
        focus (refine' dj_q rfl _ rfl rfl rfl rfl _; rotate_left; (apply q_leF; exact rfl; exact rfl; omega))
        focus (refine' dj_q rfl _ rfl rfl rfl rfl _; rotate_left; (apply q_pick_t; exact rfl; exact rfl))
        refine dj_end ?_
        refine jk_if_f rfl ?_
        refine jk_exit rfl ?_
        exact jk_meet i ⟨hi, hF, fun y hy2 => by rw [hy] at hy2; injection hy2 with hy2; rw [← hy2]; omega⟩ (by (repeat (first | exact trivial | refine And.intro rfl ?_)); first | done | fail) (by (repeat (first | exact Sel.nil | (apply Sel.cons; (focus ((repeat (first | exact .here | apply Mem.there | apply Take.there)); first | done | fail))))); first | done | fail)
    · refine jk_seq ?_
      refine jk_seq ?_
      refine jk_draw (.q 0 (.q 1 (.q 2 (.q 3 (.q 4 (.q 5 (.q 6 (.q 7 (.q 8 (.q 9 (.q 10 (.q 11 (.q 12 (.q 13 (.q 14 (.q 15 .nil)))))))))))))))) [σ] rfl (by kernel_rfl) (by (repeat (first | exact Sel.nil | (apply Sel.cons; (focus ((repeat (first | exact .here | apply Mem.there | apply Take.there)); first | done | fail))))); first | done | fail) ?_
      focus (refine' dj_q rfl _ rfl rfl rfl rfl _; rotate_left; (apply q_move; exact rfl))
      focus (refine' dj_q rfl _ rfl rfl rfl rfl _; rotate_left; (apply q_move; exact rfl))
      focus (refine' dj_q rfl _ rfl rfl rfl rfl _; rotate_left; (apply q_len; exact rfl; exact rfl))
      focus (refine' dj_q rfl _ rfl rfl rfl rfl _; rotate_left; (apply q_ltF; exact rfl; exact rfl; omega))
      focus (refine' dj_q rfl _ rfl rfl rfl rfl _; rotate_left; (apply q_move; exact rfl))
      refine dj_pass rfl rfl rfl rfl rfl ?_
      refine dj_pass rfl rfl rfl rfl rfl ?_
      refine dj_pass rfl rfl rfl rfl rfl ?_
      refine dj_pass rfl rfl rfl rfl rfl ?_
      refine dj_pass rfl rfl rfl rfl rfl ?_
      refine dj_pass rfl rfl rfl rfl rfl ?_
      refine dj_pass rfl rfl rfl rfl rfl ?_
      refine dj_pass rfl rfl rfl rfl rfl ?_
      refine dj_pass rfl rfl rfl rfl rfl ?_
      refine dj_pass rfl rfl rfl rfl rfl ?_
      focus (refine' dj_q rfl _ rfl rfl rfl rfl _; rotate_left; (apply q_pick_f; exact rfl; exact rfl))
      refine dj_end ?_
      refine jk_if_f rfl ?_
      refine jk_exit rfl ?_
      exact jk_meet i ⟨hi, hF, fun y hy2 => by rw [List.getElem?_eq_none (by omega)] at hy2; simp at hy2⟩ (by (repeat (first | exact trivial | refine And.intro rfl ?_)); first | done | fail) (by (repeat (first | exact Sel.nil | (apply Sel.cons; (focus ((repeat (first | exact .here | apply Mem.there | apply Take.there)); first | done | fail))))); first | done | fail)
  rintro i ⟨hi, hF1, hF2⟩
  have hvF := val_idx hi hF1 hF2
  try dsimp only
  refine jk_seq ?_
  refine jk_block ?_
  refine jk_midB (X := Nat) [0, 1, 6, 7, 8, 10, 11] (fun i => i ≤ g.length ∧ (∀ (u : Nat) (y : Lv), u < i → g[u]? = some y → y.a ≤ ts[n]) ∧ ∀ y, g[i]? = some y → ts[n] < y.a) (fun i => [(9, int i)]) (fun _ => [σ]) (by (repeat (first | exact Pick.nil | apply Pick.cons rfl)); first | done | fail) ?_ ?_
  · refine jk_loop [0, 1, 6, 7, 8, 10, 11] (X := Nat) k0 (fun i => i ≤ g.length ∧ ∀ (u : Nat) (y : Lv), u < i → g[u]? = some y → y.a ≤ ts[n]) (fun i => [(9, int i)]) (fun _ => [σ]) (fun i => g.length - i) (by (repeat (first | exact Pick.nil | apply Pick.cons rfl)); first | done | fail) ⟨hk0, fun u y hu hy => hG0 u y hu hy _ htm⟩ (by (repeat (first | exact trivial | refine And.intro rfl ?_)); first | done | fail) (by (repeat (first | exact Sel.nil | (apply Sel.cons; (focus ((repeat (first | exact .here | apply Mem.there | apply Take.there)); first | done | fail))))); first | done | fail) ?_
    rintro k ⟨hk, hG⟩
    by_cases hil : k < g.length
    · have hy := List.getElem?_eq_getElem hil
      obtain ⟨bb, oo, rfl, _, g0, _⟩ := lvRow hrg hy
      by_cases hc : g[k].a ≤ ts[n]
      · refine jk_seq ?_
        refine jk_seq ?_
        refine jk_draw (.q 0 (.q 1 (.q 2 (.q 3 (.q 4 (.q 5 (.q 6 (.q 7 (.q 8 (.q 9 (.q 10 (.q 11 (.q 12 (.q 13 (.q 14 (.q 15 .nil)))))))))))))))) [σ] rfl (by kernel_rfl) (by (repeat (first | exact Sel.nil | (apply Sel.cons; (focus ((repeat (first | exact .here | apply Mem.there | apply Take.there)); first | done | fail))))); first | done | fail) ?_
        focus (refine' dj_q rfl _ rfl rfl rfl rfl _; rotate_left; (apply q_move; exact rfl))
        focus (refine' dj_q rfl _ rfl rfl rfl rfl _; rotate_left; (apply q_move; exact rfl))
        focus (refine' dj_q rfl _ rfl rfl rfl rfl _; rotate_left; (apply q_len; exact rfl; exact rfl))
        focus (refine' dj_q rfl _ rfl rfl rfl rfl _; rotate_left; (apply q_lt; exact rfl; exact rfl; omega))
        focus (refine' dj_q rfl _ rfl rfl rfl rfl _; rotate_left; (apply q_move; exact rfl))
        focus (refine' dj_q rfl _ rfl rfl rfl rfl _; rotate_left; (apply q_move; exact rfl))
        focus (refine' dj_q rfl _ rfl rfl rfl rfl _; rotate_left; (apply q_move; exact rfl))
        focus (refine' dj_q rfl _ rfl rfl rfl rfl _; rotate_left; (apply q_idxN; exact rfl; exact rfl; exact rfl; exact rfl; omega))
        focus (refine' dj_q rfl _ rfl rfl rfl rfl _; rotate_left; (apply q_fldZ; exact rfl; exact rfl))
        focus (refine' dj_q rfl _ rfl rfl rfl rfl _; rotate_left; (apply q_load; exact rfl; exact rfl; (first | exact cell_own (by (repeat (first | exact .here | apply Mem.there)); first | done | fail) rfl | exact cellR (by assumption) (by (repeat (first | exact .here | apply Mem.there)); first | done | fail) | exact cellH (by assumption) (by (repeat (first | exact .here | apply Mem.there)); first | done | fail) | exact cell_ints (by (repeat (first | exact .here | apply Mem.there)); first | done | fail) (by omega) | exact cell_bools (by assumption) (by (repeat (first | exact .here | apply Mem.there)); first | done | fail) | exact cell_intsR (by (repeat (first | exact .here | apply Mem.there)); first | done | fail) (by omega) | exact cell_boolsR (by assumption) (by (repeat (first | exact .here | apply Mem.there)); first | done | fail))))
        focus (refine' dj_q rfl _ rfl rfl rfl rfl _; rotate_left; (apply q_move; exact rfl))
        focus (refine' dj_q rfl _ rfl rfl rfl rfl _; rotate_left; (apply q_move; exact rfl))
        focus (refine' dj_q rfl _ rfl rfl rfl rfl _; rotate_left; (apply q_idx1; exact rfl; exact rfl; exact rfl; exact rfl; omega))
        focus (refine' dj_q rfl _ rfl rfl rfl rfl _; rotate_left; (apply q_load; exact rfl; exact rfl; (first | exact cell_own (by (repeat (first | exact .here | apply Mem.there)); first | done | fail) rfl | exact cellR (by assumption) (by (repeat (first | exact .here | apply Mem.there)); first | done | fail) | exact cellH (by assumption) (by (repeat (first | exact .here | apply Mem.there)); first | done | fail) | exact cell_ints (by (repeat (first | exact .here | apply Mem.there)); first | done | fail) (by omega) | exact cell_bools (by assumption) (by (repeat (first | exact .here | apply Mem.there)); first | done | fail) | exact cell_intsR (by (repeat (first | exact .here | apply Mem.there)); first | done | fail) (by omega) | exact cell_boolsR (by assumption) (by (repeat (first | exact .here | apply Mem.there)); first | done | fail))))
        focus (refine' dj_q rfl _ rfl rfl rfl rfl _; rotate_left; (apply q_le; exact rfl; exact rfl; omega))
        focus (refine' dj_q rfl _ rfl rfl rfl rfl _; rotate_left; (apply q_pick_t; exact rfl; exact rfl))
        refine dj_end ?_
        refine jk_if_t rfl ?_
        refine jk_skip ?_
        refine jk_block ?_
        refine jk_region ?_
        focus (refine' jk_q _ rfl rfl rfl _; rotate_left; (apply q_move; exact rfl))
        focus (refine' jk_q _ rfl rfl rfl _; rotate_left; (apply q_inc; exact rfl; exact rfl; omega))
        focus (refine' jk_q _ rfl rfl rfl _; rotate_left; (apply q_assign; exact rfl))
        refine jk_nil ?_
        refine jk_blk ?_
        refine jk_round (Inv := fun i => i ≤ g.length ∧ ∀ (u : Nat) (y : Lv), u < i → g[u]? = some y → y.a ≤ ts[n]) (k + 1) ⟨by omega, fun u y hu hy2 => ?_⟩ (by omega) (by (repeat (first | exact trivial | refine And.intro rfl ?_)); first | done | fail) (by (repeat (first | exact Sel.nil | (apply Sel.cons; (focus ((repeat (first | exact .here | apply Mem.there | apply Take.there)); first | done | fail))))); first | done | fail)
        by_cases hui : u = k
        · subst hui; rw [hy] at hy2; injection hy2 with hy2; rw [← hy2]; exact hc
        · exact hG u y (by omega) hy2
      · refine jk_seq ?_
        refine jk_seq ?_
        refine jk_draw (.q 0 (.q 1 (.q 2 (.q 3 (.q 4 (.q 5 (.q 6 (.q 7 (.q 8 (.q 9 (.q 10 (.q 11 (.q 12 (.q 13 (.q 14 (.q 15 .nil)))))))))))))))) [σ] rfl (by kernel_rfl) (by (repeat (first | exact Sel.nil | (apply Sel.cons; (focus ((repeat (first | exact .here | apply Mem.there | apply Take.there)); first | done | fail))))); first | done | fail) ?_
        focus (refine' dj_q rfl _ rfl rfl rfl rfl _; rotate_left; (apply q_move; exact rfl))
        focus (refine' dj_q rfl _ rfl rfl rfl rfl _; rotate_left; (apply q_move; exact rfl))
        focus (refine' dj_q rfl _ rfl rfl rfl rfl _; rotate_left; (apply q_len; exact rfl; exact rfl))
        focus (refine' dj_q rfl _ rfl rfl rfl rfl _; rotate_left; (apply q_lt; exact rfl; exact rfl; omega))
        focus (refine' dj_q rfl _ rfl rfl rfl rfl _; rotate_left; (apply q_move; exact rfl))
        focus (refine' dj_q rfl _ rfl rfl rfl rfl _; rotate_left; (apply q_move; exact rfl))
        focus (refine' dj_q rfl _ rfl rfl rfl rfl _; rotate_left; (apply q_move; exact rfl))
        focus (refine' dj_q rfl _ rfl rfl rfl rfl _; rotate_left; (apply q_idxN; exact rfl; exact rfl; exact rfl; exact rfl; omega))
        focus (refine' dj_q rfl _ rfl rfl rfl rfl _; rotate_left; (apply q_fldZ; exact rfl; exact rfl))
        focus (refine' dj_q rfl _ rfl rfl rfl rfl _; rotate_left; (apply q_load; exact rfl; exact rfl; (first | exact cell_own (by (repeat (first | exact .here | apply Mem.there)); first | done | fail) rfl | exact cellR (by assumption) (by (repeat (first | exact .here | apply Mem.there)); first | done | fail) | exact cellH (by assumption) (by (repeat (first | exact .here | apply Mem.there)); first | done | fail) | exact cell_ints (by (repeat (first | exact .here | apply Mem.there)); first | done | fail) (by omega) | exact cell_bools (by assumption) (by (repeat (first | exact .here | apply Mem.there)); first | done | fail) | exact cell_intsR (by (repeat (first | exact .here | apply Mem.there)); first | done | fail) (by omega) | exact cell_boolsR (by assumption) (by (repeat (first | exact .here | apply Mem.there)); first | done | fail))))
        focus (refine' dj_q rfl _ rfl rfl rfl rfl _; rotate_left; (apply q_move; exact rfl))
        focus (refine' dj_q rfl _ rfl rfl rfl rfl _; rotate_left; (apply q_move; exact rfl))
        focus (refine' dj_q rfl _ rfl rfl rfl rfl _; rotate_left; (apply q_idx1; exact rfl; exact rfl; exact rfl; exact rfl; omega))
        focus (refine' dj_q rfl _ rfl rfl rfl rfl _; rotate_left; (apply q_load; exact rfl; exact rfl; (first | exact cell_own (by (repeat (first | exact .here | apply Mem.there)); first | done | fail) rfl | exact cellR (by assumption) (by (repeat (first | exact .here | apply Mem.there)); first | done | fail) | exact cellH (by assumption) (by (repeat (first | exact .here | apply Mem.there)); first | done | fail) | exact cell_ints (by (repeat (first | exact .here | apply Mem.there)); first | done | fail) (by omega) | exact cell_bools (by assumption) (by (repeat (first | exact .here | apply Mem.there)); first | done | fail) | exact cell_intsR (by (repeat (first | exact .here | apply Mem.there)); first | done | fail) (by omega) | exact cell_boolsR (by assumption) (by (repeat (first | exact .here | apply Mem.there)); first | done | fail))))
        focus (refine' dj_q rfl _ rfl rfl rfl rfl _; rotate_left; (apply q_leF; exact rfl; exact rfl; omega))
        focus (refine' dj_q rfl _ rfl rfl rfl rfl _; rotate_left; (apply q_pick_t; exact rfl; exact rfl))
        refine dj_end ?_
        refine jk_if_f rfl ?_
        refine jk_exit rfl ?_
        exact jk_meet k ⟨hk, hG, fun y hy2 => by rw [hy] at hy2; injection hy2 with hy2; rw [← hy2]; omega⟩ (by (repeat (first | exact trivial | refine And.intro rfl ?_)); first | done | fail) (by (repeat (first | exact Sel.nil | (apply Sel.cons; (focus ((repeat (first | exact .here | apply Mem.there | apply Take.there)); first | done | fail))))); first | done | fail)
    · refine jk_seq ?_
      refine jk_seq ?_
      refine jk_draw (.q 0 (.q 1 (.q 2 (.q 3 (.q 4 (.q 5 (.q 6 (.q 7 (.q 8 (.q 9 (.q 10 (.q 11 (.q 12 (.q 13 (.q 14 (.q 15 .nil)))))))))))))))) [σ] rfl (by kernel_rfl) (by (repeat (first | exact Sel.nil | (apply Sel.cons; (focus ((repeat (first | exact .here | apply Mem.there | apply Take.there)); first | done | fail))))); first | done | fail) ?_
      focus (refine' dj_q rfl _ rfl rfl rfl rfl _; rotate_left; (apply q_move; exact rfl))
      focus (refine' dj_q rfl _ rfl rfl rfl rfl _; rotate_left; (apply q_move; exact rfl))
      focus (refine' dj_q rfl _ rfl rfl rfl rfl _; rotate_left; (apply q_len; exact rfl; exact rfl))
      focus (refine' dj_q rfl _ rfl rfl rfl rfl _; rotate_left; (apply q_ltF; exact rfl; exact rfl; omega))
      focus (refine' dj_q rfl _ rfl rfl rfl rfl _; rotate_left; (apply q_move; exact rfl))
      refine dj_pass rfl rfl rfl rfl rfl ?_
      refine dj_pass rfl rfl rfl rfl rfl ?_
      refine dj_pass rfl rfl rfl rfl rfl ?_
      refine dj_pass rfl rfl rfl rfl rfl ?_
      refine dj_pass rfl rfl rfl rfl rfl ?_
      refine dj_pass rfl rfl rfl rfl rfl ?_
      refine dj_pass rfl rfl rfl rfl rfl ?_
      refine dj_pass rfl rfl rfl rfl rfl ?_
      refine dj_pass rfl rfl rfl rfl rfl ?_
      refine dj_pass rfl rfl rfl rfl rfl ?_
      focus (refine' dj_q rfl _ rfl rfl rfl rfl _; rotate_left; (apply q_pick_f; exact rfl; exact rfl))
      refine dj_end ?_
      refine jk_if_f rfl ?_
      refine jk_exit rfl ?_
      exact jk_meet k ⟨hk, hG, fun y hy2 => by rw [List.getElem?_eq_none (by omega)] at hy2; simp at hy2⟩ (by (repeat (first | exact trivial | refine And.intro rfl ?_)); first | done | fail) (by (repeat (first | exact Sel.nil | (apply Sel.cons; (focus ((repeat (first | exact .here | apply Mem.there | apply Take.there)); first | done | fail))))); first | done | fail)
  rintro k ⟨hk, hG1, hG2⟩
  have hvG := val_idx hk hG1 hG2
  try dsimp only
  refine jk_seq ?_
  refine jk_region ?_
  focus (refine' jk_q _ rfl rfl rfl _; rotate_left; (apply q_assign; exact rfl))
  refine jk_nil ?_
  refine jk_seq ?_
  refine jk_mid (X := Unit) [0, 1, 6, 7, 8, 9, 10, 11] (fun _ => True) (fun _ => [(12, int (val f ts[n]))]) (fun _ => [σ]) (by (repeat (first | exact Pick.nil | apply Pick.cons rfl)); first | done | fail) ?_ ?_
  · rw [hvF]
    rcases Nat.eq_zero_or_pos i with h0 | h0
    · subst h0
      refine jk_seq ?_
      refine jk_region ?_
      focus (refine' jk_q _ rfl rfl rfl _; rotate_left; (apply q_move; exact rfl))
      focus (refine' jk_q _ rfl rfl rfl _; rotate_left; (apply q_gtF; exact rfl; exact rfl; omega))
      refine jk_nil ?_
      refine jk_if_f rfl ?_
      refine jk_skip ?_
      exact jk_meet () trivial (by (repeat (first | exact trivial | refine And.intro rfl ?_)); first | done | fail) (by (repeat (first | exact Sel.nil | (apply Sel.cons; (focus ((repeat (first | exact .here | apply Mem.there | apply Take.there)); first | done | fail))))); first | done | fail)
    · obtain ⟨j, rfl⟩ : ∃ j, i = j + 1 := ⟨i - 1, by omega⟩
      have ej : j + 1 - 1 = j := by omega
      obtain ⟨bb, oo, rfl, _, _, g1⟩ := lvRow hrf (List.getElem?_eq_getElem (show j < f.length by omega))
      rw [prV_succ (show j < f.length by omega)]
      refine jk_seq ?_
      refine jk_region ?_
      focus (refine' jk_q _ rfl rfl rfl _; rotate_left; (apply q_move; exact rfl))
      focus (refine' jk_q _ rfl rfl rfl _; rotate_left; (apply q_gt; exact rfl; exact rfl; omega))
      refine jk_nil ?_
      refine jk_if_t rfl ?_
      refine jk_region ?_
      focus (refine' jk_q _ rfl rfl rfl _; rotate_left; (apply q_move; exact rfl))
      focus (refine' jk_q _ rfl rfl rfl _; rotate_left; (apply q_move; exact rfl))
      focus (refine' jk_q _ rfl rfl rfl _; rotate_left; (apply q_sub_nat; exact rfl; exact rfl; omega; omega))
      focus (refine' jk_q _ rfl rfl rfl _; rotate_left; (apply q_idxN; exact rfl; exact rfl; exact rfl; exact rfl; omega))
      focus (refine' jk_q _ rfl rfl rfl _; rotate_left; (apply q_fld; exact rfl; exact rfl))
      focus (refine' jk_q _ rfl rfl rfl _; rotate_left; (apply q_load; exact rfl; exact rfl; (first | exact cell_own (by (repeat (first | exact .here | apply Mem.there)); first | done | fail) rfl | exact cellR (by assumption) (by (repeat (first | exact .here | apply Mem.there)); first | done | fail) | exact cellH (by assumption) (by (repeat (first | exact .here | apply Mem.there)); first | done | fail) | exact cell_ints (by (repeat (first | exact .here | apply Mem.there)); first | done | fail) (by omega) | exact cell_bools (by assumption) (by (repeat (first | exact .here | apply Mem.there)); first | done | fail) | exact cell_intsR (by (repeat (first | exact .here | apply Mem.there)); first | done | fail) (by omega) | exact cell_boolsR (by assumption) (by (repeat (first | exact .here | apply Mem.there)); first | done | fail))))
      focus (refine' jk_q _ rfl rfl rfl _; rotate_left; (apply q_assign; exact rfl))
      refine jk_nil ?_
      focus ((rw [ej]))
      exact jk_meet () trivial (by (repeat (first | exact trivial | refine And.intro rfl ?_)); first | done | fail) (by (repeat (first | exact Sel.nil | (apply Sel.cons; (focus ((repeat (first | exact .here | apply Mem.there | apply Take.there)); first | done | fail))))); first | done | fail)
  rintro _ _
  refine jk_seq ?_
  refine jk_mid (X := Unit) [0, 1, 6, 7, 8, 9, 10, 11] (fun _ => True) (fun _ => [(12, int (val f ts[n] + val g ts[n]))]) (fun _ => [σ]) (by (repeat (first | exact Pick.nil | apply Pick.cons rfl)); first | done | fail) ?_ ?_
  · have hb1 := hvf ts[n]
    have hb2 := hvg ts[n]
    rw [hvG] at hb2
    rw [hvG]
    rcases Nat.eq_zero_or_pos k with h0 | h0
    · subst h0
      have ez : val f ts[n] + prV g 0 = val f ts[n] := by simp [prV]
      rw [ez]
      refine jk_seq ?_
      refine jk_region ?_
      focus (refine' jk_q _ rfl rfl rfl _; rotate_left; (apply q_move; exact rfl))
      focus (refine' jk_q _ rfl rfl rfl _; rotate_left; (apply q_gtF; exact rfl; exact rfl; omega))
      refine jk_nil ?_
      refine jk_if_f rfl ?_
      refine jk_skip ?_
      exact jk_meet () trivial (by (repeat (first | exact trivial | refine And.intro rfl ?_)); first | done | fail) (by (repeat (first | exact Sel.nil | (apply Sel.cons; (focus ((repeat (first | exact .here | apply Mem.there | apply Take.there)); first | done | fail))))); first | done | fail)
    · obtain ⟨j, rfl⟩ : ∃ j, k = j + 1 := ⟨k - 1, by omega⟩
      have ej : j + 1 - 1 = j := by omega
      obtain ⟨bb, oo, rfl, _, _, g1⟩ := lvRow hrg (List.getElem?_eq_getElem (show j < g.length by omega))
      rw [prV_succ (show j < g.length by omega)] at hb2 ⊢
      refine jk_seq ?_
      refine jk_region ?_
      focus (refine' jk_q _ rfl rfl rfl _; rotate_left; (apply q_move; exact rfl))
      focus (refine' jk_q _ rfl rfl rfl _; rotate_left; (apply q_gt; exact rfl; exact rfl; omega))
      refine jk_nil ?_
      refine jk_if_t rfl ?_
      refine jk_region ?_
      focus (refine' jk_q _ rfl rfl rfl _; rotate_left; (apply q_move; exact rfl))
      focus (refine' jk_q _ rfl rfl rfl _; rotate_left; (apply q_move; exact rfl))
      focus (refine' jk_q _ rfl rfl rfl _; rotate_left; (apply q_move; exact rfl))
      focus (refine' jk_q _ rfl rfl rfl _; rotate_left; (apply q_sub_nat; exact rfl; exact rfl; omega; omega))
      focus (refine' jk_q _ rfl rfl rfl _; rotate_left; (apply q_idxN; exact rfl; exact rfl; exact rfl; exact rfl; omega))
      focus (refine' jk_q _ rfl rfl rfl _; rotate_left; (apply q_fld; exact rfl; exact rfl))
      focus (refine' jk_q _ rfl rfl rfl _; rotate_left; (apply q_load; exact rfl; exact rfl; (first | exact cell_own (by (repeat (first | exact .here | apply Mem.there)); first | done | fail) rfl | exact cellR (by assumption) (by (repeat (first | exact .here | apply Mem.there)); first | done | fail) | exact cellH (by assumption) (by (repeat (first | exact .here | apply Mem.there)); first | done | fail) | exact cell_ints (by (repeat (first | exact .here | apply Mem.there)); first | done | fail) (by omega) | exact cell_bools (by assumption) (by (repeat (first | exact .here | apply Mem.there)); first | done | fail) | exact cell_intsR (by (repeat (first | exact .here | apply Mem.there)); first | done | fail) (by omega) | exact cell_boolsR (by assumption) (by (repeat (first | exact .here | apply Mem.there)); first | done | fail))))
      focus (refine' jk_q _ rfl rfl rfl _; rotate_left; (apply q_add; exact rfl; exact rfl; exact ⟨by omega, by omega⟩))
      focus (refine' jk_q _ rfl rfl rfl _; rotate_left; (apply q_assign; exact rfl))
      refine jk_nil ?_
      focus ((rw [ej]))
      exact jk_meet () trivial (by (repeat (first | exact trivial | refine And.intro rfl ?_)); first | done | fail) (by (repeat (first | exact Sel.nil | (apply Sel.cons; (focus ((repeat (first | exact .here | apply Mem.there | apply Take.there)); first | done | fail))))); first | done | fail)
  rintro _ _
  have hsn := comb_snoc (fun t => val f t + val g t) ts hlt
  have hcl2 := comb_len (fun t => val f t + val g t) (ts.take n) 0
  have hls : lastF (fun t => val f t + val g t) ts (n + 1) = val f ts[n] + val g ts[n] := by simp [lastF, List.getD_eq_getElem?_getD, hlt]
  rw [List.length_take] at hcl2
  have hF3 : ∀ (u : Nat) (y : Lv), u < i → f[u]? = some y → ∀ t ∈ ts.drop (n + 1), y.a ≤ t := fun u y hu hy t ht => by have := hF1 u y hu hy; have := hnext t ht; omega
  have hG3 : ∀ (u : Nat) (y : Lv), u < k → g[u]? = some y → ∀ t ∈ ts.drop (n + 1), y.a ≤ t := fun u y hu hy t ht => by have := hG1 u y hu hy; have := hnext t ht; omega
  by_cases d1 : val f ts[n] + val g ts[n] < -1125899906842624
  · refine jk_seq ?_
    refine jk_seq ?_
    refine jk_region ?_
    focus (refine' jk_q _ rfl rfl rfl _; rotate_left; (apply q_move; exact rfl))
    focus (refine' jk_q _ rfl rfl rfl _; rotate_left; (apply q_lt; exact rfl; exact rfl; omega))
    focus (refine' jk_q _ rfl rfl rfl _; rotate_left; (apply q_move; exact rfl))
    refine jk_pass rfl rfl rfl ?_
    refine jk_pass rfl rfl rfl ?_
    focus (refine' jk_q _ rfl rfl rfl _; rotate_left; (apply q_pick_t; exact rfl; exact rfl))
    refine jk_nil ?_
    refine jk_if_t rfl ?_
    refine jk_seq ?_
    refine jk_region ?_
    focus (refine' jk_op _ rfl rfl rfl _; rotate_left; (apply l_buildSlice; exact rfl; exact rfl; exact rfl; exact rfl; exact rfl; exact (by (repeat (first | exact (fun v hv => absurd hv List.not_mem_nil) | (refine List.forall_mem_cons.2 ⟨?_, ?_⟩; (focus (first | exact rfl | assumption))))); first | done | fail); exact (by (repeat (first | exact Flat.nil | apply Flat.one rfl | apply Flat.agg2 | apply Flat.agg3 | apply Flat.agg1 | apply Flat.agg4 | apply Flat.agg5)); first | done | fail); exact rfl); rintro _ _ ⟨b, rfl, rfl⟩)
    focus (refine' jk_q _ rfl rfl rfl _; rotate_left; (apply q_assign; exact rfl))
    focus (refine' jk_q _ rfl rfl rfl _; rotate_left; (apply q_assign; exact rfl))
    refine jk_nil ?_
    exact jk_ret_any (res2 rfl rfl rfl) (by (repeat (first | exact rs_nil | (refine rs_cons ?_ ?_; (focus ((repeat (first | exact .here | apply Mem.there | apply Take.there)); first | done | fail))) | exact fun ρ hρ => hρ | (intro ρ hρ; repeat (first | exact hρ | refine List.mem_cons_of_mem _ ?_)))); first | done | fail) (by (repeat (first | exact Sel.nil | (apply Sel.cons; (focus ((repeat (first | exact .here | apply Mem.there | apply Take.there)); first | done | fail))))); first | done | fail) ⟨_, ⟨_, [], _, rfl, OwnS.empty, .inl ⟨⟨ts[n], List.getElem_mem hlt, by unfold okV; dsimp only; omega⟩, rfl, rfl⟩⟩, rfl⟩
  by_cases d2 : 1125899906842624 < val f ts[n] + val g ts[n]
  · refine jk_seq ?_
    refine jk_seq ?_
    refine jk_region ?_
    focus (refine' jk_q _ rfl rfl rfl _; rotate_left; (apply q_move; exact rfl))
    focus (refine' jk_q _ rfl rfl rfl _; rotate_left; (apply q_ltF; exact rfl; exact rfl; omega))
    focus (refine' jk_q _ rfl rfl rfl _; rotate_left; (apply q_move; exact rfl))
    focus (refine' jk_q _ rfl rfl rfl _; rotate_left; (apply q_move; exact rfl))
    focus (refine' jk_q _ rfl rfl rfl _; rotate_left; (apply q_gt; exact rfl; exact rfl; omega))
    focus (refine' jk_q _ rfl rfl rfl _; rotate_left; (apply q_pick_f; exact rfl; exact rfl))
    refine jk_nil ?_
    refine jk_if_t rfl ?_
    refine jk_seq ?_
    refine jk_region ?_
    focus (refine' jk_op _ rfl rfl rfl _; rotate_left; (apply l_buildSlice; exact rfl; exact rfl; exact rfl; exact rfl; exact rfl; exact (by (repeat (first | exact (fun v hv => absurd hv List.not_mem_nil) | (refine List.forall_mem_cons.2 ⟨?_, ?_⟩; (focus (first | exact rfl | assumption))))); first | done | fail); exact (by (repeat (first | exact Flat.nil | apply Flat.one rfl | apply Flat.agg2 | apply Flat.agg3 | apply Flat.agg1 | apply Flat.agg4 | apply Flat.agg5)); first | done | fail); exact rfl); rintro _ _ ⟨b, rfl, rfl⟩)
    focus (refine' jk_q _ rfl rfl rfl _; rotate_left; (apply q_assign; exact rfl))
    focus (refine' jk_q _ rfl rfl rfl _; rotate_left; (apply q_assign; exact rfl))
    refine jk_nil ?_
    exact jk_ret_any (res2 rfl rfl rfl) (by (repeat (first | exact rs_nil | (refine rs_cons ?_ ?_; (focus ((repeat (first | exact .here | apply Mem.there | apply Take.there)); first | done | fail))) | exact fun ρ hρ => hρ | (intro ρ hρ; repeat (first | exact hρ | refine List.mem_cons_of_mem _ ?_)))); first | done | fail) (by (repeat (first | exact Sel.nil | (apply Sel.cons; (focus ((repeat (first | exact .here | apply Mem.there | apply Take.there)); first | done | fail))))); first | done | fail) ⟨_, ⟨_, [], _, rfl, OwnS.empty, .inl ⟨⟨ts[n], List.getElem_mem hlt, by unfold okV; dsimp only; omega⟩, rfl, rfl⟩⟩, rfl⟩
  have hok' : ∀ t ∈ ts.take (n + 1), okV (val f t + val g t) := fun t ht => by
    rw [mem_take_iff hlt] at ht
    rcases ht with ht | rfl
    · exact hok t ht
    · unfold okV; omega
  by_cases d3 : val f ts[n] + val g ts[n] = lastF (fun t => val f t + val g t) ts n
  · rw [if_neg (by simpa using d3), List.append_nil] at hsn
    refine jk_seq ?_
    refine jk_seq ?_
    refine jk_region ?_
    focus (refine' jk_q _ rfl rfl rfl _; rotate_left; (apply q_move; exact rfl))
    focus (refine' jk_q _ rfl rfl rfl _; rotate_left; (apply q_ltF; exact rfl; exact rfl; omega))
    focus (refine' jk_q _ rfl rfl rfl _; rotate_left; (apply q_move; exact rfl))
    focus (refine' jk_q _ rfl rfl rfl _; rotate_left; (apply q_move; exact rfl))
    focus (refine' jk_q _ rfl rfl rfl _; rotate_left; (apply q_gtF; exact rfl; exact rfl; omega))
    focus (refine' jk_q _ rfl rfl rfl _; rotate_left; (apply q_pick_f; exact rfl; exact rfl))
    refine jk_nil ?_
    refine jk_if_f rfl ?_
    refine jk_skip ?_
    refine jk_seq ?_
    refine jk_seq ?_
    refine jk_region ?_
    focus (refine' jk_q _ rfl rfl rfl _; rotate_left; (apply q_move; exact rfl))
    focus (refine' jk_q _ rfl rfl rfl _; rotate_left; (apply q_move; exact rfl))
    focus (refine' jk_q _ rfl rfl rfl _; rotate_left; (apply q_neF; exact rfl; exact rfl; omega))
    refine jk_nil ?_
    refine jk_if_f rfl ?_
    refine jk_skip ?_
    refine jk_region ?_
    focus (refine' jk_q _ rfl rfl rfl _; rotate_left; (apply q_move; exact rfl))
    focus (refine' jk_q _ rfl rfl rfl _; rotate_left; (apply q_assign; exact rfl))
    refine jk_nil ?_
    refine jk_blk ?_
    refine jk_region ?_
    focus (refine' jk_q _ rfl rfl rfl _; rotate_left; (apply q_move; exact rfl))
    focus (refine' jk_q _ rfl rfl rfl _; rotate_left; (apply q_inc; exact rfl; exact rfl; omega))
    focus (refine' jk_q _ rfl rfl rfl _; rotate_left; (apply q_assign; exact rfl))
    refine jk_nil ?_
    refine jk_round ((n + 1, (i, k)), (u, σ)) ⟨by dsimp only; omega, hi, hk, hF3, hG3, hok', by dsimp only; rw [hsn]; exact hO⟩ (by dsimp only; omega) (by dsimp only; rw [hls]; exact (by (repeat (first | exact trivial | refine And.intro rfl ?_)); first | done | fail)) (by (repeat (first | exact Sel.nil | (apply Sel.cons; (focus ((repeat (first | exact .here | apply Mem.there | apply Take.there)); first | done | fail))))); first | done | fail)
  · rw [if_pos (by simpa using d3)] at hsn
    refine jk_seq ?_
    refine jk_seq ?_
    refine jk_region ?_
    focus (refine' jk_q _ rfl rfl rfl _; rotate_left; (apply q_move; exact rfl))
    focus (refine' jk_q _ rfl rfl rfl _; rotate_left; (apply q_ltF; exact rfl; exact rfl; omega))
    focus (refine' jk_q _ rfl rfl rfl _; rotate_left; (apply q_move; exact rfl))
    focus (refine' jk_q _ rfl rfl rfl _; rotate_left; (apply q_move; exact rfl))
    focus (refine' jk_q _ rfl rfl rfl _; rotate_left; (apply q_gtF; exact rfl; exact rfl; omega))
    focus (refine' jk_q _ rfl rfl rfl _; rotate_left; (apply q_pick_f; exact rfl; exact rfl))
    refine jk_nil ?_
    refine jk_if_f rfl ?_
    refine jk_skip ?_
    refine jk_seq ?_
    refine jk_seq ?_
    refine jk_region ?_
    focus (refine' jk_q _ rfl rfl rfl _; rotate_left; (apply q_move; exact rfl))
    focus (refine' jk_q _ rfl rfl rfl _; rotate_left; (apply q_move; exact rfl))
    focus (refine' jk_q _ rfl rfl rfl _; rotate_left; (apply q_ne; exact rfl; exact rfl; omega))
    refine jk_nil ?_
    refine jk_if_t rfl ?_
    refine jk_region ?_
    focus (refine' jk_q _ rfl rfl rfl _; rotate_left; (apply q_move; exact rfl))
    focus (refine' jk_q _ rfl rfl rfl _; rotate_left; (apply q_move; exact rfl))
    focus (refine' jk_q _ rfl rfl rfl _; rotate_left; (apply q_move; exact rfl))
    focus (refine' jk_q _ rfl rfl rfl _; rotate_left; (apply q_idx1; exact rfl; exact rfl; exact rfl; exact rfl; omega))
    focus (refine' jk_q _ rfl rfl rfl _; rotate_left; (apply q_load; exact rfl; exact rfl; (first | exact cell_own (by (repeat (first | exact .here | apply Mem.there)); first | done | fail) rfl | exact cellR (by assumption) (by (repeat (first | exact .here | apply Mem.there)); first | done | fail) | exact cellH (by assumption) (by (repeat (first | exact .here | apply Mem.there)); first | done | fail) | exact cell_ints (by (repeat (first | exact .here | apply Mem.there)); first | done | fail) (by omega) | exact cell_bools (by assumption) (by (repeat (first | exact .here | apply Mem.there)); first | done | fail) | exact cell_intsR (by (repeat (first | exact .here | apply Mem.there)); first | done | fail) (by omega) | exact cell_boolsR (by assumption) (by (repeat (first | exact .here | apply Mem.there)); first | done | fail))))
    focus (refine' jk_q _ rfl rfl rfl _; rotate_left; (apply q_move; exact rfl))
    focus (refine' jk_q _ rfl rfl rfl _; rotate_left; (apply q_build; exact rfl; exact rfl; exact (by (repeat (first | exact Bld.nil | apply Bld.put rfl rfl rfl | apply Bld.keep rfl)); first | done | fail)))
    focus (refine' jk_op _ rfl rfl rfl _; rotate_left; (apply l_buildSlice; exact rfl; exact rfl; exact rfl; exact rfl; exact rfl; exact (by (repeat (first | exact (fun v hv => absurd hv List.not_mem_nil) | (refine List.forall_mem_cons.2 ⟨?_, ?_⟩; (focus (first | exact rfl | assumption))))); first | done | fail); exact (by (repeat (first | exact Flat.nil | apply Flat.one rfl | apply Flat.agg2 | apply Flat.agg3 | apply Flat.agg1 | apply Flat.agg4 | apply Flat.agg5)); first | done | fail); exact rfl); rintro _ _ ⟨b, rfl, rfl⟩)
    refine jk_op (l_append (by_ := 16) (s := 2) (news := [int ts[n], int (val f ts[n] + val g ts[n])]) rfl rfl rfl rfl rfl rfl rfl hO (by (repeat (first | exact .here | apply Take.there)); first | done | fail) (cells_own (by (repeat (first | exact .here | apply Mem.there)); first | done | fail)) rfl (by (repeat (first | exact (fun v hv => absurd hv List.not_mem_nil) | (refine List.forall_mem_cons.2 ⟨?_, ?_⟩; (focus (first | exact rfl | assumption))))); first | done | fail) (by omega) (by simp only [maxLen]; omega) (by omega)) rfl rfl rfl ?_
    rintro u1 _ ⟨σ1, hO1, rfl⟩
    focus (refine' jk_q _ rfl rfl rfl _; rotate_left; (apply q_assign; exact rfl))
    refine jk_nil ?_
    refine jk_region ?_
    focus (refine' jk_q _ rfl rfl rfl _; rotate_left; (apply q_move; exact rfl))
    focus (refine' jk_q _ rfl rfl rfl _; rotate_left; (apply q_assign; exact rfl))
    refine jk_nil ?_
    refine jk_blk ?_
    refine jk_region ?_
    focus (refine' jk_q _ rfl rfl rfl _; rotate_left; (apply q_move; exact rfl))
    focus (refine' jk_q _ rfl rfl rfl _; rotate_left; (apply q_inc; exact rfl; exact rfl; omega))
    focus (refine' jk_q _ rfl rfl rfl _; rotate_left; (apply q_assign; exact rfl))
    refine jk_nil ?_
    refine jk_round ((n + 1, (i, k)), (u1, σ1)) ⟨by dsimp only; omega, hi, hk, hF3, hG3, hok', ?_⟩ (by dsimp only; omega) (by dsimp only; rw [hls]; exact (by (repeat (first | exact trivial | refine And.intro rfl ?_)); first | done | fail)) (by (repeat (first | exact Sel.nil | (apply Sel.cons; (focus ((repeat (first | exact .here | apply Mem.there | apply Take.there)); first | done | fail))))); first | done | fail)
    dsimp only
    rw [hsn, List.length_append, List.flatMap_append]
    exact hO1
theorem refSum_spec (ρ τ : PH) (v w : Value) (f g : List Lv) (hv : LvAt ρ v f) (hw : LvAt τ w g) (hl : f.length ≤ 9223372036854775807) (hl2 : g.length ≤ 9223372036854775807) :
    Makes Try.prog (fv 15) [v, w] [ρ, τ] (fun r σ => ∃ u out e, r = .tuple #[u, int e] ∧ OwnS 33 2 u out.length (out.flatMap encV) σ ∧ SumR f g out e) := by
  have hv2 := hv
  have hw2 := hw
  obtain ⟨qf, cf, rfl, _⟩ := hv.val encV_len
  obtain ⟨qg, cg, rfl, _⟩ := hw.val encV_len
  refine spec_in (cap := []) Try.func15 rfl rfl Try.ntmps15 rfl (by (repeat (first | exact EnvA.nil EnvI.nil | apply EnvA.cons | apply EnvA.nil | exact EnvI.nil | apply EnvI.cons)); first | done | fail) (fun N β => ?_)
  refine jk_seq ?_
  refine jk_region ?_
  focus (refine' jk_q _ rfl rfl rfl _; rotate_left; (apply q_assign; exact rfl))
  focus (refine' jk_q _ rfl rfl rfl _; rotate_left; (apply q_assign; exact rfl))
  refine jk_nil ?_
  refine jk_seq ?_
  refine jk_seq ?_
  refine jk_region ?_
  focus (refine' jk_q _ rfl rfl rfl _; rotate_left; (apply q_move; exact rfl))
  refine jk_call (refStepCheck_spec ρ _ f hv2 hl) rfl rfl (by (repeat (first | exact RdOK.nil | (refine RdOK.consR ?_ ?_; (focus ((repeat (first | exact .here | apply Mem.there | apply Take.there)); first | done | fail))) | (refine RdOK.consH ?_ ?_; (focus ((repeat (first | exact .here | apply Mem.there | apply Take.there)); first | done | fail))) | exact (fun τ hτ => .inl (by simp [hτ])))); first | done | fail) rfl rfl ?_
  rintro _ rfl
  by_cases h0 : chkS f = 0
  rotate_left
  · focus (refine' jk_q _ rfl rfl rfl _; rotate_left; (apply q_ne; exact rfl; exact rfl; omega))
    focus (refine' jk_q _ rfl rfl rfl _; rotate_left; (apply q_move; exact rfl))
    refine jk_pass rfl rfl rfl ?_
    refine jk_pass rfl rfl rfl ?_
    refine jk_pass rfl rfl rfl ?_
    focus (refine' jk_q _ rfl rfl rfl _; rotate_left; (apply q_pick_t; exact rfl; exact rfl))
    refine jk_nil ?_
    refine jk_if_t rfl ?_
    refine jk_seq ?_
    refine jk_region ?_
    focus (refine' jk_op _ rfl rfl rfl _; rotate_left; (apply l_buildSlice; exact rfl; exact rfl; exact rfl; exact rfl; exact rfl; exact (by (repeat (first | exact (fun v hv => absurd hv List.not_mem_nil) | (refine List.forall_mem_cons.2 ⟨?_, ?_⟩; (focus (first | exact rfl | assumption))))); first | done | fail); exact (by (repeat (first | exact Flat.nil | apply Flat.one rfl | apply Flat.agg2 | apply Flat.agg3 | apply Flat.agg1 | apply Flat.agg4 | apply Flat.agg5)); first | done | fail); exact rfl); rintro _ _ ⟨b, rfl, rfl⟩)
    focus (refine' jk_q _ rfl rfl rfl _; rotate_left; (apply q_assign; exact rfl))
    focus (refine' jk_q _ rfl rfl rfl _; rotate_left; (apply q_assign; exact rfl))
    refine jk_nil ?_
    exact jk_ret_any (res2 rfl rfl rfl) (by (repeat (first | exact rs_nil | (refine rs_cons ?_ ?_; (focus ((repeat (first | exact .here | apply Mem.there | apply Take.there)); first | done | fail))) | exact fun ρ hρ => hρ | (intro ρ hρ; repeat (first | exact hρ | refine List.mem_cons_of_mem _ ?_)))); first | done | fail) (by (repeat (first | exact Sel.nil | (apply Sel.cons; (focus ((repeat (first | exact .here | apply Mem.there | apply Take.there)); first | done | fail))))); first | done | fail) ⟨_, ⟨_, [], _, rfl, OwnS.empty, .inl ⟨.inl h0, rfl, rfl⟩⟩, rfl⟩
  focus (refine' jk_q _ rfl rfl rfl _; rotate_left; (apply q_neF; exact rfl; exact rfl; omega))
  focus (refine' jk_q _ rfl rfl rfl _; rotate_left; (apply q_move; exact rfl))
  focus (refine' jk_q _ rfl rfl rfl _; rotate_left; (apply q_move; exact rfl))
  refine jk_call (refStepCheck_spec τ _ g hw2 hl2) rfl rfl (by (repeat (first | exact RdOK.nil | (refine RdOK.consR ?_ ?_; (focus ((repeat (first | exact .here | apply Mem.there | apply Take.there)); first | done | fail))) | (refine RdOK.consH ?_ ?_; (focus ((repeat (first | exact .here | apply Mem.there | apply Take.there)); first | done | fail))) | exact (fun τ hτ => .inl (by simp [hτ])))); first | done | fail) rfl rfl ?_
  rintro _ rfl
  by_cases h1 : chkS g = 0
  rotate_left
  · focus (refine' jk_q _ rfl rfl rfl _; rotate_left; (apply q_ne; exact rfl; exact rfl; omega))
    focus (refine' jk_q _ rfl rfl rfl _; rotate_left; (apply q_pick_f; exact rfl; exact rfl))
    refine jk_nil ?_
    refine jk_if_t rfl ?_
    refine jk_seq ?_
    refine jk_region ?_
    focus (refine' jk_op _ rfl rfl rfl _; rotate_left; (apply l_buildSlice; exact rfl; exact rfl; exact rfl; exact rfl; exact rfl; exact (by (repeat (first | exact (fun v hv => absurd hv List.not_mem_nil) | (refine List.forall_mem_cons.2 ⟨?_, ?_⟩; (focus (first | exact rfl | assumption))))); first | done | fail); exact (by (repeat (first | exact Flat.nil | apply Flat.one rfl | apply Flat.agg2 | apply Flat.agg3 | apply Flat.agg1 | apply Flat.agg4 | apply Flat.agg5)); first | done | fail); exact rfl); rintro _ _ ⟨b, rfl, rfl⟩)
    focus (refine' jk_q _ rfl rfl rfl _; rotate_left; (apply q_assign; exact rfl))
    focus (refine' jk_q _ rfl rfl rfl _; rotate_left; (apply q_assign; exact rfl))
    refine jk_nil ?_
    exact jk_ret_any (res2 rfl rfl rfl) (by (repeat (first | exact rs_nil | (refine rs_cons ?_ ?_; (focus ((repeat (first | exact .here | apply Mem.there | apply Take.there)); first | done | fail))) | exact fun ρ hρ => hρ | (intro ρ hρ; repeat (first | exact hρ | refine List.mem_cons_of_mem _ ?_)))); first | done | fail) (by (repeat (first | exact Sel.nil | (apply Sel.cons; (focus ((repeat (first | exact .here | apply Mem.there | apply Take.there)); first | done | fail))))); first | done | fail) ⟨_, ⟨_, [], _, rfl, OwnS.empty, .inl ⟨.inr h1, rfl, rfl⟩⟩, rfl⟩
  have hA := (chkS_ok h0).2
  have hB := (chkS_ok h1).2
  focus (refine' jk_q _ rfl rfl rfl _; rotate_left; (apply q_neF; exact rfl; exact rfl; omega))
  focus (refine' jk_q _ rfl rfl rfl _; rotate_left; (apply q_pick_f; exact rfl; exact rfl))
  refine jk_nil ?_
  refine jk_if_f rfl ?_
  refine jk_skip ?_
  refine jk_seq ?_
  refine jk_region ?_
  focus (refine' jk_q _ rfl rfl rfl _; rotate_left; (apply q_move; exact rfl))
  focus (refine' jk_q _ rfl rfl rfl _; rotate_left; (apply q_move; exact rfl))
  refine jk_callM (refSum0_spec ρ τ _ _ f g hv2 hw2 hA.t hB.t (chkS_ok h0).1 (chkS_ok h1).1 (fun l hl => by have := hA.gt l hl; omega) (fun l hl => by have := hB.gt l hl; omega)) rfl rfl (by (repeat (first | exact RdOK.nil | (refine RdOK.consR ?_ ?_; (focus ((repeat (first | exact .here | apply Mem.there | apply Take.there)); first | done | fail))) | (refine RdOK.consH ?_ ?_; (focus ((repeat (first | exact .here | apply Mem.there | apply Take.there)); first | done | fail))) | exact (fun τ hτ => .inl (by simp [hτ])))); first | done | fail) rfl rfl ?_
  rintro _ σ ⟨u, out, e, rfl, hO, hP⟩
  focus (refine' jk_q _ rfl rfl rfl _; rotate_left; (apply q_extract; exact rfl; exact rfl))
  focus (refine' jk_q _ rfl rfl rfl _; rotate_left; (apply q_extract; exact rfl; exact rfl))
  focus (refine' jk_q _ rfl rfl rfl _; rotate_left; (apply q_assign; exact rfl))
  focus (refine' jk_q _ rfl rfl rfl _; rotate_left; (apply q_assign; exact rfl))
  refine jk_nil ?_
  exact jk_ret_any (res2 rfl rfl rfl) (by (repeat (first | exact rs_nil | (refine rs_cons ?_ ?_; (focus ((repeat (first | exact .here | apply Mem.there | apply Take.there)); first | done | fail))) | exact fun ρ hρ => hρ | (intro ρ hρ; repeat (first | exact hρ | refine List.mem_cons_of_mem _ ?_)))); first | done | fail) (by (repeat (first | exact Sel.nil | (apply Sel.cons; (focus ((repeat (first | exact .here | apply Mem.there | apply Take.there)); first | done | fail))))); first | done | fail) ⟨σ, ⟨_, out, e, rfl, hO, .inr ⟨h0, h1, hP⟩⟩, rfl⟩
set_option maxHeartbeats 8000000 in
theorem refAdd_spec (ρ : PH) (v : Value) (f : List Lv) (fr to d : Int) (hv : LvAt ρ v f) (hl : f.length ≤ 9223372036854775807) :
    Gives Try.prog (fv 13) [v, .agg #[int fr, int to], int d] [ρ] (fun r σ => ∃ u out e, r = .tuple #[u, int e] ∧ LvAt σ u out ∧ AddR f fr to d out e) := by
  have hv2 := hv
  obtain ⟨q, c, rfl, hr⟩ := hv.val encV_len
  have hnil : ∀ b, LvAt (sng b (.cells #[] 33 (0, 0))) (.slice (some ⟨b, 0, none⟩) 0 0) [] := fun b => (OwnS.empty (e := 33) (size := 2) (b := b)).at
  refine spec_in (cap := []) Try.func13 rfl rfl Try.ntmps13 rfl (by (repeat (first | exact EnvA.nil EnvI.nil | apply EnvA.cons | apply EnvA.nil | exact EnvI.nil | apply EnvI.cons)); first | done | fail) (fun N β => ?_)
  refine jk_seq ?_
  refine jk_region ?_
  refine jk_op (l_boxS rfl) rfl rfl rfl ?_
  rintro _ _ ⟨b4, rfl, rfl⟩
  focus (refine' jk_q _ rfl rfl rfl _; rotate_left; (apply q_assign; exact rfl))
  focus (refine' jk_q _ rfl rfl rfl _; rotate_left; (apply q_assign; exact rfl))
  refine jk_nil ?_
  refine jk_seq ?_
  refine jk_seq ?_
  refine jk_region ?_
  focus (refine' jk_q _ rfl rfl rfl _; rotate_left; (apply q_move; exact rfl))
  refine jk_call (refStepCheck_spec ρ _ f hv2 hl) rfl rfl (by (repeat (first | exact RdOK.nil | (refine RdOK.consR ?_ ?_; (focus ((repeat (first | exact .here | apply Mem.there | apply Take.there)); first | done | fail))) | (refine RdOK.consH ?_ ?_; (focus ((repeat (first | exact .here | apply Mem.there | apply Take.there)); first | done | fail))) | exact (fun τ hτ => .inl (by simp [hτ])))); first | done | fail) rfl rfl ?_
  rintro _ rfl
  by_cases h0 : chkS f = 0
  rotate_left
  · focus (refine' jk_q _ rfl rfl rfl _; rotate_left; (apply q_ne; exact rfl; exact rfl; omega))
    refine jk_nil ?_
    refine jk_if_t rfl ?_
    refine jk_seq ?_
    refine jk_region ?_
    focus (refine' jk_op _ rfl rfl rfl _; rotate_left; (apply l_buildSlice; exact rfl; exact rfl; exact rfl; exact rfl; exact rfl; exact (by (repeat (first | exact (fun v hv => absurd hv List.not_mem_nil) | (refine List.forall_mem_cons.2 ⟨?_, ?_⟩; (focus (first | exact rfl | assumption))))); first | done | fail); exact (by (repeat (first | exact Flat.nil | apply Flat.one rfl | apply Flat.agg2 | apply Flat.agg3 | apply Flat.agg1 | apply Flat.agg4 | apply Flat.agg5)); first | done | fail); exact rfl); rintro _ _ ⟨b, rfl, rfl⟩)
    focus (refine' jk_q _ rfl rfl rfl _; rotate_left; (apply q_assign; exact rfl))
    focus (refine' jk_q _ rfl rfl rfl _; rotate_left; (apply q_assign; exact rfl))
    refine jk_nil ?_
    exact jk_ret_any (res2 rfl rfl rfl) (by (repeat (first | exact rs_nil | (refine rs_cons ?_ ?_; (focus ((repeat (first | exact .here | apply Mem.there | apply Take.there)); first | done | fail))) | exact fun ρ hρ => hρ | (intro ρ hρ; repeat (first | exact hρ | refine List.mem_cons_of_mem _ ?_)))); first | done | fail) (by (repeat (first | exact Sel.nil | (apply Sel.cons; (focus ((repeat (first | exact .here | apply Mem.there | apply Take.there)); first | done | fail))))); first | done | fail) ⟨_, ⟨_, [], _, rfl, hnil _, .inl ⟨h0, rfl, rfl⟩⟩, .inl rfl⟩
  focus (refine' jk_q _ rfl rfl rfl _; rotate_left; (apply q_neF; exact rfl; exact rfl; omega))
  refine jk_nil ?_
  refine jk_if_f rfl ?_
  refine jk_skip ?_
  refine jk_seq ?_
  refine jk_seq ?_
  refine jk_region ?_
  focus (refine' jk_q _ rfl rfl rfl _; rotate_left; (apply q_loadS; exact rfl; exact rfl; (first | exact cells_own (by (repeat (first | exact .here | apply Mem.there)); first | done | fail) | exact cellsR (by assumption) (by (repeat (first | exact .here | apply Mem.there)); first | done | fail) | exact cellsH (by assumption) (by (repeat (first | exact .here | apply Mem.there)); first | done | fail)); exact rfl))
  refine jk_call (refValid_spec fr to) rfl rfl (by (repeat (first | exact RdOK.nil | (refine RdOK.consR ?_ ?_; (focus ((repeat (first | exact .here | apply Mem.there | apply Take.there)); first | done | fail))) | (refine RdOK.consH ?_ ?_; (focus ((repeat (first | exact .here | apply Mem.there | apply Take.there)); first | done | fail))) | exact (fun τ hτ => .inl (by simp [hτ])))); first | done | fail) rfl rfl ?_
  rintro _ rfl
  cases hvs : validSp fr to with
  | false =>
    have hns : ¬ (0 ≤ fr ∧ fr ≤ to ∧ to ≤ 1099511627776) := by simpa [validSp] using hvs
    focus (refine' jk_q _ rfl rfl rfl _; rotate_left; (apply q_not; exact rfl))
    focus (refine' jk_q _ rfl rfl rfl _; rotate_left; (apply q_move; exact rfl))
    refine jk_pass rfl rfl rfl ?_
    refine jk_pass rfl rfl rfl ?_
    focus (refine' jk_q _ rfl rfl rfl _; rotate_left; (apply q_pick_t; exact rfl; exact rfl))
    focus (refine' jk_q _ rfl rfl rfl _; rotate_left; (apply q_move; exact rfl))
    refine jk_pass rfl rfl rfl ?_
    refine jk_pass rfl rfl rfl ?_
    focus (refine' jk_q _ rfl rfl rfl _; rotate_left; (apply q_pick_t; exact rfl; exact rfl))
    refine jk_nil ?_
    refine jk_if_t rfl ?_
    refine jk_seq ?_
    refine jk_region ?_
    focus (refine' jk_op _ rfl rfl rfl _; rotate_left; (apply l_buildSlice; exact rfl; exact rfl; exact rfl; exact rfl; exact rfl; exact (by (repeat (first | exact (fun v hv => absurd hv List.not_mem_nil) | (refine List.forall_mem_cons.2 ⟨?_, ?_⟩; (focus (first | exact rfl | assumption))))); first | done | fail); exact (by (repeat (first | exact Flat.nil | apply Flat.one rfl | apply Flat.agg2 | apply Flat.agg3 | apply Flat.agg1 | apply Flat.agg4 | apply Flat.agg5)); first | done | fail); exact rfl); rintro _ _ ⟨b, rfl, rfl⟩)
    focus (refine' jk_q _ rfl rfl rfl _; rotate_left; (apply q_assign; exact rfl))
    focus (refine' jk_q _ rfl rfl rfl _; rotate_left; (apply q_assign; exact rfl))
    refine jk_nil ?_
    exact jk_ret_any (res2 rfl rfl rfl) (by (repeat (first | exact rs_nil | (refine rs_cons ?_ ?_; (focus ((repeat (first | exact .here | apply Mem.there | apply Take.there)); first | done | fail))) | exact fun ρ hρ => hρ | (intro ρ hρ; repeat (first | exact hρ | refine List.mem_cons_of_mem _ ?_)))); first | done | fail) (by (repeat (first | exact Sel.nil | (apply Sel.cons; (focus ((repeat (first | exact .here | apply Mem.there | apply Take.there)); first | done | fail))))); first | done | fail) ⟨_, ⟨_, [], _, rfl, hnil _, .inr (.inl ⟨h0, .inl hns, rfl, rfl⟩)⟩, .inl rfl⟩
  | true =>
    have hsp : 0 ≤ fr ∧ fr ≤ to ∧ to ≤ 1099511627776 := by simpa [validSp] using hvs
    by_cases d1 : d < -2251799813685248
    · focus (refine' jk_q _ rfl rfl rfl _; rotate_left; (apply q_not; exact rfl))
      focus (refine' jk_q _ rfl rfl rfl _; rotate_left; (apply q_move; exact rfl))
      focus (refine' jk_q _ rfl rfl rfl _; rotate_left; (apply q_move; exact rfl))
      focus (refine' jk_q _ rfl rfl rfl _; rotate_left; (apply q_lt; exact rfl; exact rfl; omega))
      focus (refine' jk_q _ rfl rfl rfl _; rotate_left; (apply q_pick_f; exact rfl; exact rfl))
      focus (refine' jk_q _ rfl rfl rfl _; rotate_left; (apply q_move; exact rfl))
      refine jk_pass rfl rfl rfl ?_
      refine jk_pass rfl rfl rfl ?_
      focus (refine' jk_q _ rfl rfl rfl _; rotate_left; (apply q_pick_t; exact rfl; exact rfl))
      refine jk_nil ?_
      refine jk_if_t rfl ?_
      refine jk_seq ?_
      refine jk_region ?_
      focus (refine' jk_op _ rfl rfl rfl _; rotate_left; (apply l_buildSlice; exact rfl; exact rfl; exact rfl; exact rfl; exact rfl; exact (by (repeat (first | exact (fun v hv => absurd hv List.not_mem_nil) | (refine List.forall_mem_cons.2 ⟨?_, ?_⟩; (focus (first | exact rfl | assumption))))); first | done | fail); exact (by (repeat (first | exact Flat.nil | apply Flat.one rfl | apply Flat.agg2 | apply Flat.agg3 | apply Flat.agg1 | apply Flat.agg4 | apply Flat.agg5)); first | done | fail); exact rfl); rintro _ _ ⟨b, rfl, rfl⟩)
      focus (refine' jk_q _ rfl rfl rfl _; rotate_left; (apply q_assign; exact rfl))
      focus (refine' jk_q _ rfl rfl rfl _; rotate_left; (apply q_assign; exact rfl))
      refine jk_nil ?_
      exact jk_ret_any (res2 rfl rfl rfl) (by (repeat (first | exact rs_nil | (refine rs_cons ?_ ?_; (focus ((repeat (first | exact .here | apply Mem.there | apply Take.there)); first | done | fail))) | exact fun ρ hρ => hρ | (intro ρ hρ; repeat (first | exact hρ | refine List.mem_cons_of_mem _ ?_)))); first | done | fail) (by (repeat (first | exact Sel.nil | (apply Sel.cons; (focus ((repeat (first | exact .here | apply Mem.there | apply Take.there)); first | done | fail))))); first | done | fail) ⟨_, ⟨_, [], _, rfl, hnil _, .inr (.inl ⟨h0, .inr (.inl d1), rfl, rfl⟩)⟩, .inl rfl⟩
    by_cases d2 : 2251799813685248 < d
    · focus (refine' jk_q _ rfl rfl rfl _; rotate_left; (apply q_not; exact rfl))
      focus (refine' jk_q _ rfl rfl rfl _; rotate_left; (apply q_move; exact rfl))
      focus (refine' jk_q _ rfl rfl rfl _; rotate_left; (apply q_move; exact rfl))
      focus (refine' jk_q _ rfl rfl rfl _; rotate_left; (apply q_ltF; exact rfl; exact rfl; omega))
      focus (refine' jk_q _ rfl rfl rfl _; rotate_left; (apply q_pick_f; exact rfl; exact rfl))
      focus (refine' jk_q _ rfl rfl rfl _; rotate_left; (apply q_move; exact rfl))
      focus (refine' jk_q _ rfl rfl rfl _; rotate_left; (apply q_move; exact rfl))
      focus (refine' jk_q _ rfl rfl rfl _; rotate_left; (apply q_gt; exact rfl; exact rfl; omega))
      focus (refine' jk_q _ rfl rfl rfl _; rotate_left; (apply q_pick_f; exact rfl; exact rfl))
      refine jk_nil ?_
      refine jk_if_t rfl ?_
      refine jk_seq ?_
      refine jk_region ?_
      focus (refine' jk_op _ rfl rfl rfl _; rotate_left; (apply l_buildSlice; exact rfl; exact rfl; exact rfl; exact rfl; exact rfl; exact (by (repeat (first | exact (fun v hv => absurd hv List.not_mem_nil) | (refine List.forall_mem_cons.2 ⟨?_, ?_⟩; (focus (first | exact rfl | assumption))))); first | done | fail); exact (by (repeat (first | exact Flat.nil | apply Flat.one rfl | apply Flat.agg2 | apply Flat.agg3 | apply Flat.agg1 | apply Flat.agg4 | apply Flat.agg5)); first | done | fail); exact rfl); rintro _ _ ⟨b, rfl, rfl⟩)
      focus (refine' jk_q _ rfl rfl rfl _; rotate_left; (apply q_assign; exact rfl))
      focus (refine' jk_q _ rfl rfl rfl _; rotate_left; (apply q_assign; exact rfl))
      refine jk_nil ?_
      exact jk_ret_any (res2 rfl rfl rfl) (by (repeat (first | exact rs_nil | (refine rs_cons ?_ ?_; (focus ((repeat (first | exact .here | apply Mem.there | apply Take.there)); first | done | fail))) | exact fun ρ hρ => hρ | (intro ρ hρ; repeat (first | exact hρ | refine List.mem_cons_of_mem _ ?_)))); first | done | fail) (by (repeat (first | exact Sel.nil | (apply Sel.cons; (focus ((repeat (first | exact .here | apply Mem.there | apply Take.there)); first | done | fail))))); first | done | fail) ⟨_, ⟨_, [], _, rfl, hnil _, .inr (.inl ⟨h0, .inr (.inr d2), rfl, rfl⟩)⟩, .inl rfl⟩
    by_cases he : fr = to
    · focus (refine' jk_q _ rfl rfl rfl _; rotate_left; (apply q_not; exact rfl))
      focus (refine' jk_q _ rfl rfl rfl _; rotate_left; (apply q_move; exact rfl))
      focus (refine' jk_q _ rfl rfl rfl _; rotate_left; (apply q_move; exact rfl))
      focus (refine' jk_q _ rfl rfl rfl _; rotate_left; (apply q_ltF; exact rfl; exact rfl; omega))
      focus (refine' jk_q _ rfl rfl rfl _; rotate_left; (apply q_pick_f; exact rfl; exact rfl))
      focus (refine' jk_q _ rfl rfl rfl _; rotate_left; (apply q_move; exact rfl))
      focus (refine' jk_q _ rfl rfl rfl _; rotate_left; (apply q_move; exact rfl))
      focus (refine' jk_q _ rfl rfl rfl _; rotate_left; (apply q_gtF; exact rfl; exact rfl; omega))
      focus (refine' jk_q _ rfl rfl rfl _; rotate_left; (apply q_pick_f; exact rfl; exact rfl))
      refine jk_nil ?_
      refine jk_if_f rfl ?_
      refine jk_skip ?_
      refine jk_seq ?_
      refine jk_seq ?_
      refine jk_region ?_
      focus (refine' jk_q _ rfl rfl rfl _; rotate_left; (apply q_fld0; exact rfl; exact rfl))
      focus (refine' jk_q _ rfl rfl rfl _; rotate_left; (apply q_load; exact rfl; exact rfl; (first | exact cell_own (by (repeat (first | exact .here | apply Mem.there)); first | done | fail) rfl | exact cellR (by assumption) (by (repeat (first | exact .here | apply Mem.there)); first | done | fail) | exact cellH (by assumption) (by (repeat (first | exact .here | apply Mem.there)); first | done | fail) | exact cell_ints (by (repeat (first | exact .here | apply Mem.there)); first | done | fail) (by omega) | exact cell_bools (by assumption) (by (repeat (first | exact .here | apply Mem.there)); first | done | fail) | exact cell_intsR (by (repeat (first | exact .here | apply Mem.there)); first | done | fail) (by omega) | exact cell_boolsR (by assumption) (by (repeat (first | exact .here | apply Mem.there)); first | done | fail))))
      focus (refine' jk_q _ rfl rfl rfl _; rotate_left; (apply q_fld0; exact rfl; exact rfl))
      focus (refine' jk_q _ rfl rfl rfl _; rotate_left; (apply q_load; exact rfl; exact rfl; (first | exact cell_own (by (repeat (first | exact .here | apply Mem.there)); first | done | fail) rfl | exact cellR (by assumption) (by (repeat (first | exact .here | apply Mem.there)); first | done | fail) | exact cellH (by assumption) (by (repeat (first | exact .here | apply Mem.there)); first | done | fail) | exact cell_ints (by (repeat (first | exact .here | apply Mem.there)); first | done | fail) (by omega) | exact cell_bools (by assumption) (by (repeat (first | exact .here | apply Mem.there)); first | done | fail) | exact cell_intsR (by (repeat (first | exact .here | apply Mem.there)); first | done | fail) (by omega) | exact cell_boolsR (by assumption) (by (repeat (first | exact .here | apply Mem.there)); first | done | fail))))
      focus (refine' jk_q _ rfl rfl rfl _; rotate_left; (apply q_eq; exact rfl; exact rfl; omega))
      refine jk_nil ?_
      refine jk_if_t rfl ?_
      refine jk_seq ?_
      refine jk_region ?_
      focus (refine' jk_q _ rfl rfl rfl _; rotate_left; (apply q_move; exact rfl))
      focus (refine' jk_q _ rfl rfl rfl _; rotate_left; (apply q_assign; exact rfl))
      focus (refine' jk_q _ rfl rfl rfl _; rotate_left; (apply q_assign; exact rfl))
      refine jk_nil ?_
      exact jk_ret_any (res2 rfl rfl rfl) (by (repeat (first | exact rs_nil | (refine rs_cons ?_ ?_; (focus ((repeat (first | exact .here | apply Mem.there | apply Take.there)); first | done | fail))) | exact fun ρ hρ => hρ | (intro ρ hρ; repeat (first | exact hρ | refine List.mem_cons_of_mem _ ?_)))); first | done | fail) (by (repeat (first | exact Sel.nil | (apply Sel.cons; (focus ((repeat (first | exact .here | apply Mem.there | apply Take.there)); first | done | fail))))); first | done | fail) ⟨ρ, ⟨_, f, _, rfl, hv2, .inr (.inr (.inl ⟨h0, hsp, by omega, he, rfl, rfl⟩))⟩, .inr ⟨rfl, by simp⟩⟩
    · have hA := (chkS_ok h0).2
      have hlen := (chkS_ok h0).1
      focus (refine' jk_q _ rfl rfl rfl _; rotate_left; (apply q_not; exact rfl))
      focus (refine' jk_q _ rfl rfl rfl _; rotate_left; (apply q_move; exact rfl))
      focus (refine' jk_q _ rfl rfl rfl _; rotate_left; (apply q_move; exact rfl))
      focus (refine' jk_q _ rfl rfl rfl _; rotate_left; (apply q_ltF; exact rfl; exact rfl; omega))
      focus (refine' jk_q _ rfl rfl rfl _; rotate_left; (apply q_pick_f; exact rfl; exact rfl))
      focus (refine' jk_q _ rfl rfl rfl _; rotate_left; (apply q_move; exact rfl))
      focus (refine' jk_q _ rfl rfl rfl _; rotate_left; (apply q_move; exact rfl))
      focus (refine' jk_q _ rfl rfl rfl _; rotate_left; (apply q_gtF; exact rfl; exact rfl; omega))
      focus (refine' jk_q _ rfl rfl rfl _; rotate_left; (apply q_pick_f; exact rfl; exact rfl))
      refine jk_nil ?_
      refine jk_if_f rfl ?_
      refine jk_skip ?_
      refine jk_seq ?_
      refine jk_seq ?_
      refine jk_region ?_
      focus (refine' jk_q _ rfl rfl rfl _; rotate_left; (apply q_fld0; exact rfl; exact rfl))
      focus (refine' jk_q _ rfl rfl rfl _; rotate_left; (apply q_load; exact rfl; exact rfl; (first | exact cell_own (by (repeat (first | exact .here | apply Mem.there)); first | done | fail) rfl | exact cellR (by assumption) (by (repeat (first | exact .here | apply Mem.there)); first | done | fail) | exact cellH (by assumption) (by (repeat (first | exact .here | apply Mem.there)); first | done | fail) | exact cell_ints (by (repeat (first | exact .here | apply Mem.there)); first | done | fail) (by omega) | exact cell_bools (by assumption) (by (repeat (first | exact .here | apply Mem.there)); first | done | fail) | exact cell_intsR (by (repeat (first | exact .here | apply Mem.there)); first | done | fail) (by omega) | exact cell_boolsR (by assumption) (by (repeat (first | exact .here | apply Mem.there)); first | done | fail))))
      focus (refine' jk_q _ rfl rfl rfl _; rotate_left; (apply q_fld0; exact rfl; exact rfl))
      focus (refine' jk_q _ rfl rfl rfl _; rotate_left; (apply q_load; exact rfl; exact rfl; (first | exact cell_own (by (repeat (first | exact .here | apply Mem.there)); first | done | fail) rfl | exact cellR (by assumption) (by (repeat (first | exact .here | apply Mem.there)); first | done | fail) | exact cellH (by assumption) (by (repeat (first | exact .here | apply Mem.there)); first | done | fail) | exact cell_ints (by (repeat (first | exact .here | apply Mem.there)); first | done | fail) (by omega) | exact cell_bools (by assumption) (by (repeat (first | exact .here | apply Mem.there)); first | done | fail) | exact cell_intsR (by (repeat (first | exact .here | apply Mem.there)); first | done | fail) (by omega) | exact cell_boolsR (by assumption) (by (repeat (first | exact .here | apply Mem.there)); first | done | fail))))
      focus (refine' jk_q _ rfl rfl rfl _; rotate_left; (apply q_eqF; exact rfl; exact rfl; omega))
      refine jk_nil ?_
      refine jk_if_f rfl ?_
      refine jk_skip ?_
      refine jk_seq ?_
      refine jk_region ?_
      focus (refine' jk_q _ rfl rfl rfl _; rotate_left; (apply q_move; exact rfl))
      focus (refine' jk_q _ rfl rfl rfl _; rotate_left; (apply q_fld0; exact rfl; exact rfl))
      focus (refine' jk_q _ rfl rfl rfl _; rotate_left; (apply q_load; exact rfl; exact rfl; (first | exact cell_own (by (repeat (first | exact .here | apply Mem.there)); first | done | fail) rfl | exact cellR (by assumption) (by (repeat (first | exact .here | apply Mem.there)); first | done | fail) | exact cellH (by assumption) (by (repeat (first | exact .here | apply Mem.there)); first | done | fail) | exact cell_ints (by (repeat (first | exact .here | apply Mem.there)); first | done | fail) (by omega) | exact cell_bools (by assumption) (by (repeat (first | exact .here | apply Mem.there)); first | done | fail) | exact cell_intsR (by (repeat (first | exact .here | apply Mem.there)); first | done | fail) (by omega) | exact cell_boolsR (by assumption) (by (repeat (first | exact .here | apply Mem.there)); first | done | fail))))
      focus (refine' jk_q _ rfl rfl rfl _; rotate_left; (apply q_move; exact rfl))
      focus (refine' jk_q _ rfl rfl rfl _; rotate_left; (apply q_build; exact rfl; exact rfl; exact (by (repeat (first | exact Bld.nil | apply Bld.put rfl rfl rfl | apply Bld.keep rfl)); first | done | fail)))
      focus (refine' jk_q _ rfl rfl rfl _; rotate_left; (apply q_fld0; exact rfl; exact rfl))
      focus (refine' jk_q _ rfl rfl rfl _; rotate_left; (apply q_load; exact rfl; exact rfl; (first | exact cell_own (by (repeat (first | exact .here | apply Mem.there)); first | done | fail) rfl | exact cellR (by assumption) (by (repeat (first | exact .here | apply Mem.there)); first | done | fail) | exact cellH (by assumption) (by (repeat (first | exact .here | apply Mem.there)); first | done | fail) | exact cell_ints (by (repeat (first | exact .here | apply Mem.there)); first | done | fail) (by omega) | exact cell_bools (by assumption) (by (repeat (first | exact .here | apply Mem.there)); first | done | fail) | exact cell_intsR (by (repeat (first | exact .here | apply Mem.there)); first | done | fail) (by omega) | exact cell_boolsR (by assumption) (by (repeat (first | exact .here | apply Mem.there)); first | done | fail))))
      focus (refine' jk_q _ rfl rfl rfl _; rotate_left; (apply q_build; exact rfl; exact rfl; exact (by (repeat (first | exact Bld.nil | apply Bld.put rfl rfl rfl | apply Bld.keep rfl)); first | done | fail)))
      focus (refine' jk_op _ rfl rfl rfl _; rotate_left; (apply l_buildSlice; exact rfl; exact rfl; exact rfl; exact rfl; exact rfl; exact (by (repeat (first | exact (fun v hv => absurd hv List.not_mem_nil) | (refine List.forall_mem_cons.2 ⟨?_, ?_⟩; (focus (first | exact rfl | assumption))))); first | done | fail); exact (by (repeat (first | exact Flat.nil | apply Flat.one rfl | apply Flat.agg2 | apply Flat.agg3 | apply Flat.agg1 | apply Flat.agg4 | apply Flat.agg5)); first | done | fail); exact rfl); rintro _ _ ⟨b, rfl, rfl⟩)
      revert b; intro b5
      have hB : LvAt (sng b5 (.cells #[int fr, int d, int to, int 0] 33 (0, 0))) (.slice (some ⟨b5, 0, none⟩) 2 2) (bump fr to d) := slE_sng encV_len
      refine jk_callM (refSum0_spec ρ (sng b5 _) _ _ f (bump fr to d) hv2 hB hA.t (bump_asc (by omega)) hlen (show 2 ≤ 1000 by decide) (fun l hl => by have := hA.gt l hl; omega) (fun l hl => by
        simp only [bump, List.mem_cons, List.not_mem_nil, or_false] at hl
        rcases hl with rfl | rfl
        · dsimp only; omega
        · dsimp only; omega)) rfl rfl (by (repeat (first | exact RdOK.nil | (refine RdOK.consR ?_ ?_; (focus ((repeat (first | exact .here | apply Mem.there | apply Take.there)); first | done | fail))) | (refine RdOK.consH ?_ ?_; (focus ((repeat (first | exact .here | apply Mem.there | apply Take.there)); first | done | fail))) | exact (fun τ hτ => .inl (by simp [hτ])))); first | done | fail) rfl rfl ?_
      rintro _ σ ⟨u, out, e, rfl, hO, hP⟩
      focus (refine' jk_q _ rfl rfl rfl _; rotate_left; (apply q_extract; exact rfl; exact rfl))
      focus (refine' jk_q _ rfl rfl rfl _; rotate_left; (apply q_extract; exact rfl; exact rfl))
      focus (refine' jk_q _ rfl rfl rfl _; rotate_left; (apply q_assign; exact rfl))
      focus (refine' jk_q _ rfl rfl rfl _; rotate_left; (apply q_assign; exact rfl))
      refine jk_nil ?_
      exact jk_ret_any (res2 rfl rfl rfl) (by (repeat (first | exact rs_nil | (refine rs_cons ?_ ?_; (focus ((repeat (first | exact .here | apply Mem.there | apply Take.there)); first | done | fail))) | exact fun ρ hρ => hρ | (intro ρ hρ; repeat (first | exact hρ | refine List.mem_cons_of_mem _ ?_)))); first | done | fail) (by (repeat (first | exact Sel.nil | (apply Sel.cons; (focus ((repeat (first | exact .here | apply Mem.there | apply Take.there)); first | done | fail))))); first | done | fail) ⟨σ, ⟨_, out, e, rfl, hO.at, .inr (.inr (.inr ⟨h0, by omega, by omega, hP⟩))⟩, .inl rfl⟩
end Go.Proofs.Ytbcibkopcbhgfaa
