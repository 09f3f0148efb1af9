/- The times and the levels of a node, of the reference. -/
import Derived.Test.YtnbihndlbopmeaaWSgF
set_option linter.all false
namespace Go.Proofs.Ytnbihndlbopmeaa
open Go.Eng Go.Step
set_option maxRecDepth 100000
set_option maxHeartbeats 4000000

theorem pick_cases (t nx x : Int) : (t < x ∧ nx < 0 ∧ pickN t nx x = x) ∨ (t < x ∧ 0 ≤ nx ∧ x < nx ∧ pickN t nx x = x) ∨ (t < x ∧ 0 ≤ nx ∧ nx ≤ x ∧ pickN t nx x = nx) ∨ (x ≤ t ∧ pickN t nx x = nx) := by
  unfold pickN
  by_cases h1 : t < x
  · by_cases h2 : nx < 0
    · exact .inl ⟨h1, h2, by rw [if_pos ⟨h1, .inl h2⟩]⟩
    · by_cases h3 : x < nx
      · exact .inr (.inl ⟨h1, by omega, h3, by rw [if_pos ⟨h1, .inr h3⟩]⟩)
      · exact .inr (.inr (.inl ⟨h1, by omega, by omega, by rw [if_neg (by omega)]⟩))
  · exact .inr (.inr (.inr ⟨by omega, by rw [if_neg (by omega)]⟩))
theorem tmH_ok {l : List Hd} {n : Int} {nq : Nat} (hok : ∀ h ∈ l, okHd nq h) : ∀ x ∈ tmH l n, 0 ≤ x := fun x hx => by
  obtain ⟨h, hl, _, hx⟩ := mem_tmH.1 hx
  have := (hok h hl).2.1
  omega
theorem tmH_len (n : Int) : ∀ l : List Hd, (tmH l n).length ≤ 2 * l.length
  | [] => by simp [tmH]
  | h :: l => by
    have ih := tmH_len n l
    unfold tmH at ih ⊢
    rw [List.flatMap_cons, List.length_append, List.length_cons]
    split
    · simp only [List.length_cons, List.length_nil]; omega
    · simp only [List.length_nil]; omega
theorem sa_len : ∀ {out f : List Int}, SA out → (∀ x ∈ out, x ∈ f) → out.length ≤ f.length
  | [], _, _, _ => by simp
  | a :: out, f, h, hm => by
    have h2 := List.pairwise_cons.1 h
    have ih := sa_len (out := out) (f := f.erase a) h2.2 (fun x hx => by
      have := h2.1 x hx
      exact (List.mem_erase_of_ne (by omega)).2 (hm x (by simp [hx])))
    rw [List.length_erase_of_mem (hm a (by simp))] at ih
    have := List.length_pos_of_mem (hm a (by simp))
    rw [List.length_cons]; omega
theorem hts_len2 (l : List Hd) (n : Int) : (hts l n).length ≤ 2 * l.length := by
  obtain ⟨h1, h2⟩ := hts_sa l n
  have := sa_len h1 (fun x hx => (h2 x).1 hx)
  have := tmH_len n l
  omega
set_option maxHeartbeats 16000000 in
theorem times_spec (ρ : PH) (v : Value) (l : List Hd) (n : Int) (nq : Nat) (hv : HdAt ρ v l) (hok : ∀ h ∈ l, okHd nq h) (hl : l.length ≤ 600) :
    Makes Try.prog (fv 61) [v, int n] [ρ] (fun r σ => OwnS 3 1 r (hts l n).length ((hts l n).flatMap Eng.encI) σ) := by
  obtain ⟨q, c, rfl, hr⟩ := hv.val encH_len
  refine spec_in (cap := []) Try.func61 rfl rfl Try.ntmps61 rfl (by (repeat (first | exact EnvA.nil EnvI.nil | apply EnvA.cons | apply EnvA.nil | exact EnvI.nil | apply EnvI.cons)); first | done | fail) (fun N β => ?_)
  have h0 := tmH_ok (n := n) hok
  have htl := hts_len2 l n
  have hnx := @next_is l n
  refine jk_seq ?_
  refine jk_region ?_
  focus (refine' jk_q _ rfl rfl rfl _; rotate_left; (apply q_assign; exact rfl))
  refine jk_nil ?_
  refine jk_seq ?_
  refine jk_region ?_
  focus (refine' jk_op _ rfl rfl rfl _; rotate_left; (apply l_buildSlice; exact rfl; exact rfl; exact rfl; exact rfl; exact rfl; exact (by (repeat (first | exact (fun v hv => absurd hv List.not_mem_nil) | (refine List.forall_mem_cons.2 ⟨?_, ?_⟩; (focus (first | exact rfl | assumption))))); first | done | fail); exact (by (repeat (first | exact Flat.nil | apply Flat.one rfl | apply Flat.agg2 | apply Flat.agg3 | apply Flat.agg1 | apply Flat.agg4 | apply Flat.agg5)); first | done | fail); exact rfl); rintro _ _ ⟨b, rfl, rfl⟩)
  focus (refine' jk_q _ rfl rfl rfl _; rotate_left; (apply q_assign; exact rfl))
  refine jk_nil ?_
  refine jk_seq ?_
  refine jk_region ?_
  focus (refine' jk_q _ rfl rfl rfl _; rotate_left; (apply q_assign; exact rfl))
  refine jk_nil ?_
  refine jk_block ?_
  revert b; intro b0
  refine jk_loop [0, 1] (X := Nat × (Value × PH)) (0, (.slice (some ⟨b0, 0, none⟩) 0 0, sng b0 (.cells #[] 3 (0, 0)))) (fun x => x.1 ≤ (hts l n).length ∧ OwnS 3 1 x.2.1 ((hts l n).take x.1).length (((hts l n).take x.1).flatMap Eng.encI) x.2.2) (fun x => [(5, x.2.1), (6, int (lastT (hts l n) x.1))]) (fun x => [x.2.2]) (fun x => (hts l n).length - x.1)
    (by (repeat (first | exact Pick.nil | apply Pick.cons rfl)); first | done | fail) ⟨by dsimp only; omega, OwnS.empty⟩ (by (repeat (first | exact trivial | refine And.intro rfl ?_)); first | done | fail) (by (repeat (first | exact Sel.nil | (apply Sel.cons; (focus ((repeat (first | exact .here | apply Mem.there | apply Take.there)); first | done | fail))))); first | done | fail) ?_
  rintro ⟨k, u, σ⟩ ⟨hk, hO⟩
  dsimp only at hk hO ⊢
  have hnk := fun nx => hnx (nx := nx) h0 hk
  have hlast : lastT (hts l n) k = -1 ∨ 0 ≤ lastT (hts l n) k := by
    unfold lastT
    split
    · exact .inl rfl
    · right
      rw [List.getD_eq_getElem?_getD, List.getElem?_eq_getElem (by omega : k - 1 < (hts l n).length)]
      exact h0 _ (((hts_sa l n).2 _).1 (List.getElem_mem _))
  generalize ht : lastT (hts l n) k = t at hnk hlast
  refine jk_block ?_
  refine jk_seq ?_
  refine jk_region ?_
  focus (refine' jk_q _ rfl rfl rfl _; rotate_left; (apply q_assign; exact rfl))
  refine jk_nil ?_
  refine jk_seq ?_
  refine jk_seq ?_
  refine jk_region ?_
  focus (refine' jk_q _ rfl rfl rfl _; rotate_left; (apply q_assign; exact rfl))
  refine jk_nil ?_
  refine jk_block ?_
  refine jk_loop [0, 1, 5, 6] (X := Nat × Int) (0, -1) (fun x => x.1 ≤ l.length ∧ InvN (l.take x.1) n t x.2) (fun x => [(8, int x.1), (7, int x.2)]) (fun _ => [σ]) (fun x => l.length - x.1) (by (repeat (first | exact Pick.nil | apply Pick.cons rfl)); first | done | fail) ⟨by dsimp only; omega, InvN.zero n t⟩ (by (repeat (first | exact trivial | refine And.intro rfl ?_)); first | done | fail) (by (repeat (first | exact Sel.nil | (apply Sel.cons; (focus ((repeat (first | exact .here | apply Mem.there | apply Take.there)); first | done | fail))))); first | done | fail) ?_
  rintro ⟨i, nx⟩ ⟨hi, hI⟩
  dsimp only at hi hI ⊢
  by_cases hil : i < l.length
  · have hx := List.getElem?_eq_getElem hil
    have hh := (hok _ (List.getElem_mem hil)).2.1
    have htk : l.take (i + 1) = l.take i ++ [l[i]] := List.take_succ_eq_append_getElem hil
    obtain ⟨b1, o1, rfl, _, g0, g1, g2, _, _⟩ := hdRow5 hr hx
    generalize l[i] = h at g0 g1 g2 hh htk
    by_cases hn : h.n = n
    · have hI2 := hI.note hn ⟨by omega, by omega⟩
      rw [← htk] at hI2
      rcases pick_cases t nx h.a with ⟨c1, c2, q1⟩ | ⟨c1, c2, c3, q1⟩ | ⟨c1, c2, c3, q1⟩ | ⟨c1, q1⟩ <;> rw [q1] at hI2
      · rcases pick_cases t h.a h.b with ⟨d1, d2, q2⟩ | ⟨d1, d2, d3, q2⟩ | ⟨d1, d2, d3, q2⟩ | ⟨d1, q2⟩ <;> rw [q2] at hI2 <;> (try (exfalso; omega))
        repeat' (first
          | (refine' jk_q _ rfl rfl rfl _; rotate_left; (first | (first | (apply q_move; exact rfl) | (apply q_assign; exact rfl) | (apply q_extract; exact rfl; exact rfl) | (apply q_load; exact rfl; exact rfl; (first | exact cell_own (by (repeat (first | exact .here | apply Mem.there)); first | done | fail) rfl | exact cellR (by assumption) (by (repeat (first | exact .here | apply Mem.there)); first | done | fail) | exact cellH (by assumption) (by (repeat (first | exact .here | apply Mem.there)); first | done | fail) | exact cell_ints (by (repeat (first | exact .here | apply Mem.there)); first | done | fail) (by omega) | exact cell_bools (by assumption) (by (repeat (first | exact .here | apply Mem.there)); first | done | fail) | exact cell_intsR (by (repeat (first | exact .here | apply Mem.there)); first | done | fail) (by omega) | exact cell_boolsR (by assumption) (by (repeat (first | exact .here | apply Mem.there)); first | done | fail))) | (apply q_fld0; exact rfl; exact rfl) | (apply q_fldZ; exact rfl; exact rfl) | (apply q_fld; exact rfl; exact rfl) | (apply q_idx0; exact rfl; exact rfl; exact rfl; exact rfl; omega) | (apply q_idx1; exact rfl; exact rfl; exact rfl; exact rfl; omega) | (apply q_idxN; exact rfl; exact rfl; exact rfl; exact rfl; omega) | (apply q_idxZ; exact rfl; exact rfl; exact rfl; exact rfl; omega) | (apply q_pick_t; exact rfl; exact rfl)) | (first | (apply q_pick_f; exact rfl; exact rfl) | (apply q_len; exact rfl; exact rfl) | (apply q_not; exact rfl) | (apply q_nilCheck; exact rfl) | (apply q_nilCheckF; exact rfl) | (apply q_nilCheckY; exact rfl) | (apply q_inc; exact rfl; exact rfl; omega) | (apply q_lt; exact rfl; exact rfl; omega) | (apply q_ltF; exact rfl; exact rfl; omega) | (apply q_eq; exact rfl; exact rfl; omega) | (apply q_eqF; exact rfl; exact rfl; omega) | (apply q_ne; exact rfl; exact rfl; omega)) | (first | (apply q_neF; exact rfl; exact rfl; omega) | (apply q_gt; exact rfl; exact rfl; omega) | (apply q_gtF; exact rfl; exact rfl; omega) | (apply q_le; exact rfl; exact rfl; omega) | (apply q_leF; exact rfl; exact rfl; omega) | (apply q_ge; exact rfl; exact rfl; omega) | (apply q_geF; exact rfl; exact rfl; omega) | (apply q_sub_nat; exact rfl; exact rfl; omega; omega) | (apply q_add; exact rfl; exact rfl; exact ⟨by omega, by omega⟩) | (apply q_sub; exact rfl; exact rfl; exact ⟨by omega, by omega⟩) | (apply q_dbl; exact rfl; exact rfl; omega) | (apply q_mul; exact rfl; exact rfl; exact ⟨by omega, by omega⟩)) | (first | (apply q_half; exact rfl; exact rfl; omega) | (apply q_par; exact rfl; exact rfl) | (apply q_quo; exact rfl; exact rfl; omega; omega; omega) | (apply q_rem; exact rfl; exact rfl; omega; omega) | (apply q_loadS; exact rfl; exact rfl; (first | exact cells_own (by (repeat (first | exact .here | apply Mem.there)); first | done | fail) | exact cellsR (by assumption) (by (repeat (first | exact .here | apply Mem.there)); first | done | fail) | exact cellsH (by assumption) (by (repeat (first | exact .here | apply Mem.there)); first | done | fail)); exact rfl) | (apply q_min; exact rfl; exact rfl) | (apply q_max; exact rfl; exact rfl) | (apply q_makeFunc; exact rfl; exact rfl) | (apply q_eqBool; exact rfl; exact rfl; exact rfl) | (apply q_toInt; exact rfl; exact rfl; exact rfl; exact ⟨by omega, by omega⟩) | (apply q_cap; exact rfl; exact rfl) | (apply q_cutHi; exact rfl; exact rfl; exact rfl; exact rfl; omega)) | (first | (apply q_cutLo; exact rfl; exact rfl; exact rfl; exact rfl; omega) | (apply q_cutLoHi; exact rfl; exact rfl; exact rfl; exact rfl; exact rfl; omega; omega) | (apply q_field; exact rfl; exact rfl) | (apply q_build; exact rfl; exact rfl; exact (by (repeat (first | exact Bld.nil | apply Bld.put rfl rfl rfl | apply Bld.keep rfl)); first | done | fail)) | (apply q_neg; exact rfl; exact ⟨by omega, by omega⟩))))
          | refine jk_seq ?_
          | refine jk_region ?_
          | refine jk_nil ?_
          | refine jk_block ?_
          | refine jk_blk ?_
          | refine jk_skip ?_
          | refine jk_if_t rfl ?_
          | refine jk_if_f rfl ?_
          | refine jk_exit rfl ?_
          | refine jk_pass rfl rfl rfl ?_
          | (refine' jk_op _ rfl rfl rfl _; rotate_left; (first | (apply l_makeV; exact rfl; exact rfl; exact rfl; exact rfl; exact rfl; exact rfl; omega; omega) | (apply l_makeI; exact rfl; exact rfl; exact rfl; exact rfl; exact rfl; exact rfl; omega; omega) | (apply l_makeB; exact rfl; exact rfl; exact rfl; exact rfl; exact rfl; exact rfl; omega; omega) | (apply l_allocS; exact rfl) | (apply l_alloc1; exact rfl; exact rfl) | (apply l_buildSlice; exact rfl; exact rfl; exact rfl; exact rfl; exact rfl; exact (by (repeat (first | exact (fun v hv => absurd hv List.not_mem_nil) | (refine List.forall_mem_cons.2 ⟨?_, ?_⟩; (focus (first | exact rfl | assumption))))); first | done | fail); exact (by (repeat (first | exact Flat.nil | apply Flat.one rfl | apply Flat.agg2 | apply Flat.agg3 | apply Flat.agg1 | apply Flat.agg4 | apply Flat.agg5)); first | done | fail); exact rfl) | (apply l_boxS; exact rfl) | (apply l_box1; exact rfl; exact rfl)); rintro _ _ ⟨b, rfl, rfl⟩)
          | (refine' jk_op_none _ rfl rfl _; rotate_left; (first | (apply l_storeI; exact rfl; exact rfl; exact rfl; exact (by (repeat (first | exact .here | apply Take.there)); first | done | fail); omega) | (apply l_storeB; exact rfl; exact rfl; exact rfl; exact (by (repeat (first | exact .here | apply Take.there)); first | done | fail); omega) | (apply l_storeS; exact rfl; exact rfl; exact (by (repeat (first | exact .here | apply Take.there)); first | done | fail); exact (by (repeat (first | exact (fun v hv => absurd hv List.not_mem_nil) | (refine List.forall_mem_cons.2 ⟨?_, ?_⟩; (focus (first | exact rfl | assumption))))); first | done | fail); exact rfl; exact rfl) | (apply l_storeL; exact rfl; exact rfl; (first | exact rfl | assumption); exact rfl; exact (by (repeat (first | exact .here | apply Take.there)); first | done | fail); (focus (repeat (first | exact SetL.here | apply SetL.there)); done)) | (apply l_store; exact rfl; exact rfl; (first | exact rfl | assumption); exact rfl; exact (by (repeat (first | exact .here | apply Take.there)); first | done | fail); exact (by first | decide | (simp; done) | (simp; omega)))); rintro _ _ ⟨rfl, rfl⟩)
          | fail)
        all_goals exact jk_round (i + 1, _) ⟨by dsimp only; omega, hI2⟩ (by dsimp only; omega) (by (repeat (first | exact trivial | refine And.intro rfl ?_)); first | done | fail) (by (repeat (first | exact Sel.nil | (apply Sel.cons; (focus ((repeat (first | exact .here | apply Mem.there | apply Take.there)); first | done | fail))))); first | done | fail)
      · rcases pick_cases t h.a h.b with ⟨d1, d2, q2⟩ | ⟨d1, d2, d3, q2⟩ | ⟨d1, d2, d3, q2⟩ | ⟨d1, q2⟩ <;> rw [q2] at hI2 <;> (try (exfalso; omega))
        repeat' (first
          | (refine' jk_q _ rfl rfl rfl _; rotate_left; (first | (first | (apply q_move; exact rfl) | (apply q_assign; exact rfl) | (apply q_extract; exact rfl; exact rfl) | (apply q_load; exact rfl; exact rfl; (first | exact cell_own (by (repeat (first | exact .here | apply Mem.there)); first | done | fail) rfl | exact cellR (by assumption) (by (repeat (first | exact .here | apply Mem.there)); first | done | fail) | exact cellH (by assumption) (by (repeat (first | exact .here | apply Mem.there)); first | done | fail) | exact cell_ints (by (repeat (first | exact .here | apply Mem.there)); first | done | fail) (by omega) | exact cell_bools (by assumption) (by (repeat (first | exact .here | apply Mem.there)); first | done | fail) | exact cell_intsR (by (repeat (first | exact .here | apply Mem.there)); first | done | fail) (by omega) | exact cell_boolsR (by assumption) (by (repeat (first | exact .here | apply Mem.there)); first | done | fail))) | (apply q_fld0; exact rfl; exact rfl) | (apply q_fldZ; exact rfl; exact rfl) | (apply q_fld; exact rfl; exact rfl) | (apply q_idx0; exact rfl; exact rfl; exact rfl; exact rfl; omega) | (apply q_idx1; exact rfl; exact rfl; exact rfl; exact rfl; omega) | (apply q_idxN; exact rfl; exact rfl; exact rfl; exact rfl; omega) | (apply q_idxZ; exact rfl; exact rfl; exact rfl; exact rfl; omega) | (apply q_pick_t; exact rfl; exact rfl)) | (first | (apply q_pick_f; exact rfl; exact rfl) | (apply q_len; exact rfl; exact rfl) | (apply q_not; exact rfl) | (apply q_nilCheck; exact rfl) | (apply q_nilCheckF; exact rfl) | (apply q_nilCheckY; exact rfl) | (apply q_inc; exact rfl; exact rfl; omega) | (apply q_lt; exact rfl; exact rfl; omega) | (apply q_ltF; exact rfl; exact rfl; omega) | (apply q_eq; exact rfl; exact rfl; omega) | (apply q_eqF; exact rfl; exact rfl; omega) | (apply q_ne; exact rfl; exact rfl; omega)) | (first | (apply q_neF; exact rfl; exact rfl; omega) | (apply q_gt; exact rfl; exact rfl; omega) | (apply q_gtF; exact rfl; exact rfl; omega) | (apply q_le; exact rfl; exact rfl; omega) | (apply q_leF; exact rfl; exact rfl; omega) | (apply q_ge; exact rfl; exact rfl; omega) | (apply q_geF; exact rfl; exact rfl; omega) | (apply q_sub_nat; exact rfl; exact rfl; omega; omega) | (apply q_add; exact rfl; exact rfl; exact ⟨by omega, by omega⟩) | (apply q_sub; exact rfl; exact rfl; exact ⟨by omega, by omega⟩) | (apply q_dbl; exact rfl; exact rfl; omega) | (apply q_mul; exact rfl; exact rfl; exact ⟨by omega, by omega⟩)) | (first | (apply q_half; exact rfl; exact rfl; omega) | (apply q_par; exact rfl; exact rfl) | (apply q_quo; exact rfl; exact rfl; omega; omega; omega) | (apply q_rem; exact rfl; exact rfl; omega; omega) | (apply q_loadS; exact rfl; exact rfl; (first | exact cells_own (by (repeat (first | exact .here | apply Mem.there)); first | done | fail) | exact cellsR (by assumption) (by (repeat (first | exact .here | apply Mem.there)); first | done | fail) | exact cellsH (by assumption) (by (repeat (first | exact .here | apply Mem.there)); first | done | fail)); exact rfl) | (apply q_min; exact rfl; exact rfl) | (apply q_max; exact rfl; exact rfl) | (apply q_makeFunc; exact rfl; exact rfl) | (apply q_eqBool; exact rfl; exact rfl; exact rfl) | (apply q_toInt; exact rfl; exact rfl; exact rfl; exact ⟨by omega, by omega⟩) | (apply q_cap; exact rfl; exact rfl) | (apply q_cutHi; exact rfl; exact rfl; exact rfl; exact rfl; omega)) | (first | (apply q_cutLo; exact rfl; exact rfl; exact rfl; exact rfl; omega) | (apply q_cutLoHi; exact rfl; exact rfl; exact rfl; exact rfl; exact rfl; omega; omega) | (apply q_field; exact rfl; exact rfl) | (apply q_build; exact rfl; exact rfl; exact (by (repeat (first | exact Bld.nil | apply Bld.put rfl rfl rfl | apply Bld.keep rfl)); first | done | fail)) | (apply q_neg; exact rfl; exact ⟨by omega, by omega⟩))))
          | refine jk_seq ?_
          | refine jk_region ?_
          | refine jk_nil ?_
          | refine jk_block ?_
          | refine jk_blk ?_
          | refine jk_skip ?_
          | refine jk_if_t rfl ?_
          | refine jk_if_f rfl ?_
          | refine jk_exit rfl ?_
          | refine jk_pass rfl rfl rfl ?_
          | (refine' jk_op _ rfl rfl rfl _; rotate_left; (first | (apply l_makeV; exact rfl; exact rfl; exact rfl; exact rfl; exact rfl; exact rfl; omega; omega) | (apply l_makeI; exact rfl; exact rfl; exact rfl; exact rfl; exact rfl; exact rfl; omega; omega) | (apply l_makeB; exact rfl; exact rfl; exact rfl; exact rfl; exact rfl; exact rfl; omega; omega) | (apply l_allocS; exact rfl) | (apply l_alloc1; exact rfl; exact rfl) | (apply l_buildSlice; exact rfl; exact rfl; exact rfl; exact rfl; exact rfl; exact (by (repeat (first | exact (fun v hv => absurd hv List.not_mem_nil) | (refine List.forall_mem_cons.2 ⟨?_, ?_⟩; (focus (first | exact rfl | assumption))))); first | done | fail); exact (by (repeat (first | exact Flat.nil | apply Flat.one rfl | apply Flat.agg2 | apply Flat.agg3 | apply Flat.agg1 | apply Flat.agg4 | apply Flat.agg5)); first | done | fail); exact rfl) | (apply l_boxS; exact rfl) | (apply l_box1; exact rfl; exact rfl)); rintro _ _ ⟨b, rfl, rfl⟩)
          | (refine' jk_op_none _ rfl rfl _; rotate_left; (first | (apply l_storeI; exact rfl; exact rfl; exact rfl; exact (by (repeat (first | exact .here | apply Take.there)); first | done | fail); omega) | (apply l_storeB; exact rfl; exact rfl; exact rfl; exact (by (repeat (first | exact .here | apply Take.there)); first | done | fail); omega) | (apply l_storeS; exact rfl; exact rfl; exact (by (repeat (first | exact .here | apply Take.there)); first | done | fail); exact (by (repeat (first | exact (fun v hv => absurd hv List.not_mem_nil) | (refine List.forall_mem_cons.2 ⟨?_, ?_⟩; (focus (first | exact rfl | assumption))))); first | done | fail); exact rfl; exact rfl) | (apply l_storeL; exact rfl; exact rfl; (first | exact rfl | assumption); exact rfl; exact (by (repeat (first | exact .here | apply Take.there)); first | done | fail); (focus (repeat (first | exact SetL.here | apply SetL.there)); done)) | (apply l_store; exact rfl; exact rfl; (first | exact rfl | assumption); exact rfl; exact (by (repeat (first | exact .here | apply Take.there)); first | done | fail); exact (by first | decide | (simp; done) | (simp; omega)))); rintro _ _ ⟨rfl, rfl⟩)
          | fail)
        all_goals exact jk_round (i + 1, _) ⟨by dsimp only; omega, hI2⟩ (by dsimp only; omega) (by (repeat (first | exact trivial | refine And.intro rfl ?_)); first | done | fail) (by (repeat (first | exact Sel.nil | (apply Sel.cons; (focus ((repeat (first | exact .here | apply Mem.there | apply Take.there)); first | done | fail))))); first | done | fail)
      · rcases pick_cases t nx h.b with ⟨d1, d2, q2⟩ | ⟨d1, d2, d3, q2⟩ | ⟨d1, d2, d3, q2⟩ | ⟨d1, q2⟩ <;> rw [q2] at hI2 <;> (try (exfalso; omega))
        repeat' (first
          | (refine' jk_q _ rfl rfl rfl _; rotate_left; (first | (first | (apply q_move; exact rfl) | (apply q_assign; exact rfl) | (apply q_extract; exact rfl; exact rfl) | (apply q_load; exact rfl; exact rfl; (first | exact cell_own (by (repeat (first | exact .here | apply Mem.there)); first | done | fail) rfl | exact cellR (by assumption) (by (repeat (first | exact .here | apply Mem.there)); first | done | fail) | exact cellH (by assumption) (by (repeat (first | exact .here | apply Mem.there)); first | done | fail) | exact cell_ints (by (repeat (first | exact .here | apply Mem.there)); first | done | fail) (by omega) | exact cell_bools (by assumption) (by (repeat (first | exact .here | apply Mem.there)); first | done | fail) | exact cell_intsR (by (repeat (first | exact .here | apply Mem.there)); first | done | fail) (by omega) | exact cell_boolsR (by assumption) (by (repeat (first | exact .here | apply Mem.there)); first | done | fail))) | (apply q_fld0; exact rfl; exact rfl) | (apply q_fldZ; exact rfl; exact rfl) | (apply q_fld; exact rfl; exact rfl) | (apply q_idx0; exact rfl; exact rfl; exact rfl; exact rfl; omega) | (apply q_idx1; exact rfl; exact rfl; exact rfl; exact rfl; omega) | (apply q_idxN; exact rfl; exact rfl; exact rfl; exact rfl; omega) | (apply q_idxZ; exact rfl; exact rfl; exact rfl; exact rfl; omega) | (apply q_pick_t; exact rfl; exact rfl)) | (first | (apply q_pick_f; exact rfl; exact rfl) | (apply q_len; exact rfl; exact rfl) | (apply q_not; exact rfl) | (apply q_nilCheck; exact rfl) | (apply q_nilCheckF; exact rfl) | (apply q_nilCheckY; exact rfl) | (apply q_inc; exact rfl; exact rfl; omega) | (apply q_lt; exact rfl; exact rfl; omega) | (apply q_ltF; exact rfl; exact rfl; omega) | (apply q_eq; exact rfl; exact rfl; omega) | (apply q_eqF; exact rfl; exact rfl; omega) | (apply q_ne; exact rfl; exact rfl; omega)) | (first | (apply q_neF; exact rfl; exact rfl; omega) | (apply q_gt; exact rfl; exact rfl; omega) | (apply q_gtF; exact rfl; exact rfl; omega) | (apply q_le; exact rfl; exact rfl; omega) | (apply q_leF; exact rfl; exact rfl; omega) | (apply q_ge; exact rfl; exact rfl; omega) | (apply q_geF; exact rfl; exact rfl; omega) | (apply q_sub_nat; exact rfl; exact rfl; omega; omega) | (apply q_add; exact rfl; exact rfl; exact ⟨by omega, by omega⟩) | (apply q_sub; exact rfl; exact rfl; exact ⟨by omega, by omega⟩) | (apply q_dbl; exact rfl; exact rfl; omega) | (apply q_mul; exact rfl; exact rfl; exact ⟨by omega, by omega⟩)) | (first | (apply q_half; exact rfl; exact rfl; omega) | (apply q_par; exact rfl; exact rfl) | (apply q_quo; exact rfl; exact rfl; omega; omega; omega) | (apply q_rem; exact rfl; exact rfl; omega; omega) | (apply q_loadS; exact rfl; exact rfl; (first | exact cells_own (by (repeat (first | exact .here | apply Mem.there)); first | done | fail) | exact cellsR (by assumption) (by (repeat (first | exact .here | apply Mem.there)); first | done | fail) | exact cellsH (by assumption) (by (repeat (first | exact .here | apply Mem.there)); first | done | fail)); exact rfl) | (apply q_min; exact rfl; exact rfl) | (apply q_max; exact rfl; exact rfl) | (apply q_makeFunc; exact rfl; exact rfl) | (apply q_eqBool; exact rfl; exact rfl; exact rfl) | (apply q_toInt; exact rfl; exact rfl; exact rfl; exact ⟨by omega, by omega⟩) | (apply q_cap; exact rfl; exact rfl) | (apply q_cutHi; exact rfl; exact rfl; exact rfl; exact rfl; omega)) | (first | (apply q_cutLo; exact rfl; exact rfl; exact rfl; exact rfl; omega) | (apply q_cutLoHi; exact rfl; exact rfl; exact rfl; exact rfl; exact rfl; omega; omega) | (apply q_field; exact rfl; exact rfl) | (apply q_build; exact rfl; exact rfl; exact (by (repeat (first | exact Bld.nil | apply Bld.put rfl rfl rfl | apply Bld.keep rfl)); first | done | fail)) | (apply q_neg; exact rfl; exact ⟨by omega, by omega⟩))))
          | refine jk_seq ?_
          | refine jk_region ?_
          | refine jk_nil ?_
          | refine jk_block ?_
          | refine jk_blk ?_
          | refine jk_skip ?_
          | refine jk_if_t rfl ?_
          | refine jk_if_f rfl ?_
          | refine jk_exit rfl ?_
          | refine jk_pass rfl rfl rfl ?_
          | (refine' jk_op _ rfl rfl rfl _; rotate_left; (first | (apply l_makeV; exact rfl; exact rfl; exact rfl; exact rfl; exact rfl; exact rfl; omega; omega) | (apply l_makeI; exact rfl; exact rfl; exact rfl; exact rfl; exact rfl; exact rfl; omega; omega) | (apply l_makeB; exact rfl; exact rfl; exact rfl; exact rfl; exact rfl; exact rfl; omega; omega) | (apply l_allocS; exact rfl) | (apply l_alloc1; exact rfl; exact rfl) | (apply l_buildSlice; exact rfl; exact rfl; exact rfl; exact rfl; exact rfl; exact (by (repeat (first | exact (fun v hv => absurd hv List.not_mem_nil) | (refine List.forall_mem_cons.2 ⟨?_, ?_⟩; (focus (first | exact rfl | assumption))))); first | done | fail); exact (by (repeat (first | exact Flat.nil | apply Flat.one rfl | apply Flat.agg2 | apply Flat.agg3 | apply Flat.agg1 | apply Flat.agg4 | apply Flat.agg5)); first | done | fail); exact rfl) | (apply l_boxS; exact rfl) | (apply l_box1; exact rfl; exact rfl)); rintro _ _ ⟨b, rfl, rfl⟩)
          | (refine' jk_op_none _ rfl rfl _; rotate_left; (first | (apply l_storeI; exact rfl; exact rfl; exact rfl; exact (by (repeat (first | exact .here | apply Take.there)); first | done | fail); omega) | (apply l_storeB; exact rfl; exact rfl; exact rfl; exact (by (repeat (first | exact .here | apply Take.there)); first | done | fail); omega) | (apply l_storeS; exact rfl; exact rfl; exact (by (repeat (first | exact .here | apply Take.there)); first | done | fail); exact (by (repeat (first | exact (fun v hv => absurd hv List.not_mem_nil) | (refine List.forall_mem_cons.2 ⟨?_, ?_⟩; (focus (first | exact rfl | assumption))))); first | done | fail); exact rfl; exact rfl) | (apply l_storeL; exact rfl; exact rfl; (first | exact rfl | assumption); exact rfl; exact (by (repeat (first | exact .here | apply Take.there)); first | done | fail); (focus (repeat (first | exact SetL.here | apply SetL.there)); done)) | (apply l_store; exact rfl; exact rfl; (first | exact rfl | assumption); exact rfl; exact (by (repeat (first | exact .here | apply Take.there)); first | done | fail); exact (by first | decide | (simp; done) | (simp; omega)))); rintro _ _ ⟨rfl, rfl⟩)
          | fail)
        all_goals exact jk_round (i + 1, _) ⟨by dsimp only; omega, hI2⟩ (by dsimp only; omega) (by (repeat (first | exact trivial | refine And.intro rfl ?_)); first | done | fail) (by (repeat (first | exact Sel.nil | (apply Sel.cons; (focus ((repeat (first | exact .here | apply Mem.there | apply Take.there)); first | done | fail))))); first | done | fail)
      · rcases pick_cases t nx h.b with ⟨d1, d2, q2⟩ | ⟨d1, d2, d3, q2⟩ | ⟨d1, d2, d3, q2⟩ | ⟨d1, q2⟩ <;> rw [q2] at hI2 <;> (try (exfalso; omega))
        repeat' (first
          | (refine' jk_q _ rfl rfl rfl _; rotate_left; (first | (first | (apply q_move; exact rfl) | (apply q_assign; exact rfl) | (apply q_extract; exact rfl; exact rfl) | (apply q_load; exact rfl; exact rfl; (first | exact cell_own (by (repeat (first | exact .here | apply Mem.there)); first | done | fail) rfl | exact cellR (by assumption) (by (repeat (first | exact .here | apply Mem.there)); first | done | fail) | exact cellH (by assumption) (by (repeat (first | exact .here | apply Mem.there)); first | done | fail) | exact cell_ints (by (repeat (first | exact .here | apply Mem.there)); first | done | fail) (by omega) | exact cell_bools (by assumption) (by (repeat (first | exact .here | apply Mem.there)); first | done | fail) | exact cell_intsR (by (repeat (first | exact .here | apply Mem.there)); first | done | fail) (by omega) | exact cell_boolsR (by assumption) (by (repeat (first | exact .here | apply Mem.there)); first | done | fail))) | (apply q_fld0; exact rfl; exact rfl) | (apply q_fldZ; exact rfl; exact rfl) | (apply q_fld; exact rfl; exact rfl) | (apply q_idx0; exact rfl; exact rfl; exact rfl; exact rfl; omega) | (apply q_idx1; exact rfl; exact rfl; exact rfl; exact rfl; omega) | (apply q_idxN; exact rfl; exact rfl; exact rfl; exact rfl; omega) | (apply q_idxZ; exact rfl; exact rfl; exact rfl; exact rfl; omega) | (apply q_pick_t; exact rfl; exact rfl)) | (first | (apply q_pick_f; exact rfl; exact rfl) | (apply q_len; exact rfl; exact rfl) | (apply q_not; exact rfl) | (apply q_nilCheck; exact rfl) | (apply q_nilCheckF; exact rfl) | (apply q_nilCheckY; exact rfl) | (apply q_inc; exact rfl; exact rfl; omega) | (apply q_lt; exact rfl; exact rfl; omega) | (apply q_ltF; exact rfl; exact rfl; omega) | (apply q_eq; exact rfl; exact rfl; omega) | (apply q_eqF; exact rfl; exact rfl; omega) | (apply q_ne; exact rfl; exact rfl; omega)) | (first | (apply q_neF; exact rfl; exact rfl; omega) | (apply q_gt; exact rfl; exact rfl; omega) | (apply q_gtF; exact rfl; exact rfl; omega) | (apply q_le; exact rfl; exact rfl; omega) | (apply q_leF; exact rfl; exact rfl; omega) | (apply q_ge; exact rfl; exact rfl; omega) | (apply q_geF; exact rfl; exact rfl; omega) | (apply q_sub_nat; exact rfl; exact rfl; omega; omega) | (apply q_add; exact rfl; exact rfl; exact ⟨by omega, by omega⟩) | (apply q_sub; exact rfl; exact rfl; exact ⟨by omega, by omega⟩) | (apply q_dbl; exact rfl; exact rfl; omega) | (apply q_mul; exact rfl; exact rfl; exact ⟨by omega, by omega⟩)) | (first | (apply q_half; exact rfl; exact rfl; omega) | (apply q_par; exact rfl; exact rfl) | (apply q_quo; exact rfl; exact rfl; omega; omega; omega) | (apply q_rem; exact rfl; exact rfl; omega; omega) | (apply q_loadS; exact rfl; exact rfl; (first | exact cells_own (by (repeat (first | exact .here | apply Mem.there)); first | done | fail) | exact cellsR (by assumption) (by (repeat (first | exact .here | apply Mem.there)); first | done | fail) | exact cellsH (by assumption) (by (repeat (first | exact .here | apply Mem.there)); first | done | fail)); exact rfl) | (apply q_min; exact rfl; exact rfl) | (apply q_max; exact rfl; exact rfl) | (apply q_makeFunc; exact rfl; exact rfl) | (apply q_eqBool; exact rfl; exact rfl; exact rfl) | (apply q_toInt; exact rfl; exact rfl; exact rfl; exact ⟨by omega, by omega⟩) | (apply q_cap; exact rfl; exact rfl) | (apply q_cutHi; exact rfl; exact rfl; exact rfl; exact rfl; omega)) | (first | (apply q_cutLo; exact rfl; exact rfl; exact rfl; exact rfl; omega) | (apply q_cutLoHi; exact rfl; exact rfl; exact rfl; exact rfl; exact rfl; omega; omega) | (apply q_field; exact rfl; exact rfl) | (apply q_build; exact rfl; exact rfl; exact (by (repeat (first | exact Bld.nil | apply Bld.put rfl rfl rfl | apply Bld.keep rfl)); first | done | fail)) | (apply q_neg; exact rfl; exact ⟨by omega, by omega⟩))))
          | refine jk_seq ?_
          | refine jk_region ?_
          | refine jk_nil ?_
          | refine jk_block ?_
          | refine jk_blk ?_
          | refine jk_skip ?_
          | refine jk_if_t rfl ?_
          | refine jk_if_f rfl ?_
          | refine jk_exit rfl ?_
          | refine jk_pass rfl rfl rfl ?_
          | (refine' jk_op _ rfl rfl rfl _; rotate_left; (first | (apply l_makeV; exact rfl; exact rfl; exact rfl; exact rfl; exact rfl; exact rfl; omega; omega) | (apply l_makeI; exact rfl; exact rfl; exact rfl; exact rfl; exact rfl; exact rfl; omega; omega) | (apply l_makeB; exact rfl; exact rfl; exact rfl; exact rfl; exact rfl; exact rfl; omega; omega) | (apply l_allocS; exact rfl) | (apply l_alloc1; exact rfl; exact rfl) | (apply l_buildSlice; exact rfl; exact rfl; exact rfl; exact rfl; exact rfl; exact (by (repeat (first | exact (fun v hv => absurd hv List.not_mem_nil) | (refine List.forall_mem_cons.2 ⟨?_, ?_⟩; (focus (first | exact rfl | assumption))))); first | done | fail); exact (by (repeat (first | exact Flat.nil | apply Flat.one rfl | apply Flat.agg2 | apply Flat.agg3 | apply Flat.agg1 | apply Flat.agg4 | apply Flat.agg5)); first | done | fail); exact rfl) | (apply l_boxS; exact rfl) | (apply l_box1; exact rfl; exact rfl)); rintro _ _ ⟨b, rfl, rfl⟩)
          | (refine' jk_op_none _ rfl rfl _; rotate_left; (first | (apply l_storeI; exact rfl; exact rfl; exact rfl; exact (by (repeat (first | exact .here | apply Take.there)); first | done | fail); omega) | (apply l_storeB; exact rfl; exact rfl; exact rfl; exact (by (repeat (first | exact .here | apply Take.there)); first | done | fail); omega) | (apply l_storeS; exact rfl; exact rfl; exact (by (repeat (first | exact .here | apply Take.there)); first | done | fail); exact (by (repeat (first | exact (fun v hv => absurd hv List.not_mem_nil) | (refine List.forall_mem_cons.2 ⟨?_, ?_⟩; (focus (first | exact rfl | assumption))))); first | done | fail); exact rfl; exact rfl) | (apply l_storeL; exact rfl; exact rfl; (first | exact rfl | assumption); exact rfl; exact (by (repeat (first | exact .here | apply Take.there)); first | done | fail); (focus (repeat (first | exact SetL.here | apply SetL.there)); done)) | (apply l_store; exact rfl; exact rfl; (first | exact rfl | assumption); exact rfl; exact (by (repeat (first | exact .here | apply Take.there)); first | done | fail); exact (by first | decide | (simp; done) | (simp; omega)))); rintro _ _ ⟨rfl, rfl⟩)
          | fail)
        all_goals exact jk_round (i + 1, _) ⟨by dsimp only; omega, hI2⟩ (by dsimp only; omega) (by (repeat (first | exact trivial | refine And.intro rfl ?_)); first | done | fail) (by (repeat (first | exact Sel.nil | (apply Sel.cons; (focus ((repeat (first | exact .here | apply Mem.there | apply Take.there)); first | done | fail))))); first | done | fail)
    · have hI2 := hI.skip hn
      rw [← htk] at hI2
      refine jk_seq ?_
      refine jk_seq ?_
      refine jk_region ?_
      focus (refine' jk_q _ rfl rfl rfl _; rotate_left; (apply q_move; exact rfl))
      focus (refine' jk_q _ rfl rfl rfl _; rotate_left; (apply q_move; exact rfl))
      focus (refine' jk_q _ rfl rfl rfl _; rotate_left; (apply q_len; exact rfl; exact rfl))
      focus (refine' jk_q _ rfl rfl rfl _; rotate_left; (apply q_lt; exact rfl; exact rfl; omega))
      refine jk_nil ?_
      refine jk_if_t rfl ?_
      refine jk_skip ?_
      refine jk_seq ?_
      refine jk_block ?_
      refine jk_seq ?_
      refine jk_seq ?_
      refine jk_region ?_
      focus (refine' jk_q _ rfl rfl rfl _; rotate_left; (apply q_move; exact rfl))
      focus (refine' jk_q _ rfl rfl rfl _; rotate_left; (apply q_move; exact rfl))
      focus (refine' jk_q _ rfl rfl rfl _; rotate_left; (apply q_idxN; exact rfl; exact rfl; exact rfl; exact rfl; omega))
      focus (refine' jk_q _ rfl rfl rfl _; rotate_left; (apply q_fldZ; exact rfl; exact rfl))
      focus (refine' jk_q _ rfl rfl rfl _; rotate_left; (apply q_load; exact rfl; exact rfl; (first | exact cell_own (by (repeat (first | exact .here | apply Mem.there)); first | done | fail) rfl | exact cellR (by assumption) (by (repeat (first | exact .here | apply Mem.there)); first | done | fail) | exact cellH (by assumption) (by (repeat (first | exact .here | apply Mem.there)); first | done | fail) | exact cell_ints (by (repeat (first | exact .here | apply Mem.there)); first | done | fail) (by omega) | exact cell_bools (by assumption) (by (repeat (first | exact .here | apply Mem.there)); first | done | fail) | exact cell_intsR (by (repeat (first | exact .here | apply Mem.there)); first | done | fail) (by omega) | exact cell_boolsR (by assumption) (by (repeat (first | exact .here | apply Mem.there)); first | done | fail))))
      focus (refine' jk_q _ rfl rfl rfl _; rotate_left; (apply q_move; exact rfl))
      focus (refine' jk_q _ rfl rfl rfl _; rotate_left; (apply q_ne; exact rfl; exact rfl; omega))
      refine jk_nil ?_
      refine jk_if_t rfl ?_
      refine jk_exit rfl ?_
      refine jk_region ?_
      focus (refine' jk_q _ rfl rfl rfl _; rotate_left; (apply q_move; exact rfl))
      focus (refine' jk_q _ rfl rfl rfl _; rotate_left; (apply q_inc; exact rfl; exact rfl; omega))
      focus (refine' jk_q _ rfl rfl rfl _; rotate_left; (apply q_assign; exact rfl))
      refine jk_nil ?_
      exact jk_round (i + 1, nx) ⟨by dsimp only; omega, hI2⟩ (by dsimp only; omega) (by (repeat (first | exact trivial | refine And.intro rfl ?_)); first | done | fail) (by (repeat (first | exact Sel.nil | (apply Sel.cons; (focus ((repeat (first | exact .here | apply Mem.there | apply Take.there)); first | done | fail))))); first | done | fail)
  have hie : i = l.length := by omega
  subst hie
  rw [List.take_length] at hI
  obtain ⟨n1, n2⟩ := hnk nx hI
  by_cases hneg : nx < 0
  · have hke := n1 hneg
    rw [hke, List.take_length] at hO
    refine jk_seq ?_
    refine jk_seq ?_
    refine jk_region ?_
    focus (refine' jk_q _ rfl rfl rfl _; rotate_left; (apply q_move; exact rfl))
    focus (refine' jk_q _ rfl rfl rfl _; rotate_left; (apply q_move; exact rfl))
    focus (refine' jk_q _ rfl rfl rfl _; rotate_left; (apply q_len; exact rfl; exact rfl))
    focus (refine' jk_q _ rfl rfl rfl _; rotate_left; (apply q_ltF; exact rfl; exact rfl; omega))
    refine jk_nil ?_
    refine jk_if_f rfl ?_
    refine jk_exit rfl ?_
    refine jk_seq ?_
    refine jk_seq ?_
    refine jk_region ?_
    focus (refine' jk_q _ rfl rfl rfl _; rotate_left; (apply q_move; exact rfl))
    focus (refine' jk_q _ rfl rfl rfl _; rotate_left; (apply q_lt; exact rfl; exact rfl; omega))
    refine jk_nil ?_
    refine jk_if_t rfl ?_
    refine jk_seq ?_
    refine jk_region ?_
    focus (refine' jk_q _ rfl rfl rfl _; rotate_left; (apply q_move; exact rfl))
    focus (refine' jk_q _ rfl rfl rfl _; rotate_left; (apply q_assign; exact rfl))
    refine jk_nil ?_
    exact jk_ret_any (res1 rfl rfl) (by (repeat (first | exact rs_nil | (refine rs_cons ?_ ?_; (focus ((repeat (first | exact .here | apply Mem.there | apply Take.there)); first | done | fail))) | exact fun ρ hρ => hρ | (intro ρ hρ; repeat (first | exact hρ | refine List.mem_cons_of_mem _ ?_)))); first | done | fail) (by (repeat (first | exact Sel.nil | (apply Sel.cons; (focus ((repeat (first | exact .here | apply Mem.there | apply Take.there)); first | done | fail))))); first | done | fail) ⟨σ, hO, rfl⟩
  · have hx := n2 (by omega)
    have hkl := (List.getElem?_eq_some_iff.1 hx).1
    obtain ⟨pu, cu, rfl⟩ := SlAt.cap hO.at
    have htl2 : ((hts l n).take k).length = k := by rw [List.length_take]; omega
    have htk : (hts l n).take (k + 1) = (hts l n).take k ++ [nx] := by rw [List.take_succ, hx]; rfl
    have hln : lastT (hts l n) (k + 1) = nx := by
      unfold lastT
      rw [if_neg (by omega), List.getD_eq_getElem?_getD, Nat.add_sub_cancel, hx]; rfl
    refine jk_seq ?_
    refine jk_seq ?_
    refine jk_region ?_
    focus (refine' jk_q _ rfl rfl rfl _; rotate_left; (apply q_move; exact rfl))
    focus (refine' jk_q _ rfl rfl rfl _; rotate_left; (apply q_move; exact rfl))
    focus (refine' jk_q _ rfl rfl rfl _; rotate_left; (apply q_len; exact rfl; exact rfl))
    focus (refine' jk_q _ rfl rfl rfl _; rotate_left; (apply q_ltF; exact rfl; exact rfl; omega))
    refine jk_nil ?_
    refine jk_if_f rfl ?_
    refine jk_exit rfl ?_
    refine jk_seq ?_
    refine jk_seq ?_
    refine jk_region ?_
    focus (refine' jk_q _ rfl rfl rfl _; rotate_left; (apply q_move; exact rfl))
    focus (refine' jk_q _ rfl rfl rfl _; rotate_left; (apply q_ltF; exact rfl; exact rfl; omega))
    refine jk_nil ?_
    refine jk_if_f rfl ?_
    refine jk_skip ?_
    refine jk_seq ?_
    refine jk_region ?_
    focus (refine' jk_q _ rfl rfl rfl _; rotate_left; (apply q_move; exact rfl))
    focus (refine' jk_q _ rfl rfl rfl _; rotate_left; (apply q_move; exact rfl))
    focus (refine' jk_op _ rfl rfl rfl _; rotate_left; (apply l_buildSlice; exact rfl; exact rfl; exact rfl; exact rfl; exact rfl; exact (by (repeat (first | exact (fun v hv => absurd hv List.not_mem_nil) | (refine List.forall_mem_cons.2 ⟨?_, ?_⟩; (focus (first | exact rfl | assumption))))); first | done | fail); exact (by (repeat (first | exact Flat.nil | apply Flat.one rfl | apply Flat.agg2 | apply Flat.agg3 | apply Flat.agg1 | apply Flat.agg4 | apply Flat.agg5)); first | done | fail); exact rfl); rintro _ _ ⟨b, rfl, rfl⟩)
    refine jk_op (l_append (by_ := 8) (s := 1) (news := [int nx]) rfl rfl rfl rfl rfl rfl rfl hO (by (repeat (first | exact .here | apply Take.there)); first | done | fail) (cells_own (by (repeat (first | exact .here | apply Mem.there)); first | done | fail)) rfl (by (repeat (first | exact (fun v hv => absurd hv List.not_mem_nil) | (refine List.forall_mem_cons.2 ⟨?_, ?_⟩; (focus (first | exact rfl | assumption))))); first | done | fail) (by omega) (by simp only [maxLen]; omega) (by omega)) rfl rfl rfl ?_
    rintro u1 _ ⟨σ1, hO1, rfl⟩
    focus (refine' jk_q _ rfl rfl rfl _; rotate_left; (apply q_assign; exact rfl))
    refine jk_nil ?_
    refine jk_region ?_
    focus (refine' jk_q _ rfl rfl rfl _; rotate_left; (apply q_move; exact rfl))
    focus (refine' jk_q _ rfl rfl rfl _; rotate_left; (apply q_assign; exact rfl))
    refine jk_nil ?_
    refine jk_blk ?_
    refine jk_round (k + 1, (u1, σ1)) ⟨by dsimp only; omega, ?_⟩ (by dsimp only; omega) ?_ (by (repeat (first | exact Sel.nil | (apply Sel.cons; (focus ((repeat (first | exact .here | apply Mem.there | apply Take.there)); first | done | fail))))); first | done | fail)
    · dsimp only
      rw [htk, List.length_append, List.flatMap_append]
      exact hO1
    · dsimp only
      rw [hln]
      exact (by (repeat (first | exact trivial | refine And.intro rfl ?_)); first | done | fail)
set_option maxHeartbeats 16000000 in
theorem refLevels_spec (ρ : PH) (v : Value) (l : List Hd) (n : Int) (nq : Nat) (hv : HdAt ρ v l) (hok : ∀ h ∈ l, okHd nq h) (hl : l.length ≤ 600) :
    Makes Try.prog (fv 37) [v, int n] [ρ] (fun r σ => OwnS 40 2 r (lvH l n).length ((lvH l n).flatMap encV) σ) := by
  have hv2 := hv
  obtain ⟨q, c, rfl, hr⟩ := hv.val encH_len
  refine spec_in (cap := []) Try.func37 rfl rfl Try.ntmps37 rfl (by (repeat (first | exact EnvA.nil EnvI.nil | apply EnvA.cons | apply EnvA.nil | exact EnvI.nil | apply EnvI.cons)); first | done | fail) (fun N β => ?_)
  refine jk_seq ?_
  refine jk_region ?_
  focus (refine' jk_q _ rfl rfl rfl _; rotate_left; (apply q_assign; exact rfl))
  refine jk_nil ?_
  refine jk_seq ?_
  refine jk_region ?_
  focus (refine' jk_op _ rfl rfl rfl _; rotate_left; (apply l_buildSlice; exact rfl; exact rfl; exact rfl; exact rfl; exact rfl; exact (by (repeat (first | exact (fun v hv => absurd hv List.not_mem_nil) | (refine List.forall_mem_cons.2 ⟨?_, ?_⟩; (focus (first | exact rfl | assumption))))); first | done | fail); exact (by (repeat (first | exact Flat.nil | apply Flat.one rfl | apply Flat.agg2 | apply Flat.agg3 | apply Flat.agg1 | apply Flat.agg4 | apply Flat.agg5)); first | done | fail); exact rfl); rintro _ _ ⟨b, rfl, rfl⟩)
  focus (refine' jk_q _ rfl rfl rfl _; rotate_left; (apply q_assign; exact rfl))
  refine jk_nil ?_
  refine jk_seq ?_
  refine jk_region ?_
  focus (refine' jk_q _ rfl rfl rfl _; rotate_left; (apply q_move; exact rfl))
  focus (refine' jk_q _ rfl rfl rfl _; rotate_left; (apply q_move; exact rfl))
  revert b; intro b0
  refine jk_callM (times_spec ρ _ l n nq hv2 hok hl) rfl rfl (by (repeat (first | exact RdOK.nil | (refine RdOK.consR ?_ ?_; (focus ((repeat (first | exact .here | apply Mem.there | apply Take.there)); first | done | fail))) | (refine RdOK.consH ?_ ?_; (focus ((repeat (first | exact .here | apply Mem.there | apply Take.there)); first | done | fail))) | exact (fun τ hτ => .inl (by simp [hτ])))); first | done | fail) rfl rfl ?_
  rintro ut σt hOt
  have htl := hts_len2 l n
  unfold lvH
  generalize hts l n = ts at hOt htl
  have hNs : IntsAt σt _ ts := hOt.at
  obtain ⟨pt, ct, rfl, hrs⟩ := hNs.val Eng.encI_len
  refine jk_freeze (ρ := σt) (by (repeat (first | exact .here | apply Take.there)); first | done | fail) ?_
  focus (refine' jk_q _ rfl rfl rfl _; rotate_left; (apply q_assign; exact rfl))
  refine jk_nil ?_
  refine jk_seq ?_
  refine jk_region ?_
  focus (refine' jk_q _ rfl rfl rfl _; rotate_left; (apply q_assign; exact rfl))
  refine jk_nil ?_
  refine jk_seq ?_
  refine jk_seq ?_
  refine jk_region ?_
  focus (refine' jk_q _ rfl rfl rfl _; rotate_left; (apply q_assign; exact rfl))
  refine jk_nil ?_
  refine jk_block ?_
  refine jk_loop [0, 1, 6] (X := Nat × (Value × PH)) (0, (.slice (some ⟨b0, 0, none⟩) 0 0, sng b0 (.cells #[] 40 (0, 0)))) (fun x => x.1 ≤ ts.length ∧ OwnS 40 2 x.2.1 (comb (Step.stored l n) 0 (ts.take x.1)).length ((comb (Step.stored l n) 0 (ts.take x.1)).flatMap encV) x.2.2) (fun x => [(8, int x.1), (5, x.2.1), (7, int (prevF (Step.stored l n) ts x.1))]) (fun x => [x.2.2]) (fun x => ts.length - x.1)
    (by (repeat (first | exact Pick.nil | apply Pick.cons rfl)); first | done | fail) ⟨by dsimp only; omega, OwnS.empty⟩ (by (repeat (first | exact trivial | refine And.intro rfl ?_)); first | done | fail) (by (repeat (first | exact Sel.nil | (apply Sel.cons; (focus ((repeat (first | exact .here | apply Mem.there | apply Take.there)); first | done | fail))))); first | done | fail) ?_
  rintro ⟨k, u, σ'⟩ ⟨hk', hO'⟩
  dsimp only at hk' hO' ⊢
  by_cases hlt' : k < ts.length
  · have hx := List.getElem?_eq_getElem hlt'
    obtain ⟨b2, o2, rfl, g1⟩ := hrs.int hx
    have hsn := comb_snoc (Step.stored l n) hx
    have hpn : prevF (Step.stored l n) ts (k + 1) = Step.stored l n ts[k] := by
      unfold prevF
      rw [if_neg (by omega), List.getD_eq_getElem?_getD, Nat.add_sub_cancel, hx]; rfl
    generalize ts[k] = t at g1 hsn hpn
    have hcl := comb_len (Step.stored l n) (ts.take k) 0
    rw [List.length_take, Nat.min_eq_left hk'] at hcl
    generalize prevF (Step.stored l n) ts k = p at hsn
    obtain ⟨pu', cu', rfl⟩ := SlAt.cap hO'.at
    refine jk_seq ?_
    refine jk_seq ?_
    refine jk_region ?_
    focus (refine' jk_q _ rfl rfl rfl _; rotate_left; (apply q_move; exact rfl))
    focus (refine' jk_q _ rfl rfl rfl _; rotate_left; (apply q_move; exact rfl))
    focus (refine' jk_q _ rfl rfl rfl _; rotate_left; (apply q_len; exact rfl; exact rfl))
    focus (refine' jk_q _ rfl rfl rfl _; rotate_left; (apply q_lt; exact rfl; exact rfl; omega))
    refine jk_nil ?_
    refine jk_if_t rfl ?_
    refine jk_skip ?_
    refine jk_seq ?_
    refine jk_block ?_
    refine jk_seq ?_
    refine jk_region ?_
    focus (refine' jk_q _ rfl rfl rfl _; rotate_left; (apply q_move; exact rfl))
    focus (refine' jk_q _ rfl rfl rfl _; rotate_left; (apply q_move; exact rfl))
    focus (refine' jk_q _ rfl rfl rfl _; rotate_left; (apply q_move; exact rfl))
    focus (refine' jk_q _ rfl rfl rfl _; rotate_left; (apply q_move; exact rfl))
    focus (refine' jk_q _ rfl rfl rfl _; rotate_left; (apply q_idx1; exact rfl; exact rfl; exact rfl; exact rfl; omega))
    focus (refine' jk_q _ rfl rfl rfl _; rotate_left; (apply q_load; exact rfl; exact rfl; (first | exact cell_own (by (repeat (first | exact .here | apply Mem.there)); first | done | fail) rfl | exact cellR (by assumption) (by (repeat (first | exact .here | apply Mem.there)); first | done | fail) | exact cellH (by assumption) (by (repeat (first | exact .here | apply Mem.there)); first | done | fail) | exact cell_ints (by (repeat (first | exact .here | apply Mem.there)); first | done | fail) (by omega) | exact cell_bools (by assumption) (by (repeat (first | exact .here | apply Mem.there)); first | done | fail) | exact cell_intsR (by (repeat (first | exact .here | apply Mem.there)); first | done | fail) (by omega) | exact cell_boolsR (by assumption) (by (repeat (first | exact .here | apply Mem.there)); first | done | fail))))
    refine jk_call (stored_spec ρ _ l n t nq hv2 hok hl) rfl rfl (by (repeat (first | exact RdOK.nil | (refine RdOK.consR ?_ ?_; (focus ((repeat (first | exact .here | apply Mem.there | apply Take.there)); first | done | fail))) | (refine RdOK.consH ?_ ?_; (focus ((repeat (first | exact .here | apply Mem.there | apply Take.there)); first | done | fail))) | exact (fun τ hτ => .inl (by simp [hτ])))); first | done | fail) rfl rfl ?_
    rintro _ rfl
    generalize Step.stored l n t = w at hsn hpn
    by_cases hz : w = p
    · rw [if_pos hz, List.append_nil] at hsn
      focus (refine' jk_q _ rfl rfl rfl _; rotate_left; (apply q_assign; exact rfl))
      refine jk_nil ?_
      refine jk_seq ?_
      refine jk_region ?_
      focus (refine' jk_q _ rfl rfl rfl _; rotate_left; (apply q_move; exact rfl))
      focus (refine' jk_q _ rfl rfl rfl _; rotate_left; (apply q_move; exact rfl))
      focus (refine' jk_q _ rfl rfl rfl _; rotate_left; (apply q_neF; exact rfl; exact rfl; omega))
      refine jk_nil ?_
      refine jk_if_f rfl ?_
      refine jk_skip ?_
      refine jk_blk ?_
      refine jk_region ?_
      focus (refine' jk_q _ rfl rfl rfl _; rotate_left; (apply q_move; exact rfl))
      focus (refine' jk_q _ rfl rfl rfl _; rotate_left; (apply q_inc; exact rfl; exact rfl; omega))
      focus (refine' jk_q _ rfl rfl rfl _; rotate_left; (apply q_assign; exact rfl))
      refine jk_nil ?_
      refine jk_round (k + 1, (_, σ')) ⟨by dsimp only; omega, by dsimp only; rw [hsn]; exact hO'⟩ (by dsimp only; omega) ?_ (by (repeat (first | exact Sel.nil | (apply Sel.cons; (focus ((repeat (first | exact .here | apply Mem.there | apply Take.there)); first | done | fail))))); first | done | fail)
      dsimp only
      rw [hpn, hz]
      exact (by (repeat (first | exact trivial | refine And.intro rfl ?_)); first | done | fail)
    · rw [if_neg hz] at hsn
      focus (refine' jk_q _ rfl rfl rfl _; rotate_left; (apply q_assign; exact rfl))
      refine jk_nil ?_
      refine jk_seq ?_
      refine jk_region ?_
      focus (refine' jk_q _ rfl rfl rfl _; rotate_left; (apply q_move; exact rfl))
      focus (refine' jk_q _ rfl rfl rfl _; rotate_left; (apply q_move; exact rfl))
      focus (refine' jk_q _ rfl rfl rfl _; rotate_left; (apply q_ne; exact rfl; exact rfl; omega))
      refine jk_nil ?_
      refine jk_if_t rfl ?_
      refine jk_seq ?_
      refine jk_region ?_
      focus (refine' jk_q _ rfl rfl rfl _; rotate_left; (apply q_move; exact rfl))
      focus (refine' jk_q _ rfl rfl rfl _; rotate_left; (apply q_move; exact rfl))
      focus (refine' jk_q _ rfl rfl rfl _; rotate_left; (apply q_move; exact rfl))
      focus (refine' jk_q _ rfl rfl rfl _; rotate_left; (apply q_idx1; exact rfl; exact rfl; exact rfl; exact rfl; omega))
      focus (refine' jk_q _ rfl rfl rfl _; rotate_left; (apply q_load; exact rfl; exact rfl; (first | exact cell_own (by (repeat (first | exact .here | apply Mem.there)); first | done | fail) rfl | exact cellR (by assumption) (by (repeat (first | exact .here | apply Mem.there)); first | done | fail) | exact cellH (by assumption) (by (repeat (first | exact .here | apply Mem.there)); first | done | fail) | exact cell_ints (by (repeat (first | exact .here | apply Mem.there)); first | done | fail) (by omega) | exact cell_bools (by assumption) (by (repeat (first | exact .here | apply Mem.there)); first | done | fail) | exact cell_intsR (by (repeat (first | exact .here | apply Mem.there)); first | done | fail) (by omega) | exact cell_boolsR (by assumption) (by (repeat (first | exact .here | apply Mem.there)); first | done | fail))))
      focus (refine' jk_q _ rfl rfl rfl _; rotate_left; (apply q_move; exact rfl))
      focus (refine' jk_q _ rfl rfl rfl _; rotate_left; (apply q_build; exact rfl; exact rfl; exact (by (repeat (first | exact Bld.nil | apply Bld.put rfl rfl rfl | apply Bld.keep rfl)); first | done | fail)))
      focus (refine' jk_op _ rfl rfl rfl _; rotate_left; (apply l_buildSlice; exact rfl; exact rfl; exact rfl; exact rfl; exact rfl; exact (by (repeat (first | exact (fun v hv => absurd hv List.not_mem_nil) | (refine List.forall_mem_cons.2 ⟨?_, ?_⟩; (focus (first | exact rfl | assumption))))); first | done | fail); exact (by (repeat (first | exact Flat.nil | apply Flat.one rfl | apply Flat.agg2 | apply Flat.agg3 | apply Flat.agg1 | apply Flat.agg4 | apply Flat.agg5)); first | done | fail); exact rfl); rintro _ _ ⟨b, rfl, rfl⟩)
      refine jk_op (l_append (by_ := 16) (s := 2) (news := [int t, int w]) rfl rfl rfl rfl rfl rfl rfl hO' (by (repeat (first | exact .here | apply Take.there)); first | done | fail) (cells_own (by (repeat (first | exact .here | apply Mem.there)); first | done | fail)) rfl (by (repeat (first | exact (fun v hv => absurd hv List.not_mem_nil) | (refine List.forall_mem_cons.2 ⟨?_, ?_⟩; (focus (first | exact rfl | assumption))))); first | done | fail) (by omega) (by simp only [maxLen]; omega) (by omega)) rfl rfl rfl ?_
      rintro u1 _ ⟨σ1, hO1, rfl⟩
      focus (refine' jk_q _ rfl rfl rfl _; rotate_left; (apply q_assign; exact rfl))
      refine jk_nil ?_
      refine jk_region ?_
      focus (refine' jk_q _ rfl rfl rfl _; rotate_left; (apply q_move; exact rfl))
      focus (refine' jk_q _ rfl rfl rfl _; rotate_left; (apply q_assign; exact rfl))
      refine jk_nil ?_
      refine jk_blk ?_
      refine jk_region ?_
      focus (refine' jk_q _ rfl rfl rfl _; rotate_left; (apply q_move; exact rfl))
      focus (refine' jk_q _ rfl rfl rfl _; rotate_left; (apply q_inc; exact rfl; exact rfl; omega))
      focus (refine' jk_q _ rfl rfl rfl _; rotate_left; (apply q_assign; exact rfl))
      refine jk_nil ?_
      refine jk_round (k + 1, (u1, σ1)) ⟨by dsimp only; omega, ?_⟩ (by dsimp only; omega) ?_ (by (repeat (first | exact Sel.nil | (apply Sel.cons; (focus ((repeat (first | exact .here | apply Mem.there | apply Take.there)); first | done | fail))))); first | done | fail)
      · dsimp only
        rw [hsn, List.length_append, List.flatMap_append]
        exact hO1
      · dsimp only
        rw [hpn]
        exact (by (repeat (first | exact trivial | refine And.intro rfl ?_)); first | done | fail)
  · have hke : k = ts.length := by omega
    subst hke
    rw [List.take_length] at hO'
    refine jk_seq ?_
    refine jk_seq ?_
    refine jk_region ?_
    focus (refine' jk_q _ rfl rfl rfl _; rotate_left; (apply q_move; exact rfl))
    focus (refine' jk_q _ rfl rfl rfl _; rotate_left; (apply q_move; exact rfl))
    focus (refine' jk_q _ rfl rfl rfl _; rotate_left; (apply q_len; exact rfl; exact rfl))
    focus (refine' jk_q _ rfl rfl rfl _; rotate_left; (apply q_ltF; exact rfl; exact rfl; omega))
    refine jk_nil ?_
    refine jk_if_f rfl ?_
    refine jk_exit rfl ?_
    refine jk_seq ?_
    refine jk_region ?_
    focus (refine' jk_q _ rfl rfl rfl _; rotate_left; (apply q_move; exact rfl))
    focus (refine' jk_q _ rfl rfl rfl _; rotate_left; (apply q_assign; exact rfl))
    refine jk_nil ?_
    exact jk_ret_any (res1 rfl rfl) (by (repeat (first | exact rs_nil | (refine rs_cons ?_ ?_; (focus ((repeat (first | exact .here | apply Mem.there | apply Take.there)); first | done | fail))) | exact fun ρ hρ => hρ | (intro ρ hρ; repeat (first | exact hρ | refine List.mem_cons_of_mem _ ?_)))); first | done | fail) (by (repeat (first | exact Sel.nil | (apply Sel.cons; (focus ((repeat (first | exact .here | apply Mem.there | apply Take.there)); first | done | fail))))); first | done | fail) ⟨σ', hO', rfl⟩
end Go.Proofs.Ytnbihndlbopmeaa
