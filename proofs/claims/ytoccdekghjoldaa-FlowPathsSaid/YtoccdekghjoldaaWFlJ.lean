/- A graph that is built link by link; the residual graph. -/
import Derived.Test.YtoccdekghjoldaaWFlI
import Derived.Test.YtoccdekghjoldaaWMbFrame
set_option linter.all false
namespace Go.Proofs.Ytoccdekghjoldaa
open Go.Eng Go.Flow
set_option maxRecDepth 100000
set_option maxHeartbeats 4000000

/-- the lists of links in a row of slices -/
def RowOK (n : Nat) (vs : List Value) (cs : List PH) (lf : Nat → List Lk) : Prop :=
  vs.length = n ∧ cs.length = n ∧ ∀ v, v < n → ∃ u ρ, vs[v]? = some u ∧ cs[v]? = some ρ ∧ OwnS 75 3 u (lf v).length ((lf v).flatMap encL) ρ
theorem RowOK.set {n : Nat} {vs : List Value} {cs : List PH} {lf lf' : Nat → List Lk} (h : RowOK n vs cs lf) {f : Nat} {u : Value} {ρ : PH} (hu : OwnS 75 3 u (lf' f).length ((lf' f).flatMap encL) ρ) (he : ∀ v, v ≠ f → lf' v = lf v) :
    RowOK n (vs.set f u) (cs.set f ρ) lf' := by
  obtain ⟨h1, h2, h3⟩ := h
  refine ⟨by simp [h1], by simp [h2], fun v hv => ?_⟩
  by_cases e : v = f
  · subst e
    exact ⟨u, ρ, by simp [h1, hv], by simp [h2, hv], hu⟩
  · obtain ⟨u', ρ', g1, g2, g3⟩ := h3 v hv
    rw [← he v e] at g3
    exact ⟨u', ρ', by rw [List.getElem?_set_ne (Ne.symm e)]; exact g1, by rw [List.getElem?_set_ne (Ne.symm e)]; exact g2, g3⟩
def GBl (gb ob ib n : Nat) (room : Value) (ls : List Lk) (H : List PH) : Prop :=
  ∃ ov iv oc ic, RowOK n ov oc (outsOf ls) ∧ RowOK n iv ic (insOf ls) ∧ H = gHead gb ob ib n room :: gRow ob ov :: gRow ib iv :: (oc ++ ic)
theorem add_bl {gb ob ib n : Nat} {room : Value} {ls : List Lk} {H : List PH} (h : GBl gb ob ib n room ls H) (k f t : Nat) (hf : f < n) (ht : t < n) (hl : ls.length ≤ 40000) :
    Eng.Spec Try.prog (fv 49) [.pointer (some ⟨gb, 0, none⟩), int k, int f, int t] [] H (fun v H' => v = .tuple #[] ∧ GBl gb ob ib n room (ls ++ [(⟨k, f, t⟩ : Lk)]) H') := by
  obtain ⟨ov, iv, oc, ic, ho, hi, rfl⟩ := h
  obtain ⟨uo, ρo, a1, a2, a3⟩ := ho.2.2 f hf
  obtain ⟨ui, ρi, c1, c2, c3⟩ := hi.2.2 t ht
  have hs := add_spec gb ob ib n k f t room ov iv (outsOf ls f) (insOf ls t) ρo ρi ho.1 hi.1 hf ht ⟨uo, a1, a3⟩ ⟨ui, c1, c3⟩ (filter_le _ _ hl) (filter_le _ _ hl)
  refine Spec.perm ?_ (hs.frame (oc.eraseIdx f ++ ic.eraseIdx t)) ?_
  · simp only [List.cons_append, List.nil_append]
    refine ((List.Perm.trans ?_ ((erase_get_perm a2).append (erase_get_perm c2)).symm).cons _).cons _ |>.cons _
    simp only [List.cons_append]
    exact (List.perm_middle.symm).cons _
  · rintro v H1 ⟨H2, rfl, rfl, q1, q2, ρ1, ρ2, hq1, hq2, rfl⟩
    refine ⟨gHead gb ob ib n room :: gRow ob (ov.set f q1) :: gRow ib (iv.set t q2) :: (oc.set f ρ1 ++ ic.set t ρ2), ?_, rfl, ov.set f q1, iv.set t q2, oc.set f ρ1, ic.set t ρ2, ?_, ?_, rfl⟩
    · simp only [List.cons_append, List.nil_append]
      refine ((List.Perm.trans ?_ ((erase_set_perm ρ1 (by rw [ho.2.1]; exact hf)).append (erase_set_perm ρ2 (by rw [hi.2.1]; exact ht))).symm).cons _).cons _ |>.cons _
      simp only [List.cons_append]
      exact (List.perm_middle.symm).cons _
    · refine ho.set (lf' := outsOf (ls ++ [(⟨k, f, t⟩ : Lk)])) ?_ (fun v hv => by rw [outsOf_snoc, if_neg (Ne.symm hv), List.append_nil])
      rw [outsOf_snoc, if_pos rfl]; exact hq1
    · refine hi.set (lf' := insOf (ls ++ [(⟨k, f, t⟩ : Lk)])) ?_ (fun v hv => by rw [insOf_snoc, if_neg (Ne.symm hv), List.append_nil])
      rw [insOf_snoc, if_pos rfl]; exact hq2
theorem GBl.at {gb ob ib n : Nat} {room : Value} {ls : List Lk} {H : List PH} (h : GBl gb ob ib n room ls H) {γ : PH} (hs : ∀ ρ ∈ H, PH.sub ρ γ) : GAt γ gb n (outsOf ls) (insOf ls) room := by
  obtain ⟨ov, iv, oc, ic, ho, hi, rfl⟩ := h
  have hh := hs (gHead gb ob ib n room) (by simp)
  have hr1 := hs (gRow ob ov) (by simp)
  have hr2 := hs (gRow ib iv) (by simp)
  refine ⟨⟨ob, n, hh.rdc (by rw [rdc_sng]; rfl), fun v hv => ?_⟩, ⟨ib, n, hh.rdc (by rw [rdc_sng]; rfl), fun v hv => ?_⟩, hh.rdc (by rw [rdc_sng]; rfl)⟩
  · obtain ⟨u, ρ, g1, g2, g3⟩ := ho.2.2 v hv
    refine ⟨u, hr1.rdc (by rw [rdc_sng]; simpa using g1), (hs ρ ?_).slE g3.at⟩
    have := List.mem_of_getElem? g2
    simp [this]
  · obtain ⟨u, ρ, g1, g2, g3⟩ := hi.2.2 v hv
    refine ⟨u, hr2.rdc (by rw [rdc_sng]; simpa using g1), (hs ρ ?_).slE g3.at⟩
    have := List.mem_of_getElem? g2
    simp [this]
theorem GOk_of {n : Nat} {ls : List Lk} (hn : n ≤ 2000) (hl : ls.length ≤ 40000) (hx : ∀ x ∈ ls, x.f < n ∧ x.t < n ∧ x.k ≤ 40000) : GOk n (outsOf ls) (insOf ls) where
  n1 := hn
  len := fun _ => ⟨filter_le _ _ hl, filter_le _ _ hl⟩
  inT := fun v x _ hm => by
    unfold insOf at hm; rw [List.mem_filter] at hm
    have := hx x hm.1
    exact ⟨by simpa using hm.2, this.1, this.2.2⟩
  outF := fun v x _ hm => by
    unfold outsOf at hm; rw [List.mem_filter] at hm
    have := hx x hm.1
    exact ⟨by simpa using hm.2, this.2.1, this.2.2⟩
  same := fun x _ _ => by unfold insOf outsOf; simp
theorem GBl_new (gb ob ib n : Nat) (room : Value) : GBl gb ob ib n room [] (gHead gb ob ib n room :: gRow ob (List.replicate n (.slice none 0 0)) :: gRow ib (List.replicate n (.slice none 0 0)) :: (List.replicate n emp ++ List.replicate n emp)) := by
  have h : ∀ lf : Nat → List Lk, (∀ v, lf v = []) → RowOK n (List.replicate n (.slice none 0 0)) (List.replicate n emp) lf := fun lf hl => by
    refine ⟨by simp, by simp, fun v hv => ⟨.slice none 0 0, emp, by simp [hv], by simp [hv], ?_⟩⟩
    rw [hl v]
    exact OwnS.nil _ _
  exact ⟨_, _, _, _, h _ (fun _ => rfl), h _ (fun _ => rfl), rfl⟩

abbrev roomR (b1 b2 : Nat) : Value := .func (.func 57) #[] #[.pointer (some ⟨b1, 0, none⟩), .pointer (some ⟨b2, 0, none⟩)]
set_option maxHeartbeats 2000000 in
theorem residual_spec (ρ : PH) (v fs : Value) (n : Nat) (l : List Arc) (hv : ArcsAt ρ v l) (hfs : fs.oneCell' = true) (hn : n ≤ 2000) (hl : l.length ≤ 20000) (hok : ∀ a ∈ l, okArc n a = true) :
    Eng.Spec Try.prog (fv 52) [int n, v, fs] [ρ] [] (fun r H' => ∃ gb b1 b2 γ, r = .pointer (some ⟨gb, 0, none⟩) ∧ GAt γ gb n (outsOf (rlinks l)) (insOf (rlinks l)) (roomR b1 b2) ∧
      H' = [γ, sng b1 (.cells #[v] 22 (0, 0)), sng b2 (.cells #[fs] 26 (0, 0))]) := by
  have hv1 := SlE.one hv
  obtain ⟨q, c, rfl, hr⟩ := hv.val encA_len
  refine spec_in (cap := []) Try.func52 rfl rfl Try.ntmps52 rfl (by (repeat (first | exact EnvA.nil EnvI.nil | apply EnvA.cons | apply EnvA.nil | exact EnvI.nil | apply EnvI.cons)); first | done | fail) (fun N β => ?_)
  refine jk_seq ?_
  refine jk_region ?_
  refine jk_op (l_box1 rfl rfl) rfl rfl rfl ?_
  rintro _ _ ⟨b1, rfl, rfl⟩
  refine jk_op (l_box1 rfl hfs) rfl rfl rfl ?_
  rintro _ _ ⟨b2, rfl, rfl⟩
  focus (refine' jk_q _ rfl rfl rfl _; rotate_left; (apply q_assign; exact rfl))
  refine jk_nil ?_
  refine jk_seq ?_
  refine jk_region ?_
  focus (refine' jk_q _ rfl rfl rfl _; rotate_left; (apply q_move; exact rfl))
  focus (refine' jk_q _ rfl rfl rfl _; rotate_left; (apply q_makeFunc; exact rfl; exact rfl))
  refine jk_callH (newGraph_spec n 57 [.pointer (some ⟨b1, 0, none⟩), .pointer (some ⟨b2, 0, none⟩)] hn) rfl rfl (by (repeat (first | exact Takes.nil | (apply Takes.cons; exact (by (repeat (first | exact .here | apply Take.there)); first | done | fail)))); first | done | fail) (by (repeat (first | exact RdOK.nil | (refine RdOK.consR ?_ ?_; (focus ((repeat (first | exact .here | apply Mem.there | apply Take.there)); first | done | fail))) | (refine RdOK.consH ?_ ?_; (focus ((repeat (first | exact .here | apply Mem.there | apply Take.there)); first | done | fail))) | exact (fun τ hτ => .inl (by simp [hτ])))); first | done | fail) rfl rfl ?_
  rintro _ _ ⟨gb, ob, ib, rfl, rfl⟩
  simp only [List.cons_append, List.nil_append]
  have hG0 := GBl_new gb ob ib n (roomR b1 b2)
  refine jk_empEnd (n + n) ?_
  simp only [List.cons_append, List.nil_append]
  focus (refine' jk_q _ rfl rfl rfl _; rotate_left; (apply q_assign; exact rfl))
  refine jk_nil ?_
  refine jk_seq ?_
  refine jk_seq ?_
  refine jk_region ?_
  focus (refine' jk_q _ rfl rfl rfl _; rotate_left; (apply q_load; exact rfl; exact rfl; (first | exact cell_own (by (repeat (first | exact .here | apply Mem.there)); first | done | fail) rfl | exact cellR (by assumption) (by (repeat (first | exact .here | apply Mem.there)); first | done | fail) | exact cellH (by assumption) (by (repeat (first | exact .here | apply Mem.there)); first | done | fail) | exact cell_ints (by (repeat (first | exact .here | apply Mem.there)); first | done | fail) (by omega) | exact cell_bools (by assumption) (by (repeat (first | exact .here | apply Mem.there)); first | done | fail) | exact cell_intsR (by (repeat (first | exact .here | apply Mem.there)); first | done | fail) (by omega) | exact cell_boolsR (by assumption) (by (repeat (first | exact .here | apply Mem.there)); first | done | fail))))
  focus (refine' jk_q _ rfl rfl rfl _; rotate_left; (apply q_len; exact rfl; exact rfl))
  focus (refine' jk_q _ rfl rfl rfl _; rotate_left; (apply q_move; exact rfl))
  refine jk_nil ?_
  refine jk_block ?_
  refine jk_loop [0, 4, 5, 7, 13, 14] (X := Nat × List PH) (0, _) (fun x => x.1 ≤ l.length ∧ GBl gb ob ib n (roomR b1 b2) (rlinks (l.take x.1)) x.2) (fun x => [(15, int x.1)])
    (fun x => sng b1 (.cells #[.slice q l.length c] 22 (0, 0)) :: sng b2 (.cells #[fs] 26 (0, 0)) :: x.2) (fun x => l.length - x.1) (by (repeat (first | exact Pick.nil | apply Pick.cons rfl)); first | done | fail) ⟨by simp, hG0⟩ (by (repeat (first | exact trivial | refine And.intro rfl ?_)); first | done | fail) ?_ ?_
  · refine Sel.cons (by (repeat (first | exact .here | apply Take.there)); first | done | fail) (Sel.cons (by (repeat (first | exact .here | apply Take.there)); first | done | fail) (Sel.cons (by (repeat (first | exact .here | apply Take.there)); first | done | fail) (Sel.cons (by (repeat (first | exact .here | apply Take.there)); first | done | fail) (Sel.cons (by (repeat (first | exact .here | apply Take.there)); first | done | fail) ?_))))
    rw [List.replicate_append_replicate]
    exact Sel.refl
  rintro ⟨k, Hg⟩ ⟨hk, hG⟩
  dsimp only at hk hG ⊢
  by_cases hlt : k < l.length
  · have hx := List.getElem?_eq_getElem hlt
    obtain ⟨b', o, rfl, hA, h0, h1, h2⟩ := arcRow hr hx
    obtain ⟨g1, g2, g3, g4, g5, g6, g7⟩ := okArc_iff.1 (hok l[k] (List.getElem_mem hlt))
    obtain ⟨f, hf⟩ := Int.eq_ofNat_of_zero_le g1
    obtain ⟨t, ht⟩ := Int.eq_ofNat_of_zero_le g3
    have hlr := rlinks_len (l.take k)
    have hlk : (l.take k).length = k := by simp; omega
    have hsn := rlinks_snoc (l.take k) l[k]
    rw [← take_snoc' hlt, hlk, hf, ht] at hsn
    simp only [Int.toNat_natCast] at hsn
    rw [hf, ht] at hA
    have a1 := add_bl hG (2 * k) f t (by omega) (by omega) (by omega)
    refine jk_seq ?_
    refine jk_region ?_
    focus (refine' jk_q _ rfl rfl rfl _; rotate_left; (apply q_lt; exact rfl; exact rfl; omega))
    refine jk_nil ?_
    refine jk_seq ?_
    refine jk_if_t rfl ?_
    refine jk_skip ?_
    refine jk_seq ?_
    refine jk_block ?_
    refine jk_seq ?_
    refine jk_region ?_
    focus (refine' jk_q _ rfl rfl rfl _; rotate_left; (apply q_move; exact rfl))
    focus (refine' jk_q _ rfl rfl rfl _; rotate_left; (apply q_idxN; exact rfl; exact rfl; exact rfl; exact rfl; omega))
    focus (refine' jk_q _ rfl rfl rfl _; rotate_left; (apply q_loadS; exact rfl; exact rfl; (first | exact cells_own (by (repeat (first | exact .here | apply Mem.there)); first | done | fail) | exact cellsR (by assumption) (by (repeat (first | exact .here | apply Mem.there)); first | done | fail) | exact cellsH (by assumption) (by (repeat (first | exact .here | apply Mem.there)); first | done | fail)); exact rfl))
    focus (refine' jk_op _ rfl rfl rfl _; rotate_left; (apply l_allocS; exact rfl); rintro _ _ ⟨b, rfl, rfl⟩)
    focus (refine' jk_q _ rfl rfl rfl _; rotate_left; (apply q_assign; exact rfl))
    focus (refine' jk_op_none _ rfl rfl _; rotate_left; (apply l_storeS; exact rfl; exact rfl; exact (by (repeat (first | exact .here | apply Take.there)); first | done | fail); exact (by (repeat (first | exact (fun v hv => absurd hv List.not_mem_nil) | (refine List.forall_mem_cons.2 ⟨?_, ?_⟩; (focus (first | exact rfl | assumption))))); first | done | fail); exact rfl; exact rfl); rintro _ _ ⟨rfl, rfl⟩)
    refine jk_nil ?_
    refine jk_seq ?_
    refine jk_region ?_
    focus (refine' jk_q _ rfl rfl rfl _; rotate_left; (apply q_move; exact rfl))
    focus (refine' jk_q _ rfl rfl rfl _; rotate_left; (apply q_move; exact rfl))
    focus (refine' jk_q _ rfl rfl rfl _; rotate_left; (apply q_mul; exact rfl; exact rfl; exact ⟨by omega, by omega⟩))
    focus (refine' jk_q _ rfl rfl rfl _; rotate_left; (apply q_fld0; exact rfl; exact rfl))
    focus (refine' jk_q _ rfl rfl rfl _; rotate_left; (apply q_load; exact rfl; exact rfl; (first | exact cell_own (by (repeat (first | exact .here | apply Mem.there)); first | done | fail) rfl | exact cellR (by assumption) (by (repeat (first | exact .here | apply Mem.there)); first | done | fail) | exact cellH (by assumption) (by (repeat (first | exact .here | apply Mem.there)); first | done | fail) | exact cell_ints (by (repeat (first | exact .here | apply Mem.there)); first | done | fail) (by omega) | exact cell_bools (by assumption) (by (repeat (first | exact .here | apply Mem.there)); first | done | fail) | exact cell_intsR (by (repeat (first | exact .here | apply Mem.there)); first | done | fail) (by omega) | exact cell_boolsR (by assumption) (by (repeat (first | exact .here | apply Mem.there)); first | done | fail))))
    focus (refine' jk_q _ rfl rfl rfl _; rotate_left; (apply q_fld0; exact rfl; exact rfl))
    focus (refine' jk_q _ rfl rfl rfl _; rotate_left; (apply q_load; exact rfl; exact rfl; (first | exact cell_own (by (repeat (first | exact .here | apply Mem.there)); first | done | fail) rfl | exact cellR (by assumption) (by (repeat (first | exact .here | apply Mem.there)); first | done | fail) | exact cellH (by assumption) (by (repeat (first | exact .here | apply Mem.there)); first | done | fail) | exact cell_ints (by (repeat (first | exact .here | apply Mem.there)); first | done | fail) (by omega) | exact cell_bools (by assumption) (by (repeat (first | exact .here | apply Mem.there)); first | done | fail) | exact cell_intsR (by (repeat (first | exact .here | apply Mem.there)); first | done | fail) (by omega) | exact cell_boolsR (by assumption) (by (repeat (first | exact .here | apply Mem.there)); first | done | fail))))
    refine jk_callH a1 rfl rfl (Takes.skips [_, _, _] Takes.all) (by (repeat (first | exact RdOK.nil | (refine RdOK.consR ?_ ?_; (focus ((repeat (first | exact .here | apply Mem.there | apply Take.there)); first | done | fail))) | (refine RdOK.consH ?_ ?_; (focus ((repeat (first | exact .here | apply Mem.there | apply Take.there)); first | done | fail))) | exact (fun τ hτ => .inl (by simp [hτ])))); first | done | fail) rfl rfl ?_
    rintro _ H1 ⟨rfl, hG1⟩
    refine jk_perm (H' := sng b (.cells #[int (f : Int), int (t : Int), int l[k].c] 36 (0, 0)) :: sng b1 (.cells #[.slice (some ⟨b', o, none⟩) l.length c] 22 (0, 0)) :: sng b2 (.cells #[fs] 26 (0, 0)) :: H1) (by simpa using List.perm_append_comm (l₁ := H1) (l₂ := [_, _, _])) ?_
    have a2 := add_bl hG1 (2 * k + 1) t f (by omega) (by omega) (by rw [List.length_append]; simp only [List.length_singleton]; omega)
    refine jk_nil ?_
    refine jk_region ?_
    focus (refine' jk_q _ rfl rfl rfl _; rotate_left; (apply q_move; exact rfl))
    focus (refine' jk_q _ rfl rfl rfl _; rotate_left; (apply q_move; exact rfl))
    focus (refine' jk_q _ rfl rfl rfl _; rotate_left; (apply q_mul; exact rfl; exact rfl; exact ⟨by omega, by omega⟩))
    focus (refine' jk_q _ rfl rfl rfl _; rotate_left; (apply q_add; exact rfl; exact rfl; exact ⟨by omega, by omega⟩))
    focus (refine' jk_q _ rfl rfl rfl _; rotate_left; (apply q_fld0; exact rfl; exact rfl))
    focus (refine' jk_q _ rfl rfl rfl _; rotate_left; (apply q_load; exact rfl; exact rfl; (first | exact cell_own (by (repeat (first | exact .here | apply Mem.there)); first | done | fail) rfl | exact cellR (by assumption) (by (repeat (first | exact .here | apply Mem.there)); first | done | fail) | exact cellH (by assumption) (by (repeat (first | exact .here | apply Mem.there)); first | done | fail) | exact cell_ints (by (repeat (first | exact .here | apply Mem.there)); first | done | fail) (by omega) | exact cell_bools (by assumption) (by (repeat (first | exact .here | apply Mem.there)); first | done | fail) | exact cell_intsR (by (repeat (first | exact .here | apply Mem.there)); first | done | fail) (by omega) | exact cell_boolsR (by assumption) (by (repeat (first | exact .here | apply Mem.there)); first | done | fail))))
    focus (refine' jk_q _ rfl rfl rfl _; rotate_left; (apply q_fld0; exact rfl; exact rfl))
    focus (refine' jk_q _ rfl rfl rfl _; rotate_left; (apply q_load; exact rfl; exact rfl; (first | exact cell_own (by (repeat (first | exact .here | apply Mem.there)); first | done | fail) rfl | exact cellR (by assumption) (by (repeat (first | exact .here | apply Mem.there)); first | done | fail) | exact cellH (by assumption) (by (repeat (first | exact .here | apply Mem.there)); first | done | fail) | exact cell_ints (by (repeat (first | exact .here | apply Mem.there)); first | done | fail) (by omega) | exact cell_bools (by assumption) (by (repeat (first | exact .here | apply Mem.there)); first | done | fail) | exact cell_intsR (by (repeat (first | exact .here | apply Mem.there)); first | done | fail) (by omega) | exact cell_boolsR (by assumption) (by (repeat (first | exact .here | apply Mem.there)); first | done | fail))))
    refine jk_callH a2 rfl rfl (Takes.skips [_, _, _] Takes.all) (by (repeat (first | exact RdOK.nil | (refine RdOK.consR ?_ ?_; (focus ((repeat (first | exact .here | apply Mem.there | apply Take.there)); first | done | fail))) | (refine RdOK.consH ?_ ?_; (focus ((repeat (first | exact .here | apply Mem.there | apply Take.there)); first | done | fail))) | exact (fun τ hτ => .inl (by simp [hτ])))); first | done | fail) rfl rfl ?_
    rintro _ H2 ⟨rfl, hG2⟩
    refine jk_perm (H' := sng b (.cells #[int (f : Int), int (t : Int), int l[k].c] 36 (0, 0)) :: sng b1 (.cells #[.slice (some ⟨b', o, none⟩) l.length c] 22 (0, 0)) :: sng b2 (.cells #[fs] 26 (0, 0)) :: H2) (by simpa using List.perm_append_comm (l₁ := H2) (l₂ := [_, _, _])) ?_
    refine jk_nil ?_
    refine jk_blk ?_
    refine jk_region ?_
    focus (refine' jk_q _ rfl rfl rfl _; rotate_left; (apply q_inc; exact rfl; exact rfl; omega))
    focus (refine' jk_q _ rfl rfl rfl _; rotate_left; (apply q_move; exact rfl))
    refine jk_nil ?_
    refine jk_round (k + 1, H2) ⟨by dsimp only; omega, ?_⟩ (by dsimp only; omega) (by (repeat (first | exact trivial | refine And.intro rfl ?_)); first | done | fail) (Sel.cons (by (repeat (first | exact .here | apply Take.there)); first | done | fail) (Sel.cons (by (repeat (first | exact .here | apply Take.there)); first | done | fail) (Sel.skip Sel.refl)))
    dsimp only
    rw [hsn]
    simpa using hG2
  · rw [List.take_of_length_le (by omega)] at hG
    refine jk_seq ?_
    refine jk_region ?_
    focus (refine' jk_q _ rfl rfl rfl _; rotate_left; (apply q_ltF; exact rfl; exact rfl; omega))
    refine jk_nil ?_
    refine jk_seq ?_
    refine jk_if_f rfl ?_
    refine jk_exit rfl ?_
    refine jk_seq ?_
    refine jk_region ?_
    focus (refine' jk_q _ rfl rfl rfl _; rotate_left; (apply q_move; exact rfl))
    focus (refine' jk_q _ rfl rfl rfl _; rotate_left; (apply q_assign; exact rfl))
    refine jk_nil ?_
    refine jk_perm (H' := Hg ++ [sng b1 (.cells #[.slice q l.length c] 22 (0, 0)), sng b2 (.cells #[fs] 26 (0, 0))]) (by simpa using List.perm_append_comm (l₂ := Hg) (l₁ := [_, _])) ?_
    refine jk_joinAll (fun γ hγ => ?_)
    exact jk_ret_any (res1 rfl rfl) (by (repeat (first | exact rs_nil | (refine rs_cons ?_ ?_; (focus ((repeat (first | exact .here | apply Mem.there | apply Take.there)); first | done | fail))) | exact fun ρ hρ => hρ | (intro ρ hρ; repeat (first | exact hρ | refine List.mem_cons_of_mem _ ?_)))); first | done | fail) (by (repeat (first | exact Sel.nil | (apply Sel.cons; (focus ((repeat (first | exact .here | apply Mem.there | apply Take.there)); first | done | fail))))); first | done | fail) ⟨gb, b1, b2, γ, rfl, hG.at hγ, rfl⟩
end Go.Proofs.Ytoccdekghjoldaa
