/- Links, rooms, and the iterator that yields the links with room. -/
import Derived.Test.YtoccdekghjoldaaWFlB
import Derived.Test.YtoccdekghjoldaaWMbBfs
import Derived.Test.YtoccdekghjoldaaWMbMore
set_option linter.all false
namespace Go.Proofs.Ytoccdekghjoldaa
open Go.Eng Go.Flow
set_option maxRecDepth 100000
set_option maxHeartbeats 4000000

def encL (x : Lk) : List Value := [int x.k, int x.f, int x.t]
theorem encL_len (x : Lk) : (encL x).length = 3 := rfl
theorem lkRow {ρ : PH} {p : Option Addr} {l : List Lk} (h : RowsE encL 3 ρ p l) {i : Nat} {x : Lk} (hx : l[i]? = some x) :
    ∃ b o, p = some ⟨b, o, none⟩ ∧ RdN ρ b (o + i * 3) [int x.k, int x.f, int x.t] := by
  obtain ⟨b, o, e, hr⟩ := h i x hx
  exact ⟨b, o, e, hr⟩
/-- the elements that the iterator hands on -/
def openL (rm : Nat → Int) (l : List Lk) : List Lk := l.filter (fun x => decide (0 < rm x.k))
theorem openL_snoc (rm : Nat → Int) (l : List Lk) (x : Lk) : openL rm (l ++ [x]) = openL rm l ++ (if 0 < rm x.k then [x] else []) := by
  unfold openL
  rw [List.filter_append]
  by_cases h : 0 < rm x.k <;> simp [h]
theorem openL_take {rm : Nat → Int} {l : List Lk} {k : Nat} (h : k < l.length) (hp : 0 < rm l[k].k) : (openL rm l)[(openL rm (l.take k)).length]? = some l[k] := by
  have e : l = l.take k ++ (l[k] :: l.drop (k + 1)) := by
    rw [← List.drop_eq_getElem_cons h, List.take_append_drop]
  conv => lhs; rw [e]
  unfold openL
  rw [List.filter_append, List.getElem?_append_right (by simp)]
  have : List.filter (fun x => decide (0 < rm x.k)) (l[k] :: l.drop (k + 1)) = l[k] :: List.filter (fun x => decide (0 < rm x.k)) (l.drop (k + 1)) := by
    rw [List.filter_cons, if_pos (by simpa using hp)]
  rw [this]
  have hl : (List.take k (List.take k l ++ l[k] :: List.drop (k + 1) l)) = List.take k l := by rw [← e]
  rw [hl]
  simp

theorem open_spec (g l : Value) (hl1 : l.oneCell' = true) (hg1 : g.oneCell' = true) :
    Eng.Spec Try.prog (fv 39) [g, l] [] [] (fun v H' => ∃ bl bg, v = .func (.func 54) #[] #[.pointer (some ⟨bl, 0, none⟩), .pointer (some ⟨bg, 0, none⟩)] ∧
      H' = [sng bl (.cells #[l] 69 (0, 0)), sng bg (.cells #[g] 56 (0, 0))]) := by
  refine spec_in (cap := []) Try.func39 rfl rfl Try.ntmps39 rfl (by (repeat (first | exact EnvA.nil EnvI.nil | apply EnvA.cons | apply EnvA.nil | exact EnvI.nil | apply EnvI.cons)); first | done | fail) (fun N β => ?_)
  refine jk_seq ?_
  refine jk_region ?_
  refine jk_op (l_box1 rfl hg1) rfl rfl rfl ?_
  rintro _ _ ⟨bg, rfl, rfl⟩
  refine jk_op (l_box1 rfl hl1) rfl rfl rfl ?_
  rintro _ _ ⟨bl, rfl, rfl⟩
  focus (refine' jk_q _ rfl rfl rfl _; rotate_left; (apply q_assign; exact rfl))
  refine jk_nil ?_
  refine jk_seq ?_
  refine jk_region ?_
  focus (refine' jk_q _ rfl rfl rfl _; rotate_left; (apply q_makeFunc; exact rfl; exact rfl))
  focus (refine' jk_q _ rfl rfl rfl _; rotate_left; (apply q_assign; exact rfl))
  refine jk_nil ?_
  exact jk_ret_any (res1 rfl rfl) (by (repeat (first | exact rs_nil | (refine rs_cons ?_ ?_; (focus ((repeat (first | exact .here | apply Mem.there | apply Take.there)); first | done | fail))) | exact fun ρ hρ => hρ | (intro ρ hρ; repeat (first | exact hρ | refine List.mem_cons_of_mem _ ?_)))); first | done | fail) (by (repeat (first | exact Sel.nil | (apply Sel.cons; (focus ((repeat (first | exact .here | apply Mem.there | apply Take.there)); first | done | fail))))); first | done | fail) ⟨bl, bg, rfl, rfl⟩

theorem open_iter (γ : PH) (gb bl bg : Nat) (lv room : Value) (ls : List Lk) (rm : Nat → Int) (Rr : List PH) (hls : SlE encL 3 γ lv ls) (hlen : ls.length ≤ 1000000) (hroom : rdc γ gb 2 = some room)
    (hrm : ∀ x ∈ ls, Ans Try.prog room [int x.k] Rr (fun v => v = int (rm x.k))) :
    Iter Try.prog (.func (.func 54) #[] #[.pointer (some ⟨bl, 0, none⟩), .pointer (some ⟨bg, 0, none⟩)])
      ([sng bl (.cells #[lv] 69 (0, 0)), sng bg (.cells #[.pointer (some ⟨gb, 0, none⟩)] 56 (0, 0)), γ] ++ Rr) ((openL rm ls).map (fun x => [.agg (encL x).toArray])) := by
  intro y S Own Inv Stop Ry hy hyl σ0 h0
  obtain ⟨yl, rfl⟩ := hyl
  obtain ⟨p, c, rfl, hr⟩ := hls.val encL_len
  have c1 : rdc (sng bl (.cells #[.slice p ls.length c] 69 (0, 0))) bl 0 = some (.slice p ls.length c) := by rw [rdc_sng]; rfl
  have c2 : rdc (sng bg (.cells #[.pointer (some ⟨gb, 0, none⟩)] 56 (0, 0))) bg 0 = some (.pointer (some ⟨gb, 0, none⟩)) := by rw [rdc_sng]; rfl
  simp only [List.cons_append, List.nil_append]
  refine spec_in (cap := [.pointer (some ⟨bl, 0, none⟩), .pointer (some ⟨bg, 0, none⟩)]) Try.func54 rfl rfl Try.ntmps54 rfl (by (repeat (first | exact EnvA.nil EnvI.nil | apply EnvA.cons | apply EnvA.nil | exact EnvI.nil | apply EnvI.cons)); first | done | fail) (fun N β => ?_)
  refine jk_seq ?_
  refine jk_region ?_
  focus (refine' jk_q _ rfl rfl rfl _; rotate_left; (apply q_load; exact rfl; exact rfl; (first | exact cell_own (by (repeat (first | exact .here | apply Mem.there)); first | done | fail) rfl | exact cellR (by assumption) (by (repeat (first | exact .here | apply Mem.there)); first | done | fail) | exact cellH (by assumption) (by (repeat (first | exact .here | apply Mem.there)); first | done | fail) | exact cell_ints (by (repeat (first | exact .here | apply Mem.there)); first | done | fail) (by omega) | exact cell_bools (by assumption) (by (repeat (first | exact .here | apply Mem.there)); first | done | fail) | exact cell_intsR (by (repeat (first | exact .here | apply Mem.there)); first | done | fail) (by omega) | exact cell_boolsR (by assumption) (by (repeat (first | exact .here | apply Mem.there)); first | done | fail))))
  focus (refine' jk_q _ rfl rfl rfl _; rotate_left; (apply q_len; exact rfl; exact rfl))
  focus (refine' jk_q _ rfl rfl rfl _; rotate_left; (apply q_move; exact rfl))
  refine jk_nil ?_
  refine jk_block ?_
  refine jk_loop [0, 1, 2, 6, 7] ((0, σ0) : Nat × S) (fun x => x.1 ≤ ls.length ∧ Inv (openL rm (ls.take x.1)).length x.2) (fun x => [(8, int x.1)]) (fun x => Own x.2) (fun x => ls.length - x.1) (by (repeat (first | exact Pick.nil | apply Pick.cons rfl)); first | done | fail) ⟨by simp, by simpa [openL] using h0⟩ (by (repeat (first | exact trivial | refine And.intro rfl ?_)); first | done | fail) Sel.refl ?_
  rintro ⟨k, σ⟩ ⟨hk, hI⟩
  simp only at hk hI
  by_cases hlt : k < ls.length
  · obtain ⟨b', o, rfl, hA⟩ := lkRow hr (List.getElem?_eq_getElem hlt)
    have hrk := hrm ls[k] (List.getElem_mem hlt)
    have hsn := openL_snoc rm (ls.take k) ls[k]
    rw [← take_snoc' hlt] at hsn
    refine jk_seq ?_
    refine jk_region ?_
    focus (refine' jk_q _ rfl rfl rfl _; rotate_left; (apply q_lt; exact rfl; exact rfl; omega))
    refine jk_nil ?_
    refine jk_seq ?_
    refine jk_if_t rfl ?_
    refine jk_skip ?_
    refine jk_seq ?_
    refine jk_block ?_
    refine jk_seq ?_
    refine jk_region ?_
    focus (refine' jk_q _ rfl rfl rfl _; rotate_left; (apply q_idxN; exact rfl; exact rfl; exact rfl; exact rfl; omega))
    focus (refine' jk_q _ rfl rfl rfl _; rotate_left; (apply q_loadS; exact rfl; exact rfl; (first | exact cells_own (by (repeat (first | exact .here | apply Mem.there)); first | done | fail) | exact cellsR (by assumption) (by (repeat (first | exact .here | apply Mem.there)); first | done | fail) | exact cellsH (by assumption) (by (repeat (first | exact .here | apply Mem.there)); first | done | fail)); exact rfl))
    focus (refine' jk_op _ rfl rfl rfl _; rotate_left; (apply l_allocS; exact rfl); rintro _ _ ⟨b, rfl, rfl⟩)
    focus (refine' jk_op_none _ rfl rfl _; rotate_left; (apply l_storeS; exact rfl; exact rfl; exact (by (repeat (first | exact .here | apply Take.there)); first | done | fail); exact (by (repeat (first | exact (fun v hv => absurd hv List.not_mem_nil) | (refine List.forall_mem_cons.2 ⟨?_, ?_⟩; (focus (first | exact rfl | assumption))))); first | done | fail); exact rfl; exact rfl); rintro _ _ ⟨rfl, rfl⟩)
    refine jk_nil ?_
    refine jk_seq ?_
    by_cases hp : 0 < rm ls[k].k
    · have hget := openL_take hlt hp
      have hyk := hy (openL rm (ls.take k)).length σ [.agg (encL ls[k]).toArray] (by rw [List.getElem?_map, hget]; rfl) hI
      rw [if_pos hp] at hsn
      refine jk_draw (.q 0 (.q 1 (.q 2 (.q 3 (.q 4 (.q 5 (.l 6 .e (.q 7 (.q 8 (.q 9 (.q 10 (.l 11 .b (.q 12 (.q 13 .nil)))))))))))))) [] rfl (by kernel_rfl) Sel.nil ?_
      focus (refine' dj_q rfl _ rfl rfl rfl rfl _; rotate_left; (apply q_load; exact rfl; exact rfl; (first | exact cell_own (by (repeat (first | exact .here | apply Mem.there)); first | done | fail) rfl | exact cellR (by assumption) (by (repeat (first | exact .here | apply Mem.there)); first | done | fail) | exact cellH (by assumption) (by (repeat (first | exact .here | apply Mem.there)); first | done | fail) | exact cell_ints (by (repeat (first | exact .here | apply Mem.there)); first | done | fail) (by omega) | exact cell_bools (by assumption) (by (repeat (first | exact .here | apply Mem.there)); first | done | fail) | exact cell_intsR (by (repeat (first | exact .here | apply Mem.there)); first | done | fail) (by omega) | exact cell_boolsR (by assumption) (by (repeat (first | exact .here | apply Mem.there)); first | done | fail))))
      focus (refine' dj_q rfl _ rfl rfl rfl rfl _; rotate_left; (apply q_nilCheck; exact rfl))
      focus (refine' dj_q rfl _ rfl rfl rfl rfl _; rotate_left; (apply q_fld0; exact rfl; exact rfl))
      focus (refine' dj_q rfl _ rfl rfl rfl rfl _; rotate_left; (apply q_load; exact rfl; exact rfl; (first | exact cell_own (by (repeat (first | exact .here | apply Mem.there)); first | done | fail) rfl | exact cellR (by assumption) (by (repeat (first | exact .here | apply Mem.there)); first | done | fail) | exact cellH (by assumption) (by (repeat (first | exact .here | apply Mem.there)); first | done | fail) | exact cell_ints (by (repeat (first | exact .here | apply Mem.there)); first | done | fail) (by omega) | exact cell_bools (by assumption) (by (repeat (first | exact .here | apply Mem.there)); first | done | fail) | exact cell_intsR (by (repeat (first | exact .here | apply Mem.there)); first | done | fail) (by omega) | exact cell_boolsR (by assumption) (by (repeat (first | exact .here | apply Mem.there)); first | done | fail))))
      focus (refine' dj_q rfl _ rfl rfl rfl rfl _; rotate_left; (apply q_fld0; exact rfl; exact rfl))
      focus (refine' dj_q rfl _ rfl rfl rfl rfl _; rotate_left; (apply q_load; exact rfl; exact rfl; (first | exact cell_own (by (repeat (first | exact .here | apply Mem.there)); first | done | fail) rfl | exact cellR (by assumption) (by (repeat (first | exact .here | apply Mem.there)); first | done | fail) | exact cellH (by assumption) (by (repeat (first | exact .here | apply Mem.there)); first | done | fail) | exact cell_ints (by (repeat (first | exact .here | apply Mem.there)); first | done | fail) (by omega) | exact cell_bools (by assumption) (by (repeat (first | exact .here | apply Mem.there)); first | done | fail) | exact cell_intsR (by (repeat (first | exact .here | apply Mem.there)); first | done | fail) (by omega) | exact cell_boolsR (by assumption) (by (repeat (first | exact .here | apply Mem.there)); first | done | fail))))
      refine dj_l (a_call rfl hrk rfl rfl (fun τ hτ => .inl (by simp [hτ])) rfl rfl ?_)
      rintro _ rfl
      focus (refine' dj_q rfl _ rfl rfl rfl rfl _; rotate_left; (apply q_gt; exact rfl; exact rfl; omega))
      focus (refine' dj_q rfl _ rfl rfl rfl rfl _; rotate_left; (apply q_move; exact rfl))
      focus (refine' dj_q rfl _ rfl rfl rfl rfl _; rotate_left; (apply q_move; exact rfl))
      focus (refine' dj_q rfl _ rfl rfl rfl rfl _; rotate_left; (apply q_loadS; exact rfl; exact rfl; (first | exact cells_own (by (repeat (first | exact .here | apply Mem.there)); first | done | fail) | exact cellsR (by assumption) (by (repeat (first | exact .here | apply Mem.there)); first | done | fail) | exact cellsH (by assumption) (by (repeat (first | exact .here | apply Mem.there)); first | done | fail)); exact rfl))
      refine dj_l (a_callH rfl hyk rfl rfl (Takes.skip Takes.all) (fun τ hτ => .inl (by simp [hτ])) rfl rfl (fun _ _ _ w hw => hw.sel Sel.nil) ?_)
      rintro v H' ⟨σ', rfl, ⟨rfl, hI'⟩ | ⟨rfl, hS⟩⟩
      · focus (refine' dj_q rfl _ rfl rfl rfl rfl _; rotate_left; (apply q_not; exact rfl))
        focus (refine' dj_q rfl _ rfl rfl rfl rfl _; rotate_left; (apply q_pick_t; exact rfl; exact rfl))
        refine dj_end ?_
        refine jk_if_f rfl ?_
        refine jk_skip ?_
        refine jk_blk ?_
        refine jk_region ?_
        focus (refine' jk_q _ rfl rfl rfl _; rotate_left; (apply q_inc; exact rfl; exact rfl; omega))
        focus (refine' jk_q _ rfl rfl rfl _; rotate_left; (apply q_move; exact rfl))
        refine jk_nil ?_
        refine jk_round (k + 1, σ') ⟨by simp only; omega, ?_⟩ (by simp only; omega) (by (repeat (first | exact trivial | refine And.intro rfl ?_)); first | done | fail) Sel.left
        simp only
        rw [hsn]
        simpa using hI'
      · focus (refine' dj_q rfl _ rfl rfl rfl rfl _; rotate_left; (apply q_not; exact rfl))
        focus (refine' dj_q rfl _ rfl rfl rfl rfl _; rotate_left; (apply q_pick_t; exact rfl; exact rfl))
        refine dj_end ?_
        refine jk_if_t rfl ?_
        exact jk_ret_any (res0 rfl) (fun _ h => h) Sel.left ⟨σ', rfl, .inr hS⟩
    · rw [if_neg hp, List.append_nil] at hsn
      refine jk_draw (.q 0 (.q 1 (.q 2 (.q 3 (.q 4 (.q 5 (.l 6 .e (.q 7 (.q 8 (.q 9 (.q 10 (.q 11 (.q 12 (.q 13 .nil)))))))))))))) [] rfl (by kernel_rfl) Sel.nil ?_
      focus (refine' dj_q rfl _ rfl rfl rfl rfl _; rotate_left; (apply q_load; exact rfl; exact rfl; (first | exact cell_own (by (repeat (first | exact .here | apply Mem.there)); first | done | fail) rfl | exact cellR (by assumption) (by (repeat (first | exact .here | apply Mem.there)); first | done | fail) | exact cellH (by assumption) (by (repeat (first | exact .here | apply Mem.there)); first | done | fail) | exact cell_ints (by (repeat (first | exact .here | apply Mem.there)); first | done | fail) (by omega) | exact cell_bools (by assumption) (by (repeat (first | exact .here | apply Mem.there)); first | done | fail) | exact cell_intsR (by (repeat (first | exact .here | apply Mem.there)); first | done | fail) (by omega) | exact cell_boolsR (by assumption) (by (repeat (first | exact .here | apply Mem.there)); first | done | fail))))
      focus (refine' dj_q rfl _ rfl rfl rfl rfl _; rotate_left; (apply q_nilCheck; exact rfl))
      focus (refine' dj_q rfl _ rfl rfl rfl rfl _; rotate_left; (apply q_fld0; exact rfl; exact rfl))
      focus (refine' dj_q rfl _ rfl rfl rfl rfl _; rotate_left; (apply q_load; exact rfl; exact rfl; (first | exact cell_own (by (repeat (first | exact .here | apply Mem.there)); first | done | fail) rfl | exact cellR (by assumption) (by (repeat (first | exact .here | apply Mem.there)); first | done | fail) | exact cellH (by assumption) (by (repeat (first | exact .here | apply Mem.there)); first | done | fail) | exact cell_ints (by (repeat (first | exact .here | apply Mem.there)); first | done | fail) (by omega) | exact cell_bools (by assumption) (by (repeat (first | exact .here | apply Mem.there)); first | done | fail) | exact cell_intsR (by (repeat (first | exact .here | apply Mem.there)); first | done | fail) (by omega) | exact cell_boolsR (by assumption) (by (repeat (first | exact .here | apply Mem.there)); first | done | fail))))
      focus (refine' dj_q rfl _ rfl rfl rfl rfl _; rotate_left; (apply q_fld0; exact rfl; exact rfl))
      focus (refine' dj_q rfl _ rfl rfl rfl rfl _; rotate_left; (apply q_load; exact rfl; exact rfl; (first | exact cell_own (by (repeat (first | exact .here | apply Mem.there)); first | done | fail) rfl | exact cellR (by assumption) (by (repeat (first | exact .here | apply Mem.there)); first | done | fail) | exact cellH (by assumption) (by (repeat (first | exact .here | apply Mem.there)); first | done | fail) | exact cell_ints (by (repeat (first | exact .here | apply Mem.there)); first | done | fail) (by omega) | exact cell_bools (by assumption) (by (repeat (first | exact .here | apply Mem.there)); first | done | fail) | exact cell_intsR (by (repeat (first | exact .here | apply Mem.there)); first | done | fail) (by omega) | exact cell_boolsR (by assumption) (by (repeat (first | exact .here | apply Mem.there)); first | done | fail))))
      refine dj_l (a_call rfl hrk rfl rfl (fun τ hτ => .inl (by simp [hτ])) rfl rfl ?_)
      rintro _ rfl
      focus (refine' dj_q rfl _ rfl rfl rfl rfl _; rotate_left; (apply q_gtF; exact rfl; exact rfl; omega))
      focus (refine' dj_q rfl _ rfl rfl rfl rfl _; rotate_left; (apply q_move; exact rfl))
      refine dj_pass rfl rfl rfl rfl rfl ?_
      refine dj_pass rfl rfl rfl rfl rfl ?_
      refine dj_pass rfl rfl rfl rfl rfl ?_
      refine dj_pass rfl rfl rfl rfl rfl ?_
      focus (refine' dj_q rfl _ rfl rfl rfl rfl _; rotate_left; (apply q_pick_f; exact rfl; exact rfl))
      refine dj_end ?_
      refine jk_if_f rfl ?_
      refine jk_skip ?_
      refine jk_blk ?_
      refine jk_region ?_
      focus (refine' jk_q _ rfl rfl rfl _; rotate_left; (apply q_inc; exact rfl; exact rfl; omega))
      focus (refine' jk_q _ rfl rfl rfl _; rotate_left; (apply q_move; exact rfl))
      refine jk_nil ?_
      refine jk_round (k + 1, σ) ⟨by simp only; omega, ?_⟩ (by simp only; omega) (by (repeat (first | exact trivial | refine And.intro rfl ?_)); first | done | fail) (Sel.skip Sel.refl)
      simp only
      rw [hsn]; exact hI
  · refine jk_seq ?_
    refine jk_region ?_
    focus (refine' jk_q _ rfl rfl rfl _; rotate_left; (apply q_ltF; exact rfl; exact rfl; omega))
    refine jk_nil ?_
    refine jk_seq ?_
    refine jk_if_f rfl ?_
    refine jk_exit rfl ?_
    refine jk_end_any (res0 rfl) (fun _ h => h) Sel.refl ⟨σ, rfl, .inl ?_⟩
    rw [List.take_of_length_le (by omega)] at hI
    simpa using hI
end Go.Proofs.Ytoccdekghjoldaa
