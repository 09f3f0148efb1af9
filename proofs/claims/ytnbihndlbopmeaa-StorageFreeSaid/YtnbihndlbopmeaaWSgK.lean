/- Where a node can store more, of the program. -/
import Derived.Test.YtnbihndlbopmeaaWSgJ
import Derived.Test.YtnbihndlbopmeaaWMbFree
set_option linter.all false
namespace Go.Proofs.Ytnbihndlbopmeaa
open Go.Eng Go.Step
set_option maxRecDepth 100000
set_option maxHeartbeats 4000000

def encS (x : Int × Int) : List Value := [int x.1, int x.2]
theorem encS_len (x : Int × Int) : (encS x).length = 2 := rfl
abbrev SpAt (ρ : PH) (v : Value) (l : List (Int × Int)) : Prop := SlE encS 2 ρ v l
def endO (fr t : Int) (out : List (Int × Int)) : List (Int × Int) := if 0 ≤ fr ∧ fr < t then out ++ [(fr, t)] else out
set_option maxHeartbeats 16000000 in
theorem end_spec (bf bo : Nat) (fr t : Int) (u : Value) (out : List (Int × Int)) (σ : PH) (hO : OwnS 43 2 u out.length (out.flatMap encS) σ) (hl : out.length ≤ 100000) :
    Eng.Spec Try.prog (.func (.func 38) #[] #[.pointer (some ⟨bf, 0, none⟩), .pointer (some ⟨bo, 0, none⟩)]) [int t] [] [sng bf (.cells #[int fr] 3 (0, 0)), sng bo (.cells #[u] 33 (0, 0)), σ]
      (fun r H' => r = .tuple #[] ∧ ∃ u' σ', OwnS 43 2 u' (endO fr t out).length ((endO fr t out).flatMap encS) σ' ∧ H' = [sng bf (.cells #[int (-1)] 3 (0, 0)), sng bo (.cells #[u'] 33 (0, 0)), σ']) := by
  obtain ⟨pu, cu, rfl⟩ := SlAt.cap hO.at
  refine spec_in (cap := [.pointer (some ⟨bf, 0, none⟩), .pointer (some ⟨bo, 0, none⟩)]) Try.func38 rfl rfl Try.ntmps38 rfl (by (repeat (first | exact EnvA.nil EnvI.nil | apply EnvA.cons | apply EnvA.nil | exact EnvI.nil | apply EnvI.cons)); first | done | fail) (fun N β => ?_)
  unfold endO
  by_cases h1 : 0 ≤ fr
  · by_cases h2 : fr < t
    · rw [if_pos ⟨h1, h2⟩]
      refine jk_seq ?_
      refine jk_seq ?_
      refine jk_region ?_
      focus (refine' jk_q _ rfl rfl rfl _; rotate_left; (apply q_load; exact rfl; exact rfl; (first | exact cell_own (by (repeat (first | exact .here | apply Mem.there)); first | done | fail) rfl | exact cellR (by assumption) (by (repeat (first | exact .here | apply Mem.there)); first | done | fail) | exact cellH (by assumption) (by (repeat (first | exact .here | apply Mem.there)); first | done | fail) | exact cell_ints (by (repeat (first | exact .here | apply Mem.there)); first | done | fail) (by omega) | exact cell_bools (by assumption) (by (repeat (first | exact .here | apply Mem.there)); first | done | fail) | exact cell_intsR (by (repeat (first | exact .here | apply Mem.there)); first | done | fail) (by omega) | exact cell_boolsR (by assumption) (by (repeat (first | exact .here | apply Mem.there)); first | done | fail))))
      focus (refine' jk_q _ rfl rfl rfl _; rotate_left; (apply q_ge; exact rfl; exact rfl; omega))
      focus (refine' jk_q _ rfl rfl rfl _; rotate_left; (apply q_move; exact rfl))
      focus (refine' jk_q _ rfl rfl rfl _; rotate_left; (apply q_load; exact rfl; exact rfl; (first | exact cell_own (by (repeat (first | exact .here | apply Mem.there)); first | done | fail) rfl | exact cellR (by assumption) (by (repeat (first | exact .here | apply Mem.there)); first | done | fail) | exact cellH (by assumption) (by (repeat (first | exact .here | apply Mem.there)); first | done | fail) | exact cell_ints (by (repeat (first | exact .here | apply Mem.there)); first | done | fail) (by omega) | exact cell_bools (by assumption) (by (repeat (first | exact .here | apply Mem.there)); first | done | fail) | exact cell_intsR (by (repeat (first | exact .here | apply Mem.there)); first | done | fail) (by omega) | exact cell_boolsR (by assumption) (by (repeat (first | exact .here | apply Mem.there)); first | done | fail))))
      focus (refine' jk_q _ rfl rfl rfl _; rotate_left; (apply q_move; exact rfl))
      focus (refine' jk_q _ rfl rfl rfl _; rotate_left; (apply q_lt; exact rfl; exact rfl; omega))
      focus (refine' jk_q _ rfl rfl rfl _; rotate_left; (apply q_pick_t; exact rfl; exact rfl))
      refine jk_nil ?_
      refine jk_if_t rfl ?_
      refine jk_region ?_
      focus (refine' jk_q _ rfl rfl rfl _; rotate_left; (apply q_load; exact rfl; exact rfl; (first | exact cell_own (by (repeat (first | exact .here | apply Mem.there)); first | done | fail) rfl | exact cellR (by assumption) (by (repeat (first | exact .here | apply Mem.there)); first | done | fail) | exact cellH (by assumption) (by (repeat (first | exact .here | apply Mem.there)); first | done | fail) | exact cell_ints (by (repeat (first | exact .here | apply Mem.there)); first | done | fail) (by omega) | exact cell_bools (by assumption) (by (repeat (first | exact .here | apply Mem.there)); first | done | fail) | exact cell_intsR (by (repeat (first | exact .here | apply Mem.there)); first | done | fail) (by omega) | exact cell_boolsR (by assumption) (by (repeat (first | exact .here | apply Mem.there)); first | done | fail))))
      focus (refine' jk_q _ rfl rfl rfl _; rotate_left; (apply q_load; exact rfl; exact rfl; (first | exact cell_own (by (repeat (first | exact .here | apply Mem.there)); first | done | fail) rfl | exact cellR (by assumption) (by (repeat (first | exact .here | apply Mem.there)); first | done | fail) | exact cellH (by assumption) (by (repeat (first | exact .here | apply Mem.there)); first | done | fail) | exact cell_ints (by (repeat (first | exact .here | apply Mem.there)); first | done | fail) (by omega) | exact cell_bools (by assumption) (by (repeat (first | exact .here | apply Mem.there)); first | done | fail) | exact cell_intsR (by (repeat (first | exact .here | apply Mem.there)); first | done | fail) (by omega) | exact cell_boolsR (by assumption) (by (repeat (first | exact .here | apply Mem.there)); first | done | fail))))
      focus (refine' jk_q _ rfl rfl rfl _; rotate_left; (apply q_move; exact rfl))
      focus (refine' jk_q _ rfl rfl rfl _; rotate_left; (apply q_build; exact rfl; exact rfl; exact (by (repeat (first | exact Bld.nil | apply Bld.put rfl rfl rfl | apply Bld.keep rfl)); first | done | fail)))
      focus (refine' jk_op _ rfl rfl rfl _; rotate_left; (apply l_buildSlice; exact rfl; exact rfl; exact rfl; exact rfl; exact rfl; exact (by (repeat (first | exact (fun v hv => absurd hv List.not_mem_nil) | (refine List.forall_mem_cons.2 ⟨?_, ?_⟩; (focus (first | exact rfl | assumption))))); first | done | fail); exact (by (repeat (first | exact Flat.nil | apply Flat.one rfl | apply Flat.agg2 | apply Flat.agg3 | apply Flat.agg1 | apply Flat.agg4 | apply Flat.agg5)); first | done | fail); exact rfl); rintro _ _ ⟨b, rfl, rfl⟩)
      refine jk_op (l_append (by_ := 16) (s := 2) (news := [int fr, int t]) rfl rfl rfl rfl rfl rfl rfl hO (by (repeat (first | exact .here | apply Take.there)); first | done | fail) (cells_own (by (repeat (first | exact .here | apply Mem.there)); first | done | fail)) rfl (by (repeat (first | exact (fun v hv => absurd hv List.not_mem_nil) | (refine List.forall_mem_cons.2 ⟨?_, ?_⟩; (focus (first | exact rfl | assumption))))); first | done | fail) (by omega) (by simp only [maxLen]; omega) (by omega)) rfl rfl rfl ?_
      rintro u1 _ ⟨σ1, hO1, rfl⟩
      have hu1 : u1.oneCell' = true := by obtain ⟨p, c, rfl⟩ := SlAt.cap hO1.at; rfl
      focus (refine' jk_op_none _ rfl rfl _; rotate_left; (apply l_storeL; exact rfl; exact rfl; (first | exact rfl | assumption); exact rfl; exact (by (repeat (first | exact .here | apply Take.there)); first | done | fail); (focus (repeat (first | exact SetL.here | apply SetL.there)); done)); rintro _ _ ⟨rfl, rfl⟩)
      refine jk_nil ?_
      refine jk_region ?_
      focus (refine' jk_op_none _ rfl rfl _; rotate_left; (apply l_storeL; exact rfl; exact rfl; (first | exact rfl | assumption); exact rfl; exact (by (repeat (first | exact .here | apply Take.there)); first | done | fail); (focus (repeat (first | exact SetL.here | apply SetL.there)); done)); rintro _ _ ⟨rfl, rfl⟩)
      refine jk_nil ?_
      refine jk_end_any (res0 rfl) (by (repeat (first | exact rs_nil | (refine rs_cons ?_ ?_; (focus ((repeat (first | exact .here | apply Mem.there | apply Take.there)); first | done | fail))) | exact fun ρ hρ => hρ | (intro ρ hρ; repeat (first | exact hρ | refine List.mem_cons_of_mem _ ?_)))); first | done | fail) (by (repeat (first | exact Sel.nil | (apply Sel.cons; (focus ((repeat (first | exact .here | apply Mem.there | apply Take.there)); first | done | fail))))); first | done | fail) ⟨rfl, u1, σ1, ?_, rfl⟩
      rw [List.length_append, List.flatMap_append]
      exact hO1
    · rw [if_neg (by omega)]
      refine jk_seq ?_
      refine jk_seq ?_
      refine jk_region ?_
      focus (refine' jk_q _ rfl rfl rfl _; rotate_left; (apply q_load; exact rfl; exact rfl; (first | exact cell_own (by (repeat (first | exact .here | apply Mem.there)); first | done | fail) rfl | exact cellR (by assumption) (by (repeat (first | exact .here | apply Mem.there)); first | done | fail) | exact cellH (by assumption) (by (repeat (first | exact .here | apply Mem.there)); first | done | fail) | exact cell_ints (by (repeat (first | exact .here | apply Mem.there)); first | done | fail) (by omega) | exact cell_bools (by assumption) (by (repeat (first | exact .here | apply Mem.there)); first | done | fail) | exact cell_intsR (by (repeat (first | exact .here | apply Mem.there)); first | done | fail) (by omega) | exact cell_boolsR (by assumption) (by (repeat (first | exact .here | apply Mem.there)); first | done | fail))))
      focus (refine' jk_q _ rfl rfl rfl _; rotate_left; (apply q_ge; exact rfl; exact rfl; omega))
      focus (refine' jk_q _ rfl rfl rfl _; rotate_left; (apply q_move; exact rfl))
      focus (refine' jk_q _ rfl rfl rfl _; rotate_left; (apply q_load; exact rfl; exact rfl; (first | exact cell_own (by (repeat (first | exact .here | apply Mem.there)); first | done | fail) rfl | exact cellR (by assumption) (by (repeat (first | exact .here | apply Mem.there)); first | done | fail) | exact cellH (by assumption) (by (repeat (first | exact .here | apply Mem.there)); first | done | fail) | exact cell_ints (by (repeat (first | exact .here | apply Mem.there)); first | done | fail) (by omega) | exact cell_bools (by assumption) (by (repeat (first | exact .here | apply Mem.there)); first | done | fail) | exact cell_intsR (by (repeat (first | exact .here | apply Mem.there)); first | done | fail) (by omega) | exact cell_boolsR (by assumption) (by (repeat (first | exact .here | apply Mem.there)); first | done | fail))))
      focus (refine' jk_q _ rfl rfl rfl _; rotate_left; (apply q_move; exact rfl))
      focus (refine' jk_q _ rfl rfl rfl _; rotate_left; (apply q_ltF; exact rfl; exact rfl; omega))
      focus (refine' jk_q _ rfl rfl rfl _; rotate_left; (apply q_pick_t; exact rfl; exact rfl))
      refine jk_nil ?_
      refine jk_if_f rfl ?_
      refine jk_skip ?_
      refine jk_region ?_
      focus (refine' jk_op_none _ rfl rfl _; rotate_left; (apply l_storeL; exact rfl; exact rfl; (first | exact rfl | assumption); exact rfl; exact (by (repeat (first | exact .here | apply Take.there)); first | done | fail); (focus (repeat (first | exact SetL.here | apply SetL.there)); done)); rintro _ _ ⟨rfl, rfl⟩)
      refine jk_nil ?_
      exact jk_end_any (res0 rfl) (by (repeat (first | exact rs_nil | (refine rs_cons ?_ ?_; (focus ((repeat (first | exact .here | apply Mem.there | apply Take.there)); first | done | fail))) | exact fun ρ hρ => hρ | (intro ρ hρ; repeat (first | exact hρ | refine List.mem_cons_of_mem _ ?_)))); first | done | fail) (by (repeat (first | exact Sel.nil | (apply Sel.cons; (focus ((repeat (first | exact .here | apply Mem.there | apply Take.there)); first | done | fail))))); first | done | fail) ⟨rfl, _, _, hO, rfl⟩
  · rw [if_neg (by omega)]
    refine jk_seq ?_
    refine jk_seq ?_
    refine jk_region ?_
    focus (refine' jk_q _ rfl rfl rfl _; rotate_left; (apply q_load; exact rfl; exact rfl; (first | exact cell_own (by (repeat (first | exact .here | apply Mem.there)); first | done | fail) rfl | exact cellR (by assumption) (by (repeat (first | exact .here | apply Mem.there)); first | done | fail) | exact cellH (by assumption) (by (repeat (first | exact .here | apply Mem.there)); first | done | fail) | exact cell_ints (by (repeat (first | exact .here | apply Mem.there)); first | done | fail) (by omega) | exact cell_bools (by assumption) (by (repeat (first | exact .here | apply Mem.there)); first | done | fail) | exact cell_intsR (by (repeat (first | exact .here | apply Mem.there)); first | done | fail) (by omega) | exact cell_boolsR (by assumption) (by (repeat (first | exact .here | apply Mem.there)); first | done | fail))))
    focus (refine' jk_q _ rfl rfl rfl _; rotate_left; (apply q_geF; exact rfl; exact rfl; omega))
    focus (refine' jk_q _ rfl rfl rfl _; rotate_left; (apply q_move; exact rfl))
    refine jk_pass rfl rfl rfl ?_
    refine jk_pass rfl rfl rfl ?_
    refine jk_pass rfl rfl rfl ?_
    focus (refine' jk_q _ rfl rfl rfl _; rotate_left; (apply q_pick_f; exact rfl; exact rfl))
    refine jk_nil ?_
    refine jk_if_f rfl ?_
    refine jk_skip ?_
    refine jk_region ?_
    focus (refine' jk_op_none _ rfl rfl _; rotate_left; (apply l_storeL; exact rfl; exact rfl; (first | exact rfl | assumption); exact rfl; exact (by (repeat (first | exact .here | apply Take.there)); first | done | fail); (focus (repeat (first | exact SetL.here | apply SetL.there)); done)); rintro _ _ ⟨rfl, rfl⟩)
    refine jk_nil ?_
    exact jk_end_any (res0 rfl) (by (repeat (first | exact rs_nil | (refine rs_cons ?_ ?_; (focus ((repeat (first | exact .here | apply Mem.there | apply Take.there)); first | done | fail))) | exact fun ρ hρ => hρ | (intro ρ hρ; repeat (first | exact hρ | refine List.mem_cons_of_mem _ ?_)))); first | done | fail) (by (repeat (first | exact Sel.nil | (apply Sel.cons; (focus ((repeat (first | exact .here | apply Mem.there | apply Take.there)); first | done | fail))))); first | done | fail) ⟨rfl, _, _, hO, rfl⟩
def fnEnd (bf bo : Nat) : Value := .func (.func 38) #[] #[.pointer (some ⟨bf, 0, none⟩), .pointer (some ⟨bo, 0, none⟩)]
set_option maxHeartbeats 16000000 in
theorem at_spec (ρ : PH) (b4 b6 b7 b12 bf bo : Nat) (w : Value) (pq : Option Addr) (kq : Nat) (qs : List Int) (nn : Nat) (Q s fr t x : Int) (u : Value) (out : List (Int × Int)) (σ : PH) (hq : IntsAt ρ (.slice pq qs.length kq) qs) (hQ : qs[nn]? = some Q) (hQb : 0 ≤ Q ∧ Q ≤ 1073741824) (hx : 0 ≤ x ∧ x ≤ 1099511627776)
    (hO : OwnS 43 2 u out.length (out.flatMap encS) σ) (hl : out.length ≤ 100000) :
    Eng.Spec Try.prog (.func (.func 39) #[] #[.pointer (some ⟨b4, 0, none⟩), .pointer (some ⟨b6, 0, none⟩), .pointer (some ⟨b7, 0, none⟩), .pointer (some ⟨b12, 0, none⟩), .pointer (some ⟨bf, 0, none⟩)]) [int t, int x]
      [ρ, sng b4 (.cells #[.slice pq qs.length kq, w] 25 (0, 0)), sng b6 (.cells #[int nn] 3 (0, 0)), sng b7 (.cells #[int s] 3 (0, 0)), sng b12 (.cells #[fnEnd bf bo] 66 (0, 0))]
      [sng bf (.cells #[int fr] 3 (0, 0)), sng bo (.cells #[u] 33 (0, 0)), σ]
      (fun r H' => r = .tuple #[] ∧ ∃ u' σ', OwnS 43 2 u' (frA Q s (fr, out) t x).2.length ((frA Q s (fr, out) t x).2.flatMap encS) σ' ∧ H' = [sng bf (.cells #[int (frA Q s (fr, out) t x).1] 3 (0, 0)), sng bo (.cells #[u'] 33 (0, 0)), σ']) := by
  obtain ⟨_, _, e, hrq⟩ := hq.val Eng.encI_len
  simp only [Value.slice.injEq] at e
  obtain ⟨rfl, _, rfl⟩ := e
  have hnl := (List.getElem?_eq_some_iff.1 hQ).1
  obtain ⟨bq, oq, rfl, gq⟩ := hrq.int hQ
  refine spec_in (cap := [.pointer (some ⟨b4, 0, none⟩), .pointer (some ⟨b6, 0, none⟩), .pointer (some ⟨b7, 0, none⟩), .pointer (some ⟨b12, 0, none⟩), .pointer (some ⟨bf, 0, none⟩)]) Try.func39 rfl rfl Try.ntmps39 rfl (by (repeat (first | exact EnvA.nil EnvI.nil | apply EnvA.cons | apply EnvA.nil | exact EnvI.nil | apply EnvI.cons)); first | done | fail) (fun N β => ?_)
  have c4 : rdc (sng b4 (.cells #[.slice (some ⟨bq, oq, none⟩) qs.length kq, w] 25 (0, 0))) b4 0 = some (.slice (some ⟨bq, oq, none⟩) qs.length kq) := by rw [rdc_sng]; rfl
  have c6 : rdc (sng b6 (.cells #[int nn] 3 (0, 0))) b6 0 = some (int nn) := by rw [rdc_sng]; rfl
  have c7 : rdc (sng b7 (.cells #[int s] 3 (0, 0))) b7 0 = some (int s) := by rw [rdc_sng]; rfl
  have c12 : rdc (sng b12 (.cells #[fnEnd bf bo] 66 (0, 0))) b12 0 = some (fnEnd bf bo) := by rw [rdc_sng]; rfl
  unfold frA
  dsimp only
  refine jk_seq ?_
  refine jk_draw (.q 0 (.q 1 (.q 2 (.q 3 (.q 4 (.q 5 (.q 6 (.q 7 (.q 8 .nil))))))))) _ rfl (by kernel_rfl) Sel.refl ?_
  by_cases hc : Q - x < s
  · rw [if_pos hc]
    focus (refine' dj_q rfl _ rfl rfl rfl rfl _; rotate_left; (apply q_fld0; exact rfl; exact rfl))
    focus (refine' dj_q rfl _ rfl rfl rfl rfl _; rotate_left; (apply q_load; exact rfl; exact rfl; (first | exact cell_own (by (repeat (first | exact .here | apply Mem.there)); first | done | fail) rfl | exact cellR (by assumption) (by (repeat (first | exact .here | apply Mem.there)); first | done | fail) | exact cellH (by assumption) (by (repeat (first | exact .here | apply Mem.there)); first | done | fail) | exact cell_ints (by (repeat (first | exact .here | apply Mem.there)); first | done | fail) (by omega) | exact cell_bools (by assumption) (by (repeat (first | exact .here | apply Mem.there)); first | done | fail) | exact cell_intsR (by (repeat (first | exact .here | apply Mem.there)); first | done | fail) (by omega) | exact cell_boolsR (by assumption) (by (repeat (first | exact .here | apply Mem.there)); first | done | fail))))
    focus (refine' dj_q rfl _ rfl rfl rfl rfl _; rotate_left; (apply q_load; exact rfl; exact rfl; (first | exact cell_own (by (repeat (first | exact .here | apply Mem.there)); first | done | fail) rfl | exact cellR (by assumption) (by (repeat (first | exact .here | apply Mem.there)); first | done | fail) | exact cellH (by assumption) (by (repeat (first | exact .here | apply Mem.there)); first | done | fail) | exact cell_ints (by (repeat (first | exact .here | apply Mem.there)); first | done | fail) (by omega) | exact cell_bools (by assumption) (by (repeat (first | exact .here | apply Mem.there)); first | done | fail) | exact cell_intsR (by (repeat (first | exact .here | apply Mem.there)); first | done | fail) (by omega) | exact cell_boolsR (by assumption) (by (repeat (first | exact .here | apply Mem.there)); first | done | fail))))
    focus (refine' dj_q rfl _ rfl rfl rfl rfl _; rotate_left; (apply q_idx1; exact rfl; exact rfl; exact rfl; exact rfl; omega))
    focus (refine' dj_q rfl _ rfl rfl rfl rfl _; rotate_left; (apply q_load; exact rfl; exact rfl; (first | exact cell_own (by (repeat (first | exact .here | apply Mem.there)); first | done | fail) rfl | exact cellR (by assumption) (by (repeat (first | exact .here | apply Mem.there)); first | done | fail) | exact cellH (by assumption) (by (repeat (first | exact .here | apply Mem.there)); first | done | fail) | exact cell_ints (by (repeat (first | exact .here | apply Mem.there)); first | done | fail) (by omega) | exact cell_bools (by assumption) (by (repeat (first | exact .here | apply Mem.there)); first | done | fail) | exact cell_intsR (by (repeat (first | exact .here | apply Mem.there)); first | done | fail) (by omega) | exact cell_boolsR (by assumption) (by (repeat (first | exact .here | apply Mem.there)); first | done | fail))))
    focus (refine' dj_q rfl _ rfl rfl rfl rfl _; rotate_left; (apply q_move; exact rfl))
    focus (refine' dj_q rfl _ rfl rfl rfl rfl _; rotate_left; (apply q_sub; exact rfl; exact rfl; exact ⟨by omega, by omega⟩))
    focus (refine' dj_q rfl _ rfl rfl rfl rfl _; rotate_left; (apply q_load; exact rfl; exact rfl; (first | exact cell_own (by (repeat (first | exact .here | apply Mem.there)); first | done | fail) rfl | exact cellR (by assumption) (by (repeat (first | exact .here | apply Mem.there)); first | done | fail) | exact cellH (by assumption) (by (repeat (first | exact .here | apply Mem.there)); first | done | fail) | exact cell_ints (by (repeat (first | exact .here | apply Mem.there)); first | done | fail) (by omega) | exact cell_bools (by assumption) (by (repeat (first | exact .here | apply Mem.there)); first | done | fail) | exact cell_intsR (by (repeat (first | exact .here | apply Mem.there)); first | done | fail) (by omega) | exact cell_boolsR (by assumption) (by (repeat (first | exact .here | apply Mem.there)); first | done | fail))))
    focus (refine' dj_q rfl _ rfl rfl rfl rfl _; rotate_left; (apply q_lt; exact rfl; exact rfl; omega))
    refine dj_end ?_
    refine jk_if_t rfl ?_
    refine jk_region ?_
    focus (refine' jk_q _ rfl rfl rfl _; rotate_left; (apply q_load; exact rfl; exact rfl; (first | exact cell_own (by (repeat (first | exact .here | apply Mem.there)); first | done | fail) rfl | exact cellR (by assumption) (by (repeat (first | exact .here | apply Mem.there)); first | done | fail) | exact cellH (by assumption) (by (repeat (first | exact .here | apply Mem.there)); first | done | fail) | exact cell_ints (by (repeat (first | exact .here | apply Mem.there)); first | done | fail) (by omega) | exact cell_bools (by assumption) (by (repeat (first | exact .here | apply Mem.there)); first | done | fail) | exact cell_intsR (by (repeat (first | exact .here | apply Mem.there)); first | done | fail) (by omega) | exact cell_boolsR (by assumption) (by (repeat (first | exact .here | apply Mem.there)); first | done | fail))))
    focus (refine' jk_q _ rfl rfl rfl _; rotate_left; (apply q_move; exact rfl))
    refine jk_callH (end_spec bf bo fr t u out σ hO hl) rfl rfl (by (repeat (first | exact Takes.nil | (apply Takes.cons; exact (by (repeat (first | exact .here | apply Take.there)); first | done | fail)))); first | done | fail) (fun τ hτ => by simp at hτ) rfl rfl ?_
    rintro _ _ ⟨rfl, u1, σ1, hO1, rfl⟩
    refine jk_nil ?_
    exact jk_end_any (res0 rfl) (by (repeat (first | exact rs_nil | (refine rs_cons ?_ ?_; (focus ((repeat (first | exact .here | apply Mem.there | apply Take.there)); first | done | fail))) | exact fun ρ hρ => hρ | (intro ρ hρ; repeat (first | exact hρ | refine List.mem_cons_of_mem _ ?_)))); first | done | fail) (by (repeat (first | exact Sel.nil | (apply Sel.cons; (focus ((repeat (first | exact .here | apply Mem.there | apply Take.there)); first | done | fail))))); first | done | fail) ⟨rfl, u1, σ1, hO1, rfl⟩
  · rw [if_neg hc]
    by_cases hf : fr < 0
    · rw [if_pos hf]
      focus (refine' dj_q rfl _ rfl rfl rfl rfl _; rotate_left; (apply q_fld0; exact rfl; exact rfl))
      focus (refine' dj_q rfl _ rfl rfl rfl rfl _; rotate_left; (apply q_load; exact rfl; exact rfl; (first | exact cell_own (by (repeat (first | exact .here | apply Mem.there)); first | done | fail) rfl | exact cellR (by assumption) (by (repeat (first | exact .here | apply Mem.there)); first | done | fail) | exact cellH (by assumption) (by (repeat (first | exact .here | apply Mem.there)); first | done | fail) | exact cell_ints (by (repeat (first | exact .here | apply Mem.there)); first | done | fail) (by omega) | exact cell_bools (by assumption) (by (repeat (first | exact .here | apply Mem.there)); first | done | fail) | exact cell_intsR (by (repeat (first | exact .here | apply Mem.there)); first | done | fail) (by omega) | exact cell_boolsR (by assumption) (by (repeat (first | exact .here | apply Mem.there)); first | done | fail))))
      focus (refine' dj_q rfl _ rfl rfl rfl rfl _; rotate_left; (apply q_load; exact rfl; exact rfl; (first | exact cell_own (by (repeat (first | exact .here | apply Mem.there)); first | done | fail) rfl | exact cellR (by assumption) (by (repeat (first | exact .here | apply Mem.there)); first | done | fail) | exact cellH (by assumption) (by (repeat (first | exact .here | apply Mem.there)); first | done | fail) | exact cell_ints (by (repeat (first | exact .here | apply Mem.there)); first | done | fail) (by omega) | exact cell_bools (by assumption) (by (repeat (first | exact .here | apply Mem.there)); first | done | fail) | exact cell_intsR (by (repeat (first | exact .here | apply Mem.there)); first | done | fail) (by omega) | exact cell_boolsR (by assumption) (by (repeat (first | exact .here | apply Mem.there)); first | done | fail))))
      focus (refine' dj_q rfl _ rfl rfl rfl rfl _; rotate_left; (apply q_idx1; exact rfl; exact rfl; exact rfl; exact rfl; omega))
      focus (refine' dj_q rfl _ rfl rfl rfl rfl _; rotate_left; (apply q_load; exact rfl; exact rfl; (first | exact cell_own (by (repeat (first | exact .here | apply Mem.there)); first | done | fail) rfl | exact cellR (by assumption) (by (repeat (first | exact .here | apply Mem.there)); first | done | fail) | exact cellH (by assumption) (by (repeat (first | exact .here | apply Mem.there)); first | done | fail) | exact cell_ints (by (repeat (first | exact .here | apply Mem.there)); first | done | fail) (by omega) | exact cell_bools (by assumption) (by (repeat (first | exact .here | apply Mem.there)); first | done | fail) | exact cell_intsR (by (repeat (first | exact .here | apply Mem.there)); first | done | fail) (by omega) | exact cell_boolsR (by assumption) (by (repeat (first | exact .here | apply Mem.there)); first | done | fail))))
      focus (refine' dj_q rfl _ rfl rfl rfl rfl _; rotate_left; (apply q_move; exact rfl))
      focus (refine' dj_q rfl _ rfl rfl rfl rfl _; rotate_left; (apply q_sub; exact rfl; exact rfl; exact ⟨by omega, by omega⟩))
      focus (refine' dj_q rfl _ rfl rfl rfl rfl _; rotate_left; (apply q_load; exact rfl; exact rfl; (first | exact cell_own (by (repeat (first | exact .here | apply Mem.there)); first | done | fail) rfl | exact cellR (by assumption) (by (repeat (first | exact .here | apply Mem.there)); first | done | fail) | exact cellH (by assumption) (by (repeat (first | exact .here | apply Mem.there)); first | done | fail) | exact cell_ints (by (repeat (first | exact .here | apply Mem.there)); first | done | fail) (by omega) | exact cell_bools (by assumption) (by (repeat (first | exact .here | apply Mem.there)); first | done | fail) | exact cell_intsR (by (repeat (first | exact .here | apply Mem.there)); first | done | fail) (by omega) | exact cell_boolsR (by assumption) (by (repeat (first | exact .here | apply Mem.there)); first | done | fail))))
      focus (refine' dj_q rfl _ rfl rfl rfl rfl _; rotate_left; (apply q_ltF; exact rfl; exact rfl; omega))
      refine dj_end ?_
      refine jk_if_f rfl ?_
      refine jk_seq ?_
      refine jk_region ?_
      focus (refine' jk_q _ rfl rfl rfl _; rotate_left; (apply q_load; exact rfl; exact rfl; (first | exact cell_own (by (repeat (first | exact .here | apply Mem.there)); first | done | fail) rfl | exact cellR (by assumption) (by (repeat (first | exact .here | apply Mem.there)); first | done | fail) | exact cellH (by assumption) (by (repeat (first | exact .here | apply Mem.there)); first | done | fail) | exact cell_ints (by (repeat (first | exact .here | apply Mem.there)); first | done | fail) (by omega) | exact cell_bools (by assumption) (by (repeat (first | exact .here | apply Mem.there)); first | done | fail) | exact cell_intsR (by (repeat (first | exact .here | apply Mem.there)); first | done | fail) (by omega) | exact cell_boolsR (by assumption) (by (repeat (first | exact .here | apply Mem.there)); first | done | fail))))
      focus (refine' jk_q _ rfl rfl rfl _; rotate_left; (apply q_lt; exact rfl; exact rfl; omega))
      refine jk_nil ?_
      refine jk_if_t rfl ?_
      refine jk_region ?_
      focus (refine' jk_q _ rfl rfl rfl _; rotate_left; (apply q_move; exact rfl))
      focus (refine' jk_op_none _ rfl rfl _; rotate_left; (apply l_storeL; exact rfl; exact rfl; (first | exact rfl | assumption); exact rfl; exact (by (repeat (first | exact .here | apply Take.there)); first | done | fail); (focus (repeat (first | exact SetL.here | apply SetL.there)); done)); rintro _ _ ⟨rfl, rfl⟩)
      refine jk_nil ?_
      exact jk_end_any (res0 rfl) (by (repeat (first | exact rs_nil | (refine rs_cons ?_ ?_; (focus ((repeat (first | exact .here | apply Mem.there | apply Take.there)); first | done | fail))) | exact fun ρ hρ => hρ | (intro ρ hρ; repeat (first | exact hρ | refine List.mem_cons_of_mem _ ?_)))); first | done | fail) (by (repeat (first | exact Sel.nil | (apply Sel.cons; (focus ((repeat (first | exact .here | apply Mem.there | apply Take.there)); first | done | fail))))); first | done | fail) ⟨rfl, _, _, hO, rfl⟩
    · rw [if_neg hf]
      focus (refine' dj_q rfl _ rfl rfl rfl rfl _; rotate_left; (apply q_fld0; exact rfl; exact rfl))
      focus (refine' dj_q rfl _ rfl rfl rfl rfl _; rotate_left; (apply q_load; exact rfl; exact rfl; (first | exact cell_own (by (repeat (first | exact .here | apply Mem.there)); first | done | fail) rfl | exact cellR (by assumption) (by (repeat (first | exact .here | apply Mem.there)); first | done | fail) | exact cellH (by assumption) (by (repeat (first | exact .here | apply Mem.there)); first | done | fail) | exact cell_ints (by (repeat (first | exact .here | apply Mem.there)); first | done | fail) (by omega) | exact cell_bools (by assumption) (by (repeat (first | exact .here | apply Mem.there)); first | done | fail) | exact cell_intsR (by (repeat (first | exact .here | apply Mem.there)); first | done | fail) (by omega) | exact cell_boolsR (by assumption) (by (repeat (first | exact .here | apply Mem.there)); first | done | fail))))
      focus (refine' dj_q rfl _ rfl rfl rfl rfl _; rotate_left; (apply q_load; exact rfl; exact rfl; (first | exact cell_own (by (repeat (first | exact .here | apply Mem.there)); first | done | fail) rfl | exact cellR (by assumption) (by (repeat (first | exact .here | apply Mem.there)); first | done | fail) | exact cellH (by assumption) (by (repeat (first | exact .here | apply Mem.there)); first | done | fail) | exact cell_ints (by (repeat (first | exact .here | apply Mem.there)); first | done | fail) (by omega) | exact cell_bools (by assumption) (by (repeat (first | exact .here | apply Mem.there)); first | done | fail) | exact cell_intsR (by (repeat (first | exact .here | apply Mem.there)); first | done | fail) (by omega) | exact cell_boolsR (by assumption) (by (repeat (first | exact .here | apply Mem.there)); first | done | fail))))
      focus (refine' dj_q rfl _ rfl rfl rfl rfl _; rotate_left; (apply q_idx1; exact rfl; exact rfl; exact rfl; exact rfl; omega))
      focus (refine' dj_q rfl _ rfl rfl rfl rfl _; rotate_left; (apply q_load; exact rfl; exact rfl; (first | exact cell_own (by (repeat (first | exact .here | apply Mem.there)); first | done | fail) rfl | exact cellR (by assumption) (by (repeat (first | exact .here | apply Mem.there)); first | done | fail) | exact cellH (by assumption) (by (repeat (first | exact .here | apply Mem.there)); first | done | fail) | exact cell_ints (by (repeat (first | exact .here | apply Mem.there)); first | done | fail) (by omega) | exact cell_bools (by assumption) (by (repeat (first | exact .here | apply Mem.there)); first | done | fail) | exact cell_intsR (by (repeat (first | exact .here | apply Mem.there)); first | done | fail) (by omega) | exact cell_boolsR (by assumption) (by (repeat (first | exact .here | apply Mem.there)); first | done | fail))))
      focus (refine' dj_q rfl _ rfl rfl rfl rfl _; rotate_left; (apply q_move; exact rfl))
      focus (refine' dj_q rfl _ rfl rfl rfl rfl _; rotate_left; (apply q_sub; exact rfl; exact rfl; exact ⟨by omega, by omega⟩))
      focus (refine' dj_q rfl _ rfl rfl rfl rfl _; rotate_left; (apply q_load; exact rfl; exact rfl; (first | exact cell_own (by (repeat (first | exact .here | apply Mem.there)); first | done | fail) rfl | exact cellR (by assumption) (by (repeat (first | exact .here | apply Mem.there)); first | done | fail) | exact cellH (by assumption) (by (repeat (first | exact .here | apply Mem.there)); first | done | fail) | exact cell_ints (by (repeat (first | exact .here | apply Mem.there)); first | done | fail) (by omega) | exact cell_bools (by assumption) (by (repeat (first | exact .here | apply Mem.there)); first | done | fail) | exact cell_intsR (by (repeat (first | exact .here | apply Mem.there)); first | done | fail) (by omega) | exact cell_boolsR (by assumption) (by (repeat (first | exact .here | apply Mem.there)); first | done | fail))))
      focus (refine' dj_q rfl _ rfl rfl rfl rfl _; rotate_left; (apply q_ltF; exact rfl; exact rfl; omega))
      refine dj_end ?_
      refine jk_if_f rfl ?_
      refine jk_seq ?_
      refine jk_region ?_
      focus (refine' jk_q _ rfl rfl rfl _; rotate_left; (apply q_load; exact rfl; exact rfl; (first | exact cell_own (by (repeat (first | exact .here | apply Mem.there)); first | done | fail) rfl | exact cellR (by assumption) (by (repeat (first | exact .here | apply Mem.there)); first | done | fail) | exact cellH (by assumption) (by (repeat (first | exact .here | apply Mem.there)); first | done | fail) | exact cell_ints (by (repeat (first | exact .here | apply Mem.there)); first | done | fail) (by omega) | exact cell_bools (by assumption) (by (repeat (first | exact .here | apply Mem.there)); first | done | fail) | exact cell_intsR (by (repeat (first | exact .here | apply Mem.there)); first | done | fail) (by omega) | exact cell_boolsR (by assumption) (by (repeat (first | exact .here | apply Mem.there)); first | done | fail))))
      focus (refine' jk_q _ rfl rfl rfl _; rotate_left; (apply q_ltF; exact rfl; exact rfl; omega))
      refine jk_nil ?_
      refine jk_if_f rfl ?_
      refine jk_skip ?_
      exact jk_end_any (res0 rfl) (by (repeat (first | exact rs_nil | (refine rs_cons ?_ ?_; (focus ((repeat (first | exact .here | apply Mem.there | apply Take.there)); first | done | fail))) | exact fun ρ hρ => hρ | (intro ρ hρ; repeat (first | exact hρ | refine List.mem_cons_of_mem _ ?_)))); first | done | fail) (by (repeat (first | exact Sel.nil | (apply Sel.cons; (focus ((repeat (first | exact .here | apply Mem.there | apply Take.there)); first | done | fail))))); first | done | fail) ⟨rfl, _, _, hO, rfl⟩
end Go.Proofs.Ytnbihndlbopmeaa
