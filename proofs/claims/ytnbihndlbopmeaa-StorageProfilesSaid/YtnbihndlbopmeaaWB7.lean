/- Texts of this proof, one after the other; no conditions. -/
import Derived.Lib.AppendZerosOnto
import Derived.Lib.Overlaps
import Derived.Laws.Externs
import Derived.Test.YtnbihndlbopmeaaWB6
import Derived.Test.YtnbihndlbopmeaaWB3
import Derived.Test.YtnbihndlbopmeaaWB2
import Derived.Test.YtnbihndlbopmeaaWB5
set_option linter.all false
/- Free spans, of the reference; lists compared. -/
namespace Go.Proofs.Ytnbihndlbopmeaa
open Go.Eng Go.Step
set_option maxRecDepth 100000
set_option maxHeartbeats 4000000

theorem equalV_spec (ρ τ : PH) (v w : Value) (l m : List Lv) (hv : LvAt ρ v l) (hw : LvAt τ w m) (hl : l.length ≤ 9223372036854775807) :
    Ans Try.prog (fv 17) [v, w] [ρ, τ] (fun r => r = .bool (decide (l = m))) := by
  obtain ⟨q, c, rfl, hr⟩ := hv.val encV_len
  obtain ⟨q', c', rfl, hr'⟩ := hw.val encV_len
  refine spec_in (cap := []) Try.func17 rfl rfl Try.ntmps17 rfl (by (repeat (first | exact EnvA.nil EnvI.nil | apply EnvA.cons | apply EnvA.nil | exact EnvI.nil | apply EnvI.cons)); first | done | fail) (fun N β => ?_)
  by_cases hlen : l.length = m.length
  rotate_left
  · refine jk_seq ?_
    refine jk_region ?_
    refine zq_assign ?_
    refine jk_nil ?_
    refine jk_seq ?_
    refine jk_seq ?_
    refine jk_region ?_
    refine zq_move ?_
    refine zq_len ?_
    refine zq_move ?_
    refine zq_len ?_
    refine zq_ne ?_
    refine jk_nil ?_
    refine jk_if_t rfl ?_
    refine jk_seq ?_
    refine jk_region ?_
    refine zq_assign ?_
    refine jk_nil ?_
    exact jk_ret_any (res1 rfl rfl) (by (repeat (first | exact rs_nil | (refine rs_cons ?_ ?_; (focus ((repeat (first | exact .here | apply Mem.there | apply Take.there)); first | done | fail))) | exact fun ρ hρ => hρ | (intro ρ hρ; repeat (first | exact hρ | refine List.mem_cons_of_mem _ ?_)))); first | done | fail) selZ ⟨rfl, by rw [decide_eq_false (fun h => hlen (by rw [h]))]⟩
  refine jk_seq ?_
  refine jk_region ?_
  refine zq_assign ?_
  refine jk_nil ?_
  refine jk_seq ?_
  refine jk_seq ?_
  refine jk_region ?_
  refine zq_move ?_
  refine zq_len ?_
  refine zq_move ?_
  refine zq_len ?_
  refine zq_neF ?_
  refine jk_nil ?_
  refine jk_if_f rfl ?_
  refine jk_skip ?_
  refine jk_seq ?_
  refine jk_seq ?_
  refine jk_region ?_
  refine zq_move ?_
  refine zq_len ?_
  refine zq_move ?_
  refine jk_nil ?_
  refine jk_block ?_
  refine jk_loop [0, 1, 12] (0 : Nat) (fun k => k ≤ l.length ∧ l.take k = m.take k) (fun k => [(13, int k)]) (fun _ => []) (fun k => l.length - k) pickZ ⟨by omega, by simp⟩ covZ selZ ?_
  rintro k ⟨hk, hI⟩
  by_cases hlt : k < l.length
  · have hx := List.getElem?_eq_getElem hlt
    have hx' := List.getElem?_eq_getElem (show k < m.length by omega)
    obtain ⟨b1, o1, rfl, hRd1, _⟩ := lvRow hr hx
    obtain ⟨b2, o2, rfl, hRd2, _⟩ := lvRow hr' hx'
    refine jk_seq ?_
    refine jk_region ?_
    refine zq_lt ?_
    refine jk_nil ?_
    refine jk_seq ?_
    refine jk_if_t rfl ?_
    refine jk_skip ?_
    refine jk_seq ?_
    refine jk_block ?_
    refine jk_seq ?_
    refine jk_region ?_
    refine zq_move ?_
    refine zq_assign ?_
    refine jk_nil ?_
    refine jk_seq ?_
    refine jk_draw (.q 0 (.q 1 (.q 2 (.q 3 (.q 4 (.q 5 (.q 6 (.q 7 (.q 8 .nil))))))))) [] rfl (by kernel_rfl) Sel.nil ?_
    refine zd_move ?_
    refine zd_move ?_
    refine zd_idxN ?_
    refine zd_loadS ?_
    refine zd_move ?_
    refine zd_move ?_
    refine zd_idxN ?_
    refine zd_loadS ?_
    focus ((refine' dj_q rfl _ rfl rfl rfl rfl _; rotate_left; (apply q_neS [l[k].a, l[k].v] [m[k].a, m[k].v] (n := 2); exact rfl; exact rfl; kernel_rfl; kernel_rfl; kernel_rfl; exact rfl; exact rfl)))
    refine dj_end ?_
    by_cases he : l[k] = m[k]
    · rw [he]
      rw [show (!decide ([m[k].a, m[k].v] = [m[k].a, m[k].v])) = false by simp]
      skip
      refine jk_if_f rfl ?_
      refine jk_skip ?_
      refine jk_blk ?_
      refine jk_region ?_
      refine zq_inc ?_
      refine zq_move ?_
      refine jk_nil ?_
      refine jk_round (k + 1) ⟨by omega, ?_⟩ (by omega) covZ selZ
      rw [List.take_succ_eq_append_getElem hlt, List.take_succ_eq_append_getElem (show k < m.length by omega), hI, he]
    · have hne : ¬ ([l[k].a, l[k].v] = [m[k].a, m[k].v]) := fun h => he (by
        simp only [List.cons.injEq, and_true] at h
        generalize l[k] = x at *
        generalize m[k] = y at *
        obtain ⟨x1, x2⟩ := x
        obtain ⟨y1, y2⟩ := y
        simp only at h
        rw [h.1, h.2])
      rw [show (!decide ([l[k].a, l[k].v] = [m[k].a, m[k].v])) = true by simp only [decide_eq_false hne, Bool.not_false]]
      skip
      refine jk_if_t rfl ?_
      refine jk_seq ?_
      refine jk_region ?_
      refine zq_assign ?_
      refine jk_nil ?_
      exact jk_ret_any (res1 rfl rfl) (by (repeat (first | exact rs_nil | (refine rs_cons ?_ ?_; (focus ((repeat (first | exact .here | apply Mem.there | apply Take.there)); first | done | fail))) | exact fun ρ hρ => hρ | (intro ρ hρ; repeat (first | exact hρ | refine List.mem_cons_of_mem _ ?_)))); first | done | fail) selZ ⟨rfl, by rw [decide_eq_false (fun h => he (by subst h; rfl))]⟩
  · rw [List.take_of_length_le (by omega), List.take_of_length_le (by omega)] at hI
    refine jk_seq ?_
    refine jk_region ?_
    refine zq_ltF ?_
    refine jk_nil ?_
    refine jk_seq ?_
    refine jk_if_f rfl ?_
    refine jk_exit rfl ?_
    refine jk_seq ?_
    refine jk_region ?_
    refine zq_assign ?_
    refine jk_nil ?_
    exact jk_ret_any (res1 rfl rfl) (by (repeat (first | exact rs_nil | (refine rs_cons ?_ ?_; (focus ((repeat (first | exact .here | apply Mem.there | apply Take.there)); first | done | fail))) | exact fun ρ hρ => hρ | (intro ρ hρ; repeat (first | exact hρ | refine List.mem_cons_of_mem _ ?_)))); first | done | fail) selZ ⟨rfl, by rw [decide_eq_true hI]⟩
theorem spRow {ρ : PH} {p : Option Addr} {l : List (Int × Int)} (h : RowsE encS 2 ρ p l) {i : Nat} {x : Int × Int} (hx : l[i]? = some x) :
    ∃ b o, p = some ⟨b, o, none⟩ ∧ RdN ρ b (o + i * 2) [int x.1, int x.2] ∧ rdc ρ b (o + i * 2) = some (int x.1) ∧ rdc ρ b (o + i * 2 + 1) = some (int x.2) := by
  obtain ⟨b, o, e, hr⟩ := h i x hx
  exact ⟨b, o, e, hr, hr.get0, hr.get (j := 1) rfl⟩
theorem equalS_spec (ρ τ : PH) (v w : Value) (l m : List (Int × Int)) (hv : SpAt ρ v l) (hw : SpAt τ w m) (hl : l.length ≤ 9223372036854775807) :
    Ans Try.prog (fv 18) [v, w] [ρ, τ] (fun r => r = .bool (decide (l = m))) := by
  obtain ⟨q, c, rfl, hr⟩ := hv.val encS_len
  obtain ⟨q', c', rfl, hr'⟩ := hw.val encS_len
  refine spec_in (cap := []) Try.func18 rfl rfl Try.ntmps18 rfl (by (repeat (first | exact EnvA.nil EnvI.nil | apply EnvA.cons | apply EnvA.nil | exact EnvI.nil | apply EnvI.cons)); first | done | fail) (fun N β => ?_)
  by_cases hlen : l.length = m.length
  rotate_left
  · refine jk_seq ?_
    refine jk_region ?_
    refine zq_assign ?_
    refine jk_nil ?_
    refine jk_seq ?_
    refine jk_seq ?_
    refine jk_region ?_
    refine zq_move ?_
    refine zq_len ?_
    refine zq_move ?_
    refine zq_len ?_
    refine zq_ne ?_
    refine jk_nil ?_
    refine jk_if_t rfl ?_
    refine jk_seq ?_
    refine jk_region ?_
    refine zq_assign ?_
    refine jk_nil ?_
    exact jk_ret_any (res1 rfl rfl) (by (repeat (first | exact rs_nil | (refine rs_cons ?_ ?_; (focus ((repeat (first | exact .here | apply Mem.there | apply Take.there)); first | done | fail))) | exact fun ρ hρ => hρ | (intro ρ hρ; repeat (first | exact hρ | refine List.mem_cons_of_mem _ ?_)))); first | done | fail) selZ ⟨rfl, by rw [decide_eq_false (fun h => hlen (by rw [h]))]⟩
  refine jk_seq ?_
  refine jk_region ?_
  refine zq_assign ?_
  refine jk_nil ?_
  refine jk_seq ?_
  refine jk_seq ?_
  refine jk_region ?_
  refine zq_move ?_
  refine zq_len ?_
  refine zq_move ?_
  refine zq_len ?_
  refine zq_neF ?_
  refine jk_nil ?_
  refine jk_if_f rfl ?_
  refine jk_skip ?_
  refine jk_seq ?_
  refine jk_seq ?_
  refine jk_region ?_
  refine zq_move ?_
  refine zq_len ?_
  refine zq_move ?_
  refine jk_nil ?_
  refine jk_block ?_
  refine jk_loop [0, 1, 12] (0 : Nat) (fun k => k ≤ l.length ∧ l.take k = m.take k) (fun k => [(13, int k)]) (fun _ => []) (fun k => l.length - k) pickZ ⟨by omega, by simp⟩ covZ selZ ?_
  rintro k ⟨hk, hI⟩
  by_cases hlt : k < l.length
  · have hx := List.getElem?_eq_getElem hlt
    have hx' := List.getElem?_eq_getElem (show k < m.length by omega)
    obtain ⟨b1, o1, rfl, hRd1, _⟩ := spRow hr hx
    obtain ⟨b2, o2, rfl, hRd2, _⟩ := spRow hr' hx'
    refine jk_seq ?_
    refine jk_region ?_
    refine zq_lt ?_
    refine jk_nil ?_
    refine jk_seq ?_
    refine jk_if_t rfl ?_
    refine jk_skip ?_
    refine jk_seq ?_
    refine jk_block ?_
    refine jk_seq ?_
    refine jk_region ?_
    refine zq_move ?_
    refine zq_assign ?_
    refine jk_nil ?_
    refine jk_seq ?_
    refine jk_draw (.q 0 (.q 1 (.q 2 (.q 3 (.q 4 (.q 5 (.q 6 (.q 7 (.q 8 .nil))))))))) [] rfl (by kernel_rfl) Sel.nil ?_
    refine zd_move ?_
    refine zd_move ?_
    refine zd_idxN ?_
    refine zd_loadS ?_
    refine zd_move ?_
    refine zd_move ?_
    refine zd_idxN ?_
    refine zd_loadS ?_
    focus ((refine' dj_q rfl _ rfl rfl rfl rfl _; rotate_left; (apply q_neS [l[k].1, l[k].2] [m[k].1, m[k].2] (n := 2); exact rfl; exact rfl; kernel_rfl; kernel_rfl; kernel_rfl; exact rfl; exact rfl)))
    refine dj_end ?_
    by_cases he : l[k] = m[k]
    · rw [he]
      rw [show (!decide ([m[k].1, m[k].2] = [m[k].1, m[k].2])) = false by simp]
      skip
      refine jk_if_f rfl ?_
      refine jk_skip ?_
      refine jk_blk ?_
      refine jk_region ?_
      refine zq_inc ?_
      refine zq_move ?_
      refine jk_nil ?_
      refine jk_round (k + 1) ⟨by omega, ?_⟩ (by omega) covZ selZ
      rw [List.take_succ_eq_append_getElem hlt, List.take_succ_eq_append_getElem (show k < m.length by omega), hI, he]
    · have hne : ¬ ([l[k].1, l[k].2] = [m[k].1, m[k].2]) := fun h => he (by
        simp only [List.cons.injEq, and_true] at h
        exact Prod.ext h.1 h.2)
      rw [show (!decide ([l[k].1, l[k].2] = [m[k].1, m[k].2])) = true by simp only [decide_eq_false hne, Bool.not_false]]
      skip
      refine jk_if_t rfl ?_
      refine jk_seq ?_
      refine jk_region ?_
      refine zq_assign ?_
      refine jk_nil ?_
      exact jk_ret_any (res1 rfl rfl) (by (repeat (first | exact rs_nil | (refine rs_cons ?_ ?_; (focus ((repeat (first | exact .here | apply Mem.there | apply Take.there)); first | done | fail))) | exact fun ρ hρ => hρ | (intro ρ hρ; repeat (first | exact hρ | refine List.mem_cons_of_mem _ ?_)))); first | done | fail) selZ ⟨rfl, by rw [decide_eq_false (fun h => he (by subst h; rfl))]⟩
  · rw [List.take_of_length_le (by omega), List.take_of_length_le (by omega)] at hI
    refine jk_seq ?_
    refine jk_region ?_
    refine zq_ltF ?_
    refine jk_nil ?_
    refine jk_seq ?_
    refine jk_if_f rfl ?_
    refine jk_exit rfl ?_
    refine jk_seq ?_
    refine jk_region ?_
    refine zq_assign ?_
    refine jk_nil ?_
    exact jk_ret_any (res1 rfl rfl) (by (repeat (first | exact rs_nil | (refine rs_cons ?_ ?_; (focus ((repeat (first | exact .here | apply Mem.there | apply Take.there)); first | done | fail))) | exact fun ρ hρ => hρ | (intro ρ hρ; repeat (first | exact hρ | refine List.mem_cons_of_mem _ ?_)))); first | done | fail) selZ ⟨rfl, by rw [decide_eq_true hI]⟩
set_option maxHeartbeats 16000000 in
theorem refFree_spec (ρ τ σ : PH) (pq pc : Option Addr) (kq kc : Nat) (qs : List Int) (cs : List Ct) (v : Value) (l : List Hd) (n s : Int) (hq : IntsAt ρ (.slice pq qs.length kq) qs) (hc : CtAt τ (.slice pc cs.length kc) cs) (lq : qs.length ≤ 9223372036854775807) (lc : cs.length ≤ 9223372036854775807) (hv : HdAt σ v l) (hl : l.length ≤ 9223372036854775807) :
    Makes Try.prog (fv 14) [.agg #[.slice pq qs.length kq, .slice pc cs.length kc], v, int n, int s] [ρ, τ, σ] (fun r σ' => ∃ u, r = .tuple #[u, int (freeRes qs cs l n s).2] ∧ OwnS 43 2 u (freeRes qs cs l n s).1.length ((freeRes qs cs l n s).1.flatMap encS) σ') := by
  have hv2 := hv
  obtain ⟨q, c, rfl, hr⟩ := hv.val encH_len
  refine spec_in (cap := []) Try.func14 rfl rfl Try.ntmps14 rfl (by (repeat (first | exact EnvA.nil EnvI.nil | apply EnvA.cons | apply EnvA.nil | exact EnvI.nil | apply EnvI.cons)); first | done | fail) (fun N β => ?_)
  refine jk_seq ?_
  refine jk_region ?_
  refine jk_op (l_boxS rfl) rfl rfl rfl ?_
  rintro _ _ ⟨b4, rfl, rfl⟩
  refine jk_freeze (ρ := sng b4 _) takeZ ?_
  have c1 : RdN (sng b4 (.cells #[.slice pq qs.length kq, .slice pc cs.length kc] 25 (0, 0))) b4 0 [.slice pq qs.length kq, .slice pc cs.length kc] := fun j u hu => by rw [rdc_sng, Nat.zero_add]; simpa using hu
  have c10 : rdc (sng b4 (.cells #[.slice pq qs.length kq, .slice pc cs.length kc] 25 (0, 0))) b4 0 = some (.slice pq qs.length kq) := by rw [rdc_sng]; rfl
  refine zq_assign ?_
  refine zq_assign ?_
  refine jk_nil ?_
  refine jk_seq ?_
  refine jk_seq ?_
  refine jk_region ?_
  refine zq_loadS ?_
  refine zq_move ?_
  refine jk_call (refCheck28_spec ρ τ σ pq pc kq kc qs cs _ l hq hc lq lc hv2 hl) rfl rfl rdZ rfl rfl ?_
  rintro _ rfl
  by_cases h0 : chkH qs cs l = 0
  rotate_left
  · have hR : freeRes qs cs l n s = ([], 1) := by unfold freeRes; rw [if_pos h0]
    rw [hR]
    generalize chkH qs cs l = z at h0
    refine zq_ne ?_
    refine jk_nil ?_
    refine jk_if_t rfl ?_
    refine jk_seq ?_
    refine jk_region ?_
    refine zl_buildSlice ?_; rintro _ _ ⟨b, rfl, rfl⟩
    refine zq_assign ?_
    refine zq_assign ?_
    refine jk_nil ?_
    exact jk_ret_any (res2 rfl rfl rfl) (by (repeat (first | exact rs_nil | (refine rs_cons ?_ ?_; (focus ((repeat (first | exact .here | apply Mem.there | apply Take.there)); first | done | fail))) | exact fun ρ hρ => hρ | (intro ρ hρ; repeat (first | exact hρ | refine List.mem_cons_of_mem _ ?_)))); first | done | fail) selZ ⟨sng b _, ⟨_, rfl, OwnS.empty⟩, rfl⟩
  rw [h0]
  obtain ⟨hok, hlen, hql⟩ := chkH_ok h0
  by_cases hbad : n < 0 ∨ (qs.length : Int) ≤ n ∨ s < 1 ∨ 65536 < s
  · have hR : freeRes qs cs l n s = ([], 2) := by unfold freeRes; rw [if_neg (fun h => h h0), if_pos hbad]
    rw [hR]
    by_cases k1 : n < 0
    · refine zq_neF ?_
      refine jk_nil ?_
      refine jk_if_f rfl ?_
      refine jk_skip ?_
      refine jk_seq ?_
      refine jk_seq ?_
      refine jk_region ?_
      refine zq_move ?_
      refine zq_lt ?_
      refine zq_move ?_
      refine jk_pass rfl rfl rfl ?_
      refine jk_pass rfl rfl rfl ?_
      refine jk_pass rfl rfl rfl ?_
      refine jk_pass rfl rfl rfl ?_
      refine jk_pass rfl rfl rfl ?_
      refine zq_pick_t ?_
      refine zq_move ?_
      refine jk_pass rfl rfl rfl ?_
      refine jk_pass rfl rfl rfl ?_
      refine zq_pick_t ?_
      refine zq_move ?_
      refine jk_pass rfl rfl rfl ?_
      refine jk_pass rfl rfl rfl ?_
      refine zq_pick_t ?_
      refine jk_nil ?_
      refine jk_if_t rfl ?_
      refine jk_seq ?_
      refine jk_region ?_
      refine zl_buildSlice ?_; rintro _ _ ⟨b, rfl, rfl⟩
      refine zq_assign ?_
      refine zq_assign ?_
      refine jk_nil ?_
      exact jk_ret_any (res2 rfl rfl rfl) (by (repeat (first | exact rs_nil | (refine rs_cons ?_ ?_; (focus ((repeat (first | exact .here | apply Mem.there | apply Take.there)); first | done | fail))) | exact fun ρ hρ => hρ | (intro ρ hρ; repeat (first | exact hρ | refine List.mem_cons_of_mem _ ?_)))); first | done | fail) selZ ⟨sng b _, ⟨_, rfl, OwnS.empty⟩, rfl⟩
    by_cases k2 : (qs.length : Int) ≤ n
    · refine zq_neF ?_
      refine jk_nil ?_
      refine jk_if_f rfl ?_
      refine jk_skip ?_
      refine jk_seq ?_
      refine jk_seq ?_
      refine jk_region ?_
      refine zq_move ?_
      refine zq_ltF ?_
      refine zq_move ?_
      refine zq_move ?_
      refine zq_fld0 ?_
      refine zq_load ?_
      refine zq_len ?_
      refine zq_ge ?_
      refine zq_pick_f ?_
      refine zq_move ?_
      refine jk_pass rfl rfl rfl ?_
      refine jk_pass rfl rfl rfl ?_
      refine zq_pick_t ?_
      refine zq_move ?_
      refine jk_pass rfl rfl rfl ?_
      refine jk_pass rfl rfl rfl ?_
      refine zq_pick_t ?_
      refine jk_nil ?_
      refine jk_if_t rfl ?_
      refine jk_seq ?_
      refine jk_region ?_
      refine zl_buildSlice ?_; rintro _ _ ⟨b, rfl, rfl⟩
      refine zq_assign ?_
      refine zq_assign ?_
      refine jk_nil ?_
      exact jk_ret_any (res2 rfl rfl rfl) (by (repeat (first | exact rs_nil | (refine rs_cons ?_ ?_; (focus ((repeat (first | exact .here | apply Mem.there | apply Take.there)); first | done | fail))) | exact fun ρ hρ => hρ | (intro ρ hρ; repeat (first | exact hρ | refine List.mem_cons_of_mem _ ?_)))); first | done | fail) selZ ⟨sng b _, ⟨_, rfl, OwnS.empty⟩, rfl⟩
    by_cases k3 : s < 1
    · refine zq_neF ?_
      refine jk_nil ?_
      refine jk_if_f rfl ?_
      refine jk_skip ?_
      refine jk_seq ?_
      refine jk_seq ?_
      refine jk_region ?_
      refine zq_move ?_
      refine zq_ltF ?_
      refine zq_move ?_
      refine zq_move ?_
      refine zq_fld0 ?_
      refine zq_load ?_
      refine zq_len ?_
      refine zq_geF ?_
      refine zq_pick_f ?_
      refine zq_move ?_
      refine zq_move ?_
      refine zq_lt ?_
      refine zq_pick_f ?_
      refine zq_move ?_
      refine jk_pass rfl rfl rfl ?_
      refine jk_pass rfl rfl rfl ?_
      refine zq_pick_t ?_
      refine jk_nil ?_
      refine jk_if_t rfl ?_
      refine jk_seq ?_
      refine jk_region ?_
      refine zl_buildSlice ?_; rintro _ _ ⟨b, rfl, rfl⟩
      refine zq_assign ?_
      refine zq_assign ?_
      refine jk_nil ?_
      exact jk_ret_any (res2 rfl rfl rfl) (by (repeat (first | exact rs_nil | (refine rs_cons ?_ ?_; (focus ((repeat (first | exact .here | apply Mem.there | apply Take.there)); first | done | fail))) | exact fun ρ hρ => hρ | (intro ρ hρ; repeat (first | exact hρ | refine List.mem_cons_of_mem _ ?_)))); first | done | fail) selZ ⟨sng b _, ⟨_, rfl, OwnS.empty⟩, rfl⟩
    · refine zq_neF ?_
      refine jk_nil ?_
      refine jk_if_f rfl ?_
      refine jk_skip ?_
      refine jk_seq ?_
      refine jk_seq ?_
      refine jk_region ?_
      refine zq_move ?_
      refine zq_ltF ?_
      refine zq_move ?_
      refine zq_move ?_
      refine zq_fld0 ?_
      refine zq_load ?_
      refine zq_len ?_
      refine zq_geF ?_
      refine zq_pick_f ?_
      refine zq_move ?_
      refine zq_move ?_
      refine zq_ltF ?_
      refine zq_pick_f ?_
      refine zq_move ?_
      refine zq_move ?_
      refine zq_gt ?_
      refine zq_pick_f ?_
      refine jk_nil ?_
      refine jk_if_t rfl ?_
      refine jk_seq ?_
      refine jk_region ?_
      refine zl_buildSlice ?_; rintro _ _ ⟨b, rfl, rfl⟩
      refine zq_assign ?_
      refine zq_assign ?_
      refine jk_nil ?_
      exact jk_ret_any (res2 rfl rfl rfl) (by (repeat (first | exact rs_nil | (refine rs_cons ?_ ?_; (focus ((repeat (first | exact .here | apply Mem.there | apply Take.there)); first | done | fail))) | exact fun ρ hρ => hρ | (intro ρ hρ; repeat (first | exact hρ | refine List.mem_cons_of_mem _ ?_)))); first | done | fail) selZ ⟨sng b _, ⟨_, rfl, OwnS.empty⟩, rfl⟩
  have hR : freeRes qs cs l n s = (freeR (qs.getD n.toNat 0) s (lvH l n), 0) := by unfold freeRes; rw [if_neg (fun h => h h0), if_neg hbad, free_same (lvH_asc hok (by omega))]
  rw [hR]
  obtain ⟨nn, rfl⟩ := Int.eq_ofNat_of_zero_le (show 0 ≤ n by omega)
  have hQ := List.getElem?_eq_getElem (show nn < qs.length by omega)
  have hgd : qs.getD (nn : Int).toNat 0 = qs[nn] := by rw [Int.toNat_natCast, List.getD_eq_getElem?_getD, hQ]; rfl
  rw [hgd]
  have hQb := (chkPl_quo (chkH_pl h0)).2 nn _ hQ
  generalize qs[nn] = Q at hQ hQb
  refine zq_neF ?_
  refine jk_nil ?_
  refine jk_if_f rfl ?_
  refine jk_skip ?_
  refine jk_seq ?_
  refine jk_seq ?_
  refine jk_region ?_
  refine zq_move ?_
  refine zq_ltF ?_
  refine zq_move ?_
  refine zq_move ?_
  refine zq_fld0 ?_
  refine zq_load ?_
  refine zq_len ?_
  refine zq_geF ?_
  refine zq_pick_f ?_
  refine zq_move ?_
  refine zq_move ?_
  refine zq_ltF ?_
  refine zq_pick_f ?_
  refine zq_move ?_
  refine zq_move ?_
  refine zq_gtF ?_
  refine zq_pick_f ?_
  refine jk_nil ?_
  refine jk_if_f rfl ?_
  refine jk_skip ?_
  refine jk_seq ?_
  refine jk_region ?_
  refine zq_loadS ?_
  refine zq_move ?_
  refine zq_move ?_
  refine zq_move ?_
  refine jk_callM (freeOf_spec ρ σ pq pc kq cs.length kc qs _ l nn Q s hq hv2 hok (by omega) hQ hQb) rfl rfl rdZ rfl rfl ?_
  rintro uf σf hOf
  refine zq_assign ?_
  refine zq_assign ?_
  refine jk_nil ?_
  exact jk_ret_any (res2 rfl rfl rfl) (by (repeat (first | exact rs_nil | (refine rs_cons ?_ ?_; (focus ((repeat (first | exact .here | apply Mem.there | apply Take.there)); first | done | fail))) | exact fun ρ hρ => hρ | (intro ρ hρ; repeat (first | exact hρ | refine List.mem_cons_of_mem _ ?_)))); first | done | fail) selZ ⟨σf, ⟨uf, rfl, hOf⟩, rfl⟩
end Go.Proofs.Ytnbihndlbopmeaa
/- A slice's own end appended to its beginning; cells cleared. No conditions. -/
namespace Go.Eng
variable {C : Cx} {D : List Deferred} {R H : List PH} {L : Env} {K : List It}
variable {dst : Option Tmp} {ty : TypeId} {pos : String} {aft : Array Edge} {g : Option (Nat × Bool)}
/-- a cut with its room cut, too: in bounds -/
theorem q_cut3 {x y z u : Operand} {t e : TypeId} {a : Option Addr} {n c s i j m : Nat} {k k2 k3 : IntKind} (h : evalE L x = some (.slice a n c)) (hy : evalE L y = some (.int k (i : Int))) (hz : evalE L z = some (.int k2 (j : Int))) (hu : evalE L u = some (.int k3 (m : Int))) (ht : elemP C.P t = some e) (hs : szP C.P e = some s) (h1 : i ≤ j) (h2 : j ≤ m) (h3 : m ≤ c) :
    Quiet C R H L ⟨dst, .slice t x (some y) (some z) (some u), ty, pos, aft, g⟩ (.slice (cutP a m i s) (j - i) (m - i)) :=
  ⟨by intro c; simp, fun ac w hx _ => by
    have e1 := hx x (by simp [Op.operands]) _ h
    have e2 := hx y (by simp [Op.operands]) _ hy
    have e3 := hx z (by simp [Op.operands]) _ hz
    have e4 := hx u (by simp [Op.operands]) _ hu
    simp [execOp, e1, e2, e3, e4, Instr.sliceAt, run_underlying (und_elem ht), Instr.slice, Instr.sliceBounds, Instr.sliceBound, asIntOf, run_sizeOf hs, h1, h2, h3, cutP]⟩
theorem OwnS.cells_at {e : TypeId} {s n b cap : Nat} {xs : List Value} {ρ : PH} (h : OwnS e s (.slice (some ⟨b, 0, none⟩) n cap) n xs ρ) : ∃ cur, ρ = sng b (.cells cur e (0, 0)) ∧ n ≤ cap ∧ cap ≤ maxLen ∧ cur.size = cap * s ∧ cur.toList.take (n * s) = xs := by
  obtain ⟨_, ⟨h1, _⟩ | ⟨b', cap', cur, h1, rfl, h2, h3, h4, h5⟩⟩ := h
  · simp at h1
  · simp only [Value.slice.injEq, Option.some.injEq, Addr.mk.injEq, and_true, true_and] at h1
    obtain ⟨rfl, rfl⟩ := h1
    exact ⟨cur, rfl, h2, h3, h4, h5⟩
/-- a slice's end is appended to its beginning -/
theorem l_appendSelf {x y : Operand} {t e : TypeId} {s by_ : Nat} {z : Value} {b n cap i j : Nat} {xs : List Value} {ρ : PH} {H' : List PH}
    (hx : evalE L x = some (.slice (some ⟨b, 0, none⟩) i cap)) (hy : evalE L y = some (.slice (cutP (some ⟨b, 0, none⟩) cap j s) (n - j) (cap - j))) (ht : elemP C.P t = some e) (hs : szP C.P e = some s) (hz : zeroP C.P e = some z) (hb : bytesP C.P e = some by_)
    (hown : OwnS e s (.slice (some ⟨b, 0, none⟩) n cap) n xs ρ) (htk : Take ρ H H') (h1 : ∀ u ∈ xs, u.oneCell' = true) (hij : i ≤ j) (hjn : j ≤ n) :
    Loud C R H L ⟨dst, .call ⟨.builtin .append, #[x, y], #[t, t]⟩, ty, pos, aft, g⟩ (fun u H2 => u = .slice (some ⟨b, 0, none⟩) (i + (n - j)) cap ∧ ∃ ρ', OwnS e s (.slice (some ⟨b, 0, none⟩) (i + (n - j)) cap) (i + (n - j)) (xs.take (i * s) ++ xs.drop (j * s)) ρ' ∧ H2 = ρ' :: H') := by
  refine ⟨fun a w hxx hsat next Q hnx => ?_⟩
  have hxl : xs.length = n * s := hown.1
  obtain ⟨cur, rfl, hnc, hcm, hcs, htk2⟩ := hown.cells_at
  obtain ⟨ti, hi, rfl, hiz, rfl⟩ := info_of hs hz hb
  have htu := und_elem ht
  have e1 := hxx x (by simp [Op.operands, Call.operands]) _ hx
  have e2 := hxx y (by simp [Op.operands, Call.operands]) _ hy
  have hg : w.heap[b]? = some (.cells cur e (0, 0)) := hsat.own htk
  have his : i * ti.size ≤ j * ti.size := Nat.mul_le_mul_right _ hij
  have hjs : j * ti.size ≤ n * ti.size := Nat.mul_le_mul_right _ hjn
  have hns : n * ti.size ≤ cap * ti.size := Nat.mul_le_mul_right _ hnc
  have hex : ∀ (u : Value) (w' : World), (Builtin.append_ #[t, t] ty #[.slice (some ⟨b, 0, none⟩) i cap, .slice (cutP (some ⟨b, 0, none⟩) cap j ti.size) (n - j) (cap - j)]).run C.P w = .ok u w' →
      (execOp a.eval ⟨dst, .call ⟨.builtin .append, #[x, y], #[t, t]⟩, ty, pos, aft, g⟩).run C.P w = .ok (.value u) w' := by
    intro u w' hr
    simp [execOp, resolve, e1, e2, invoke, builtin, hr]
  have hti : cur.toList.take (i * ti.size) = xs.take (i * ti.size) := by rw [← htk2, List.take_take]; congr 1; omega
  rcases Nat.eq_zero_or_pos (n - j) with h0 | h0
  · have hjn' : j = n := by omega
    subst hjn'
    have hdr : xs.drop (j * ti.size) = [] := List.drop_of_length_le (by omega)
    rw [hdr, List.append_nil, h0, Nat.add_zero] at hnx
    have hf : (Builtin.firstCells ti.size 0 (.slice (cutP (some ⟨b, 0, none⟩) cap j ti.size) 0 (cap - j))).run C.P w = .ok #[] w := by
      cases hp : cutP (some ⟨b, 0, none⟩) cap j ti.size with
      | none => simp [Builtin.firstCells]
      | some ad => exact run_firstCells_some (P := C.P) w ti.size 0 ad 0 _ [] (by simp) (by simp)
    have hr : (Builtin.append_ #[t, t] ty #[.slice (some ⟨b, 0, none⟩) i cap, .slice (cutP (some ⟨b, 0, none⟩) cap j ti.size) (j - j) (cap - j)]).run C.P w = .ok (.slice (some ⟨b, 0, none⟩) i cap) w := by
      rw [h0]
      simp [Builtin.append_, run_underlying htu, sizeOf, typeInfo, hi, Builtin.lenOf, show i ≤ cap by omega, hf, storeCells]
    refine wpIn_value (by intro c; simp) (hex _ _ hr) (hnx _ _ _ ⟨rfl, _, ⟨by rw [List.length_take]; omega, .inr ⟨b, cap, cur, rfl, rfl, by omega, hcm, hcs, hti⟩⟩, rfl⟩ (hsat.take htk))
  · have hcut : cutP (some ⟨b, 0, none⟩) cap j ti.size = some ⟨b, j * ti.size, none⟩ := by
      unfold cutP
      rw [if_neg (by omega)]
      simp [addr_add]
    have hnl : (xs.drop (j * ti.size)).length = (n - j) * ti.size := by rw [List.length_drop, hxl, Nat.sub_mul]
    have hcell : ∀ q u, (xs.drop (j * ti.size))[q]? = some u → w.cell? ((⟨b, j * ti.size, none⟩ : Addr).add q) = some u := by
      intro q u hu
      rw [Addr.add_lit, cell_of_row w b _ cur e (0, 0) hg, ← Array.getElem?_toList]
      rw [List.getElem?_drop, ← htk2] at hu
      have hq : j * ti.size + q < n * ti.size := by
        have := (List.getElem?_eq_some_iff.1 hu).1
        simp at this; omega
      rwa [List.getElem?_take_of_lt hq] at hu
    have hroom : i + (n - j) ≤ cap := by omega
    have hle3 : (i + (n - j)) * ti.size ≤ cap * ti.size := Nat.mul_le_mul_right _ hroom
    have hfit : i * ti.size + (xs.drop (j * ti.size)).length ≤ cur.size := by rw [hnl, hcs, ← Nat.add_mul]; exact hle3
    have hr := run_append_room (P := C.P) w t ty e ti htu hi b i cap cur hg ⟨b, j * ti.size, none⟩ (n - j) (cap - j) (xs.drop (j * ti.size)) hnl hcell (fun u hu => h1 u (List.mem_of_mem_drop hu)) hroom hfit
    rw [← hcut] at hr
    refine wpIn_value (by intro c; simp) (hex _ _ hr) (hnx _ _ _ ⟨rfl, _, ⟨?_, .inr ⟨b, cap, _, rfl, rfl, hroom, hcm, ?_, ?_⟩⟩, rfl⟩ (hsat.turn htk ?_ (setRow_heap w b cur _ e _ hg) (fun k hk => setRow_other w b k _ hk)))
    · rw [List.length_append, hnl, List.length_take, hxl, Nat.add_mul]
      omega
    · simp only [List.size_toArray, List.length_append, List.length_take, List.length_drop, Array.length_toList]
      rw [List.length_drop] at hfit
      omega
    · have hlen : (cur.toList.take (i * ti.size) ++ xs.drop (j * ti.size)).length = (i + (n - j)) * ti.size := by
        rw [List.length_append, hnl, List.length_take, Array.length_toList, Nat.add_mul]; omega
      rw [← hlen, hti]
      exact List.take_left
    · simp
/-- cells behind an owned slice's end are cleared -/
theorem l_clearO {x : Operand} {t e : TypeId} {s by_ : Nat} {z : Value} {b n cap m c2 : Nat} {xs : List Value} {ρ : PH} {H' : List PH}
    (hx : evalE L x = some (.slice (cutP (some ⟨b, 0, none⟩) cap n s) m c2)) (ht : elemP C.P t = some e) (hs : szP C.P e = some s) (hz : zeroP C.P e = some z) (hb : bytesP C.P e = some by_) (hzs : z.cells.size = s) (hz1 : ∀ u ∈ z.cells.toList, u.oneCell' = true)
    (hown : OwnS e s (.slice (some ⟨b, 0, none⟩) n cap) n xs ρ) (htk : Take ρ H H') (hm : 0 < m) (hnm : n + m ≤ cap) :
    Loud C R H L ⟨dst, .call ⟨.builtin .clear, #[x], #[t]⟩, ty, pos, aft, g⟩ (fun u H2 => u = .tuple #[] ∧ ∃ ρ', OwnS e s (.slice (some ⟨b, 0, none⟩) n cap) n xs ρ' ∧ H2 = ρ' :: H') := by
  refine ⟨fun a w hxx hsat next Q hnx => ?_⟩
  have hxl : xs.length = n * s := hown.1
  obtain ⟨cur, rfl, hnc, hcm, hcs, htk2⟩ := hown.cells_at
  obtain ⟨ti, hi, rfl, hiz, rfl⟩ := info_of hs hz hb
  have htu := und_elem ht
  have e1 := hxx x (by simp [Op.operands, Call.operands]) _ hx
  have hg : w.heap[b]? = some (.cells cur e (0, 0)) := hsat.own htk
  have hcut : cutP (some ⟨b, 0, none⟩) cap n ti.size = some ⟨b, n * ti.size, none⟩ := by
    unfold cutP
    rw [if_neg (by omega)]
    simp [addr_add]
  have hle3 : (n + m) * ti.size ≤ cap * ti.size := Nat.mul_le_mul_right _ hnm
  have hzl : (Builtin.zeroCells z.cells m).toList.length = m * ti.size := by rw [Array.length_toList, size_zeroCells, hzs]
  have hone : ∀ v ∈ (Builtin.zeroCells z.cells m).toList, v.oneCell' = true := by
    intro v hv
    simp only [Builtin.zeroCells, Array.toList_map, List.mem_map] at hv
    obtain ⟨q, hq, rfl⟩ := hv
    have h0 : 0 < z.cells.size := by
      rcases Nat.eq_zero_or_pos z.cells.size with h | h
      · simp [h] at hq
      · exact h
    have hlt : q % z.cells.size < z.cells.size := Nat.mod_lt _ h0
    rw [getElem!_pos z.cells _ hlt]
    exact hz1 _ (by simp)
  have hst := run_storeCells_at C.P b (n * ti.size) e (Builtin.zeroCells z.cells m).toList 0 cur w hg (by rw [hzl, hcs, Nat.add_zero, ← Nat.add_mul]; exact hle3) hone
  have hm0 : m ≠ 0 := by omega
  have hr : (Builtin.clear_ #[t] ty #[.slice (some ⟨b, n * ti.size, none⟩) m c2]).run C.P w = .ok (.tuple #[]) (w.setRow b (cur.toList.take (n * ti.size + 0) ++ (Builtin.zeroCells z.cells m).toList ++ cur.toList.drop (n * ti.size + 0 + (Builtin.zeroCells z.cells m).toList.length)).toArray) := by
    obtain ⟨m', rfl⟩ : ∃ m', m = m' + 1 := ⟨m - 1, by omega⟩
    simp [Builtin.clear_, run_underlying htu, zeroValue, typeInfo, hi, hiz]
    simpa using congrArg (fun r => r.andThen fun _ w' => Result.ok (Value.tuple #[]) w') hst
  rw [hcut] at e1
  generalize hnew : (cur.toList.take (n * ti.size + 0) ++ (Builtin.zeroCells z.cells m).toList ++ cur.toList.drop (n * ti.size + 0 + (Builtin.zeroCells z.cells m).toList.length)).toArray = new at hr
  have hexec : (execOp a.eval ⟨dst, .call ⟨.builtin .clear, #[x], #[t]⟩, ty, pos, aft, g⟩).run C.P w = .ok (.value (.tuple #[])) (w.setRow b new) := by
    simp [execOp, resolve, e1, invoke, builtin, hr]
  refine wpIn_value (by intro c; simp) hexec (hnx _ _ _ ⟨rfl, _, ⟨hxl, .inr ⟨b, cap, new, rfl, rfl, hnc, hcm, ?_, ?_⟩⟩, rfl⟩ (hsat.turn htk ?_ (setRow_heap w b cur _ e _ hg) (fun k hk => setRow_other w b k _ hk)))
  · rw [← hnew]
    simp only [List.size_toArray, List.length_append, List.length_take, List.length_drop, Array.length_toList] at hzl ⊢
    rw [Nat.add_mul] at hle3
    omega
  · rw [← hnew]
    simp only
    rw [Nat.add_zero, htk2, List.append_assoc, ← hxl]
    exact List.take_left
  · simp
end Go.Eng
/- Copies into an owned block; zeros appended to a beginning of an owned block that has no room; slices.overlaps of two blocks. No conditions. -/
namespace Go.Eng
variable {C : Cx} {D : List Deferred} {R H : List PH} {L : Env} {K : List It}
variable {dst : Option Tmp} {ty : TypeId} {pos : String} {aft : Array Edge} {g : Option (Nat × Bool)}
/-- cells of a block are written over by a copy -/
theorem l_copyO {x y : Operand} {t t2 e : TypeId} {s b o dl dc sl sc b2 o2 : Nat} {cur : Array Value} {news : List Value} {H' : List PH}
    (hx : evalE L x = some (.slice (some ⟨b, o, none⟩) dl dc)) (hy : evalE L y = some (.slice (some ⟨b2, o2, none⟩) sl sc)) (ht : elemP C.P t = some e) (hs : szP C.P e = some s)
    (htk : Take (sng b (.cells cur e (0, 0))) H H') (hc : Cells C.N R H b2 o2 news) (hn : news.length = Nat.min sl dl * s) (h1 : ∀ u ∈ news, u.oneCell' = true) (hfit : o + news.length ≤ cur.size) :
    Loud C R H L ⟨dst, .call ⟨.builtin .copy, #[x, y], #[t, t2]⟩, ty, pos, aft, g⟩ (fun u H2 => u = .int .i64 ((Nat.min sl dl : Nat) : Int) ∧ H2 = sng b (.cells (cur.toList.take o ++ news ++ cur.toList.drop (o + news.length)).toArray e (0, 0)) :: H') := by
  refine ⟨fun a w hxx hsat next Q hnx => ?_⟩
  obtain ⟨ti, hi, rfl⟩ : ∃ i, C.P.info? e = some i ∧ i.size = s := by
    unfold szP at hs
    cases hi : C.P.info? e with
    | none => simp [hi] at hs
    | some i => simp only [hi, Option.some.injEq] at hs; exact ⟨i, rfl, hs⟩
  have htu := und_elem ht
  have e1 := hxx x (by simp [Op.operands, Call.operands]) _ hx
  have e2 := hxx y (by simp [Op.operands, Call.operands]) _ hy
  have hg : w.heap[b]? = some (.cells cur e (0, 0)) := hsat.own htk
  have hf : (Builtin.firstCells ti.size (Nat.min sl dl) (.slice (some ⟨b2, o2, none⟩) sl sc)).run C.P w = .ok news.toArray w := run_firstCells_some (P := C.P) w ti.size (Nat.min sl dl) ⟨b2, o2, none⟩ sl sc news hn (hc.cell hsat)
  have hst := run_storeCells_at C.P b o e news 0 cur w hg (by simpa using hfit) h1
  have hr : (Builtin.copy_ #[t, t2] ty #[.slice (some ⟨b, o, none⟩) dl dc, .slice (some ⟨b2, o2, none⟩) sl sc]).run C.P w = .ok (.int .i64 ((Nat.min sl dl : Nat) : Int)) (w.setRow b (cur.toList.take o ++ news ++ cur.toList.drop (o + news.length)).toArray) := by
    simp [Builtin.copy_, run_underlying htu, Builtin.lenOf, sizeOf, typeInfo, hi, hf, goInt]
    simpa using congrArg (fun r => r.andThen fun _ w' => Result.ok (Value.int .i64 ((Nat.min sl dl : Nat) : Int)) w') hst
  generalize hnew : (cur.toList.take o ++ news ++ cur.toList.drop (o + news.length)).toArray = new at hr hnx
  have hexec : (execOp a.eval ⟨dst, .call ⟨.builtin .copy, #[x, y], #[t, t2]⟩, ty, pos, aft, g⟩).run C.P w = .ok (.value (.int .i64 ((Nat.min sl dl : Nat) : Int))) (w.setRow b new) := by
    simp [execOp, resolve, e1, e2, invoke, builtin, hr]
  refine wpIn_value (by intro c; simp) hexec (hnx _ _ _ ⟨rfl, rfl⟩ (hsat.turn htk ?_ (setRow_heap w b cur _ e _ hg) (fun k hk => setRow_other w b k _ hk)))
  simp
/-- a beginning of a block, with zeros appended for which there is no room: a new block -/
theorem l_appendZG {x y : Operand} {t tx e : TypeId} {s by_ b i k cap : Nat} {z : Value} {olds : List Value} (hx : evalE L x = some (.slice (some ⟨b, 0, none⟩) i cap)) (hy : evalE L y = some (.int .i64 (k : Int))) (ht : elemP C.P t = some e) (htx : kindP C.P tx = some .i64) (hs : szP C.P e = some s) (hz : zeroP C.P e = some z) (hb : bytesP C.P e = some by_)
    (hzs : z.cells.size = s) (hs0 : 0 < s) (hk : 0 < k) (hc : Cells C.N R H b 0 olds) (hol : olds.length = i * s) (hno : cap < i + k) (hmax : i + k ≤ maxLen) (hby : (i + k) * by_ ≤ 140737488355328) :
    Loud C R H L ⟨dst, .call ⟨.builtin .append, #[x, y], #[t, tx]⟩, ty, pos, aft, g⟩ (fun u H2 => ∃ b' cap' cur, (u = .slice (some ⟨b', 0, none⟩) (i + k) cap' ∧ H2 = sng b' (.cells cur e (0, 0)) :: H) ∧ i + k ≤ cap' ∧ cap' ≤ maxLen ∧ cur.size = cap' * s ∧ cur.toList.take (i * s) = olds) := by
  refine ⟨fun a w hxx hsat next Q hnx => ?_⟩
  obtain ⟨ti, hi, rfl, hiz, rfl⟩ := info_of hs hz hb
  have htu := und_elem ht
  have e1 := hxx x (by simp [Op.operands, Call.operands]) _ hx
  have e2 := hxx y (by simp [Op.operands, Call.operands]) _ hy
  have hold : (Builtin.firstCells ti.size i (.slice (some ⟨b, 0, none⟩) i cap)).run C.P w.drew = .ok olds.toArray w.drew := run_firstCells_some (P := C.P) w.drew ti.size i ⟨b, 0, none⟩ i cap olds hol (hc.cell hsat.drew)
  have hkb : k * ti.bytes ≤ (i + k) * ti.bytes := Nat.mul_le_mul_right _ (by omega)
  have hr := Lib.run_append_grow_zeros (P := C.P) w t tx ty e ti z .i64 .i64 htu (und_kindI htx) hi hiz (some ⟨b, 0, none⟩) i cap olds hold k hk hs0 hno (by simp only [maxLen] at hmax; omega) (by omega) (growslice_fits (by omega) hby)
  have hge := grownCap_ge w (i + k) cap e
  have hcm : grownCap w (i + k) cap e ≤ maxLen := grownCap_le_maxLen w (i + k) cap e hmax
  have hsat2 := hsat.drew.alloc (.cells (olds.toArray ++ Builtin.zeroCells z.cells k ++ Builtin.zeroCells z.cells (grownCap w (i + k) cap e - (i + k))) e)
  refine wpIn_value (by intro c; simp) ?_ (hnx _ _ _ ⟨w.heap.size, _, _, ⟨rfl, rfl⟩, hge, hcm, ?_, ?_⟩ (by simpa using hsat2))
  · simp [execOp, resolve, e1, e2, invoke, builtin, hr]
  · simp only [Array.size_append, size_zeroCells, hzs, List.size_toArray, hol, ← Nat.add_mul]
    congr 1
    omega
  · rw [← hol]
    simp
/-- two slices in two blocks -/
theorem q_overlaps {f : FuncId} {fn : Func} {x y z : Operand} {tS tR e : TypeId} {ts : Array TypeId} {s b1 o1 l1 c1 b2 o2 l2 c2 : Nat} {cu1 cu2 : Array Value} {t1 t2 : TypeId} {ρ1 ρ2 : PH}
    (hf : C.P.funcs[f]? = some fn) (hname : (fn.name == "runtime.NumGoroutine") = false) (hb : fn.body.isNone = true) (hn : Extern.findNext fn = none) (he : Extern.find fn = some (Extern.SlicesOverlaps.overlaps #[tS, tS] #[tR]))
    (hz : evalE L z = some (.func (.func f) #[] #[])) (hx : evalE L x = some (.slice (some ⟨b1, o1, none⟩) l1 c1)) (hy : evalE L y = some (.slice (some ⟨b2, o2, none⟩) l2 c2)) (ht : elemP C.P tS = some e) (hs : szP C.P e = some s)
    (e1 : ρ1 = sng b1 (.cells cu1 t1 (0, 0))) (e2 : ρ2 = sng b2 (.cells cu2 t2 (0, 0))) (m1 : ρ1 ∈ R) (m2 : ρ2 ∈ H) (hk : cu2.size ≠ 0) :
    Quiet C R H L ⟨dst, .call ⟨.value z, #[x, y], ts⟩, ty, pos, aft, g⟩ (.bool false) :=
  ⟨by intro c; simp, fun a w hxx hsat => by
    have f1 := hxx x (by simp [Op.operands, Call.operands]) _ hx
    have f2 := hxx y (by simp [Op.operands, Call.operands]) _ hy
    have f3 := hxx z (by simp [Op.operands, Call.operands]) _ hz
    subst e1; subst e2
    have g1 : w.heap[b1]? = some (.cells cu1 t1 (0, 0)) := hsat.r _ m1 _ _ (sng_self _ _)
    have g2 : w.heap[b2]? = some (.cells cu2 t2 (0, 0)) := hsat.h _ m2 _ _ (sng_self _ _)
    have hne : b1 ≠ b2 := fun h => by
      subst h
      rcases hsat.rd _ m1 _ m2 b1 with h | h <;> simp [sng] at h
    have hov := Lib.run_overlaps_apart (P := C.P) w tS tR e (und_elem ht) s (run_sizeOf hs) ⟨b1, o1, none⟩ ⟨b2, o2, none⟩ l1 c1 l2 c2 hne t1 t2 cu1.size cu2.size (by simp [World.shape?, g1]) (by simp [World.shape?, g2]) hk (by simp [World.frozen?, g1]) (by simp [World.frozen?, g1])
    have hcall := run_callFunc_extern hf hname hb hn he #[.slice (some ⟨b1, o1, none⟩) l1 c1, .slice (some ⟨b2, o2, none⟩) l2 c2] w
    rw [hov] at hcall
    simp [execOp, resolve, f1, f2, f3, Deferred.ofValue, invoke, hcall]⟩
end Go.Eng
namespace Go.Eng
def insL {α : Type} (l : List α) (k : Nat) (h : α) : List α := l.take k ++ h :: l.drop k
theorem insL_len {α : Type} (l : List α) (k : Nat) (h : α) : (insL l k h).length = l.length + 1 := by
  unfold insL
  simp only [List.length_append, List.length_take, List.length_cons, List.length_drop]
  omega
theorem insL_end {α : Type} (l : List α) (h : α) : insL l l.length h = l ++ [h] := by simp [insL]
theorem cutP_at {b o c i s : Nat} (h : i < c) : cutP (some ⟨b, o, none⟩) c i s = some ⟨b, o + i * s, none⟩ := by
  unfold cutP
  rw [if_neg (by omega)]
  simp [addr_add]
theorem cutP_atE {b o c i s : Nat} (s' : Nat) (h : i < c) (hs : s = s') : cutP (some ⟨b, o, none⟩) c i s = some ⟨b, o + i * s', none⟩ := by subst hs; exact cutP_at h
theorem rdN_sng {b : Nat} {vs : List Value} {t : TypeId} {fr : Nat × Nat} : RdN (sng b (.cells vs.toArray t fr)) b 0 vs := fun j v hv => by
  rw [rdc_sng, Nat.zero_add]
  simpa using hv
theorem rdN_take {b : Nat} {cur : Array Value} {t : TypeId} {fr : Nat × Nat} {o : Nat} {vs : List Value} (h : ∀ j v, vs[j]? = some v → cur.toList[o + j]? = some v) : RdN (sng b (.cells cur t fr)) b o vs := fun j v hv => by
  rw [rdc_sng, ← Array.getElem?_toList]
  exact h j v hv
/-- the cells of an insertion where there is room: the end is moved up, then the new one is written -/
theorem ins_cells {α : Type} {enc : α → List Value} {s : Nat} (he : ∀ x, (enc x).length = s) (l : List α) (k : Nat) (h : α) (hk : k ≤ l.length) (c1 : List Value) (hc1 : c1.take (k * s) = (l.take k).flatMap enc) (rest : List Value) :
    ((c1.take (k * s) ++ enc h ++ (l.drop k).flatMap enc) ++ rest).take ((l.length + 1) * s) = (insL l k h).flatMap enc := by
  have hl : (c1.take (k * s) ++ enc h ++ (l.drop k).flatMap enc).length = (l.length + 1) * s := by
    rw [hc1, List.length_append, List.length_append, flat_len he, flat_len he, he, List.length_take, List.length_drop, Nat.min_eq_left hk]
    have : (l.length + 1) * s = (k + 1 + (l.length - k)) * s := by congr 1; omega
    rw [this, Nat.add_mul, Nat.add_mul]; omega
  rw [← hl, List.take_left, hc1]
  unfold insL
  rw [List.flatMap_append, List.flatMap_cons, List.append_assoc]
end Go.Eng
/- Kinds of numbers turned into one another; halves of sums; shifts. No conditions. -/
namespace Go.Eng
variable {C : Cx} {D : List Deferred} {R H : List PH} {L : Env} {K : List It}
section
variable {dst : Option Tmp} {ty : TypeId} {pos : String} {aft : Array Edge} {g : Option (Nat × Bool)}
theorem wrap_u64 {n : Int} (h : 0 ≤ n ∧ n ≤ 18446744073709551615) : IntKind.u64.wrap n = n := by
  have e : IntKind.u64.wrap n = n % 18446744073709551616 := by
    show (let m := n % (2 ^ IntKind.u64.bits : Int); if IntKind.u64.signed && m ≥ (2 ^ (IntKind.u64.bits - 1) : Int) then m - (2 ^ IntKind.u64.bits : Int) else m) = _
    rfl
  rw [e]; omega
/-- a number that is not negative, as a u64 -/
theorem q_toU {s d : TypeId} {x : Operand} {n : Nat} (h : evalE L x = some (.int .i64 (n : Int))) (hs : (C.P.underlying s).isSome = true) (hd : kindP C.P d = some .u64) (hn : n ≤ 18446744073709551615) :
    Quiet C R H L ⟨dst, .convert s d x, ty, pos, aft, g⟩ (.int .u64 (n : Int)) := q_conv h hs hd (wrap_u64 ⟨by omega, by omega⟩)
theorem q_toI {s d : TypeId} {x : Operand} {n : Nat} (h : evalE L x = some (.int .u64 (n : Int))) (hs : (C.P.underlying s).isSome = true) (hd : kindP C.P d = some .i64) (hn : n ≤ 9223372036854775807) :
    Quiet C R H L ⟨dst, .convert s d x, ty, pos, aft, g⟩ (.int .i64 (n : Int)) := q_conv h hs hd (wrap_in ⟨by omega, by omega⟩)
theorem q_shr {x y : Operand} {xT yT : TypeId} {k k2 : IntKind} {m : Int} {s : Nat} (h1 : evalE L x = some (.int k m)) (h2 : evalE L y = some (.int k2 (s : Int))) (hs : s ≤ k.bits) : Quiet C R H L ⟨dst, .binOp .shr xT x y yT, ty, pos, aft, g⟩ (.int k (m.fdiv (2 ^ s))) :=
  ⟨by intro c; simp, fun a w hx _ => by
    have e1 := hx x (by simp [Op.operands]) _ h1
    have e2 := hx y (by simp [Op.operands]) _ h2
    have h0 : ¬ ((s : Int) < 0) := by omega
    have hm : min s k.bits = s := by omega
    simp [execOp, e1, e2, eqGuard, binOp, Op.shift, h0, hm]⟩
theorem q_half64 {x y : Operand} {xT yT : TypeId} {k : IntKind} {n : Nat} (h1 : evalE L x = some (.int k (n : Int))) (h2 : evalE L y = some (.int k 1)) (hs : 1 ≤ k.bits) : Quiet C R H L ⟨dst, .binOp .shr xT x y yT, ty, pos, aft, g⟩ (.int k ((n / 2 : Nat) : Int)) := by
  have := q_shr (C := C) (R := R) (H := H) (dst := dst) (ty := ty) (pos := pos) (aft := aft) (g := g) (xT := xT) (yT := yT) (s := 1) h1 h2 hs
  have e : (n : Int).fdiv (2 ^ 1) = ((n / 2 : Nat) : Int) := by
    rw [Int.fdiv_eq_ediv_of_nonneg _ (by decide)]; omega
  rwa [e] at this
end
end Go.Eng
namespace Go.Eng
variable {C : Cx} {D : List Deferred} {R H : List PH} {L : Env} {K : List It}
section
variable {dst : Option Tmp} {ty : TypeId} {pos : String} {aft : Array Edge} {g : Option (Nat × Bool)}
/-- a call of a function without a body -/
theorem q_ext {x : Operand} {xs : Array Operand} {ts : Array TypeId} {f : FuncId} {fn : Func} {e : Array Value → Sem Value} {vs : List Value} {v : Value} (hf : evalE L x = some (fv f)) (ha : evalEs L xs.toList = some vs) (hfn : C.P.funcs[f]? = some fn) (hname : (fn.name == "runtime.NumGoroutine") = false)
    (hb : fn.body.isNone = true) (hn : Extern.findNext fn = none) (he : Extern.find fn = some e) (hr : ∀ w, (e vs.toArray).run C.P w = .ok v w) :
    Quiet C R H L ⟨dst, .call ⟨.value x, xs, ts⟩, ty, pos, aft, g⟩ v :=
  ⟨by intro c; simp, fun a w hx _ => by
    have hxv : a.eval x = fv f := hx x (by simp [Op.operands, Call.operands]) _ hf
    have hargs : xs.map a.eval = vs.toArray := by
      have := evalEs_map (a := a) ha (fun y hy => hx y (by simp [Op.operands, Call.operands]; right; simpa using hy))
      have h2 : (xs.map a.eval).toList = vs := by rw [Array.toList_map]; exact this
      rw [← h2]
    have hc := run_callFunc_extern hfn hname hb hn he vs.toArray w
    rw [hr w] at hc
    have hc' : (callFunc f vs.toArray).run C.P w = .ok (.value v) w := hc
    simp only [execOp, resolve, hargs, hxv]
    simp [Deferred.ofValue, invoke, hc']⟩
theorem q_addU {x y : Operand} {xT yT : TypeId} {m n : Nat} (h1 : evalE L x = some (.int .u64 (m : Int))) (h2 : evalE L y = some (.int .u64 (n : Int))) (hr : m + n ≤ 18446744073709551615) : Quiet C R H L ⟨dst, .binOp .add xT x y yT, ty, pos, aft, g⟩ (.int .u64 ((m + n : Nat) : Int)) := by
  have := q_arith (C := C) (R := R) (H := H) (dst := dst) (ty := ty) (pos := pos) (aft := aft) (g := g) (xT := xT) (yT := yT) (op := .add) (f := (· + ·)) (.inl ⟨rfl, rfl⟩) h1 h2
  rwa [show IntKind.u64.wrap ((m : Int) + (n : Int)) = ((m + n : Nat) : Int) from by rw [wrap_u64 ⟨by omega, by omega⟩]; omega] at this
theorem q_mulU {x y : Operand} {xT yT : TypeId} {m n : Nat} (h1 : evalE L x = some (.int .u64 (m : Int))) (h2 : evalE L y = some (.int .u64 (n : Int))) (hr : m * n ≤ 18446744073709551615) : Quiet C R H L ⟨dst, .binOp .mul xT x y yT, ty, pos, aft, g⟩ (.int .u64 ((m * n : Nat) : Int)) := by
  have := q_arith (C := C) (R := R) (H := H) (dst := dst) (ty := ty) (pos := pos) (aft := aft) (g := g) (xT := xT) (yT := yT) (op := .mul) (f := (· * ·)) (.inr (.inr ⟨rfl, rfl⟩)) h1 h2
  have e : ((m : Int) * (n : Int)) = ((m * n : Nat) : Int) := by simp
  rwa [show IntKind.u64.wrap ((m : Int) * (n : Int)) = ((m * n : Nat) : Int) from by rw [e]; exact wrap_u64 ⟨by omega, by omega⟩] at this
/-- the low half of a u64, its high half -/
theorem q_low32 {x y : Operand} {xT yT : TypeId} {m : Nat} (h1 : evalE L x = some (.int .u64 (m : Int))) (h2 : evalE L y = some (.int .u64 4294967295)) (hr : m ≤ 18446744073709551615) : Quiet C R H L ⟨dst, .binOp .and xT x y yT, ty, pos, aft, g⟩ (.int .u64 ((m % 4294967296 : Nat) : Int)) :=
  ⟨by intro c; simp, fun a w hx _ => by
    have e1 := hx x (by simp [Op.operands]) _ h1
    have e2 := hx y (by simp [Op.operands]) _ h2
    have hb : (BitVec.ofInt 64 (m : Int) &&& BitVec.ofInt 64 4294967295).toNat = m % 4294967296 := by
      rw [BitVec.toNat_and]
      have t1 : (BitVec.ofInt 64 (m : Int)).toNat = m := by
        rw [BitVec.toNat_ofInt]
        omega
      have t2 : (BitVec.ofInt 64 (4294967295 : Int)).toNat = 2 ^ 32 - 1 := by decide
      rw [t1, t2, Nat.and_two_pow_sub_one_eq_mod]
    have hw : IntKind.u64.wrap ((m % 4294967296 : Nat) : Int) = ((m % 4294967296 : Nat) : Int) := wrap_u64 ⟨by omega, by omega⟩
    have hb2 : (BitVec.ofInt IntKind.u64.bits (m : Int) &&& BitVec.ofInt IntKind.u64.bits 4294967295).toNat = m % 4294967296 := hb
    simp only [execOp, e1, e2, eqGuard]
    simp only [binOp, Op.intBits, hb2, hw]
    simp⟩
theorem q_high32 {x y : Operand} {xT yT : TypeId} {m : Nat} (h1 : evalE L x = some (.int .u64 (m : Int))) (h2 : evalE L y = some (.int .u64 32)) : Quiet C R H L ⟨dst, .binOp .shr xT x y yT, ty, pos, aft, g⟩ (.int .u64 ((m / 4294967296 : Nat) : Int)) := by
  have := q_shr (C := C) (R := R) (H := H) (dst := dst) (ty := ty) (pos := pos) (aft := aft) (g := g) (xT := xT) (yT := yT) (s := 32) h1 h2 (by decide)
  have e : (m : Int).fdiv (2 ^ 32) = ((m / 4294967296 : Nat) : Int) := by
    rw [Int.fdiv_eq_ediv_of_nonneg _ (by decide)]; omega
  rwa [e] at this
end
end Go.Eng
/- slices.Clone and slices.Insert of holds. -/
namespace Go.Proofs.Ytnbihndlbopmeaa
open Go.Eng Go.Step
set_option maxRecDepth 100000
set_option maxHeartbeats 4000000

theorem ones_H : ∀ (l : List Hd), ∀ u ∈ l.flatMap encH, u.oneCell' = true := fun l u hu => by
  obtain ⟨x, _, hx⟩ := List.mem_flatMap.1 hu
  simp only [encH, List.mem_cons, List.not_mem_nil, or_false] at hx
  rcases hx with rfl | rfl | rfl | rfl | rfl <;> rfl
theorem cloneH_spec (ρ : PH) (v : Value) (l : List Hd) (hv : SlE encH 5 ρ v l) (hl : l.length ≤ 1000000) :
    Makes Try.prog (fv 51) [v] [ρ] (fun r σ => OwnS 47 5 r l.length (l.flatMap encH) σ) := by
  have hv2 := hv
  obtain ⟨q, c, rfl, hr⟩ := hv.val encH_len
  refine spec_in (cap := []) Try.func51 rfl rfl Try.ntmps51 rfl (by (repeat (first | exact EnvA.nil EnvI.nil | apply EnvA.cons | apply EnvA.nil | exact EnvI.nil | apply EnvI.cons)); first | done | fail) (fun N β => ?_)
  cases q with
  | none =>
    have hnil : l = [] := by
      cases l with
      | nil => rfl
      | cons a l =>
        obtain ⟨b, o, e, _⟩ := hr 0 a rfl
        simp at e
    subst hnil
    refine jk_emp ?_
    refine jk_seq ?_
    refine jk_region ?_
    refine zq_assign ?_
    refine jk_nil ?_
    refine jk_seq ?_
    refine jk_seq ?_
    refine jk_region ?_
    refine zq_move ?_
    focus ((refine' jk_q _ rfl rfl rfl _; rotate_left; (apply q_nilSt; exact rfl; exact rfl; exact rfl)))
    refine jk_nil ?_
    refine jk_if_t rfl ?_
    refine jk_seq ?_
    refine jk_region ?_
    refine zq_assign ?_
    refine jk_nil ?_
    exact jk_ret_any (res1 rfl rfl) (by (repeat (first | exact rs_nil | (refine rs_cons ?_ ?_; (focus ((repeat (first | exact .here | apply Mem.there | apply Take.there)); first | done | fail))) | exact fun ρ hρ => hρ | (intro ρ hρ; repeat (first | exact hρ | refine List.mem_cons_of_mem _ ?_)))); first | done | fail) selZ ⟨emp, OwnS.nil _ _, rfl⟩
  | some ad =>
    refine jk_seq ?_
    refine jk_region ?_
    refine zq_assign ?_
    refine jk_nil ?_
    refine jk_seq ?_
    refine jk_seq ?_
    refine jk_region ?_
    refine zq_move ?_
    focus ((refine' jk_q _ rfl rfl rfl _; rotate_left; (apply q_nilSf; exact rfl; exact rfl; exact rfl)))
    refine jk_nil ?_
    refine jk_if_f rfl ?_
    refine jk_skip ?_
    refine jk_seq ?_
    refine jk_region ?_
    refine zl_buildSlice ?_; rintro _ _ ⟨b, rfl, rfl⟩
    refine zq_move ?_
    refine jk_op (l_appendE (by_ := 40) (s := 5) (σ := ρ) (news := l.flatMap encH) (m := l.length) rfl rfl rfl rfl rfl rfl rfl (OwnS.empty (b := b)) takeZ hv2 (fun b o h => cellsR h memZ) (ones_H l) (by simp only [maxLen]; omega) (by omega)) rfl rfl rfl ?_
    rintro r1 _ ⟨σ, hO, rfl⟩
    refine zq_assign ?_
    refine jk_nil ?_
    refine jk_ret_any (res1 rfl rfl) (by (repeat (first | exact rs_nil | (refine rs_cons ?_ ?_; (focus ((repeat (first | exact .here | apply Mem.there | apply Take.there)); first | done | fail))) | exact fun ρ hρ => hρ | (intro ρ hρ; repeat (first | exact hρ | refine List.mem_cons_of_mem _ ?_)))); first | done | fail) selZ ⟨σ, ?_, rfl⟩
    simpa using hO
set_option maxHeartbeats 16000000 in
theorem insertH_spec (σ : PH) (bv : Nat) (v : Value) (l : List Hd) (k : Nat) (h : Hd) (hO : OwnS 47 5 v l.length (l.flatMap encH) σ) (hk : k ≤ l.length) (hl : l.length ≤ 1000) :
    Eng.Spec Try.prog (fv 50) [v, int k, .slice (some ⟨bv, 0, none⟩) 1 1] [sng bv (.cells (encH h).toArray 47 (0, 0))] [σ] (fun r H' => ∃ σ', OwnS 47 5 r (insL l k h).length ((insL l k h).flatMap encH) σ' ∧ H' = [σ']) := by
  have hO1 := hO
  have hone : ∀ u ∈ encH h, u.oneCell' = true := by simpa using ones_H [h]
  have hrdv : RdN (sng bv (.cells (encH h).toArray 47 (0, 0))) bv 0 (encH h) := rdN_sng
  refine spec_in (cap := []) Try.func50 rfl rfl Try.ntmps50 rfl (by (repeat (first | exact EnvA.nil EnvI.nil | apply EnvA.cons | apply EnvA.nil | exact EnvI.nil | apply EnvI.cons)); first | done | fail) (fun N β => ?_)
  rcases hO.block with ⟨rfl, rfl, rfl⟩ | ⟨b, cap, cur, rfl, rfl, hcap, hcm, hcs, htk⟩
  · have hk0 : k = 0 := by simpa using hk
    subst hk0
    refine jk_seq ?_
    refine jk_region ?_
    refine zq_assign ?_
    refine jk_nil ?_
    refine jk_seq ?_
    refine jk_region ?_
    refine zq_move ?_
    refine zq_move ?_
    refine zq_cutLo ?_
    refine jk_nil ?_
    refine jk_seq ?_
    refine jk_region ?_
    refine zq_move ?_
    refine zq_len ?_
    refine zq_assign ?_
    refine jk_nil ?_
    refine jk_seq ?_
    refine jk_seq ?_
    refine jk_region ?_
    refine zq_move ?_
    refine zq_eqF ?_
    refine jk_nil ?_
    refine jk_if_f rfl ?_
    refine jk_skip ?_
    refine jk_seq ?_
    refine jk_region ?_
    refine zq_move ?_
    refine zq_len ?_
    refine zq_assign ?_
    refine jk_nil ?_
    refine jk_seq ?_
    refine jk_seq ?_
    refine jk_region ?_
    refine zq_move ?_
    refine zq_move ?_
    refine zq_eq ?_
    refine jk_nil ?_
    refine jk_if_t rfl ?_
    refine jk_seq ?_
    refine jk_region ?_
    refine zq_move ?_
    refine zq_move ?_
    refine jk_op (l_append (by_ := 40) (s := 5) (news := encH h) rfl rfl rfl rfl rfl rfl rfl hO1 takeZ (cells_of_mem (σ := sng bv (.cells (encH h).toArray 47 (0, 0))) (Mem.mem memZ) hrdv) rfl hone (by omega) (by simp only [maxLen, List.length_nil]; omega) (by simp only [List.length_nil]; omega)) rfl rfl rfl ?_
    rintro u _ ⟨σ', hO', rfl⟩
    refine zq_assign ?_
    refine jk_nil ?_
    exact jk_ret_any (res1 rfl rfl) (by (repeat (first | exact rs_nil | (refine rs_cons ?_ ?_; (focus ((repeat (first | exact .here | apply Mem.there | apply Take.there)); first | done | fail))) | exact fun ρ hρ => hρ | (intro ρ hρ; repeat (first | exact hρ | refine List.mem_cons_of_mem _ ?_)))); first | done | fail) selZ ⟨σ', by simpa [insL] using hO', rfl⟩
  · by_cases hkn : k = l.length
    · subst hkn
      refine jk_seq ?_
      refine jk_region ?_
      refine zq_assign ?_
      refine jk_nil ?_
      refine jk_seq ?_
      refine jk_region ?_
      refine zq_move ?_
      refine zq_move ?_
      refine zq_cutLo ?_
      refine jk_nil ?_
      refine jk_seq ?_
      refine jk_region ?_
      refine zq_move ?_
      refine zq_len ?_
      refine zq_assign ?_
      refine jk_nil ?_
      refine jk_seq ?_
      refine jk_seq ?_
      refine jk_region ?_
      refine zq_move ?_
      refine zq_eqF ?_
      refine jk_nil ?_
      refine jk_if_f rfl ?_
      refine jk_skip ?_
      refine jk_seq ?_
      refine jk_region ?_
      refine zq_move ?_
      refine zq_len ?_
      refine zq_assign ?_
      refine jk_nil ?_
      refine jk_seq ?_
      refine jk_seq ?_
      refine jk_region ?_
      refine zq_move ?_
      refine zq_move ?_
      refine zq_eq ?_
      refine jk_nil ?_
      refine jk_if_t rfl ?_
      refine jk_seq ?_
      refine jk_region ?_
      refine zq_move ?_
      refine zq_move ?_
      refine jk_op (l_append (by_ := 40) (s := 5) (news := encH h) rfl rfl rfl rfl rfl rfl rfl hO1 takeZ (cells_of_mem (σ := sng bv (.cells (encH h).toArray 47 (0, 0))) (Mem.mem memZ) hrdv) rfl hone (by omega) (by simp only [maxLen]; omega) (by omega)) rfl rfl rfl ?_
      rintro u _ ⟨σ', hO', rfl⟩
      refine zq_assign ?_
      refine jk_nil ?_
      refine jk_ret_any (res1 rfl rfl) (by (repeat (first | exact rs_nil | (refine rs_cons ?_ ?_; (focus ((repeat (first | exact .here | apply Mem.there | apply Take.there)); first | done | fail))) | exact fun ρ hρ => hρ | (intro ρ hρ; repeat (first | exact hρ | refine List.mem_cons_of_mem _ ?_)))); first | done | fail) selZ ⟨σ', ?_, rfl⟩
      rw [insL_end, List.length_append, List.flatMap_append]
      simpa using hO'
    · have hfl : (l.flatMap encH).length = l.length * 5 := flat_len encH_len l
      have htp : cur.toList.take (k * 5) = (l.take k).flatMap encH := by
        rw [flat_take encH_len, ← htk, List.take_take]
        congr 1
        omega
      have hdr : ∀ j u, ((l.drop k).flatMap encH)[j]? = some u → cur.toList[k * 5 + j]? = some u := fun j u hu => by
        rw [flat_cut encH_len l k hk, List.getElem?_drop, ← htk] at hu
        have hlt : k * 5 + j < l.length * 5 := by
          have := (List.getElem?_eq_some_iff.1 hu).1
          simp at this; omega
        rwa [List.getElem?_take_of_lt hlt] at hu
      have hol : ∀ u ∈ (l.drop k).flatMap encH, u.oneCell' = true := ones_H (l.drop k)
      have hdl : ((l.drop k).flatMap encH).length = (l.length - k) * 5 := by rw [flat_len encH_len, List.length_drop]
      by_cases hroom : l.length + 1 ≤ cap
      · refine jk_seq ?_
        refine jk_region ?_
        refine zq_assign ?_
        refine jk_nil ?_
        refine jk_seq ?_
        refine jk_region ?_
        refine zq_move ?_
        refine zq_move ?_
        refine zq_cutLo ?_
        refine jk_nil ?_
        refine jk_seq ?_
        refine jk_region ?_
        refine zq_move ?_
        refine zq_len ?_
        refine zq_assign ?_
        refine jk_nil ?_
        refine jk_seq ?_
        refine jk_seq ?_
        refine jk_region ?_
        refine zq_move ?_
        refine zq_eqF ?_
        refine jk_nil ?_
        refine jk_if_f rfl ?_
        refine jk_skip ?_
        refine jk_seq ?_
        refine jk_region ?_
        refine zq_move ?_
        refine zq_len ?_
        refine zq_assign ?_
        refine jk_nil ?_
        refine jk_seq ?_
        refine jk_seq ?_
        refine jk_region ?_
        refine zq_move ?_
        refine zq_move ?_
        refine zq_eqF ?_
        refine jk_nil ?_
        refine jk_if_f rfl ?_
        refine jk_skip ?_
        refine jk_seq ?_
        refine jk_seq ?_
        refine jk_region ?_
        refine zq_move ?_
        refine zq_move ?_
        refine zq_inc ?_
        refine zq_move ?_
        refine zq_cap ?_
        refine zq_gtF ?_
        refine jk_nil ?_
        refine jk_if_f rfl ?_
        refine jk_skip ?_
        refine jk_seq ?_
        refine jk_region ?_
        refine zq_move ?_
        refine zq_move ?_
        refine zq_move ?_
        refine zq_inc ?_
        refine zq_cutHi ?_
        refine zq_assign ?_
        refine jk_nil ?_
        refine jk_seq ?_
        refine jk_seq ?_
        refine jk_region ?_
        refine zq_move ?_
        refine zq_move ?_
        refine zq_move ?_
        refine zq_move ?_
        refine zq_inc ?_
        refine zq_cutLo ?_
        rw [cutP_zero]
        skip
        rw [cutP_atE 5 (show k + 1 < cap by omega)]
        rotate_left; exact rfl
        refine jk_q (q_overlaps (s := 5) (tS := 26) (tR := 4) (e := 47) (cu1 := (encH h).toArray) (t1 := 47) (cu2 := cur) (t2 := 47) Try.func70 (by kernel_rfl) rfl (by kernel_rfl) (by kernel_rfl) rfl rfl rfl rfl rfl rfl rfl (Mem.mem memZ) (Mem.mem memZ) (by rw [hcs]; omega)) rfl rfl rfl ?_
        refine zq_not ?_
        refine jk_nil ?_
        refine jk_if_t rfl ?_
        refine jk_seq ?_
        refine jk_draw (.q 0 (.q 1 (.q 2 (.q 3 (.q 4 (.q 5 (.q 6 (.q 7 (.l 8 .b .nil))))))))) [] rfl (by kernel_rfl) Sel.nil ?_
        refine zd_move ?_
        refine zd_move ?_
        refine zd_move ?_
        refine zd_inc ?_
        refine zd_cutLo ?_
        refine zd_move ?_
        refine zd_move ?_
        refine zd_cutLo ?_
        rw [cutP_atE 5 (show k + 1 < cap by omega), cutP_atE 5 (show k < cap by omega)]
        rotate_left; exact rfl; exact rfl
        refine dj_l (a_b rfl (l_copyO (s := 5) (news := (l.drop k).flatMap encH) rfl rfl rfl rfl takeZ (cells_of_memH (σ := sng b (.cells cur 47 (0, 0))) (Mem.mem memZ) (rdN_take (by simpa using hdr))) (by rw [hdl]; congr 1; simp only [Nat.min_def]; split <;> omega) hol (by rw [hdl, hcs]; omega)) rfl rfl rfl (fun _ _ _ w hw => hw.sel Sel.nil) ?_)
        rintro _ _ ⟨rfl, rfl⟩
        refine dj_end ?_
        refine jk_seq ?_
        refine jk_region ?_
        refine zq_move ?_
        refine zq_move ?_
        refine zq_cutLo ?_
        refine zq_move ?_
        rw [cutP_atE 5 (show k < cap by omega)]
        rotate_left; exact rfl
        have hsz1 : (cur.toList.take (0 + (k + 1) * 5) ++ (l.drop k).flatMap encH ++ cur.toList.drop (0 + (k + 1) * 5 + ((l.drop k).flatMap encH).length)).length = cap * 5 := by
          simp only [List.length_append, List.length_take, List.length_drop, Array.length_toList, hdl, hcs]
          omega
        have htk1 : (cur.toList.take (0 + (k + 1) * 5) ++ (l.drop k).flatMap encH ++ cur.toList.drop (0 + (k + 1) * 5 + ((l.drop k).flatMap encH).length)).take (k * 5) = (l.take k).flatMap encH := by
          rw [List.append_assoc, List.take_append_of_le_length (by rw [List.length_take, Array.length_toList, hcs]; omega), List.take_take, ← htp]
          congr 1
          omega
        have hdr1 : (cur.toList.take (0 + (k + 1) * 5) ++ (l.drop k).flatMap encH ++ cur.toList.drop (0 + (k + 1) * 5 + ((l.drop k).flatMap encH).length)).drop (k * 5 + 5) = (l.drop k).flatMap encH ++ cur.toList.drop (0 + (k + 1) * 5 + ((l.drop k).flatMap encH).length) := by
          have e : (cur.toList.take (0 + (k + 1) * 5)).length = k * 5 + 5 := by rw [List.length_take, Array.length_toList, hcs]; omega
          rw [List.append_assoc, ← e, List.drop_left]
        generalize hc1 : cur.toList.take (0 + (k + 1) * 5) ++ (l.drop k).flatMap encH ++ cur.toList.drop (0 + (k + 1) * 5 + ((l.drop k).flatMap encH).length) = c1 at hsz1 htk1 hdr1 ⊢
        refine jk_op (l_copyO (s := 5) (news := encH h) rfl rfl rfl rfl takeZ (cells_of_mem (σ := sng bv (.cells (encH h).toArray 47 (0, 0))) (Mem.mem memZ) hrdv) (by rw [encH_len]; simp only [Nat.min_def]; split <;> omega) hone (by rw [encH_len, List.size_toArray, hsz1]; omega)) rfl rfl rfl ?_
        rintro _ _ ⟨rfl, rfl⟩
        refine jk_nil ?_
        refine jk_seq ?_
        refine jk_region ?_
        refine zq_move ?_
        refine zq_assign ?_
        refine jk_nil ?_
        refine jk_ret_any (res1 rfl rfl) (by (repeat (first | exact rs_nil | (refine rs_cons ?_ ?_; (focus ((repeat (first | exact .here | apply Mem.there | apply Take.there)); first | done | fail))) | exact fun ρ hρ => hρ | (intro ρ hρ; repeat (first | exact hρ | refine List.mem_cons_of_mem _ ?_)))); first | done | fail) selZ ⟨_, ⟨flat_len encH_len _, .inr ⟨b, cap, _, by rw [insL_len], rfl, by rw [insL_len]; exact hroom, hcm, ?_, ?_⟩⟩, rfl⟩
        · simp only [List.size_toArray, List.length_append, List.length_take, List.length_drop, encH_len, hsz1]
          omega
        · rw [insL_len, encH_len]
          have := ins_cells encH_len l k h hk c1 htk1 (cur.toList.drop (0 + (k + 1) * 5 + ((l.drop k).flatMap encH).length))
          simp only [Nat.zero_add] at hdr1 this ⊢
          rw [hdr1, ← this]
          simp only [List.append_assoc]
      · refine jk_seq ?_
        refine jk_region ?_
        refine zq_assign ?_
        refine jk_nil ?_
        refine jk_seq ?_
        refine jk_region ?_
        refine zq_move ?_
        refine zq_move ?_
        refine zq_cutLo ?_
        refine jk_nil ?_
        refine jk_seq ?_
        refine jk_region ?_
        refine zq_move ?_
        refine zq_len ?_
        refine zq_assign ?_
        refine jk_nil ?_
        refine jk_seq ?_
        refine jk_seq ?_
        refine jk_region ?_
        refine zq_move ?_
        refine zq_eqF ?_
        refine jk_nil ?_
        refine jk_if_f rfl ?_
        refine jk_skip ?_
        refine jk_seq ?_
        refine jk_region ?_
        refine zq_move ?_
        refine zq_len ?_
        refine zq_assign ?_
        refine jk_nil ?_
        refine jk_seq ?_
        refine jk_seq ?_
        refine jk_region ?_
        refine zq_move ?_
        refine zq_move ?_
        refine zq_eqF ?_
        refine jk_nil ?_
        refine jk_if_f rfl ?_
        refine jk_skip ?_
        refine jk_seq ?_
        refine jk_seq ?_
        refine jk_region ?_
        refine zq_move ?_
        refine zq_move ?_
        refine zq_inc ?_
        refine zq_move ?_
        refine zq_cap ?_
        refine zq_gt ?_
        refine jk_nil ?_
        refine jk_if_t rfl ?_
        refine jk_seq ?_
        refine jk_region ?_
        refine zq_move ?_
        refine zq_move ?_
        refine zq_cutHi ?_
        refine zq_move ?_
        refine zq_move ?_
        refine zq_inc ?_
        refine zq_move ?_
        refine zq_sub ?_
        rw [cutP_zero, show ((l.length + 1 : Nat) : Int) - (k : Int) = ((l.length + 1 - k : Nat) : Int) from by omega]
        refine jk_op (l_appendZG (by_ := 40) (s := 5) (i := k) (k := l.length + 1 - k) (olds := (l.take k).flatMap encH) rfl rfl rfl rfl rfl rfl rfl rfl (by omega) (by omega) (cells_of_memH (σ := sng b (.cells cur 47 (0, 0))) (Mem.mem memZ) (rdN_take (fun j u hu => ?_))) (by rw [flat_len encH_len, List.length_take, Nat.min_eq_left hk]) (by omega) (by simp only [maxLen]; omega) (by omega)) rfl rfl rfl ?_
        · rw [← htp] at hu
          have hlt := (List.getElem?_eq_some_iff.1 hu).1
          rw [List.length_take] at hlt
          rw [List.getElem?_take_of_lt (by omega)] at hu
          rwa [Nat.zero_add]
        rintro _ _ ⟨b3, cap3, cu3, ⟨rfl, rfl⟩, hc3, hm3, hs3, ht3⟩
        refine zq_assign ?_
        refine jk_nil ?_
        refine jk_seq ?_
        refine jk_region ?_
        refine zq_move ?_
        refine zq_move ?_
        refine zq_cutLo ?_
        refine zq_move ?_
        rw [cutP_atE 5 (show k < cap3 by omega)]
        rotate_left; exact rfl
        refine jk_op (l_copyO (s := 5) (news := encH h) rfl rfl rfl rfl takeZ (cells_of_mem (σ := sng bv (.cells (encH h).toArray 47 (0, 0))) (Mem.mem memZ) hrdv) (by rw [encH_len]; simp only [Nat.min_def]; split <;> omega) hone (by rw [encH_len, hs3]; omega)) rfl rfl rfl ?_
        rintro _ _ ⟨rfl, rfl⟩
        have hsz1 : (cu3.toList.take (0 + k * 5) ++ encH h ++ cu3.toList.drop (0 + k * 5 + (encH h).length)).length = cap3 * 5 := by
          simp only [List.length_append, List.length_take, List.length_drop, Array.length_toList, encH_len, hs3]
          omega
        have htk1 : (cu3.toList.take (0 + k * 5) ++ encH h ++ cu3.toList.drop (0 + k * 5 + (encH h).length)).take ((k + 1) * 5) = (l.take k).flatMap encH ++ encH h := by
          have e : (cu3.toList.take (0 + k * 5) ++ encH h).length = (k + 1) * 5 := by rw [List.length_append, List.length_take, Array.length_toList, hs3, encH_len]; omega
          rw [← e, List.take_left, Nat.zero_add, ht3]
        generalize hc1 : cu3.toList.take (0 + k * 5) ++ encH h ++ cu3.toList.drop (0 + k * 5 + (encH h).length) = c1 at hsz1 htk1 ⊢
        refine jk_nil ?_
        refine jk_seq ?_
        refine jk_draw (.q 0 (.q 1 (.q 2 (.q 3 (.q 4 (.q 5 (.q 6 (.q 7 (.l 8 .b .nil))))))))) [] rfl (by kernel_rfl) Sel.nil ?_
        refine zd_move ?_
        refine zd_move ?_
        refine zd_move ?_
        refine zd_inc ?_
        refine zd_cutLo ?_
        refine zd_move ?_
        refine zd_move ?_
        refine zd_cutLo ?_
        by_cases hk1 : k + 1 < cap3
        rotate_left
        · exfalso; omega
        rw [cutP_atE 5 hk1, cutP_atE 5 (show k < cap by omega)]
        rotate_left; exact rfl; exact rfl
        refine dj_l (a_b rfl (l_copyO (s := 5) (news := (l.drop k).flatMap encH) rfl rfl rfl rfl takeZ (cells_of_memH (σ := sng b (.cells cur 47 (0, 0))) (Mem.mem memZ) (rdN_take (by simpa using hdr))) (by rw [hdl]; congr 1; simp only [Nat.min_def]; split <;> omega) hol (by rw [hdl, List.size_toArray, hsz1]; omega)) rfl rfl rfl (fun _ _ _ w hw => hw.sel Sel.nil) ?_)
        rintro _ _ ⟨rfl, rfl⟩
        refine dj_end ?_
        refine jk_seq ?_
        refine jk_region ?_
        refine zq_move ?_
        refine zq_assign ?_
        refine jk_nil ?_
        refine jk_ret_any (res1 rfl rfl) (by (repeat (first | exact rs_nil | (refine rs_cons ?_ ?_; (focus ((repeat (first | exact .here | apply Mem.there | apply Take.there)); first | done | fail))) | exact fun ρ hρ => hρ | (intro ρ hρ; repeat (first | exact hρ | refine List.mem_cons_of_mem _ ?_)))); first | done | fail) selZ ⟨_, ⟨flat_len encH_len _, .inr ⟨b3, cap3, _, by rw [insL_len]; congr 1; omega, rfl, by rw [insL_len]; omega, hm3, ?_, ?_⟩⟩, rfl⟩
        · simp only [List.size_toArray, List.length_append, List.length_take, List.length_drop, hdl, hsz1]
          omega
        · rw [insL_len]
          simp only [Nat.zero_add]
          rw [htk1]
          have e : ((l.take k).flatMap encH ++ encH h ++ (l.drop k).flatMap encH).length = (l.length + 1) * 5 := by
            rw [List.length_append, List.length_append, hdl, flat_len encH_len, encH_len, List.length_take, Nat.min_eq_left hk]; omega
          rw [← e, List.take_left]
          unfold insL
          rw [List.flatMap_append, List.flatMap_cons, List.append_assoc]
end Go.Proofs.Ytnbihndlbopmeaa
/- One more hold, holds released: plain. No conditions. -/
namespace Go.Step
open Go.Eng
/-- an element put behind all that are not greater -/
def insW {α : Type} (p : α → Bool) (l : List α) (h : α) : List α := l.takeWhile p ++ h :: l.dropWhile p
theorem insW_len {α : Type} (p : α → Bool) (l : List α) (h : α) : (insW p l h).length = l.length + 1 := by
  have := congrArg List.length (List.takeWhile_append_dropWhile (p := p) (l := l))
  unfold insW
  rw [List.length_append] at *
  rw [List.length_cons]; omega
theorem insW_mem {α : Type} (p : α → Bool) (l : List α) (h x : α) : x ∈ insW p l h ↔ x = h ∨ x ∈ l := by
  have e := List.takeWhile_append_dropWhile (p := p) (l := l)
  have : x ∈ l ↔ x ∈ l.takeWhile p ++ l.dropWhile p := by rw [e]
  unfold insW
  rw [this]
  simp only [List.mem_append, List.mem_cons]
  constructor
  · rintro (h | h | h)
    · exact .inr (.inl h)
    · exact .inl h
    · exact .inr (.inr h)
  · rintro (h | h | h)
    · exact .inr (.inl h)
    · exact .inl h
    · exact .inr (.inr h)
theorem insW_tail {α : Type} {cmp : α → α → Int} {h : α} (hanti : ∀ x, cmp x h = 0 → x = h) : ∀ (m : List α), (∀ x ∈ m, 0 ≤ cmp x h) → insW (fun x => decide (cmp x h ≤ 0)) m h = h :: m
  | [], _ => rfl
  | x :: m, hm => by
    have ih := insW_tail hanti m (fun y hy => hm y (by simp [hy]))
    have hx := hm x (by simp)
    unfold insW at ih ⊢
    by_cases c : cmp x h ≤ 0
    · have e := hanti x (by omega)
      subst e
      rw [List.takeWhile_cons_of_pos (by simpa using c), List.dropWhile_cons_of_pos (by simpa using c), List.cons_append, ih]
    · rw [List.takeWhile_cons_of_neg (by simpa using c), List.dropWhile_cons_of_neg (by simpa using c)]
      rfl
theorem insW_pre {α : Type} {p : α → Bool} {h : α} : ∀ (a b : List α), (∀ x ∈ a, p x = true) → insW p (a ++ b) h = a ++ insW p b h
  | [], b, _ => rfl
  | x :: a, b, hm => by
    have ih := insW_pre (h := h) a b (fun y hy => hm y (by simp [hy]))
    have hx := hm x (by simp)
    unfold insW at ih ⊢
    rw [List.cons_append, List.takeWhile_cons_of_pos hx, List.dropWhile_cons_of_pos hx, List.cons_append, ih, List.cons_append]
theorem insL_W {α : Type} {cmp : α → α → Int} {h : α} (hanti : ∀ x, cmp x h = 0 → x = h) (l : List α) (k : Nat) (h1 : ∀ x ∈ l.take k, cmp x h < 0) (h2 : ∀ x ∈ l.drop k, 0 ≤ cmp x h) : insL l k h = insW (fun x => decide (cmp x h ≤ 0)) l h := by
  have e : insW (fun x => decide (cmp x h ≤ 0)) (l.take k ++ l.drop k) h = l.take k ++ insW (fun x => decide (cmp x h ≤ 0)) (l.drop k) h := insW_pre _ _ (fun x hx => by have := h1 x hx; simpa using (by omega : cmp x h ≤ 0))
  rw [List.take_append_drop] at e
  rw [e, insW_tail hanti _ h2]
  rfl
/-- the order of holds -/
def leH (x y : Hd) : Prop := x.n < y.n ∨ (x.n = y.n ∧ (x.a < y.a ∨ (x.a = y.a ∧ (x.b < y.b ∨ (x.b = y.b ∧ (x.k < y.k ∨ (x.k = y.k ∧ x.s ≤ y.s)))))))
theorem cmpI_cases (a b : Int) : (a < b ∧ cmpI a b = -1) ∨ (a = b ∧ cmpI a b = 0) ∨ (b < a ∧ cmpI a b = 1) := by
  unfold cmpI
  by_cases h : a < b
  · exact .inl ⟨h, by rw [if_pos h]⟩
  · by_cases h2 : b < a
    · exact .inr (.inr ⟨h2, by rw [if_neg h, if_pos h2]⟩)
    · exact .inr (.inl ⟨by omega, by rw [if_neg h, if_neg h2]⟩)
theorem orI_cmp (a b : Int) (l : List Int) : (a < b ∧ orI (cmpI a b :: l) = -1) ∨ (a = b ∧ orI (cmpI a b :: l) = orI l) ∨ (b < a ∧ orI (cmpI a b :: l) = 1) := by
  have e : orI (cmpI a b :: l) = if cmpI a b ≠ 0 then cmpI a b else orI l := rfl
  rcases cmpI_cases a b with ⟨h1, h2⟩ | ⟨h1, h2⟩ | ⟨h1, h2⟩
  · exact .inl ⟨h1, by rw [e, h2]; rfl⟩
  · exact .inr (.inl ⟨h1, by rw [e, h2]; rfl⟩)
  · exact .inr (.inr ⟨h1, by rw [e, h2]; rfl⟩)
theorem cmpHd_le (x y : Hd) : cmpHd x y ≤ 0 ↔ leH x y := by
  unfold cmpHd leH
  rcases orI_cmp x.n y.n [cmpI x.a y.a, cmpI x.b y.b, cmpI x.k y.k, cmpI x.s y.s] with ⟨h1, e⟩ | ⟨h1, e⟩ | ⟨h1, e⟩
  · rw [e]; omega
  · rw [e]
    rcases orI_cmp x.a y.a [cmpI x.b y.b, cmpI x.k y.k, cmpI x.s y.s] with ⟨h2, e⟩ | ⟨h2, e⟩ | ⟨h2, e⟩
    · rw [e]; omega
    · rw [e]
      rcases orI_cmp x.b y.b [cmpI x.k y.k, cmpI x.s y.s] with ⟨h3, e⟩ | ⟨h3, e⟩ | ⟨h3, e⟩
      · rw [e]; omega
      · rw [e]
        rcases orI_cmp x.k y.k [cmpI x.s y.s] with ⟨h4, e⟩ | ⟨h4, e⟩ | ⟨h4, e⟩
        · rw [e]; omega
        · rw [e]
          rcases orI_cmp x.s y.s [] with ⟨h5, e⟩ | ⟨h5, e⟩ | ⟨h5, e⟩
          · rw [e]; omega
          · rw [e]; simp only [orI]; omega
          · rw [e]; omega
        · rw [e]; omega
      · rw [e]; omega
    · rw [e]; omega
  · rw [e]; omega
theorem cmpHd_trans {x y z : Hd} (h1 : cmpHd x y ≤ 0) (h2 : cmpHd y z ≤ 0) : cmpHd x z ≤ 0 := by
  rw [cmpHd_le] at *
  unfold leH at *
  omega
theorem cmpHd_anti {x y : Hd} (h : cmpHd x y = 0) : x = y := by
  have h1 := (cmpHd_le x y).1 (by omega)
  have h2 := (cmpHd_le y x).1 (by have := cmpHd_neg x y; omega)
  unfold leH at *
  obtain ⟨a, b, c, d, e⟩ := x
  obtain ⟨a', b', c', d', e'⟩ := y
  simp only [Hd.mk.injEq] at *
  omega
theorem cmpHd_refl (x : Hd) : cmpHd x x = 0 := by
  have h := cmpHd_neg x x
  omega
theorem cmpHd_lt_trans {x y z : Hd} (h1 : cmpHd x y ≤ 0) (h2 : cmpHd y z < 0) : cmpHd x z < 0 := by
  have h3 := cmpHd_trans h1 (by omega : cmpHd y z ≤ 0)
  by_cases c : cmpHd x z = 0
  · have := cmpHd_anti c
    subst this
    have := cmpHd_neg x y
    omega
  · omega
abbrev SortH (l : List Hd) : Prop := l.Pairwise (fun x y => cmpHd x y ≤ 0)
theorem sortH_of {nq : Nat} {l : List Hd} (h : firstE (hdE nq l) l.length = 0) : SortH l := by
  rw [SortH, List.pairwise_iff_getElem]
  have step : ∀ i (hi : i + 1 < l.length), cmpHd l[i] l[i + 1] ≤ 0 := fun i hi => by
    have h2 := firstE_zero h (i + 1) hi
    rw [hdE_at (List.getElem?_eq_getElem hi)] at h2
    have e : l.getD (i + 1 - 1) l[i + 1] = l[i] := by simp [List.getD_eq_getElem?_getD, List.getElem?_eq_getElem (by omega : i < l.length)]
    rw [e] at h2
    by_cases c : okHd nq l[i + 1]
    · rw [if_neg (by simpa using c)] at h2
      by_cases c2 : 0 < cmpHd l[i] l[i + 1]
      · rw [if_pos ⟨by omega, c2⟩] at h2; omega
      · omega
    · rw [if_pos c] at h2; omega
  intro i j hi hj hij
  induction j with
  | zero => omega
  | succ j ih =>
    by_cases c : i = j
    · subst c; exact step i hj
    · exact cmpHd_trans (ih (by omega) (by omega)) (step j hj)
theorem sortH_first {nq : Nat} {l : List Hd} (hok : ∀ x ∈ l, okHd nq x) (hs : SortH l) : firstE (hdE nq l) l.length = 0 := by
  refine firstE_all (fun k hk => ?_)
  rw [hdE_at (List.getElem?_eq_getElem hk), if_neg (by simpa using hok _ (List.getElem_mem hk))]
  refine if_neg (fun ⟨h0, h1⟩ => ?_)
  have e : l.getD (k - 1) l[k] = l[k - 1] := by simp [List.getD_eq_getElem?_getD, List.getElem?_eq_getElem (by omega : k - 1 < l.length)]
  rw [e] at h1
  have := List.pairwise_iff_getElem.1 hs (k - 1) k (by omega) hk (by omega)
  omega
def insH (l : List Hd) (h : Hd) : List Hd := insW (fun x => decide (cmpHd x h ≤ 0)) l h
theorem insH_sort {l : List Hd} (hs : SortH l) (h : Hd) : SortH (insH l h) := by
  have e := List.takeWhile_append_dropWhile (p := fun x => decide (cmpHd x h ≤ 0)) (l := l)
  unfold insH insW
  have hs2 : SortH (l.takeWhile (fun x => decide (cmpHd x h ≤ 0)) ++ l.dropWhile (fun x => decide (cmpHd x h ≤ 0))) := by rw [e]; exact hs
  obtain ⟨p1, p2, p3⟩ := List.pairwise_append.1 hs2
  have ht : ∀ x ∈ l.takeWhile (fun x => decide (cmpHd x h ≤ 0)), cmpHd x h ≤ 0 := fun x hx => by
    have := List.all_eq_true.1 (List.all_takeWhile (p := fun x => decide (cmpHd x h ≤ 0)) (l := l)) x hx
    simpa using this
  have hd : ∀ x ∈ l.dropWhile (fun x => decide (cmpHd x h ≤ 0)), cmpHd h x ≤ 0 := by
    generalize hm : l.dropWhile (fun x => decide (cmpHd x h ≤ 0)) = m at *
    cases m with
    | nil => simp
    | cons y m =>
      have hy : ¬ cmpHd y h ≤ 0 := by
        have := List.head?_dropWhile_not (fun x => decide (cmpHd x h ≤ 0)) l
        rw [hm] at this
        simpa using this
      have hy2 : cmpHd h y ≤ 0 := by have := cmpHd_neg h y; omega
      intro x hx
      rcases List.mem_cons.1 hx with rfl | hx
      · exact hy2
      · exact cmpHd_trans hy2 ((List.pairwise_cons.1 p2).1 x hx)
  refine List.pairwise_append.2 ⟨p1, List.pairwise_cons.2 ⟨hd, p2⟩, fun x hx y hy => ?_⟩
  rcases List.mem_cons.1 hy with rfl | hy
  · exact ht x hx
  · exact p3 x hx y hy
theorem stored_append (a b : List Hd) (n t : Int) : stored (a ++ b) n t = stored a n t + stored b n t := by
  induction a with
  | nil => simp [stored]
  | cons h a ih => simp only [List.cons_append, stored, ih]; omega
theorem stored_ins (l : List Hd) (h : Hd) (n t : Int) : stored (insH l h) n t = stored l n t + if h.n = n ∧ h.a ≤ t ∧ t < h.b then h.s else 0 := by
  have e := List.takeWhile_append_dropWhile (p := fun x => decide (cmpHd x h ≤ 0)) (l := l)
  have e2 : stored l n t = stored (l.takeWhile (fun x => decide (cmpHd x h ≤ 0))) n t + stored (l.dropWhile (fun x => decide (cmpHd x h ≤ 0))) n t := by rw [← stored_append, e]
  unfold insH insW
  rw [stored_append, e2]
  simp only [stored]
  omega
theorem stored_filter (p : Hd → Bool) (n t : Int) : ∀ (l : List Hd), (∀ h ∈ l, 0 ≤ h.s) → stored (l.filter p) n t ≤ stored l n t
  | [], _ => by simp
  | h :: l, H => by
    have ih := stored_filter p n t l (fun x hx => H x (by simp [hx]))
    have h0 := H h (by simp)
    rw [List.filter_cons]
    cases p h <;> simp only [stored, if_true, Bool.false_eq_true, if_false] <;> split <;> omega
theorem fitB_iff {qs : List Int} {l : List Hd} : fitB qs l = true ↔ ∀ h ∈ l, stored l h.n h.a ≤ qs.getD h.n.toNat 0 := by
  unfold fitB
  rw [List.all_eq_true]
  simp
/-- whether one more fits, by its node alone -/
theorem fit_ins {qs : List Int} {l : List Hd} {h : Hd} (hok : ∀ x ∈ l, okHd qs.length x) (hh : okHd qs.length h) (hf : fitB qs l = true) (hQ : 0 ≤ qs.getD h.n.toNat 0) : fitB qs (insH l h) = decide (mostL (lvH (insH l h) h.n) ≤ qs.getD h.n.toNat 0) := by
  have hok2 : ∀ x ∈ insH l h, okHd qs.length x := fun x hx => by
    rcases (insW_mem _ l h x).1 hx with rfl | hx
    · exact hh
    · exact hok x hx
  rw [fitB_iff] at hf
  by_cases c : mostL (lvH (insH l h) h.n) ≤ qs.getD h.n.toNat 0
  · rw [decide_eq_true c, fitB_iff]
    have c2 := (most_fits hok2 hQ).1 c
    intro x hx
    by_cases e : x.n = h.n
    · rw [e]; exact c2 x hx e
    · rcases (insW_mem _ l h x).1 hx with rfl | hx2
      · exact absurd rfl e
      · rw [stored_ins, if_neg (fun k => e k.1.symm), Int.add_zero]; exact hf x hx2
  · rw [decide_eq_false c]
    by_cases d : fitB qs (insH l h) = true
    · refine absurd ((most_fits hok2 hQ).2 (fun x hx e => ?_)) c
      have := fitB_iff.1 d x hx
      rw [e] at this; exact this
    · simpa using d
/-- one more hold -/
def addR (qs : List Int) (cs : List Ct) (l : List Hd) (h : Hd) : List Hd × Int :=
  if chkH qs cs l ≠ 0 then ([], 1) else if ¬ okHd qs.length h then ([], 2) else if l.length = 512 then ([], 4) else if fitB qs (insH l h) then (insH l h, 0) else ([], 15)
def relH (l : List Hd) (k : Int) : List Hd := l.filter (fun h => decide (h.k ≠ k))
end Go.Step
/- Holds compared, released, put in their place, of the program and of the reference. -/
namespace Go.Proofs.Ytnbihndlbopmeaa
open Go.Eng Go.Step
set_option maxRecDepth 100000
set_option maxHeartbeats 4000000

theorem same28_spec (ρ τ : PH) (v w : Value) (l m : List Hd) (hv : HdAt ρ v l) (hw : HdAt τ w m) (hl : l.length ≤ 9223372036854775807) :
    Ans Try.prog (fv 29) [v, w] [ρ, τ] (fun r => r = .bool (decide (l = m))) := by
  obtain ⟨q, c, rfl, hr⟩ := hv.val encH_len
  obtain ⟨q', c', rfl, hr'⟩ := hw.val encH_len
  refine spec_in (cap := []) Try.func29 rfl rfl Try.ntmps29 rfl (by (repeat (first | exact EnvA.nil EnvI.nil | apply EnvA.cons | apply EnvA.nil | exact EnvI.nil | apply EnvI.cons)); first | done | fail) (fun N β => ?_)
  by_cases hlen : l.length = m.length
  rotate_left
  · refine jk_seq ?_
    refine jk_region ?_
    refine zq_assign ?_
    refine jk_nil ?_
    refine jk_seq ?_
    refine jk_seq ?_
    refine jk_region ?_
    refine zq_move ?_
    refine zq_len ?_
    refine zq_move ?_
    refine zq_len ?_
    refine zq_ne ?_
    refine jk_nil ?_
    refine jk_if_t rfl ?_
    refine jk_seq ?_
    refine jk_region ?_
    refine zq_assign ?_
    refine jk_nil ?_
    exact jk_ret_any (res1 rfl rfl) (by (repeat (first | exact rs_nil | (refine rs_cons ?_ ?_; (focus ((repeat (first | exact .here | apply Mem.there | apply Take.there)); first | done | fail))) | exact fun ρ hρ => hρ | (intro ρ hρ; repeat (first | exact hρ | refine List.mem_cons_of_mem _ ?_)))); first | done | fail) selZ ⟨rfl, by rw [decide_eq_false (fun h => hlen (by rw [h]))]⟩
  refine jk_seq ?_
  refine jk_region ?_
  refine zq_assign ?_
  refine jk_nil ?_
  refine jk_seq ?_
  refine jk_seq ?_
  refine jk_region ?_
  refine zq_move ?_
  refine zq_len ?_
  refine zq_move ?_
  refine zq_len ?_
  refine zq_neF ?_
  refine jk_nil ?_
  refine jk_if_f rfl ?_
  refine jk_skip ?_
  refine jk_seq ?_
  refine jk_seq ?_
  refine jk_region ?_
  refine zq_assign ?_
  refine jk_nil ?_
  refine jk_block ?_
  refine jk_loop [0, 1] (0 : Nat) (fun k => k ≤ l.length ∧ l.take k = m.take k) (fun k => [(5, int k)]) (fun _ => []) (fun k => l.length - k) pickZ ⟨by omega, by simp⟩ covZ selZ ?_
  rintro k ⟨hk, hI⟩
  by_cases hlt : k < l.length
  · have hx := List.getElem?_eq_getElem hlt
    have hx' := List.getElem?_eq_getElem (show k < m.length by omega)
    obtain ⟨b1, o1, rfl, hRd1, _⟩ := hdRow5 hr hx
    obtain ⟨b2, o2, rfl, hRd2, _⟩ := hdRow5 hr' hx'
    refine jk_seq ?_
    refine jk_seq ?_
    refine jk_region ?_
    refine zq_move ?_
    refine zq_move ?_
    refine zq_len ?_
    refine zq_lt ?_
    refine jk_nil ?_
    refine jk_if_t rfl ?_
    refine jk_skip ?_
    refine jk_seq ?_
    refine jk_block ?_
    refine jk_seq ?_
    refine jk_draw (.q 0 (.q 1 (.q 2 (.q 3 (.q 4 (.q 5 (.q 6 (.q 7 (.q 8 .nil))))))))) [] rfl (by kernel_rfl) Sel.nil ?_
    refine zd_move ?_
    refine zd_move ?_
    refine zd_idxN ?_
    refine zd_loadS ?_
    refine zd_move ?_
    refine zd_move ?_
    refine zd_idxN ?_
    refine zd_loadS ?_
    focus ((refine' dj_q rfl _ rfl rfl rfl rfl _; rotate_left; (apply q_neS [l[k].n, l[k].a, l[k].b, l[k].s, l[k].k] [m[k].n, m[k].a, m[k].b, m[k].s, m[k].k] (n := 5); exact rfl; exact rfl; kernel_rfl; kernel_rfl; kernel_rfl; exact rfl; exact rfl)))
    refine dj_end ?_
    by_cases he : l[k] = m[k]
    · rw [he]
      rw [show (!decide ([m[k].n, m[k].a, m[k].b, m[k].s, m[k].k] = [m[k].n, m[k].a, m[k].b, m[k].s, m[k].k])) = false by simp]
      skip
      refine jk_if_f rfl ?_
      refine jk_skip ?_
      refine jk_blk ?_
      refine jk_region ?_
      refine zq_move ?_
      refine zq_inc ?_
      refine zq_assign ?_
      refine jk_nil ?_
      refine jk_round (k + 1) ⟨by omega, ?_⟩ (by omega) covZ selZ
      rw [List.take_succ_eq_append_getElem hlt, List.take_succ_eq_append_getElem (show k < m.length by omega), hI, he]
    · have hne : ¬ ([l[k].n, l[k].a, l[k].b, l[k].s, l[k].k] = [m[k].n, m[k].a, m[k].b, m[k].s, m[k].k]) := fun h => he (by
        simp only [List.cons.injEq, and_true] at h
        generalize l[k] = x at *
        generalize m[k] = y at *
        obtain ⟨x1, x2, x3, x4, x5⟩ := x
        obtain ⟨y1, y2, y3, y4, y5⟩ := y
        simp only at h
        rw [h.1, h.2.1, h.2.2.1, h.2.2.2.1, h.2.2.2.2])
      rw [show (!decide ([l[k].n, l[k].a, l[k].b, l[k].s, l[k].k] = [m[k].n, m[k].a, m[k].b, m[k].s, m[k].k])) = true by simp only [decide_eq_false hne, Bool.not_false]]
      skip
      refine jk_if_t rfl ?_
      refine jk_seq ?_
      refine jk_region ?_
      refine zq_assign ?_
      refine jk_nil ?_
      exact jk_ret_any (res1 rfl rfl) (by (repeat (first | exact rs_nil | (refine rs_cons ?_ ?_; (focus ((repeat (first | exact .here | apply Mem.there | apply Take.there)); first | done | fail))) | exact fun ρ hρ => hρ | (intro ρ hρ; repeat (first | exact hρ | refine List.mem_cons_of_mem _ ?_)))); first | done | fail) selZ ⟨rfl, by rw [decide_eq_false (fun h => he (by subst h; rfl))]⟩
  · rw [List.take_of_length_le (by omega), List.take_of_length_le (by omega)] at hI
    refine jk_seq ?_
    refine jk_seq ?_
    refine jk_region ?_
    refine zq_move ?_
    refine zq_move ?_
    refine zq_len ?_
    refine zq_ltF ?_
    refine jk_nil ?_
    refine jk_if_f rfl ?_
    refine jk_exit rfl ?_
    refine jk_seq ?_
    refine jk_region ?_
    refine zq_assign ?_
    refine jk_nil ?_
    exact jk_ret_any (res1 rfl rfl) (by (repeat (first | exact rs_nil | (refine rs_cons ?_ ?_; (focus ((repeat (first | exact .here | apply Mem.there | apply Take.there)); first | done | fail))) | exact fun ρ hρ => hρ | (intro ρ hρ; repeat (first | exact hρ | refine List.mem_cons_of_mem _ ?_)))); first | done | fail) selZ ⟨rfl, by rw [decide_eq_true hI]⟩
theorem relH_next (t : Int) {l : List Hd} {k : Nat} {x : Hd} (h : l[k]? = some x) : relH (l.take (k + 1)) t = relH (l.take k) t ++ (if x.k ≠ t then [x] else []) := by
  obtain ⟨hk, rfl⟩ := List.getElem?_eq_some_iff.1 h
  unfold relH
  rw [List.take_succ_eq_append_getElem hk, List.filter_append]
  congr 1
  by_cases c : l[k].k = t
  · simp [c]
  · simp [c]
theorem relH_len (l : List Hd) (t : Int) : (relH l t).length ≤ l.length := List.length_filter_le _ _
set_option maxHeartbeats 8000000 in
theorem release_spec (ρ : PH) (v : Value) (l : List Hd) (t : Int) (hv : HdAt ρ v l) (hl : l.length ≤ 1000) :
    Makes Try.prog (fv 32) [v, int t] [ρ] (fun r σ => OwnS 47 5 r (relH l t).length ((relH l t).flatMap encH) σ) := by
  obtain ⟨q, c, rfl, hr⟩ := hv.val encH_len
  refine spec_in (cap := []) Try.func32 rfl rfl Try.ntmps32 rfl (by (repeat (first | exact EnvA.nil EnvI.nil | apply EnvA.cons | apply EnvA.nil | exact EnvI.nil | apply EnvI.cons)); first | done | fail) (fun N β => ?_)
  refine jk_emp ?_
  refine jk_seq ?_
  refine jk_region ?_
  refine zq_assign ?_
  refine jk_nil ?_
  refine jk_seq ?_
  refine jk_region ?_
  refine zq_assign ?_
  refine jk_nil ?_
  refine jk_seq ?_
  refine jk_seq ?_
  refine jk_region ?_
  refine zq_move ?_
  refine zq_len ?_
  refine zq_move ?_
  refine jk_nil ?_
  refine jk_block ?_
  refine jk_loop [1, 8, 9] (X := Nat × (Value × PH)) (0, (.slice none 0 0, emp)) (fun x => x.1 ≤ l.length ∧ OwnS 47 5 x.2.1 (relH (l.take x.1) t).length ((relH (l.take x.1) t).flatMap encH) x.2.2) (fun x => [(10, int x.1), (5, x.2.1)]) (fun x => [x.2.2]) (fun x => l.length - x.1) pickZ ⟨by dsimp only; omega, OwnS.nil _ _⟩ covZ selZ ?_
  rintro ⟨k, u, σ⟩ ⟨hk, hO⟩
  dsimp only at hk hO ⊢
  by_cases hlt : k < l.length
  · have hx := List.getElem?_eq_getElem hlt
    have hn := relH_next t hx
    have hrl := relH_len (l.take k) t
    rw [List.length_take, Nat.min_eq_left hk] at hrl
    obtain ⟨b1, o1, rfl, hRd1, g0, g1, g2, g3, g4⟩ := hdRow5 hr hx
    generalize l[k] = x at hRd1 g0 g1 g2 g3 g4 hn
    by_cases hc : x.k = t
    · rw [if_neg (by omega), List.append_nil] at hn
      refine jk_seq ?_
      refine jk_region ?_
      refine zq_lt ?_
      refine jk_nil ?_
      refine jk_seq ?_
      refine jk_if_t rfl ?_
      refine jk_skip ?_
      refine jk_seq ?_
      refine jk_block ?_
      refine jk_seq ?_
      refine jk_region ?_
      refine zq_idxN ?_
      refine zq_loadS ?_
      refine zl_allocS ?_; rintro _ _ ⟨b, rfl, rfl⟩
      refine zs_storeS ?_; rintro _ _ ⟨rfl, rfl⟩
      refine jk_nil ?_
      refine jk_seq ?_
      refine jk_region ?_
      refine zq_fld0 ?_
      refine zq_load ?_
      refine zq_move ?_
      refine zq_neF ?_
      refine jk_nil ?_
      refine jk_if_f rfl ?_
      refine jk_skip ?_
      refine jk_blk ?_
      refine jk_region ?_
      refine zq_inc ?_
      refine zq_move ?_
      refine jk_nil ?_
      exact jk_round (k + 1, (u, σ)) ⟨by dsimp only; omega, by dsimp only; rw [hn]; exact hO⟩ (by dsimp only; omega) covZ selZ
    · rw [if_pos hc] at hn
      refine jk_seq ?_
      refine jk_region ?_
      refine zq_lt ?_
      refine jk_nil ?_
      refine jk_seq ?_
      refine jk_if_t rfl ?_
      refine jk_skip ?_
      refine jk_seq ?_
      refine jk_block ?_
      refine jk_seq ?_
      refine jk_region ?_
      refine zq_idxN ?_
      refine zq_loadS ?_
      refine zl_allocS ?_; rintro _ _ ⟨b, rfl, rfl⟩
      refine zs_storeS ?_; rintro _ _ ⟨rfl, rfl⟩
      refine jk_nil ?_
      refine jk_seq ?_
      refine jk_region ?_
      refine zq_fld0 ?_
      refine zq_load ?_
      refine zq_move ?_
      refine zq_ne ?_
      refine jk_nil ?_
      refine jk_if_t rfl ?_
      refine jk_region ?_
      refine zq_move ?_
      refine zq_loadS ?_
      refine zl_buildSlice ?_; rintro _ _ ⟨b, rfl, rfl⟩
      refine jk_op (l_append (by_ := 40) (s := 5) (news := [int x.n, int x.a, int x.b, int x.s, int x.k]) rfl rfl rfl rfl rfl rfl rfl hO takeZ (cells_own memZ) rfl (by (repeat (first | exact (fun v hv => absurd hv List.not_mem_nil) | (refine List.forall_mem_cons.2 ⟨?_, ?_⟩; (focus (first | exact rfl | assumption))))); first | done | fail) (by omega) (by simp only [maxLen]; omega) (by omega)) rfl rfl rfl ?_
      rintro u1 _ ⟨σ1, hO1, rfl⟩
      refine zq_assign ?_
      refine jk_nil ?_
      refine jk_blk ?_
      refine jk_region ?_
      refine zq_inc ?_
      refine zq_move ?_
      refine jk_nil ?_
      refine jk_round (k + 1, (u1, σ1)) ⟨by dsimp only; omega, ?_⟩ (by dsimp only; omega) covZ selZ
      dsimp only
      rw [hn, List.length_append, List.flatMap_append]
      exact hO1
  · have hke : k = l.length := by omega
    subst hke
    rw [List.take_length] at hO
    refine jk_seq ?_
    refine jk_region ?_
    refine zq_ltF ?_
    refine jk_nil ?_
    refine jk_seq ?_
    refine jk_if_f rfl ?_
    refine jk_exit rfl ?_
    refine jk_seq ?_
    refine jk_region ?_
    refine zq_move ?_
    refine zq_assign ?_
    refine jk_nil ?_
    exact jk_ret_any (res1 rfl rfl) (by (repeat (first | exact rs_nil | (refine rs_cons ?_ ?_; (focus ((repeat (first | exact .here | apply Mem.there | apply Take.there)); first | done | fail))) | exact fun ρ hρ => hρ | (intro ρ hρ; repeat (first | exact hρ | refine List.mem_cons_of_mem _ ?_)))); first | done | fail) selZ ⟨σ, hO, rfl⟩
set_option maxHeartbeats 8000000 in
theorem refRelease_spec (ρ : PH) (v : Value) (l : List Hd) (t : Int) (hv : HdAt ρ v l) (hl : l.length ≤ 1000) :
    Makes Try.prog (fv 33) [v, int t] [ρ] (fun r σ => OwnS 47 5 r (relH l t).length ((relH l t).flatMap encH) σ) := by
  obtain ⟨q, c, rfl, hr⟩ := hv.val encH_len
  refine spec_in (cap := []) Try.func33 rfl rfl Try.ntmps33 rfl (by (repeat (first | exact EnvA.nil EnvI.nil | apply EnvA.cons | apply EnvA.nil | exact EnvI.nil | apply EnvI.cons)); first | done | fail) (fun N β => ?_)
  refine jk_seq ?_
  refine jk_region ?_
  refine zq_assign ?_
  refine jk_nil ?_
  refine jk_seq ?_
  refine jk_region ?_
  refine zl_buildSlice ?_; rintro _ _ ⟨b, rfl, rfl⟩
  refine zq_assign ?_
  refine jk_nil ?_
  refine jk_seq ?_
  refine jk_seq ?_
  refine jk_region ?_
  refine zq_assign ?_
  refine jk_nil ?_
  refine jk_block ?_
  revert b; intro bo
  refine jk_loop [0, 1] (X := Nat × (Value × PH)) (0, (.slice (some ⟨bo, 0, none⟩) 0 0, sng bo (.cells #[] 47 (0, 0)))) (fun x => x.1 ≤ l.length ∧ OwnS 47 5 x.2.1 (relH (l.take x.1) t).length ((relH (l.take x.1) t).flatMap encH) x.2.2) (fun x => [(6, int x.1), (5, x.2.1)]) (fun x => [x.2.2]) (fun x => l.length - x.1) pickZ ⟨by dsimp only; omega, OwnS.empty⟩ covZ selZ ?_
  rintro ⟨k, u, σ⟩ ⟨hk, hO⟩
  dsimp only at hk hO ⊢
  by_cases hlt : k < l.length
  · have hx := List.getElem?_eq_getElem hlt
    have hn := relH_next t hx
    have hrl := relH_len (l.take k) t
    rw [List.length_take, Nat.min_eq_left hk] at hrl
    obtain ⟨b1, o1, rfl, hRd1, g0, g1, g2, g3, g4⟩ := hdRow5 hr hx
    generalize l[k] = x at hRd1 g0 g1 g2 g3 g4 hn
    by_cases hc : x.k = t
    · rw [if_neg (by omega), List.append_nil] at hn
      refine jk_seq ?_
      refine jk_seq ?_
      refine jk_region ?_
      refine zq_move ?_
      refine zq_move ?_
      refine zq_len ?_
      refine zq_lt ?_
      refine jk_nil ?_
      refine jk_if_t rfl ?_
      refine jk_skip ?_
      refine jk_seq ?_
      refine jk_block ?_
      refine jk_seq ?_
      refine jk_region ?_
      refine zq_move ?_
      refine zq_move ?_
      refine zq_idxN ?_
      refine zq_fld ?_
      refine zq_load ?_
      refine zq_move ?_
      refine zq_neF ?_
      refine jk_nil ?_
      refine jk_if_f rfl ?_
      refine jk_skip ?_
      refine jk_blk ?_
      refine jk_region ?_
      refine zq_move ?_
      refine zq_inc ?_
      refine zq_assign ?_
      refine jk_nil ?_
      exact jk_round (k + 1, (u, σ)) ⟨by dsimp only; omega, by dsimp only; rw [hn]; exact hO⟩ (by dsimp only; omega) covZ selZ
    · rw [if_pos hc] at hn
      refine jk_seq ?_
      refine jk_seq ?_
      refine jk_region ?_
      refine zq_move ?_
      refine zq_move ?_
      refine zq_len ?_
      refine zq_lt ?_
      refine jk_nil ?_
      refine jk_if_t rfl ?_
      refine jk_skip ?_
      refine jk_seq ?_
      refine jk_block ?_
      refine jk_seq ?_
      refine jk_region ?_
      refine zq_move ?_
      refine zq_move ?_
      refine zq_idxN ?_
      refine zq_fld ?_
      refine zq_load ?_
      refine zq_move ?_
      refine zq_ne ?_
      refine jk_nil ?_
      refine jk_if_t rfl ?_
      refine jk_region ?_
      refine zq_move ?_
      refine zq_move ?_
      refine zq_move ?_
      refine zq_idxN ?_
      refine zq_loadS ?_
      refine zl_buildSlice ?_; rintro _ _ ⟨b, rfl, rfl⟩
      refine jk_op (l_append (by_ := 40) (s := 5) (news := [int x.n, int x.a, int x.b, int x.s, int x.k]) rfl rfl rfl rfl rfl rfl rfl hO takeZ (cells_own memZ) rfl (by (repeat (first | exact (fun v hv => absurd hv List.not_mem_nil) | (refine List.forall_mem_cons.2 ⟨?_, ?_⟩; (focus (first | exact rfl | assumption))))); first | done | fail) (by omega) (by simp only [maxLen]; omega) (by omega)) rfl rfl rfl ?_
      rintro u1 _ ⟨σ1, hO1, rfl⟩
      refine zq_assign ?_
      refine jk_nil ?_
      refine jk_blk ?_
      refine jk_region ?_
      refine zq_move ?_
      refine zq_inc ?_
      refine zq_assign ?_
      refine jk_nil ?_
      refine jk_round (k + 1, (u1, σ1)) ⟨by dsimp only; omega, ?_⟩ (by dsimp only; omega) covZ selZ
      dsimp only
      rw [hn, List.length_append, List.flatMap_append]
      exact hO1
  · have hke : k = l.length := by omega
    subst hke
    rw [List.take_length] at hO
    refine jk_seq ?_
    refine jk_seq ?_
    refine jk_region ?_
    refine zq_move ?_
    refine zq_move ?_
    refine zq_len ?_
    refine zq_ltF ?_
    refine jk_nil ?_
    refine jk_if_f rfl ?_
    refine jk_exit rfl ?_
    refine jk_seq ?_
    refine jk_region ?_
    refine zq_move ?_
    refine zq_assign ?_
    refine jk_nil ?_
    exact jk_ret_any (res1 rfl rfl) (by (repeat (first | exact rs_nil | (refine rs_cons ?_ ?_; (focus ((repeat (first | exact .here | apply Mem.there | apply Take.there)); first | done | fail))) | exact fun ρ hρ => hρ | (intro ρ hρ; repeat (first | exact hρ | refine List.mem_cons_of_mem _ ?_)))); first | done | fail) selZ ⟨σ, hO, rfl⟩
/- the reference's place of a hold -/
theorem takeW_next {l : List Hd} {h : Hd} {k : Nat} (hp : ∀ x ∈ l.take k, cmpHd x h ≤ 0) (hs : ∀ x, l[k]? = some x → ¬ cmpHd x h ≤ 0) : insH l h = insL l k h := by
  have e : insW (fun x => decide (cmpHd x h ≤ 0)) (l.take k ++ l.drop k) h = l.take k ++ insW (fun x => decide (cmpHd x h ≤ 0)) (l.drop k) h := insW_pre _ _ (fun x hx => by simpa using hp x hx)
  rw [List.take_append_drop] at e
  unfold insH
  rw [e]
  unfold insL
  congr 1
  have : ∀ m : List Hd, (∀ x, m.head? = some x → ¬ cmpHd x h ≤ 0) → insW (fun x => decide (cmpHd x h ≤ 0)) m h = h :: m := by
    intro m hm
    cases m with
    | nil => rfl
    | cons x m =>
      have := hm x rfl
      unfold insW
      rw [List.takeWhile_cons_of_neg (by simpa using this), List.dropWhile_cons_of_neg (by simpa using this)]
      rfl
  exact this _ (fun x hx => hs x (by rw [List.head?_drop] at hx; exact hx))
set_option maxHeartbeats 8000000 in
theorem refInsert_spec (ρ : PH) (v : Value) (l : List Hd) (h : Hd) (hv : HdAt ρ v l) (hcap : CapOK v) (hl : l.length ≤ 1000) :
    Makes Try.prog (fv 55) [v, .agg #[int h.n, int h.a, int h.b, int h.s, int h.k]] [ρ] (fun r σ => OwnS 47 5 r (insH l h).length ((insH l h).flatMap encH) σ) := by
  have hv2 := hv
  obtain ⟨q, c, rfl, hr⟩ := hv.val encH_len
  refine spec_in (cap := []) Try.func55 rfl rfl Try.ntmps55 rfl (by (repeat (first | exact EnvA.nil EnvI.nil | apply EnvA.cons | apply EnvA.nil | exact EnvI.nil | apply EnvI.cons)); first | done | fail) (fun N β => ?_)
  refine jk_seq ?_
  refine jk_region ?_
  refine jk_op (l_boxS rfl) rfl rfl rfl ?_
  rintro _ _ ⟨b3, rfl, rfl⟩
  refine jk_freeze (ρ := sng b3 _) takeZ ?_
  have c0 : RdN (sng b3 (.cells #[int h.n, int h.a, int h.b, int h.s, int h.k] 47 (0, 0))) b3 0 [int h.n, int h.a, int h.b, int h.s, int h.k] := rdN_sng (vs := [int h.n, int h.a, int h.b, int h.s, int h.k])
  refine zq_assign ?_
  refine jk_nil ?_
  refine jk_seq ?_
  refine jk_region ?_
  refine zl_buildSlice ?_; rintro _ _ ⟨b, rfl, rfl⟩
  refine zq_assign ?_
  refine jk_nil ?_
  refine jk_seq ?_
  refine jk_region ?_
  refine zq_assign ?_
  refine jk_nil ?_
  refine jk_seq ?_
  refine jk_block ?_
  revert b; intro bo
  refine jk_loop [0, 3] (X := Nat × (Value × PH)) (0, (.slice (some ⟨bo, 0, none⟩) 0 0, sng bo (.cells #[] 47 (0, 0)))) (fun x => x.1 ≤ l.length ∧ (∀ y ∈ l.take x.1, cmpHd y h ≤ 0) ∧ OwnS 47 5 x.2.1 x.1 ((l.take x.1).flatMap encH) x.2.2) (fun x => [(6, int x.1), (5, x.2.1)]) (fun x => [x.2.2]) (fun x => l.length - x.1) pickZ ⟨by dsimp only; omega, by simp, OwnS.empty⟩ covZ selZ ?_
  rintro ⟨k, u, σ⟩ ⟨hk, hp, hO⟩
  dsimp only at hk hp hO ⊢
  by_cases hlt : k < l.length
  · have hx := List.getElem?_eq_getElem hlt
    have htk := List.take_succ_eq_append_getElem hlt
    obtain ⟨b1, o1, rfl, hRd1, g0, g1, g2, g3, g4⟩ := hdRow5 hr hx
    generalize l[k] = x at hRd1 g0 g1 g2 g3 g4 hx htk
    have hle := less_spec h x
    refine jk_seq ?_
    refine jk_seq ?_
    refine jk_draw (.q 0 (.q 1 (.q 2 (.q 3 (.q 4 (.q 5 (.q 6 (.q 7 (.q 8 (.q 9 (.l 10 .e (.q 11 (.q 12 .nil))))))))))))) [] rfl (by kernel_rfl) Sel.nil ?_
    refine zd_move ?_
    refine zd_move ?_
    refine zd_len ?_
    refine zd_lt ?_
    refine zd_move ?_
    refine zd_loadS ?_
    refine zd_move ?_
    refine zd_move ?_
    refine zd_idxN ?_
    refine zd_loadS ?_
    refine dj_l (a_call rfl hle rfl rfl rdZ rfl rfl ?_)
    rintro _ rfl
    have hneg := cmpHd_neg h x
    by_cases hc : cmpHd h x < 0
    · rw [decide_eq_true hc]
      have hstop : ∀ y, l[k]? = some y → ¬ cmpHd y h ≤ 0 := fun y hy => by rw [hx] at hy; obtain rfl := Option.some.inj hy; omega
      refine zd_not ?_
      refine zd_pick_t ?_
      refine dj_end ?_
      refine jk_if_f rfl ?_
      refine jk_exit rfl ?_
      refine jk_seq ?_
      refine jk_region ?_
      refine zq_move ?_
      refine zq_loadS ?_
      refine zl_buildSlice ?_; rintro _ _ ⟨b, rfl, rfl⟩
      refine jk_op (l_append (by_ := 40) (s := 5) (news := [int h.n, int h.a, int h.b, int h.s, int h.k]) rfl rfl rfl rfl rfl rfl rfl hO takeZ (cells_own memZ) rfl (by (repeat (first | exact (fun v hv => absurd hv List.not_mem_nil) | (refine List.forall_mem_cons.2 ⟨?_, ?_⟩; (focus (first | exact rfl | assumption))))); first | done | fail) (by omega) (by simp only [maxLen]; omega) (by omega)) rfl rfl rfl ?_
      rintro u1 _ ⟨σ1, hO1, rfl⟩
      refine zq_assign ?_
      refine jk_nil ?_
      refine jk_seq ?_
      refine jk_region ?_
      refine zq_move ?_
      refine zq_move ?_
      refine zq_move ?_
      refine zq_cutLo ?_
      refine jk_op (l_appendE (by_ := 40) (s := 5) (σ := ρ) (w0 := .slice (cutP (some ⟨b1, o1, none⟩) c k 5) (l.length - k) (c - k)) (news := (l.drop k).flatMap encH) (m := (l.drop k).length) rfl rfl rfl rfl rfl rfl rfl hO1 takeZ (slE_lo encH_len hv2 hcap.le hk rfl) (fun b o h => cellsR h memZ) (ones_H _) (by rw [List.length_drop]; simp only [maxLen]; omega) (by rw [List.length_drop]; omega)) rfl rfl rfl ?_
      rintro u2 _ ⟨σ2, hO2, rfl⟩
      refine zq_assign ?_
      refine jk_nil ?_
      refine jk_ret_any (res1 rfl rfl) (by (repeat (first | exact rs_nil | (refine rs_cons ?_ ?_; (focus ((repeat (first | exact .here | apply Mem.there | apply Take.there)); first | done | fail))) | exact fun ρ hρ => hρ | (intro ρ hρ; repeat (first | exact hρ | refine List.mem_cons_of_mem _ ?_)))); first | done | fail) selZ ⟨σ2, ?_, rfl⟩
      rw [takeW_next hp hstop, insL_len]
      unfold insL
      rw [List.flatMap_append, List.flatMap_cons, ← List.append_assoc]
      have e : k + 1 + (l.drop k).length = l.length + 1 := by rw [List.length_drop]; omega
      rw [e] at hO2
      exact hO2
    · rw [decide_eq_false hc]
      refine zd_not ?_
      refine zd_pick_t ?_
      refine dj_end ?_
      refine jk_if_t rfl ?_
      refine jk_skip ?_
      refine jk_block ?_
      refine jk_seq ?_
      refine jk_region ?_
      refine zq_move ?_
      refine zq_move ?_
      refine zq_move ?_
      refine zq_idxN ?_
      refine zq_loadS ?_
      refine zl_buildSlice ?_; rintro _ _ ⟨b, rfl, rfl⟩
      refine jk_op (l_append (by_ := 40) (s := 5) (news := [int x.n, int x.a, int x.b, int x.s, int x.k]) rfl rfl rfl rfl rfl rfl rfl hO takeZ (cells_own memZ) rfl (by (repeat (first | exact (fun v hv => absurd hv List.not_mem_nil) | (refine List.forall_mem_cons.2 ⟨?_, ?_⟩; (focus (first | exact rfl | assumption))))); first | done | fail) (by omega) (by simp only [maxLen]; omega) (by omega)) rfl rfl rfl ?_
      rintro u1 _ ⟨σ1, hO1, rfl⟩
      refine zq_assign ?_
      refine jk_nil ?_
      refine jk_region ?_
      refine zq_move ?_
      refine zq_inc ?_
      refine zq_assign ?_
      refine jk_nil ?_
      refine jk_blk ?_
      refine jk_round (k + 1, (u1, σ1)) ⟨by dsimp only; omega, ?_, ?_⟩ (by dsimp only; omega) covZ selZ
      · dsimp only
        rw [htk]
        intro y hy
        rcases List.mem_append.1 hy with hy | hy
        · exact hp y hy
        · simp only [List.mem_singleton] at hy; subst hy; omega
      · dsimp only
        rw [htk, List.flatMap_append]
        exact hO1
  · have hke : k = l.length := by omega
    have hstop : ∀ y, l[k]? = some y → ¬ cmpHd y h ≤ 0 := fun y hy => by rw [List.getElem?_eq_none (by omega)] at hy; simp at hy
    refine jk_seq ?_
    refine jk_seq ?_
    refine jk_draw (.q 0 (.q 1 (.q 2 (.q 3 (.q 4 (.q 5 (.q 6 (.q 7 (.q 8 (.q 9 (.q 10 (.q 11 (.q 12 .nil))))))))))))) [] rfl (by kernel_rfl) Sel.nil ?_
    refine zd_move ?_
    refine zd_move ?_
    refine zd_len ?_
    refine zd_ltF ?_
    refine zd_move ?_
    refine dj_pass rfl rfl rfl rfl rfl ?_
    refine dj_pass rfl rfl rfl rfl rfl ?_
    refine dj_pass rfl rfl rfl rfl rfl ?_
    refine dj_pass rfl rfl rfl rfl rfl ?_
    refine dj_pass rfl rfl rfl rfl rfl ?_
    refine dj_pass rfl rfl rfl rfl rfl ?_
    refine dj_pass rfl rfl rfl rfl rfl ?_
    refine zd_pick_f ?_
    refine dj_end ?_
    refine jk_if_f rfl ?_
    refine jk_exit rfl ?_
    refine jk_seq ?_
    refine jk_region ?_
    refine zq_move ?_
    refine zq_loadS ?_
    refine zl_buildSlice ?_; rintro _ _ ⟨b, rfl, rfl⟩
    refine jk_op (l_append (by_ := 40) (s := 5) (news := [int h.n, int h.a, int h.b, int h.s, int h.k]) rfl rfl rfl rfl rfl rfl rfl hO takeZ (cells_own memZ) rfl (by (repeat (first | exact (fun v hv => absurd hv List.not_mem_nil) | (refine List.forall_mem_cons.2 ⟨?_, ?_⟩; (focus (first | exact rfl | assumption))))); first | done | fail) (by omega) (by simp only [maxLen]; omega) (by omega)) rfl rfl rfl ?_
    rintro u1 _ ⟨σ1, hO1, rfl⟩
    refine zq_assign ?_
    refine jk_nil ?_
    refine jk_seq ?_
    refine jk_region ?_
    refine zq_move ?_
    refine zq_move ?_
    refine zq_move ?_
    refine zq_cutLo ?_
    refine jk_op (l_appendE (by_ := 40) (s := 5) (σ := ρ) (w0 := .slice (cutP q c k 5) (l.length - k) (c - k)) (news := (l.drop k).flatMap encH) (m := (l.drop k).length) rfl rfl rfl rfl rfl rfl rfl hO1 takeZ (slE_lo encH_len hv2 hcap.le hk rfl) (fun b o h => cellsR h memZ) (ones_H _) (by rw [List.length_drop]; simp only [maxLen]; omega) (by rw [List.length_drop]; omega)) rfl rfl rfl ?_
    rintro u2 _ ⟨σ2, hO2, rfl⟩
    refine zq_assign ?_
    refine jk_nil ?_
    refine jk_ret_any (res1 rfl rfl) (by (repeat (first | exact rs_nil | (refine rs_cons ?_ ?_; (focus ((repeat (first | exact .here | apply Mem.there | apply Take.there)); first | done | fail))) | exact fun ρ hρ => hρ | (intro ρ hρ; repeat (first | exact hρ | refine List.mem_cons_of_mem _ ?_)))); first | done | fail) selZ ⟨σ2, ?_, rfl⟩
    rw [takeW_next hp hstop, insL_len]
    unfold insL
    rw [List.flatMap_append, List.flatMap_cons, ← List.append_assoc]
    have e : k + 1 + (l.drop k).length = l.length + 1 := by rw [List.length_drop]; omega
    rw [e] at hO2
    exact hO2
end Go.Proofs.Ytnbihndlbopmeaa
