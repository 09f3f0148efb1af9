/- Texts of this proof, one after the other; no conditions. -/
import Derived.Test.YtnbihndlbopmeaaWB7
import Derived.Test.YtnbihndlbopmeaaWB3
import Derived.Test.YtnbihndlbopmeaaWB5
set_option linter.all false
/- Holds compared, released, put in their place, of the program and of the reference. -/
namespace Go.Proofs.Ytnbihndlbopmeaa
open Go.Eng Go.Step
set_option maxRecDepth 100000
set_option maxHeartbeats 4000000

theorem same28_spec (ρ τ : PH) (v w : Value) (l m : List Hd) (hv : HdAt ρ v l) (hw : HdAt τ w m) (hl : l.length ≤ 9223372036854775807) :
    Ans Try.prog (fv 29) [v, w] [ρ, τ] (fun r => r = .bool (decide (l = m))) := by
  obtain ⟨q, c, rfl, hr⟩ := hv.val encH_len
  obtain ⟨q', c', rfl, hr'⟩ := hw.val encH_len
  refine spec_in (cap := []) Try.func29 rfl rfl Try.ntmps29 rfl (by (repeat (first | exact EnvA.nil EnvI.nil | apply EnvA.cons | apply EnvA.nil | exact EnvI.nil | apply EnvI.cons)); first | done | fail) (fun N β => ?_)
  by_cases hlen : l.length = m.length
  rotate_left
  · refine jk_seq ?_
    refine jk_region ?_
    refine zq_assign ?_
    refine jk_nil ?_
    refine jk_seq ?_
    refine jk_seq ?_
    refine jk_region ?_
    refine zq_move ?_
    refine zq_len ?_
    refine zq_move ?_
    refine zq_len ?_
    refine zq_ne ?_
    refine jk_nil ?_
    refine jk_if_t rfl ?_
    refine jk_seq ?_
    refine jk_region ?_
    refine zq_assign ?_
    refine jk_nil ?_
    exact jk_ret_any (res1 rfl rfl) (by (repeat (first | exact rs_nil | (refine rs_cons ?_ ?_; (focus ((repeat (first | exact .here | apply Mem.there | apply Take.there)); first | done | fail))) | exact fun ρ hρ => hρ | (intro ρ hρ; repeat (first | exact hρ | refine List.mem_cons_of_mem _ ?_)))); first | done | fail) selZ ⟨rfl, by rw [decide_eq_false (fun h => hlen (by rw [h]))]⟩
  refine jk_seq ?_
  refine jk_region ?_
  refine zq_assign ?_
  refine jk_nil ?_
  refine jk_seq ?_
  refine jk_seq ?_
  refine jk_region ?_
  refine zq_move ?_
  refine zq_len ?_
  refine zq_move ?_
  refine zq_len ?_
  refine zq_neF ?_
  refine jk_nil ?_
  refine jk_if_f rfl ?_
  refine jk_skip ?_
  refine jk_seq ?_
  refine jk_seq ?_
  refine jk_region ?_
  refine zq_assign ?_
  refine jk_nil ?_
  refine jk_block ?_
  refine jk_loop [0, 1] (0 : Nat) (fun k => k ≤ l.length ∧ l.take k = m.take k) (fun k => [(5, int k)]) (fun _ => []) (fun k => l.length - k) pickZ ⟨by omega, by simp⟩ covZ selZ ?_
  rintro k ⟨hk, hI⟩
  by_cases hlt : k < l.length
  · have hx := List.getElem?_eq_getElem hlt
    have hx' := List.getElem?_eq_getElem (show k < m.length by omega)
    obtain ⟨b1, o1, rfl, hRd1, _⟩ := hdRow5 hr hx
    obtain ⟨b2, o2, rfl, hRd2, _⟩ := hdRow5 hr' hx'
    refine jk_seq ?_
    refine jk_seq ?_
    refine jk_region ?_
    refine zq_move ?_
    refine zq_move ?_
    refine zq_len ?_
    refine zq_lt ?_
    refine jk_nil ?_
    refine jk_if_t rfl ?_
    refine jk_skip ?_
    refine jk_seq ?_
    refine jk_block ?_
    refine jk_seq ?_
    refine jk_draw (.q 0 (.q 1 (.q 2 (.q 3 (.q 4 (.q 5 (.q 6 (.q 7 (.q 8 .nil))))))))) [] rfl (by kernel_rfl) Sel.nil ?_
    refine zd_move ?_
    refine zd_move ?_
    refine zd_idxN ?_
    refine zd_loadS ?_
    refine zd_move ?_
    refine zd_move ?_
    refine zd_idxN ?_
    refine zd_loadS ?_
    focus ((refine' dj_q rfl _ rfl rfl rfl rfl _; rotate_left; (apply q_neS [l[k].n, l[k].a, l[k].b, l[k].s, l[k].k] [m[k].n, m[k].a, m[k].b, m[k].s, m[k].k] (n := 5); exact rfl; exact rfl; kernel_rfl; kernel_rfl; kernel_rfl; exact rfl; exact rfl)))
    refine dj_end ?_
    by_cases he : l[k] = m[k]
    · rw [he]
      rw [show (!decide ([m[k].n, m[k].a, m[k].b, m[k].s, m[k].k] = [m[k].n, m[k].a, m[k].b, m[k].s, m[k].k])) = false by simp]
      skip
      refine jk_if_f rfl ?_
      refine jk_skip ?_
      refine jk_blk ?_
      refine jk_region ?_
      refine zq_move ?_
      refine zq_inc ?_
      refine zq_assign ?_
      refine jk_nil ?_
      refine jk_round (k + 1) ⟨by omega, ?_⟩ (by omega) covZ selZ
      rw [List.take_succ_eq_append_getElem hlt, List.take_succ_eq_append_getElem (show k < m.length by omega), hI, he]
    · have hne : ¬ ([l[k].n, l[k].a, l[k].b, l[k].s, l[k].k] = [m[k].n, m[k].a, m[k].b, m[k].s, m[k].k]) := fun h => he (by
        simp only [List.cons.injEq, and_true] at h
        generalize l[k] = x at *
        generalize m[k] = y at *
        obtain ⟨x1, x2, x3, x4, x5⟩ := x
        obtain ⟨y1, y2, y3, y4, y5⟩ := y
        simp only at h
        rw [h.1, h.2.1, h.2.2.1, h.2.2.2.1, h.2.2.2.2])
      rw [show (!decide ([l[k].n, l[k].a, l[k].b, l[k].s, l[k].k] = [m[k].n, m[k].a, m[k].b, m[k].s, m[k].k])) = true by simp only [decide_eq_false hne, Bool.not_false]]
      skip
      refine jk_if_t rfl ?_
      refine jk_seq ?_
      refine jk_region ?_
      refine zq_assign ?_
      refine jk_nil ?_
      exact jk_ret_any (res1 rfl rfl) (by (repeat (first | exact rs_nil | (refine rs_cons ?_ ?_; (focus ((repeat (first | exact .here | apply Mem.there | apply Take.there)); first | done | fail))) | exact fun ρ hρ => hρ | (intro ρ hρ; repeat (first | exact hρ | refine List.mem_cons_of_mem _ ?_)))); first | done | fail) selZ ⟨rfl, by rw [decide_eq_false (fun h => he (by subst h; rfl))]⟩
  · rw [List.take_of_length_le (by omega), List.take_of_length_le (by omega)] at hI
    refine jk_seq ?_
    refine jk_seq ?_
    refine jk_region ?_
    refine zq_move ?_
    refine zq_move ?_
    refine zq_len ?_
    refine zq_ltF ?_
    refine jk_nil ?_
    refine jk_if_f rfl ?_
    refine jk_exit rfl ?_
    refine jk_seq ?_
    refine jk_region ?_
    refine zq_assign ?_
    refine jk_nil ?_
    exact jk_ret_any (res1 rfl rfl) (by (repeat (first | exact rs_nil | (refine rs_cons ?_ ?_; (focus ((repeat (first | exact .here | apply Mem.there | apply Take.there)); first | done | fail))) | exact fun ρ hρ => hρ | (intro ρ hρ; repeat (first | exact hρ | refine List.mem_cons_of_mem _ ?_)))); first | done | fail) selZ ⟨rfl, by rw [decide_eq_true hI]⟩
theorem relH_next (t : Int) {l : List Hd} {k : Nat} {x : Hd} (h : l[k]? = some x) : relH (l.take (k + 1)) t = relH (l.take k) t ++ (if x.k ≠ t then [x] else []) := by
  obtain ⟨hk, rfl⟩ := List.getElem?_eq_some_iff.1 h
  unfold relH
  rw [List.take_succ_eq_append_getElem hk, List.filter_append]
  congr 1
  by_cases c : l[k].k = t
  · simp [c]
  · simp [c]
theorem relH_len (l : List Hd) (t : Int) : (relH l t).length ≤ l.length := List.length_filter_le _ _
set_option maxHeartbeats 8000000 in
theorem release_spec (ρ : PH) (v : Value) (l : List Hd) (t : Int) (hv : HdAt ρ v l) (hl : l.length ≤ 1000) :
    Makes Try.prog (fv 32) [v, int t] [ρ] (fun r σ => OwnS 47 5 r (relH l t).length ((relH l t).flatMap encH) σ) := by
  obtain ⟨q, c, rfl, hr⟩ := hv.val encH_len
  refine spec_in (cap := []) Try.func32 rfl rfl Try.ntmps32 rfl (by (repeat (first | exact EnvA.nil EnvI.nil | apply EnvA.cons | apply EnvA.nil | exact EnvI.nil | apply EnvI.cons)); first | done | fail) (fun N β => ?_)
  refine jk_emp ?_
  refine jk_seq ?_
  refine jk_region ?_
  refine zq_assign ?_
  refine jk_nil ?_
  refine jk_seq ?_
  refine jk_region ?_
  refine zq_assign ?_
  refine jk_nil ?_
  refine jk_seq ?_
  refine jk_seq ?_
  refine jk_region ?_
  refine zq_move ?_
  refine zq_len ?_
  refine zq_move ?_
  refine jk_nil ?_
  refine jk_block ?_
  refine jk_loop [1, 8, 9] (X := Nat × (Value × PH)) (0, (.slice none 0 0, emp)) (fun x => x.1 ≤ l.length ∧ OwnS 47 5 x.2.1 (relH (l.take x.1) t).length ((relH (l.take x.1) t).flatMap encH) x.2.2) (fun x => [(10, int x.1), (5, x.2.1)]) (fun x => [x.2.2]) (fun x => l.length - x.1) pickZ ⟨by dsimp only; omega, OwnS.nil _ _⟩ covZ selZ ?_
  rintro ⟨k, u, σ⟩ ⟨hk, hO⟩
  dsimp only at hk hO ⊢
  by_cases hlt : k < l.length
  · have hx := List.getElem?_eq_getElem hlt
    have hn := relH_next t hx
    have hrl := relH_len (l.take k) t
    rw [List.length_take, Nat.min_eq_left hk] at hrl
    obtain ⟨b1, o1, rfl, hRd1, g0, g1, g2, g3, g4⟩ := hdRow5 hr hx
    generalize l[k] = x at hRd1 g0 g1 g2 g3 g4 hn
    by_cases hc : x.k = t
    · rw [if_neg (by omega), List.append_nil] at hn
      refine jk_seq ?_
      refine jk_region ?_
      refine zq_lt ?_
      refine jk_nil ?_
      refine jk_seq ?_
      refine jk_if_t rfl ?_
      refine jk_skip ?_
      refine jk_seq ?_
      refine jk_block ?_
      refine jk_seq ?_
      refine jk_region ?_
      refine zq_idxN ?_
      refine zq_loadS ?_
      refine zl_allocS ?_; rintro _ _ ⟨b, rfl, rfl⟩
      refine zs_storeS ?_; rintro _ _ ⟨rfl, rfl⟩
      refine jk_nil ?_
      refine jk_seq ?_
      refine jk_region ?_
      refine zq_fld0 ?_
      refine zq_load ?_
      refine zq_move ?_
      refine zq_neF ?_
      refine jk_nil ?_
      refine jk_if_f rfl ?_
      refine jk_skip ?_
      refine jk_blk ?_
      refine jk_region ?_
      refine zq_inc ?_
      refine zq_move ?_
      refine jk_nil ?_
      exact jk_round (k + 1, (u, σ)) ⟨by dsimp only; omega, by dsimp only; rw [hn]; exact hO⟩ (by dsimp only; omega) covZ selZ
    · rw [if_pos hc] at hn
      refine jk_seq ?_
      refine jk_region ?_
      refine zq_lt ?_
      refine jk_nil ?_
      refine jk_seq ?_
      refine jk_if_t rfl ?_
      refine jk_skip ?_
      refine jk_seq ?_
      refine jk_block ?_
      refine jk_seq ?_
      refine jk_region ?_
      refine zq_idxN ?_
      refine zq_loadS ?_
      refine zl_allocS ?_; rintro _ _ ⟨b, rfl, rfl⟩
      refine zs_storeS ?_; rintro _ _ ⟨rfl, rfl⟩
      refine jk_nil ?_
      refine jk_seq ?_
      refine jk_region ?_
      refine zq_fld0 ?_
      refine zq_load ?_
      refine zq_move ?_
      refine zq_ne ?_
      refine jk_nil ?_
      refine jk_if_t rfl ?_
      refine jk_region ?_
      refine zq_move ?_
      refine zq_loadS ?_
      refine zl_buildSlice ?_; rintro _ _ ⟨b, rfl, rfl⟩
      refine jk_op (l_append (by_ := 40) (s := 5) (news := [int x.n, int x.a, int x.b, int x.s, int x.k]) rfl rfl rfl rfl rfl rfl rfl hO takeZ (cells_own memZ) rfl (by (repeat (first | exact (fun v hv => absurd hv List.not_mem_nil) | (refine List.forall_mem_cons.2 ⟨?_, ?_⟩; (focus (first | exact rfl | assumption))))); first | done | fail) (by omega) (by simp only [maxLen]; omega) (by omega)) rfl rfl rfl ?_
      rintro u1 _ ⟨σ1, hO1, rfl⟩
      refine zq_assign ?_
      refine jk_nil ?_
      refine jk_blk ?_
      refine jk_region ?_
      refine zq_inc ?_
      refine zq_move ?_
      refine jk_nil ?_
      refine jk_round (k + 1, (u1, σ1)) ⟨by dsimp only; omega, ?_⟩ (by dsimp only; omega) covZ selZ
      dsimp only
      rw [hn, List.length_append, List.flatMap_append]
      exact hO1
  · have hke : k = l.length := by omega
    subst hke
    rw [List.take_length] at hO
    refine jk_seq ?_
    refine jk_region ?_
    refine zq_ltF ?_
    refine jk_nil ?_
    refine jk_seq ?_
    refine jk_if_f rfl ?_
    refine jk_exit rfl ?_
    refine jk_seq ?_
    refine jk_region ?_
    refine zq_move ?_
    refine zq_assign ?_
    refine jk_nil ?_
    exact jk_ret_any (res1 rfl rfl) (by (repeat (first | exact rs_nil | (refine rs_cons ?_ ?_; (focus ((repeat (first | exact .here | apply Mem.there | apply Take.there)); first | done | fail))) | exact fun ρ hρ => hρ | (intro ρ hρ; repeat (first | exact hρ | refine List.mem_cons_of_mem _ ?_)))); first | done | fail) selZ ⟨σ, hO, rfl⟩
set_option maxHeartbeats 8000000 in
theorem refRelease_spec (ρ : PH) (v : Value) (l : List Hd) (t : Int) (hv : HdAt ρ v l) (hl : l.length ≤ 1000) :
    Makes Try.prog (fv 33) [v, int t] [ρ] (fun r σ => OwnS 47 5 r (relH l t).length ((relH l t).flatMap encH) σ) := by
  obtain ⟨q, c, rfl, hr⟩ := hv.val encH_len
  refine spec_in (cap := []) Try.func33 rfl rfl Try.ntmps33 rfl (by (repeat (first | exact EnvA.nil EnvI.nil | apply EnvA.cons | apply EnvA.nil | exact EnvI.nil | apply EnvI.cons)); first | done | fail) (fun N β => ?_)
  refine jk_seq ?_
  refine jk_region ?_
  refine zq_assign ?_
  refine jk_nil ?_
  refine jk_seq ?_
  refine jk_region ?_
  refine zl_buildSlice ?_; rintro _ _ ⟨b, rfl, rfl⟩
  refine zq_assign ?_
  refine jk_nil ?_
  refine jk_seq ?_
  refine jk_seq ?_
  refine jk_region ?_
  refine zq_assign ?_
  refine jk_nil ?_
  refine jk_block ?_
  revert b; intro bo
  refine jk_loop [0, 1] (X := Nat × (Value × PH)) (0, (.slice (some ⟨bo, 0, none⟩) 0 0, sng bo (.cells #[] 47 (0, 0)))) (fun x => x.1 ≤ l.length ∧ OwnS 47 5 x.2.1 (relH (l.take x.1) t).length ((relH (l.take x.1) t).flatMap encH) x.2.2) (fun x => [(6, int x.1), (5, x.2.1)]) (fun x => [x.2.2]) (fun x => l.length - x.1) pickZ ⟨by dsimp only; omega, OwnS.empty⟩ covZ selZ ?_
  rintro ⟨k, u, σ⟩ ⟨hk, hO⟩
  dsimp only at hk hO ⊢
  by_cases hlt : k < l.length
  · have hx := List.getElem?_eq_getElem hlt
    have hn := relH_next t hx
    have hrl := relH_len (l.take k) t
    rw [List.length_take, Nat.min_eq_left hk] at hrl
    obtain ⟨b1, o1, rfl, hRd1, g0, g1, g2, g3, g4⟩ := hdRow5 hr hx
    generalize l[k] = x at hRd1 g0 g1 g2 g3 g4 hn
    by_cases hc : x.k = t
    · rw [if_neg (by omega), List.append_nil] at hn
      refine jk_seq ?_
      refine jk_seq ?_
      refine jk_region ?_
      refine zq_move ?_
      refine zq_move ?_
      refine zq_len ?_
      refine zq_lt ?_
      refine jk_nil ?_
      refine jk_if_t rfl ?_
      refine jk_skip ?_
      refine jk_seq ?_
      refine jk_block ?_
      refine jk_seq ?_
      refine jk_region ?_
      refine zq_move ?_
      refine zq_move ?_
      refine zq_idxN ?_
      refine zq_fld ?_
      refine zq_load ?_
      refine zq_move ?_
      refine zq_neF ?_
      refine jk_nil ?_
      refine jk_if_f rfl ?_
      refine jk_skip ?_
      refine jk_blk ?_
      refine jk_region ?_
      refine zq_move ?_
      refine zq_inc ?_
      refine zq_assign ?_
      refine jk_nil ?_
      exact jk_round (k + 1, (u, σ)) ⟨by dsimp only; omega, by dsimp only; rw [hn]; exact hO⟩ (by dsimp only; omega) covZ selZ
    · rw [if_pos hc] at hn
      refine jk_seq ?_
      refine jk_seq ?_
      refine jk_region ?_
      refine zq_move ?_
      refine zq_move ?_
      refine zq_len ?_
      refine zq_lt ?_
      refine jk_nil ?_
      refine jk_if_t rfl ?_
      refine jk_skip ?_
      refine jk_seq ?_
      refine jk_block ?_
      refine jk_seq ?_
      refine jk_region ?_
      refine zq_move ?_
      refine zq_move ?_
      refine zq_idxN ?_
      refine zq_fld ?_
      refine zq_load ?_
      refine zq_move ?_
      refine zq_ne ?_
      refine jk_nil ?_
      refine jk_if_t rfl ?_
      refine jk_region ?_
      refine zq_move ?_
      refine zq_move ?_
      refine zq_move ?_
      refine zq_idxN ?_
      refine zq_loadS ?_
      refine zl_buildSlice ?_; rintro _ _ ⟨b, rfl, rfl⟩
      refine jk_op (l_append (by_ := 40) (s := 5) (news := [int x.n, int x.a, int x.b, int x.s, int x.k]) rfl rfl rfl rfl rfl rfl rfl hO takeZ (cells_own memZ) rfl (by (repeat (first | exact (fun v hv => absurd hv List.not_mem_nil) | (refine List.forall_mem_cons.2 ⟨?_, ?_⟩; (focus (first | exact rfl | assumption))))); first | done | fail) (by omega) (by simp only [maxLen]; omega) (by omega)) rfl rfl rfl ?_
      rintro u1 _ ⟨σ1, hO1, rfl⟩
      refine zq_assign ?_
      refine jk_nil ?_
      refine jk_blk ?_
      refine jk_region ?_
      refine zq_move ?_
      refine zq_inc ?_
      refine zq_assign ?_
      refine jk_nil ?_
      refine jk_round (k + 1, (u1, σ1)) ⟨by dsimp only; omega, ?_⟩ (by dsimp only; omega) covZ selZ
      dsimp only
      rw [hn, List.length_append, List.flatMap_append]
      exact hO1
  · have hke : k = l.length := by omega
    subst hke
    rw [List.take_length] at hO
    refine jk_seq ?_
    refine jk_seq ?_
    refine jk_region ?_
    refine zq_move ?_
    refine zq_move ?_
    refine zq_len ?_
    refine zq_ltF ?_
    refine jk_nil ?_
    refine jk_if_f rfl ?_
    refine jk_exit rfl ?_
    refine jk_seq ?_
    refine jk_region ?_
    refine zq_move ?_
    refine zq_assign ?_
    refine jk_nil ?_
    exact jk_ret_any (res1 rfl rfl) (by (repeat (first | exact rs_nil | (refine rs_cons ?_ ?_; (focus ((repeat (first | exact .here | apply Mem.there | apply Take.there)); first | done | fail))) | exact fun ρ hρ => hρ | (intro ρ hρ; repeat (first | exact hρ | refine List.mem_cons_of_mem _ ?_)))); first | done | fail) selZ ⟨σ, hO, rfl⟩
/- the reference's place of a hold -/
theorem takeW_next {l : List Hd} {h : Hd} {k : Nat} (hp : ∀ x ∈ l.take k, cmpHd x h ≤ 0) (hs : ∀ x, l[k]? = some x → ¬ cmpHd x h ≤ 0) : insH l h = insL l k h := by
  have e : insW (fun x => decide (cmpHd x h ≤ 0)) (l.take k ++ l.drop k) h = l.take k ++ insW (fun x => decide (cmpHd x h ≤ 0)) (l.drop k) h := insW_pre _ _ (fun x hx => by simpa using hp x hx)
  rw [List.take_append_drop] at e
  unfold insH
  rw [e]
  unfold insL
  congr 1
  have : ∀ m : List Hd, (∀ x, m.head? = some x → ¬ cmpHd x h ≤ 0) → insW (fun x => decide (cmpHd x h ≤ 0)) m h = h :: m := by
    intro m hm
    cases m with
    | nil => rfl
    | cons x m =>
      have := hm x rfl
      unfold insW
      rw [List.takeWhile_cons_of_neg (by simpa using this), List.dropWhile_cons_of_neg (by simpa using this)]
      rfl
  exact this _ (fun x hx => hs x (by rw [List.head?_drop] at hx; exact hx))
set_option maxHeartbeats 8000000 in
theorem refInsert_spec (ρ : PH) (v : Value) (l : List Hd) (h : Hd) (hv : HdAt ρ v l) (hcap : CapOK v) (hl : l.length ≤ 1000) :
    Makes Try.prog (fv 55) [v, .agg #[int h.n, int h.a, int h.b, int h.s, int h.k]] [ρ] (fun r σ => OwnS 47 5 r (insH l h).length ((insH l h).flatMap encH) σ) := by
  have hv2 := hv
  obtain ⟨q, c, rfl, hr⟩ := hv.val encH_len
  refine spec_in (cap := []) Try.func55 rfl rfl Try.ntmps55 rfl (by (repeat (first | exact EnvA.nil EnvI.nil | apply EnvA.cons | apply EnvA.nil | exact EnvI.nil | apply EnvI.cons)); first | done | fail) (fun N β => ?_)
  refine jk_seq ?_
  refine jk_region ?_
  refine jk_op (l_boxS rfl) rfl rfl rfl ?_
  rintro _ _ ⟨b3, rfl, rfl⟩
  refine jk_freeze (ρ := sng b3 _) takeZ ?_
  have c0 : RdN (sng b3 (.cells #[int h.n, int h.a, int h.b, int h.s, int h.k] 47 (0, 0))) b3 0 [int h.n, int h.a, int h.b, int h.s, int h.k] := rdN_sng (vs := [int h.n, int h.a, int h.b, int h.s, int h.k])
  refine zq_assign ?_
  refine jk_nil ?_
  refine jk_seq ?_
  refine jk_region ?_
  refine zl_buildSlice ?_; rintro _ _ ⟨b, rfl, rfl⟩
  refine zq_assign ?_
  refine jk_nil ?_
  refine jk_seq ?_
  refine jk_region ?_
  refine zq_assign ?_
  refine jk_nil ?_
  refine jk_seq ?_
  refine jk_block ?_
  revert b; intro bo
  refine jk_loop [0, 3] (X := Nat × (Value × PH)) (0, (.slice (some ⟨bo, 0, none⟩) 0 0, sng bo (.cells #[] 47 (0, 0)))) (fun x => x.1 ≤ l.length ∧ (∀ y ∈ l.take x.1, cmpHd y h ≤ 0) ∧ OwnS 47 5 x.2.1 x.1 ((l.take x.1).flatMap encH) x.2.2) (fun x => [(6, int x.1), (5, x.2.1)]) (fun x => [x.2.2]) (fun x => l.length - x.1) pickZ ⟨by dsimp only; omega, by simp, OwnS.empty⟩ covZ selZ ?_
  rintro ⟨k, u, σ⟩ ⟨hk, hp, hO⟩
  dsimp only at hk hp hO ⊢
  by_cases hlt : k < l.length
  · have hx := List.getElem?_eq_getElem hlt
    have htk := List.take_succ_eq_append_getElem hlt
    obtain ⟨b1, o1, rfl, hRd1, g0, g1, g2, g3, g4⟩ := hdRow5 hr hx
    generalize l[k] = x at hRd1 g0 g1 g2 g3 g4 hx htk
    have hle := less_spec h x
    refine jk_seq ?_
    refine jk_seq ?_
    refine jk_draw (.q 0 (.q 1 (.q 2 (.q 3 (.q 4 (.q 5 (.q 6 (.q 7 (.q 8 (.q 9 (.l 10 .e (.q 11 (.q 12 .nil))))))))))))) [] rfl (by kernel_rfl) Sel.nil ?_
    refine zd_move ?_
    refine zd_move ?_
    refine zd_len ?_
    refine zd_lt ?_
    refine zd_move ?_
    refine zd_loadS ?_
    refine zd_move ?_
    refine zd_move ?_
    refine zd_idxN ?_
    refine zd_loadS ?_
    refine dj_l (a_call rfl hle rfl rfl rdZ rfl rfl ?_)
    rintro _ rfl
    have hneg := cmpHd_neg h x
    by_cases hc : cmpHd h x < 0
    · rw [decide_eq_true hc]
      have hstop : ∀ y, l[k]? = some y → ¬ cmpHd y h ≤ 0 := fun y hy => by rw [hx] at hy; obtain rfl := Option.some.inj hy; omega
      refine zd_not ?_
      refine zd_pick_t ?_
      refine dj_end ?_
      refine jk_if_f rfl ?_
      refine jk_exit rfl ?_
      refine jk_seq ?_
      refine jk_region ?_
      refine zq_move ?_
      refine zq_loadS ?_
      refine zl_buildSlice ?_; rintro _ _ ⟨b, rfl, rfl⟩
      refine jk_op (l_append (by_ := 40) (s := 5) (news := [int h.n, int h.a, int h.b, int h.s, int h.k]) rfl rfl rfl rfl rfl rfl rfl hO takeZ (cells_own memZ) rfl (by (repeat (first | exact (fun v hv => absurd hv List.not_mem_nil) | (refine List.forall_mem_cons.2 ⟨?_, ?_⟩; (focus (first | exact rfl | assumption))))); first | done | fail) (by omega) (by simp only [maxLen]; omega) (by omega)) rfl rfl rfl ?_
      rintro u1 _ ⟨σ1, hO1, rfl⟩
      refine zq_assign ?_
      refine jk_nil ?_
      refine jk_seq ?_
      refine jk_region ?_
      refine zq_move ?_
      refine zq_move ?_
      refine zq_move ?_
      refine zq_cutLo ?_
      refine jk_op (l_appendE (by_ := 40) (s := 5) (σ := ρ) (w0 := .slice (cutP (some ⟨b1, o1, none⟩) c k 5) (l.length - k) (c - k)) (news := (l.drop k).flatMap encH) (m := (l.drop k).length) rfl rfl rfl rfl rfl rfl rfl hO1 takeZ (slE_lo encH_len hv2 hcap.le hk rfl) (fun b o h => cellsR h memZ) (ones_H _) (by rw [List.length_drop]; simp only [maxLen]; omega) (by rw [List.length_drop]; omega)) rfl rfl rfl ?_
      rintro u2 _ ⟨σ2, hO2, rfl⟩
      refine zq_assign ?_
      refine jk_nil ?_
      refine jk_ret_any (res1 rfl rfl) (by (repeat (first | exact rs_nil | (refine rs_cons ?_ ?_; (focus ((repeat (first | exact .here | apply Mem.there | apply Take.there)); first | done | fail))) | exact fun ρ hρ => hρ | (intro ρ hρ; repeat (first | exact hρ | refine List.mem_cons_of_mem _ ?_)))); first | done | fail) selZ ⟨σ2, ?_, rfl⟩
      rw [takeW_next hp hstop, insL_len]
      unfold insL
      rw [List.flatMap_append, List.flatMap_cons, ← List.append_assoc]
      have e : k + 1 + (l.drop k).length = l.length + 1 := by rw [List.length_drop]; omega
      rw [e] at hO2
      exact hO2
    · rw [decide_eq_false hc]
      refine zd_not ?_
      refine zd_pick_t ?_
      refine dj_end ?_
      refine jk_if_t rfl ?_
      refine jk_skip ?_
      refine jk_block ?_
      refine jk_seq ?_
      refine jk_region ?_
      refine zq_move ?_
      refine zq_move ?_
      refine zq_move ?_
      refine zq_idxN ?_
      refine zq_loadS ?_
      refine zl_buildSlice ?_; rintro _ _ ⟨b, rfl, rfl⟩
      refine jk_op (l_append (by_ := 40) (s := 5) (news := [int x.n, int x.a, int x.b, int x.s, int x.k]) rfl rfl rfl rfl rfl rfl rfl hO takeZ (cells_own memZ) rfl (by (repeat (first | exact (fun v hv => absurd hv List.not_mem_nil) | (refine List.forall_mem_cons.2 ⟨?_, ?_⟩; (focus (first | exact rfl | assumption))))); first | done | fail) (by omega) (by simp only [maxLen]; omega) (by omega)) rfl rfl rfl ?_
      rintro u1 _ ⟨σ1, hO1, rfl⟩
      refine zq_assign ?_
      refine jk_nil ?_
      refine jk_region ?_
      refine zq_move ?_
      refine zq_inc ?_
      refine zq_assign ?_
      refine jk_nil ?_
      refine jk_blk ?_
      refine jk_round (k + 1, (u1, σ1)) ⟨by dsimp only; omega, ?_, ?_⟩ (by dsimp only; omega) covZ selZ
      · dsimp only
        rw [htk]
        intro y hy
        rcases List.mem_append.1 hy with hy | hy
        · exact hp y hy
        · simp only [List.mem_singleton] at hy; subst hy; omega
      · dsimp only
        rw [htk, List.flatMap_append]
        exact hO1
  · have hke : k = l.length := by omega
    have hstop : ∀ y, l[k]? = some y → ¬ cmpHd y h ≤ 0 := fun y hy => by rw [List.getElem?_eq_none (by omega)] at hy; simp at hy
    refine jk_seq ?_
    refine jk_seq ?_
    refine jk_draw (.q 0 (.q 1 (.q 2 (.q 3 (.q 4 (.q 5 (.q 6 (.q 7 (.q 8 (.q 9 (.q 10 (.q 11 (.q 12 .nil))))))))))))) [] rfl (by kernel_rfl) Sel.nil ?_
    refine zd_move ?_
    refine zd_move ?_
    refine zd_len ?_
    refine zd_ltF ?_
    refine zd_move ?_
    refine dj_pass rfl rfl rfl rfl rfl ?_
    refine dj_pass rfl rfl rfl rfl rfl ?_
    refine dj_pass rfl rfl rfl rfl rfl ?_
    refine dj_pass rfl rfl rfl rfl rfl ?_
    refine dj_pass rfl rfl rfl rfl rfl ?_
    refine dj_pass rfl rfl rfl rfl rfl ?_
    refine dj_pass rfl rfl rfl rfl rfl ?_
    refine zd_pick_f ?_
    refine dj_end ?_
    refine jk_if_f rfl ?_
    refine jk_exit rfl ?_
    refine jk_seq ?_
    refine jk_region ?_
    refine zq_move ?_
    refine zq_loadS ?_
    refine zl_buildSlice ?_; rintro _ _ ⟨b, rfl, rfl⟩
    refine jk_op (l_append (by_ := 40) (s := 5) (news := [int h.n, int h.a, int h.b, int h.s, int h.k]) rfl rfl rfl rfl rfl rfl rfl hO takeZ (cells_own memZ) rfl (by (repeat (first | exact (fun v hv => absurd hv List.not_mem_nil) | (refine List.forall_mem_cons.2 ⟨?_, ?_⟩; (focus (first | exact rfl | assumption))))); first | done | fail) (by omega) (by simp only [maxLen]; omega) (by omega)) rfl rfl rfl ?_
    rintro u1 _ ⟨σ1, hO1, rfl⟩
    refine zq_assign ?_
    refine jk_nil ?_
    refine jk_seq ?_
    refine jk_region ?_
    refine zq_move ?_
    refine zq_move ?_
    refine zq_move ?_
    refine zq_cutLo ?_
    refine jk_op (l_appendE (by_ := 40) (s := 5) (σ := ρ) (w0 := .slice (cutP q c k 5) (l.length - k) (c - k)) (news := (l.drop k).flatMap encH) (m := (l.drop k).length) rfl rfl rfl rfl rfl rfl rfl hO1 takeZ (slE_lo encH_len hv2 hcap.le hk rfl) (fun b o h => cellsR h memZ) (ones_H _) (by rw [List.length_drop]; simp only [maxLen]; omega) (by rw [List.length_drop]; omega)) rfl rfl rfl ?_
    rintro u2 _ ⟨σ2, hO2, rfl⟩
    refine zq_assign ?_
    refine jk_nil ?_
    refine jk_ret_any (res1 rfl rfl) (by (repeat (first | exact rs_nil | (refine rs_cons ?_ ?_; (focus ((repeat (first | exact .here | apply Mem.there | apply Take.there)); first | done | fail))) | exact fun ρ hρ => hρ | (intro ρ hρ; repeat (first | exact hρ | refine List.mem_cons_of_mem _ ?_)))); first | done | fail) selZ ⟨σ2, ?_, rfl⟩
    rw [takeW_next hp hstop, insL_len]
    unfold insL
    rw [List.flatMap_append, List.flatMap_cons, ← List.append_assoc]
    have e : k + 1 + (l.drop k).length = l.length + 1 := by rw [List.length_drop]; omega
    rw [e] at hO2
    exact hO2
end Go.Proofs.Ytnbihndlbopmeaa
/- One more hold, of the program and of the reference. -/
namespace Go.Proofs.Ytnbihndlbopmeaa
open Go.Eng Go.Step
set_option maxRecDepth 100000
set_option maxHeartbeats 4000000

set_option maxHeartbeats 16000000 in
theorem bsearchH_spec (ρ : PH) (v : Value) (l : List Hd) (h : Hd) (hv : HdAt ρ v l) (hs : SortH l) (hl : l.length ≤ 1000) :
    Ans Try.prog (fv 48) [v, .agg #[int h.n, int h.a, int h.b, int h.s, int h.k], fv 49] [ρ] (fun r => ∃ (k : Nat) (bo : Bool), k ≤ l.length ∧ (∀ x ∈ l.take k, cmpHd x h < 0) ∧ (∀ x ∈ l.drop k, 0 ≤ cmpHd x h) ∧ r = .tuple #[int k, .bool bo]) := by
  obtain ⟨q, c, rfl, hr⟩ := hv.val encH_len
  have hgi := List.pairwise_iff_getElem.1 hs
  refine spec_in (cap := []) Try.func48 rfl rfl Try.ntmps48 rfl (by (repeat (first | exact EnvA.nil EnvI.nil | apply EnvA.cons | apply EnvA.nil | exact EnvI.nil | apply EnvI.cons)); first | done | fail) (fun N β => ?_)
  refine jk_seq ?_
  refine jk_region ?_
  refine jk_op (l_boxS rfl) rfl rfl rfl ?_
  rintro _ _ ⟨b4, rfl, rfl⟩
  refine jk_freeze (ρ := sng b4 _) takeZ ?_
  have c0 : RdN (sng b4 (.cells #[int h.n, int h.a, int h.b, int h.s, int h.k] 47 (0, 0))) b4 0 [int h.n, int h.a, int h.b, int h.s, int h.k] := rdN_sng (vs := [int h.n, int h.a, int h.b, int h.s, int h.k])
  refine zq_assign ?_
  refine zq_assign ?_
  refine jk_nil ?_
  refine jk_seq ?_
  refine jk_region ?_
  refine zq_move ?_
  refine zq_len ?_
  refine zq_assign ?_
  refine jk_nil ?_
  refine jk_seq ?_
  refine jk_region ?_
  refine zq_move ?_
  refine zq_assign ?_
  refine zq_assign ?_
  refine jk_nil ?_
  refine jk_seq ?_
  refine jk_block ?_
  refine jk_loop [0, 2, 4, 8] (X := Nat × Nat) (0, l.length) (fun x => x.1 ≤ x.2 ∧ x.2 ≤ l.length ∧ (∀ y ∈ l.take x.1, cmpHd y h < 0) ∧ (∀ y ∈ l.drop x.2, 0 ≤ cmpHd y h)) (fun x => [(9, int x.1), (10, int x.2)]) (fun _ => []) (fun x => x.2 - x.1)
    pickZ ⟨by dsimp only; omega, by dsimp only; omega, by simp, by simp⟩ covZ selZ ?_
  rintro ⟨i, j⟩ ⟨h1, h2, h3, h4⟩
  dsimp only at h1 h2 h3 h4 ⊢
  by_cases hlt : i < j
  · have hh : (i + j) / 2 < l.length := by omega
    have hx := List.getElem?_eq_getElem hh
    obtain ⟨b', o, rfl, hRd, _⟩ := hdRow5 hr hx
    have hcm := compare_spec l[(i + j) / 2] h
    have hlow : cmpHd l[(i + j) / 2] h < 0 → ∀ y ∈ l.take ((i + j) / 2 + 1), cmpHd y h < 0 := fun hc y hy => by
      obtain ⟨u, hu, rfl⟩ := List.getElem_of_mem hy
      rw [List.length_take] at hu
      rw [List.getElem_take]
      by_cases e : u = (i + j) / 2
      · subst e; exact hc
      · exact cmpHd_lt_trans (hgi u ((i + j) / 2) (by omega) hh (by omega)) hc
    have hup : 0 ≤ cmpHd l[(i + j) / 2] h → ∀ y ∈ l.drop ((i + j) / 2), 0 ≤ cmpHd y h := fun hc y hy => by
      obtain ⟨u, hu, rfl⟩ := List.getElem_of_mem hy
      rw [List.length_drop] at hu
      rw [List.getElem_drop]
      by_cases e : u = 0
      · subst e; simpa using hc
      · by_cases d : cmpHd l[(i + j) / 2 + u] h < 0
        · have := cmpHd_lt_trans (hgi ((i + j) / 2) ((i + j) / 2 + u) hh (by omega) (by omega)) d
          omega
        · omega
    generalize l[(i + j) / 2] = x at hRd hcm hlow hup
    refine jk_seq ?_
    refine jk_seq ?_
    refine jk_region ?_
    refine zq_move ?_
    refine zq_move ?_
    refine zq_lt ?_
    refine jk_nil ?_
    refine jk_if_t rfl ?_
    refine jk_skip ?_
    refine jk_block ?_
    refine jk_seq ?_
    refine jk_region ?_
    refine zq_move ?_
    refine zq_move ?_
    refine zq_add ?_
    rw [show (i : Int) + (j : Int) = ((i + j : Nat) : Int) from by omega]
    focus ((refine' jk_q _ rfl rfl rfl _; rotate_left; (apply q_toU; exact rfl; exact rfl; exact rfl; omega)))
    focus ((refine' jk_q _ rfl rfl rfl _; rotate_left; (apply q_half64; exact rfl; exact rfl; decide)))
    refine zq_toInt ?_
    refine zq_assign ?_
    refine jk_nil ?_
    refine jk_seq ?_
    refine jk_draw (.q 0 (.q 1 (.q 2 (.q 3 (.q 4 (.q 5 (.l 6 .e (.q 7 .nil)))))))) [] rfl (by kernel_rfl) Sel.nil ?_
    refine zd_move ?_
    refine zd_move ?_
    refine zd_move ?_
    refine zd_idxN ?_
    refine zd_loadS ?_
    refine zd_loadS ?_
    refine dj_l (a_call rfl hcm rfl rfl rdZ rfl rfl ?_)
    rintro _ rfl
    by_cases hc : cmpHd x h < 0
    · have hnew := hlow hc
      generalize cmpHd x h = z at hc hlow hup
      refine zd_lt ?_
      refine dj_end ?_
      refine jk_if_t rfl ?_
      refine jk_region ?_
      refine zq_move ?_
      refine zq_inc ?_
      refine zq_assign ?_
      refine jk_nil ?_
      refine jk_blk ?_
      exact jk_round ((i + j) / 2 + 1, j) ⟨by dsimp only; omega, h2, hnew, h4⟩ (by dsimp only; omega) covZ selZ
    · have hnew := hup (by omega)
      generalize cmpHd x h = z at hc hlow hup
      refine zd_ltF ?_
      refine dj_end ?_
      refine jk_if_f rfl ?_
      refine jk_region ?_
      refine zq_move ?_
      refine zq_assign ?_
      refine jk_nil ?_
      refine jk_blk ?_
      exact jk_round (i, (i + j) / 2) ⟨by dsimp only; omega, by dsimp only; omega, h3, hnew⟩ (by dsimp only; omega) covZ selZ
  · have e : i = j := by omega
    subst e
    by_cases hlt2 : i < l.length
    · have hx := List.getElem?_eq_getElem hlt2
      obtain ⟨b', o, rfl, hRd, _⟩ := hdRow5 hr hx
      have hcm := compare_spec l[i] h
      generalize l[i] = x at hRd hcm
      refine jk_seq ?_
      refine jk_seq ?_
      refine jk_region ?_
      refine zq_move ?_
      refine zq_move ?_
      refine zq_ltF ?_
      refine jk_nil ?_
      refine jk_if_f rfl ?_
      refine jk_exit rfl ?_
      refine jk_seq ?_
      refine jk_draw (.q 0 (.q 1 (.q 2 (.q 3 (.q 4 (.q 5 (.q 6 (.q 7 (.q 8 (.q 9 (.q 10 (.l 11 .e (.q 12 (.q 13 (.q 14 (.q 15 .nil)))))))))))))))) [] rfl (by kernel_rfl) Sel.nil ?_
      refine zd_move ?_
      refine zd_move ?_
      refine zd_move ?_
      refine zd_lt ?_
      refine zd_move ?_
      refine zd_move ?_
      refine zd_move ?_
      refine zd_move ?_
      refine zd_idxN ?_
      refine zd_loadS ?_
      refine zd_loadS ?_
      refine dj_l (a_call rfl hcm rfl rfl rdZ rfl rfl ?_)
      rintro _ rfl
      generalize cmpHd x h = z
      by_cases he : z = 0
      · refine zd_eq ?_
        refine zd_pick_t ?_
        refine zd_assign ?_
        refine zd_assign ?_
        refine dj_end ?_
        skip
        exact jk_ret_any (res2 rfl rfl rfl) (by (repeat (first | exact rs_nil | (refine rs_cons ?_ ?_; (focus ((repeat (first | exact .here | apply Mem.there | apply Take.there)); first | done | fail))) | exact fun ρ hρ => hρ | (intro ρ hρ; repeat (first | exact hρ | refine List.mem_cons_of_mem _ ?_)))); first | done | fail) selZ ⟨rfl, i, true, h2, h3, h4, rfl⟩
      · refine zd_eqF ?_
        refine zd_pick_t ?_
        refine zd_assign ?_
        refine zd_assign ?_
        refine dj_end ?_
        skip
        exact jk_ret_any (res2 rfl rfl rfl) (by (repeat (first | exact rs_nil | (refine rs_cons ?_ ?_; (focus ((repeat (first | exact .here | apply Mem.there | apply Take.there)); first | done | fail))) | exact fun ρ hρ => hρ | (intro ρ hρ; repeat (first | exact hρ | refine List.mem_cons_of_mem _ ?_)))); first | done | fail) selZ ⟨rfl, i, false, h2, h3, h4, rfl⟩
    · refine jk_seq ?_
      refine jk_seq ?_
      refine jk_region ?_
      refine zq_move ?_
      refine zq_move ?_
      refine zq_ltF ?_
      refine jk_nil ?_
      refine jk_if_f rfl ?_
      refine jk_exit rfl ?_
      refine jk_seq ?_
      refine jk_draw (.q 0 (.q 1 (.q 2 (.q 3 (.q 4 (.q 5 (.q 6 (.q 7 (.q 8 (.q 9 (.q 10 (.q 11 (.q 12 (.q 13 (.q 14 (.q 15 .nil)))))))))))))))) [] rfl (by kernel_rfl) Sel.nil ?_
      refine zd_move ?_
      refine zd_move ?_
      refine zd_move ?_
      refine zd_ltF ?_
      refine zd_move ?_
      refine dj_pass rfl rfl rfl rfl rfl ?_
      refine dj_pass rfl rfl rfl rfl rfl ?_
      refine dj_pass rfl rfl rfl rfl rfl ?_
      refine dj_pass rfl rfl rfl rfl rfl ?_
      refine dj_pass rfl rfl rfl rfl rfl ?_
      refine dj_pass rfl rfl rfl rfl rfl ?_
      refine dj_pass rfl rfl rfl rfl rfl ?_
      refine dj_pass rfl rfl rfl rfl rfl ?_
      refine zd_pick_f ?_
      refine zd_assign ?_
      refine zd_assign ?_
      refine dj_end ?_
      skip
      exact jk_ret_any (res2 rfl rfl rfl) (by (repeat (first | exact rs_nil | (refine rs_cons ?_ ?_; (focus ((repeat (first | exact .here | apply Mem.there | apply Take.there)); first | done | fail))) | exact fun ρ hρ => hρ | (intro ρ hρ; repeat (first | exact hρ | refine List.mem_cons_of_mem _ ?_)))); first | done | fail) selZ ⟨rfl, i, false, h2, h3, h4, rfl⟩
theorem chkH_sort {qs : List Int} {cs : List Ct} {l : List Hd} (h : chkH qs cs l = 0) : SortH l ∧ fitB qs l = true ∧ ∀ (j : Nat) (q : Int), qs[j]? = some q → 0 ≤ q ∧ q ≤ 1073741824 := by
  have hp := chkH_pl h
  refine ⟨?_, ?_, (chkPl_quo hp).2⟩
  · refine sortH_of (nq := qs.length) ?_
    unfold chkH at h
    rw [if_neg (by simpa using hp)] at h
    by_cases c : 512 < l.length
    · rw [if_pos c] at h; omega
    · rw [if_neg c] at h
      by_cases d : firstE (hdE qs.length l) l.length = 0
      · exact d
      · rw [if_pos d] at h; exact h
  · unfold chkH at h
    rw [if_neg (by simpa using hp)] at h
    by_cases c : 512 < l.length
    · rw [if_pos c] at h; omega
    · rw [if_neg c] at h
      by_cases d : firstE (hdE qs.length l) l.length = 0
      · rw [if_neg (by simpa using d)] at h
        by_cases e : fitB qs l = true
        · exact e
        · rw [if_neg e] at h; omega
      · rw [if_pos d] at h; omega
theorem insH_ok {nq : Nat} {l : List Hd} {h : Hd} (hok : ∀ x ∈ l, okHd nq x) (hh : okHd nq h) : ∀ x ∈ insH l h, okHd nq x := fun x hx => by
  rcases (insW_mem _ l h x).1 hx with rfl | hx
  · exact hh
  · exact hok x hx
theorem insH_len (l : List Hd) (h : Hd) : (insH l h).length = l.length + 1 := insW_len _ _ _
set_option maxHeartbeats 16000000 in
theorem add28_spec (ρ τ σ : PH) (pq pc : Option Addr) (kq kc : Nat) (qs : List Int) (cs : List Ct) (v : Value) (l : List Hd) (h : Hd) (hq : IntsAt ρ (.slice pq qs.length kq) qs) (hc : CtAt τ (.slice pc cs.length kc) cs) (hcap : cs.length ≤ kc) (lq : qs.length ≤ 9223372036854775807) (lc : cs.length ≤ 9223372036854775807) (hv : HdAt σ v l) (hl : l.length ≤ 9223372036854775807) :
    Makes Try.prog (fv 23) [.agg #[.slice pq qs.length kq, .slice pc cs.length kc], v, .agg #[int h.n, int h.a, int h.b, int h.s, int h.k]] [ρ, τ, σ] (fun r σ' => ∃ u, r = .tuple #[u, int (addR qs cs l h).2] ∧ OwnS 47 5 u (addR qs cs l h).1.length ((addR qs cs l h).1.flatMap encH) σ') := by
  have hv2 := hv
  obtain ⟨q, c, rfl, hr⟩ := hv.val encH_len
  obtain ⟨_, _, e, hrq⟩ := hq.val Eng.encI_len
  simp only [Value.slice.injEq] at e
  obtain ⟨rfl, _, rfl⟩ := e
  refine spec_in (cap := []) Try.func23 rfl rfl Try.ntmps23 rfl (by (repeat (first | exact EnvA.nil EnvI.nil | apply EnvA.cons | apply EnvA.nil | exact EnvI.nil | apply EnvI.cons)); first | done | fail) (fun N β => ?_)
  refine jk_emp ?_
  refine jk_seq ?_
  refine jk_region ?_
  refine jk_op (l_boxS rfl) rfl rfl rfl ?_
  rintro _ _ ⟨b1, rfl, rfl⟩
  refine jk_freeze (ρ := sng b1 _) takeZ ?_
  refine jk_op (l_boxS rfl) rfl rfl rfl ?_
  rintro _ _ ⟨b2, rfl, rfl⟩
  refine jk_freeze (ρ := sng b2 _) takeZ ?_
  have c1 : RdN (sng b1 (.cells #[.slice pq qs.length kq, .slice pc cs.length kc] 25 (0, 0))) b1 0 [.slice pq qs.length kq, .slice pc cs.length kc] := rdN_sng (vs := [.slice pq qs.length kq, .slice pc cs.length kc])
  have c10 : rdc (sng b1 (.cells #[.slice pq qs.length kq, .slice pc cs.length kc] 25 (0, 0))) b1 0 = some (.slice pq qs.length kq) := by rw [rdc_sng]; rfl
  have c2 : RdN (sng b2 (.cells #[int h.n, int h.a, int h.b, int h.s, int h.k] 47 (0, 0))) b2 0 [int h.n, int h.a, int h.b, int h.s, int h.k] := rdN_sng (vs := [int h.n, int h.a, int h.b, int h.s, int h.k])
  refine zq_assign ?_
  refine zq_assign ?_
  refine jk_nil ?_
  refine jk_seq ?_
  refine jk_seq ?_
  refine jk_region ?_
  refine zq_loadS ?_
  refine zq_move ?_
  refine jk_call (check28_spec ρ τ σ pq pc kq kc qs cs _ l hq hc hcap lq lc hv2 hl) rfl rfl rdZ rfl rfl ?_
  rintro _ rfl
  by_cases h0 : chkH qs cs l = 0
  rotate_left
  · have hR : addR qs cs l h = ([], 1) := by unfold addR; rw [if_pos h0]
    rw [hR]
    generalize chkH qs cs l = z at h0
    refine zq_ne ?_
    refine jk_nil ?_
    refine jk_if_t rfl ?_
    refine jk_seq ?_
    refine jk_region ?_
    refine zq_assign ?_
    refine zq_assign ?_
    refine jk_nil ?_
    exact jk_ret_any (res2 rfl rfl rfl) (by (repeat (first | exact rs_nil | (refine rs_cons ?_ ?_; (focus ((repeat (first | exact .here | apply Mem.there | apply Take.there)); first | done | fail))) | exact fun ρ hρ => hρ | (intro ρ hρ; repeat (first | exact hρ | refine List.mem_cons_of_mem _ ?_)))); first | done | fail) selZ ⟨emp, ⟨_, rfl, OwnS.nil _ _⟩, rfl⟩
  rw [h0]
  obtain ⟨hok, hlen, hql⟩ := chkH_ok h0
  obtain ⟨hsort, hfit, hquo⟩ := chkH_sort h0
  refine zq_neF ?_
  refine jk_nil ?_
  refine jk_if_f rfl ?_
  refine jk_skip ?_
  refine jk_seq ?_
  refine jk_seq ?_
  refine jk_region ?_
  refine zq_loadS ?_
  refine zq_loadS ?_
  refine jk_call (valid28_spec (.slice pq qs.length kq) (.slice pc cs.length kc) ρ qs kq pq h rfl rfl) rfl rfl rdZ rfl rfl ?_
  rintro _ rfl
  by_cases hh : okHd qs.length h
  rotate_left
  · have hR : addR qs cs l h = ([], 2) := by unfold addR; rw [if_neg (fun h => h h0), if_pos hh]
    rw [hR, decide_eq_false hh]
    refine zq_not ?_
    refine jk_nil ?_
    refine jk_if_t rfl ?_
    refine jk_seq ?_
    refine jk_region ?_
    refine zq_assign ?_
    refine zq_assign ?_
    refine jk_nil ?_
    exact jk_ret_any (res2 rfl rfl rfl) (by (repeat (first | exact rs_nil | (refine rs_cons ?_ ?_; (focus ((repeat (first | exact .here | apply Mem.there | apply Take.there)); first | done | fail))) | exact fun ρ hρ => hρ | (intro ρ hρ; repeat (first | exact hρ | refine List.mem_cons_of_mem _ ?_)))); first | done | fail) selZ ⟨emp, ⟨_, rfl, OwnS.nil _ _⟩, rfl⟩
  rw [decide_eq_true hh]
  by_cases hfull : l.length = 512
  · have hR : addR qs cs l h = ([], 4) := by unfold addR; rw [if_neg (fun h => h h0), if_neg (fun h => h hh), if_pos hfull]
    rw [hR]
    refine zq_not ?_
    refine jk_nil ?_
    refine jk_if_f rfl ?_
    refine jk_skip ?_
    refine jk_seq ?_
    refine jk_seq ?_
    refine jk_region ?_
    refine zq_move ?_
    refine zq_len ?_
    refine zq_eq ?_
    refine jk_nil ?_
    refine jk_if_t rfl ?_
    refine jk_seq ?_
    refine jk_region ?_
    refine zq_assign ?_
    refine zq_assign ?_
    refine jk_nil ?_
    exact jk_ret_any (res2 rfl rfl rfl) (by (repeat (first | exact rs_nil | (refine rs_cons ?_ ?_; (focus ((repeat (first | exact .here | apply Mem.there | apply Take.there)); first | done | fail))) | exact fun ρ hρ => hρ | (intro ρ hρ; repeat (first | exact hρ | refine List.mem_cons_of_mem _ ?_)))); first | done | fail) selZ ⟨emp, ⟨_, rfl, OwnS.nil _ _⟩, rfl⟩
  refine zq_not ?_
  refine jk_nil ?_
  refine jk_if_f rfl ?_
  refine jk_skip ?_
  refine jk_seq ?_
  refine jk_seq ?_
  refine jk_region ?_
  refine zq_move ?_
  refine zq_len ?_
  refine zq_eqF ?_
  refine jk_nil ?_
  refine jk_if_f rfl ?_
  refine jk_skip ?_
  refine jk_seq ?_
  refine jk_region ?_
  refine zq_move ?_
  refine zq_loadS ?_
  refine jk_call (bsearchH_spec σ _ l h hv2 hsort (by omega)) rfl rfl rdZ rfl rfl ?_
  rintro _ ⟨k, bo, hk, hk1, hk2, rfl⟩
  have hins : insL l k h = insH l h := insL_W (fun x hx => cmpHd_anti hx) l k hk1 hk2
  have hcl := cloneH_spec σ (.slice q l.length c) l hv2 (by omega)
  refine zq_move ?_
  refine zq_extract ?_
  refine zq_extract ?_
  refine zq_assign ?_
  refine zq_assign ?_
  refine jk_nil ?_
  refine jk_seq ?_
  have hn0 : 0 ≤ h.n ∧ h.n < qs.length := hh.1
  obtain ⟨nn, hnn⟩ : ∃ nn : Nat, h.n = nn := ⟨h.n.toNat, by omega⟩
  have hnl : nn < qs.length := by omega
  have hQ := List.getElem?_eq_getElem hnl
  obtain ⟨bq, oq, rfl, gq⟩ := hrq.int hQ
  have hQb := hquo nn _ hQ
  have hgd : qs.getD h.n.toNat 0 = qs[nn] := by rw [hnn, List.getD_eq_getElem?_getD]; simp [hQ]
  have hfin := fit_ins hok hh hfit (by rw [hgd]; exact hQb.1)
  rw [hgd] at hfin
  have hlev := fun (σ' : PH) (u : Value) (hu : HdAt σ' u (insH l h)) => levels_spec σ' u (insH l h) h.n qs.length hu (insH_ok hok hh) (by rw [insH_len]; omega)
  have hll := lvH_len (insH l h) h.n
  rw [insH_len] at hll
  rw [hnn] at hlev hfin hll
  have c20 : rdc (sng b2 (.cells #[int h.n, int h.a, int h.b, int h.s, int h.k] 47 (0, 0))) b2 0 = some (int nn) := by rw [rdc_sng, ← hnn]; rfl
  refine jk_draw (.q 0 (.q 2 (.q 3 (.l2 1 .e (.l 4 .e (.l 5 .b (.q 6 .nil))) 4 .e (.l 1 .e (.l 5 .b (.q 6 .nil))))))) [] rfl (by kernel_rfl) Sel.nil ?_
  repeat' (first
    | (refine zd_move ?_)
    | (refine zd_loadS ?_)
    | (refine dj_l2 ?_ ?_)
    | (refine zE_buildSlice ?_; rintro _ _ ⟨b, rfl, rfl⟩)
    | fail)
  · refine a_callM rfl hcl rfl rfl rdZ rfl rfl ?_
    rintro ucl _ ⟨σc, hOc, rfl⟩
    refine ze_buildSlice ?_; rintro _ _ ⟨b, rfl, rfl⟩
    refine dj_l (a_callH rfl (insertH_spec σc b ucl l k h hOc hk (by omega)) rfl rfl (by (repeat (first | exact Takes.nil | (apply Takes.cons; exact (by (repeat (first | exact .here | apply Take.there)); first | done | fail)))); first | done | fail) rdZ rfl rfl (fun _ _ _ w hw => hw.sel Sel.nil) ?_)
    rintro ui _ ⟨σi, hOi, rfl⟩
    rw [hins] at hOi
    refine zd_assign ?_
    refine dj_end ?_
    refine jk_seq ?_
    refine jk_seq ?_
    refine jk_draw (.q 0 (.q 1 (.q 2 (.q 5 (.q 6 (.q 7 (.q 8 (.q 9 (.q 10 (.l 3 .e (.l 4 .e (.q 11 .nil)))))))))))) [] rfl (by kernel_rfl) Sel.nil ?_
    refine zd_move ?_
    refine zd_fld0 ?_
    refine zd_load ?_
    refine zd_fld0 ?_
    refine zd_load ?_
    refine zd_fld0 ?_
    refine zd_load ?_
    refine zd_idx1 ?_
    refine zd_load ?_
    refine dj_l (a_callM rfl (hlev σi ui hOi.at) rfl rfl rdZ rfl rfl ?_)
    rintro ul _ ⟨σl, hOl, rfl⟩
    refine dj_l (a_call rfl (most_spec σl ul _ hOl.at (by omega)) rfl rfl rdZ rfl rfl ?_)
    rintro _ rfl
    by_cases hm : mostL (lvH (insH l h) nn) ≤ qs[nn]
    · rw [decide_eq_true hm] at hfin
      have hR : addR qs cs l h = (insH l h, 0) := by unfold addR; rw [if_neg (fun h => h h0), if_neg (fun h => h hh), if_neg hfull, if_pos hfin]
      rw [hR]
      generalize mostL (lvH (insH l h) nn) = mo at hm
      generalize qs[nn] = Q at hm gq
      refine zd_gtF ?_
      refine dj_end ?_
      refine jk_if_f rfl ?_
      refine jk_skip ?_
      refine jk_seq ?_
      refine jk_region ?_
      refine zq_move ?_
      refine zq_assign ?_
      refine zq_assign ?_
      refine jk_nil ?_
      exact jk_ret_any (res2 rfl rfl rfl) (by (repeat (first | exact rs_nil | (refine rs_cons ?_ ?_; (focus ((repeat (first | exact .here | apply Mem.there | apply Take.there)); first | done | fail))) | exact fun ρ hρ => hρ | (intro ρ hρ; repeat (first | exact hρ | refine List.mem_cons_of_mem _ ?_)))); first | done | fail) selZ ⟨σi, ⟨_, rfl, hOi⟩, rfl⟩
    · rw [decide_eq_false hm] at hfin
      have hR : addR qs cs l h = ([], 15) := by unfold addR; rw [if_neg (fun h => h h0), if_neg (fun h => h hh), if_neg hfull, hfin]; rfl
      rw [hR]
      generalize mostL (lvH (insH l h) nn) = mo at hm
      generalize qs[nn] = Q at hm gq
      refine zd_gt ?_
      refine dj_end ?_
      refine jk_if_t rfl ?_
      refine jk_seq ?_
      refine jk_region ?_
      refine zq_assign ?_
      refine zq_assign ?_
      refine jk_nil ?_
      exact jk_ret_any (res2 rfl rfl rfl) (by (repeat (first | exact rs_nil | (refine rs_cons ?_ ?_; (focus ((repeat (first | exact .here | apply Mem.there | apply Take.there)); first | done | fail))) | exact fun ρ hρ => hρ | (intro ρ hρ; repeat (first | exact hρ | refine List.mem_cons_of_mem _ ?_)))); first | done | fail) selZ ⟨emp, ⟨_, rfl, OwnS.nil _ _⟩, rfl⟩
  · refine dj_l (a_callM rfl hcl rfl rfl rdZ rfl rfl ?_)
    rintro ucl _ ⟨σc, hOc, rfl⟩
    refine dj_l (a_callH rfl (insertH_spec σc b ucl l k h hOc hk (by omega)) rfl rfl (by (repeat (first | exact Takes.nil | (apply Takes.cons; exact (by (repeat (first | exact .here | apply Take.there)); first | done | fail)))); first | done | fail) rdZ rfl rfl (fun _ _ _ w hw => hw.sel Sel.nil) ?_)
    rintro ui _ ⟨σi, hOi, rfl⟩
    rw [hins] at hOi
    refine zd_assign ?_
    refine dj_end ?_
    refine jk_seq ?_
    refine jk_seq ?_
    refine jk_draw (.q 0 (.q 1 (.q 2 (.q 5 (.q 6 (.q 7 (.q 8 (.q 9 (.q 10 (.l 3 .e (.l 4 .e (.q 11 .nil)))))))))))) [] rfl (by kernel_rfl) Sel.nil ?_
    refine zd_move ?_
    refine zd_fld0 ?_
    refine zd_load ?_
    refine zd_fld0 ?_
    refine zd_load ?_
    refine zd_fld0 ?_
    refine zd_load ?_
    refine zd_idx1 ?_
    refine zd_load ?_
    refine dj_l (a_callM rfl (hlev σi ui hOi.at) rfl rfl rdZ rfl rfl ?_)
    rintro ul _ ⟨σl, hOl, rfl⟩
    refine dj_l (a_call rfl (most_spec σl ul _ hOl.at (by omega)) rfl rfl rdZ rfl rfl ?_)
    rintro _ rfl
    by_cases hm : mostL (lvH (insH l h) nn) ≤ qs[nn]
    · rw [decide_eq_true hm] at hfin
      have hR : addR qs cs l h = (insH l h, 0) := by unfold addR; rw [if_neg (fun h => h h0), if_neg (fun h => h hh), if_neg hfull, if_pos hfin]
      rw [hR]
      generalize mostL (lvH (insH l h) nn) = mo at hm
      generalize qs[nn] = Q at hm gq
      refine zd_gtF ?_
      refine dj_end ?_
      refine jk_if_f rfl ?_
      refine jk_skip ?_
      refine jk_seq ?_
      refine jk_region ?_
      refine zq_move ?_
      refine zq_assign ?_
      refine zq_assign ?_
      refine jk_nil ?_
      exact jk_ret_any (res2 rfl rfl rfl) (by (repeat (first | exact rs_nil | (refine rs_cons ?_ ?_; (focus ((repeat (first | exact .here | apply Mem.there | apply Take.there)); first | done | fail))) | exact fun ρ hρ => hρ | (intro ρ hρ; repeat (first | exact hρ | refine List.mem_cons_of_mem _ ?_)))); first | done | fail) selZ ⟨σi, ⟨_, rfl, hOi⟩, rfl⟩
    · rw [decide_eq_false hm] at hfin
      have hR : addR qs cs l h = ([], 15) := by unfold addR; rw [if_neg (fun h => h h0), if_neg (fun h => h hh), if_neg hfull, hfin]; rfl
      rw [hR]
      generalize mostL (lvH (insH l h) nn) = mo at hm
      generalize qs[nn] = Q at hm gq
      refine zd_gt ?_
      refine dj_end ?_
      refine jk_if_t rfl ?_
      refine jk_seq ?_
      refine jk_region ?_
      refine zq_assign ?_
      refine zq_assign ?_
      refine jk_nil ?_
      exact jk_ret_any (res2 rfl rfl rfl) (by (repeat (first | exact rs_nil | (refine rs_cons ?_ ?_; (focus ((repeat (first | exact .here | apply Mem.there | apply Take.there)); first | done | fail))) | exact fun ρ hρ => hρ | (intro ρ hρ; repeat (first | exact hρ | refine List.mem_cons_of_mem _ ?_)))); first | done | fail) selZ ⟨emp, ⟨_, rfl, OwnS.nil _ _⟩, rfl⟩
end Go.Proofs.Ytnbihndlbopmeaa
/- The example of the chapter; the law on free spans. -/
namespace Go.Proofs.Ytnbihndlbopmeaa
open Go.Eng Go.Step
set_option maxRecDepth 100000
set_option maxHeartbeats 4000000

def ex28 : List Hd := [⟨0, 10, 20, 60, 0⟩, ⟨0, 15, 30, 30, 0⟩]
theorem ex28_hts : hts ex28 0 = [10, 15, 20, 30] := by
  obtain ⟨h1, h2⟩ := hts_sa ex28 0
  refine SA.unique h1 (by simp [SA]) (fun x => ?_)
  rw [h2 x, mem_tmH]
  simp only [ex28, List.mem_cons, List.not_mem_nil, or_false, exists_eq_or_imp, exists_eq_left, true_and]
  omega
theorem ex28_lv : lvH ex28 0 = [⟨10, 60⟩, ⟨15, 90⟩, ⟨20, 30⟩, ⟨30, 0⟩] := by
  unfold lvH
  rw [ex28_hts]
  decide
theorem ex28_chk : chkH [100] [] ex28 = 0 := by decide
theorem ex28_prof : profR [100] [] ex28 0 = ([⟨10, 60⟩, ⟨15, 90⟩, ⟨20, 30⟩, ⟨30, 0⟩], 0) := by
  unfold profR
  rw [if_neg (fun h => h ex28_chk), if_neg (by decide), ex28_lv, if_neg (by decide)]
theorem ex28_free (s : Int) (h : ¬ (s < 1 ∨ 65536 < s)) : freeRes [100] [] ex28 0 s = (freeP 100 s [⟨10, 60⟩, ⟨15, 90⟩, ⟨20, 30⟩, ⟨30, 0⟩], 0) := by
  unfold freeRes
  rw [if_neg (fun h => h ex28_chk), if_neg (by simp at h ⊢; omega), ex28_lv]
  rfl
theorem ex28_f50 : freeRes [100] [] ex28 0 50 = ([(0, 10), (20, 1099511627776)], 0) := by rw [ex28_free 50 (by decide)]; decide
theorem ex28_f10 : freeRes [100] [] ex28 0 10 = ([(0, 1099511627776)], 0) := by rw [ex28_free 10 (by decide)]; decide
end Go.Proofs.Ytnbihndlbopmeaa
/- The example of the chapter, walked; the law on free spans. -/
namespace Go.Proofs.Ytnbihndlbopmeaa
open Go.Eng Go.Step
set_option maxRecDepth 100000
set_option maxHeartbeats 4000000

theorem lenOK {e : TypeId} {s : Nat} {v : Value} {n : Nat} {xs : List Value} {ρ : PH} (h : OwnS e s v n xs ρ) : n ≤ 9223372036854775807 := by
  obtain ⟨_, ⟨_, h, _⟩ | ⟨_, cap, _, _, _, h1, h2, _⟩⟩ := h
  · omega
  · simp only [maxLen] at h2; omega
set_option maxHeartbeats 16000000 in
theorem awake_spec : Ans Try.prog (fv 10) [] [] (fun r => r = .bool true) := by
  refine spec_in (cap := []) Try.func10 rfl rfl Try.ntmps10 rfl (by (repeat (first | exact EnvA.nil EnvI.nil | apply EnvA.cons | apply EnvA.nil | exact EnvI.nil | apply EnvI.cons)); first | done | fail) (fun N β => ?_)
  refine jk_emp ?_
  refine jk_seq ?_
  refine jk_region ?_
  refine zq_assign ?_
  refine jk_nil ?_
  refine jk_seq ?_
  refine jk_region ?_
  refine zl_buildSlice ?_; rintro _ _ ⟨b, rfl, rfl⟩
  refine zq_build ?_
  refine zl_allocS ?_; rintro _ _ ⟨b, rfl, rfl⟩
  refine zs_storeS ?_; rintro _ _ ⟨rfl, rfl⟩
  refine jk_nil ?_
  refine jk_seq ?_
  refine jk_region ?_
  refine zq_build ?_
  refine zq_build ?_
  refine zl_buildSlice ?_; rintro _ _ ⟨b, rfl, rfl⟩
  refine zq_assign ?_
  refine jk_nil ?_
  refine jk_seq ?_
  refine jk_region ?_
  refine zq_loadS ?_
  refine zq_move ?_
  revert b; intro bl
  revert b; intro bp
  revert b; intro bq
  have hq : IntsAt (sng bq (.cells #[int 100] 3 (0, 0))) (.slice (some ⟨bq, 0, none⟩) 1 1) [100] := slE_sng (l := [(100 : Int)]) Eng.encI_len
  have hc : CtAt emp (.slice none 0 0) [] := ⟨rfl, .inl ⟨rfl, none, 0, rfl⟩⟩
  have hv : HdAt (sng bl (.cells #[int 0, int 10, int 20, int 60, int 0, int 0, int 15, int 30, int 30, int 0] 47 (0, 0))) (.slice (some ⟨bl, 0, none⟩) 2 2) ex28 := slE_sng (l := ex28) encH_len
  refine jk_freeze (ρ := sng bq _) takeZ ?_
  refine jk_freeze (ρ := sng bl _) takeZ ?_
  refine jk_freeze (ρ := sng bp _) takeZ ?_
  have cp : RdN (sng bp (.cells #[.slice (some ⟨bq, 0, none⟩) 1 1, .slice none 0 0] 25 (0, 0))) bp 0 [.slice (some ⟨bq, 0, none⟩) 1 1, .slice none 0 0] := fun j u hu => by rw [rdc_sng, Nat.zero_add]; simpa using hu
  have h1 := profile_spec _ emp _ (some ⟨bq, 0, none⟩) none 1 0 [100] [] _ ex28 0 hq hc (by simp) (by simp) (by simp) hv (by decide)
  rw [ex28_prof] at h1
  have h2 := free_spec _ emp _ (some ⟨bq, 0, none⟩) none 1 0 [100] [] _ ex28 0 50 hq hc (by simp) (by simp) (by simp) hv (by decide)
  rw [ex28_f50] at h2
  have h3 := free_spec _ emp _ (some ⟨bq, 0, none⟩) none 1 0 [100] [] _ ex28 0 10 hq hc (by simp) (by simp) (by simp) hv (by decide)
  rw [ex28_f10] at h3
  dsimp only at h1 h2 h3
  refine jk_freeze (ρ := emp) takeZ ?_
  refine jk_callM h1 rfl rfl rdZ rfl rfl ?_
  rintro _ σ1 ⟨u1, rfl, hO1⟩
  refine jk_freeze (ρ := σ1) takeZ ?_
  refine zq_move ?_
  refine zq_extract ?_
  refine zq_extract ?_
  refine zq_assign ?_
  refine zq_assign ?_
  refine jk_nil ?_
  refine jk_seq ?_
  refine jk_region ?_
  refine zq_loadS ?_
  refine zq_move ?_
  refine jk_callM h2 rfl rfl rdZ rfl rfl ?_
  rintro _ σ2 ⟨u2, rfl, hO2⟩
  refine jk_freeze (ρ := σ2) takeZ ?_
  refine zq_move ?_
  refine zq_extract ?_
  refine zq_extract ?_
  refine zq_assign ?_
  refine zq_assign ?_
  refine jk_nil ?_
  refine jk_seq ?_
  refine jk_region ?_
  refine zq_loadS ?_
  refine zq_move ?_
  refine jk_callM h3 rfl rfl rdZ rfl rfl ?_
  rintro _ σ3 ⟨u3, rfl, hO3⟩
  refine jk_freeze (ρ := σ3) takeZ ?_
  refine zq_move ?_
  refine zq_extract ?_
  refine zq_extract ?_
  refine zq_assign ?_
  refine zq_assign ?_
  refine jk_nil ?_
  refine jk_seq ?_
  refine jk_region ?_
  refine zq_move ?_
  refine zq_eq ?_
  refine zq_move ?_
  refine zq_move ?_
  refine zq_eq ?_
  refine zq_pick_t ?_
  refine zq_move ?_
  refine zq_move ?_
  refine zq_eq ?_
  refine zq_pick_t ?_
  refine zq_move ?_
  refine zq_move ?_
  refine zq_build ?_
  refine zq_build ?_
  refine zq_build ?_
  refine zq_build ?_
  refine zl_buildSlice ?_; rintro _ _ ⟨b, rfl, rfl⟩
  revert b; intro be
  refine jk_call (equalV_spec σ1 (sng be _) _ _ [⟨10, 60⟩, ⟨15, 90⟩, ⟨20, 30⟩, ⟨30, 0⟩] [⟨10, 60⟩, ⟨15, 90⟩, ⟨20, 30⟩, ⟨30, 0⟩] hO1.at (slE_sng encV_len) (by simp)) rfl rfl rdZ rfl rfl ?_
  rw [decide_eq_true rfl]
  rintro _ rfl
  refine zq_pick_t ?_
  refine zq_move ?_
  refine zq_move ?_
  refine zq_build ?_
  refine zq_build ?_
  refine zl_buildSlice ?_; rintro _ _ ⟨b, rfl, rfl⟩
  revert b; intro be2
  refine jk_call (equalS_spec σ2 (sng be2 _) _ _ [(0, 10), (20, 1099511627776)] [(0, 10), (20, 1099511627776)] hO2.at (slE_sng encS_len) (by simp)) rfl rfl rdZ rfl rfl ?_
  rw [decide_eq_true rfl]
  rintro _ rfl
  refine zq_pick_t ?_
  refine zq_move ?_
  refine zq_move ?_
  refine zq_build ?_
  refine zl_buildSlice ?_; rintro _ _ ⟨b, rfl, rfl⟩
  revert b; intro be3
  refine jk_call (equalS_spec σ3 (sng be3 _) _ _ [(0, 1099511627776)] [(0, 1099511627776)] hO3.at (slE_sng encS_len) (by simp)) rfl rfl rdZ rfl rfl ?_
  rw [decide_eq_true rfl]
  rintro _ rfl
  refine zq_pick_t ?_
  refine zq_assign ?_
  refine jk_nil ?_
  exact jk_ret_any (res1 rfl rfl) (by (repeat (first | exact rs_nil | (refine rs_cons ?_ ?_; (focus ((repeat (first | exact .here | apply Mem.there | apply Take.there)); first | done | fail))) | exact fun ρ hρ => hρ | (intro ρ hρ; repeat (first | exact hρ | refine List.mem_cons_of_mem _ ?_)))); first | done | fail) selZ ⟨rfl, rfl⟩
set_option maxHeartbeats 16000000 in
theorem free_law (ρ τ σ : PH) (pq pc : Option Addr) (kq kc : Nat) (qs : List Int) (cs : List Ct) (v : Value) (l : List Hd) (n s : Int) (hq : IntsAt ρ (.slice pq qs.length kq) qs) (hc : CtAt τ (.slice pc cs.length kc) cs) (hcap : cs.length ≤ kc) (lq : qs.length ≤ 9223372036854775807) (lc : cs.length ≤ 9223372036854775807) (hv : HdAt σ v l) (hl : l.length ≤ 9223372036854775807) :
    Ans Try.prog (fv 3) [.agg #[.slice pq qs.length kq, .slice pc cs.length kc], v, int n, int s] [ρ, τ, σ] (fun r => r = .bool true) := by
  have hv2 := hv
  obtain ⟨q, c, rfl, hr⟩ := hv.val encH_len
  refine spec_in (cap := []) Try.func3 rfl rfl Try.ntmps3 rfl (by (repeat (first | exact EnvA.nil EnvI.nil | apply EnvA.cons | apply EnvA.nil | exact EnvI.nil | apply EnvI.cons)); first | done | fail) (fun N β => ?_)
  refine jk_seq ?_
  refine jk_region ?_
  refine jk_op (l_boxS rfl) rfl rfl rfl ?_
  rintro _ _ ⟨b4, rfl, rfl⟩
  refine jk_freeze (ρ := sng b4 _) takeZ ?_
  have c1 : RdN (sng b4 (.cells #[.slice pq qs.length kq, .slice pc cs.length kc] 25 (0, 0))) b4 0 [.slice pq qs.length kq, .slice pc cs.length kc] := fun j u hu => by rw [rdc_sng, Nat.zero_add]; simpa using hu
  refine zq_assign ?_
  refine jk_nil ?_
  refine jk_seq ?_
  refine jk_seq ?_
  refine jk_region ?_
  refine zq_loadS ?_
  refine zq_move ?_
  refine jk_call (great28_spec pq pc q kq kc c qs cs l) rfl rfl rdZ rfl rfl ?_
  rintro _ rfl
  cases hg : grtH qs cs l with
  | true =>
    refine jk_nil ?_
    refine jk_if_t rfl ?_
    refine jk_seq ?_
    refine jk_region ?_
    focus ((refine jk_call awake_spec rfl rfl rdZ rfl rfl ?_; rintro _ rfl))
    refine zq_assign ?_
    refine jk_nil ?_
    exact jk_ret_any (res1 rfl rfl) (by (repeat (first | exact rs_nil | (refine rs_cons ?_ ?_; (focus ((repeat (first | exact .here | apply Mem.there | apply Take.there)); first | done | fail))) | exact fun ρ hρ => hρ | (intro ρ hρ; repeat (first | exact hρ | refine List.mem_cons_of_mem _ ?_)))); first | done | fail) selZ ⟨rfl, rfl⟩
  | false =>
  refine jk_nil ?_
  refine jk_if_f rfl ?_
  refine jk_skip ?_
  refine jk_seq ?_
  refine jk_region ?_
  refine zq_loadS ?_
  refine zq_move ?_
  refine zq_move ?_
  refine jk_callM (profile_spec ρ τ σ pq pc kq kc qs cs _ l n hq hc hcap lq lc hv2 hl) rfl rfl rdZ rfl rfl ?_
  rintro _ σ1 ⟨u1, rfl, hO1⟩
  refine jk_freeze (ρ := σ1) takeZ ?_
  refine zq_move ?_
  refine zq_extract ?_
  refine zq_extract ?_
  refine zq_assign ?_
  refine zq_assign ?_
  refine jk_nil ?_
  refine jk_seq ?_
  refine jk_region ?_
  refine zq_loadS ?_
  refine zq_move ?_
  refine zq_move ?_
  refine jk_callM (refProfile_spec ρ τ σ pq pc kq kc qs cs _ l n hq hc hcap lq lc hv2 hl) rfl rfl rdZ rfl rfl ?_
  rintro _ σ2 ⟨u2, rfl, hO2⟩
  refine jk_freeze (ρ := σ2) takeZ ?_
  refine zq_move ?_
  refine zq_extract ?_
  refine zq_extract ?_
  refine zq_assign ?_
  refine zq_assign ?_
  refine jk_nil ?_
  refine jk_seq ?_
  refine jk_region ?_
  refine zq_loadS ?_
  refine zq_move ?_
  refine zq_move ?_
  refine zq_move ?_
  refine jk_callM (free_spec ρ τ σ pq pc kq kc qs cs _ l n s hq hc hcap lq lc hv2 hl) rfl rfl rdZ rfl rfl ?_
  rintro _ σ3 ⟨u3, rfl, hO3⟩
  refine jk_freeze (ρ := σ3) takeZ ?_
  refine zq_move ?_
  refine zq_extract ?_
  refine zq_extract ?_
  refine zq_assign ?_
  refine zq_assign ?_
  refine jk_nil ?_
  refine jk_seq ?_
  refine jk_region ?_
  refine zq_loadS ?_
  refine zq_move ?_
  refine zq_move ?_
  refine zq_move ?_
  refine jk_callM (refFree_spec ρ τ σ pq pc kq kc qs cs _ l n s hq hc lq lc hv2 hl) rfl rfl rdZ rfl rfl ?_
  rintro _ σ4 ⟨u4, rfl, hO4⟩
  refine jk_freeze (ρ := σ4) takeZ ?_
  refine zq_move ?_
  refine zq_extract ?_
  refine zq_extract ?_
  refine zq_assign ?_
  refine zq_assign ?_
  refine jk_nil ?_
  refine jk_seq ?_
  refine jk_region ?_
  refine zq_loadS ?_
  refine zq_move ?_
  refine zq_move ?_
  refine jk_call (peak_spec ρ τ σ pq pc kq kc qs cs _ l n hq hc hcap lq lc hv2 hl) rfl rfl rdZ rfl rfl ?_
  rintro _ rfl
  refine zq_move ?_
  refine zq_extract ?_
  refine zq_extract ?_
  refine zq_assign ?_
  refine zq_assign ?_
  refine jk_nil ?_
  refine jk_seq ?_
  refine jk_region ?_
  refine zq_loadS ?_
  refine zq_move ?_
  refine zq_move ?_
  refine jk_call (refPeak_spec ρ τ σ pq pc kq kc qs cs _ l n hq hc hcap lq lc hv2 hl) rfl rfl rdZ rfl rfl ?_
  rintro _ rfl
  generalize (profR qs cs l n).1 = f1 at hO1 hO2
  generalize (freeRes qs cs l n s).1 = f2 at hO3 hO4
  generalize (profR qs cs l n).2 = e1
  generalize (freeRes qs cs l n s).2 = e2
  generalize (peakR qs cs l n).1 = e3
  generalize (peakR qs cs l n).2 = e4
  refine zq_move ?_
  refine zq_extract ?_
  refine zq_extract ?_
  refine zq_assign ?_
  refine zq_assign ?_
  refine jk_nil ?_
  refine jk_seq ?_
  refine jk_region ?_
  refine zq_move ?_
  refine zq_move ?_
  refine jk_call (equalV_spec σ1 σ2 _ _ f1 f1 hO1.at hO2.at (lenOK hO1)) rfl rfl rdZ rfl rfl ?_
  rw [decide_eq_true rfl]
  rintro _ rfl
  refine zq_move ?_
  refine zq_move ?_
  refine zq_move ?_
  refine zq_eq ?_
  refine zq_pick_t ?_
  refine zq_move ?_
  refine zq_move ?_
  refine zq_move ?_
  refine jk_call (equalS_spec σ3 σ4 _ _ f2 f2 hO3.at hO4.at (lenOK hO3)) rfl rfl rdZ rfl rfl ?_
  rw [decide_eq_true rfl]
  rintro _ rfl
  refine zq_pick_t ?_
  refine zq_move ?_
  refine zq_move ?_
  refine zq_move ?_
  refine zq_eq ?_
  refine zq_pick_t ?_
  refine zq_move ?_
  refine zq_move ?_
  refine zq_move ?_
  refine zq_eq ?_
  refine zq_pick_t ?_
  refine zq_move ?_
  refine zq_move ?_
  refine zq_move ?_
  refine zq_eq ?_
  refine zq_pick_t ?_
  refine zq_move ?_
  focus ((refine jk_call awake_spec rfl rfl rdZ rfl rfl ?_; rintro _ rfl))
  refine zq_pick_t ?_
  refine zq_assign ?_
  refine jk_nil ?_
  exact jk_ret_any (res1 rfl rfl) (by (repeat (first | exact rs_nil | (refine rs_cons ?_ ?_; (focus ((repeat (first | exact .here | apply Mem.there | apply Take.there)); first | done | fail))) | exact fun ρ hρ => hρ | (intro ρ hρ; repeat (first | exact hρ | refine List.mem_cons_of_mem _ ?_)))); first | done | fail) selZ ⟨rfl, rfl⟩
end Go.Proofs.Ytnbihndlbopmeaa
/- One more hold, of the reference; the law on holds. -/
namespace Go.Proofs.Ytnbihndlbopmeaa
open Go.Eng Go.Step
set_option maxRecDepth 100000
set_option maxHeartbeats 4000000

set_option maxHeartbeats 16000000 in
theorem refAdd_spec (ρ τ σ : PH) (pq pc : Option Addr) (kq kc : Nat) (qs : List Int) (cs : List Ct) (v : Value) (l : List Hd) (h : Hd) (hq : IntsAt ρ (.slice pq qs.length kq) qs) (hc : CtAt τ (.slice pc cs.length kc) cs) (lq : qs.length ≤ 9223372036854775807) (lc : cs.length ≤ 9223372036854775807) (hv : HdAt σ v l) (hcv : CapOK v) (hl : l.length ≤ 9223372036854775807) :
    Makes Try.prog (fv 30) [.agg #[.slice pq qs.length kq, .slice pc cs.length kc], v, .agg #[int h.n, int h.a, int h.b, int h.s, int h.k]] [ρ, τ, σ] (fun r σ' => ∃ u, r = .tuple #[u, int (addR qs cs l h).2] ∧ OwnS 47 5 u (addR qs cs l h).1.length ((addR qs cs l h).1.flatMap encH) σ') := by
  have hv2 := hv
  obtain ⟨q, c, rfl, hr⟩ := hv.val encH_len
  refine spec_in (cap := []) Try.func30 rfl rfl Try.ntmps30 rfl (by (repeat (first | exact EnvA.nil EnvI.nil | apply EnvA.cons | apply EnvA.nil | exact EnvI.nil | apply EnvI.cons)); first | done | fail) (fun N β => ?_)
  refine jk_seq ?_
  refine jk_region ?_
  refine jk_op (l_boxS rfl) rfl rfl rfl ?_
  rintro _ _ ⟨b1, rfl, rfl⟩
  refine jk_freeze (ρ := sng b1 _) takeZ ?_
  refine jk_op (l_boxS rfl) rfl rfl rfl ?_
  rintro _ _ ⟨b2, rfl, rfl⟩
  refine jk_freeze (ρ := sng b2 _) takeZ ?_
  have c1 : RdN (sng b1 (.cells #[.slice pq qs.length kq, .slice pc cs.length kc] 25 (0, 0))) b1 0 [.slice pq qs.length kq, .slice pc cs.length kc] := rdN_sng (vs := [.slice pq qs.length kq, .slice pc cs.length kc])
  have c2 : RdN (sng b2 (.cells #[int h.n, int h.a, int h.b, int h.s, int h.k] 47 (0, 0))) b2 0 [int h.n, int h.a, int h.b, int h.s, int h.k] := rdN_sng (vs := [int h.n, int h.a, int h.b, int h.s, int h.k])
  refine zq_assign ?_
  refine zq_assign ?_
  refine jk_nil ?_
  refine jk_seq ?_
  refine jk_seq ?_
  refine jk_region ?_
  refine zq_loadS ?_
  refine zq_move ?_
  refine jk_call (refCheck28_spec ρ τ σ pq pc kq kc qs cs _ l hq hc lq lc hv2 hl) rfl rfl rdZ rfl rfl ?_
  rintro _ rfl
  by_cases h0 : chkH qs cs l = 0
  rotate_left
  · have hR : addR qs cs l h = ([], 1) := by unfold addR; rw [if_pos h0]
    rw [hR]
    generalize chkH qs cs l = z at h0
    refine zq_ne ?_
    refine jk_nil ?_
    refine jk_if_t rfl ?_
    refine jk_seq ?_
    refine jk_region ?_
    refine zl_buildSlice ?_; rintro _ _ ⟨b, rfl, rfl⟩
    refine zq_assign ?_
    refine zq_assign ?_
    refine jk_nil ?_
    exact jk_ret_any (res2 rfl rfl rfl) (by (repeat (first | exact rs_nil | (refine rs_cons ?_ ?_; (focus ((repeat (first | exact .here | apply Mem.there | apply Take.there)); first | done | fail))) | exact fun ρ hρ => hρ | (intro ρ hρ; repeat (first | exact hρ | refine List.mem_cons_of_mem _ ?_)))); first | done | fail) selZ ⟨_, ⟨_, rfl, OwnS.empty⟩, rfl⟩
  rw [h0]
  obtain ⟨hok, hlen, hql⟩ := chkH_ok h0
  refine zq_neF ?_
  refine jk_nil ?_
  refine jk_if_f rfl ?_
  refine jk_skip ?_
  refine jk_seq ?_
  refine jk_seq ?_
  refine jk_region ?_
  refine zq_loadS ?_
  refine zq_loadS ?_
  refine jk_call (refValid28_spec (.slice pq qs.length kq) (.slice pc cs.length kc) ρ qs kq pq h rfl rfl) rfl rfl rdZ rfl rfl ?_
  rintro _ rfl
  by_cases hh : okHd qs.length h
  rotate_left
  · have hR : addR qs cs l h = ([], 2) := by unfold addR; rw [if_neg (fun h => h h0), if_pos hh]
    rw [hR, decide_eq_false hh]
    refine zq_not ?_
    refine jk_nil ?_
    refine jk_if_t rfl ?_
    refine jk_seq ?_
    refine jk_region ?_
    refine zl_buildSlice ?_; rintro _ _ ⟨b, rfl, rfl⟩
    refine zq_assign ?_
    refine zq_assign ?_
    refine jk_nil ?_
    exact jk_ret_any (res2 rfl rfl rfl) (by (repeat (first | exact rs_nil | (refine rs_cons ?_ ?_; (focus ((repeat (first | exact .here | apply Mem.there | apply Take.there)); first | done | fail))) | exact fun ρ hρ => hρ | (intro ρ hρ; repeat (first | exact hρ | refine List.mem_cons_of_mem _ ?_)))); first | done | fail) selZ ⟨_, ⟨_, rfl, OwnS.empty⟩, rfl⟩
  rw [decide_eq_true hh]
  by_cases hfull : l.length = 512
  · have hR : addR qs cs l h = ([], 4) := by unfold addR; rw [if_neg (fun h => h h0), if_neg (fun h => h hh), if_pos hfull]
    rw [hR]
    refine zq_not ?_
    refine jk_nil ?_
    refine jk_if_f rfl ?_
    refine jk_skip ?_
    refine jk_seq ?_
    refine jk_seq ?_
    refine jk_region ?_
    refine zq_move ?_
    refine zq_len ?_
    refine zq_eq ?_
    refine jk_nil ?_
    refine jk_if_t rfl ?_
    refine jk_seq ?_
    refine jk_region ?_
    refine zl_buildSlice ?_; rintro _ _ ⟨b, rfl, rfl⟩
    refine zq_assign ?_
    refine zq_assign ?_
    refine jk_nil ?_
    exact jk_ret_any (res2 rfl rfl rfl) (by (repeat (first | exact rs_nil | (refine rs_cons ?_ ?_; (focus ((repeat (first | exact .here | apply Mem.there | apply Take.there)); first | done | fail))) | exact fun ρ hρ => hρ | (intro ρ hρ; repeat (first | exact hρ | refine List.mem_cons_of_mem _ ?_)))); first | done | fail) selZ ⟨_, ⟨_, rfl, OwnS.empty⟩, rfl⟩
  refine zq_not ?_
  refine jk_nil ?_
  refine jk_if_f rfl ?_
  refine jk_skip ?_
  refine jk_seq ?_
  refine jk_seq ?_
  refine jk_region ?_
  refine zq_move ?_
  refine zq_len ?_
  refine zq_eqF ?_
  refine jk_nil ?_
  refine jk_if_f rfl ?_
  refine jk_skip ?_
  refine jk_seq ?_
  refine jk_region ?_
  refine zq_move ?_
  refine zq_loadS ?_
  refine jk_callM (refInsert_spec σ _ l h hv2 hcv (by omega)) rfl rfl rdZ rfl rfl ?_
  rintro ui σi hOi
  refine zq_assign ?_
  refine jk_nil ?_
  refine jk_seq ?_
  refine jk_seq ?_
  refine jk_region ?_
  refine zq_loadS ?_
  refine zq_move ?_
  refine jk_call (fits_spec ρ σi pq pc kq cs.length kc qs ui (insH l h) hq hOi.at (insH_ok hok hh) (by rw [insH_len]; omega)) rfl rfl rdZ rfl rfl ?_
  rintro _ rfl
  cases hfit : fitB qs (insH l h) with
  | true =>
    have hR : addR qs cs l h = (insH l h, 0) := by unfold addR; rw [if_neg (fun h => h h0), if_neg (fun h => h hh), if_neg hfull, if_pos hfit]
    rw [hR]
    refine zq_not ?_
    refine jk_nil ?_
    refine jk_if_f rfl ?_
    refine jk_skip ?_
    refine jk_seq ?_
    refine jk_region ?_
    refine zq_move ?_
    refine zq_assign ?_
    refine zq_assign ?_
    refine jk_nil ?_
    exact jk_ret_any (res2 rfl rfl rfl) (by (repeat (first | exact rs_nil | (refine rs_cons ?_ ?_; (focus ((repeat (first | exact .here | apply Mem.there | apply Take.there)); first | done | fail))) | exact fun ρ hρ => hρ | (intro ρ hρ; repeat (first | exact hρ | refine List.mem_cons_of_mem _ ?_)))); first | done | fail) selZ ⟨_, ⟨_, rfl, hOi⟩, rfl⟩
  | false =>
    have hR : addR qs cs l h = ([], 15) := by unfold addR; rw [if_neg (fun h => h h0), if_neg (fun h => h hh), if_neg hfull, hfit]; rfl
    rw [hR]
    refine zq_not ?_
    refine jk_nil ?_
    refine jk_if_t rfl ?_
    refine jk_seq ?_
    refine jk_region ?_
    refine zl_buildSlice ?_; rintro _ _ ⟨b, rfl, rfl⟩
    refine zq_assign ?_
    refine zq_assign ?_
    refine jk_nil ?_
    exact jk_ret_any (res2 rfl rfl rfl) (by (repeat (first | exact rs_nil | (refine rs_cons ?_ ?_; (focus ((repeat (first | exact .here | apply Mem.there | apply Take.there)); first | done | fail))) | exact fun ρ hρ => hρ | (intro ρ hρ; repeat (first | exact hρ | refine List.mem_cons_of_mem _ ?_)))); first | done | fail) selZ ⟨_, ⟨_, rfl, OwnS.empty⟩, rfl⟩
set_option maxHeartbeats 16000000 in
theorem holds_law (ρ τ σ : PH) (pq pc : Option Addr) (kq kc : Nat) (qs : List Int) (cs : List Ct) (v : Value) (l : List Hd) (h : Hd) (hq : IntsAt ρ (.slice pq qs.length kq) qs) (hc : CtAt τ (.slice pc cs.length kc) cs) (hcap : cs.length ≤ kc) (lq : qs.length ≤ 9223372036854775807) (lc : cs.length ≤ 9223372036854775807) (hv : HdAt σ v l) (hcv : CapOK v) (hl : l.length ≤ 9223372036854775807) :
    Ans Try.prog (fv 7) [.agg #[.slice pq qs.length kq, .slice pc cs.length kc], v, .agg #[int h.n, int h.a, int h.b, int h.s, int h.k]] [ρ, τ, σ] (fun r => r = .bool true) := by
  have hv2 := hv
  obtain ⟨q, c, rfl, hr⟩ := hv.val encH_len
  refine spec_in (cap := []) Try.func7 rfl rfl Try.ntmps7 rfl (by (repeat (first | exact EnvA.nil EnvI.nil | apply EnvA.cons | apply EnvA.nil | exact EnvI.nil | apply EnvI.cons)); first | done | fail) (fun N β => ?_)
  refine jk_seq ?_
  refine jk_region ?_
  refine jk_op (l_boxS rfl) rfl rfl rfl ?_
  rintro _ _ ⟨b1, rfl, rfl⟩
  refine jk_freeze (ρ := sng b1 _) takeZ ?_
  refine jk_op (l_boxS rfl) rfl rfl rfl ?_
  rintro _ _ ⟨b2, rfl, rfl⟩
  refine jk_freeze (ρ := sng b2 _) takeZ ?_
  have c1 : RdN (sng b1 (.cells #[.slice pq qs.length kq, .slice pc cs.length kc] 25 (0, 0))) b1 0 [.slice pq qs.length kq, .slice pc cs.length kc] := rdN_sng (vs := [.slice pq qs.length kq, .slice pc cs.length kc])
  have c2 : RdN (sng b2 (.cells #[int h.n, int h.a, int h.b, int h.s, int h.k] 47 (0, 0))) b2 0 [int h.n, int h.a, int h.b, int h.s, int h.k] := rdN_sng (vs := [int h.n, int h.a, int h.b, int h.s, int h.k])
  have c24 : rdc (sng b2 (.cells #[int h.n, int h.a, int h.b, int h.s, int h.k] 47 (0, 0))) b2 4 = some (int h.k) := by rw [rdc_sng]; rfl
  refine zq_assign ?_
  refine jk_nil ?_
  refine jk_seq ?_
  refine jk_seq ?_
  refine jk_region ?_
  refine zq_loadS ?_
  refine zq_move ?_
  refine jk_call (great28_spec pq pc q kq kc c qs cs l) rfl rfl rdZ rfl rfl ?_
  rintro _ rfl
  cases hg : grtH qs cs l with
  | true =>
    refine jk_nil ?_
    refine jk_if_t rfl ?_
    refine jk_seq ?_
    refine jk_region ?_
    focus ((refine jk_call awake_spec rfl rfl rdZ rfl rfl ?_; rintro _ rfl))
    refine zq_assign ?_
    refine jk_nil ?_
    exact jk_ret_any (res1 rfl rfl) (by (repeat (first | exact rs_nil | (refine rs_cons ?_ ?_; (focus ((repeat (first | exact .here | apply Mem.there | apply Take.there)); first | done | fail))) | exact fun ρ hρ => hρ | (intro ρ hρ; repeat (first | exact hρ | refine List.mem_cons_of_mem _ ?_)))); first | done | fail) selZ ⟨rfl, rfl⟩
  | false =>
  have hlen : l.length ≤ 1000 := by
    have := of_decide_eq_false hg
    omega
  refine jk_nil ?_
  refine jk_if_f rfl ?_
  refine jk_skip ?_
  refine jk_seq ?_
  refine jk_region ?_
  refine zq_loadS ?_
  refine zq_move ?_
  refine zq_loadS ?_
  refine jk_callM (add28_spec ρ τ σ pq pc kq kc qs cs _ l h hq hc hcap lq lc hv2 hl) rfl rfl rdZ rfl rfl ?_
  rintro _ σ1 ⟨u1, rfl, hO1⟩
  refine jk_freeze (ρ := σ1) takeZ ?_
  refine zq_move ?_
  refine zq_extract ?_
  refine zq_extract ?_
  refine zq_assign ?_
  refine zq_assign ?_
  refine jk_nil ?_
  refine jk_seq ?_
  refine jk_region ?_
  refine zq_loadS ?_
  refine zq_move ?_
  refine zq_loadS ?_
  refine jk_callM (refAdd_spec ρ τ σ pq pc kq kc qs cs _ l h hq hc lq lc hv2 hcv hl) rfl rfl rdZ rfl rfl ?_
  rintro _ σ2 ⟨u2, rfl, hO2⟩
  refine jk_freeze (ρ := σ2) takeZ ?_
  generalize (addR qs cs l h).1 = f1 at hO1 hO2
  generalize (addR qs cs l h).2 = e1
  refine zq_move ?_
  refine zq_extract ?_
  refine zq_extract ?_
  refine zq_assign ?_
  refine zq_assign ?_
  refine jk_nil ?_
  refine jk_seq ?_
  refine jk_draw (.q 0 (.q 1 (.q 3 (.q 4 (.l 2 .e (.l 5 .e (.q 6 (.q 7 (.q 8 (.q 9 (.l 10 .e (.q 11 (.q 12 (.q 13 (.q 14 (.q 15 (.q 16 (.q 17 (.q 18 (.q 19 (.q 20 (.q 22 (.q 23 (.q 24 (.l 21 .e (.l 25 .e (.l 26 .e (.q 27 (.q 28 (.l 29 .e (.q 30 (.q 31 .nil)))))))))))))))))))))))))))))))) [] rfl (by kernel_rfl) Sel.nil ?_
  refine zd_loadS ?_
  refine zd_move ?_
  refine zd_loadS ?_
  refine zd_move ?_
  refine dj_l (a_call rfl (check28_spec ρ τ σ pq pc kq kc qs cs _ l hq hc hcap lq lc hv2 hl) rfl rfl rdZ rfl rfl ?_)
  rintro _ rfl
  refine dj_l (a_call rfl (refCheck28_spec ρ τ σ pq pc kq kc qs cs _ l hq hc lq lc hv2 hl) rfl rfl rdZ rfl rfl ?_)
  rintro _ rfl
  generalize chkH qs cs l = z
  refine zd_eq ?_
  refine zd_move ?_
  refine zd_move ?_
  refine zd_move ?_
  refine dj_l (a_call rfl (same28_spec σ1 σ2 _ _ f1 f1 hO1.at hO2.at (lenOK hO1)) rfl rfl rdZ rfl rfl ?_)
  rw [decide_eq_true rfl]
  rintro _ rfl
  refine zd_pick_t ?_
  refine zd_move ?_
  refine zd_move ?_
  refine zd_move ?_
  refine zd_eq ?_
  refine zd_pick_t ?_
  refine zd_move ?_
  refine zd_move ?_
  refine zd_fld0 ?_
  refine zd_load ?_
  refine zd_move ?_
  refine zd_fld0 ?_
  refine zd_load ?_
  refine dj_l (a_callM rfl (release_spec σ _ l h.k hv2 hlen) rfl rfl rdZ rfl rfl ?_)
  rintro u3 _ ⟨σ3, hO3, rfl⟩
  refine dj_l (a_callM rfl (refRelease_spec σ _ l h.k hv2 hlen) rfl rfl rdZ rfl rfl ?_)
  rintro u4 _ ⟨σ4, hO4, rfl⟩
  refine dj_l (a_call rfl (same28_spec σ3 σ4 _ _ _ _ hO3.at hO4.at (lenOK hO3)) rfl rfl rdZ rfl rfl ?_)
  rw [decide_eq_true rfl]
  rintro _ rfl
  refine zd_pick_t ?_
  refine zd_move ?_
  refine dj_l (a_call rfl awake_spec rfl rfl rdZ rfl rfl ?_)
  rintro _ rfl
  refine zd_pick_t ?_
  refine zd_assign ?_
  refine dj_end ?_
  skip
  exact jk_ret_any (res1 rfl rfl) (by (repeat (first | exact rs_nil | (refine rs_cons ?_ ?_; (focus ((repeat (first | exact .here | apply Mem.there | apply Take.there)); first | done | fail))) | exact fun ρ hρ => hρ | (intro ρ hρ; repeat (first | exact hρ | refine List.mem_cons_of_mem _ ?_)))); first | done | fail) selZ ⟨rfl, rfl⟩
end Go.Proofs.Ytnbihndlbopmeaa
/- The rows: each law, for every input. -/
namespace Go.Proofs.Ytnbihndlbopmeaa
open Go.Eng Go.Step
set_option maxRecDepth 100000
set_option maxHeartbeats 4000000
open Go.ChangeShapes Go.WideShapes Go.ChangeAt Go.RowKit

set_option maxRecDepth 100000 in
theorem storageHolds_lifted (os : Os) (started : os.Started) (H : Type) (enc : TypeId × Value → H) :
    ReturnsInHanded {} Try.checked os 7 .any (Rows.storageHoldsSpec.pre6 enc Try.prog Try.f7 Rows.storageHoldsRow.domain false) (Rows.storageHoldsSpec.post enc Try.prog Try.f7 false true false false) := by
  refine returnsInHanded_of_change (C := Try.checked) Try.own started (by kernel_rfl) Try.func7
    (ChangeSpec.witness6 (enc := enc) (C := Try.checked) false ⟨#[], #[.agg #[.slice none 0 0, .slice none 0 0], .slice none 0 0, .agg #[.int .i64 0, .int .i64 0, .int .i64 0, .int .i64 0, .int .i64 0]], []⟩ 8 (by kernel_rfl) (by kernel_rfl) (by kernel_rfl) (by kernel_rfl)) ?_
  intro W base args ds gs before hval0 hW hcnd _
  have hval : ∀ (j : Nat) t v, Try.f7.params[j]? = some t → args[j]? = some v → Value.okWide Try.prog W .any base t v := hval0
  have hW' := hW
  obtain ⟨p, q, hA0, hV, rfl, hfz, hnd⟩ := hW
  have hA : DataW.TrodAll enc Try.prog W 0 (fun _ => true) true Try.f7.params.toList args.toList ds p := hA0
  rw [Try.params7] at hA hval
  obtain ⟨v0, vs0, d0, ds0, p0, q0, hargs, rfl, rfl, h0, r0⟩ := trodAll_cons hA
  obtain ⟨v1, vs1, d1, ds1, p1, q1, rfl, rfl, rfl, h1, r1⟩ := trodAll_cons r0
  obtain ⟨v2, vs2, d2, ds2, p2, q2, rfl, rfl, rfl, h2, r2⟩ := trodAll_cons r1
  obtain ⟨rfl, rfl, rfl⟩ := trodAll_nil r2
  obtain rfl : args = #[v0, v1, v2] := by cases args; simp_all
  obtain ⟨rfl, rfl⟩ := trodVars_none hV
  have lt0 : ∀ x ∈ p0, x.block < W.heap.size := by obtain ⟨m, hm⟩ := h0; exact DataW.trod_lt m _ _ _ hm
  have lt1 : ∀ x ∈ p1, x.block < W.heap.size := by obtain ⟨m, hm⟩ := h1; exact DataW.trod_lt m _ _ _ hm
  have lt2 : ∀ x ∈ p2, x.block < W.heap.size := by obtain ⟨m, hm⟩ := h2; exact DataW.trod_lt m _ _ _ hm
  have hlaw : Ans Try.prog (fv 7) [v0, v1, v2] [heapPH W] (fun v => v = .bool true) := by
    obtain ⟨pq, pc, kq, kc, qs, cs, rfl, hq, hc, hcap, lq, lc⟩ := plan_of (hval 0 _ v0 rfl rfl) (RdT.of h0)
    obtain ⟨l, hl, cl, ll⟩ := holds_of (hval 1 _ v1 rfl rfl) (RdT.of h1)
    obtain ⟨h, rfl, ih0, ih1, ih2, ih3, ih4⟩ := hold_of (hval 2 _ v2 rfl rfl) (RdT.of h2)
    exact (holds_law _ _ _ pq pc kq kc qs cs v1 l h hq hc hcap lq lc hl cl ll).rsub (fun _ h => by simpa using h)
  refine (law_calls Try.func7 rfl rfl hlaw).mono fun e W' ⟨he, bel⟩ => ?_
  subst he
  exact ⟨_, rfl, _, _, _, [], _, [], hW', trodAll_mk1 (shut_bool Try.underlying4 _), (trodAll_cons_mk (Below.trod Try.laidOut (by kernel_rfl) (of_decide_eq_true (by kernel_rfl)) h0 bel lt0) (trodAll_cons_mk (Below.trod Try.laidOut (by kernel_rfl) (of_decide_eq_true (by kernel_rfl)) h1 bel lt1) (trodAll_cons_mk (Below.trod Try.laidOut (by kernel_rfl) (of_decide_eq_true (by kernel_rfl)) h2 bel lt2) trodAll_mk0))), rfl, bel.frame _, fun h => by cases h⟩
theorem storageHolds_holds : Rows.StorageHoldsSaid :=
  OpenClaim.holds_of_wide 7 Try.f7 rfl rfl rfl rfl rfl rfl rfl ⟨rfl, rfl, rfl, rfl, rfl⟩ rfl rfl rfl rfl rfl (by kernel_rfl) Try.func7 (by kernel_rfl)
    (of_decide_eq_true (by kernel_rfl)) (by unfold Func.isWrapper; first | (rw [if_pos (by decide +kernel)]; kernel_rfl) | (rw [if_neg (by decide +kernel)]; exact ⟨rfl, rfl⟩))
    (fun os started H enc _ => storageHolds_lifted os started H enc)
end Go.Proofs.Ytnbihndlbopmeaa
