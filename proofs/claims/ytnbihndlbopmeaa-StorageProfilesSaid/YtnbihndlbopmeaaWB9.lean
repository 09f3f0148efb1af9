/- Texts of this proof, one after the other; no conditions. -/
import Derived.Test.YtnbihndlbopmeaaWB8
import Derived.Test.YtnbihndlbopmeaaWB3
import Derived.Test.YtnbihndlbopmeaaWB5
import Derived.Test.YtnbihndlbopmeaaWB4
import Derived.Test.YtnbihndlbopmeaaWB7
set_option linter.all false
/- Laws on holds that are released and added. -/
namespace Go.Proofs.Ytnbihndlbopmeaa
open Go.Eng Go.Step
set_option maxRecDepth 100000
set_option maxHeartbeats 4000000

theorem indexS_spec (ρ : PH) (Rs : List PH) (v fn : Value) (l : List (Int × Int)) (p : (Int × Int) → Bool) (hv : SlE encS 2 ρ v l) (hl : l.length ≤ 9223372036854775807) (hfn : ∀ (i : Nat) (x : (Int × Int)), l[i]? = some x → Ans Try.prog fn [.agg (encS x).toArray] Rs (fun r => r = .bool (p x))) :
    Ans Try.prog (fv 53) [v, fn] (ρ :: Rs) (fun r => (∃ (i : Nat) (x : (Int × Int)), l[i]? = some x ∧ p x = true ∧ (∀ (j : Nat) (y : (Int × Int)), j < i → l[j]? = some y → p y = false) ∧ r = int i) ∨ ((∀ x ∈ l, p x = false) ∧ r = int (-1))) := by
  obtain ⟨q, c, rfl, hr⟩ := hv.val encS_len
  refine spec_in (cap := []) Try.func53 rfl rfl Try.ntmps53 rfl (by (repeat (first | exact EnvA.nil EnvI.nil | apply EnvA.cons | apply EnvA.nil | exact EnvI.nil | apply EnvI.cons)); first | done | fail) (fun N β => ?_)
  refine jk_seq ?_
  refine jk_region ?_
  refine zq_assign ?_
  refine jk_nil ?_
  refine jk_seq ?_
  refine jk_seq ?_
  refine jk_region ?_
  refine zq_move ?_
  refine zq_len ?_
  refine zq_move ?_
  refine jk_nil ?_
  refine jk_block ?_
  refine jk_loop [0, 1, 7] (0 : Nat) (fun k => k ≤ l.length ∧ ∀ (i : Nat) (x : (Int × Int)), i < k → l[i]? = some x → p x = false) (fun k => [(8, int k)]) (fun _ => []) (fun k => l.length - k) pickZ ⟨by omega, fun i x h => by omega⟩ covZ selZ ?_
  rintro k ⟨hk, hI⟩
  by_cases hlt : k < l.length
  · have hx := List.getElem?_eq_getElem hlt
    obtain ⟨b1, o1, rfl, hrd⟩ := hr k _ hx
    have hrd2 : RdN ρ b1 (o1 + k * 2) (encS l[k]) := hrd
    have hf := hfn k _ hx
    refine jk_seq ?_
    refine jk_region ?_
    refine zq_lt ?_
    refine jk_nil ?_
    refine jk_seq ?_
    refine jk_if_t rfl ?_
    refine jk_skip ?_
    refine jk_seq ?_
    refine jk_block ?_
    refine jk_seq ?_
    refine jk_region ?_
    refine zq_move ?_
    refine zq_assign ?_
    refine jk_nil ?_
    refine jk_seq ?_
    refine jk_region ?_
    refine zq_move ?_
    refine zq_move ?_
    refine zq_move ?_
    refine zq_idxN ?_
    refine zq_loadS ?_
    refine jk_call hf rfl rfl (fun τ hτ => .inl (by simp [hτ])) rfl rfl ?_
    rintro _ rfl
    cases hp : p l[k] with
    | true =>
      refine jk_nil ?_
      refine jk_if_t rfl ?_
      refine jk_seq ?_
      refine jk_region ?_
      refine zq_move ?_
      refine zq_assign ?_
      refine jk_nil ?_
      exact jk_ret_any (res1 rfl rfl) (by (repeat (first | exact rs_nil | (refine rs_cons ?_ ?_; (focus ((repeat (first | exact .here | apply Mem.there | apply Take.there)); first | done | fail))) | exact fun ρ hρ => hρ | (intro ρ hρ; repeat (first | exact hρ | refine List.mem_cons_of_mem _ ?_)))); first | done | fail) selZ ⟨rfl, .inl ⟨k, l[k], hx, hp, hI, rfl⟩⟩
    | false =>
      refine jk_nil ?_
      refine jk_if_f rfl ?_
      refine jk_skip ?_
      refine jk_blk ?_
      refine jk_region ?_
      refine zq_inc ?_
      refine zq_move ?_
      refine jk_nil ?_
      refine jk_round (k + 1) ⟨by omega, fun i x hi hix => ?_⟩ (by omega) covZ selZ
      by_cases e : i = k
      · subst e; rw [hx] at hix; injection hix with hix; rw [← hix]; exact hp
      · exact hI i x (by omega) hix
  · refine jk_seq ?_
    refine jk_region ?_
    refine zq_ltF ?_
    refine jk_nil ?_
    refine jk_seq ?_
    refine jk_if_f rfl ?_
    refine jk_exit rfl ?_
    refine jk_seq ?_
    refine jk_region ?_
    refine zq_assign ?_
    refine jk_nil ?_
    refine jk_ret_any (res1 rfl rfl) (by (repeat (first | exact rs_nil | (refine rs_cons ?_ ?_; (focus ((repeat (first | exact .here | apply Mem.there | apply Take.there)); first | done | fail))) | exact fun ρ hρ => hρ | (intro ρ hρ; repeat (first | exact hρ | refine List.mem_cons_of_mem _ ?_)))); first | done | fail) selZ ⟨rfl, .inr ⟨fun x hx => ?_, rfl⟩⟩
    obtain ⟨i, hi, rfl⟩ := List.getElem_of_mem hx
    exact hI i _ (by omega) (List.getElem?_eq_getElem hi)
theorem contS_spec (ρ : PH) (Rs : List PH) (v fn : Value) (l : List (Int × Int)) (p : (Int × Int) → Bool) (hv : SlE encS 2 ρ v l) (hl : l.length ≤ 9223372036854775807) (hfn : ∀ (i : Nat) (x : (Int × Int)), l[i]? = some x → Ans Try.prog fn [.agg (encS x).toArray] Rs (fun r => r = .bool (p x))) :
    Ans Try.prog (fv 26) [v, fn] (ρ :: Rs) (fun r => r = .bool (l.any p)) := by
  have hix := indexS_spec ρ Rs v fn l p hv hl hfn
  obtain ⟨q, c, rfl, hr⟩ := hv.val encS_len
  refine spec_in (cap := []) Try.func26 rfl rfl Try.ntmps26 rfl (by (repeat (first | exact EnvA.nil EnvI.nil | apply EnvA.cons | apply EnvA.nil | exact EnvI.nil | apply EnvI.cons)); first | done | fail) (fun N β => ?_)
  refine jk_seq ?_
  refine jk_region ?_
  refine zq_assign ?_
  refine jk_nil ?_
  refine jk_seq ?_
  refine jk_region ?_
  refine zq_move ?_
  refine zq_move ?_
  refine jk_call hix rfl rfl (fun τ hτ => .inl (List.mem_cons_of_mem _ hτ)) rfl rfl ?_
  rintro _ (⟨i, x, hi, hp, _, rfl⟩ | ⟨hall2, rfl⟩)
  · have hfl : l.any p = true := List.any_eq_true.2 ⟨x, List.mem_of_getElem? hi, hp⟩
    refine zq_ge ?_
    refine zq_assign ?_
    refine jk_nil ?_
    exact jk_ret_any (res1 rfl rfl) (by (repeat (first | exact rs_nil | (refine rs_cons ?_ ?_; (focus ((repeat (first | exact .here | apply Mem.there | apply Take.there)); first | done | fail))) | exact fun ρ hρ => hρ | (intro ρ hρ; repeat (first | exact hρ | refine List.mem_cons_of_mem _ ?_)))); first | done | fail) selZ ⟨rfl, by rw [hfl]⟩
  · have hfl : l.any p = false := List.any_eq_false.2 (fun x hx => by rw [hall2 x hx]; simp)
    refine zq_geF ?_
    refine zq_assign ?_
    refine jk_nil ?_
    exact jk_ret_any (res1 rfl rfl) (by (repeat (first | exact rs_nil | (refine rs_cons ?_ ?_; (focus ((repeat (first | exact .here | apply Mem.there | apply Take.there)); first | done | fail))) | exact fun ρ hρ => hρ | (intro ρ hρ; repeat (first | exact hρ | refine List.mem_cons_of_mem _ ?_)))); first | done | fail) selZ ⟨rfl, by rw [hfl]⟩
theorem indexH_spec (ρ : PH) (Rs : List PH) (v fn : Value) (l : List Hd) (p : Hd → Bool) (hv : SlE encH 5 ρ v l) (hl : l.length ≤ 9223372036854775807) (hfn : ∀ (i : Nat) (x : Hd), l[i]? = some x → Ans Try.prog fn [.agg (encH x).toArray] Rs (fun r => r = .bool (p x))) :
    Ans Try.prog (fv 58) [v, fn] (ρ :: Rs) (fun r => (∃ (i : Nat) (x : Hd), l[i]? = some x ∧ p x = true ∧ (∀ (j : Nat) (y : Hd), j < i → l[j]? = some y → p y = false) ∧ r = int i) ∨ ((∀ x ∈ l, p x = false) ∧ r = int (-1))) := by
  obtain ⟨q, c, rfl, hr⟩ := hv.val encH_len
  refine spec_in (cap := []) Try.func58 rfl rfl Try.ntmps58 rfl (by (repeat (first | exact EnvA.nil EnvI.nil | apply EnvA.cons | apply EnvA.nil | exact EnvI.nil | apply EnvI.cons)); first | done | fail) (fun N β => ?_)
  refine jk_seq ?_
  refine jk_region ?_
  refine zq_assign ?_
  refine jk_nil ?_
  refine jk_seq ?_
  refine jk_seq ?_
  refine jk_region ?_
  refine zq_move ?_
  refine zq_len ?_
  refine zq_move ?_
  refine jk_nil ?_
  refine jk_block ?_
  refine jk_loop [0, 1, 7] (0 : Nat) (fun k => k ≤ l.length ∧ ∀ (i : Nat) (x : Hd), i < k → l[i]? = some x → p x = false) (fun k => [(8, int k)]) (fun _ => []) (fun k => l.length - k) pickZ ⟨by omega, fun i x h => by omega⟩ covZ selZ ?_
  rintro k ⟨hk, hI⟩
  by_cases hlt : k < l.length
  · have hx := List.getElem?_eq_getElem hlt
    obtain ⟨b1, o1, rfl, hrd⟩ := hr k _ hx
    have hrd2 : RdN ρ b1 (o1 + k * 5) (encH l[k]) := hrd
    have hf := hfn k _ hx
    refine jk_seq ?_
    refine jk_region ?_
    refine zq_lt ?_
    refine jk_nil ?_
    refine jk_seq ?_
    refine jk_if_t rfl ?_
    refine jk_skip ?_
    refine jk_seq ?_
    refine jk_block ?_
    refine jk_seq ?_
    refine jk_region ?_
    refine zq_move ?_
    refine zq_assign ?_
    refine jk_nil ?_
    refine jk_seq ?_
    refine jk_region ?_
    refine zq_move ?_
    refine zq_move ?_
    refine zq_move ?_
    refine zq_idxN ?_
    refine zq_loadS ?_
    refine jk_call hf rfl rfl (fun τ hτ => .inl (by simp [hτ])) rfl rfl ?_
    rintro _ rfl
    cases hp : p l[k] with
    | true =>
      refine jk_nil ?_
      refine jk_if_t rfl ?_
      refine jk_seq ?_
      refine jk_region ?_
      refine zq_move ?_
      refine zq_assign ?_
      refine jk_nil ?_
      exact jk_ret_any (res1 rfl rfl) (by (repeat (first | exact rs_nil | (refine rs_cons ?_ ?_; (focus ((repeat (first | exact .here | apply Mem.there | apply Take.there)); first | done | fail))) | exact fun ρ hρ => hρ | (intro ρ hρ; repeat (first | exact hρ | refine List.mem_cons_of_mem _ ?_)))); first | done | fail) selZ ⟨rfl, .inl ⟨k, l[k], hx, hp, hI, rfl⟩⟩
    | false =>
      refine jk_nil ?_
      refine jk_if_f rfl ?_
      refine jk_skip ?_
      refine jk_blk ?_
      refine jk_region ?_
      refine zq_inc ?_
      refine zq_move ?_
      refine jk_nil ?_
      refine jk_round (k + 1) ⟨by omega, fun i x hi hix => ?_⟩ (by omega) covZ selZ
      by_cases e : i = k
      · subst e; rw [hx] at hix; injection hix with hix; rw [← hix]; exact hp
      · exact hI i x (by omega) hix
  · refine jk_seq ?_
    refine jk_region ?_
    refine zq_ltF ?_
    refine jk_nil ?_
    refine jk_seq ?_
    refine jk_if_f rfl ?_
    refine jk_exit rfl ?_
    refine jk_seq ?_
    refine jk_region ?_
    refine zq_assign ?_
    refine jk_nil ?_
    refine jk_ret_any (res1 rfl rfl) (by (repeat (first | exact rs_nil | (refine rs_cons ?_ ?_; (focus ((repeat (first | exact .here | apply Mem.there | apply Take.there)); first | done | fail))) | exact fun ρ hρ => hρ | (intro ρ hρ; repeat (first | exact hρ | refine List.mem_cons_of_mem _ ?_)))); first | done | fail) selZ ⟨rfl, .inr ⟨fun x hx => ?_, rfl⟩⟩
    obtain ⟨i, hi, rfl⟩ := List.getElem_of_mem hx
    exact hI i _ (by omega) (List.getElem?_eq_getElem hi)
theorem contH_spec (ρ : PH) (Rs : List PH) (v fn : Value) (l : List Hd) (p : Hd → Bool) (hv : SlE encH 5 ρ v l) (hl : l.length ≤ 9223372036854775807) (hfn : ∀ (i : Nat) (x : Hd), l[i]? = some x → Ans Try.prog fn [.agg (encH x).toArray] Rs (fun r => r = .bool (p x))) :
    Ans Try.prog (fv 34) [v, fn] (ρ :: Rs) (fun r => r = .bool (l.any p)) := by
  have hix := indexH_spec ρ Rs v fn l p hv hl hfn
  obtain ⟨q, c, rfl, hr⟩ := hv.val encH_len
  refine spec_in (cap := []) Try.func34 rfl rfl Try.ntmps34 rfl (by (repeat (first | exact EnvA.nil EnvI.nil | apply EnvA.cons | apply EnvA.nil | exact EnvI.nil | apply EnvI.cons)); first | done | fail) (fun N β => ?_)
  refine jk_seq ?_
  refine jk_region ?_
  refine zq_assign ?_
  refine jk_nil ?_
  refine jk_seq ?_
  refine jk_region ?_
  refine zq_move ?_
  refine zq_move ?_
  refine jk_call hix rfl rfl (fun τ hτ => .inl (List.mem_cons_of_mem _ hτ)) rfl rfl ?_
  rintro _ (⟨i, x, hi, hp, _, rfl⟩ | ⟨hall2, rfl⟩)
  · have hfl : l.any p = true := List.any_eq_true.2 ⟨x, List.mem_of_getElem? hi, hp⟩
    refine zq_ge ?_
    refine zq_assign ?_
    refine jk_nil ?_
    exact jk_ret_any (res1 rfl rfl) (by (repeat (first | exact rs_nil | (refine rs_cons ?_ ?_; (focus ((repeat (first | exact .here | apply Mem.there | apply Take.there)); first | done | fail))) | exact fun ρ hρ => hρ | (intro ρ hρ; repeat (first | exact hρ | refine List.mem_cons_of_mem _ ?_)))); first | done | fail) selZ ⟨rfl, by rw [hfl]⟩
  · have hfl : l.any p = false := List.any_eq_false.2 (fun x hx => by rw [hall2 x hx]; simp)
    refine zq_geF ?_
    refine zq_assign ?_
    refine jk_nil ?_
    exact jk_ret_any (res1 rfl rfl) (by (repeat (first | exact rs_nil | (refine rs_cons ?_ ?_; (focus ((repeat (first | exact .here | apply Mem.there | apply Take.there)); first | done | fail))) | exact fun ρ hρ => hρ | (intro ρ hρ; repeat (first | exact hρ | refine List.mem_cons_of_mem _ ?_)))); first | done | fail) selZ ⟨rfl, by rw [hfl]⟩
theorem relTicket_spec (bt : Nat) (h x : Hd) : Ans Try.prog (.func (.func 35) #[] #[.pointer (some ⟨bt, 0, none⟩)]) [.agg (encH x).toArray] [sng bt (.cells #[int h.n, int h.a, int h.b, int h.s, int h.k] 47 (0, 0))] (fun r => r = .bool (decide (x.k = h.k))) := by
  refine spec_in (cap := [.pointer (some ⟨bt, 0, none⟩)]) Try.func35 rfl rfl Try.ntmps35 rfl (by (repeat (first | exact EnvA.nil EnvI.nil | apply EnvA.cons | apply EnvA.nil | exact EnvI.nil | apply EnvI.cons)); first | done | fail) (fun N β => ?_)
  have c4 : rdc (sng bt (.cells #[int h.n, int h.a, int h.b, int h.s, int h.k] 47 (0, 0))) bt 4 = some (int h.k) := by rw [rdc_sng]; rfl
  by_cases hc : x.k = h.k
  · rw [decide_eq_true hc]
    refine jk_seq ?_
    refine jk_region ?_
    refine zl_boxS ?_; rintro _ _ ⟨b, rfl, rfl⟩
    refine zq_assign ?_
    refine jk_nil ?_
    refine jk_seq ?_
    refine jk_region ?_
    refine zq_fld0 ?_
    refine zq_load ?_
    refine zq_fld0 ?_
    refine zq_load ?_
    refine zq_eq ?_
    refine zq_assign ?_
    refine jk_nil ?_
    exact jk_ret_any (res1 rfl rfl) (by (repeat (first | exact rs_nil | (refine rs_cons ?_ ?_; (focus ((repeat (first | exact .here | apply Mem.there | apply Take.there)); first | done | fail))) | exact fun ρ hρ => hρ | (intro ρ hρ; repeat (first | exact hρ | refine List.mem_cons_of_mem _ ?_)))); first | done | fail) selZ ⟨rfl, rfl⟩
  · rw [decide_eq_false hc]
    refine jk_seq ?_
    refine jk_region ?_
    refine zl_boxS ?_; rintro _ _ ⟨b, rfl, rfl⟩
    refine zq_assign ?_
    refine jk_nil ?_
    refine jk_seq ?_
    refine jk_region ?_
    refine zq_fld0 ?_
    refine zq_load ?_
    refine zq_fld0 ?_
    refine zq_load ?_
    refine zq_eqF ?_
    refine zq_assign ?_
    refine jk_nil ?_
    exact jk_ret_any (res1 rfl rfl) (by (repeat (first | exact rs_nil | (refine rs_cons ?_ ?_; (focus ((repeat (first | exact .here | apply Mem.there | apply Take.there)); first | done | fail))) | exact fun ρ hρ => hρ | (intro ρ hρ; repeat (first | exact hρ | refine List.mem_cons_of_mem _ ?_)))); first | done | fail) selZ ⟨rfl, rfl⟩
theorem inside_spec (bt : Nat) (h : Hd) (x : Int × Int) : Ans Try.prog (.func (.func 27) #[] #[.pointer (some ⟨bt, 0, none⟩)]) [.agg (encS x).toArray] [sng bt (.cells #[int h.n, int h.a, int h.b, int h.s, int h.k] 47 (0, 0))] (fun r => r = .bool (decide (x.1 ≤ h.a) && decide (h.b ≤ x.2))) := by
  refine spec_in (cap := [.pointer (some ⟨bt, 0, none⟩)]) Try.func27 rfl rfl Try.ntmps27 rfl (by (repeat (first | exact EnvA.nil EnvI.nil | apply EnvA.cons | apply EnvA.nil | exact EnvI.nil | apply EnvI.cons)); first | done | fail) (fun N β => ?_)
  have c1 : rdc (sng bt (.cells #[int h.n, int h.a, int h.b, int h.s, int h.k] 47 (0, 0))) bt 1 = some (int h.a) := by rw [rdc_sng]; rfl
  have c2 : rdc (sng bt (.cells #[int h.n, int h.a, int h.b, int h.s, int h.k] 47 (0, 0))) bt 2 = some (int h.b) := by rw [rdc_sng]; rfl
  by_cases h1 : x.1 ≤ h.a
  · by_cases h2 : h.b ≤ x.2
    · rw [decide_eq_true h1, decide_eq_true h2]
      refine jk_seq ?_
      refine jk_region ?_
      refine zl_boxS ?_; rintro _ _ ⟨b, rfl, rfl⟩
      refine zq_assign ?_
      refine jk_nil ?_
      refine jk_seq ?_
      refine jk_region ?_
      refine zq_fld0 ?_
      refine zq_load ?_
      refine zq_fld0 ?_
      refine zq_load ?_
      refine zq_le ?_
      refine zq_move ?_
      refine zq_fld0 ?_
      refine zq_load ?_
      refine zq_fld0 ?_
      refine zq_load ?_
      refine zq_le ?_
      refine zq_pick_t ?_
      refine zq_assign ?_
      refine jk_nil ?_
      exact jk_ret_any (res1 rfl rfl) (by (repeat (first | exact rs_nil | (refine rs_cons ?_ ?_; (focus ((repeat (first | exact .here | apply Mem.there | apply Take.there)); first | done | fail))) | exact fun ρ hρ => hρ | (intro ρ hρ; repeat (first | exact hρ | refine List.mem_cons_of_mem _ ?_)))); first | done | fail) selZ ⟨rfl, rfl⟩
    · rw [decide_eq_true h1, decide_eq_false h2]
      refine jk_seq ?_
      refine jk_region ?_
      refine zl_boxS ?_; rintro _ _ ⟨b, rfl, rfl⟩
      refine zq_assign ?_
      refine jk_nil ?_
      refine jk_seq ?_
      refine jk_region ?_
      refine zq_fld0 ?_
      refine zq_load ?_
      refine zq_fld0 ?_
      refine zq_load ?_
      refine zq_le ?_
      refine zq_move ?_
      refine zq_fld0 ?_
      refine zq_load ?_
      refine zq_fld0 ?_
      refine zq_load ?_
      refine zq_leF ?_
      refine zq_pick_t ?_
      refine zq_assign ?_
      refine jk_nil ?_
      exact jk_ret_any (res1 rfl rfl) (by (repeat (first | exact rs_nil | (refine rs_cons ?_ ?_; (focus ((repeat (first | exact .here | apply Mem.there | apply Take.there)); first | done | fail))) | exact fun ρ hρ => hρ | (intro ρ hρ; repeat (first | exact hρ | refine List.mem_cons_of_mem _ ?_)))); first | done | fail) selZ ⟨rfl, rfl⟩
  · rw [decide_eq_false h1, Bool.false_and]
    refine jk_seq ?_
    refine jk_region ?_
    refine zl_boxS ?_; rintro _ _ ⟨b, rfl, rfl⟩
    refine zq_assign ?_
    refine jk_nil ?_
    refine jk_seq ?_
    refine jk_region ?_
    refine zq_fld0 ?_
    refine zq_load ?_
    refine zq_fld0 ?_
    refine zq_load ?_
    refine zq_leF ?_
    refine zq_move ?_
    refine jk_pass rfl rfl rfl ?_
    refine jk_pass rfl rfl rfl ?_
    refine jk_pass rfl rfl rfl ?_
    refine jk_pass rfl rfl rfl ?_
    refine jk_pass rfl rfl rfl ?_
    refine zq_pick_f ?_
    refine zq_assign ?_
    refine jk_nil ?_
    exact jk_ret_any (res1 rfl rfl) (by (repeat (first | exact rs_nil | (refine rs_cons ?_ ?_; (focus ((repeat (first | exact .here | apply Mem.there | apply Take.there)); first | done | fail))) | exact fun ρ hρ => hρ | (intro ρ hρ; repeat (first | exact hρ | refine List.mem_cons_of_mem _ ?_)))); first | done | fail) selZ ⟨rfl, rfl⟩
theorem isFree1_spec (bt : Nat) (t : Int) (x : Int × Int) : Ans Try.prog (.func (.func 52) #[] #[.pointer (some ⟨bt, 0, none⟩)]) [.agg (encS x).toArray] [sng bt (.cells #[int t] 3 (0, 0))] (fun r => r = .bool (decide (x.1 ≤ t) && decide (t < x.2))) := by
  refine spec_in (cap := [.pointer (some ⟨bt, 0, none⟩)]) Try.func52 rfl rfl Try.ntmps52 rfl (by (repeat (first | exact EnvA.nil EnvI.nil | apply EnvA.cons | apply EnvA.nil | exact EnvI.nil | apply EnvI.cons)); first | done | fail) (fun N β => ?_)
  have c1 : rdc (sng bt (.cells #[int t] 3 (0, 0))) bt 0 = some (int t) := by rw [rdc_sng]; rfl
  by_cases h1 : x.1 ≤ t
  · by_cases h2 : t < x.2
    · rw [decide_eq_true h1, decide_eq_true h2]
      refine jk_seq ?_
      refine jk_region ?_
      refine zl_boxS ?_; rintro _ _ ⟨b, rfl, rfl⟩
      refine zq_assign ?_
      refine jk_nil ?_
      refine jk_seq ?_
      refine jk_region ?_
      refine zq_fld0 ?_
      refine zq_load ?_
      refine zq_load ?_
      refine zq_le ?_
      refine zq_move ?_
      refine zq_load ?_
      refine zq_fld0 ?_
      refine zq_load ?_
      refine zq_lt ?_
      refine zq_pick_t ?_
      refine zq_assign ?_
      refine jk_nil ?_
      exact jk_ret_any (res1 rfl rfl) (by (repeat (first | exact rs_nil | (refine rs_cons ?_ ?_; (focus ((repeat (first | exact .here | apply Mem.there | apply Take.there)); first | done | fail))) | exact fun ρ hρ => hρ | (intro ρ hρ; repeat (first | exact hρ | refine List.mem_cons_of_mem _ ?_)))); first | done | fail) selZ ⟨rfl, rfl⟩
    · rw [decide_eq_true h1, decide_eq_false h2]
      refine jk_seq ?_
      refine jk_region ?_
      refine zl_boxS ?_; rintro _ _ ⟨b, rfl, rfl⟩
      refine zq_assign ?_
      refine jk_nil ?_
      refine jk_seq ?_
      refine jk_region ?_
      refine zq_fld0 ?_
      refine zq_load ?_
      refine zq_load ?_
      refine zq_le ?_
      refine zq_move ?_
      refine zq_load ?_
      refine zq_fld0 ?_
      refine zq_load ?_
      refine zq_ltF ?_
      refine zq_pick_t ?_
      refine zq_assign ?_
      refine jk_nil ?_
      exact jk_ret_any (res1 rfl rfl) (by (repeat (first | exact rs_nil | (refine rs_cons ?_ ?_; (focus ((repeat (first | exact .here | apply Mem.there | apply Take.there)); first | done | fail))) | exact fun ρ hρ => hρ | (intro ρ hρ; repeat (first | exact hρ | refine List.mem_cons_of_mem _ ?_)))); first | done | fail) selZ ⟨rfl, rfl⟩
  · rw [decide_eq_false h1, Bool.false_and]
    refine jk_seq ?_
    refine jk_region ?_
    refine zl_boxS ?_; rintro _ _ ⟨b, rfl, rfl⟩
    refine zq_assign ?_
    refine jk_nil ?_
    refine jk_seq ?_
    refine jk_region ?_
    refine zq_fld0 ?_
    refine zq_load ?_
    refine zq_load ?_
    refine zq_leF ?_
    refine zq_move ?_
    refine jk_pass rfl rfl rfl ?_
    refine jk_pass rfl rfl rfl ?_
    refine jk_pass rfl rfl rfl ?_
    refine jk_pass rfl rfl rfl ?_
    refine zq_pick_f ?_
    refine zq_assign ?_
    refine jk_nil ?_
    exact jk_ret_any (res1 rfl rfl) (by (repeat (first | exact rs_nil | (refine rs_cons ?_ ?_; (focus ((repeat (first | exact .here | apply Mem.there | apply Take.there)); first | done | fail))) | exact fun ρ hρ => hρ | (intro ρ hρ; repeat (first | exact hρ | refine List.mem_cons_of_mem _ ?_)))); first | done | fail) selZ ⟨rfl, rfl⟩
theorem isFree_spec (ρ : PH) (v : Value) (l : List (Int × Int)) (t : Int) (hv : SpAt ρ v l) (hl : l.length ≤ 9223372036854775807) : Ans Try.prog (fv 24) [v, int t] [ρ] (fun r => r = .bool (l.any (fun x => decide (x.1 ≤ t) && decide (t < x.2)))) := by
  have hv2 := hv
  obtain ⟨q, c, rfl, hr⟩ := hv.val encS_len
  refine spec_in (cap := []) Try.func24 rfl rfl Try.ntmps24 rfl (by (repeat (first | exact EnvA.nil EnvI.nil | apply EnvA.cons | apply EnvA.nil | exact EnvI.nil | apply EnvI.cons)); first | done | fail) (fun N β => ?_)
  refine jk_seq ?_
  refine jk_region ?_
  refine zl_box1 ?_; rintro _ _ ⟨b, rfl, rfl⟩
  refine zq_assign ?_
  refine jk_nil ?_
  refine jk_seq ?_
  refine jk_region ?_
  refine zq_move ?_
  refine zq_makeFunc ?_
  refine jk_call (contS_spec ρ [sng b (.cells #[int t] 3 (0, 0))] _ _ l (fun x => decide (x.1 ≤ t) && decide (t < x.2)) hv2 hl (fun i x _ => isFree1_spec b t x)) rfl rfl rdZ rfl rfl ?_
  rintro _ rfl
  refine zq_assign ?_
  refine jk_nil ?_
  exact jk_ret_any (res1 rfl rfl) (by (repeat (first | exact rs_nil | (refine rs_cons ?_ ?_; (focus ((repeat (first | exact .here | apply Mem.there | apply Take.there)); first | done | fail))) | exact fun ρ hρ => hρ | (intro ρ hρ; repeat (first | exact hρ | refine List.mem_cons_of_mem _ ?_)))); first | done | fail) selZ ⟨rfl, rfl⟩
def smallB (qs : List Int) (cs : List Ct) (l : List Hd) : Bool := decide (grtH qs cs l = false ∧ l.length ≤ 16 ∧ chkH qs cs l = 0)
set_option maxHeartbeats 8000000 in
theorem small_spec (ρ τ σ : PH) (pq pc : Option Addr) (kq kc : Nat) (qs : List Int) (cs : List Ct) (v : Value) (l : List Hd) (hq : IntsAt ρ (.slice pq qs.length kq) qs) (hc : CtAt τ (.slice pc cs.length kc) cs) (hcap : cs.length ≤ kc) (lq : qs.length ≤ 9223372036854775807) (lc : cs.length ≤ 9223372036854775807) (hv : HdAt σ v l) (hl : l.length ≤ 9223372036854775807) :
    Ans Try.prog (fv 19) [.agg #[.slice pq qs.length kq, .slice pc cs.length kc], v] [ρ, τ, σ] (fun r => r = .bool (smallB qs cs l)) := by
  have hv2 := hv
  obtain ⟨q, c, rfl, hr⟩ := hv.val encH_len
  refine spec_in (cap := []) Try.func19 rfl rfl Try.ntmps19 rfl (by (repeat (first | exact EnvA.nil EnvI.nil | apply EnvA.cons | apply EnvA.nil | exact EnvI.nil | apply EnvI.cons)); first | done | fail) (fun N β => ?_)
  refine jk_seq ?_
  refine jk_region ?_
  refine jk_op (l_boxS rfl) rfl rfl rfl ?_
  rintro _ _ ⟨b1, rfl, rfl⟩
  refine jk_freeze (ρ := sng b1 _) takeZ ?_
  have c1 : RdN (sng b1 (.cells #[.slice pq qs.length kq, .slice pc cs.length kc] 25 (0, 0))) b1 0 [.slice pq qs.length kq, .slice pc cs.length kc] := rdN_sng (vs := [.slice pq qs.length kq, .slice pc cs.length kc])
  refine zq_assign ?_
  refine jk_nil ?_
  refine jk_seq ?_
  refine jk_region ?_
  refine zq_loadS ?_
  refine zq_move ?_
  refine jk_call (great28_spec pq pc q kq kc c qs cs l) rfl rfl rdZ rfl rfl ?_
  rintro _ rfl
  unfold smallB
  cases hg : grtH qs cs l with
  | true =>
    refine zq_not ?_
    refine zq_move ?_
    refine jk_pass rfl rfl rfl ?_
    refine jk_pass rfl rfl rfl ?_
    refine jk_pass rfl rfl rfl ?_
    refine zq_pick_f ?_
    refine zq_move ?_
    refine jk_pass rfl rfl rfl ?_
    refine jk_pass rfl rfl rfl ?_
    refine jk_pass rfl rfl rfl ?_
    refine jk_pass rfl rfl rfl ?_
    refine zq_pick_f ?_
    refine zq_assign ?_
    refine jk_nil ?_
    exact jk_ret_any (res1 rfl rfl) (by (repeat (first | exact rs_nil | (refine rs_cons ?_ ?_; (focus ((repeat (first | exact .here | apply Mem.there | apply Take.there)); first | done | fail))) | exact fun ρ hρ => hρ | (intro ρ hρ; repeat (first | exact hρ | refine List.mem_cons_of_mem _ ?_)))); first | done | fail) selZ ⟨rfl, by rw [decide_eq_false (by simp)]⟩
  | false =>
    by_cases h16 : l.length ≤ 16
    · refine zq_not ?_
      refine zq_move ?_
      refine zq_move ?_
      refine zq_len ?_
      refine zq_le ?_
      refine zq_pick_t ?_
      refine zq_move ?_
      refine zq_loadS ?_
      refine zq_move ?_
      refine jk_call (refCheck28_spec ρ τ σ pq pc kq kc qs cs _ l hq hc lq lc hv2 hl) rfl rfl rdZ rfl rfl ?_
      rintro _ rfl
      generalize chkH qs cs l = z
      by_cases h0 : z = 0
      · refine zq_eq ?_
        refine zq_pick_t ?_
        refine zq_assign ?_
        refine jk_nil ?_
        exact jk_ret_any (res1 rfl rfl) (by (repeat (first | exact rs_nil | (refine rs_cons ?_ ?_; (focus ((repeat (first | exact .here | apply Mem.there | apply Take.there)); first | done | fail))) | exact fun ρ hρ => hρ | (intro ρ hρ; repeat (first | exact hρ | refine List.mem_cons_of_mem _ ?_)))); first | done | fail) selZ ⟨rfl, by rw [decide_eq_true ⟨rfl, h16, h0⟩]⟩
      · refine zq_eqF ?_
        refine zq_pick_t ?_
        refine zq_assign ?_
        refine jk_nil ?_
        exact jk_ret_any (res1 rfl rfl) (by (repeat (first | exact rs_nil | (refine rs_cons ?_ ?_; (focus ((repeat (first | exact .here | apply Mem.there | apply Take.there)); first | done | fail))) | exact fun ρ hρ => hρ | (intro ρ hρ; repeat (first | exact hρ | refine List.mem_cons_of_mem _ ?_)))); first | done | fail) selZ ⟨rfl, by rw [decide_eq_false (fun h => h0 h.2.2)]⟩
    · refine zq_not ?_
      refine zq_move ?_
      refine zq_move ?_
      refine zq_len ?_
      refine zq_leF ?_
      refine zq_pick_t ?_
      refine zq_move ?_
      refine jk_pass rfl rfl rfl ?_
      refine jk_pass rfl rfl rfl ?_
      refine jk_pass rfl rfl rfl ?_
      refine jk_pass rfl rfl rfl ?_
      refine zq_pick_f ?_
      refine zq_assign ?_
      refine jk_nil ?_
      exact jk_ret_any (res1 rfl rfl) (by (repeat (first | exact rs_nil | (refine rs_cons ?_ ?_; (focus ((repeat (first | exact .here | apply Mem.there | apply Take.there)); first | done | fail))) | exact fun ρ hρ => hρ | (intro ρ hρ; repeat (first | exact hρ | refine List.mem_cons_of_mem _ ?_)))); first | done | fail) selZ ⟨rfl, by rw [decide_eq_false (fun h => h16 h.2.1)]⟩
theorem small_ok {qs : List Int} {cs : List Ct} {l : List Hd} (h : smallB qs cs l = true) : l.length ≤ 16 ∧ chkH qs cs l = 0 := (of_decide_eq_true h).2
theorem rel_chk {qs : List Int} {cs : List Ct} {l : List Hd} (h0 : chkH qs cs l = 0) (k : Int) : chkH qs cs (relH l k) = 0 := by
  obtain ⟨hok, hlen, _⟩ := chkH_ok h0
  obtain ⟨hs, hf, _⟩ := chkH_sort h0
  have := relH_len l k
  exact chkH_of (chkH_pl h0) (by omega) (fun x hx => hok x (List.mem_filter.1 hx).1) (hs.filter _) (fit_filter _ hok hf)
set_option maxHeartbeats 16000000 in
theorem releases_law (ρ τ σ : PH) (pq pc : Option Addr) (kq kc : Nat) (qs : List Int) (cs : List Ct) (v : Value) (l : List Hd) (h : Hd) (hq : IntsAt ρ (.slice pq qs.length kq) qs) (hc : CtAt τ (.slice pc cs.length kc) cs) (hcap : cs.length ≤ kc) (lq : qs.length ≤ 9223372036854775807) (lc : cs.length ≤ 9223372036854775807) (hv : HdAt σ v l) (hl : l.length ≤ 9223372036854775807) :
    Ans Try.prog (fv 8) [.agg #[.slice pq qs.length kq, .slice pc cs.length kc], v, .agg #[int h.n, int h.a, int h.b, int h.s, int h.k]] [ρ, τ, σ] (fun r => r = .bool true) := by
  have hv2 := hv
  obtain ⟨q, c, rfl, hr⟩ := hv.val encH_len
  refine spec_in (cap := []) Try.func8 rfl rfl Try.ntmps8 rfl (by (repeat (first | exact EnvA.nil EnvI.nil | apply EnvA.cons | apply EnvA.nil | exact EnvI.nil | apply EnvI.cons)); first | done | fail) (fun N β => ?_)
  refine jk_seq ?_
  refine jk_region ?_
  refine jk_op (l_boxS rfl) rfl rfl rfl ?_
  rintro _ _ ⟨b1, rfl, rfl⟩
  refine jk_freeze (ρ := sng b1 _) takeZ ?_
  have c1 : RdN (sng b1 (.cells #[.slice pq qs.length kq, .slice pc cs.length kc] 25 (0, 0))) b1 0 [.slice pq qs.length kq, .slice pc cs.length kc] := rdN_sng (vs := [.slice pq qs.length kq, .slice pc cs.length kc])
  refine jk_op (l_boxS rfl) rfl rfl rfl ?_
  rintro _ _ ⟨b2, rfl, rfl⟩
  refine jk_freeze (ρ := sng b2 _) takeZ ?_
  have c2 : RdN (sng b2 (.cells #[int h.n, int h.a, int h.b, int h.s, int h.k] 47 (0, 0))) b2 0 [int h.n, int h.a, int h.b, int h.s, int h.k] := rdN_sng (vs := [int h.n, int h.a, int h.b, int h.s, int h.k])
  have c20 : rdc (sng b2 (.cells #[int h.n, int h.a, int h.b, int h.s, int h.k] 47 (0, 0))) b2 0 = some (int h.n) := by rw [rdc_sng]; rfl
  have c21 : rdc (sng b2 (.cells #[int h.n, int h.a, int h.b, int h.s, int h.k] 47 (0, 0))) b2 1 = some (int h.a) := by rw [rdc_sng]; rfl
  have c22 : rdc (sng b2 (.cells #[int h.n, int h.a, int h.b, int h.s, int h.k] 47 (0, 0))) b2 2 = some (int h.b) := by rw [rdc_sng]; rfl
  have c23 : rdc (sng b2 (.cells #[int h.n, int h.a, int h.b, int h.s, int h.k] 47 (0, 0))) b2 3 = some (int h.s) := by rw [rdc_sng]; rfl
  have c24 : rdc (sng b2 (.cells #[int h.n, int h.a, int h.b, int h.s, int h.k] 47 (0, 0))) b2 4 = some (int h.k) := by rw [rdc_sng]; rfl
  refine zq_assign ?_
  refine jk_nil ?_
  refine jk_seq ?_
  refine jk_seq ?_
  refine jk_region ?_
  refine zq_loadS ?_
  refine zq_move ?_
  refine jk_call (small_spec ρ τ σ pq pc kq kc qs cs _ l hq hc hcap lq lc hv2 hl) rfl rfl rdZ rfl rfl ?_
  rintro _ rfl
  cases hsm : smallB qs cs l with
  | false =>
    refine zq_not ?_
    refine jk_nil ?_
    refine jk_if_t rfl ?_
    refine jk_seq ?_
    refine jk_region ?_
    focus ((refine jk_call awake_spec rfl rfl rdZ rfl rfl ?_; rintro _ rfl))
    refine zq_assign ?_
    refine jk_nil ?_
    exact jk_ret_any (res1 rfl rfl) (by (repeat (first | exact rs_nil | (refine rs_cons ?_ ?_; (focus ((repeat (first | exact .here | apply Mem.there | apply Take.there)); first | done | fail))) | exact fun ρ hρ => hρ | (intro ρ hρ; repeat (first | exact hρ | refine List.mem_cons_of_mem _ ?_)))); first | done | fail) selZ ⟨rfl, rfl⟩
  | true =>
  obtain ⟨h16, h0⟩ := small_ok hsm
  have hrc := rel_chk h0 h.k
  have hrn := relH_none l h.k
  have hrl := relH_len l h.k
  refine zq_not ?_
  refine jk_nil ?_
  refine jk_if_f rfl ?_
  refine jk_skip ?_
  refine jk_seq ?_
  refine jk_region ?_
  refine zq_move ?_
  refine zq_fld0 ?_
  refine zq_load ?_
  refine jk_callM (release_spec σ _ l h.k hv2 (by omega)) rfl rfl rdZ rfl rfl ?_
  rintro u1 σ1 hO1
  refine jk_freeze (ρ := σ1) takeZ ?_
  generalize hm : relH l h.k = m at hO1 hrc hrn hrl
  obtain ⟨p1, k1, rfl⟩ := SlAt.cap hO1.at
  refine zq_assign ?_
  refine jk_nil ?_
  refine jk_seq ?_
  refine jk_seq ?_
  refine jk_region ?_
  refine zq_loadS ?_
  refine zq_move ?_
  refine jk_call (check28_spec ρ τ σ1 pq pc kq kc qs cs _ m hq hc hcap lq lc hO1.at (by omega)) rfl rfl rdZ rfl rfl ?_
  rw [hrc]
  rintro _ rfl
  have hany : m.any (fun x => decide (x.k = h.k)) = false := List.any_eq_false.2 (fun x hx => by simpa using hrn x hx)
  refine zq_neF ?_
  refine zq_move ?_
  refine zq_move ?_
  refine zq_makeFunc ?_
  refine jk_call (contH_spec σ1 [sng b2 _] _ _ m (fun x => decide (x.k = h.k)) hO1.at (by omega) (fun i x _ => relTicket_spec b2 h x)) rfl rfl rdZ rfl rfl ?_
  rw [hany]
  rintro _ rfl
  refine zq_pick_f ?_
  refine jk_nil ?_
  refine jk_if_f rfl ?_
  refine jk_skip ?_
  refine jk_seq ?_
  refine jk_region ?_
  refine zq_loadS ?_
  refine zq_move ?_
  refine zq_loadS ?_
  refine jk_callM (add28_spec ρ τ σ1 pq pc kq kc qs cs _ m h hq hc hcap lq lc hO1.at (by omega)) rfl rfl rdZ rfl rfl ?_
  rintro _ σ2 ⟨u2, rfl, hO2⟩
  refine jk_freeze (ρ := σ2) takeZ ?_
  by_cases he : (addR qs cs m h).2 = 0
  · have hadd : (addR qs cs m h).1 = insH m h := by
      unfold addR at he ⊢
      rw [if_neg (fun h => h hrc)] at he ⊢
      by_cases hh : okHd qs.length h
      · rw [if_neg (fun h => h hh)] at he ⊢
        rw [if_neg (by omega)] at he ⊢
        by_cases hf : fitB qs (insH m h) = true
        · rw [if_pos hf]
        · rw [if_neg hf] at he; simp at he
      · rw [if_pos hh] at he; simp at he
    rw [hadd] at hO2
    rw [he]
    have hri : relH (insH m h) h.k = m := rel_ins hrn
    refine zq_move ?_
    refine zq_extract ?_
    refine zq_extract ?_
    refine zq_assign ?_
    refine zq_assign ?_
    refine jk_nil ?_
    refine jk_seq ?_
    refine jk_region ?_
    refine zq_move ?_
    refine zq_neF ?_
    refine zq_move ?_
    refine zq_move ?_
    refine zq_fld0 ?_
    refine zq_load ?_
    refine jk_callM (release_spec σ2 _ (insH m h) h.k hO2.at (by rw [insH_len]; omega)) rfl rfl rdZ rfl rfl ?_
    rintro u3 σ3 hO3
    rw [hri] at hO3
    refine zq_move ?_
    refine jk_call (same28_spec σ3 σ1 _ _ m m hO3.at hO1.at (by omega)) rfl rfl rdZ rfl rfl ?_
    rw [decide_eq_true rfl]
    rintro _ rfl
    refine zq_pick_f ?_
    refine zq_move ?_
    focus ((refine jk_call awake_spec rfl rfl rdZ rfl rfl ?_; rintro _ rfl))
    refine zq_pick_t ?_
    refine zq_assign ?_
    refine jk_nil ?_
    exact jk_ret_any (res1 rfl rfl) (by (repeat (first | exact rs_nil | (refine rs_cons ?_ ?_; (focus ((repeat (first | exact .here | apply Mem.there | apply Take.there)); first | done | fail))) | exact fun ρ hρ => hρ | (intro ρ hρ; repeat (first | exact hρ | refine List.mem_cons_of_mem _ ?_)))); first | done | fail) selZ ⟨rfl, rfl⟩
  · generalize (addR qs cs m h).2 = z at he
    refine zq_move ?_
    refine zq_extract ?_
    refine zq_extract ?_
    refine zq_assign ?_
    refine zq_assign ?_
    refine jk_nil ?_
    refine jk_seq ?_
    refine jk_region ?_
    refine zq_move ?_
    refine zq_ne ?_
    refine zq_move ?_
    refine jk_pass rfl rfl rfl ?_
    refine jk_pass rfl rfl rfl ?_
    refine jk_pass rfl rfl rfl ?_
    refine jk_pass rfl rfl rfl ?_
    refine jk_pass rfl rfl rfl ?_
    refine jk_pass rfl rfl rfl ?_
    refine zq_pick_t ?_
    refine zq_move ?_
    focus ((refine jk_call awake_spec rfl rfl rdZ rfl rfl ?_; rintro _ rfl))
    refine zq_pick_t ?_
    refine zq_assign ?_
    refine jk_nil ?_
    exact jk_ret_any (res1 rfl rfl) (by (repeat (first | exact rs_nil | (refine rs_cons ?_ ?_; (focus ((repeat (first | exact .here | apply Mem.there | apply Take.there)); first | done | fail))) | exact fun ρ hρ => hρ | (intro ρ hρ; repeat (first | exact hρ | refine List.mem_cons_of_mem _ ?_)))); first | done | fail) selZ ⟨rfl, rfl⟩
end Go.Proofs.Ytnbihndlbopmeaa
/- Step functions: checked, added up. -/
namespace Go.Proofs.Ytnbihndlbopmeaa
open Go.Eng Go.Step
set_option maxRecDepth 100000
set_option maxHeartbeats 4000000

theorem lvRow' {ρ : PH} {b o : Nat} {l : List Lv} (h : RowsE encV 2 ρ (some ⟨b, o, none⟩) l) {i : Nat} {x : Lv} (hx : l[i]? = some x) : rdc ρ b (o + i * 2) = some (int x.a) ∧ rdc ρ b (o + i * 2 + 1) = some (int x.v) := by
  obtain ⟨b', o', e, _, h1, h2⟩ := lvRow h hx
  simp only [Option.some.injEq, Addr.mk.injEq, and_true] at e
  obtain ⟨rfl, rfl⟩ := e
  exact ⟨h1, h2⟩

theorem stepCheck_spec (ρ : PH) (v : Value) (f : List Lv) (hv : LvAt ρ v f) (hl : f.length ≤ 9223372036854775807) :
    Ans Try.prog (fv 22) [v] [ρ] (fun r => r = int (chkS f)) := by
  obtain ⟨q, c, rfl, hr⟩ := hv.val encV_len
  refine spec_in (cap := []) Try.func22 rfl rfl Try.ntmps22 rfl (by (repeat (first | exact EnvA.nil EnvI.nil | apply EnvA.cons | apply EnvA.nil | exact EnvI.nil | apply EnvI.cons)); first | done | fail) (fun N β => ?_)
  by_cases hbig : 1000 < f.length
  · refine jk_seq ?_
    refine jk_region ?_
    refine zq_assign ?_
    refine jk_nil ?_
    refine jk_seq ?_
    refine jk_seq ?_
    refine jk_region ?_
    refine zq_move ?_
    refine zq_len ?_
    refine zq_gt ?_
    refine jk_nil ?_
    refine jk_if_t rfl ?_
    refine jk_seq ?_
    refine jk_region ?_
    refine zq_assign ?_
    refine jk_nil ?_
    exact jk_ret_any (res1 rfl rfl) (by (repeat (first | exact rs_nil | (refine rs_cons ?_ ?_; (focus ((repeat (first | exact .here | apply Mem.there | apply Take.there)); first | done | fail))) | exact fun ρ hρ => hρ | (intro ρ hρ; repeat (first | exact hρ | refine List.mem_cons_of_mem _ ?_)))); first | done | fail) selZ ⟨rfl, by unfold chkS; rw [if_pos hbig]⟩
  have hS : chkS f = chkL (-1) 0 f := by unfold chkS; rw [if_neg hbig]
  refine jk_seq ?_
  refine jk_region ?_
  refine zq_assign ?_
  refine jk_nil ?_
  refine jk_seq ?_
  refine jk_seq ?_
  refine jk_region ?_
  refine zq_move ?_
  refine zq_len ?_
  refine zq_gtF ?_
  refine jk_nil ?_
  refine jk_if_f rfl ?_
  refine jk_skip ?_
  refine jk_seq ?_
  refine jk_region ?_
  refine zq_build ?_
  refine zl_allocS ?_; rintro _ _ ⟨b, rfl, rfl⟩
  refine zs_storeS ?_; rintro _ _ ⟨rfl, rfl⟩
  refine jk_nil ?_
  refine jk_seq ?_
  refine jk_seq ?_
  refine jk_region ?_
  refine zq_move ?_
  refine zq_len ?_
  refine zq_move ?_
  refine jk_nil ?_
  refine jk_block ?_
  revert b; intro b0
  refine jk_loop [0, 3, 10, 11] (X := Nat × (Int × Int)) (0, (-1, 0)) (fun x => x.1 ≤ f.length ∧ chkS f = chkL x.2.1 x.2.2 (f.drop x.1)) (fun x => [(12, int x.1)]) (fun x => [sng b0 (.cells #[int x.2.1, int x.2.2] 40 (0, 0))]) (fun x => f.length - x.1) pickZ ⟨by dsimp only; omega, by simpa using hS⟩ covZ selZ ?_
  rintro ⟨k, ⟨pa, pv⟩⟩ ⟨hk, hI⟩
  dsimp only at hk hI ⊢
  by_cases hlt : k < f.length
  · have hx := List.getElem?_eq_getElem hlt
    obtain ⟨b', o, rfl, hA, g0, g1⟩ := lvRow hr hx
    rw [drop_cons hlt] at hI
    simp only [chkL] at hI
    rcases bad_cases f[k] with ⟨hb, hbad⟩ | ⟨hok, hb⟩
    · rw [if_pos hbad] at hI
      rcases hb with hb | hb | hb | hb
      · refine jk_seq ?_
        refine jk_region ?_
        refine zq_lt ?_
        refine jk_nil ?_
        refine jk_seq ?_
        refine jk_if_t rfl ?_
        refine jk_skip ?_
        refine jk_seq ?_
        refine jk_block ?_
        refine jk_seq ?_
        refine jk_region ?_
        refine zq_idxN ?_
        refine zq_loadS ?_
        refine zl_allocS ?_; rintro _ _ ⟨b, rfl, rfl⟩
        refine zs_storeS ?_; rintro _ _ ⟨rfl, rfl⟩
        refine jk_nil ?_
        refine jk_seq ?_
        refine jk_seq ?_
        refine jk_region ?_
        refine zq_fld0 ?_
        refine zq_load ?_
        refine zq_lt ?_
        refine zq_move ?_
        refine jk_pass rfl rfl rfl ?_
        refine jk_pass rfl rfl rfl ?_
        refine jk_pass rfl rfl rfl ?_
        refine zq_pick_t ?_
        refine zq_move ?_
        refine jk_pass rfl rfl rfl ?_
        refine jk_pass rfl rfl rfl ?_
        refine jk_pass rfl rfl rfl ?_
        refine zq_pick_t ?_
        refine zq_move ?_
        refine jk_pass rfl rfl rfl ?_
        refine jk_pass rfl rfl rfl ?_
        refine jk_pass rfl rfl rfl ?_
        refine zq_pick_t ?_
        refine jk_nil ?_
        refine jk_if_t rfl ?_
        refine jk_seq ?_
        refine jk_region ?_
        refine zq_assign ?_
        refine jk_nil ?_
        exact jk_ret_any (res1 rfl rfl) (by (repeat (first | exact rs_nil | (refine rs_cons ?_ ?_; (focus ((repeat (first | exact .here | apply Mem.there | apply Take.there)); first | done | fail))) | exact fun ρ hρ => hρ | (intro ρ hρ; repeat (first | exact hρ | refine List.mem_cons_of_mem _ ?_)))); first | done | fail) selZ ⟨rfl, by rw [hI]⟩
      · refine jk_seq ?_
        refine jk_region ?_
        refine zq_lt ?_
        refine jk_nil ?_
        refine jk_seq ?_
        refine jk_if_t rfl ?_
        refine jk_skip ?_
        refine jk_seq ?_
        refine jk_block ?_
        refine jk_seq ?_
        refine jk_region ?_
        refine zq_idxN ?_
        refine zq_loadS ?_
        refine zl_allocS ?_; rintro _ _ ⟨b, rfl, rfl⟩
        refine zs_storeS ?_; rintro _ _ ⟨rfl, rfl⟩
        refine jk_nil ?_
        refine jk_seq ?_
        refine jk_seq ?_
        refine jk_region ?_
        refine zq_fld0 ?_
        refine zq_load ?_
        refine zq_ltF ?_
        refine zq_move ?_
        refine zq_fld0 ?_
        refine zq_load ?_
        refine zq_gt ?_
        refine zq_pick_f ?_
        refine zq_move ?_
        refine jk_pass rfl rfl rfl ?_
        refine jk_pass rfl rfl rfl ?_
        refine jk_pass rfl rfl rfl ?_
        refine zq_pick_t ?_
        refine zq_move ?_
        refine jk_pass rfl rfl rfl ?_
        refine jk_pass rfl rfl rfl ?_
        refine jk_pass rfl rfl rfl ?_
        refine zq_pick_t ?_
        refine jk_nil ?_
        refine jk_if_t rfl ?_
        refine jk_seq ?_
        refine jk_region ?_
        refine zq_assign ?_
        refine jk_nil ?_
        exact jk_ret_any (res1 rfl rfl) (by (repeat (first | exact rs_nil | (refine rs_cons ?_ ?_; (focus ((repeat (first | exact .here | apply Mem.there | apply Take.there)); first | done | fail))) | exact fun ρ hρ => hρ | (intro ρ hρ; repeat (first | exact hρ | refine List.mem_cons_of_mem _ ?_)))); first | done | fail) selZ ⟨rfl, by rw [hI]⟩
      · refine jk_seq ?_
        refine jk_region ?_
        refine zq_lt ?_
        refine jk_nil ?_
        refine jk_seq ?_
        refine jk_if_t rfl ?_
        refine jk_skip ?_
        refine jk_seq ?_
        refine jk_block ?_
        refine jk_seq ?_
        refine jk_region ?_
        refine zq_idxN ?_
        refine zq_loadS ?_
        refine zl_allocS ?_; rintro _ _ ⟨b, rfl, rfl⟩
        refine zs_storeS ?_; rintro _ _ ⟨rfl, rfl⟩
        refine jk_nil ?_
        refine jk_seq ?_
        refine jk_seq ?_
        refine jk_region ?_
        refine zq_fld0 ?_
        refine zq_load ?_
        refine zq_ltF ?_
        refine zq_move ?_
        refine zq_fld0 ?_
        refine zq_load ?_
        refine zq_gtF ?_
        refine zq_pick_f ?_
        refine zq_move ?_
        refine zq_fld0 ?_
        refine zq_load ?_
        refine zq_lt ?_
        refine zq_pick_f ?_
        refine zq_move ?_
        refine jk_pass rfl rfl rfl ?_
        refine jk_pass rfl rfl rfl ?_
        refine jk_pass rfl rfl rfl ?_
        refine zq_pick_t ?_
        refine jk_nil ?_
        refine jk_if_t rfl ?_
        refine jk_seq ?_
        refine jk_region ?_
        refine zq_assign ?_
        refine jk_nil ?_
        exact jk_ret_any (res1 rfl rfl) (by (repeat (first | exact rs_nil | (refine rs_cons ?_ ?_; (focus ((repeat (first | exact .here | apply Mem.there | apply Take.there)); first | done | fail))) | exact fun ρ hρ => hρ | (intro ρ hρ; repeat (first | exact hρ | refine List.mem_cons_of_mem _ ?_)))); first | done | fail) selZ ⟨rfl, by rw [hI]⟩
      · refine jk_seq ?_
        refine jk_region ?_
        refine zq_lt ?_
        refine jk_nil ?_
        refine jk_seq ?_
        refine jk_if_t rfl ?_
        refine jk_skip ?_
        refine jk_seq ?_
        refine jk_block ?_
        refine jk_seq ?_
        refine jk_region ?_
        refine zq_idxN ?_
        refine zq_loadS ?_
        refine zl_allocS ?_; rintro _ _ ⟨b, rfl, rfl⟩
        refine zs_storeS ?_; rintro _ _ ⟨rfl, rfl⟩
        refine jk_nil ?_
        refine jk_seq ?_
        refine jk_seq ?_
        refine jk_region ?_
        refine zq_fld0 ?_
        refine zq_load ?_
        refine zq_ltF ?_
        refine zq_move ?_
        refine zq_fld0 ?_
        refine zq_load ?_
        refine zq_gtF ?_
        refine zq_pick_f ?_
        refine zq_move ?_
        refine zq_fld0 ?_
        refine zq_load ?_
        refine zq_ltF ?_
        refine zq_pick_f ?_
        refine zq_move ?_
        refine zq_fld0 ?_
        refine zq_load ?_
        refine zq_gt ?_
        refine zq_pick_f ?_
        refine jk_nil ?_
        refine jk_if_t rfl ?_
        refine jk_seq ?_
        refine jk_region ?_
        refine zq_assign ?_
        refine jk_nil ?_
        exact jk_ret_any (res1 rfl rfl) (by (repeat (first | exact rs_nil | (refine rs_cons ?_ ?_; (focus ((repeat (first | exact .here | apply Mem.there | apply Take.there)); first | done | fail))) | exact fun ρ hρ => hρ | (intro ρ hρ; repeat (first | exact hρ | refine List.mem_cons_of_mem _ ?_)))); first | done | fail) selZ ⟨rfl, by rw [hI]⟩
    · rw [if_neg hok] at hI
      by_cases h1 : f[k].a ≤ pa
      · rw [if_pos (.inl h1)] at hI
        refine jk_seq ?_
        refine jk_region ?_
        refine zq_lt ?_
        refine jk_nil ?_
        refine jk_seq ?_
        refine jk_if_t rfl ?_
        refine jk_skip ?_
        refine jk_seq ?_
        refine jk_block ?_
        refine jk_seq ?_
        refine jk_region ?_
        refine zq_idxN ?_
        refine zq_loadS ?_
        refine zl_allocS ?_; rintro _ _ ⟨b, rfl, rfl⟩
        refine zs_storeS ?_; rintro _ _ ⟨rfl, rfl⟩
        refine jk_nil ?_
        refine jk_seq ?_
        refine jk_seq ?_
        refine jk_region ?_
        refine zq_fld0 ?_
        refine zq_load ?_
        refine zq_ltF ?_
        refine zq_move ?_
        refine zq_fld0 ?_
        refine zq_load ?_
        refine zq_gtF ?_
        refine zq_pick_f ?_
        refine zq_move ?_
        refine zq_fld0 ?_
        refine zq_load ?_
        refine zq_ltF ?_
        refine zq_pick_f ?_
        refine zq_move ?_
        refine zq_fld0 ?_
        refine zq_load ?_
        refine zq_gtF ?_
        refine zq_pick_f ?_
        refine jk_nil ?_
        refine jk_if_f rfl ?_
        refine jk_skip ?_
        refine jk_seq ?_
        refine jk_seq ?_
        refine jk_region ?_
        refine zq_fld0 ?_
        refine zq_load ?_
        refine zq_fld0 ?_
        refine zq_load ?_
        refine zq_le ?_
        refine zq_move ?_
        refine jk_pass rfl rfl rfl ?_
        refine jk_pass rfl rfl rfl ?_
        refine jk_pass rfl rfl rfl ?_
        refine jk_pass rfl rfl rfl ?_
        refine jk_pass rfl rfl rfl ?_
        refine zq_pick_t ?_
        refine jk_nil ?_
        refine jk_if_t rfl ?_
        refine jk_seq ?_
        refine jk_region ?_
        refine zq_assign ?_
        refine jk_nil ?_
        exact jk_ret_any (res1 rfl rfl) (by (repeat (first | exact rs_nil | (refine rs_cons ?_ ?_; (focus ((repeat (first | exact .here | apply Mem.there | apply Take.there)); first | done | fail))) | exact fun ρ hρ => hρ | (intro ρ hρ; repeat (first | exact hρ | refine List.mem_cons_of_mem _ ?_)))); first | done | fail) selZ ⟨rfl, by rw [hI]⟩
      · by_cases h2 : f[k].v = pv
        · rw [if_pos (.inr h2)] at hI
          refine jk_seq ?_
          refine jk_region ?_
          refine zq_lt ?_
          refine jk_nil ?_
          refine jk_seq ?_
          refine jk_if_t rfl ?_
          refine jk_skip ?_
          refine jk_seq ?_
          refine jk_block ?_
          refine jk_seq ?_
          refine jk_region ?_
          refine zq_idxN ?_
          refine zq_loadS ?_
          refine zl_allocS ?_; rintro _ _ ⟨b, rfl, rfl⟩
          refine zs_storeS ?_; rintro _ _ ⟨rfl, rfl⟩
          refine jk_nil ?_
          refine jk_seq ?_
          refine jk_seq ?_
          refine jk_region ?_
          refine zq_fld0 ?_
          refine zq_load ?_
          refine zq_ltF ?_
          refine zq_move ?_
          refine zq_fld0 ?_
          refine zq_load ?_
          refine zq_gtF ?_
          refine zq_pick_f ?_
          refine zq_move ?_
          refine zq_fld0 ?_
          refine zq_load ?_
          refine zq_ltF ?_
          refine zq_pick_f ?_
          refine zq_move ?_
          refine zq_fld0 ?_
          refine zq_load ?_
          refine zq_gtF ?_
          refine zq_pick_f ?_
          refine jk_nil ?_
          refine jk_if_f rfl ?_
          refine jk_skip ?_
          refine jk_seq ?_
          refine jk_seq ?_
          refine jk_region ?_
          refine zq_fld0 ?_
          refine zq_load ?_
          refine zq_fld0 ?_
          refine zq_load ?_
          refine zq_leF ?_
          refine zq_move ?_
          refine zq_fld0 ?_
          refine zq_load ?_
          refine zq_fld0 ?_
          refine zq_load ?_
          refine zq_eq ?_
          refine zq_pick_f ?_
          refine jk_nil ?_
          refine jk_if_t rfl ?_
          refine jk_seq ?_
          refine jk_region ?_
          refine zq_assign ?_
          refine jk_nil ?_
          exact jk_ret_any (res1 rfl rfl) (by (repeat (first | exact rs_nil | (refine rs_cons ?_ ?_; (focus ((repeat (first | exact .here | apply Mem.there | apply Take.there)); first | done | fail))) | exact fun ρ hρ => hρ | (intro ρ hρ; repeat (first | exact hρ | refine List.mem_cons_of_mem _ ?_)))); first | done | fail) selZ ⟨rfl, by rw [hI]⟩
        · rw [if_neg (by omega)] at hI
          refine jk_seq ?_
          refine jk_region ?_
          refine zq_lt ?_
          refine jk_nil ?_
          refine jk_seq ?_
          refine jk_if_t rfl ?_
          refine jk_skip ?_
          refine jk_seq ?_
          refine jk_block ?_
          refine jk_seq ?_
          refine jk_region ?_
          refine zq_idxN ?_
          refine zq_loadS ?_
          refine zl_allocS ?_; rintro _ _ ⟨b, rfl, rfl⟩
          refine zs_storeS ?_; rintro _ _ ⟨rfl, rfl⟩
          refine jk_nil ?_
          refine jk_seq ?_
          refine jk_seq ?_
          refine jk_region ?_
          refine zq_fld0 ?_
          refine zq_load ?_
          refine zq_ltF ?_
          refine zq_move ?_
          refine zq_fld0 ?_
          refine zq_load ?_
          refine zq_gtF ?_
          refine zq_pick_f ?_
          refine zq_move ?_
          refine zq_fld0 ?_
          refine zq_load ?_
          refine zq_ltF ?_
          refine zq_pick_f ?_
          refine zq_move ?_
          refine zq_fld0 ?_
          refine zq_load ?_
          refine zq_gtF ?_
          refine zq_pick_f ?_
          refine jk_nil ?_
          refine jk_if_f rfl ?_
          refine jk_skip ?_
          refine jk_seq ?_
          refine jk_seq ?_
          refine jk_region ?_
          refine zq_fld0 ?_
          refine zq_load ?_
          refine zq_fld0 ?_
          refine zq_load ?_
          refine zq_leF ?_
          refine zq_move ?_
          refine zq_fld0 ?_
          refine zq_load ?_
          refine zq_fld0 ?_
          refine zq_load ?_
          refine zq_eqF ?_
          refine zq_pick_f ?_
          refine jk_nil ?_
          refine jk_if_f rfl ?_
          refine jk_skip ?_
          refine jk_region ?_
          refine zq_loadS ?_
          refine zs_storeS ?_; rintro _ _ ⟨rfl, rfl⟩
          refine jk_nil ?_
          refine jk_blk ?_
          refine jk_region ?_
          refine zq_inc ?_
          refine zq_move ?_
          refine jk_nil ?_
          exact jk_round (k + 1, (f[k].a, f[k].v)) ⟨by dsimp only; omega, hI⟩ (by dsimp only; omega) covZ selZ
  · refine jk_seq ?_
    refine jk_region ?_
    refine zq_ltF ?_
    refine jk_nil ?_
    refine jk_seq ?_
    refine jk_if_f rfl ?_
    refine jk_exit rfl ?_
    refine jk_seq ?_
    refine jk_region ?_
    refine zq_assign ?_
    refine jk_nil ?_
    refine jk_ret_any (res1 rfl rfl) (by (repeat (first | exact rs_nil | (refine rs_cons ?_ ?_; (focus ((repeat (first | exact .here | apply Mem.there | apply Take.there)); first | done | fail))) | exact fun ρ hρ => hρ | (intro ρ hρ; repeat (first | exact hρ | refine List.mem_cons_of_mem _ ?_)))); first | done | fail) selZ ⟨rfl, ?_⟩
    rw [hI, List.drop_of_length_le (by omega)]; rfl

theorem cmp_spec (x : Lv) (t : Int) (h : In64 (x.a - t)) : Ans Try.prog (fv 79) [.agg #[int x.a, int x.v], int t] [] (fun r => r = int (x.a - t)) := by
  have h1 := h.1
  have h2 := h.2
  refine spec_in (cap := []) Try.func79 rfl rfl Try.ntmps79 rfl (by (repeat (first | exact EnvA.nil EnvI.nil | apply EnvA.cons | apply EnvA.nil | exact EnvI.nil | apply EnvI.cons)); first | done | fail) (fun N β => ?_)
  refine jk_seq ?_
  refine jk_region ?_
  refine zl_boxS ?_; rintro _ _ ⟨b, rfl, rfl⟩
  refine zq_assign ?_
  refine jk_nil ?_
  refine jk_seq ?_
  refine jk_region ?_
  refine zq_fld0 ?_
  refine zq_load ?_
  refine zq_move ?_
  refine zq_sub ?_
  refine zq_assign ?_
  refine jk_nil ?_
  exact jk_ret_any (res1 rfl rfl) (by (repeat (first | exact rs_nil | (refine rs_cons ?_ ?_; (focus ((repeat (first | exact .here | apply Mem.there | apply Take.there)); first | done | fail))) | exact fun ρ hρ => hρ | (intro ρ hρ; repeat (first | exact hρ | refine List.mem_cons_of_mem _ ?_)))); first | done | fail) selZ ⟨rfl, rfl⟩
set_option maxHeartbeats 8000000 in
theorem bsearch_spec (ρ : PH) (v : Value) (f : List Lv) (t : Int) (hv : LvAt ρ v f) (hA : AscT (-1) f) (hl : f.length ≤ 1000) (ht : 0 ≤ t ∧ t ≤ 1099511627776) :
    Ans Try.prog (fv 78) [v, int t, fv 79] [ρ] (fun r => ∃ k : Nat, k ≤ f.length ∧ (∀ (u : Nat) (x : Lv), u < k → f[u]? = some x → x.a < t) ∧ (∀ x, f[k]? = some x → t ≤ x.a) ∧
      r = .tuple #[int k, .bool (decide (∃ x, f[k]? = some x ∧ x.a = t))]) := by
  obtain ⟨q, c, rfl, hr⟩ := hv.val encV_len
  refine spec_in (cap := []) Try.func78 rfl rfl Try.ntmps78 rfl (by (repeat (first | exact EnvA.nil EnvI.nil | apply EnvA.cons | apply EnvA.nil | exact EnvI.nil | apply EnvI.cons)); first | done | fail) (fun N β => ?_)
  refine jk_seq ?_
  refine jk_region ?_
  refine zq_assign ?_
  refine zq_assign ?_
  refine jk_nil ?_
  refine jk_seq ?_
  refine jk_region ?_
  refine zq_move ?_
  refine zq_len ?_
  refine zq_assign ?_
  refine jk_nil ?_
  refine jk_seq ?_
  refine jk_region ?_
  refine zq_move ?_
  refine zq_assign ?_
  refine zq_assign ?_
  refine jk_nil ?_
  refine jk_seq ?_
  refine jk_block ?_
  refine jk_loop [0, 1, 2, 8] (X := Nat × Nat) (0, f.length) (fun x => x.1 ≤ x.2 ∧ x.2 ≤ f.length ∧ (∀ (u : Nat) (y : Lv), u < x.1 → f[u]? = some y → y.a < t) ∧ (∀ y, f[x.2]? = some y → t ≤ y.a)) (fun x => [(9, int x.1), (10, int x.2)]) (fun _ => []) (fun x => x.2 - x.1)
    pickZ ⟨by dsimp only; omega, by dsimp only; omega, by dsimp only; intro u y hu; omega, by dsimp only; intro y hy; simp at hy⟩ covZ selZ ?_
  rintro ⟨i, j⟩ ⟨h1, h2, h3, h4⟩
  dsimp only at h1 h2 h3 h4 ⊢
  by_cases hlt : i < j
  · have hh : (i + j) / 2 < f.length := by omega
    have hx := List.getElem?_eq_getElem hh
    obtain ⟨b', o, rfl, hRd, g0, g1⟩ := lvRow hr hx
    have hgt := hA.gt f[(i + j) / 2] (List.getElem_mem hh)
    refine jk_seq ?_
    refine jk_seq ?_
    refine jk_region ?_
    refine zq_move ?_
    refine zq_move ?_
    refine zq_lt ?_
    refine jk_nil ?_
    refine jk_if_t rfl ?_
    refine jk_skip ?_
    refine jk_block ?_
    refine jk_seq ?_
    refine jk_region ?_
    refine zq_move ?_
    refine zq_move ?_
    refine zq_add ?_
    rw [show (i : Int) + (j : Int) = ((i + j : Nat) : Int) from by omega]
    focus ((refine' jk_q _ rfl rfl rfl _; rotate_left; (apply q_toU; exact rfl; exact rfl; exact rfl; omega)))
    focus ((refine' jk_q _ rfl rfl rfl _; rotate_left; (apply q_half64; exact rfl; exact rfl; decide)))
    focus ((refine' jk_q _ rfl rfl rfl _; rotate_left; (apply q_toI; exact rfl; exact rfl; exact rfl; omega)))
    refine zq_assign ?_
    refine jk_nil ?_
    refine jk_seq ?_
    refine jk_region ?_
    refine zq_move ?_
    refine zq_move ?_
    refine zq_move ?_
    refine zq_idxN ?_
    refine zq_loadS ?_
    refine zq_move ?_
    refine jk_call (cmp_spec f[(i + j) / 2] t ⟨by omega, by omega⟩) rfl rfl rdZ rfl rfl ?_
    rintro _ rfl
    by_cases hc : f[(i + j) / 2].a < t
    · refine zq_lt ?_
      refine jk_nil ?_
      refine jk_if_t rfl ?_
      refine jk_region ?_
      refine zq_move ?_
      refine zq_inc ?_
      refine zq_assign ?_
      refine jk_nil ?_
      refine jk_blk ?_
      refine jk_round ((i + j) / 2 + 1, j) ⟨by dsimp only; omega, h2, fun u y hu hy => ?_, h4⟩ (by dsimp only; omega) covZ selZ
      dsimp only at hu
      by_cases e : u = (i + j) / 2
      · subst e
        rw [hx] at hy
        obtain rfl := Option.some.inj hy
        exact hc
      · have := hA.idx u ((i + j) / 2) y _ hy hx (by omega)
        omega
    · refine zq_ltF ?_
      refine jk_nil ?_
      refine jk_if_f rfl ?_
      refine jk_region ?_
      refine zq_move ?_
      refine zq_assign ?_
      refine jk_nil ?_
      refine jk_blk ?_
      refine jk_round (i, (i + j) / 2) ⟨by dsimp only; omega, by dsimp only; omega, h3, fun y hy => ?_⟩ (by dsimp only; omega) covZ selZ
      dsimp only at hy
      rw [hx] at hy
      obtain rfl := Option.some.inj hy
      omega
  · have e : i = j := by omega
    subst e
    by_cases hlt2 : i < f.length
    · have hx := List.getElem?_eq_getElem hlt2
      obtain ⟨b', o, rfl, hRd, g0, g1⟩ := lvRow hr hx
      have hgt := hA.gt f[i] (List.getElem_mem hlt2)
      refine jk_seq ?_
      refine jk_seq ?_
      refine jk_region ?_
      refine zq_move ?_
      refine zq_move ?_
      refine zq_ltF ?_
      refine jk_nil ?_
      refine jk_if_f rfl ?_
      refine jk_exit rfl ?_
      refine jk_seq ?_
      refine jk_region ?_
      refine zq_move ?_
      refine zq_move ?_
      refine zq_move ?_
      refine zq_lt ?_
      refine zq_move ?_
      refine zq_move ?_
      refine zq_move ?_
      refine zq_move ?_
      refine zq_idxN ?_
      refine zq_loadS ?_
      refine zq_move ?_
      refine jk_call (cmp_spec f[i] t ⟨by omega, by omega⟩) rfl rfl rdZ rfl rfl ?_
      rintro _ rfl
      by_cases he : f[i].a = t
      · refine zq_eq ?_
        refine zq_pick_t ?_
        refine zq_assign ?_
        refine zq_assign ?_
        refine jk_nil ?_
        refine jk_ret_any (res2 rfl rfl rfl) (by (repeat (first | exact rs_nil | (refine rs_cons ?_ ?_; (focus ((repeat (first | exact .here | apply Mem.there | apply Take.there)); first | done | fail))) | exact fun ρ hρ => hρ | (intro ρ hρ; repeat (first | exact hρ | refine List.mem_cons_of_mem _ ?_)))); first | done | fail) selZ ⟨rfl, i, h2, h3, h4, ?_⟩
        rw [decide_eq_true ⟨f[i], hx, he⟩]
      · refine zq_eqF ?_
        refine zq_pick_t ?_
        refine zq_assign ?_
        refine zq_assign ?_
        refine jk_nil ?_
        refine jk_ret_any (res2 rfl rfl rfl) (by (repeat (first | exact rs_nil | (refine rs_cons ?_ ?_; (focus ((repeat (first | exact .here | apply Mem.there | apply Take.there)); first | done | fail))) | exact fun ρ hρ => hρ | (intro ρ hρ; repeat (first | exact hρ | refine List.mem_cons_of_mem _ ?_)))); first | done | fail) selZ ⟨rfl, i, h2, h3, h4, ?_⟩
        rw [decide_eq_false (fun ⟨x, h5, h6⟩ => by rw [hx] at h5; obtain rfl := Option.some.inj h5; exact he h6)]
    · refine jk_seq ?_
      refine jk_seq ?_
      refine jk_region ?_
      refine zq_move ?_
      refine zq_move ?_
      refine zq_ltF ?_
      refine jk_nil ?_
      refine jk_if_f rfl ?_
      refine jk_exit rfl ?_
      refine jk_seq ?_
      refine jk_region ?_
      refine zq_move ?_
      refine zq_move ?_
      refine zq_move ?_
      refine zq_ltF ?_
      refine zq_move ?_
      refine jk_pass rfl rfl rfl ?_
      refine jk_pass rfl rfl rfl ?_
      refine jk_pass rfl rfl rfl ?_
      refine jk_pass rfl rfl rfl ?_
      refine jk_pass rfl rfl rfl ?_
      refine jk_pass rfl rfl rfl ?_
      refine jk_pass rfl rfl rfl ?_
      refine jk_pass rfl rfl rfl ?_
      refine zq_pick_f ?_
      refine zq_assign ?_
      refine zq_assign ?_
      refine jk_nil ?_
      refine jk_ret_any (res2 rfl rfl rfl) (by (repeat (first | exact rs_nil | (refine rs_cons ?_ ?_; (focus ((repeat (first | exact .here | apply Mem.there | apply Take.there)); first | done | fail))) | exact fun ρ hρ => hρ | (intro ρ hρ; repeat (first | exact hρ | refine List.mem_cons_of_mem _ ?_)))); first | done | fail) selZ ⟨rfl, i, h2, h3, h4, ?_⟩
      rw [decide_eq_false (fun ⟨x, h5, h6⟩ => by rw [List.getElem?_eq_none (by omega)] at h5; simp at h5)]

theorem stepValueT_spec (ρ : PH) (v : Value) (f : List Lv) (t : Int) (hv : LvAt ρ v f) (hA : AscT (-1) f) (hl : f.length ≤ 1000) (ht : 0 ≤ t ∧ t ≤ 1099511627776) :
    Ans Try.prog (fv 64) [v, int t] [ρ] (fun r => r = int (val f t)) := by
  have hv2 := hv
  obtain ⟨q, c, rfl, hr⟩ := hv.val encV_len
  refine spec_in (cap := []) Try.func64 rfl rfl Try.ntmps64 rfl (by (repeat (first | exact EnvA.nil EnvI.nil | apply EnvA.cons | apply EnvA.nil | exact EnvI.nil | apply EnvI.cons)); first | done | fail) (fun N β => ?_)
  refine jk_seq ?_
  refine jk_region ?_
  refine zq_assign ?_
  refine jk_nil ?_
  refine jk_seq ?_
  refine jk_region ?_
  refine zq_move ?_
  refine zq_move ?_
  refine jk_call (bsearch_spec ρ _ f t hv2 hA hl ht) rfl rfl rdZ rfl rfl ?_
  rintro _ ⟨k, hk, h1, h2, rfl⟩
  by_cases he : ∃ x, f[k]? = some x ∧ x.a = t
  · rw [decide_eq_true he]
    obtain ⟨x, hx, hxa⟩ := he
    obtain ⟨b', o, rfl, hRd, g0, g1⟩ := lvRow hr hx
    have hlt : k < f.length := (List.getElem?_eq_some_iff.1 hx).1
    have hval := val_idx (f := f) (t := t) (i := k + 1) (by omega) (fun u y hu hy => by
      by_cases e : u = k
      · subst e; rw [hx] at hy; obtain rfl := Option.some.inj hy; omega
      · have := h1 u y (by omega) hy; omega) (fun y hy => by have := hA.idx k (k + 1) x y hx hy (by omega); omega)
    have hxe : f[k] = x := (List.getElem?_eq_some_iff.1 hx).2
    rw [prV_succ hlt, hxe] at hval
    refine zq_move ?_
    refine zq_extract ?_
    refine zq_extract ?_
    refine zq_assign ?_
    refine zq_assign ?_
    refine jk_nil ?_
    refine jk_seq ?_
    refine jk_seq ?_
    refine jk_region ?_
    refine zq_move ?_
    refine jk_nil ?_
    refine jk_if_t rfl ?_
    refine jk_seq ?_
    refine jk_region ?_
    refine zq_move ?_
    refine zq_move ?_
    refine zq_idxN ?_
    refine zq_fld ?_
    refine zq_load ?_
    refine zq_assign ?_
    refine jk_nil ?_
    exact jk_ret_any (res1 rfl rfl) (by (repeat (first | exact rs_nil | (refine rs_cons ?_ ?_; (focus ((repeat (first | exact .here | apply Mem.there | apply Take.there)); first | done | fail))) | exact fun ρ hρ => hρ | (intro ρ hρ; repeat (first | exact hρ | refine List.mem_cons_of_mem _ ?_)))); first | done | fail) selZ ⟨rfl, by rw [hval]⟩
  · rw [decide_eq_false he]
    have hval := val_idx (f := f) (t := t) (i := k) hk (fun u y hu hy => by have := h1 u y hu hy; omega) (fun y hy => by
      have h5 := h2 y hy
      have : y.a ≠ t := fun e => he ⟨y, hy, e⟩
      omega)
    rcases Nat.eq_zero_or_pos k with h0 | h0
    · subst h0
      refine zq_move ?_
      refine zq_extract ?_
      refine zq_extract ?_
      refine zq_assign ?_
      refine zq_assign ?_
      refine jk_nil ?_
      refine jk_seq ?_
      refine jk_seq ?_
      refine jk_region ?_
      refine zq_move ?_
      refine jk_nil ?_
      refine jk_if_f rfl ?_
      refine jk_skip ?_
      refine jk_seq ?_
      refine jk_seq ?_
      refine jk_region ?_
      refine zq_move ?_
      refine zq_eq ?_
      refine jk_nil ?_
      refine jk_if_t rfl ?_
      refine jk_seq ?_
      refine jk_region ?_
      refine zq_assign ?_
      refine jk_nil ?_
      exact jk_ret_any (res1 rfl rfl) (by (repeat (first | exact rs_nil | (refine rs_cons ?_ ?_; (focus ((repeat (first | exact .here | apply Mem.there | apply Take.there)); first | done | fail))) | exact fun ρ hρ => hρ | (intro ρ hρ; repeat (first | exact hρ | refine List.mem_cons_of_mem _ ?_)))); first | done | fail) selZ ⟨rfl, by rw [hval]; rfl⟩
    · obtain ⟨j, rfl⟩ : ∃ j, k = j + 1 := ⟨k - 1, by omega⟩
      have hj : j < f.length := by omega
      obtain ⟨b', o, rfl, hRd, g0, g1⟩ := lvRow hr (List.getElem?_eq_getElem hj)
      have ej : j + 1 - 1 = j := by omega
      rw [prV_succ hj] at hval
      refine zq_move ?_
      refine zq_extract ?_
      refine zq_extract ?_
      refine zq_assign ?_
      refine zq_assign ?_
      refine jk_nil ?_
      refine jk_seq ?_
      refine jk_seq ?_
      refine jk_region ?_
      refine zq_move ?_
      refine jk_nil ?_
      refine jk_if_f rfl ?_
      refine jk_skip ?_
      refine jk_seq ?_
      refine jk_seq ?_
      refine jk_region ?_
      refine zq_move ?_
      refine zq_eqF ?_
      refine jk_nil ?_
      refine jk_if_f rfl ?_
      refine jk_skip ?_
      refine jk_seq ?_
      refine jk_region ?_
      refine zq_move ?_
      refine zq_move ?_
      refine zq_sub_nat ?_
      refine zq_idxN ?_
      refine zq_fld ?_
      refine zq_load ?_
      refine zq_assign ?_
      refine jk_nil ?_
      focus ((rw [ej]))
      exact jk_ret_any (res1 rfl rfl) (by (repeat (first | exact rs_nil | (refine rs_cons ?_ ?_; (focus ((repeat (first | exact .here | apply Mem.there | apply Take.there)); first | done | fail))) | exact fun ρ hρ => hρ | (intro ρ hρ; repeat (first | exact hρ | refine List.mem_cons_of_mem _ ?_)))); first | done | fail) selZ ⟨rfl, by rw [hval]⟩
theorem stepValue_spec (ρ : PH) (v : Value) (f : List Lv) (t : Int) (hv : LvAt ρ v f) (hA : Asc (-1) f) (hl : f.length ≤ 1000) (ht : 0 ≤ t ∧ t ≤ 1099511627776) :
    Ans Try.prog (fv 64) [v, int t] [ρ] (fun r => r = int (val f t)) := stepValueT_spec ρ v f t hv hA.t hl ht
abbrev u64 (n : Nat) : Value := .int .u64 (n : Int)
theorem mul64_spec (x y : Nat) (hx : x ≤ 1048576) (hy : y ≤ 1099511627776) : Ans Try.prog (fv 65) [u64 x, u64 y] [] (fun r => r = .tuple #[u64 0, u64 (x * y)]) := by
  have b1 : x * (y % 4294967296) ≤ 4503599627370496 := Nat.le_trans (Nat.mul_le_mul hx (show y % 4294967296 ≤ 4294967296 by omega)) (by decide)
  have b2 : x * (y / 4294967296) ≤ 268435456 := Nat.le_trans (Nat.mul_le_mul hx (show y / 4294967296 ≤ 256 by omega)) (by decide)
  have b3 : x * y ≤ 1152921504606846976 := Nat.le_trans (Nat.mul_le_mul hx hy) (by decide)
  have e1 : x % 4294967296 = x := by omega
  have e2 : x / 4294967296 = 0 := by omega
  refine spec_in (cap := []) Try.func65 rfl rfl Try.ntmps65 rfl (by (repeat (first | exact EnvA.nil EnvI.nil | apply EnvA.cons | apply EnvA.nil | exact EnvI.nil | apply EnvI.cons)); first | done | fail) (fun N β => ?_)
  refine jk_seq ?_
  refine jk_region ?_
  refine zq_assign ?_
  refine zq_assign ?_
  refine jk_nil ?_
  refine jk_seq ?_
  refine jk_region ?_
  refine zq_move ?_
  focus ((refine' jk_q _ rfl rfl rfl _; rotate_left; (apply q_low32; exact rfl; exact rfl; omega)))
  refine zq_assign ?_
  refine jk_nil ?_
  refine jk_seq ?_
  refine jk_region ?_
  refine zq_move ?_
  focus ((refine' jk_q _ rfl rfl rfl _; rotate_left; (apply q_high32; exact rfl; exact rfl)))
  refine zq_assign ?_
  refine jk_nil ?_
  refine jk_seq ?_
  refine jk_region ?_
  refine zq_move ?_
  focus ((refine' jk_q _ rfl rfl rfl _; rotate_left; (apply q_low32; exact rfl; exact rfl; omega)))
  refine zq_assign ?_
  refine jk_nil ?_
  refine jk_seq ?_
  refine jk_region ?_
  refine zq_move ?_
  focus ((refine' jk_q _ rfl rfl rfl _; rotate_left; (apply q_high32; exact rfl; exact rfl)))
  refine zq_assign ?_
  refine jk_nil ?_
  refine jk_seq ?_
  refine jk_region ?_
  refine zq_move ?_
  refine zq_move ?_
  focus ((rw [e1]))
  focus ((rw [e2]))
  focus ((refine' jk_q _ rfl rfl rfl _; rotate_left; (apply q_mulU; exact rfl; exact rfl; omega)))
  refine zq_assign ?_
  refine jk_nil ?_
  refine jk_seq ?_
  refine jk_region ?_
  refine zq_move ?_
  refine zq_move ?_
  focus ((refine' jk_q _ rfl rfl rfl _; rotate_left; (apply q_mulU; exact rfl; exact rfl; omega)))
  refine zq_move ?_
  focus ((refine' jk_q _ rfl rfl rfl _; rotate_left; (apply q_high32; exact rfl; exact rfl)))
  focus ((rw [Nat.zero_mul]))
  focus ((refine' jk_q _ rfl rfl rfl _; rotate_left; (apply q_addU; exact rfl; exact rfl; omega)))
  refine zq_assign ?_
  refine jk_nil ?_
  refine jk_seq ?_
  refine jk_region ?_
  refine zq_move ?_
  focus ((refine' jk_q _ rfl rfl rfl _; rotate_left; (apply q_low32; exact rfl; exact rfl; omega)))
  refine zq_assign ?_
  refine jk_nil ?_
  refine jk_seq ?_
  refine jk_region ?_
  refine zq_move ?_
  focus ((refine' jk_q _ rfl rfl rfl _; rotate_left; (apply q_high32; exact rfl; exact rfl)))
  refine zq_assign ?_
  refine jk_nil ?_
  refine jk_seq ?_
  refine jk_region ?_
  refine zq_move ?_
  refine zq_move ?_
  refine zq_move ?_
  focus ((refine' jk_q _ rfl rfl rfl _; rotate_left; (apply q_mulU; exact rfl; exact rfl; omega)))
  focus ((refine' jk_q _ rfl rfl rfl _; rotate_left; (apply q_addU; exact rfl; exact rfl; omega)))
  refine zq_assign ?_
  refine jk_nil ?_
  refine jk_seq ?_
  refine jk_region ?_
  refine zq_move ?_
  refine zq_move ?_
  focus ((refine' jk_q _ rfl rfl rfl _; rotate_left; (apply q_mulU; exact rfl; exact rfl; omega)))
  refine zq_move ?_
  focus ((rw [Nat.zero_mul]))
  focus ((refine' jk_q _ rfl rfl rfl _; rotate_left; (apply q_addU; exact rfl; exact rfl; omega)))
  refine zq_move ?_
  focus ((refine' jk_q _ rfl rfl rfl _; rotate_left; (apply q_high32; exact rfl; exact rfl)))
  focus ((refine' jk_q _ rfl rfl rfl _; rotate_left; (apply q_addU; exact rfl; exact rfl; omega)))
  refine zq_assign ?_
  refine jk_nil ?_
  refine jk_seq ?_
  refine jk_region ?_
  refine zq_move ?_
  refine zq_move ?_
  focus ((refine' jk_q _ rfl rfl rfl _; rotate_left; (apply q_mulU; exact rfl; exact rfl; omega)))
  refine zq_assign ?_
  refine jk_nil ?_
  refine jk_ret_any (res2 rfl rfl rfl) (by (repeat (first | exact rs_nil | (refine rs_cons ?_ ?_; (focus ((repeat (first | exact .here | apply Mem.there | apply Take.there)); first | done | fail))) | exact fun ρ hρ => hρ | (intro ρ hρ; repeat (first | exact hρ | refine List.mem_cons_of_mem _ ?_)))); first | done | fail) selZ ⟨rfl, ?_⟩
  have e3 : 0 + (0 + x * (y % 4294967296) / 4294967296) / 4294967296 + ((0 + x * (y % 4294967296) / 4294967296) % 4294967296 + x * (y / 4294967296)) / 4294967296 = 0 := by omega
  show Value.tuple _ = Value.tuple _
  rw [e3]
theorem add64_q {C : Cx} {R H : List PH} {L : Env} {dst : Option Tmp} {ty : TypeId} {pos : String} {aft : Array Edge} {g : Option (Nat × Bool)} {x : Operand} {xs : Array Operand} {ts : Array TypeId} {m n : Nat} (hC : C.P = Try.prog) (hf : evalE L x = some (fv 67)) (ha : evalEs L xs.toList = some [u64 m, u64 n, .int .u64 0]) (hr : m + n ≤ 18446744073709551615) :
    Quiet C R H L ⟨dst, .call ⟨.value x, xs, ts⟩, ty, pos, aft, g⟩ (.tuple #[u64 (m + n), u64 0]) := by
  refine q_ext (e := add64Entry) hf ha (by rw [hC]; exact Try.func67) rfl rfl (by kernel_rfl) (by kernel_rfl) (fun w => ?_)
  have := run_add64 (P := C.P) (m : Int) (n : Int) 0 (by omega) (by omega) (by omega) (by omega) w
  rw [show ((m : Int) + (n : Int) + 0) % 18446744073709551616 = ((m + n : Nat) : Int) from by omega, show ((m : Int) + (n : Int) + 0) / 18446744073709551616 = ((0 : Nat) : Int) from by omega] at this
  exact this
theorem wideAdd_spec (wb : Nat) (n len lo : Nat) (hn : n ≤ 1048576) (hl : len ≤ 1099511627776) (hlo : lo + n * len ≤ 9223372036854775807) :
    Eng.Spec Try.prog (fv 46) [.pointer (some ⟨wb, 0, none⟩), int n, int len] [] [sng wb (.cells #[u64 0, u64 lo] 77 (0, 0))] (fun r H' => r = .tuple #[] ∧ H' = [sng wb (.cells #[u64 0, u64 (lo + n * len)] 77 (0, 0))]) := by
  have hmx : max (n : Int) (-(n : Int)) = ((n : Nat) : Int) := by omega
  refine spec_in (cap := []) Try.func46 rfl rfl Try.ntmps46 rfl (by (repeat (first | exact EnvA.nil EnvI.nil | apply EnvA.cons | apply EnvA.nil | exact EnvI.nil | apply EnvI.cons)); first | done | fail) (fun N β => ?_)
  refine jk_seq ?_
  refine jk_region ?_
  refine zq_move ?_
  refine zq_move ?_
  refine zq_neg ?_
  refine zq_max ?_
  rw [hmx]
  focus ((refine' jk_q _ rfl rfl rfl _; rotate_left; (apply q_toU; exact rfl; exact rfl; exact rfl; omega)))
  refine zq_assign ?_
  refine jk_nil ?_
  refine jk_seq ?_
  refine jk_region ?_
  refine zq_move ?_
  refine zq_move ?_
  focus ((refine' jk_q _ rfl rfl rfl _; rotate_left; (apply q_toU; exact rfl; exact rfl; exact rfl; omega)))
  refine jk_call (mul64_spec n len hn hl) rfl rfl rdZ rfl rfl ?_
  rintro _ rfl
  refine zq_move ?_
  refine zq_extract ?_
  refine zq_extract ?_
  refine zq_assign ?_
  refine zq_assign ?_
  refine jk_nil ?_
  refine jk_seq ?_
  refine jk_region ?_
  refine zq_assign ?_
  refine jk_nil ?_
  refine jk_seq ?_
  refine jk_seq ?_
  refine jk_region ?_
  refine zq_move ?_
  refine zq_ltF ?_
  refine jk_nil ?_
  refine jk_if_f rfl ?_
  refine jk_skip ?_
  refine jk_seq ?_
  refine jk_region ?_
  refine zq_move ?_
  refine zq_move ?_
  refine zq_nilCheck ?_
  refine zq_fld0 ?_
  refine zq_load ?_
  refine zq_move ?_
  focus ((refine' jk_q _ rfl rfl rfl _; rotate_left; (apply add64_q; exact rfl; exact rfl; exact rfl; omega)))
  refine zq_move ?_
  refine zq_extract ?_
  refine zq_extract ?_
  refine zq_nilCheck ?_
  refine zq_fld0 ?_
  refine zs_storeL ?_; rintro _ _ ⟨rfl, rfl⟩
  refine zq_assign ?_
  refine jk_nil ?_
  refine jk_region ?_
  refine zq_move ?_
  refine zq_move ?_
  refine zq_nilCheck ?_
  refine zq_fld0 ?_
  refine zq_load ?_
  refine zq_move ?_
  refine zq_move ?_
  focus ((refine' jk_q _ rfl rfl rfl _; rotate_left; (apply add64_q; exact rfl; exact rfl; exact rfl; omega)))
  refine zq_move ?_
  refine zq_extract ?_
  refine zq_extract ?_
  refine zq_nilCheck ?_
  refine zq_fld0 ?_
  refine zs_storeL ?_; rintro _ _ ⟨rfl, rfl⟩
  refine jk_nil ?_
  exact jk_end_any (res0 rfl) (by (repeat (first | exact rs_nil | (refine rs_cons ?_ ?_; (focus ((repeat (first | exact .here | apply Mem.there | apply Take.there)); first | done | fail))) | exact fun ρ hρ => hρ | (intro ρ hρ; repeat (first | exact hρ | refine List.mem_cons_of_mem _ ?_)))); first | done | fail) selZ ⟨rfl, rfl⟩

theorem parts_spec (v : Value) (fr to : Int) (hv1 : v.oneCell' = true) :
    Eng.Spec Try.prog (fv 45) [v, .agg #[int fr, int to]] [] [] (fun r H' => ∃ bx bf, r = .func (.func 63) #[] #[.pointer (some ⟨bx, 0, none⟩), .pointer (some ⟨bf, 0, none⟩)] ∧
      H' = [sng bx (.cells #[int fr, int to] 43 (0, 0)), sng bf (.cells #[v] 29 (0, 0))]) := by
  refine spec_in (cap := []) Try.func45 rfl rfl Try.ntmps45 rfl (by (repeat (first | exact EnvA.nil EnvI.nil | apply EnvA.cons | apply EnvA.nil | exact EnvI.nil | apply EnvI.cons)); first | done | fail) (fun N β => ?_)
  refine jk_seq ?_
  refine jk_region ?_
  refine jk_op (l_box1 rfl hv1) rfl rfl rfl ?_
  rintro _ _ ⟨bf, rfl, rfl⟩
  refine jk_op (l_boxS rfl) rfl rfl rfl ?_
  rintro _ _ ⟨bx, rfl, rfl⟩
  refine zq_assign ?_
  refine jk_nil ?_
  refine jk_seq ?_
  refine jk_region ?_
  refine zq_makeFunc ?_
  refine zq_assign ?_
  refine jk_nil ?_
  exact jk_ret_any (res1 rfl rfl) (by (repeat (first | exact rs_nil | (refine rs_cons ?_ ?_; (focus ((repeat (first | exact .here | apply Mem.there | apply Take.there)); first | done | fail))) | exact fun ρ hρ => hρ | (intro ρ hρ; repeat (first | exact hρ | refine List.mem_cons_of_mem _ ?_)))); first | done | fail) selZ ⟨bx, bf, rfl, rfl⟩
def encPt (q : (Int × Int) × Int) : List Value := [.agg #[int q.1.1, int q.1.2], int q.2]
set_option maxHeartbeats 8000000 in
theorem parts_iter (ρ : PH) (bx bf : Nat) (v : Value) (f : List Lv) (fr to : Int) (hv : LvAt ρ v f) (hA : Asc (-1) f) (hl : f.length ≤ 1000) (h0 : 0 ≤ fr) (h1 : fr ≤ to) (h2 : to ≤ 1099511627776) :
    Iter Try.prog (.func (.func 63) #[] #[.pointer (some ⟨bx, 0, none⟩), .pointer (some ⟨bf, 0, none⟩)])
      [sng bx (.cells #[int fr, int to] 43 (0, 0)), sng bf (.cells #[v] 29 (0, 0)), ρ] ((parts f fr to).map encPt) := by
  intro y S Own Inv Stop Ry hy hyl σ0 hI0
  obtain ⟨yl, rfl⟩ := hyl
  have hv2 := hv
  obtain ⟨p, c, rfl, hr⟩ := hv.val encV_len
  have c1 : rdc (sng bf (.cells #[.slice p f.length c] 29 (0, 0))) bf 0 = some (.slice p f.length c) := by rw [rdc_sng]; rfl
  have c2 : rdc (sng bx (.cells #[int fr, int to] 43 (0, 0))) bx 0 = some (int fr) := by rw [rdc_sng]; rfl
  have c3 : rdc (sng bx (.cells #[int fr, int to] 43 (0, 0))) bx 1 = some (int to) := by rw [rdc_sng]; rfl
  simp only [List.cons_append, List.nil_append]
  refine spec_in (cap := [.pointer (some ⟨bx, 0, none⟩), .pointer (some ⟨bf, 0, none⟩)]) Try.func63 rfl rfl Try.ntmps63 rfl (by (repeat (first | exact EnvA.nil EnvI.nil | apply EnvA.cons | apply EnvA.nil | exact EnvI.nil | apply EnvI.cons)); first | done | fail) (fun N β => ?_)
  refine jk_seq ?_
  refine jk_draw (.q 0 (.q 1 (.q 2 (.q 3 (.q 4 (.l 5 .e (.q 6 (.q 7 .nil)))))))) [] rfl (by kernel_rfl) Sel.nil ?_
  refine zd_fld0 ?_
  refine zd_load ?_
  refine zd_load ?_
  refine zd_fld0 ?_
  refine zd_load ?_
  refine dj_l (a_call rfl (stepValue_spec ρ _ f fr hv2 hA hl ⟨h0, by omega⟩) rfl rfl rdZ rfl rfl ?_)
  rintro _ rfl
  refine zd_assign ?_
  refine zd_assign ?_
  refine dj_end ?_
  refine jk_seq ?_
  refine jk_seq ?_
  refine jk_region ?_
  refine zq_load ?_
  refine zq_len ?_
  refine zq_move ?_
  refine jk_nil ?_
  refine jk_block ?_
  refine jk_loop [0, 1, 2, 15, 16] (X := Nat × ((Int × Int) × S)) (0, ((fr, val f fr), σ0)) (fun x => x.1 ≤ f.length ∧ 0 ≤ x.2.1.1 ∧ x.2.1.1 ≤ to ∧ ∃ dn, parts f fr to = dn ++ partsFrom x.2.1.1 to x.2.1.2 (f.drop x.1) ∧ Inv dn.length x.2.2) (fun x => [(17, int x.1), (4, int x.2.1.1), (5, int x.2.1.2)]) (fun x => Own x.2.2) (fun x => f.length - x.1)
    pickZ ⟨by dsimp only; omega, h0, h1, [], rfl, hI0⟩ covZ Sel.refl ?_
  rintro ⟨k, ⟨⟨at_, now⟩, σ⟩⟩ ⟨hk, ha0, ha1, dn, hdn, hI⟩
  dsimp only at hk ha0 ha1 hdn hI ⊢
  by_cases hlt : k < f.length
  · obtain ⟨b', o, rfl, hRd, g0, g1⟩ := lvRow hr (List.getElem?_eq_getElem hlt)
    have hgt := hA.gt f[k] (List.getElem_mem hlt)
    rw [drop_cons hlt] at hdn
    simp only [partsFrom] at hdn
    by_cases hs1 : f[k].a ≤ at_
    · rw [if_pos (.inl hs1)] at hdn
      refine jk_seq ?_
      refine jk_region ?_
      refine zq_lt ?_
      refine jk_nil ?_
      refine jk_seq ?_
      refine jk_if_t rfl ?_
      refine jk_skip ?_
      refine jk_seq ?_
      refine jk_block ?_
      refine jk_seq ?_
      refine jk_region ?_
      refine zq_idxN ?_
      refine zq_loadS ?_
      refine zl_allocS ?_; rintro _ _ ⟨b, rfl, rfl⟩
      refine zs_storeS ?_; rintro _ _ ⟨rfl, rfl⟩
      refine jk_nil ?_
      refine jk_seq ?_
      refine jk_seq ?_
      refine jk_region ?_
      refine zq_fld0 ?_
      refine zq_load ?_
      refine zq_move ?_
      refine zq_le ?_
      refine zq_move ?_
      refine jk_pass rfl rfl rfl ?_
      refine jk_pass rfl rfl rfl ?_
      refine jk_pass rfl rfl rfl ?_
      refine jk_pass rfl rfl rfl ?_
      refine zq_pick_t ?_
      refine jk_nil ?_
      refine jk_if_t rfl ?_
      refine jk_exit rfl ?_
      refine jk_region ?_
      refine zq_inc ?_
      refine zq_move ?_
      refine jk_nil ?_
      exact jk_round (k + 1, ((at_, now), σ)) ⟨by dsimp only; omega, ha0, ha1, dn, hdn, hI⟩ (by dsimp only; omega) covZ (Sel.skip Sel.refl)
    · by_cases hs2 : to ≤ at_
      · rw [if_pos (.inr hs2)] at hdn
        refine jk_seq ?_
        refine jk_region ?_
        refine zq_lt ?_
        refine jk_nil ?_
        refine jk_seq ?_
        refine jk_if_t rfl ?_
        refine jk_skip ?_
        refine jk_seq ?_
        refine jk_block ?_
        refine jk_seq ?_
        refine jk_region ?_
        refine zq_idxN ?_
        refine zq_loadS ?_
        refine zl_allocS ?_; rintro _ _ ⟨b, rfl, rfl⟩
        refine zs_storeS ?_; rintro _ _ ⟨rfl, rfl⟩
        refine jk_nil ?_
        refine jk_seq ?_
        refine jk_seq ?_
        refine jk_region ?_
        refine zq_fld0 ?_
        refine zq_load ?_
        refine zq_move ?_
        refine zq_leF ?_
        refine zq_move ?_
        refine zq_move ?_
        refine zq_fld0 ?_
        refine zq_load ?_
        refine zq_ge ?_
        refine zq_pick_f ?_
        refine jk_nil ?_
        refine jk_if_t rfl ?_
        refine jk_exit rfl ?_
        refine jk_region ?_
        refine zq_inc ?_
        refine zq_move ?_
        refine jk_nil ?_
        exact jk_round (k + 1, ((at_, now), σ)) ⟨by dsimp only; omega, ha0, ha1, dn, hdn, hI⟩ (by dsimp only; omega) covZ (Sel.skip Sel.refl)
      · rw [if_neg (by omega)] at hdn
        have hyk := hy dn.length σ (encPt ((at_, min f[k].a to), now)) (by rw [List.getElem?_map, hdn, List.getElem?_append_right (by omega)]; simp) hI
        refine jk_seq ?_
        refine jk_region ?_
        refine zq_lt ?_
        refine jk_nil ?_
        refine jk_seq ?_
        refine jk_if_t rfl ?_
        refine jk_skip ?_
        refine jk_seq ?_
        refine jk_block ?_
        refine jk_seq ?_
        refine jk_region ?_
        refine zq_idxN ?_
        refine zq_loadS ?_
        refine zl_allocS ?_; rintro _ _ ⟨b, rfl, rfl⟩
        refine zs_storeS ?_; rintro _ _ ⟨rfl, rfl⟩
        refine jk_nil ?_
        refine jk_seq ?_
        refine jk_seq ?_
        refine jk_region ?_
        refine zq_fld0 ?_
        refine zq_load ?_
        refine zq_move ?_
        refine zq_leF ?_
        refine zq_move ?_
        refine zq_move ?_
        refine zq_fld0 ?_
        refine zq_load ?_
        refine zq_geF ?_
        refine zq_pick_f ?_
        refine jk_nil ?_
        refine jk_if_f rfl ?_
        refine jk_skip ?_
        refine jk_seq ?_
        refine jk_region ?_
        refine zq_fld0 ?_
        refine zq_load ?_
        refine zq_fld0 ?_
        refine zq_load ?_
        refine zq_min ?_
        refine zq_assign ?_
        refine jk_nil ?_
        refine jk_seq ?_
        refine jk_seq ?_
        refine jk_region ?_
        refine zq_move ?_
        refine zq_move ?_
        refine zq_move ?_
        refine zq_build ?_
        refine zq_move ?_
        refine jk_callH hyk rfl rfl (Takes.skip Takes.all) (fun τ hτ => .inl (by simp [hτ])) rfl rfl ?_
        rintro _ H' ⟨σ', rfl, ⟨rfl, hI'⟩ | ⟨rfl, hS⟩⟩
        · refine zq_not ?_
          refine jk_nil ?_
          refine jk_if_f rfl ?_
          refine jk_skip ?_
          refine jk_perm (H' := _ :: Own σ') (List.perm_append_comm (l₂ := [_])) ?_
          refine jk_draw (.q 0 (.q 1 (.q 2 (.q 3 (.q 4 .nil))))) [] rfl (by kernel_rfl) Sel.nil ?_
          refine zd_move ?_
          refine zd_fld0 ?_
          refine zd_load ?_
          refine zd_assign ?_
          refine zd_assign ?_
          refine dj_end ?_
          refine jk_blk ?_
          refine jk_region ?_
          refine zq_inc ?_
          refine zq_move ?_
          refine jk_nil ?_
          refine jk_round (k + 1, ((min f[k].a to, f[k].v), σ')) ⟨by dsimp only; omega, by dsimp only; omega, by dsimp only; omega, dn ++ [((at_, min f[k].a to), now)], by dsimp only; rw [hdn]; simp, ?_⟩ (by dsimp only; omega) covZ (Sel.skip Sel.refl)
          rw [List.length_append]
          exact hI'
        · refine zq_not ?_
          refine jk_nil ?_
          refine jk_if_t rfl ?_
          exact jk_ret_any (res0 rfl) (fun _ h => h) Sel.left ⟨σ', rfl, .inr hS⟩
  · rw [List.drop_of_length_le (by omega)] at hdn
    simp only [partsFrom] at hdn
    by_cases he : at_ < to
    · rw [if_pos he] at hdn
      have hyk := hy dn.length σ (encPt ((at_, to), now)) (by rw [List.getElem?_map, hdn, List.getElem?_append_right (by omega)]; simp) hI
      refine jk_seq ?_
      refine jk_region ?_
      refine zq_ltF ?_
      refine jk_nil ?_
      refine jk_seq ?_
      refine jk_if_f rfl ?_
      refine jk_exit rfl ?_
      refine jk_seq ?_
      refine jk_region ?_
      refine zq_move ?_
      refine zq_fld0 ?_
      refine zq_load ?_
      refine zq_lt ?_
      refine jk_nil ?_
      refine jk_if_t rfl ?_
      refine jk_region ?_
      refine zq_move ?_
      refine zq_move ?_
      refine zq_fld0 ?_
      refine zq_load ?_
      refine zq_build ?_
      refine zq_move ?_
      refine jk_callH hyk rfl rfl Takes.all (fun τ hτ => .inl (by simp [hτ])) rfl rfl ?_
      rintro _ H' ⟨σ', rfl, hor⟩
      refine jk_nil ?_
      refine jk_end_any (res0 rfl) (fun _ h => h) Sel.left ⟨σ', rfl, ?_⟩
      rcases hor with ⟨_, hI'⟩ | ⟨_, hS⟩
      · left
        rw [List.length_map, hdn, List.length_append]
        exact hI'
      · exact .inr hS
    · rw [if_neg he, List.append_nil] at hdn
      refine jk_seq ?_
      refine jk_region ?_
      refine zq_ltF ?_
      refine jk_nil ?_
      refine jk_seq ?_
      refine jk_if_f rfl ?_
      refine jk_exit rfl ?_
      refine jk_seq ?_
      refine jk_region ?_
      refine zq_move ?_
      refine zq_fld0 ?_
      refine zq_load ?_
      refine zq_ltF ?_
      refine jk_nil ?_
      refine jk_if_f rfl ?_
      refine jk_skip ?_
      refine jk_end_any (res0 rfl) (fun _ h => h) Sel.refl ⟨σ, rfl, .inl ?_⟩
      rw [List.length_map, hdn]
      exact hI
def validSp (fr to : Int) : Bool := decide (0 ≤ fr ∧ fr ≤ to ∧ to ≤ 1099511627776)
theorem valid_spec (fr to : Int) : Ans Try.prog (fv 44) [.agg #[int fr, int to]] [] (fun r => r = .bool (validSp fr to)) := by
  refine spec_in (cap := []) Try.func44 rfl rfl Try.ntmps44 rfl (by (repeat (first | exact EnvA.nil EnvI.nil | apply EnvA.cons | apply EnvA.nil | exact EnvI.nil | apply EnvI.cons)); first | done | fail) (fun N β => ?_)
  by_cases h1 : fr < 0
  · refine jk_seq ?_
    refine jk_region ?_
    refine zl_boxS ?_; rintro _ _ ⟨b, rfl, rfl⟩
    refine zq_assign ?_
    refine jk_nil ?_
    refine jk_seq ?_
    refine jk_region ?_
    refine zq_fld0 ?_
    refine zq_load ?_
    refine zq_geF ?_
    refine zq_move ?_
    refine jk_pass rfl rfl rfl ?_
    refine jk_pass rfl rfl rfl ?_
    refine jk_pass rfl rfl rfl ?_
    refine jk_pass rfl rfl rfl ?_
    refine jk_pass rfl rfl rfl ?_
    refine zq_pick_f ?_
    refine zq_move ?_
    refine jk_pass rfl rfl rfl ?_
    refine jk_pass rfl rfl rfl ?_
    refine jk_pass rfl rfl rfl ?_
    refine zq_pick_f ?_
    refine zq_assign ?_
    refine jk_nil ?_
    exact jk_ret_any (res1 rfl rfl) (by (repeat (first | exact rs_nil | (refine rs_cons ?_ ?_; (focus ((repeat (first | exact .here | apply Mem.there | apply Take.there)); first | done | fail))) | exact fun ρ hρ => hρ | (intro ρ hρ; repeat (first | exact hρ | refine List.mem_cons_of_mem _ ?_)))); first | done | fail) selZ ⟨rfl, by simp [validSp]; omega⟩
  · by_cases h2 : to < fr
    · refine jk_seq ?_
      refine jk_region ?_
      refine zl_boxS ?_; rintro _ _ ⟨b, rfl, rfl⟩
      refine zq_assign ?_
      refine jk_nil ?_
      refine jk_seq ?_
      refine jk_region ?_
      refine zq_fld0 ?_
      refine zq_load ?_
      refine zq_ge ?_
      refine zq_move ?_
      refine zq_fld0 ?_
      refine zq_load ?_
      refine zq_fld0 ?_
      refine zq_load ?_
      refine zq_leF ?_
      refine zq_pick_t ?_
      refine zq_move ?_
      refine jk_pass rfl rfl rfl ?_
      refine jk_pass rfl rfl rfl ?_
      refine jk_pass rfl rfl rfl ?_
      refine zq_pick_f ?_
      refine zq_assign ?_
      refine jk_nil ?_
      exact jk_ret_any (res1 rfl rfl) (by (repeat (first | exact rs_nil | (refine rs_cons ?_ ?_; (focus ((repeat (first | exact .here | apply Mem.there | apply Take.there)); first | done | fail))) | exact fun ρ hρ => hρ | (intro ρ hρ; repeat (first | exact hρ | refine List.mem_cons_of_mem _ ?_)))); first | done | fail) selZ ⟨rfl, by simp [validSp]; omega⟩
    · by_cases h3 : 1099511627776 < to
      · refine jk_seq ?_
        refine jk_region ?_
        refine zl_boxS ?_; rintro _ _ ⟨b, rfl, rfl⟩
        refine zq_assign ?_
        refine jk_nil ?_
        refine jk_seq ?_
        refine jk_region ?_
        refine zq_fld0 ?_
        refine zq_load ?_
        refine zq_ge ?_
        refine zq_move ?_
        refine zq_fld0 ?_
        refine zq_load ?_
        refine zq_fld0 ?_
        refine zq_load ?_
        refine zq_le ?_
        refine zq_pick_t ?_
        refine zq_move ?_
        refine zq_fld0 ?_
        refine zq_load ?_
        refine zq_leF ?_
        refine zq_pick_t ?_
        refine zq_assign ?_
        refine jk_nil ?_
        exact jk_ret_any (res1 rfl rfl) (by (repeat (first | exact rs_nil | (refine rs_cons ?_ ?_; (focus ((repeat (first | exact .here | apply Mem.there | apply Take.there)); first | done | fail))) | exact fun ρ hρ => hρ | (intro ρ hρ; repeat (first | exact hρ | refine List.mem_cons_of_mem _ ?_)))); first | done | fail) selZ ⟨rfl, by simp [validSp]; omega⟩
      · refine jk_seq ?_
        refine jk_region ?_
        refine zl_boxS ?_; rintro _ _ ⟨b, rfl, rfl⟩
        refine zq_assign ?_
        refine jk_nil ?_
        refine jk_seq ?_
        refine jk_region ?_
        refine zq_fld0 ?_
        refine zq_load ?_
        refine zq_ge ?_
        refine zq_move ?_
        refine zq_fld0 ?_
        refine zq_load ?_
        refine zq_fld0 ?_
        refine zq_load ?_
        refine zq_le ?_
        refine zq_pick_t ?_
        refine zq_move ?_
        refine zq_fld0 ?_
        refine zq_load ?_
        refine zq_le ?_
        refine zq_pick_t ?_
        refine zq_assign ?_
        refine jk_nil ?_
        exact jk_ret_any (res1 rfl rfl) (by (repeat (first | exact rs_nil | (refine rs_cons ?_ ?_; (focus ((repeat (first | exact .here | apply Mem.there | apply Take.there)); first | done | fail))) | exact fun ρ hρ => hρ | (intro ρ hρ; repeat (first | exact hρ | refine List.mem_cons_of_mem _ ?_)))); first | done | fail) selZ ⟨rfl, by simp [validSp]; omega⟩
theorem area_take (ps : List ((Int × Int) × Int)) (i : Nat) (q : (Int × Int) × Int) (h : ps[i]? = some q) : area (ps.take (i + 1)) = area (ps.take i) + q.2 * (q.1.2 - q.1.1) := by
  induction ps generalizing i with
  | nil => simp at h
  | cons a ps ih =>
    cases i with
    | zero => simp at h; subst h; simp [area]
    | succ i =>
      have := ih i (by simpa using h)
      simp only [List.take_succ_cons]
      unfold area at this ⊢
      simp only [List.foldr_cons]
      rw [this]; omega
theorem area_nn (ps : List ((Int × Int) × Int)) (h : ∀ q ∈ ps, 0 ≤ q.2 ∧ q.1.1 ≤ q.1.2) : 0 ≤ area ps ∧ ∀ i, area (ps.take i) ≤ area ps ∧ 0 ≤ area (ps.take i) := by
  induction ps with
  | nil => simp [area]
  | cons a ps ih =>
    obtain ⟨h0, h1⟩ := ih (fun q hq => h q (List.mem_cons_of_mem _ hq))
    obtain ⟨ha, hb⟩ := h a (List.mem_cons_self ..)
    have hm : 0 ≤ a.2 * (a.1.2 - a.1.1) := Int.mul_nonneg ha (by omega)
    have e : ∀ l, area (a :: l) = a.2 * (a.1.2 - a.1.1) + area l := fun l => rfl
    refine ⟨by rw [e]; omega, fun i => ?_⟩
    cases i with
    | zero => rw [List.take_zero, e]; simp only [area, List.foldr_nil] at h0 ⊢; omega
    | succ i => have := h1 i; rw [List.take_succ_cons, e, e]; omega
set_option maxHeartbeats 8000000 in
theorem integral_spec (ρ : PH) (v : Value) (f : List Lv) (fr to : Int) (hv : LvAt ρ v f) (hl : f.length ≤ 9223372036854775807) (hrt : rates f = true) :
    Ans Try.prog (fv 21) [v, .agg #[int fr, int to]] [ρ] (fun r => r = if chkS f = 0 then (if validSp fr to = true then .tuple #[int (cum f to.toNat - cum f fr.toNat), int 0] else .tuple #[int 0, int 2]) else .tuple #[int 0, int 1]) := by
  have hv2 := hv
  obtain ⟨q, c, rfl, hr⟩ := hv.val encV_len
  refine spec_in (cap := []) Try.func21 rfl rfl Try.ntmps21 rfl (by (repeat (first | exact EnvA.nil EnvI.nil | apply EnvA.cons | apply EnvA.nil | exact EnvI.nil | apply EnvI.cons)); first | done | fail) (fun N β => ?_)
  refine jk_seq ?_
  refine jk_region ?_
  refine zl_boxS ?_; rintro _ _ ⟨b, rfl, rfl⟩
  refine zq_assign ?_
  refine zq_assign ?_
  refine jk_nil ?_
  refine jk_seq ?_
  refine jk_seq ?_
  refine jk_region ?_
  refine zq_move ?_
  refine jk_call (stepCheck_spec ρ _ f hv2 hl) rfl rfl rdZ rfl rfl ?_
  rintro _ rfl
  by_cases h0 : chkS f = 0
  rotate_left
  · refine zq_ne ?_
    refine jk_nil ?_
    refine jk_if_t rfl ?_
    refine jk_seq ?_
    refine jk_region ?_
    refine zq_assign ?_
    refine zq_assign ?_
    refine jk_nil ?_
    exact jk_ret_any (res2 rfl rfl rfl) (by (repeat (first | exact rs_nil | (refine rs_cons ?_ ?_; (focus ((repeat (first | exact .here | apply Mem.there | apply Take.there)); first | done | fail))) | exact fun ρ hρ => hρ | (intro ρ hρ; repeat (first | exact hρ | refine List.mem_cons_of_mem _ ?_)))); first | done | fail) selZ ⟨rfl, by rw [if_neg h0]⟩
  rw [if_pos h0]
  refine zq_neF ?_
  refine jk_nil ?_
  refine jk_if_f rfl ?_
  refine jk_skip ?_
  refine jk_seq ?_
  refine jk_seq ?_
  refine jk_region ?_
  refine zq_loadS ?_
  refine jk_call (valid_spec fr to) rfl rfl rdZ rfl rfl ?_
  rintro _ rfl
  cases hvs : validSp fr to with
  | false =>
    refine zq_not ?_
    refine jk_nil ?_
    refine jk_if_t rfl ?_
    refine jk_seq ?_
    refine jk_region ?_
    refine zq_assign ?_
    refine zq_assign ?_
    refine jk_nil ?_
    exact jk_ret_any (res2 rfl rfl rfl) (by (repeat (first | exact rs_nil | (refine rs_cons ?_ ?_; (focus ((repeat (first | exact .here | apply Mem.there | apply Take.there)); first | done | fail))) | exact fun ρ hρ => hρ | (intro ρ hρ; repeat (first | exact hρ | refine List.mem_cons_of_mem _ ?_)))); first | done | fail) selZ ⟨rfl, by simp⟩
  | true =>
    have hsp : 0 ≤ fr ∧ fr ≤ to ∧ to ≤ 1099511627776 := by simpa [validSp] using hvs
    obtain ⟨g0, g1, g2⟩ := hsp
    obtain ⟨hlen, hA⟩ := chkS_ok h0
    obtain ⟨hpa, hpq⟩ := parts_area hA g0 g1
    have hpr : ∀ q ∈ parts f fr to, 0 ≤ q.2 ∧ q.1.1 ≤ q.1.2 := fun q hq => by
      obtain ⟨a1, a2, a3, a4⟩ := hpq q hq
      have := val_rates hrt q.1.1
      omega
    obtain ⟨hn0, hn1⟩ := area_nn _ hpr
    have hc1 := cum_bd hrt to.toNat
    have hc2 := cum_bd hrt fr.toNat
    refine zq_not ?_
    refine jk_nil ?_
    refine jk_if_f rfl ?_
    refine jk_skip ?_
    refine jk_seq ?_
    refine jk_region ?_
    refine zq_build ?_
    refine zl_boxS ?_; rintro _ _ ⟨b, rfl, rfl⟩
    refine zl_alloc1 ?_; rintro _ _ ⟨b, rfl, rfl⟩
    refine zs_storeL ?_; rintro _ _ ⟨rfl, rfl⟩
    refine jk_nil ?_
    refine jk_seq ?_
    refine jk_seq ?_
    refine jk_region ?_
    refine zq_move ?_
    refine zq_loadS ?_
    rename_i b3 wb
    refine jk_callH (parts_spec (.slice q f.length c) fr to rfl) rfl rfl Takes.nil (fun τ hτ => by simp at hτ) rfl rfl ?_
    rintro _ _ ⟨bx, bf, rfl, rfl⟩
    refine jk_freeze (ρ := sng bx _) takeZ ?_
    refine jk_freeze (ρ := sng bf _) takeZ ?_
    refine jk_freeze (ρ := sng b _) takeZ ?_
    have hwb : rdc (sng b (.cells #[.pointer (some ⟨wb, 0, none⟩)] 74 (0, 0))) b 0 = some (.pointer (some ⟨wb, 0, none⟩)) := by rw [rdc_sng]; rfl
    refine jk_nil ?_
    refine jk_block ?_
    refine jk_range (gf := 63) (cap := [.pointer (some ⟨bx, 0, none⟩), .pointer (some ⟨bf, 0, none⟩)]) (ps := [21, 22]) (X := Nat) rfl Try.func63 rfl rfl
      (parts_iter ρ bx bf _ f fr to hv2 hA hlen g0 g1 g2) ?_
      (fun i lo => (lo : Int) = area ((parts f fr to).take i))
      (fun lo => [sng wb (.cells #[u64 0, u64 lo] 77 (0, 0))])
      (fun _ _ => False) 0 rfl (by (repeat (first | exact Takes.nil | (apply Takes.cons; exact (by (repeat (first | exact .here | apply Take.there)); first | done | fail)))); first | done | fail) (by simp [area]) ?_ ?_ ?_
    · intro σ hσ
      simp only [List.mem_cons, List.not_mem_nil, or_false] at hσ ⊢
      rcases hσ with h | h | h <;> simp [h]
    · rintro l r i lo vs hvs hI hps has hbd hst hpe hfr
      obtain ⟨st, pe, fnn, tm, prm, asg, bdy, df⟩ := r
      simp only at hps has hbd hst hpe hfr
      subst hps has hbd hst hpe
      rw [List.getElem?_map] at hvs
      obtain ⟨x, hx, rfl⟩ := Option.map_eq_some_iff.1 hvs
      obtain ⟨p1, p2, p3, p4⟩ := hpq x (List.mem_of_getElem? hx)
      have hvr := val_rates hrt x.1.1
      have hI' := area_take _ i x hx
      have hn2 := hn1 (i + 1)
      obtain ⟨⟨x1, x2⟩, x3⟩ := x
      dsimp only at p1 p2 p3 p4 hvr hI'
      obtain ⟨n, rfl⟩ : ∃ n : Nat, x3 = (n : Int) := ⟨x3.toNat, by omega⟩
      obtain ⟨d, hd⟩ : ∃ d : Nat, x2 - x1 = (d : Int) := ⟨(x2 - x1).toNat, by omega⟩
      rw [hd, ← hI] at hI'
      have hI2 : ((lo + n * d : Nat) : Int) = area ((parts f fr to).take (i + 1)) := by rw [hI']; simp
      refine yield_spec hfr rfl (by intro p hp; simp at hp; omega) (by (repeat (first | exact PutI.nil | apply PutI.cons)); first | done | fail) (fun N' β' => ?_)
      dsimp only
      refine jk_seq ?_
      refine jk_region ?_
      refine zl_allocS ?_; rintro _ _ ⟨b, rfl, rfl⟩
      refine zs_storeS ?_; rintro _ _ ⟨rfl, rfl⟩
      refine jk_nil ?_
      refine jk_region ?_
      refine zq_assign ?_
      refine jk_nil ?_
      refine jk_switch rfl rfl ?_
      refine jk_begin takeZ rfl ?_
      refine jk_block ?_
      refine jk_region ?_
      refine zq_load ?_
      refine zq_move ?_
      refine zq_fld0 ?_
      refine zq_load ?_
      refine zq_fld0 ?_
      refine zq_load ?_
      refine zq_sub ?_
      rw [hd]
      refine jk_callH (wideAdd_spec wb n d lo (by omega) (by omega) (by omega)) rfl rfl (by (repeat (first | exact Takes.nil | (apply Takes.cons; exact (by (repeat (first | exact .here | apply Take.there)); first | done | fail)))); first | done | fail) (fun τ hτ => by simp at hτ) rfl rfl ?_
      rintro _ _ ⟨rfl, rfl⟩
      refine jk_nil ?_
      refine jk_blk ?_
      exact jk_roundEnd takeZ (by (repeat (first | exact rs_nil | (refine rs_cons ?_ ?_; (focus ((repeat (first | exact .here | apply Mem.there | apply Take.there)); first | done | fail))) | exact fun ρ hρ => hρ | (intro ρ hρ; repeat (first | exact hρ | refine List.mem_cons_of_mem _ ?_)))); first | done | fail) selZ ⟨lo + n * d, .inl ⟨rfl, hI2, rfl⟩⟩
    · rintro b2 lo hI
      rw [List.length_map, List.take_length, hpa] at hI
      have hlo : lo ≤ 1152921504606846976 := by omega
      dsimp only
      refine jk_blk ?_
      refine jk_seq ?_
      refine jk_region ?_
      refine zq_load ?_
      refine zq_nilCheck ?_
      refine zq_fld0 ?_
      refine zq_load ?_
      focus ((refine' jk_q _ rfl rfl rfl _; rotate_left; (apply q_toI; exact rfl; exact rfl; exact rfl; omega)))
      refine zq_assign ?_
      refine jk_nil ?_
      refine jk_seq ?_
      refine jk_seq ?_
      refine jk_region ?_
      refine zq_load ?_
      refine zq_nilCheck ?_
      refine zq_fld0 ?_
      refine zq_load ?_
      refine zq_eq ?_
      refine zq_move ?_
      refine zq_move ?_
      refine zq_ltF ?_
      refine zq_pick_t ?_
      refine zq_move ?_
      refine zq_load ?_
      refine zq_nilCheck ?_
      refine zq_fld0 ?_
      refine zq_load ?_
      refine zq_eqF ?_
      refine zq_move ?_
      refine jk_pass rfl rfl rfl ?_
      refine jk_pass rfl rfl rfl ?_
      refine zq_pick_f ?_
      refine zq_pick_f ?_
      refine zq_move ?_
      refine zq_load ?_
      refine zq_nilCheck ?_
      refine zq_fld0 ?_
      refine zq_load ?_
      refine zq_neF ?_
      refine zq_move ?_
      refine jk_pass rfl rfl rfl ?_
      refine jk_pass rfl rfl rfl ?_
      refine jk_pass rfl rfl rfl ?_
      refine jk_pass rfl rfl rfl ?_
      refine jk_pass rfl rfl rfl ?_
      refine zq_pick_f ?_
      refine zq_pick_f ?_
      refine zq_move ?_
      refine zq_move ?_
      refine zq_ltF ?_
      refine zq_pick_f ?_
      refine zq_move ?_
      refine zq_move ?_
      refine zq_gtF ?_
      refine zq_pick_f ?_
      refine jk_nil ?_
      refine jk_if_f rfl ?_
      refine jk_skip ?_
      refine jk_seq ?_
      refine jk_region ?_
      refine zq_move ?_
      refine zq_assign ?_
      refine zq_assign ?_
      refine jk_nil ?_
      exact jk_retM (Marks.cons .here .nil) (res2 rfl rfl rfl) (by (repeat (first | exact rs_nil | (refine rs_cons ?_ ?_; (focus ((repeat (first | exact .here | apply Mem.there | apply Take.there)); first | done | fail))) | exact fun ρ hρ => hρ | (intro ρ hρ; repeat (first | exact hρ | refine List.mem_cons_of_mem _ ?_)))); first | done | fail) selZ ⟨rfl, by rw [if_pos rfl, ← hI]⟩
    · rintro _ _ _ h; exact h.elim
end Go.Proofs.Ytnbihndlbopmeaa
/- What is stored over all times, added up. No program in sight. No conditions. -/
namespace Go.Step
def areaC (n m : Int) : List Hd → Int
  | [] => 0
  | h :: l => (if h.n = n then h.s * (min h.b m - min h.a m) else 0) + areaC n m l
theorem areaC_next (n m : Int) : ∀ l : List Hd, (∀ h ∈ l, h.a < h.b) → areaC n (m + 1) l = areaC n m l + stored l n m
  | [], _ => rfl
  | h :: l, H => by
    have ih := areaC_next n m l (fun x hx => H x (by simp [hx]))
    have h0 := H h (by simp)
    simp only [areaC, stored, ih]
    by_cases c : h.n = n
    · simp only [c, if_true, true_and]
      by_cases c1 : h.a ≤ m
      · by_cases c2 : m < h.b
        · rw [if_pos ⟨c1, c2⟩, show min h.b (m + 1) - min h.a (m + 1) = (min h.b m - min h.a m) + 1 by omega, Int.mul_add]; omega
        · rw [if_neg (by omega), show min h.b (m + 1) - min h.a (m + 1) = min h.b m - min h.a m by omega]; omega
      · rw [if_neg (by omega), show min h.b (m + 1) - min h.a (m + 1) = min h.b m - min h.a m by omega]; omega
    · simp only [c, if_false, false_and]; omega
theorem areaC_zero (n : Int) : ∀ l : List Hd, (∀ h ∈ l, 0 ≤ h.a ∧ h.a < h.b) → areaC n 0 l = 0
  | [], _ => rfl
  | h :: l, H => by
    have ih := areaC_zero n l (fun x hx => H x (by simp [hx]))
    have h0 := H h (by simp)
    simp only [areaC, ih]
    rw [show min h.b 0 - min h.a 0 = 0 by omega]
    split <;> omega
theorem cum_lvH {l : List Hd} {n : Int} {nq : Nat} (hok : ∀ h ∈ l, okHd nq h) : ∀ m : Nat, cum (lvH l n) m = areaC n m l
  | 0 => by rw [show ((0 : Nat) : Int) = 0 from rfl, areaC_zero n l (fun h hh => by have := (hok h hh).2.1; omega)]; rfl
  | m + 1 => by
    have ih := cum_lvH (n := n) hok m
    rw [show ((m + 1 : Nat) : Int) = (m : Int) + 1 from rfl, areaC_next n m l (fun h hh => by have := (hok h hh).2.1; omega), ← ih]
    show cum (lvH l n) m + val (lvH l n) (m : Int) = _
    rw [lvH_val hok (by omega)]
/-- the sizes of a node's holds, multiplied with their lengths -/
def areaH (n : Int) (l : List Hd) : Int := l.foldl (fun a h => if h.n = n then a + h.s * (h.b - h.a) else a) 0
theorem areaH_fold (n : Int) : ∀ (l : List Hd) (a : Int), (∀ h ∈ l, h.a < h.b ∧ h.b ≤ 1099511627776) → l.foldl (fun a h => if h.n = n then a + h.s * (h.b - h.a) else a) a = a + areaC n 1099511627776 l
  | [], a, _ => by simp [areaC]
  | h :: l, a, H => by
    have h0 := H h (by simp)
    rw [List.foldl_cons, areaH_fold n l _ (fun x hx => H x (by simp [hx]))]
    simp only [areaC]
    rw [show min h.b 1099511627776 = h.b by omega, show min h.a 1099511627776 = h.a by omega]
    split <;> omega
theorem areaH_cum {l : List Hd} {n : Int} {nq : Nat} (hok : ∀ h ∈ l, okHd nq h) : cum (lvH l n) (1099511627776 : Int).toNat - cum (lvH l n) (0 : Int).toNat = areaH n l := by
  rw [cum_lvH hok, cum_lvH hok]
  unfold areaH
  rw [areaH_fold n l 0 (fun h hh => (hok h hh).2.1.2)]
  have e : (((1099511627776 : Int).toNat : Nat) : Int) = 1099511627776 := by decide
  have e0 : (((0 : Int).toNat : Nat) : Int) = 0 := by decide
  rw [e, e0, areaC_zero n l (fun h hh => by have := (hok h hh).2.1; omega)]
  omega
theorem areaH_next (n : Int) {l : List Hd} {k : Nat} {x : Hd} (h : l[k]? = some x) : areaH n (l.take (k + 1)) = if x.n = n then areaH n (l.take k) + x.s * (x.b - x.a) else areaH n (l.take k) := by
  obtain ⟨hk, rfl⟩ := List.getElem?_eq_some_iff.1 h
  unfold areaH
  rw [List.take_succ_eq_append_getElem hk, List.foldl_append]
  rfl
theorem areaH_bd (n : Int) {nq : Nat} : ∀ (k : Nat) (l : List Hd), (∀ h ∈ l, okHd nq h) → (∀ h ∈ l, h.b - h.a ≤ 1073741824) → k ≤ l.length → 0 ≤ areaH n (l.take k) ∧ areaH n (l.take k) ≤ 70368744177664 * k
  | 0, l, _, _, _ => by simp [areaH]
  | k + 1, l, hok, hb, hk => by
    have ih := areaH_bd n k l hok hb (by omega)
    have hx := List.getElem?_eq_getElem (show k < l.length by omega)
    have h1 := hok _ (List.getElem_mem (show k < l.length by omega))
    have h2 := hb _ (List.getElem_mem (show k < l.length by omega))
    rw [areaH_next n hx]
    generalize l[k] = x at h1 h2
    have h3 : 0 ≤ x.s * (x.b - x.a) := Int.mul_nonneg (by have := h1.2.2.1; omega) (by have := h1.2.1; omega)
    have h4 : x.s * (x.b - x.a) ≤ 65536 * 1073741824 := Int.mul_le_mul (by have := h1.2.2.1; omega) (by omega) (by have := h1.2.1; omega) (by omega)
    push_cast
    split <;> omega
end Go.Step
