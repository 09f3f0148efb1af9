/- Texts of this proof, one after the other; no conditions. -/
import Derived.Test.YtjbebmealbnmgaaWB6
import Derived.Test.YtjbebmealbnmgaaWB2
import Derived.Test.YtjbebmealbnmgaaWB1
import Derived.Test.YtjbebmealbnmgaaWB5
set_option linter.all false
/- Sets combined. -/
namespace Go.Proofs.Ytjbebmealbnmgaa
open Go.Eng Go.Step
set_option maxRecDepth 100000
set_option maxHeartbeats 4000000

theorem points_spec (v u : Value) (hv : v.oneCell' = true) (hu : u.oneCell' = true) :
    Eng.Spec Try.prog (fv 70) [v, u] [] [] (fun r H' => ∃ b1 b2, r = .func (.func 87) #[] #[.pointer (some ⟨b1, 0, none⟩), .pointer (some ⟨b2, 0, none⟩)] ∧ H' = [sng b2 (.cells #[u] 56 (0, 0)), sng b1 (.cells #[v] 56 (0, 0))]) := by
  refine spec_in (cap := []) Try.func70 rfl rfl Try.ntmps70 rfl (by (repeat (first | exact EnvA.nil EnvI.nil | apply EnvA.cons | apply EnvA.nil | exact EnvI.nil | apply EnvI.cons)); first | done | fail) (fun N β => ?_)
  refine jk_seq ?_
  refine jk_region ?_
  refine jk_op (l_box1 rfl hv) rfl rfl rfl ?_
  rintro _ _ ⟨b1, rfl, rfl⟩
  refine jk_op (l_box1 rfl hu) rfl rfl rfl ?_
  rintro _ _ ⟨b2, rfl, rfl⟩
  refine zq_assign ?_
  refine jk_nil ?_
  refine jk_seq ?_
  refine jk_region ?_
  refine zq_makeFunc ?_
  refine zq_assign ?_
  refine jk_nil ?_
  exact jk_ret_any (res1 rfl rfl) (by (repeat (first | exact rs_nil | (refine rs_cons ?_ ?_; (focus ((repeat (first | exact .here | apply Mem.there | apply Take.there)); first | done | fail))) | exact fun ρ hρ => hρ | (intro ρ hρ; repeat (first | exact hρ | refine List.mem_cons_of_mem _ ?_)))); first | done | fail) selZ ⟨b1, b2, rfl, rfl⟩
set_option maxHeartbeats 32000000 in
theorem ivCombine_spec (ρ τ : PH) (va vb : Value) (gf : FuncId) (a b : Iv) (f : Bool → Bool → Bool) (ha : SpAt ρ va a) (hb : SpAt τ vb b) (h0a : chkI a = 0) (h0b : chkI b = 0) (hlen : a.length + b.length ≤ 1000) (hf : f false false = false)
    (hfn : ∀ x y, Ans Try.prog (.func (.func gf) #[] #[]) [.bool x, .bool y] [] (fun r => r = .bool (f x y))) :
    Makes Try.prog (fv 55) [va, vb, .func (.func gf) #[] #[]] [ρ, τ] (fun r σ => ∃ u, r = .tuple #[u, int 0] ∧ OwnS 55 2 u (combI f a b).length ((combI f a b).flatMap encS) σ) := by
  have hca := ivCheck_spec ρ va a ha (by omega)
  have hcb := ivCheck_spec τ vb b hb (by omega)
  rw [h0a] at hca
  rw [h0b] at hcb
  have hpts := fun b1 b2 => points_iter ρ τ va vb a b b1 b2 ha hb (by omega) (by omega)
  have hcl := (combI_ok hf (chkI_norm h0a).2.1 (chkI_norm h0b).2.1).2.2
  have hml := mrg_len _ (tog a) false (tog b) false (Nat.le_refl _)
  rw [tog_len, tog_len] at hml
  obtain ⟨qa, ca, rfl, _⟩ := ha.val encS_len
  obtain ⟨qb, cb, rfl, _⟩ := hb.val encS_len
  refine spec_in (cap := []) Try.func55 rfl rfl Try.ntmps55 rfl (by (repeat (first | exact EnvA.nil EnvI.nil | apply EnvA.cons | apply EnvA.nil | exact EnvI.nil | apply EnvI.cons)); first | done | fail) (fun N β => ?_)
  refine jk_emp ?_
  refine jk_seq ?_
  refine jk_region ?_
  refine zl_box1 ?_; rintro _ _ ⟨b, rfl, rfl⟩
  refine zq_assign ?_
  refine zq_assign ?_
  refine jk_nil ?_
  refine jk_seq ?_
  refine jk_seq ?_
  refine jk_region ?_
  refine zq_move ?_
  revert b; intro b5
  refine jk_freeze (ρ := sng b5 _) takeZ ?_
  have g5 : rdc (sng b5 (.cells #[.func (.func gf) #[] #[]] 98 (0, 0))) b5 0 = some (.func (.func gf) #[] #[]) := by rw [rdc_sng]; rfl
  refine jk_call hca rfl rfl rdZ rfl rfl ?_
  rintro _ rfl
  refine zq_neF ?_
  refine zq_move ?_
  refine zq_move ?_
  refine jk_call hcb rfl rfl rdZ rfl rfl ?_
  rintro _ rfl
  refine zq_neF ?_
  refine zq_pick_f ?_
  refine jk_nil ?_
  refine jk_if_f rfl ?_
  refine jk_skip ?_
  refine jk_seq ?_
  refine jk_region ?_
  refine zl_alloc1 ?_; rintro _ _ ⟨b, rfl, rfl⟩
  refine jk_nil ?_
  refine jk_seq ?_
  refine jk_region ?_
  refine zl_alloc1 ?_; rintro _ _ ⟨b, rfl, rfl⟩
  refine zs_storeL ?_; rintro _ _ ⟨rfl, rfl⟩
  refine jk_nil ?_
  refine jk_seq ?_
  refine jk_seq ?_
  refine jk_region ?_
  refine zq_move ?_
  refine zq_move ?_
  revert b; intro b9
  revert b; intro b8
  refine jk_callH (points_spec (.slice qa a.length ca) (.slice qb b.length cb) rfl rfl) rfl rfl Takes.nil (fun τ hτ => by simp at hτ) rfl rfl ?_
  rintro _ _ ⟨b1, b2, rfl, rfl⟩
  refine jk_freeze (ρ := sng b1 _) takeZ ?_
  refine jk_freeze (ρ := sng b2 _) takeZ ?_
  refine jk_nil ?_
  refine jk_block ?_
  refine jk_range (gf := 87) (cap := [.pointer (some ⟨b1, 0, none⟩), .pointer (some ⟨b2, 0, none⟩)]) (ps := [24, 25]) (X := Value × Bool × PH) rfl Try.func87 rfl rfl
    (hpts b1 b2) ?_
    (fun i x => x.2.1 = oddB (mcomb f ((mrg (tog a) false (tog b) false).take i) []).length ∧ OwnS 55 2 x.1 (spans (mcomb f ((mrg (tog a) false (tog b) false).take i) [])).length ((spans (mcomb f ((mrg (tog a) false (tog b) false).take i) [])).flatMap encS) x.2.2)
    (fun x => [sng b8 (.cells #[x.1] 56 (0, 0)), sng b9 (.cells #[.bool x.2.1] 4 (0, 0)), x.2.2]) (fun _ _ => False) (.slice none 0 0, false, emp) rfl (by (repeat (first | exact Takes.nil | (apply Takes.cons; exact (by (repeat (first | exact .here | apply Take.there)); first | done | fail)))); first | done | fail) ⟨rfl, OwnS.nil _ _⟩ ?_ ?_ ?_
  · intro σ' hσ
    simp only [List.mem_cons, List.not_mem_nil, or_false] at hσ ⊢
    rcases hσ with h | h | h | h <;> simp [h]
  · rintro lo r i ⟨u, ins, σ⟩ vs hvs ⟨hins, hO⟩ hps has hbd hst hpe hfr
    obtain ⟨st, pe, fnn, tm, prm, asg, bdy, df⟩ := r
    simp only at hps has hbd hst hpe hfr
    subst hps has hbd hst hpe
    rw [List.getElem?_map] at hvs
    obtain ⟨⟨t, x, y⟩, hc, rfl⟩ := Option.map_eq_some_iff.1 hvs
    have hnx := mcomb_next f hc []
    have hOl := mcomb_len f ((mrg (tog a) false (tog b) false).take i) []
    have hti : ((mrg (tog a) false (tog b) false).take i).length ≤ (mrg (tog a) false (tog b) false).length := by rw [List.length_take]; omega
    dsimp only at hins hO
    have hsl := spans_len (mcomb f ((mrg (tog a) false (tog b) false).take i) [])
    simp only [hnx]
    generalize mcomb f ((mrg (tog a) false (tog b) false).take i) [] = O at hins hO hOl hsl
    simp only [List.length_nil] at hOl
    have hone : ∀ z n (xs : List Value) (χ : PH), OwnS 55 2 z n xs χ → z.oneCell' = true := fun z n xs χ h => by obtain ⟨_, _, rfl⟩ := h.form; rfl
    have hu1 := hone _ _ _ _ hO
    have hfxy := hfn x y
    have hm1 : mcomb1 f O (t, x, y) = if f x y = oddB O.length then O else O ++ [t] := rfl
    refine yield_spec hfr rfl (by intro p hp; simp at hp; omega) (by (repeat (first | exact PutI.nil | apply PutI.cons)); first | done | fail) (fun N' β' => ?_)
    dsimp only
    refine jk_seq ?_
    refine jk_region ?_
    refine zq_assign ?_
    refine jk_nil ?_
    refine jk_region ?_
    refine zl_allocS ?_; rintro _ _ ⟨b, rfl, rfl⟩
    refine zs_storeS ?_; rintro _ _ ⟨rfl, rfl⟩
    refine jk_nil ?_
    refine jk_switch rfl rfl ?_
    refine jk_begin takeZ rfl ?_
    revert b; intro bx
    refine jk_block ?_
    refine jk_seq ?_
    refine jk_region ?_
    refine zq_load ?_
    focus ((refine jk_q (q_idxA0 rfl rfl rfl rfl (by decide)) rfl rfl rfl ?_))
    refine zq_load ?_
    focus ((refine jk_q (q_idxA1 rfl rfl rfl rfl (by decide)) rfl rfl rfl ?_))
    refine zq_load ?_
    refine jk_call hfxy rfl rfl rdZ rfl rfl ?_
    rintro _ rfl
    cases hfv : f x y with
    | true =>
      cases ins with
      | true =>
        rw [hfv, ← hins, if_pos rfl] at hm1
        refine zq_assign ?_
        refine jk_nil ?_
        refine jk_seq ?_
        refine jk_block ?_
        refine jk_seq ?_
        refine jk_region ?_
        refine zq_move ?_
        refine zq_move ?_
        refine zq_load ?_
        refine zq_not ?_
        refine zq_pick_t ?_
        refine zq_assign ?_
        refine jk_nil ?_
        refine jk_if_f rfl ?_
        refine jk_seq ?_
        refine jk_region ?_
        refine zq_move ?_
        refine zq_not ?_
        refine zq_move ?_
        refine jk_pass rfl rfl rfl ?_
        refine zq_pick_f ?_
        refine zq_assign ?_
        refine jk_nil ?_
        refine jk_if_f rfl ?_
        refine jk_skip ?_
        refine jk_blk ?_
        refine jk_region ?_
        refine zq_move ?_
        refine zs_storeL ?_; rintro _ _ ⟨rfl, rfl⟩
        refine jk_nil ?_
        refine jk_blk ?_
        exact jk_roundEnd takeZ (by (repeat (first | exact rs_nil | (refine rs_cons ?_ ?_; (focus ((repeat (first | exact .here | apply Mem.there | apply Take.there)); first | done | fail))) | exact fun ρ hρ => hρ | (intro ρ hρ; repeat (first | exact hρ | refine List.mem_cons_of_mem _ ?_)))); first | done | fail) selZ ⟨(u, true, σ), .inl ⟨rfl, ⟨by rw [hm1]; exact hins, by rw [hm1]; exact hO⟩, rfl⟩⟩
      | false =>
        rw [hfv, ← hins, if_neg (by simp)] at hm1
        have hsp := spans_even t hins.symm
        refine zq_assign ?_
        refine jk_nil ?_
        refine jk_seq ?_
        refine jk_block ?_
        refine jk_seq ?_
        refine jk_region ?_
        refine zq_move ?_
        refine zq_move ?_
        refine zq_load ?_
        refine zq_not ?_
        refine zq_pick_t ?_
        refine zq_assign ?_
        refine jk_nil ?_
        refine jk_if_t rfl ?_
        refine jk_region ?_
        refine zq_load ?_
        refine zq_move ?_
        refine zq_build ?_
        refine zl_buildSlice ?_; rintro _ _ ⟨b, rfl, rfl⟩
        refine jk_op (l_append (by_ := 16) (s := 2) (news := [int t, int 0]) rfl rfl rfl rfl rfl rfl rfl hO takeZ (cells_own memZ) rfl (by (repeat (first | exact (fun v hv => absurd hv List.not_mem_nil) | (refine List.forall_mem_cons.2 ⟨?_, ?_⟩; (focus (first | exact rfl | assumption))))); first | done | fail) (by omega) (by simp only [maxLen]; omega) (by omega)) rfl rfl rfl ?_
        rintro u1 _ ⟨σ1, hO1, rfl⟩
        have hu2 := hone _ _ _ _ hO1
        refine zs_storeL ?_; rintro _ _ ⟨rfl, rfl⟩
        refine jk_nil ?_
        refine jk_blk ?_
        refine jk_region ?_
        refine zq_move ?_
        refine zs_storeL ?_; rintro _ _ ⟨rfl, rfl⟩
        refine jk_nil ?_
        refine jk_blk ?_
        refine jk_roundEnd takeZ (by (repeat (first | exact rs_nil | (refine rs_cons ?_ ?_; (focus ((repeat (first | exact .here | apply Mem.there | apply Take.there)); first | done | fail))) | exact fun ρ hρ => hρ | (intro ρ hρ; repeat (first | exact hρ | refine List.mem_cons_of_mem _ ?_)))); first | done | fail) selZ ⟨(u1, true, σ1), .inl ⟨rfl, ⟨?_, ?_⟩, rfl⟩⟩
        · dsimp only
          rw [hm1, List.length_append, List.length_singleton, oddB_succ, ← hins]; rfl
        · dsimp only
          rw [hm1, hsp, List.length_append, List.flatMap_append]
          exact hO1
    | false =>
      cases ins with
      | false =>
        rw [hfv, ← hins, if_pos rfl] at hm1
        refine zq_assign ?_
        refine jk_nil ?_
        refine jk_seq ?_
        refine jk_block ?_
        refine jk_seq ?_
        refine jk_region ?_
        refine zq_move ?_
        refine zq_move ?_
        refine jk_pass rfl rfl rfl ?_
        refine jk_pass rfl rfl rfl ?_
        refine zq_pick_f ?_
        refine zq_assign ?_
        refine jk_nil ?_
        refine jk_if_f rfl ?_
        refine jk_seq ?_
        refine jk_region ?_
        refine zq_move ?_
        refine zq_not ?_
        refine zq_move ?_
        refine zq_load ?_
        refine zq_pick_t ?_
        refine zq_assign ?_
        refine jk_nil ?_
        refine jk_if_f rfl ?_
        refine jk_skip ?_
        refine jk_blk ?_
        refine jk_region ?_
        refine zq_move ?_
        refine zs_storeL ?_; rintro _ _ ⟨rfl, rfl⟩
        refine jk_nil ?_
        refine jk_blk ?_
        exact jk_roundEnd takeZ (by (repeat (first | exact rs_nil | (refine rs_cons ?_ ?_; (focus ((repeat (first | exact .here | apply Mem.there | apply Take.there)); first | done | fail))) | exact fun ρ hρ => hρ | (intro ρ hρ; repeat (first | exact hρ | refine List.mem_cons_of_mem _ ?_)))); first | done | fail) selZ ⟨(u, false, σ), .inl ⟨rfl, ⟨by rw [hm1]; exact hins, by rw [hm1]; exact hO⟩, rfl⟩⟩
      | true =>
        rw [hfv, ← hins, if_neg (by simp)] at hm1
        obtain ⟨l, c, e1, e2⟩ := spans_odd t hins.symm
        rw [e1] at hO hsl
        have hll : (l ++ [(c, (0 : Int))]).length = l.length + 1 := by simp
        obtain ⟨bu, cu, rfl⟩ := hO.formP (by omega)
        have hget : (l ++ [(c, (0 : Int))])[(l ++ [(c, (0 : Int))]).length - 1]? = some (c, 0) := by simp
        refine zq_assign ?_
        refine jk_nil ?_
        refine jk_seq ?_
        refine jk_block ?_
        refine jk_seq ?_
        refine jk_region ?_
        refine zq_move ?_
        refine zq_move ?_
        refine jk_pass rfl rfl rfl ?_
        refine jk_pass rfl rfl rfl ?_
        refine zq_pick_f ?_
        refine zq_assign ?_
        refine jk_nil ?_
        refine jk_if_f rfl ?_
        refine jk_seq ?_
        refine jk_region ?_
        refine zq_move ?_
        refine zq_not ?_
        refine zq_move ?_
        refine zq_load ?_
        refine zq_pick_t ?_
        refine zq_assign ?_
        refine jk_nil ?_
        refine jk_if_t rfl ?_
        refine jk_region ?_
        refine zq_load ?_
        refine zq_load ?_
        refine zq_len ?_
        refine zq_sub_nat ?_
        refine zq_move ?_
        refine zq_idxN ?_
        refine zq_fld ?_
        refine jk_op_none (l_storeF encS_len (s := 2) ((l ++ [(c, (0 : Int))]).length - 1) 1 (c, t) hO rfl (by simp; rfl) (by decide) hget rfl rfl rfl rfl takeZ) rfl rfl ?_
        rintro _ _ ⟨rfl, σ1, hO1, rfl⟩
        refine jk_nil ?_
        refine jk_blk ?_
        refine jk_region ?_
        refine zq_move ?_
        refine zs_storeL ?_; rintro _ _ ⟨rfl, rfl⟩
        refine jk_nil ?_
        refine jk_blk ?_
        refine jk_roundEnd takeZ (by (repeat (first | exact rs_nil | (refine rs_cons ?_ ?_; (focus ((repeat (first | exact .here | apply Mem.there | apply Take.there)); first | done | fail))) | exact fun ρ hρ => hρ | (intro ρ hρ; repeat (first | exact hρ | refine List.mem_cons_of_mem _ ?_)))); first | done | fail) selZ ⟨(.slice (some ⟨bu, 0, none⟩) (l ++ [(c, (0 : Int))]).length cu, false, σ1), .inl ⟨rfl, ⟨?_, ?_⟩, rfl⟩⟩
        · dsimp only
          rw [hm1, List.length_append, List.length_singleton, oddB_succ, ← hins]; rfl
        · dsimp only
          rw [hm1, e2]
          have es : (l ++ [(c, (0 : Int))]).set ((l ++ [(c, (0 : Int))]).length - 1) (c, t) = l ++ [(c, t)] := by simp
          rw [es] at hO1
          simpa using hO1
  · rintro b2' ⟨u, ins, σ⟩ ⟨hins, hO⟩
    rw [List.length_map, List.take_length] at hins hO
    dsimp only at hins hO
    have hO2 : OwnS 55 2 u (combI f a b).length ((combI f a b).flatMap encS) σ := hO
    obtain ⟨p, c, rfl⟩ := hO2.form
    clear hO
    generalize combI f a b = out at hO2 hcl
    refine jk_blk ?_
    refine jk_seq ?_
    refine jk_seq ?_
    refine jk_region ?_
    refine zq_load ?_
    refine zq_len ?_
    refine zq_gtF ?_
    refine jk_nil ?_
    refine jk_if_f rfl ?_
    refine jk_skip ?_
    refine jk_seq ?_
    refine jk_region ?_
    refine zq_load ?_
    refine zq_assign ?_
    refine zq_assign ?_
    refine jk_nil ?_
    exact jk_retM (Marks.cons .here .nil) (res2 rfl rfl rfl) (by (repeat (first | exact rs_nil | (refine rs_cons ?_ ?_; (focus ((repeat (first | exact .here | apply Mem.there | apply Take.there)); first | done | fail))) | exact fun ρ hρ => hρ | (intro ρ hρ; repeat (first | exact hρ | refine List.mem_cons_of_mem _ ?_)))); first | done | fail) selZ ⟨σ, ⟨_, rfl, hO2⟩, rfl⟩
  · rintro _ _ _ h; exact h.elim
end Go.Proofs.Ytjbebmealbnmgaa
/- Joins and meets of cuts: submodular. No program in sight. No conditions. -/
namespace Go.Step
theorem stored_none {n t : Int} : ∀ {l : List Hd}, (∀ g ∈ l, g.n = n → ¬ (g.a ≤ t ∧ t < g.b)) → stored l n t = 0
  | [], _ => rfl
  | h :: l, hh => by
    unfold stored
    rw [stored_none (fun g hg => hh g (by simp [hg])), if_neg (fun hc => hh h (by simp) hc.1 hc.2)]
    rfl
theorem fits_all {l : List Hd} {nq : Nat} (hok : ∀ h ∈ l, okHd nq h) {n Q t : Int} (hQ : 0 ≤ Q) (hf : ∀ h ∈ l, h.n = n → stored l n h.a ≤ Q) : stored l n t ≤ Q := by
  rcases last_active (n := n) (t := t) l with h | ⟨h, hm, hn, ha, hlast⟩
  · rw [stored_none h]; exact hQ
  · refine Int.le_trans (stored_mono (s := h.a) (fun g hg => ⟨?_, fun h1 h2 h3 => ⟨hlast g hg h1 h2 h3, by omega⟩⟩)) (hf h hm hn)
    have := (hok g hg).2.2.1
    omega
theorem fit_of {qs : List Int} {cs : List Ct} {hs : List Hd} (h : chkH qs cs hs = 0) : fitB qs hs = true := by
  unfold chkH at h
  split at h
  · omega
  split at h
  · omega
  split at h
  · rename_i h1; exact absurd h h1
  split at h
  · assumption
  · omega
theorem room_nonneg {qs : List Int} {hs : List Hd} (hquo : ∀ (j : Nat) (q : Int), qs[j]? = some q → 0 ≤ q ∧ q ≤ 1073741824) (hok : ∀ h ∈ hs, okHd qs.length h) (hfit : fitB qs hs = true) (d : Dm) (n : Nat) (hn : n < qs.length) (t : Int) : 0 ≤ roomT qs hs d n t := by
  unfold roomT
  split
  · omega
  have hx := List.getElem?_eq_getElem hn
  have hq := hquo n _ hx
  rw [Int.toNat_natCast, List.getD_eq_getElem?_getD, hx, Option.getD_some]
  have hf := List.all_eq_true.1 hfit
  have := fits_all (n := (n : Int)) (t := t) hok hq.1 (fun h hh hn' => by
    have h2 := of_decide_eq_true (hf h hh)
    rw [hn', Int.toNat_natCast, List.getD_eq_getElem?_getD, hx, Option.getD_some] at h2
    exact h2)
  omega
theorem sumT_le4 {f g p q : Int → Int} {a : Int} : ∀ {m : Nat}, (∀ k : Nat, k < m → f (a + k) + g (a + k) ≤ p (a + k) + q (a + k)) → sumT f a m + sumT g a m ≤ sumT p a m + sumT q a m
  | 0, _ => by simp [sumT]
  | m + 1, h => by
    have h1 := sumT_le4 (m := m) (fun k hk => h k (by omega))
    have h2 := h m (by omega)
    simp only [sumT]
    omega
theorem sumU_le4 {f g p q : Int → Int} {a t : Int} (h : ∀ v, f v + g v ≤ p v + q v) : sumU f a t + sumU g a t ≤ sumU p a t + sumU q a t := sumT_le4 (fun _ _ => h _)
def joinC (a b : Cu) : Cu := List.zipWith unionI a b
def meetC (a b : Cu) : Cu := List.zipWith interI a b
theorem cuAt_zip {f : Iv → Iv → Iv} (h0 : f [] [] = []) {a b : Cu} (hl : a.length = b.length) (n : Int) : cuAt (List.zipWith f a b) n = f (cuAt a n) (cuAt b n) := by
  unfold cuAt
  rw [List.getD_eq_getElem?_getD, List.getD_eq_getElem?_getD, List.getD_eq_getElem?_getD, List.getElem?_zipWith]
  by_cases h : n.toNat < a.length
  · rw [List.getElem?_eq_getElem h, List.getElem?_eq_getElem (by omega)]; rfl
  · rw [List.getElem?_eq_none (by omega), List.getElem?_eq_none (by omega)]
    simp [h0]
/-- every list is a set, not too long -/
def SetsC (c : Cu) : Prop := ∀ l ∈ c, chkI l = 0 ∧ l.length ≤ 500
theorem SetsC.at {c : Cu} (h : SetsC c) (n : Int) : chkI (cuAt c n) = 0 ∧ (cuAt c n).length ≤ 500 := by
  unfold cuAt
  rw [List.getD_eq_getElem?_getD]
  cases e : c[n.toNat]? with
  | none => exact ⟨by decide, by simp⟩
  | some l => exact h l (List.mem_of_getElem? e)
theorem norm_in {l : Iv} (h : NormI l) {lo hi : Int} : (∀ t, memI l t = true → lo ≤ t ∧ t < hi) → ∀ x ∈ l, lo ≤ x.1 ∧ x.2 ≤ hi := fun hm x hx => by
  have h1 := h.1 x hx
  have a := hm x.1 (memI_iff.2 ⟨x, hx, by omega, h1⟩)
  have b := hm (x.2 - 1) (memI_iff.2 ⟨x, hx, by omega, by omega⟩)
  omega
theorem in_norm {l : Iv} {lo hi : Int} (h : ∀ x ∈ l, lo ≤ x.1 ∧ x.2 ≤ hi) (t : Int) (ht : memI l t = true) : lo ≤ t ∧ t < hi := by
  obtain ⟨x, hx, h1, h2⟩ := memI_iff.1 ht
  have := h x hx
  omega
/-- combined sets within bounds -/
theorem combI_chk {f : Bool → Bool → Bool} (hf : f false false = false) {a b : Iv} (ha : chkI a = 0) (hb : chkI b = 0) (hl : a.length + b.length ≤ 1000) : chkI (combI f a b) = 0 ∧ (∀ t, hasI (combI f a b) t = f (hasI a t) (hasI b t)) ∧
    (∀ lo hi, (∀ x ∈ a, lo ≤ x.1 ∧ x.2 ≤ hi) → (∀ x ∈ b, lo ≤ x.1 ∧ x.2 ≤ hi) → ∀ x ∈ combI f a b, lo ≤ x.1 ∧ x.2 ≤ hi) := by
  obtain ⟨_, na, oa⟩ := chkI_norm ha
  obtain ⟨_, nb, ob⟩ := chkI_norm hb
  obtain ⟨h1, h2, h3⟩ := combI_ok hf na nb
  have hbd : ∀ lo hi, (∀ x ∈ a, lo ≤ x.1 ∧ x.2 ≤ hi) → (∀ x ∈ b, lo ≤ x.1 ∧ x.2 ≤ hi) → ∀ x ∈ combI f a b, lo ≤ x.1 ∧ x.2 ≤ hi := fun lo hi pa pb => norm_in h1 (fun t ht => by
    rw [h2] at ht
    cases ea : memI a t with
    | true => exact in_norm pa t ea
    | false =>
      cases eb : memI b t with
      | true => exact in_norm pb t eb
      | false => rw [ea, eb, hf] at ht; simp at ht)
  have h4 : chkI (combI f a b) = 0 := chkI_of (by omega) h1 (fun x hx => by
    have := hbd (-1152921504606846976) 1152921504606846976 (fun x hx => (oa x hx).2) (fun x hx => (ob x hx).2) x hx
    exact ⟨h1.1 x hx, this⟩)
  exact ⟨h4, fun t => by rw [hasI_mem h4, hasI_mem ha, hasI_mem hb, h2], hbd⟩
theorem any_badL2 {d : Dm} {c : Cu} : c.any (badL2 d) = false ↔ ∀ l ∈ c, chkI l = 0 ∧ ∀ x ∈ l, d.r ≤ x.1 ∧ x.2 ≤ d.e + 1 := by
  rw [List.any_eq_false]
  constructor
  · intro h l hl
    have := h l hl
    unfold badL2 at this
    rw [Bool.or_eq_true, decide_eq_true_eq, List.any_eq_true] at this
    refine ⟨Decidable.not_not.1 (fun h2 => this (.inl h2)), fun x hx => ?_⟩
    have h3 : ¬ (badS d x = true) := fun h4 => this (.inr ⟨x, hx, h4⟩)
    unfold badS at h3
    rw [Bool.or_eq_true, decide_eq_true_eq, decide_eq_true_eq] at h3
    omega
  · intro h l hl h2
    unfold badL2 at h2
    rw [Bool.or_eq_true, decide_eq_true_eq, List.any_eq_true] at h2
    rcases h2 with h2 | ⟨x, hx, h2⟩
    · exact h2 (h l hl).1
    · unfold badS at h2
      rw [Bool.or_eq_true, decide_eq_true_eq, decide_eq_true_eq] at h2
      have := (h l hl).2 x hx
      omega
theorem zip_all {f : Iv → Iv → Iv} {a b : Cu} {P : Iv → Prop} {Q : Iv → Prop} (ha : ∀ l ∈ a, Q l) (hb : ∀ l ∈ b, Q l) (h : ∀ x y, Q x → Q y → P (f x y)) : ∀ l ∈ List.zipWith f a b, P l := fun l hl => by
  obtain ⟨i, hi, rfl⟩ := List.getElem_of_mem hl
  rw [List.getElem_zipWith]
  exact h _ _ (ha _ (List.getElem_mem _)) (hb _ (List.getElem_mem _))
theorem combC_ok {f : Bool → Bool → Bool} (hf : f false false = false) {qs : List Int} {cs : List Ct} {bs : List Bk} {hs : List Hd} {d : Dm} {a b : Cu} (ha : (capR qs cs bs hs d a).2 = 0) (hb : (capR qs cs bs hs d b).2 = 0) (la : ∀ l ∈ a, l.length ≤ 500) (lb : ∀ l ∈ b, l.length ≤ 500) (hft : f true true = true) :
    capR qs cs bs hs d (List.zipWith (combI f) a b) = (capSum qs cs bs hs d (List.zipWith (combI f) a b), 0) ∧ capR qs cs bs hs d a = (capSum qs cs bs hs d a, 0) ∧ capR qs cs bs hs d b = (capSum qs cs bs hs d b, 0) ∧ validT qs cs bs hs d = true ∧ SetsC a ∧ SetsC b ∧ a.length = qs.length ∧ b.length = qs.length ∧
    ∀ n t, hasI (cuAt (List.zipWith (combI f) a b) n) t = f (hasI (cuAt a n) t) (hasI (cuAt b n) t) := by
  have key : ∀ c : Cu, (capR qs cs bs hs d c).2 = 0 → validT qs cs bs hs d = true ∧ c.length = qs.length ∧ c.any (badL2 d) = false ∧ (hasI (cuAt c d.s) d.r = true ∧ hasI (cuAt c d.d) d.e = false) ∧ capR qs cs bs hs d c = (capSum qs cs bs hs d c, 0) := fun c hc => by
    unfold capR at hc ⊢
    split at hc
    · simp at hc
    split at hc
    · simp at hc
    split at hc
    · simp at hc
    split at hc
    · simp at hc
    rename_i h1 h2 h3 h4
    refine ⟨by simpa using h1, by omega, by simpa using h3, ?_, by rw [if_neg h1, if_neg h2, if_neg h3, if_neg h4]⟩
    constructor
    · cases e : hasI (cuAt c d.s) d.r with
      | true => rfl
      | false => exact absurd (.inl e) h4
    · cases e : hasI (cuAt c d.d) d.e with
      | false => rfl
      | true => exact absurd (.inr e) h4
  obtain ⟨v, na, ba, ea, ra⟩ := key a ha
  obtain ⟨_, nb, bb, eb, rb⟩ := key b hb
  have sa : SetsC a := fun l hl => ⟨(any_badL2.1 ba l hl).1, la l hl⟩
  have sb : SetsC b := fun l hl => ⟨(any_badL2.1 bb l hl).1, lb l hl⟩
  have h00 : combI f [] [] = [] := by
    unfold combI
    rw [show tog [] = [] from rfl]
    unfold mrg
    rfl
  have hat := cuAt_zip h00 (a := a) (b := b) (by omega)
  have hhas : ∀ n t, hasI (cuAt (List.zipWith (combI f) a b) n) t = f (hasI (cuAt a n) t) (hasI (cuAt b n) t) := fun n t => by
    rw [hat]
    have h1 := sa.at n
    have h2 := sb.at n
    exact (combI_chk hf h1.1 h2.1 (by omega)).2.1 t
  refine ⟨?_, ra, rb, v, sa, sb, na, nb, hhas⟩
  unfold capR
  rw [if_neg (by rw [v]; simp), if_neg (by rw [List.length_zipWith]; omega), if_neg, if_neg]
  · rw [hhas, hhas, ea.1, eb.1, ea.2, eb.2, hf, hft]; simp
  · rw [any_badL2.2]; · simp
    refine zip_all (Q := fun l => chkI l = 0 ∧ l.length ≤ 500 ∧ ∀ x ∈ l, d.r ≤ x.1 ∧ x.2 ≤ d.e + 1) (fun l hl => ⟨(any_badL2.1 ba l hl).1, la l hl, (any_badL2.1 ba l hl).2⟩) (fun l hl => ⟨(any_badL2.1 bb l hl).1, lb l hl, (any_badL2.1 bb l hl).2⟩) (fun x y hx hy => ?_)
    obtain ⟨c1, _, c3⟩ := combI_chk hf hx.1 hy.1 (by omega)
    exact ⟨c1, c3 _ _ hx.2.2 hy.2.2⟩
theorem cross_sub (x1 x2 y1 y2 : Bool) {w : Int} (hw : 0 ≤ w) : (if ((x1 || x2) && !(y1 || y2)) = true then w else 0) + (if ((x1 && x2) && !(y1 && y2)) = true then w else 0) ≤ (if (x1 && !y1) = true then w else 0) + (if (x2 && !y2) = true then w else 0) := by
  cases x1 <;> cases x2 <;> cases y1 <;> cases y2 <;> simp <;> omega
theorem submodular {qs : List Int} {cs : List Ct} {bs : List Bk} {hs : List Hd} {d : Dm} {a b : Cu} (ha : (capR qs cs bs hs d a).2 = 0) (hb : (capR qs cs bs hs d b).2 = 0) (la : ∀ l ∈ a, l.length ≤ 500) (lb : ∀ l ∈ b, l.length ≤ 500)
    (hquo : ∀ (j : Nat) (q : Int), qs[j]? = some q → 0 ≤ q ∧ q ≤ 1073741824) (hok : ∀ h ∈ hs, okHd qs.length h) (hfit : fitB qs hs = true) (hr : ∀ x ∈ cs, 0 ≤ x.r) :
    (capR qs cs bs hs d (joinC a b)).2 = 0 ∧ (capR qs cs bs hs d (meetC a b)).2 = 0 ∧ (capR qs cs bs hs d (joinC a b)).1 + (capR qs cs bs hs d (meetC a b)).1 ≤ (capR qs cs bs hs d a).1 + (capR qs cs bs hs d b).1 := by
  obtain ⟨j1, ra, rb, _, _, _, _, _, j2⟩ := combC_ok (f := fun x y => x || y) rfl ha hb la lb rfl
  obtain ⟨m1, _, _, _, _, _, _, _, m2⟩ := combC_ok (f := fun x y => x && y) rfl ha hb la lb rfl
  have hj : capR qs cs bs hs d (joinC a b) = (capSum qs cs bs hs d (joinC a b), 0) := j1
  have hm : capR qs cs bs hs d (meetC a b) = (capSum qs cs bs hs d (meetC a b), 0) := m1
  rw [hj, hm, ra, rb]
  refine ⟨rfl, rfl, ?_⟩
  have cj : ∀ f x t u, crossB (joinC a b) f x t u = ((hasI (cuAt a f) x || hasI (cuAt b f) x) && !(hasI (cuAt a t) u || hasI (cuAt b t) u)) := fun f x t u => by
    unfold crossB
    rw [show cuAt (joinC a b) f = cuAt (List.zipWith (combI fun x y => x || y) a b) f from rfl, show cuAt (joinC a b) t = cuAt (List.zipWith (combI fun x y => x || y) a b) t from rfl, j2, j2]
  have cm : ∀ f x t u, crossB (meetC a b) f x t u = ((hasI (cuAt a f) x && hasI (cuAt b f) x) && !(hasI (cuAt a t) u && hasI (cuAt b t) u)) := fun f x t u => by
    unfold crossB
    rw [show cuAt (meetC a b) f = cuAt (List.zipWith (combI fun x y => x && y) a b) f from rfl, show cuAt (meetC a b) t = cuAt (List.zipWith (combI fun x y => x && y) a b) t from rfl, m2, m2]
  have hW : capW qs hs d (joinC a b) qs.length + capW qs hs d (meetC a b) qs.length ≤ capW qs hs d a qs.length + capW qs hs d b qs.length := sumT_le4 (fun k hk => sumU_le4 (fun v => by
    unfold waitC
    rw [cj, cm]
    have hw := room_nonneg hquo hok hfit d k hk v
    rw [Int.zero_add]
    exact cross_sub _ _ _ _ hw))
  have hC : capC cs bs d (joinC a b) cs.length + capC cs bs d (meetC a b) cs.length ≤ capC cs bs d a cs.length + capC cs bs d b cs.length := sumT_le4 (fun k hk => sumU_le4 (fun v => by
    unfold conC
    rw [Int.zero_add, Int.toNat_natCast, List.getElem?_eq_getElem hk]
    have hw := hr _ (List.getElem_mem hk)
    generalize cs[k] = x at hw
    simp only
    rw [cj, cm]
    by_cases h : x.s ≤ v ∧ v < x.e ∧ v + 1 + x.g ≤ d.e ∧ bookedB bs (k : Int) v = false
    · have e : ∀ z : Bool, (if x.s ≤ v ∧ v < x.e ∧ v + 1 + x.g ≤ d.e ∧ bookedB bs (k : Int) v = false ∧ z = true then x.r else 0) = if z = true then x.r else 0 := fun z => by
        cases z with
        | true => rw [if_pos ⟨h.1, h.2.1, h.2.2.1, h.2.2.2, rfl⟩, if_pos rfl]
        | false => rw [if_neg (fun h => by simp at h), if_neg (by simp)]
      rw [e, e, e, e]
      exact cross_sub _ _ _ _ hw
    · have e : ∀ z : Bool, (if x.s ≤ v ∧ v < x.e ∧ v + 1 + x.g ≤ d.e ∧ bookedB bs (k : Int) v = false ∧ z = true then x.r else 0) = 0 := fun z => if_neg (fun h2 => h ⟨h2.1, h2.2.1, h2.2.2.1, h2.2.2.2.1⟩)
      rw [e, e, e, e]
      omega))
  unfold capSum
  dsimp only
  omega
end Go.Step
/- Joins and meets of cuts. -/
namespace Go.Proofs.Ytjbebmealbnmgaa
open Go.Eng Go.Step
set_option maxRecDepth 100000
set_option maxHeartbeats 4000000

def cmbE (a b : Cu) : Int := if a.length ≠ b.length then 10 else if (a ++ b).any (fun l => decide (chkI l ≠ 0)) then 2 else 0
def cmbC (f : Bool → Bool → Bool) (a b : Cu) : Cu := if cmbE a b = 0 then List.zipWith (combI f) a b else []
theorem cmb1_spec (κ : PH) (v : Value) (l : Iv) (hv : SpAt κ v l) (hl : l.length ≤ 9223372036854775807) : Ans Try.prog (fv 54) [v] [κ] (fun r => r = .bool (decide (chkI l ≠ 0))) := by
  have hc := ivCheck_spec κ v l hv hl
  obtain ⟨q, c, rfl, _⟩ := hv.val encS_len
  refine spec_in (cap := []) Try.func54 rfl rfl Try.ntmps54 rfl (by (repeat (first | exact EnvA.nil EnvI.nil | apply EnvA.cons | apply EnvA.nil | exact EnvI.nil | apply EnvI.cons)); first | done | fail) (fun N β => ?_)
  refine jk_seq ?_
  refine jk_region ?_
  refine zq_assign ?_
  refine jk_nil ?_
  refine jk_seq ?_
  refine jk_region ?_
  refine zq_move ?_
  refine jk_call hc rfl rfl rdZ rfl rfl ?_
  rintro _ rfl
  generalize chkI l = z
  by_cases h0 : z = 0
  · rw [decide_eq_false (fun h => h h0)]
    refine zq_neF ?_
    refine zq_assign ?_
    refine jk_nil ?_
    exact jk_ret_any (res1 rfl rfl) (by (repeat (first | exact rs_nil | (refine rs_cons ?_ ?_; (focus ((repeat (first | exact .here | apply Mem.there | apply Take.there)); first | done | fail))) | exact fun ρ hρ => hρ | (intro ρ hρ; repeat (first | exact hρ | refine List.mem_cons_of_mem _ ?_)))); first | done | fail) selZ ⟨rfl, rfl⟩
  · rw [decide_eq_true h0]
    refine zq_ne ?_
    refine zq_assign ?_
    refine jk_nil ?_
    exact jk_ret_any (res1 rfl rfl) (by (repeat (first | exact rs_nil | (refine rs_cons ?_ ?_; (focus ((repeat (first | exact .here | apply Mem.there | apply Take.there)); first | done | fail))) | exact fun ρ hρ => hρ | (intro ρ hρ; repeat (first | exact hρ | refine List.mem_cons_of_mem _ ?_)))); first | done | fail) selZ ⟨rfl, rfl⟩
theorem ivOr_spec (x y : Bool) : Ans Try.prog (fv 56) [.bool x, .bool y] [] (fun r => r = .bool (x || y)) := by
  refine spec_in (cap := []) Try.func56 rfl rfl Try.ntmps56 rfl (by (repeat (first | exact EnvA.nil EnvI.nil | apply EnvA.cons | apply EnvA.nil | exact EnvI.nil | apply EnvI.cons)); first | done | fail) (fun N β => ?_)
  cases x <;> cases y
  all_goals
    repeat' (first
      | (refine zq_move ?_)
      | (refine zq_assign ?_)
      | (refine zq_pick_t ?_)
      | (refine zq_pick_f ?_)
      | (refine jk_seq ?_)
      | (refine jk_region ?_)
      | (refine jk_nil ?_)
      | (refine jk_pass rfl rfl rfl ?_)
      | fail)
    exact jk_ret_any (res1 rfl rfl) (by (repeat (first | exact rs_nil | (refine rs_cons ?_ ?_; (focus ((repeat (first | exact .here | apply Mem.there | apply Take.there)); first | done | fail))) | exact fun ρ hρ => hρ | (intro ρ hρ; repeat (first | exact hρ | refine List.mem_cons_of_mem _ ?_)))); first | done | fail) selZ ⟨rfl, rfl⟩
theorem ivAnd_spec (x y : Bool) : Ans Try.prog (fv 57) [.bool x, .bool y] [] (fun r => r = .bool (x && y)) := by
  refine spec_in (cap := []) Try.func57 rfl rfl Try.ntmps57 rfl (by (repeat (first | exact EnvA.nil EnvI.nil | apply EnvA.cons | apply EnvA.nil | exact EnvI.nil | apply EnvI.cons)); first | done | fail) (fun N β => ?_)
  cases x <;> cases y
  all_goals
    repeat' (first
      | (refine zq_move ?_)
      | (refine zq_assign ?_)
      | (refine zq_pick_t ?_)
      | (refine zq_pick_f ?_)
      | (refine jk_seq ?_)
      | (refine jk_region ?_)
      | (refine jk_nil ?_)
      | (refine jk_pass rfl rfl rfl ?_)
      | fail)
    exact jk_ret_any (res1 rfl rfl) (by (repeat (first | exact rs_nil | (refine rs_cons ?_ ?_; (focus ((repeat (first | exact .here | apply Mem.there | apply Take.there)); first | done | fail))) | exact fun ρ hρ => hρ | (intro ρ hρ; repeat (first | exact hρ | refine List.mem_cons_of_mem _ ?_)))); first | done | fail) selZ ⟨rfl, rfl⟩
theorem ivUnion_spec (ρ τ : PH) (va vb : Value) (a b : Iv) (ha : SpAt ρ va a) (hb : SpAt τ vb b) (h0a : chkI a = 0) (h0b : chkI b = 0) (hlen : a.length + b.length ≤ 1000) :
    Makes Try.prog (fv 35) [va, vb] [ρ, τ] (fun r σ => ∃ u, r = .tuple #[u, int 0] ∧ OwnS 55 2 u (combI (fun x y => x || y) a b).length ((combI (fun x y => x || y) a b).flatMap encS) σ) := by
  have h := ivCombine_spec ρ τ va vb 56 a b (fun x y => x || y) ha hb h0a h0b hlen rfl ivOr_spec
  obtain ⟨qa, ca, rfl, _⟩ := ha.val encS_len
  obtain ⟨qb, cb, rfl, _⟩ := hb.val encS_len
  refine spec_in (cap := []) Try.func35 rfl rfl Try.ntmps35 rfl (by (repeat (first | exact EnvA.nil EnvI.nil | apply EnvA.cons | apply EnvA.nil | exact EnvI.nil | apply EnvI.cons)); first | done | fail) (fun N β => ?_)
  refine jk_seq ?_
  refine jk_region ?_
  refine zq_assign ?_
  refine zq_assign ?_
  refine jk_nil ?_
  refine jk_seq ?_
  refine jk_region ?_
  refine zq_move ?_
  refine zq_move ?_
  refine jk_callM h rfl rfl rdZ rfl rfl ?_
  rintro _ σ ⟨u, rfl, hO⟩
  refine zq_extract ?_
  refine zq_extract ?_
  refine zq_assign ?_
  refine zq_assign ?_
  refine jk_nil ?_
  exact jk_ret_any (res2 rfl rfl rfl) (by (repeat (first | exact rs_nil | (refine rs_cons ?_ ?_; (focus ((repeat (first | exact .here | apply Mem.there | apply Take.there)); first | done | fail))) | exact fun ρ hρ => hρ | (intro ρ hρ; repeat (first | exact hρ | refine List.mem_cons_of_mem _ ?_)))); first | done | fail) selZ ⟨σ, ⟨u, rfl, hO⟩, rfl⟩
theorem ivInter_spec (ρ τ : PH) (va vb : Value) (a b : Iv) (ha : SpAt ρ va a) (hb : SpAt τ vb b) (h0a : chkI a = 0) (h0b : chkI b = 0) (hlen : a.length + b.length ≤ 1000) :
    Makes Try.prog (fv 36) [va, vb] [ρ, τ] (fun r σ => ∃ u, r = .tuple #[u, int 0] ∧ OwnS 55 2 u (combI (fun x y => x && y) a b).length ((combI (fun x y => x && y) a b).flatMap encS) σ) := by
  have h := ivCombine_spec ρ τ va vb 57 a b (fun x y => x && y) ha hb h0a h0b hlen rfl ivAnd_spec
  obtain ⟨qa, ca, rfl, _⟩ := ha.val encS_len
  obtain ⟨qb, cb, rfl, _⟩ := hb.val encS_len
  refine spec_in (cap := []) Try.func36 rfl rfl Try.ntmps36 rfl (by (repeat (first | exact EnvA.nil EnvI.nil | apply EnvA.cons | apply EnvA.nil | exact EnvI.nil | apply EnvI.cons)); first | done | fail) (fun N β => ?_)
  refine jk_seq ?_
  refine jk_region ?_
  refine zq_assign ?_
  refine zq_assign ?_
  refine jk_nil ?_
  refine jk_seq ?_
  refine jk_region ?_
  refine zq_move ?_
  refine zq_move ?_
  refine jk_callM h rfl rfl rdZ rfl rfl ?_
  rintro _ σ ⟨u, rfl, hO⟩
  refine zq_extract ?_
  refine zq_extract ?_
  refine zq_assign ?_
  refine zq_assign ?_
  refine jk_nil ?_
  exact jk_ret_any (res2 rfl rfl rfl) (by (repeat (first | exact rs_nil | (refine rs_cons ?_ ?_; (focus ((repeat (first | exact .here | apply Mem.there | apply Take.there)); first | done | fail))) | exact fun ρ hρ => hρ | (intro ρ hρ; repeat (first | exact hρ | refine List.mem_cons_of_mem _ ?_)))); first | done | fail) selZ ⟨σ, ⟨u, rfl, hO⟩, rfl⟩
set_option maxHeartbeats 32000000 in
theorem certCombine_spec (γ κ γ' κ' : PH) (p p' : Option Addr) (kk kk' : Nat) (La Lb : List Sq) (hc : CutL γ κ (.slice p La.length kk) La) (hc' : CutL γ' κ' (.slice p' Lb.length kk') Lb) (lla : La.length ≤ 1000) (llb : Lb.length ≤ 1000) (sa : ∀ l ∈ La, l.2.length ≤ 500) (sb : ∀ l ∈ Lb, l.2.length ≤ 500) (gf : FuncId) (f : Bool → Bool → Bool) (hf : f false false = false)
    (hg : ∀ (ρ τ : PH) (va vb : Value) (x y : Iv), SpAt ρ va x → SpAt τ vb y → chkI x = 0 → chkI y = 0 → x.length + y.length ≤ 1000 → Makes Try.prog (fv gf) [va, vb] [ρ, τ] (fun r σ => ∃ u, r = .tuple #[u, int 0] ∧ OwnS 55 2 u (combI f x y).length ((combI f x y).flatMap encS) σ)) :
    Eng.Spec Try.prog (fv 34) [.slice p La.length kk, .slice p' Lb.length kk', fv gf] [γ, κ, γ', κ'] [] (fun r H' => ∃ (L : List Sq) (u : Value) (σ χ : PH), r = .tuple #[u, int (cmbE (cuL La) (cuL Lb))] ∧ H' = [σ, χ] ∧ cuL L = cmbC f (cuL La) (cuL Lb) ∧ OwnS 56 1 u L.length (L.flatMap encQ) σ ∧ ∀ x ∈ L, SpAt χ (.slice x.1.1 x.2.length x.1.2) x.2 ∧ x.2.length ≤ 9223372036854775807) := by
  obtain ⟨_, _, e1, hra⟩ := hc.1.val encQ_len
  obtain ⟨_, _, e2, hrb⟩ := hc'.1.val encQ_len
  simp only [Value.slice.injEq] at e1 e2
  obtain ⟨rfl, _, rfl⟩ := e1
  obtain ⟨rfl, _, rfl⟩ := e2
  refine spec_in (cap := []) Try.func34 rfl rfl Try.ntmps34 rfl (by (repeat (first | exact EnvA.nil EnvI.nil | apply EnvA.cons | apply EnvA.nil | exact EnvI.nil | apply EnvI.cons)); first | done | fail) (fun N β => ?_)
  refine jk_emp ?_
  refine jk_emp ?_
  by_cases hlen : La.length = Lb.length
  rotate_left
  · have hE : cmbE (cuL La) (cuL Lb) = 10 := by unfold cmbE; rw [List.length_map, List.length_map, if_pos hlen]
    have hC : cmbC f (cuL La) (cuL Lb) = [] := by unfold cmbC; rw [hE, if_neg (by omega)]
    rw [hE, hC]
    refine jk_seq ?_
    refine jk_region ?_
    refine zq_assign ?_
    refine zq_assign ?_
    refine jk_nil ?_
    refine jk_seq ?_
    refine jk_seq ?_
    refine jk_region ?_
    refine zq_move ?_
    refine zq_len ?_
    refine zq_move ?_
    refine zq_len ?_
    refine zq_ne ?_
    refine jk_nil ?_
    refine jk_if_t rfl ?_
    refine jk_seq ?_
    refine jk_region ?_
    refine zq_assign ?_
    refine zq_assign ?_
    refine jk_nil ?_
    exact jk_ret_any (res2 rfl rfl rfl) (by (repeat (first | exact rs_nil | (refine rs_cons ?_ ?_; (focus ((repeat (first | exact .here | apply Mem.there | apply Take.there)); first | done | fail))) | exact fun ρ hρ => hρ | (intro ρ hρ; repeat (first | exact hρ | refine List.mem_cons_of_mem _ ?_)))); first | done | fail) selZ ⟨[], _, emp, emp, rfl, rfl, rfl, OwnS.nil _ _, by simp⟩
  have hE0 : cmbE (cuL La) (cuL Lb) = if (La ++ Lb).any (fun x => decide (chkI x.2 ≠ 0)) then 2 else 0 := by
    unfold cmbE
    rw [List.length_map, List.length_map, if_neg (fun h => h hlen), ← List.map_append, List.any_map]
    rfl
  refine jk_seq ?_
  refine jk_region ?_
  refine zq_assign ?_
  refine zq_assign ?_
  refine jk_nil ?_
  refine jk_seq ?_
  refine jk_seq ?_
  refine jk_region ?_
  refine zq_move ?_
  refine zq_len ?_
  refine zq_move ?_
  refine zq_len ?_
  refine zq_neF ?_
  refine jk_nil ?_
  refine jk_if_f rfl ?_
  refine jk_skip ?_
  refine jk_seq ?_
  refine jk_seq ?_
  refine jk_region ?_
  refine zq_move ?_
  refine zq_move ?_
  refine zl_buildSlice ?_; rintro _ _ ⟨b, rfl, rfl⟩
  revert b; intro bw
  have hcon := concatQ_spec (sng bw (.cells #[.slice p La.length kk, .slice p' Lb.length kk'] 39 (0, 0))) [γ, γ'] (.slice (some ⟨bw, 0, none⟩) 2 2) [.slice p La.length kk, .slice p' Lb.length kk'] [La, Lb] (slE_sng encW_len) rfl (fun i w m h1 h2 => by
    match i with
    | 0 => simp only [List.getElem?_cons_zero, Option.some.injEq] at h1 h2; subst h1 h2; exact ⟨γ, by simp, hc.1⟩
    | 1 => simp only [List.getElem?_cons_succ, List.getElem?_cons_zero, Option.some.injEq] at h1 h2; subst h1 h2; exact ⟨γ', by simp, hc'.1⟩
    | i + 2 => simp at h1) (by simp) (by simp [totL]; omega)
  rw [show ([La, Lb] : List (List Sq)).flatten = La ++ Lb by simp] at hcon
  refine jk_callM hcon rfl rfl rdZ rfl rfl ?_
  rintro w σw hOw
  skip
  refine jk_call (contQ_spec σw [κ, κ'] w (fv 54) (La ++ Lb) (fun x => decide (chkI x.2 ≠ 0)) hOw.at (by rw [List.length_append]; omega) (fun i x hx => by
    rcases List.mem_append.1 (List.mem_of_getElem? hx) with hm | hm
    · exact (cmb1_spec κ _ x.2 (hc.2 x hm).1 (hc.2 x hm).2).rsub (by simp)
    · exact (cmb1_spec κ' _ x.2 (hc'.2 x hm).1 (hc'.2 x hm).2).rsub (by simp))) rfl rfl rdZ rfl rfl ?_
  rintro _ rfl
  cases hany : (La ++ Lb).any (fun x => decide (chkI x.2 ≠ 0)) with
  | true =>
    rw [hany, if_pos rfl] at hE0
    have hC : cmbC f (cuL La) (cuL Lb) = [] := by unfold cmbC; rw [hE0, if_neg (by omega)]
    rw [hE0, hC]
    refine jk_nil ?_
    refine jk_if_t rfl ?_
    refine jk_seq ?_
    refine jk_region ?_
    refine zq_assign ?_
    refine zq_assign ?_
    refine jk_nil ?_
    exact jk_ret_any (res2 rfl rfl rfl) (by (repeat (first | exact rs_nil | (refine rs_cons ?_ ?_; (focus ((repeat (first | exact .here | apply Mem.there | apply Take.there)); first | done | fail))) | exact fun ρ hρ => hρ | (intro ρ hρ; repeat (first | exact hρ | refine List.mem_cons_of_mem _ ?_)))); first | done | fail) selZ ⟨[], _, emp, emp, rfl, rfl, rfl, OwnS.nil _ _, by simp⟩
  | false =>
  rw [hany, if_neg (by simp)] at hE0
  have hC : cmbC f (cuL La) (cuL Lb) = List.zipWith (combI f) (cuL La) (cuL Lb) := by unfold cmbC; rw [hE0, if_pos rfl]
  rw [hE0, hC]
  have hok : ∀ x ∈ La ++ Lb, chkI x.2 = 0 := fun x hx => by
    have := List.any_eq_false.1 hany x hx
    simpa using this
  refine jk_nil ?_
  refine jk_if_f rfl ?_
  refine jk_skip ?_
  refine jk_seq ?_
  refine jk_region ?_
  refine zl_buildSlice ?_; rintro _ _ ⟨b, rfl, rfl⟩
  refine zq_assign ?_
  refine jk_nil ?_
  refine jk_seq ?_
  refine jk_seq ?_
  refine jk_region ?_
  refine zq_move ?_
  refine zq_len ?_
  refine zq_move ?_
  refine jk_nil ?_
  refine jk_block ?_
  refine jk_loop [0, 1, 2, 24] (X := Nat × List Sq × Value × PH × PH) (0, [], .slice (some ⟨b, 0, none⟩) 0 0, sng b (.cells #[] 56 (0, 0)), emp) (fun x => x.1 ≤ La.length ∧ cuL x.2.1 = (List.zipWith (combI f) (cuL La) (cuL Lb)).take x.1 ∧ OwnS 56 1 x.2.2.1 x.2.1.length (x.2.1.flatMap encQ) x.2.2.2.1 ∧ ∀ z ∈ x.2.1, SpAt x.2.2.2.2 (.slice z.1.1 z.2.length z.1.2) z.2 ∧ z.2.length ≤ 9223372036854775807) (fun x => [(25, int x.1), (8, x.2.2.1)]) (fun x => [x.2.2.2.1, x.2.2.2.2]) (fun x => La.length - x.1) pickZ ⟨by dsimp only; omega, by simp, OwnS.empty, by simp⟩ covZ selZ ?_
  rintro ⟨k, L, u, σ, χ⟩ ⟨hk, hL, hO, hS⟩
  dsimp only at hk hL hO hS ⊢
  by_cases hlt : k < La.length
  rotate_left
  · have hke : k = La.length := by omega
    subst hke
    rw [List.take_of_length_le (by simp; omega)] at hL
    refine jk_seq ?_
    refine jk_region ?_
    refine zq_ltF ?_
    refine jk_nil ?_
    refine jk_seq ?_
    refine jk_if_f rfl ?_
    refine jk_exit rfl ?_
    refine jk_seq ?_
    refine jk_region ?_
    refine zq_move ?_
    refine zq_assign ?_
    refine zq_assign ?_
    refine jk_nil ?_
    exact jk_ret_any (res2 rfl rfl rfl) (by (repeat (first | exact rs_nil | (refine rs_cons ?_ ?_; (focus ((repeat (first | exact .here | apply Mem.there | apply Take.there)); first | done | fail))) | exact fun ρ hρ => hρ | (intro ρ hρ; repeat (first | exact hρ | refine List.mem_cons_of_mem _ ?_)))); first | done | fail) selZ ⟨L, u, σ, χ, rfl, rfl, hL, hO, hS⟩
  have hx := List.getElem?_eq_getElem hlt
  have hy := List.getElem?_eq_getElem (show k < Lb.length by omega)
  have hma := List.getElem_mem hlt
  have hmb := List.getElem_mem (show k < Lb.length by omega)
  have hz : (List.zipWith (combI f) (cuL La) (cuL Lb))[k]? = some (combI f La[k].2 Lb[k].2) := by
    rw [List.getElem?_zipWith, List.getElem?_map, List.getElem?_map, hx, hy]; rfl
  have hnext : (List.zipWith (combI f) (cuL La) (cuL Lb)).take (k + 1) = (List.zipWith (combI f) (cuL La) (cuL Lb)).take k ++ [combI f La[k].2 Lb[k].2] := by
    obtain ⟨h1, h2⟩ := List.getElem?_eq_some_iff.1 hz
    rw [List.take_succ_eq_append_getElem h1, h2]
  obtain ⟨b1, o1, rfl, hr1⟩ := hra k _ hx
  obtain ⟨b2, o2, rfl, hr2⟩ := hrb k _ hy
  have g1 : rdc γ b1 (o1 + k) = some (.slice La[k].1.1 La[k].2.length La[k].1.2) := by have := hr1.get0; rwa [Nat.mul_one] at this
  have g2 : rdc γ' b2 (o2 + k) = some (.slice Lb[k].1.1 Lb[k].2.length Lb[k].1.2) := by have := hr2.get0; rwa [Nat.mul_one] at this
  have hla := sa _ hma
  have hlb := sb _ hmb
  have ca := hok _ (List.mem_append_left _ hma)
  have cb := hok _ (List.mem_append_right _ hmb)
  have hgk := hg κ κ' _ _ La[k].2 Lb[k].2 (hc.2 _ hma).1 (hc'.2 _ hmb).1 ca cb (by omega)
  have hcl := (combI_ok hf (chkI_norm ca).2.1 (chkI_norm cb).2.1).2.2
  have hLl : L.length ≤ La.length := by
    have := congrArg List.length hL
    simp at this
    omega
  clear hz hr1 hr2
  generalize La[k] = xa at hx g1 hla hgk hcl hnext hma
  generalize Lb[k] = xb at hy g2 hlb hgk hcl hnext hmb
  refine jk_seq ?_
  refine jk_region ?_
  refine zq_lt ?_
  refine jk_nil ?_
  refine jk_seq ?_
  refine jk_if_t rfl ?_
  refine jk_skip ?_
  refine jk_seq ?_
  refine jk_block ?_
  refine jk_seq ?_
  refine jk_region ?_
  refine zq_move ?_
  refine zq_assign ?_
  refine jk_nil ?_
  refine jk_seq ?_
  refine jk_draw (.q 0 (.q 1 (.q 2 (.q 3 (.q 4 (.q 5 (.q 6 (.q 7 (.q 8 (.l 9 .e (.q 10 (.q 11 (.q 12 (.q 13 (.q 14 .nil))))))))))))))) [] rfl (by kernel_rfl) Sel.nil ?_
  refine zd_move ?_
  refine zd_move ?_
  refine zd_move ?_
  refine zd_idx1 ?_
  refine zd_load ?_
  refine zd_move ?_
  refine zd_move ?_
  refine zd_idx1 ?_
  refine zd_load ?_
  refine dj_l (a_callM rfl hgk rfl rfl rdZ rfl rfl ?_)
  rintro _ _ ⟨σi, ⟨ui, rfl, hOi⟩, rfl⟩
  obtain ⟨pi, ci, rfl⟩ := hOi.form
  refine zd_move ?_
  refine zd_extract ?_
  refine zd_extract ?_
  refine zd_assign ?_
  refine zd_assign ?_
  refine dj_end ?_
  refine jk_seq ?_
  refine jk_seq ?_
  refine jk_region ?_
  refine zq_move ?_
  refine zq_neF ?_
  refine jk_nil ?_
  refine jk_if_f rfl ?_
  refine jk_skip ?_
  refine jk_region ?_
  refine zq_move ?_
  refine zq_move ?_
  refine zl_buildSlice ?_; rintro _ _ ⟨b, rfl, rfl⟩
  refine jk_op (l_append (by_ := 24) (s := 1) (news := [.slice pi (combI f xa.2 xb.2).length ci]) rfl rfl rfl rfl rfl rfl rfl hO takeZ (cells_own memZ) rfl (by (repeat (first | exact (fun v hv => absurd hv List.not_mem_nil) | (refine List.forall_mem_cons.2 ⟨?_, ?_⟩; (focus (first | exact rfl | assumption))))); first | done | fail) (by omega) (by simp only [maxLen]; omega) (by omega)) rfl rfl rfl ?_
  rintro u1 _ ⟨σ1, hO1, rfl⟩
  refine zq_assign ?_
  refine jk_nil ?_
  refine jk_blk ?_
  refine jk_region ?_
  refine zq_inc ?_
  refine zq_move ?_
  refine jk_nil ?_
  refine jk_join (ρ := σi) (σ := χ) takeZ takeZ (fun χ1 s1 s2 => ?_)
  refine jk_round (k + 1, L ++ [((pi, ci), combI f xa.2 xb.2)], u1, σ1, χ1) ⟨by dsimp only; omega, ?_, ?_, fun z hz => ?_⟩ (by dsimp only; omega) covZ selZ
  · dsimp only
    rw [hnext, ← hL]
    exact List.map_append
  · dsimp only
    rw [List.length_append, List.flatMap_append]
    exact hO1
  · rcases List.mem_append.1 hz with hz | hz
    · exact ⟨(hS z hz).1.mono s2, (hS z hz).2⟩
    · obtain rfl := List.mem_singleton.1 hz
      exact ⟨SlE.mono (show SpAt σi _ _ from hOi.at) s1, by dsimp only; omega⟩
theorem join_spec (γ κ γ' κ' : PH) (p p' : Option Addr) (kk kk' : Nat) (La Lb : List Sq) (hc : CutL γ κ (.slice p La.length kk) La) (hc' : CutL γ' κ' (.slice p' Lb.length kk') Lb) (lla : La.length ≤ 1000) (llb : Lb.length ≤ 1000) (sa : ∀ l ∈ La, l.2.length ≤ 500) (sb : ∀ l ∈ Lb, l.2.length ≤ 500) :
    Eng.Spec Try.prog (fv 14) [.slice p La.length kk, .slice p' Lb.length kk'] [γ, κ, γ', κ'] [] (fun r H' => ∃ (L : List Sq) (u : Value) (σ χ : PH), r = .tuple #[u, int (cmbE (cuL La) (cuL Lb))] ∧ H' = [σ, χ] ∧ cuL L = cmbC (fun x y => x || y) (cuL La) (cuL Lb) ∧ OwnS 56 1 u L.length (L.flatMap encQ) σ ∧ ∀ x ∈ L, SpAt χ (.slice x.1.1 x.2.length x.1.2) x.2 ∧ x.2.length ≤ 9223372036854775807) := by
  have h := certCombine_spec γ κ γ' κ' p p' kk kk' La Lb hc hc' lla llb sa sb 35 (fun x y => x || y) rfl ivUnion_spec
  refine spec_in (cap := []) Try.func14 rfl rfl Try.ntmps14 rfl (by (repeat (first | exact EnvA.nil EnvI.nil | apply EnvA.cons | apply EnvA.nil | exact EnvI.nil | apply EnvI.cons)); first | done | fail) (fun N β => ?_)
  refine jk_seq ?_
  refine jk_region ?_
  refine zq_assign ?_
  refine zq_assign ?_
  refine jk_nil ?_
  refine jk_seq ?_
  refine jk_region ?_
  refine zq_move ?_
  refine zq_move ?_
  refine jk_callH h rfl rfl Takes.nil rdZ rfl rfl ?_
  rintro _ _ ⟨L, u, σ, χ, rfl, rfl, h1, h2, h3⟩
  refine zq_extract ?_
  refine zq_extract ?_
  refine zq_assign ?_
  refine zq_assign ?_
  refine jk_nil ?_
  exact jk_ret_any (res2 rfl rfl rfl) (by (repeat (first | exact rs_nil | (refine rs_cons ?_ ?_; (focus ((repeat (first | exact .here | apply Mem.there | apply Take.there)); first | done | fail))) | exact fun ρ hρ => hρ | (intro ρ hρ; repeat (first | exact hρ | refine List.mem_cons_of_mem _ ?_)))); first | done | fail) selZ ⟨L, u, σ, χ, rfl, rfl, h1, h2, h3⟩
theorem meet_spec (γ κ γ' κ' : PH) (p p' : Option Addr) (kk kk' : Nat) (La Lb : List Sq) (hc : CutL γ κ (.slice p La.length kk) La) (hc' : CutL γ' κ' (.slice p' Lb.length kk') Lb) (lla : La.length ≤ 1000) (llb : Lb.length ≤ 1000) (sa : ∀ l ∈ La, l.2.length ≤ 500) (sb : ∀ l ∈ Lb, l.2.length ≤ 500) :
    Eng.Spec Try.prog (fv 15) [.slice p La.length kk, .slice p' Lb.length kk'] [γ, κ, γ', κ'] [] (fun r H' => ∃ (L : List Sq) (u : Value) (σ χ : PH), r = .tuple #[u, int (cmbE (cuL La) (cuL Lb))] ∧ H' = [σ, χ] ∧ cuL L = cmbC (fun x y => x && y) (cuL La) (cuL Lb) ∧ OwnS 56 1 u L.length (L.flatMap encQ) σ ∧ ∀ x ∈ L, SpAt χ (.slice x.1.1 x.2.length x.1.2) x.2 ∧ x.2.length ≤ 9223372036854775807) := by
  have h := certCombine_spec γ κ γ' κ' p p' kk kk' La Lb hc hc' lla llb sa sb 36 (fun x y => x && y) rfl ivInter_spec
  refine spec_in (cap := []) Try.func15 rfl rfl Try.ntmps15 rfl (by (repeat (first | exact EnvA.nil EnvI.nil | apply EnvA.cons | apply EnvA.nil | exact EnvI.nil | apply EnvI.cons)); first | done | fail) (fun N β => ?_)
  refine jk_seq ?_
  refine jk_region ?_
  refine zq_assign ?_
  refine zq_assign ?_
  refine jk_nil ?_
  refine jk_seq ?_
  refine jk_region ?_
  refine zq_move ?_
  refine zq_move ?_
  refine jk_callH h rfl rfl Takes.nil rdZ rfl rfl ?_
  rintro _ _ ⟨L, u, σ, χ, rfl, rfl, h1, h2, h3⟩
  refine zq_extract ?_
  refine zq_extract ?_
  refine zq_assign ?_
  refine zq_assign ?_
  refine jk_nil ?_
  exact jk_ret_any (res2 rfl rfl rfl) (by (repeat (first | exact rs_nil | (refine rs_cons ?_ ?_; (focus ((repeat (first | exact .here | apply Mem.there | apply Take.there)); first | done | fail))) | exact fun ρ hρ => hρ | (intro ρ hρ; repeat (first | exact hρ | refine List.mem_cons_of_mem _ ?_)))); first | done | fail) selZ ⟨L, u, σ, χ, rfl, rfl, h1, h2, h3⟩
end Go.Proofs.Ytjbebmealbnmgaa
/- Shipments and stocks, of the reference. -/
namespace Go.Proofs.Ytjbebmealbnmgaa
open Go.Eng Go.Step
set_option maxRecDepth 100000
set_option maxHeartbeats 4000000

theorem ship1_ok {cs : List Ct} {bs : List Bk} {d : Dm} {x : Sh} (h : ship1 cs bs d x = 0) : ∃ (nn : Nat) (c : Ct), x.c = nn ∧ cs[nn]? = some c ∧ ctOf cs x = c ∧ (d.r ≤ x.t ∧ c.s ≤ x.t ∧ x.t < c.e ∧ 1 ≤ x.n ∧ x.n ≤ c.r) ∧ x.t + 1 + c.g ≤ d.e ∧ arrOf cs x = x.t + 1 + c.g := by
  unfold ship1 at h
  by_cases h1 : x.c < 0 ∨ (cs.length : Int) ≤ x.c
  · rw [if_pos h1] at h; omega
  rw [if_neg h1] at h
  have hlt : x.c.toNat < cs.length := by omega
  rw [List.getElem?_eq_getElem hlt] at h
  dsimp only at h
  have hct : ctOf cs x = cs[x.c.toNat] := by unfold ctOf; rw [List.getD_eq_getElem?_getD, List.getElem?_eq_getElem hlt]; rfl
  by_cases h2 : x.t < d.r ∨ x.t < cs[x.c.toNat].s ∨ cs[x.c.toNat].e ≤ x.t ∨ x.n < 1 ∨ cs[x.c.toNat].r < x.n
  · rw [if_pos h2] at h; omega
  rw [if_neg h2] at h
  by_cases h3 : d.e < x.t + 1 + cs[x.c.toNat].g
  · rw [if_pos h3] at h; omega
  exact ⟨x.c.toNat, cs[x.c.toNat], by omega, List.getElem?_eq_getElem hlt, hct, by omega, by omega, by unfold arrOf; rw [hct]⟩
theorem shipE_bad {cs : List Ct} {bs : List Bk} {d : Dm} {l : List Sh} {i : Nat} {x : Sh} {e : Int} (h : l[i]? = some x) (h1 : ship1 cs bs d x = e) (h0 : e ≠ 0) : shipE cs bs d l i = e := by rw [shipE_at h, h1, if_pos h0]
theorem shipE_good {cs : List Ct} {bs : List Bk} {d : Dm} {l : List Sh} {i : Nat} {x : Sh} (h : l[i]? = some x) (h1 : ship1 cs bs d x = 0) : shipE cs bs d l i = if (l.take i).any (sameSl x) then 14 else 0 := by rw [shipE_at h, h1, if_neg (by simp)]
end Go.Proofs.Ytjbebmealbnmgaa
/- Stocks, of the reference. -/
namespace Go.Proofs.Ytjbebmealbnmgaa
open Go.Eng Go.Step
set_option maxRecDepth 100000
set_option maxHeartbeats 4000000

end Go.Proofs.Ytjbebmealbnmgaa
/- Flow, of the reference. -/
namespace Go.Proofs.Ytjbebmealbnmgaa
open Go.Eng Go.Step
set_option maxRecDepth 100000
set_option maxHeartbeats 4000000

theorem valid_ok {qs : List Int} {cs : List Ct} {bs : List Bk} {hs : List Hd} {d : Dm} (h : validT qs cs bs hs d = true) : (∀ c ∈ cs, chkCt c = 0 ∧ c.f < qs.length ∧ c.t < qs.length) ∧ bs.length ≤ 512 ∧ (∀ x ∈ hs, okHd qs.length x) ∧ hs.length ≤ 512 ∧ (1 ≤ qs.length ∧ qs.length ≤ 16) ∧ (∀ (j : Nat) (q : Int), qs[j]? = some q → 0 ≤ q ∧ q ≤ 1073741824) ∧ okDm qs.length d ∧ cs.length ≤ 64 := by
  obtain ⟨h1, h2⟩ := of_decide_eq_true h
  obtain ⟨p, b, hh⟩ := chkT_ok h1
  obtain ⟨k1, k2⟩ := chkPl_ct p
  obtain ⟨k3, k4⟩ := chkPl_quo p
  have k5 := chkB_ok b
  have k6 : (∀ x ∈ hs, okHd qs.length x) ∧ hs.length ≤ 512 := by
    unfold chkH at hh
    rw [if_neg (by simpa using p)] at hh
    by_cases c1 : 512 < hs.length
    · rw [if_pos c1] at hh; omega
    rw [if_neg c1] at hh
    by_cases c2 : firstE (hdE qs.length hs) hs.length = 0
    · have := hdE_ok c2
      rw [List.take_length] at this
      exact ⟨this, by omega⟩
    · rw [if_pos c2] at hh; exact absurd hh c2
  exact ⟨k2, k5.1, k6.1, k6.2, k3, k4, h2, k1⟩
theorem ships_ok {cs : List Ct} {bs : List Bk} {d : Dm} {l : List Sh} (h : firstE (shipE cs bs d l) l.length = 0) : ∀ x ∈ l, ship1 cs bs d x = 0 := fun x hx => by
  obtain ⟨i, hi, rfl⟩ := List.getElem_of_mem hx
  have h2 := firstE_zero h i hi
  rw [shipE_at (List.getElem?_eq_getElem hi)] at h2
  by_cases c : ship1 cs bs d l[i] = 0
  · exact c
  · rw [if_pos c] at h2; exact h2
end Go.Proofs.Ytjbebmealbnmgaa
/- Capacity of the document. -/
namespace Go.Proofs.Ytjbebmealbnmgaa
open Go.Eng Go.Step
set_option maxRecDepth 100000
set_option maxHeartbeats 4000000

theorem CutRow.open {ρ κ : PH} {p : Option Addr} {c : Cu} (h : CutRow ρ κ p c) (hp : 0 < c.length) : ∃ b o, p = some ⟨b, o, none⟩ ∧ ∀ (i : Nat) (l : List (Int × Int)), c[i]? = some l → ∃ q k, rdc ρ b (o + i) = some (.slice q l.length k) ∧ SpAt κ (.slice q l.length k) l ∧ RowsE encS 2 κ q l ∧ l.length ≤ 9223372036854775807 := by
  obtain ⟨b, o, _, _, e, _⟩ := h 0 _ (List.getElem?_eq_getElem hp)
  refine ⟨b, o, e, fun i l hl => ?_⟩
  obtain ⟨b2, o2, q, k, e2, h1, h2, h3⟩ := h i l hl
  rw [e] at e2
  simp only [Option.some.injEq, Addr.mk.injEq, and_true] at e2
  obtain ⟨rfl, rfl⟩ := e2
  obtain ⟨q2, k2, e3, hr⟩ := h2.val encS_len
  simp only [Value.slice.injEq] at e3
  obtain ⟨rfl, _, rfl⟩ := e3
  exact ⟨_, _, h1, h2, hr, h3⟩
end Go.Proofs.Ytjbebmealbnmgaa
/- Capacity. -/
namespace Go.Proofs.Ytjbebmealbnmgaa
open Go.Eng Go.Step
set_option maxRecDepth 100000
set_option maxHeartbeats 4000000

set_option maxHeartbeats 64000000 in
theorem certCap_spec {ρ τ σ υ : PH} {pq pc pb ph : Option Addr} {kq kc kb kh : Nat} {qs : List Int} {cs : List Ct} {bs : List Bk} {hs : List Hd} (hT : TbAt ρ τ σ υ pq pc pb ph kq kc kb kh qs cs bs hs) (γ κ : PH) (d : Dm) (p : Option Addr) (kk : Nat) (c : Cu) (hc : CutRow γ κ p c) (hcl : c.length ≤ 9223372036854775807) :
    Ans Try.prog (fv 13) [.agg #[.slice pq qs.length kq, .slice pc cs.length kc, .slice pb bs.length kb, .slice ph hs.length kh], .agg #[int d.s, int d.d, int d.v, int d.r, int d.e], .slice p c.length kk] [ρ, τ, σ, υ, γ, κ] (fun r => r = .tuple #[int (capR qs cs bs hs d c).1, int (capR qs cs bs hs d c).2]) := by
  refine spec_in (cap := []) Try.func13 rfl rfl Try.ntmps13 rfl (by (repeat (first | exact EnvA.nil EnvI.nil | apply EnvA.cons | apply EnvA.nil | exact EnvI.nil | apply EnvI.cons)); first | done | fail) (fun N β => ?_)
  refine jk_seq ?_
  refine jk_region ?_
  refine jk_op (l_boxS rfl) rfl rfl rfl ?_
  rintro _ _ ⟨b1, rfl, rfl⟩
  refine jk_freeze (ρ := sng b1 _) takeZ ?_
  have ct : RdN (sng b1 (.cells #[.slice pq qs.length kq, .slice pc cs.length kc, .slice pb bs.length kb, .slice ph hs.length kh] 29 (0, 0))) b1 0 [.slice pq qs.length kq, .slice pc cs.length kc, .slice pb bs.length kb, .slice ph hs.length kh] := rdN_sng (vs := [.slice pq qs.length kq, .slice pc cs.length kc, .slice pb bs.length kb, .slice ph hs.length kh])
  have ct0 : rdc (sng b1 (.cells #[.slice pq qs.length kq, .slice pc cs.length kc, .slice pb bs.length kb, .slice ph hs.length kh] 29 (0, 0))) b1 0 = some (.slice pq qs.length kq) := by rw [rdc_sng]; rfl
  have ct1 : rdc (sng b1 (.cells #[.slice pq qs.length kq, .slice pc cs.length kc, .slice pb bs.length kb, .slice ph hs.length kh] 29 (0, 0))) b1 1 = some (.slice pc cs.length kc) := by rw [rdc_sng]; rfl
  have ct2 : rdc (sng b1 (.cells #[.slice pq qs.length kq, .slice pc cs.length kc, .slice pb bs.length kb, .slice ph hs.length kh] 29 (0, 0))) b1 2 = some (.slice pb bs.length kb) := by rw [rdc_sng]; rfl
  have ct3 : rdc (sng b1 (.cells #[.slice pq qs.length kq, .slice pc cs.length kc, .slice pb bs.length kb, .slice ph hs.length kh] 29 (0, 0))) b1 3 = some (.slice ph hs.length kh) := by rw [rdc_sng]; rfl
  have ctp : RdP (sng b1 (.cells #[.slice pq qs.length kq, .slice pc cs.length kc, .slice pb bs.length kb, .slice ph hs.length kh] 29 (0, 0))) b1 0 [.slice pq qs.length kq, .slice pc cs.length kc] := rdP_sng (xs := [.slice pq qs.length kq, .slice pc cs.length kc, .slice pb bs.length kb, .slice ph hs.length kh]) rfl
  refine jk_op (l_boxS rfl) rfl rfl rfl ?_
  rintro _ _ ⟨b2, rfl, rfl⟩
  refine jk_freeze (ρ := sng b2 _) takeZ ?_
  have cd : RdN (sng b2 (.cells #[int d.s, int d.d, int d.v, int d.r, int d.e] 31 (0, 0))) b2 0 [int d.s, int d.d, int d.v, int d.r, int d.e] := rdN_sng (vs := [int d.s, int d.d, int d.v, int d.r, int d.e])
  have cd0 : rdc (sng b2 (.cells #[int d.s, int d.d, int d.v, int d.r, int d.e] 31 (0, 0))) b2 0 = some (int d.s) := by rw [rdc_sng]; rfl
  have cd1 : rdc (sng b2 (.cells #[int d.s, int d.d, int d.v, int d.r, int d.e] 31 (0, 0))) b2 1 = some (int d.d) := by rw [rdc_sng]; rfl
  have cd2 : rdc (sng b2 (.cells #[int d.s, int d.d, int d.v, int d.r, int d.e] 31 (0, 0))) b2 2 = some (int d.v) := by rw [rdc_sng]; rfl
  have cd3 : rdc (sng b2 (.cells #[int d.s, int d.d, int d.v, int d.r, int d.e] 31 (0, 0))) b2 3 = some (int d.r) := by rw [rdc_sng]; rfl
  have cd4 : rdc (sng b2 (.cells #[int d.s, int d.d, int d.v, int d.r, int d.e] 31 (0, 0))) b2 4 = some (int d.e) := by rw [rdc_sng]; rfl
  refine zl_box1 ?_; rintro _ _ ⟨b, rfl, rfl⟩
  refine zq_assign ?_
  refine zq_assign ?_
  refine jk_nil ?_
  refine jk_seq ?_
  refine jk_seq ?_
  refine jk_region ?_
  refine zq_loadS ?_
  refine zq_loadS ?_
  revert b; intro b3
  refine jk_freeze (ρ := sng b3 _) takeZ ?_
  have cc : rdc (sng b3 (.cells #[.slice p c.length kk] 39 (0, 0))) b3 0 = some (.slice p c.length kk) := by rw [rdc_sng]; rfl
  refine jk_call (certCheck_spec hT d) rfl rfl rdZ rfl rfl ?_
  rintro _ rfl
  cases hval : validT qs cs bs hs d with
  | false =>
    have hR : capR qs cs bs hs d c = (0, 1) := by unfold capR; rw [if_pos hval]
    rw [hR, if_neg (by simp)]
    refine zq_assign ?_
    refine jk_nil ?_
    refine jk_seq ?_
    refine jk_region ?_
    refine zq_move ?_
    refine zq_ne ?_
    refine jk_nil ?_
    refine jk_if_t rfl ?_
    refine jk_seq ?_
    refine jk_region ?_
    refine zq_move ?_
    refine zq_assign ?_
    refine zq_assign ?_
    refine jk_nil ?_
    exact jk_ret_any (res2 rfl rfl rfl) (by (repeat (first | exact rs_nil | (refine rs_cons ?_ ?_; (focus ((repeat (first | exact .here | apply Mem.there | apply Take.there)); first | done | fail))) | exact fun ρ hρ => hρ | (intro ρ hρ; repeat (first | exact hρ | refine List.mem_cons_of_mem _ ?_)))); first | done | fail) selZ ⟨rfl, rfl⟩
  | true =>
  rw [if_pos rfl]
  obtain ⟨hcs0, hbl, hok, hhl, hql, hquo, hdm, hcsl⟩ := valid_ok hval
  have hcs : ∀ c ∈ cs, chkCt c = 0 := fun c hc => (hcs0 c hc).1
  have hdm2 : 0 ≤ d.r ∧ d.r < d.e ∧ d.e ≤ 1099511627776 ∧ d.e - d.r ≤ 100 := hdm.2.2.2.2
  by_cases hlen : c.length = qs.length
  rotate_left
  · have hR : capR qs cs bs hs d c = (0, 10) := by unfold capR; rw [if_neg (by rw [hval]; simp), if_pos hlen]
    rw [hR]
    refine zq_assign ?_
    refine jk_nil ?_
    refine jk_seq ?_
    refine jk_region ?_
    refine zq_move ?_
    refine zq_neF ?_
    refine jk_nil ?_
    refine jk_if_f rfl ?_
    refine jk_skip ?_
    refine jk_seq ?_
    refine jk_seq ?_
    refine jk_region ?_
    refine zq_load ?_
    refine zq_len ?_
    refine zq_fld0 ?_
    refine zq_fld0 ?_
    refine zq_load ?_
    refine zq_len ?_
    refine zq_ne ?_
    refine jk_nil ?_
    refine jk_if_t rfl ?_
    refine jk_seq ?_
    refine jk_region ?_
    refine zq_assign ?_
    refine zq_assign ?_
    refine jk_nil ?_
    exact jk_ret_any (res2 rfl rfl rfl) (by (repeat (first | exact rs_nil | (refine rs_cons ?_ ?_; (focus ((repeat (first | exact .here | apply Mem.there | apply Take.there)); first | done | fail))) | exact fun ρ hρ => hρ | (intro ρ hρ; repeat (first | exact hρ | refine List.mem_cons_of_mem _ ?_)))); first | done | fail) selZ ⟨rfl, rfl⟩
  have hcr := hc
  obtain ⟨bp, op, rfl, hrow⟩ := hc.open (by omega)
  refine zq_assign ?_
  refine jk_nil ?_
  refine jk_seq ?_
  refine jk_region ?_
  refine zq_move ?_
  refine zq_neF ?_
  refine jk_nil ?_
  refine jk_if_f rfl ?_
  refine jk_skip ?_
  refine jk_seq ?_
  refine jk_seq ?_
  refine jk_region ?_
  refine zq_load ?_
  refine zq_len ?_
  refine zq_fld0 ?_
  refine zq_fld0 ?_
  refine zq_load ?_
  refine zq_len ?_
  refine zq_neF ?_
  refine jk_nil ?_
  refine jk_if_f rfl ?_
  refine jk_skip ?_
  refine jk_seq ?_
  refine jk_seq ?_
  refine jk_region ?_
  refine zq_load ?_
  refine zq_len ?_
  refine zq_move ?_
  refine jk_nil ?_
  refine jk_block ?_
  refine jk_loop [3, 4, 5, 32, 33] (0 : Nat) (fun i => i ≤ c.length ∧ (c.take i).any (badL2 d) = false) (fun i => [(34, int i)]) (fun _ => []) (fun i => c.length - i) pickZ ⟨by omega, rfl⟩ covZ selZ ?_
  rintro i ⟨hi, hI⟩
  by_cases hlt : i < c.length
  · have hx := List.getElem?_eq_getElem hlt
    have hnx := any_take (badL2 d) hlt
    rw [hI, Bool.false_or] at hnx
    obtain ⟨q, k, g, hsp, hr, hll⟩ := hrow i _ hx
    have hyes : badL2 d c[i] = true → capR qs cs bs hs d c = (0, 2) := fun h => by
      unfold capR
      rw [if_neg (by rw [hval]; simp), if_neg (fun h => h hlen), if_pos (List.any_eq_true.2 ⟨_, List.getElem_mem hlt, h⟩)]
    generalize c[i] = l at hnx g hsp hr hll hyes
    have hck := ivCheck_spec κ _ l hsp hll
    unfold badL2 at hyes hnx
    refine jk_seq ?_
    refine jk_region ?_
    refine zq_lt ?_
    refine jk_nil ?_
    refine jk_seq ?_
    refine jk_if_t rfl ?_
    refine jk_skip ?_
    refine jk_seq ?_
    refine jk_block ?_
    refine jk_seq ?_
    refine jk_region ?_
    refine zq_idx1 ?_
    refine zq_load ?_
    refine zq_assign ?_
    refine jk_nil ?_
    refine jk_seq ?_
    refine jk_draw (.q 0 (.l 1 .e (.q 2 (.q 3 (.q 4 (.q 5 (.q 6 (.q 7 (.q 8 (.q 9 (.q 10 (.q 11 (.q 12 (.q 13 (.q 14 (.q 15 (.q 16 (.q 17 (.q 18 (.q 19 (.q 20 (.q 21 (.q 22 (.q 23 (.q 24 (.q 25 (.q 26 (.q 27 (.q 28 (.q 29 .nil)))))))))))))))))))))))))))))) [] rfl (by kernel_rfl) selZ ?_
    refine zd_move ?_
    refine dj_l (a_call rfl hck rfl rfl rdZ rfl rfl ?_)
    rintro _ rfl
    by_cases h0 : chkI l = 0
    rotate_left
    · rw [hyes (by rw [decide_eq_true h0]; rfl)]
      generalize chkI l = z at h0
      refine zd_ne ?_
      refine zd_move ?_
      refine dj_pass rfl rfl rfl rfl rfl ?_
      refine dj_pass rfl rfl rfl rfl rfl ?_
      refine dj_pass rfl rfl rfl rfl rfl ?_
      refine dj_pass rfl rfl rfl rfl rfl ?_
      refine dj_pass rfl rfl rfl rfl rfl ?_
      refine dj_pass rfl rfl rfl rfl rfl ?_
      refine dj_pass rfl rfl rfl rfl rfl ?_
      refine dj_pass rfl rfl rfl rfl rfl ?_
      refine dj_pass rfl rfl rfl rfl rfl ?_
      refine dj_pass rfl rfl rfl rfl rfl ?_
      refine dj_pass rfl rfl rfl rfl rfl ?_
      refine dj_pass rfl rfl rfl rfl rfl ?_
      refine dj_pass rfl rfl rfl rfl rfl ?_
      refine dj_pass rfl rfl rfl rfl rfl ?_
      refine dj_pass rfl rfl rfl rfl rfl ?_
      refine dj_pass rfl rfl rfl rfl rfl ?_
      refine dj_pass rfl rfl rfl rfl rfl ?_
      refine dj_pass rfl rfl rfl rfl rfl ?_
      refine dj_pass rfl rfl rfl rfl rfl ?_
      refine dj_pass rfl rfl rfl rfl rfl ?_
      refine dj_pass rfl rfl rfl rfl rfl ?_
      refine dj_pass rfl rfl rfl rfl rfl ?_
      refine dj_pass rfl rfl rfl rfl rfl ?_
      refine dj_pass rfl rfl rfl rfl rfl ?_
      refine dj_pass rfl rfl rfl rfl rfl ?_
      refine zd_pick_t ?_
      refine dj_end ?_
      refine jk_if_t rfl ?_
      refine jk_seq ?_
      refine jk_region ?_
      refine zq_assign ?_
      refine zq_assign ?_
      refine jk_nil ?_
      exact jk_ret_any (res2 rfl rfl rfl) (by (repeat (first | exact rs_nil | (refine rs_cons ?_ ?_; (focus ((repeat (first | exact .here | apply Mem.there | apply Take.there)); first | done | fail))) | exact fun ρ hρ => hρ | (intro ρ hρ; repeat (first | exact hρ | refine List.mem_cons_of_mem _ ?_)))); first | done | fail) selZ ⟨rfl, rfl⟩
    by_cases hz : l.length = 0
    · obtain rfl := List.eq_nil_of_length_eq_zero hz
      rw [h0, List.any_nil] at hnx
      rw [h0]
      refine zd_neF ?_
      refine zd_move ?_
      refine zd_move ?_
      refine zd_len ?_
      refine zd_gtF ?_
      refine zd_move ?_
      refine dj_pass rfl rfl rfl rfl rfl ?_
      refine dj_pass rfl rfl rfl rfl rfl ?_
      refine dj_pass rfl rfl rfl rfl rfl ?_
      refine dj_pass rfl rfl rfl rfl rfl ?_
      refine dj_pass rfl rfl rfl rfl rfl ?_
      refine dj_pass rfl rfl rfl rfl rfl ?_
      refine dj_pass rfl rfl rfl rfl rfl ?_
      refine dj_pass rfl rfl rfl rfl rfl ?_
      refine dj_pass rfl rfl rfl rfl rfl ?_
      refine dj_pass rfl rfl rfl rfl rfl ?_
      refine dj_pass rfl rfl rfl rfl rfl ?_
      refine dj_pass rfl rfl rfl rfl rfl ?_
      refine dj_pass rfl rfl rfl rfl rfl ?_
      refine dj_pass rfl rfl rfl rfl rfl ?_
      refine dj_pass rfl rfl rfl rfl rfl ?_
      refine dj_pass rfl rfl rfl rfl rfl ?_
      refine dj_pass rfl rfl rfl rfl rfl ?_
      refine dj_pass rfl rfl rfl rfl rfl ?_
      refine dj_pass rfl rfl rfl rfl rfl ?_
      refine dj_pass rfl rfl rfl rfl rfl ?_
      refine zd_pick_f ?_
      refine zd_pick_f ?_
      refine dj_end ?_
      refine jk_if_f rfl ?_
      refine jk_skip ?_
      refine jk_blk ?_
      refine jk_region ?_
      refine zq_inc ?_
      refine zq_move ?_
      refine jk_nil ?_
      exact jk_round (i + 1) ⟨by omega, hnx⟩ (by omega) covZ selZ
    have hen := badS_ends h0 (by omega) d
    rw [h0]
    rw [h0, hen] at hnx hyes
    obtain ⟨b4, o4, rfl, hrd, g0, g1⟩ := spRow hr (List.getElem?_eq_getElem (show 0 < l.length by omega))
    obtain ⟨_, _, e, _, p0, p1⟩ := spRow hr (List.getElem?_eq_getElem (show l.length - 1 < l.length by omega))
    simp only [Option.some.injEq, Addr.mk.injEq, and_true] at e
    obtain ⟨rfl, rfl⟩ := e
    generalize l[0] = y at hrd g0 g1 hnx hyes
    generalize l[l.length - 1] = y2 at p0 p1 hnx hyes
    by_cases k1 : y.1 < d.r
    · rw [hyes (by rw [decide_eq_true k1]; simp)]
      refine zd_neF ?_
      refine zd_move ?_
      refine zd_move ?_
      refine zd_len ?_
      refine zd_gt ?_
      refine zd_move ?_
      refine zd_move ?_
      refine zd_idxZ ?_
      refine zd_fldZ ?_
      refine zd_load ?_
      refine zd_fld0 ?_
      refine zd_load ?_
      refine zd_lt ?_
      refine zd_move ?_
      refine dj_pass rfl rfl rfl rfl rfl ?_
      refine dj_pass rfl rfl rfl rfl rfl ?_
      refine dj_pass rfl rfl rfl rfl rfl ?_
      refine dj_pass rfl rfl rfl rfl rfl ?_
      refine dj_pass rfl rfl rfl rfl rfl ?_
      refine dj_pass rfl rfl rfl rfl rfl ?_
      refine dj_pass rfl rfl rfl rfl rfl ?_
      refine dj_pass rfl rfl rfl rfl rfl ?_
      refine dj_pass rfl rfl rfl rfl rfl ?_
      refine dj_pass rfl rfl rfl rfl rfl ?_
      refine dj_pass rfl rfl rfl rfl rfl ?_
      refine zd_pick_t ?_
      refine zd_pick_t ?_
      refine zd_pick_f ?_
      refine dj_end ?_
      refine jk_if_t rfl ?_
      refine jk_seq ?_
      refine jk_region ?_
      refine zq_assign ?_
      refine zq_assign ?_
      refine jk_nil ?_
      exact jk_ret_any (res2 rfl rfl rfl) (by (repeat (first | exact rs_nil | (refine rs_cons ?_ ?_; (focus ((repeat (first | exact .here | apply Mem.there | apply Take.there)); first | done | fail))) | exact fun ρ hρ => hρ | (intro ρ hρ; repeat (first | exact hρ | refine List.mem_cons_of_mem _ ?_)))); first | done | fail) selZ ⟨rfl, rfl⟩
    by_cases k2 : d.e + 1 < y2.2
    · rw [hyes (by rw [decide_eq_true k2]; simp)]
      refine zd_neF ?_
      refine zd_move ?_
      refine zd_move ?_
      refine zd_len ?_
      refine zd_gt ?_
      refine zd_move ?_
      refine zd_move ?_
      refine zd_idxZ ?_
      refine zd_fldZ ?_
      refine zd_load ?_
      refine zd_fld0 ?_
      refine zd_load ?_
      refine zd_ltF ?_
      refine zd_move ?_
      refine zd_move ?_
      refine zd_move ?_
      refine zd_len ?_
      refine zd_sub_nat ?_
      refine zd_idxN ?_
      refine zd_fld ?_
      refine zd_load ?_
      refine zd_fld0 ?_
      refine zd_load ?_
      refine zd_add ?_
      refine zd_gt ?_
      refine zd_pick_f ?_
      refine zd_pick_t ?_
      refine zd_pick_f ?_
      refine dj_end ?_
      refine jk_if_t rfl ?_
      refine jk_seq ?_
      refine jk_region ?_
      refine zq_assign ?_
      refine zq_assign ?_
      refine jk_nil ?_
      exact jk_ret_any (res2 rfl rfl rfl) (by (repeat (first | exact rs_nil | (refine rs_cons ?_ ?_; (focus ((repeat (first | exact .here | apply Mem.there | apply Take.there)); first | done | fail))) | exact fun ρ hρ => hρ | (intro ρ hρ; repeat (first | exact hρ | refine List.mem_cons_of_mem _ ?_)))); first | done | fail) selZ ⟨rfl, rfl⟩
    rw [decide_eq_false k1, decide_eq_false k2] at hnx
    refine zd_neF ?_
    refine zd_move ?_
    refine zd_move ?_
    refine zd_len ?_
    refine zd_gt ?_
    refine zd_move ?_
    refine zd_move ?_
    refine zd_idxZ ?_
    refine zd_fldZ ?_
    refine zd_load ?_
    refine zd_fld0 ?_
    refine zd_load ?_
    refine zd_ltF ?_
    refine zd_move ?_
    refine zd_move ?_
    refine zd_move ?_
    refine zd_len ?_
    refine zd_sub_nat ?_
    refine zd_idxN ?_
    refine zd_fld ?_
    refine zd_load ?_
    refine zd_fld0 ?_
    refine zd_load ?_
    refine zd_add ?_
    refine zd_gtF ?_
    refine zd_pick_f ?_
    refine zd_pick_t ?_
    refine zd_pick_f ?_
    refine dj_end ?_
    refine jk_if_f rfl ?_
    refine jk_skip ?_
    refine jk_blk ?_
    refine jk_region ?_
    refine zq_inc ?_
    refine zq_move ?_
    refine jk_nil ?_
    exact jk_round (i + 1) ⟨by omega, hnx⟩ (by omega) covZ selZ
  have hie : i = c.length := by omega
  subst hie
  rw [List.take_length] at hI
  have hR0 : capR qs cs bs hs d c = if hasI (cuAt c d.s) d.r = false ∨ hasI (cuAt c d.d) d.e = true then (0, 24) else (capSum qs cs bs hs d c, 0) := by
    unfold capR
    rw [if_neg (by rw [hval]; simp), if_neg (fun h => h hlen), if_neg (by rw [hI]; simp)]
  clear hI
  have hdd0 := hdm.1
  have hdd1 := hdm.2.1
  obtain ⟨ds, hds⟩ : ∃ n : Nat, d.s = n := ⟨d.s.toNat, by omega⟩
  obtain ⟨dd, hdd⟩ : ∃ n : Nat, d.d = n := ⟨d.d.toNat, by omega⟩
  have hxs := List.getElem?_eq_getElem (show ds < c.length by omega)
  have hxd := List.getElem?_eq_getElem (show dd < c.length by omega)
  obtain ⟨q1, k1, gs, hs1, _, hl1⟩ := hrow ds _ hxs
  obtain ⟨q2, k2, gd, hs2, _, hl2⟩ := hrow dd _ hxd
  have hh1 := ivHas_spec κ _ _ d.r hs1 hl1
  have hh2 := ivHas_spec κ _ _ d.e hs2 hl2
  have e1 : cuAt c d.s = c[ds] := by rw [hds]; exact cuAt_get hxs
  have e2 : cuAt c d.d = c[dd] := by rw [hdd]; exact cuAt_get hxd
  rw [e1, e2] at hR0
  have cdn0 : rdc (sng b2 (.cells #[int d.s, int d.d, int d.v, int d.r, int d.e] 31 (0, 0))) b2 0 = some (int ds) := by rw [rdc_sng, ← hds]; rfl
  have cdn1 : rdc (sng b2 (.cells #[int d.s, int d.d, int d.v, int d.r, int d.e] 31 (0, 0))) b2 1 = some (int dd) := by rw [rdc_sng, ← hdd]; rfl
  clear cd0 cd1
  refine jk_seq ?_
  refine jk_region ?_
  refine zq_ltF ?_
  refine jk_nil ?_
  refine jk_seq ?_
  refine jk_if_f rfl ?_
  refine jk_exit rfl ?_
  refine jk_seq ?_
  refine jk_seq ?_
  refine jk_draw (.q 0 (.q 1 (.q 2 (.q 3 (.q 4 (.q 5 (.q 6 (.l 7 .e (.q 8 (.q 9 (.q 10 (.q 11 (.q 12 (.q 13 (.q 14 (.q 15 (.q 16 (.l 17 .e (.q 18 .nil))))))))))))))))))) [] rfl (by kernel_rfl) selZ ?_
  refine zd_load ?_
  refine zd_fld0 ?_
  refine zd_load ?_
  refine zd_idx1 ?_
  refine zd_load ?_
  refine zd_fld0 ?_
  refine zd_load ?_
  refine dj_l (a_call rfl hh1 rfl rfl rdZ rfl rfl ?_)
  rintro _ rfl
  cases hb1 : hasI c[ds] d.r with
  | false =>
    rw [hR0, if_pos (.inl hb1)]
    refine dj_replan (.q 8 (.q 9 (.q 10 (.q 11 (.q 12 (.q 13 (.q 14 (.q 15 (.q 16 (.q 17 (.q 18 .nil))))))))))) (by kernel_rfl) ?_
    refine zd_not ?_
    refine zd_move ?_
    refine dj_pass rfl rfl rfl rfl rfl ?_
    refine dj_pass rfl rfl rfl rfl rfl ?_
    refine dj_pass rfl rfl rfl rfl rfl ?_
    refine dj_pass rfl rfl rfl rfl rfl ?_
    refine dj_pass rfl rfl rfl rfl rfl ?_
    refine dj_pass rfl rfl rfl rfl rfl ?_
    refine dj_pass rfl rfl rfl rfl rfl ?_
    refine dj_pass rfl rfl rfl rfl rfl ?_
    refine zd_pick_t ?_
    refine dj_end ?_
    refine jk_if_t rfl ?_
    refine jk_seq ?_
    refine jk_region ?_
    refine zq_assign ?_
    refine zq_assign ?_
    refine jk_nil ?_
    exact jk_ret_any (res2 rfl rfl rfl) (by (repeat (first | exact rs_nil | (refine rs_cons ?_ ?_; (focus ((repeat (first | exact .here | apply Mem.there | apply Take.there)); first | done | fail))) | exact fun ρ hρ => hρ | (intro ρ hρ; repeat (first | exact hρ | refine List.mem_cons_of_mem _ ?_)))); first | done | fail) selZ ⟨rfl, rfl⟩
  | true =>
  refine zd_not ?_
  refine zd_move ?_
  refine zd_load ?_
  refine zd_fld0 ?_
  refine zd_load ?_
  refine zd_idx1 ?_
  refine zd_load ?_
  refine zd_fld0 ?_
  refine zd_load ?_
  refine dj_l (a_call rfl hh2 rfl rfl rdZ rfl rfl ?_)
  rintro _ rfl
  cases hb2 : hasI c[dd] d.e with
  | true =>
    rw [hR0, if_pos (.inr hb2)]
    refine zd_pick_f ?_
    refine dj_end ?_
    refine jk_if_t rfl ?_
    refine jk_seq ?_
    refine jk_region ?_
    refine zq_assign ?_
    refine zq_assign ?_
    refine jk_nil ?_
    exact jk_ret_any (res2 rfl rfl rfl) (by (repeat (first | exact rs_nil | (refine rs_cons ?_ ?_; (focus ((repeat (first | exact .here | apply Mem.there | apply Take.there)); first | done | fail))) | exact fun ρ hρ => hρ | (intro ρ hρ; repeat (first | exact hρ | refine List.mem_cons_of_mem _ ?_)))); first | done | fail) selZ ⟨rfl, rfl⟩
  | false =>
  rw [if_neg (by rw [hb1, hb2]; simp)] at hR0
  rw [hR0]
  clear hh1 hh2 cdn0 cdn1 gs gd e1 e2 hR0
  have cd0 : rdc (sng b2 (.cells #[int d.s, int d.d, int d.v, int d.r, int d.e] 31 (0, 0))) b2 0 = some (int d.s) := by rw [rdc_sng]; rfl
  have cd1 : rdc (sng b2 (.cells #[int d.s, int d.d, int d.v, int d.r, int d.e] 31 (0, 0))) b2 1 = some (int d.d) := by rw [rdc_sng]; rfl
  have hwb := waitC_bd hquo hok hhl d c
  have hcb := conC_bd (fun x hx => by have := (chkCt_all (hcs x hx)).2.2.2.1; omega) bs d c
  have hWb := fun n => sumT_bd (f := fun n => sumU (waitC qs hs d c n) d.r d.e) (B := 1099511627776 * 100) (fun n => sumU_bd (by omega) (hwb n) hdm2.2.2.2) 0 n
  have hCb := fun n => sumT_bd (f := fun n => sumU (conC cs bs d c n) d.r d.e) (B := 1000 * 100) (fun n => sumU_bd (by omega) (hcb n) hdm2.2.2.2) 0 n
  have hcross := fun bs' f t a u w S => cross_spec γ κ b3 bs' _ kk c hcr f t a u w S
  refine zd_pick_f ?_
  refine dj_end ?_
  refine jk_if_f rfl ?_
  refine jk_skip ?_
  refine jk_seq ?_
  refine jk_region ?_
  refine zl_alloc1 ?_; rintro _ _ ⟨b, rfl, rfl⟩
  refine zs_storeL ?_; rintro _ _ ⟨rfl, rfl⟩
  refine jk_nil ?_
  refine jk_seq ?_
  refine jk_region ?_
  refine zq_makeFunc ?_
  refine zq_assign ?_
  refine jk_nil ?_
  refine jk_seq ?_
  refine jk_seq ?_
  refine jk_region ?_
  refine zq_load ?_
  refine zq_len ?_
  refine zq_move ?_
  refine jk_nil ?_
  refine jk_block ?_
  revert b; intro b9
  refine jk_loop [3, 4, 5, 11, 12, 89, 90] (X := Nat × Int) (0, 0) (fun x => x.1 ≤ c.length ∧ x.2 = capW qs hs d c x.1) (fun x => [(91, int x.1)]) (fun x => [sng b9 (.cells #[int x.2] 3 (0, 0))]) (fun x => c.length - x.1) pickZ ⟨by dsimp only; omega, rfl⟩ covZ selZ ?_
  rintro ⟨n, S⟩ ⟨hn, hS⟩
  dsimp only at hn hS ⊢
  have hSb := hWb n
  rw [show sumT (fun n => sumU (waitC qs hs d c n) d.r d.e) 0 n = S from hS.symm] at hSb
  by_cases hnq : n < c.length
  · have hnq2 : n < qs.length := by omega
    have hQx := List.getElem?_eq_getElem hnq2
    have hrm := fun t => certRoom_spec hT n t _ hQx (hquo n _ hQx) hok (by omega)
    refine jk_seq ?_
    refine jk_region ?_
    refine zq_lt ?_
    refine jk_nil ?_
    refine jk_seq ?_
    refine jk_if_t rfl ?_
    refine jk_skip ?_
    refine jk_seq ?_
    refine jk_block ?_
    refine jk_seq ?_
    refine jk_region ?_
    refine zq_move ?_
    refine zq_assign ?_
    refine jk_nil ?_
    refine jk_seq ?_
    refine jk_region ?_
    refine zq_fld0 ?_
    refine zq_load ?_
    refine zq_assign ?_
    refine jk_nil ?_
    refine jk_block ?_
    refine jk_loop [3, 4, 5, 11, 12, 13, 89, 90, 91] (X := Int × Int) (d.r, S) (fun x => d.r ≤ x.1 ∧ x.1 ≤ d.e ∧ x.2 = S + sumU (waitC qs hs d c n) d.r x.1) (fun x => [(14, int x.1)]) (fun x => [sng b9 (.cells #[int x.2] 3 (0, 0))]) (fun x => (d.e - x.1).toNat) pickZ ⟨by dsimp only; omega, by dsimp only; omega, by dsimp only; rw [sumU_self]; omega⟩ covZ selZ ?_
    rintro ⟨t, S2⟩ ⟨ht1, ht2, hS2⟩
    dsimp only at ht1 ht2 hS2 ⊢
    have hb2 := sumU_bd (a := d.r) (t := t) (by omega) (hwb n) (by omega)
    by_cases ht : t < d.e
    · have hsx := sumU_succ (f := waitC qs hs d c n) ht1
      have hfe : waitC qs hs d c n t = if crossB c n t n (t + 1) then roomT qs hs d n t else 0 := rfl
      have hst := stored_bd (n := n) (t := t) hok
      have hqb := hquo n _ hQx
      have hrt := hrm t
      have hrT : roomT qs hs d n t = if (n : Int) = d.s ∨ (n : Int) = d.d then 1099511627776 else qs[n] - Step.stored hs n t := by
        unfold roomT
        rw [Int.toNat_natCast, List.getD_eq_getElem?_getD, hQx, Option.getD_some]
      by_cases hsd : (n : Int) = d.s ∨ (n : Int) = d.d
      · rw [if_pos hsd] at hrT
        rw [hrT] at hfe
        have hcx := hcross b9 n n t (t + 1) 1099511627776 S2 hnq hnq ⟨by omega, by omega⟩
        rw [← hfe] at hcx
        have hsd2 : ¬ ((n : Int) ≠ d.s ∧ (n : Int) ≠ d.d) := by omega
        by_cases hs1 : (n : Int) = d.s
        · refine jk_seq ?_
          refine jk_seq ?_
          refine jk_region ?_
          refine zq_move ?_
          refine zq_fld0 ?_
          refine zq_load ?_
          refine zq_lt ?_
          refine jk_nil ?_
          refine jk_if_t rfl ?_
          refine jk_skip ?_
          refine jk_seq ?_
          refine jk_block ?_
          refine jk_seq ?_
          refine jk_region ?_
          refine zq_assign ?_
          refine jk_nil ?_
          refine jk_seq ?_
          refine jk_seq ?_
          refine jk_region ?_
          refine zq_move ?_
          refine zq_fld0 ?_
          refine zq_load ?_
          refine zq_neF ?_
          refine zq_move ?_
          refine jk_pass rfl rfl rfl ?_
          refine jk_pass rfl rfl rfl ?_
          refine jk_pass rfl rfl rfl ?_
          refine jk_pass rfl rfl rfl ?_
          refine zq_pick_f ?_
          refine jk_nil ?_
          refine jk_if_f rfl ?_
          refine jk_skip ?_
          refine jk_region ?_
          refine zq_move ?_
          refine zq_move ?_
          refine zq_move ?_
          refine zq_move ?_
          refine zq_move ?_
          refine zq_add ?_
          refine zq_move ?_
          refine jk_callH hcx rfl rfl Takes.all rdZ rfl rfl ?_
          rintro _ _ ⟨rfl, rfl⟩
          refine jk_nil ?_
          refine jk_blk ?_
          refine jk_region ?_
          refine zq_move ?_
          refine zq_add ?_
          refine zq_assign ?_
          refine jk_nil ?_
          exact jk_round (t + 1, S2 + waitC qs hs d c n t) ⟨by dsimp only; omega, by dsimp only; omega, by dsimp only; omega⟩ (by dsimp only; omega) covZ selZ
        · have hs2 : (n : Int) = d.d := by omega
          refine jk_seq ?_
          refine jk_seq ?_
          refine jk_region ?_
          refine zq_move ?_
          refine zq_fld0 ?_
          refine zq_load ?_
          refine zq_lt ?_
          refine jk_nil ?_
          refine jk_if_t rfl ?_
          refine jk_skip ?_
          refine jk_seq ?_
          refine jk_block ?_
          refine jk_seq ?_
          refine jk_region ?_
          refine zq_assign ?_
          refine jk_nil ?_
          refine jk_seq ?_
          refine jk_seq ?_
          refine jk_region ?_
          refine zq_move ?_
          refine zq_fld0 ?_
          refine zq_load ?_
          refine zq_ne ?_
          refine zq_move ?_
          refine zq_move ?_
          refine zq_fld0 ?_
          refine zq_load ?_
          refine zq_neF ?_
          refine zq_pick_t ?_
          refine jk_nil ?_
          refine jk_if_f rfl ?_
          refine jk_skip ?_
          refine jk_region ?_
          refine zq_move ?_
          refine zq_move ?_
          refine zq_move ?_
          refine zq_move ?_
          refine zq_move ?_
          refine zq_add ?_
          refine zq_move ?_
          refine jk_callH hcx rfl rfl Takes.all rdZ rfl rfl ?_
          rintro _ _ ⟨rfl, rfl⟩
          refine jk_nil ?_
          refine jk_blk ?_
          refine jk_region ?_
          refine zq_move ?_
          refine zq_add ?_
          refine zq_assign ?_
          refine jk_nil ?_
          exact jk_round (t + 1, S2 + waitC qs hs d c n t) ⟨by dsimp only; omega, by dsimp only; omega, by dsimp only; omega⟩ (by dsimp only; omega) covZ selZ
      · rw [if_neg hsd] at hrT
        rw [hrT] at hfe
        have hcx := hcross b9 n n t (t + 1) (qs[n] - Step.stored hs n t) S2 hnq hnq ⟨by omega, by omega⟩
        rw [← hfe] at hcx
        have hs1 : ¬ (n : Int) = d.s := by omega
        have hs2 : ¬ (n : Int) = d.d := by omega
        refine jk_seq ?_
        refine jk_seq ?_
        refine jk_region ?_
        refine zq_move ?_
        refine zq_fld0 ?_
        refine zq_load ?_
        refine zq_lt ?_
        refine jk_nil ?_
        refine jk_if_t rfl ?_
        refine jk_skip ?_
        refine jk_seq ?_
        refine jk_block ?_
        refine jk_seq ?_
        refine jk_region ?_
        refine zq_assign ?_
        refine jk_nil ?_
        refine jk_seq ?_
        refine jk_seq ?_
        refine jk_region ?_
        refine zq_move ?_
        refine zq_fld0 ?_
        refine zq_load ?_
        refine zq_ne ?_
        refine zq_move ?_
        refine zq_move ?_
        refine zq_fld0 ?_
        refine zq_load ?_
        refine zq_ne ?_
        refine zq_pick_t ?_
        refine jk_nil ?_
        refine jk_if_t rfl ?_
        refine jk_region ?_
        refine zq_loadS ?_
        refine zq_move ?_
        refine zq_move ?_
        refine jk_call hrt rfl rfl rdZ rfl rfl ?_
        rintro _ rfl
        refine zq_assign ?_
        refine jk_nil ?_
        refine jk_region ?_
        refine zq_move ?_
        refine zq_move ?_
        refine zq_move ?_
        refine zq_move ?_
        refine zq_move ?_
        refine zq_add ?_
        refine zq_move ?_
        refine jk_callH hcx rfl rfl Takes.all rdZ rfl rfl ?_
        rintro _ _ ⟨rfl, rfl⟩
        refine jk_nil ?_
        refine jk_blk ?_
        refine jk_region ?_
        refine zq_move ?_
        refine zq_add ?_
        refine zq_assign ?_
        refine jk_nil ?_
        exact jk_round (t + 1, S2 + waitC qs hs d c n t) ⟨by dsimp only; omega, by dsimp only; omega, by dsimp only; omega⟩ (by dsimp only; omega) covZ selZ
    · have hte : t = d.e := by omega
      subst hte
      refine jk_seq ?_
      refine jk_seq ?_
      refine jk_region ?_
      refine zq_move ?_
      refine zq_fld0 ?_
      refine zq_load ?_
      refine zq_ltF ?_
      refine jk_nil ?_
      refine jk_if_f rfl ?_
      refine jk_exit rfl ?_
      refine jk_blk ?_
      refine jk_region ?_
      refine zq_inc ?_
      refine zq_move ?_
      refine jk_nil ?_
      exact jk_round (n + 1, S2) ⟨by dsimp only; omega, by dsimp only; rw [hS2, hS]; exact (sumT_succ0 _ n).symm⟩ (by dsimp only; omega) covZ selZ
  have hne : n = c.length := by omega
  subst hne
  rw [hlen] at hS hSb
  refine jk_seq ?_
  refine jk_region ?_
  refine zq_ltF ?_
  refine jk_nil ?_
  refine jk_seq ?_
  refine jk_if_f rfl ?_
  refine jk_exit rfl ?_
  refine jk_seq ?_
  refine jk_seq ?_
  refine jk_region ?_
  refine zq_fld0 ?_
  refine zq_fld0 ?_
  refine zq_load ?_
  refine zq_len ?_
  refine zq_move ?_
  refine jk_nil ?_
  refine jk_block ?_
  refine jk_loop [3, 4, 5, 11, 12, 127, 128] (X := Nat × Int) (0, S) (fun x => x.1 ≤ cs.length ∧ x.2 = S + capC cs bs d c x.1) (fun x => [(129, int x.1)]) (fun x => [sng b9 (.cells #[int x.2] 3 (0, 0))]) (fun x => cs.length - x.1) pickZ ⟨by dsimp only; omega, (Int.add_zero _).symm⟩ covZ selZ ?_
  rintro ⟨n, S1⟩ ⟨hn, hS1⟩
  dsimp only at hn hS1 ⊢
  have hCn := hCb n
  have hSb1 : -(1099511627776 * 100 * (qs.length : Int)) - 1000 * 100 * n ≤ S1 ∧ S1 ≤ 1099511627776 * 100 * (qs.length : Int) + 1000 * 100 * n := by
    have e : sumT (fun n => sumU (conC cs bs d c n) d.r d.e) 0 n = capC cs bs d c n := rfl
    rw [e] at hCn
    omega
  by_cases hnc : n < cs.length
  · have hx := List.getElem?_eq_getElem hnc
    have hck := chkCt_all (hcs _ (List.getElem_mem hnc))
    have hft := (hcs0 _ (List.getElem_mem hnc)).2
    obtain ⟨b4, o4, rfl, hrd⟩ := ctRow hT.rc hx
    have hfe : ∀ t, conC cs bs d c n t = if cs[n].s ≤ t ∧ t < cs[n].e ∧ t + 1 + cs[n].g ≤ d.e ∧ bookedB bs n t = false ∧ crossB c cs[n].f t cs[n].t (t + 1 + cs[n].g) = true then cs[n].r else 0 := fun t => by
      unfold conC
      rw [Int.toNat_natCast, hx]
    have hbk := fun t => booked_spec hT n t (by omega)
    generalize cs[n] = x at hck hft hrd hfe
    obtain ⟨xf, hxf⟩ : ∃ k : Nat, x.f = k := ⟨x.f.toNat, by omega⟩
    obtain ⟨xt, hxt⟩ : ∃ k : Nat, x.t = k := ⟨x.t.toNat, by omega⟩
    have harr := fun t h1 h2 => arrival_spec x t h1 h2
    rw [hxf, hxt] at hrd hfe
    simp only [hxf, hxt] at harr
    have hearly : ∀ v, v < x.s → conC cs bs d c n v = 0 := fun v hv => by rw [hfe, if_neg (fun h => by omega)]
    have hlate : ∀ v, d.e < v + 1 + x.g → conC cs bs d c n v = 0 := fun v hv => by rw [hfe, if_neg (fun h => by omega)]
    have hover : ∀ v, x.e ≤ v → conC cs bs d c n v = 0 := fun v hv => by rw [hfe, if_neg (fun h => by omega)]
    refine jk_seq ?_
    refine jk_region ?_
    refine zq_lt ?_
    refine jk_nil ?_
    refine jk_seq ?_
    refine jk_if_t rfl ?_
    refine jk_skip ?_
    refine jk_seq ?_
    refine jk_block ?_
    refine jk_seq ?_
    refine jk_region ?_
    refine zq_move ?_
    refine zq_idxN ?_
    refine zq_loadS ?_
    refine zl_allocS ?_; rintro _ _ ⟨b, rfl, rfl⟩
    refine zq_assign ?_
    refine zs_storeS ?_; rintro _ _ ⟨rfl, rfl⟩
    refine jk_nil ?_
    refine jk_seq ?_
    refine jk_region ?_
    refine zq_fld0 ?_
    refine zq_load ?_
    refine zq_fld0 ?_
    refine zq_load ?_
    refine zq_max ?_
    refine zq_assign ?_
    refine jk_nil ?_
    refine jk_block ?_
    revert b; intro b5
    have hst0 : sumU (conC cs bs d c n) d.r (max x.s d.r) = 0 := by
      rw [sumU_ext (Int.le_refl d.r) (by omega) (fun v _ h2 => hearly v (by omega)), sumU_self]
    refine jk_loop [3, 4, 5, 11, 12, 16, 17, 127, 128, 129] (X := Int × Int) (max x.s d.r, S1) (fun y => d.r ≤ y.1 ∧ x.s ≤ y.1 ∧ y.1 ≤ 1099511627776 ∧ y.2 = S1 + sumU (conC cs bs d c n) d.r y.1) (fun y => [(18, int y.1)]) (fun y => [sng b5 _, sng b9 (.cells #[int y.2] 3 (0, 0))]) (fun y => (1099511627776 - y.1).toNat) pickZ ⟨by dsimp only; omega, by dsimp only; omega, by dsimp only; omega, by dsimp only; rw [hst0]; omega⟩ covZ selZ ?_
    rintro ⟨t, S2⟩ ⟨ht1, ht3, ht2, hS2⟩
    dsimp only at ht1 ht2 ht3 hS2 ⊢
    have hbt := hbk t
    have hstop : (x.e ≤ t ∨ d.e < t + 1 + x.g) → S2 = S1 + sumU (conC cs bs d c n) d.r d.e := fun hh => by
      rw [hS2]
      congr 1
      by_cases hle : t ≤ d.e
      · exact (sumU_ext ht1 hle (fun v h1 h2 => by
          rcases hh with hh | hh
          · exact hover v (by omega)
          · exact hlate v (by omega))).symm
      · exact sumU_ext (by omega) (by omega) (fun v h1 h2 => hlate v (by omega))
    have hnext : (x.e ≤ t ∨ d.e < t + 1 + x.g) → S2 = S + capC cs bs d c (n + 1) := fun hh => by
      rw [hstop hh, hS1, Int.add_assoc]
      congr 1
      exact (sumT_succ0 _ n).symm
    by_cases c1 : t < x.e
    rotate_left
    · refine jk_seq ?_
      refine jk_seq ?_
      refine jk_draw (.q 0 (.q 1 (.q 2 (.q 3 (.q 4 (.q 5 (.q 6 (.q 7 (.q 8 (.q 9 (.q 10 (.q 11 .nil)))))))))))) [sng b5 _] rfl (by kernel_rfl) selZ ?_
      refine zd_move ?_
      refine zd_fld0 ?_
      refine zd_load ?_
      refine zd_ltF ?_
      refine zd_move ?_
      refine dj_pass rfl rfl rfl rfl rfl ?_
      refine dj_pass rfl rfl rfl rfl rfl ?_
      refine dj_pass rfl rfl rfl rfl rfl ?_
      refine dj_pass rfl rfl rfl rfl rfl ?_
      refine dj_pass rfl rfl rfl rfl rfl ?_
      refine dj_pass rfl rfl rfl rfl rfl ?_
      refine zd_pick_f ?_
      refine dj_end ?_
      refine jk_if_f rfl ?_
      refine jk_exit rfl ?_
      refine jk_blk ?_
      refine jk_region ?_
      refine zq_inc ?_
      refine zq_move ?_
      refine jk_nil ?_
      exact jk_round (n + 1, S2) ⟨by dsimp only; omega, hnext (.inl (by omega))⟩ (by dsimp only; omega) covZ selZ
    have har := harr t ⟨by omega, by omega⟩ ⟨by omega, by omega⟩
    refine jk_seq ?_
    refine jk_seq ?_
    refine jk_draw (.q 0 (.q 1 (.q 2 (.q 3 (.q 4 (.q 5 (.q 6 (.q 8 (.q 9 (.l 7 .e (.q 10 (.q 11 .nil)))))))))))) [sng b5 _, sng b9 _] rfl (by kernel_rfl) selZ ?_
    refine zd_move ?_
    refine zd_fld0 ?_
    refine zd_load ?_
    refine zd_lt ?_
    refine zd_move ?_
    refine zd_loadS ?_
    refine zd_move ?_
    refine zd_fld0 ?_
    refine zd_load ?_
    refine dj_l (a_call rfl har rfl rfl rdZ rfl rfl ?_)
    rintro _ rfl
    by_cases c2 : d.e < t + 1 + x.g
    · refine zd_leF ?_
      refine zd_pick_t ?_
      refine dj_end ?_
      refine jk_if_f rfl ?_
      refine jk_exit rfl ?_
      refine jk_blk ?_
      refine jk_region ?_
      refine zq_inc ?_
      refine zq_move ?_
      refine jk_nil ?_
      exact jk_round (n + 1, S2) ⟨by dsimp only; omega, hnext (.inr c2)⟩ (by dsimp only; omega) covZ selZ
    have hb2 := sumU_bd (a := d.r) (t := t) (by omega) (hcb n) (by omega)
    have hsx := sumU_succ (f := conC cs bs d c n) ht1
    refine zd_le ?_
    refine zd_pick_t ?_
    refine dj_end ?_
    refine jk_if_t rfl ?_
    refine jk_skip ?_
    refine jk_seq ?_
    refine jk_block ?_
    refine jk_seq ?_
    refine jk_region ?_
    refine zq_loadS ?_
    refine zq_move ?_
    refine zq_move ?_
    refine jk_call hbt rfl rfl rdZ rfl rfl ?_
    rintro _ rfl
    cases hbb : bookedB bs n t with
    | true =>
      have h0 : conC cs bs d c n t = 0 := by rw [hfe, if_neg (fun h => by rw [hbb] at h; simp at h)]
      refine zq_not ?_
      refine jk_nil ?_
      refine jk_if_f rfl ?_
      refine jk_skip ?_
      refine jk_blk ?_
      refine jk_region ?_
      refine zq_move ?_
      refine zq_add ?_
      refine zq_assign ?_
      refine jk_nil ?_
      exact jk_round (t + 1, S2) ⟨by dsimp only; omega, by dsimp only; omega, by dsimp only; omega, by dsimp only; omega⟩ (by dsimp only; omega) covZ selZ
    | false =>
      have hcx := hcross b9 xf xt t (t + 1 + x.g) x.r S2 (by omega) (by omega) ⟨by omega, by omega⟩
      have hcv : (if crossB c xf t xt (t + 1 + x.g) then x.r else 0) = conC cs bs d c n t := by
        rw [hfe]
        cases hcr2 : crossB c xf t xt (t + 1 + x.g) with
        | true => rw [if_pos rfl, if_pos ⟨by omega, by omega, by omega, hbb, rfl⟩]
        | false => rw [if_neg (by simp), if_neg (fun h => by simp at h)]
      rw [hcv] at hcx
      refine zq_not ?_
      refine jk_nil ?_
      refine jk_if_t rfl ?_
      refine jk_draw (.q 0 (.q 1 (.q 2 (.q 3 (.q 4 (.q 5 (.q 6 (.q 7 (.q 9 (.q 10 (.l 8 .e (.l 11 .b .nil)))))))))))) [sng b5 _] rfl (by kernel_rfl) selZ ?_
      refine zd_move ?_
      refine zd_fld0 ?_
      refine zd_load ?_
      refine zd_move ?_
      refine zd_fld0 ?_
      refine zd_load ?_
      refine zd_loadS ?_
      refine zd_move ?_
      refine zd_fld0 ?_
      refine zd_load ?_
      refine dj_l (a_call rfl har rfl rfl rdZ rfl rfl ?_)
      rintro _ rfl
      refine dj_l (a_callH rfl hcx rfl rfl (Takes.skip Takes.all) rdZ rfl rfl (fun v H' hp w hw => by obtain ⟨_, rfl⟩ := hp; exact hw.sel selZ) ?_)
      rintro _ _ ⟨rfl, rfl⟩
      refine dj_end ?_
      refine jk_blk ?_
      refine jk_region ?_
      refine zq_move ?_
      refine zq_add ?_
      refine zq_assign ?_
      refine jk_nil ?_
      exact jk_round (t + 1, S2 + conC cs bs d c n t) ⟨by dsimp only; omega, by dsimp only; omega, by dsimp only; omega, by dsimp only; omega⟩ (by dsimp only; omega) covZ selZ
  have hne : n = cs.length := by omega
  subst hne
  have hfin : capSum qs cs bs hs d c = S1 := by unfold capSum; rw [← hS, hS1]
  rw [hfin]
  refine jk_seq ?_
  refine jk_region ?_
  refine zq_ltF ?_
  refine jk_nil ?_
  refine jk_seq ?_
  refine jk_if_f rfl ?_
  refine jk_exit rfl ?_
  refine jk_seq ?_
  refine jk_region ?_
  refine zq_load ?_
  refine zq_assign ?_
  refine zq_assign ?_
  refine jk_nil ?_
  exact jk_ret_any (res2 rfl rfl rfl) (by (repeat (first | exact rs_nil | (refine rs_cons ?_ ?_; (focus ((repeat (first | exact .here | apply Mem.there | apply Take.there)); first | done | fail))) | exact fun ρ hρ => hρ | (intro ρ hρ; repeat (first | exact hρ | refine List.mem_cons_of_mem _ ?_)))); first | done | fail) selZ ⟨rfl, rfl⟩
end Go.Proofs.Ytjbebmealbnmgaa
/- The changes of stocks. -/
namespace Go.Proofs.Ytjbebmealbnmgaa
open Go.Eng Go.Step
set_option maxRecDepth 100000
set_option maxHeartbeats 4000000

def chAll (cs : List Ct) (l : List Sh) : List (List Int) := l.flatMap (chsOf cs)
def encCh (c : List Int) : List Value := [.agg (c.map int).toArray]
theorem ch_get (cs : List Ct) : ∀ (l : List Sh) (k : Nat) (x : Sh), l[k]? = some x → (chAll cs l)[2 * k]? = some [(ctOf cs x).f, x.t, -x.n] ∧ (chAll cs l)[2 * k + 1]? = some [(ctOf cs x).t, arrOf cs x, x.n]
  | [], k, x, h => by simp at h
  | y :: l, 0, x, h => by
    simp at h; subst h
    exact ⟨rfl, rfl⟩
  | y :: l, k + 1, x, h => by
    have ih := ch_get cs l k x (by simpa using h)
    have e : chAll cs (y :: l) = chsOf cs y ++ chAll cs l := rfl
    rw [e, List.getElem?_append_right (by simp [chsOf]; omega), List.getElem?_append_right (by simp [chsOf]; omega)]
    simp only [chsOf, List.length_cons, List.length_nil]
    rw [show 2 * (k + 1) - (0 + 1 + 1) = 2 * k by omega, show 2 * (k + 1) + 1 - (0 + 1 + 1) = 2 * k + 1 by omega]
    exact ih
theorem chAll_len (cs : List Ct) : ∀ l : List Sh, (chAll cs l).length = 2 * l.length
  | [] => rfl
  | y :: l => by
    have ih := chAll_len cs l
    have e : chAll cs (y :: l) = chsOf cs y ++ chAll cs l := rfl
    rw [e, List.length_append, ih]
    simp [chsOf]; omega
theorem changes_spec (v : Value) (pq pc pb ph : Option Addr) (nq nc nb nh kq kc kb kh : Nat) (hv1 : v.oneCell' = true) :
    Eng.Spec Try.prog (fv 40) [.agg #[.slice pq nq kq, .slice pc nc kc, .slice pb nb kb, .slice ph nh kh], v] [] [] (fun r H' => ∃ bl bt, r = .func (.func 61) #[] #[.pointer (some ⟨bl, 0, none⟩), .pointer (some ⟨bt, 0, none⟩)] ∧
      H' = [sng bl (.cells #[v] 32 (0, 0)), sng bt (.cells #[.slice pq nq kq, .slice pc nc kc, .slice pb nb kb, .slice ph nh kh] 29 (0, 0))]) := by
  refine spec_in (cap := []) Try.func40 rfl rfl Try.ntmps40 rfl (by (repeat (first | exact EnvA.nil EnvI.nil | apply EnvA.cons | apply EnvA.nil | exact EnvI.nil | apply EnvI.cons)); first | done | fail) (fun N β => ?_)
  refine jk_seq ?_
  refine jk_region ?_
  refine jk_op (l_boxS rfl) rfl rfl rfl ?_
  rintro _ _ ⟨bt, rfl, rfl⟩
  refine jk_op (l_box1 rfl hv1) rfl rfl rfl ?_
  rintro _ _ ⟨bl, rfl, rfl⟩
  refine zq_assign ?_
  refine jk_nil ?_
  refine jk_seq ?_
  refine jk_region ?_
  refine zq_makeFunc ?_
  refine zq_assign ?_
  refine jk_nil ?_
  exact jk_ret_any (res1 rfl rfl) (by (repeat (first | exact rs_nil | (refine rs_cons ?_ ?_; (focus ((repeat (first | exact .here | apply Mem.there | apply Take.there)); first | done | fail))) | exact fun ρ hρ => hρ | (intro ρ hρ; repeat (first | exact hρ | refine List.mem_cons_of_mem _ ?_)))); first | done | fail) selZ ⟨bl, bt, rfl, rfl⟩
set_option maxHeartbeats 32000000 in
theorem changes_iter {ρ τ σ υ : PH} (ω : PH) {pq pc pb ph : Option Addr} {kq kc kb kh : Nat} {qs : List Int} {cs : List Ct} {bs : List Bk} {hs : List Hd} (hT : TbAt ρ τ σ υ pq pc pb ph kq kc kb kh qs cs bs hs) (bl bt : Nat) (d : Dm) (v : Value) (l : List Sh) (hv : ShAt ω v l) (hS : ∀ x ∈ l, ship1 cs bs d x = 0) (hcs : ∀ c ∈ cs, chkCt c = 0) (hd : 0 ≤ d.r) (hll : l.length ≤ 1000000) :
    Iter Try.prog (.func (.func 61) #[] #[.pointer (some ⟨bl, 0, none⟩), .pointer (some ⟨bt, 0, none⟩)]) [sng bl (.cells #[v] 32 (0, 0)), sng bt (.cells #[.slice pq qs.length kq, .slice pc cs.length kc, .slice pb bs.length kb, .slice ph hs.length kh] 29 (0, 0)), τ, ω] ((chAll cs l).map encCh) := by
  intro y S Own Inv Stop Ry hy hyl σ0 hI0
  obtain ⟨yl, rfl⟩ := hyl
  obtain ⟨q, cc, rfl, hr⟩ := hv.val encX_len
  have c1 : rdc (sng bl (.cells #[.slice q l.length cc] 32 (0, 0))) bl 0 = some (.slice q l.length cc) := by rw [rdc_sng]; rfl
  have c2 : rdc (sng bt (.cells #[.slice pq qs.length kq, .slice pc cs.length kc, .slice pb bs.length kb, .slice ph hs.length kh] 29 (0, 0))) bt 1 = some (.slice pc cs.length kc) := by rw [rdc_sng]; rfl
  simp only [List.cons_append, List.nil_append]
  refine spec_in (cap := [.pointer (some ⟨bl, 0, none⟩), .pointer (some ⟨bt, 0, none⟩)]) Try.func61 rfl rfl Try.ntmps61 rfl (by (repeat (first | exact EnvA.nil EnvI.nil | apply EnvA.cons | apply EnvA.nil | exact EnvI.nil | apply EnvI.cons)); first | done | fail) (fun N β => ?_)
  refine jk_seq ?_
  refine jk_region ?_
  refine zq_load ?_
  refine zq_len ?_
  refine zq_move ?_
  refine jk_nil ?_
  refine jk_block ?_
  refine jk_loop [0, 1, 2, 7, 8] (X := Nat × S) (0, σ0) (fun x => x.1 ≤ l.length ∧ Inv (2 * x.1) x.2) (fun x => [(9, int x.1)]) (fun x => Own x.2) (fun x => l.length - x.1) pickZ ⟨by dsimp only; omega, hI0⟩ covZ Sel.refl ?_
  rintro ⟨k, σ'⟩ ⟨hk, hI⟩
  dsimp only at hk hI ⊢
  by_cases hlt : k < l.length
  · have hx := List.getElem?_eq_getElem hlt
    obtain ⟨hg1, hg2⟩ := ch_get cs l k _ hx
    obtain ⟨nn, c, hnn, hcx, hct, hin, hlate, har⟩ := ship1_ok (hS _ (List.getElem_mem hlt))
    obtain ⟨b5, o5, rfl, hrx, x0, x1, x2⟩ := shRow hr hx
    have hck := chkCt_all (hcs c (List.mem_of_getElem? hcx))
    have hnl := (List.getElem?_eq_some_iff.1 hcx).1
    rw [hct] at hg1 hg2
    rw [har] at hg2
    rw [hnn] at hrx x0
    have hy1 := hy (2 * k) σ' (encCh [c.f, l[k].t, -l[k].n]) (by rw [List.getElem?_map, hg1]; rfl) hI
    have hy2 := fun τ' (h : Inv (2 * k + 1) τ') => hy (2 * k + 1) τ' (encCh [c.t, l[k].t + 1 + c.g, l[k].n]) (by rw [List.getElem?_map, hg2]; rfl) h
    have harr := arrival_spec c l[k].t ⟨by omega, by omega⟩ ⟨by omega, by omega⟩
    generalize l[k] = x at hrx x0 x1 x2 hin hlate hy1 hy2 harr
    obtain ⟨b4, o4, rfl, hrd⟩ := ctRow hT.rc hcx
    refine jk_seq ?_
    refine jk_region ?_
    refine zq_lt ?_
    refine jk_nil ?_
    refine jk_seq ?_
    refine jk_if_t rfl ?_
    refine jk_skip ?_
    refine jk_seq ?_
    refine jk_block ?_
    refine jk_seq ?_
    refine jk_region ?_
    refine zq_idxN ?_
    refine zq_loadS ?_
    refine zl_allocS ?_; rintro _ _ ⟨b, rfl, rfl⟩
    refine zs_storeS ?_; rintro _ _ ⟨rfl, rfl⟩
    refine jk_nil ?_
    refine jk_seq ?_
    refine jk_region ?_
    refine zq_fld0 ?_
    refine zq_fld0 ?_
    refine zq_load ?_
    refine zq_fld0 ?_
    refine zq_load ?_
    refine zq_idxN ?_
    refine zq_loadS ?_
    refine zl_allocS ?_; rintro _ _ ⟨b, rfl, rfl⟩
    refine zs_storeS ?_; rintro _ _ ⟨rfl, rfl⟩
    refine jk_nil ?_
    refine jk_seq ?_
    refine jk_draw (.q 0 (.q 1 (.q 2 (.q 3 (.q 4 (.q 5 (.q 6 (.q 7 (.q 8 (.l 9 .b (.q 10 (.q 11 (.q 12 (.q 13 (.q 14 (.q 15 (.q 16 (.q 17 (.q 19 (.q 20 (.l 18 .e (.q 21 (.l 22 .b (.q 23 (.q 24 .nil))))))))))))))))))))))))) [] rfl (by kernel_rfl) Sel.nil ?_
    refine zd_move ?_
    refine zd_fld0 ?_
    refine zd_load ?_
    refine zd_fld0 ?_
    refine zd_load ?_
    refine zd_fld0 ?_
    refine zd_load ?_
    refine zd_neg ?_
    refine zd_build ?_
    refine dj_l (a_callH rfl hy1 rfl rfl (Takes.skip (Takes.skip Takes.all)) (fun τ hτ => .inl (by simp [hτ])) rfl rfl (fun _ _ _ w hw => hw.sel Sel.nil) ?_)
    rintro _ H' ⟨σ1, rfl, ⟨rfl, hI1⟩ | ⟨rfl, hSt⟩⟩
    · refine dj_perm (H' := _ :: _ :: Own σ1) (List.perm_append_comm (l₂ := [_, _])) ?_
      refine zd_not ?_
      refine zd_move ?_
      refine zd_move ?_
      refine zd_fld0 ?_
      refine zd_load ?_
      refine zd_loadS ?_
      refine zd_fld0 ?_
      refine zd_load ?_
      refine zd_fld0 ?_
      refine zd_load ?_
      refine dj_l (a_call rfl harr rfl rfl rdZ rfl rfl ?_)
      rintro _ rfl
      refine zd_build ?_
      refine dj_l (a_callH rfl (hy2 σ1 hI1) rfl rfl (Takes.skip (Takes.skip Takes.all)) (fun τ hτ => .inl (by simp [hτ])) rfl rfl (fun _ _ _ w hw => hw.sel Sel.nil) ?_)
      rintro _ H' ⟨σ2, rfl, ⟨rfl, hI2⟩ | ⟨rfl, hSt⟩⟩
      · refine zd_not ?_
        refine zd_pick_f ?_
        refine dj_end ?_
        refine jk_if_f rfl ?_
        refine jk_skip ?_
        refine jk_blk ?_
        refine jk_region ?_
        refine zq_inc ?_
        refine zq_move ?_
        refine jk_nil ?_
        refine jk_perm (H' := _ :: _ :: Own σ2) (List.perm_append_comm (l₂ := [_, _])) ?_
        exact jk_round (k + 1, σ2) ⟨by dsimp only; omega, hI2⟩ (by dsimp only; omega) covZ (Sel.skip (Sel.skip Sel.refl))
      · refine zd_not ?_
        refine zd_pick_f ?_
        refine dj_end ?_
        refine jk_if_t rfl ?_
        exact jk_ret_any (res0 rfl) (fun _ h => h) Sel.left ⟨σ2, rfl, .inr hSt⟩
    · refine dj_replan (.q 10 (.q 11 (.q 12 (.q 13 (.q 14 (.q 15 (.q 16 (.q 17 (.q 19 (.q 20 (.q 18 (.q 21 (.q 22 (.q 23 (.q 24 .nil))))))))))))))) (by kernel_rfl) ?_
      refine zd_not ?_
      refine zd_move ?_
      refine dj_pass rfl rfl rfl rfl rfl ?_
      refine dj_pass rfl rfl rfl rfl rfl ?_
      refine dj_pass rfl rfl rfl rfl rfl ?_
      refine dj_pass rfl rfl rfl rfl rfl ?_
      refine dj_pass rfl rfl rfl rfl rfl ?_
      refine dj_pass rfl rfl rfl rfl rfl ?_
      refine dj_pass rfl rfl rfl rfl rfl ?_
      refine dj_pass rfl rfl rfl rfl rfl ?_
      refine dj_pass rfl rfl rfl rfl rfl ?_
      refine dj_pass rfl rfl rfl rfl rfl ?_
      refine dj_pass rfl rfl rfl rfl rfl ?_
      refine dj_pass rfl rfl rfl rfl rfl ?_
      refine zd_pick_t ?_
      refine dj_end ?_
      refine jk_if_t rfl ?_
      exact jk_ret_any (res0 rfl) (fun _ h => h) Sel.left ⟨σ1, rfl, .inr hSt⟩
  have hke : k = l.length := by omega
  subst hke
  refine jk_seq ?_
  refine jk_region ?_
  refine zq_ltF ?_
  refine jk_nil ?_
  refine jk_seq ?_
  refine jk_if_f rfl ?_
  refine jk_exit rfl ?_
  refine jk_end_any (res0 rfl) (fun _ h => h) Sel.refl ⟨σ', rfl, .inl ?_⟩
  rw [List.length_map, chAll_len]
  exact hI
end Go.Proofs.Ytjbebmealbnmgaa
