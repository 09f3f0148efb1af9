/- The first shortest path, and the least room on it. -/
import Derived.Test.YtoccdekghjoldaaWFlF
import Derived.Test.YtoccdekghjoldaaWMbPath
set_option linter.all false
namespace Go.Proofs.Ytoccdekghjoldaa
open Go.Eng Go.Flow
set_option maxRecDepth 100000
set_option maxHeartbeats 4000000

def ksOf (p : List Lk) : List Int := p.map (fun (x : Lk) => (x.k : Int))
/-- the next link in the lists of a graph -/
def nxO (outs : Nat → List Lk) (rm : Nat → Int) (D : List Int) (v : Nat) : Option Lk := (openL rm (outs v)).find? (near D v)
theorem nxO_some {n t : Nat} {outs ins : Nat → List Lk} {rm : Nat → Int} {D : List Int} (hO : GOk n outs ins) (hD : IsDist n t (opens n ins rm) D) {v : Nat} (hv : v < n) (hd : 0 < D.getD v 0) :
    ∃ x, nxO outs rm D v = some x ∧ x.f = v ∧ x.t < n ∧ x.k ≤ 40000 ∧ D.getD x.t 0 = D.getD v 0 - 1 ∧ opens n ins rm x := by
  obtain ⟨y, hy, hyf, hyt⟩ := hD.step v hv hd
  have hyn := opens_lt hO y hy
  have hyo : y ∈ outs v := by
    have := (hO.same y hyn.1 hyn.2).2 hy.2.1
    rwa [hyf] at this
  have hmem : y ∈ openL rm (outs v) := by
    unfold openL
    rw [List.mem_filter]
    exact ⟨hyo, by simpa using hy.2.2⟩
  cases e : nxO outs rm D v with
  | none =>
    unfold nxO at e
    rw [List.find?_eq_none] at e
    exact absurd (by unfold near; rw [hyt]; simp) (e y hmem)
  | some x =>
    have hm := List.mem_of_find?_eq_some e
    have hp := List.find?_some e
    unfold openL at hm
    rw [List.mem_filter] at hm
    obtain ⟨h1, h2, h3⟩ := hO.outF v x hv hm.1
    refine ⟨x, rfl, h1, h2, h3, by simpa [near] using hp, h2, (hO.same x (by omega) h2).1 (by rw [h1]; exact hm.1), by simpa using hm.2⟩
set_option maxHeartbeats 2000000 in
theorem path_spec (γ : PH) (gb n s t : Nat) (outs ins : Nat → List Lk) (room : Value) (rm : Nat → Int) (Rr : List PH) (hG : GAt γ gb n outs ins room) (hO : GOk n outs ins) (hs : s < n) (ht : t < n)
    (hrm : ∀ v x, v < n → x ∈ ins v → Ans Try.prog room [int x.k] Rr (fun v => v = int (rm x.k))) :
    Makes Try.prog (fv 50) [.pointer (some ⟨gb, 0, none⟩), int s, int t] (γ :: Rr) (fun v ρ => ∃ D pv, IsDist n t (opens n ins rm) D ∧ v = .tuple #[pv, .bool (decide (0 ≤ D.getD s 0))] ∧
      OwnS 3 1 pv (pathD (nxO outs rm D) D s).length ((ksOf (pathD (nxO outs rm D) D s)).map int) ρ) := by
  have hn := hO.n1
  obtain ⟨ob, oc, ho, hol⟩ := hG.o
  refine spec_in (cap := []) Try.func50 rfl rfl Try.ntmps50 rfl (by (repeat (first | exact EnvA.nil EnvI.nil | apply EnvA.cons | apply EnvA.nil | exact EnvI.nil | apply EnvI.cons)); first | done | fail) (fun N β => ?_)
  refine jk_emp ?_
  refine jk_seq ?_
  refine jk_region ?_
  focus (refine' jk_q _ rfl rfl rfl _; rotate_left; (apply q_assign; exact rfl))
  focus (refine' jk_q _ rfl rfl rfl _; rotate_left; (apply q_assign; exact rfl))
  refine jk_nil ?_
  refine jk_seq ?_
  refine jk_region ?_
  focus (refine' jk_q _ rfl rfl rfl _; rotate_left; (apply q_move; exact rfl))
  focus (refine' jk_q _ rfl rfl rfl _; rotate_left; (apply q_move; exact rfl))
  refine jk_callM (distances_spec γ gb n t outs ins room rm Rr hG hO ht hrm) rfl rfl (by (repeat (first | exact RdOK.nil | (refine RdOK.consR ?_ ?_; (focus ((repeat (first | exact .here | apply Mem.there | apply Take.there)); first | done | fail))) | (refine RdOK.consH ?_ ?_; (focus ((repeat (first | exact .here | apply Mem.there | apply Take.there)); first | done | fail))) | exact (fun τ hτ => .inl (by simp [hτ])))); first | done | fail) rfl rfl ?_
  rintro _ ρD ⟨bD, D, rfl, rfl, hD⟩
  have hDl := hD.len
  focus (refine' jk_op _ rfl rfl rfl _; rotate_left; (apply l_alloc1; exact rfl; exact rfl); rintro _ _ ⟨b, rfl, rfl⟩)
  focus (refine' jk_op_none _ rfl rfl _; rotate_left; (apply l_storeL; exact rfl; exact rfl; (first | exact rfl | assumption); exact rfl; exact (by (repeat (first | exact .here | apply Take.there)); first | done | fail); (focus (repeat (first | exact SetL.here | apply SetL.there)); done)); rintro _ _ ⟨rfl, rfl⟩)
  refine jk_nil ?_
  refine jk_seq ?_
  refine jk_seq ?_
  refine jk_region ?_
  focus (refine' jk_q _ rfl rfl rfl _; rotate_left; (apply q_load; exact rfl; exact rfl; (first | exact cell_own (by (repeat (first | exact .here | apply Mem.there)); first | done | fail) rfl | exact cellR (by assumption) (by (repeat (first | exact .here | apply Mem.there)); first | done | fail) | exact cellH (by assumption) (by (repeat (first | exact .here | apply Mem.there)); first | done | fail) | exact cell_ints (by (repeat (first | exact .here | apply Mem.there)); first | done | fail) (by omega) | exact cell_bools (by assumption) (by (repeat (first | exact .here | apply Mem.there)); first | done | fail) | exact cell_intsR (by (repeat (first | exact .here | apply Mem.there)); first | done | fail) (by omega) | exact cell_boolsR (by assumption) (by (repeat (first | exact .here | apply Mem.there)); first | done | fail))))
  focus (refine' jk_q _ rfl rfl rfl _; rotate_left; (apply q_move; exact rfl))
  focus (refine' jk_q _ rfl rfl rfl _; rotate_left; (apply q_idx0; exact rfl; exact rfl; exact rfl; exact rfl; omega))
  focus (refine' jk_q _ rfl rfl rfl _; rotate_left; (apply q_load; exact rfl; exact rfl; (first | exact cell_own (by (repeat (first | exact .here | apply Mem.there)); first | done | fail) rfl | exact cellR (by assumption) (by (repeat (first | exact .here | apply Mem.there)); first | done | fail) | exact cellH (by assumption) (by (repeat (first | exact .here | apply Mem.there)); first | done | fail) | exact cell_ints (by (repeat (first | exact .here | apply Mem.there)); first | done | fail) (by omega) | exact cell_bools (by assumption) (by (repeat (first | exact .here | apply Mem.there)); first | done | fail) | exact cell_intsR (by (repeat (first | exact .here | apply Mem.there)); first | done | fail) (by omega) | exact cell_boolsR (by assumption) (by (repeat (first | exact .here | apply Mem.there)); first | done | fail))))
  revert b; intro b8
  by_cases hneg : D.getD s 0 < 0
  · focus (refine' jk_q _ rfl rfl rfl _; rotate_left; (apply q_lt; exact rfl; exact rfl; omega))
    refine jk_nil ?_
    refine jk_if_t rfl ?_
    refine jk_seq ?_
    refine jk_region ?_
    focus (refine' jk_q _ rfl rfl rfl _; rotate_left; (apply q_assign; exact rfl))
    focus (refine' jk_q _ rfl rfl rfl _; rotate_left; (apply q_assign; exact rfl))
    refine jk_nil ?_
    refine jk_ret_any (res2 rfl rfl rfl) (by (repeat (first | exact rs_nil | (refine rs_cons ?_ ?_; (focus ((repeat (first | exact .here | apply Mem.there | apply Take.there)); first | done | fail))) | exact fun ρ hρ => hρ | (intro ρ hρ; repeat (first | exact hρ | refine List.mem_cons_of_mem _ ?_)))); first | done | fail) (by (repeat (first | exact Sel.nil | (apply Sel.cons; (focus ((repeat (first | exact .here | apply Mem.there | apply Take.there)); first | done | fail))))); first | done | fail) ⟨emp, ⟨D, .slice none 0 0, hD, ?_, ?_⟩, rfl⟩
    · rw [show decide (0 ≤ D.getD s 0) = false from decide_eq_false (by omega)]
    · rw [pathD_end (by omega)]
      exact OwnS.nil _ _
  focus (refine' jk_q _ rfl rfl rfl _; rotate_left; (apply q_ltF; exact rfl; exact rfl; omega))
  refine jk_nil ?_
  refine jk_if_f rfl ?_
  refine jk_skip ?_
  refine jk_seq ?_
  refine jk_region ?_
  focus (refine' jk_op _ rfl rfl rfl _; rotate_left; (apply l_alloc1; exact rfl; exact rfl); rintro _ _ ⟨b, rfl, rfl⟩)
  refine jk_nil ?_
  refine jk_seq ?_
  refine jk_seq ?_
  refine jk_region ?_
  focus (refine' jk_q _ rfl rfl rfl _; rotate_left; (apply q_move; exact rfl))
  focus (refine' jk_op _ rfl rfl rfl _; rotate_left; (apply l_alloc1; exact rfl; exact rfl); rintro _ _ ⟨b, rfl, rfl⟩)
  focus (refine' jk_op_none _ rfl rfl _; rotate_left; (apply l_storeL; exact rfl; exact rfl; (first | exact rfl | assumption); exact rfl; exact (by (repeat (first | exact .here | apply Take.there)); first | done | fail); (focus (repeat (first | exact SetL.here | apply SetL.there)); done)); rintro _ _ ⟨rfl, rfl⟩)
  refine jk_nil ?_
  refine jk_block ?_
  rename_i b9
  revert b; intro b10
  refine jk_freeze (ρ := sng b8 _) (by (repeat (first | exact .here | apply Take.there)); first | done | fail) ?_
  refine jk_freeze (ρ := sng bD _) (by (repeat (first | exact .here | apply Take.there)); first | done | fail) ?_
  have c8 : rdc (sng b8 (.cells #[.slice (some ⟨bD, 0, none⟩) n n] 26 (0, 0))) b8 0 = some (.slice (some ⟨bD, 0, none⟩) n n) := by rw [rdc_sng]; rfl
  have hub := hD.lt (opens_lt hO) ht hs
  refine jk_emp ?_
  refine jk_loopD [0, 1, 2, 8, 9] (((([] : List Lk), s), ((.slice none 0 0, emp), b10)), ([], emp)) (X := ((List Lk × Nat) × ((Value × PH) × Nat)) × (List Nat × PH))
    (fun x => x.2.1.map mk) (fun x => x.1.1.2 < n ∧ 0 ≤ D.getD x.1.1.2 0 ∧ pathD (nxO outs rm D) D s = x.1.1.1 ++ pathD (nxO outs rm D) D x.1.1.2 ∧ OwnS 3 1 x.1.2.1.1 x.1.1.1.length ((ksOf x.1.1.1).map int) x.1.2.1.2 ∧ x.1.1.1.length + (D.getD x.1.1.2 0).toNat ≤ n ∧ MkIn x.2.2 x.2.1)
    (fun x => [(10, .pointer (some ⟨x.1.2.2, 0, none⟩))]) (fun x => [sng x.1.2.2 (.cells #[int (x.1.1.2 : Int)] 3 (0, 0)), sng b9 (.cells #[x.1.2.1.1] 26 (0, 0)), x.1.2.1.2, x.2.2]) (fun x => (D.getD x.1.1.2 0).toNat)
    (by (repeat (first | exact Pick.nil | apply Pick.cons rfl)); first | done | fail) rfl ⟨hs, by dsimp only; omega, rfl, OwnS.nil _ _, by dsimp only [List.length_nil]; omega, MkIn.nil⟩ (by (repeat (first | exact trivial | refine And.intro rfl ?_)); first | done | fail) (by (repeat (first | exact Sel.nil | (apply Sel.cons; (focus ((repeat (first | exact .here | apply Mem.there | apply Take.there)); first | done | fail))))); first | done | fail) ?_
  rintro ⟨⟨⟨pre, v⟩, ⟨⟨pv, ρp⟩, bv⟩⟩, ⟨ms, μ⟩⟩ ⟨hv, hd0, hpre, hP, hln, hM⟩
  dsimp only at hv hd0 hpre hP hln hM ⊢
  by_cases hvt : v = t
  · refine jk_seq ?_
    refine jk_seq ?_
    refine jk_region ?_
    focus (refine' jk_q _ rfl rfl rfl _; rotate_left; (apply q_load; exact rfl; exact rfl; (first | exact cell_own (by (repeat (first | exact .here | apply Mem.there)); first | done | fail) rfl | exact cellR (by assumption) (by (repeat (first | exact .here | apply Mem.there)); first | done | fail) | exact cellH (by assumption) (by (repeat (first | exact .here | apply Mem.there)); first | done | fail) | exact cell_ints (by (repeat (first | exact .here | apply Mem.there)); first | done | fail) (by omega) | exact cell_bools (by assumption) (by (repeat (first | exact .here | apply Mem.there)); first | done | fail) | exact cell_intsR (by (repeat (first | exact .here | apply Mem.there)); first | done | fail) (by omega) | exact cell_boolsR (by assumption) (by (repeat (first | exact .here | apply Mem.there)); first | done | fail))))
    focus (refine' jk_q _ rfl rfl rfl _; rotate_left; (apply q_move; exact rfl))
    focus (refine' jk_q _ rfl rfl rfl _; rotate_left; (apply q_neF; exact rfl; exact rfl; omega))
    refine jk_nil ?_
    refine jk_if_f rfl ?_
    refine jk_exit rfl ?_
    refine jk_seq ?_
    refine jk_region ?_
    focus (refine' jk_q _ rfl rfl rfl _; rotate_left; (apply q_load; exact rfl; exact rfl; (first | exact cell_own (by (repeat (first | exact .here | apply Mem.there)); first | done | fail) rfl | exact cellR (by assumption) (by (repeat (first | exact .here | apply Mem.there)); first | done | fail) | exact cellH (by assumption) (by (repeat (first | exact .here | apply Mem.there)); first | done | fail) | exact cell_ints (by (repeat (first | exact .here | apply Mem.there)); first | done | fail) (by omega) | exact cell_bools (by assumption) (by (repeat (first | exact .here | apply Mem.there)); first | done | fail) | exact cell_intsR (by (repeat (first | exact .here | apply Mem.there)); first | done | fail) (by omega) | exact cell_boolsR (by assumption) (by (repeat (first | exact .here | apply Mem.there)); first | done | fail))))
    focus (refine' jk_q _ rfl rfl rfl _; rotate_left; (apply q_assign; exact rfl))
    focus (refine' jk_q _ rfl rfl rfl _; rotate_left; (apply q_assign; exact rfl))
    refine jk_nil ?_
    refine jk_retMu hM (by (repeat (first | exact .here | apply Take.there)); first | done | fail) (res2 rfl rfl rfl) (by (repeat (first | exact rs_nil | (refine rs_cons ?_ ?_; (focus ((repeat (first | exact .here | apply Mem.there | apply Take.there)); first | done | fail))) | exact fun ρ hρ => hρ | (intro ρ hρ; repeat (first | exact hρ | refine List.mem_cons_of_mem _ ?_)))); first | done | fail) (by (repeat (first | exact Sel.nil | (apply Sel.cons; (focus ((repeat (first | exact .here | apply Mem.there | apply Take.there)); first | done | fail))))); first | done | fail) ⟨ρp, ⟨D, pv, hD, ?_, ?_⟩, rfl⟩
    · rw [show decide (0 ≤ D.getD s 0) = true from decide_eq_true (by omega)]
      rfl
    · rw [hpre, pathD_end (by rw [hvt, hD.at0]; omega), List.append_nil]
      exact hP
  · have hdv : 0 < D.getD v 0 := by
      by_cases h0 : D.getD v 0 = 0
      · exact absurd (hD.zero v hv h0) hvt
      · omega
    obtain ⟨x0, hx0, hx0f, hx0t, hx0k, hx0d, _⟩ := nxO_some hO hD hv hdv
    obtain ⟨lv, hlv, hls⟩ := hol v hv
    refine jk_seq ?_
    refine jk_seq ?_
    refine jk_region ?_
    focus (refine' jk_q _ rfl rfl rfl _; rotate_left; (apply q_load; exact rfl; exact rfl; (first | exact cell_own (by (repeat (first | exact .here | apply Mem.there)); first | done | fail) rfl | exact cellR (by assumption) (by (repeat (first | exact .here | apply Mem.there)); first | done | fail) | exact cellH (by assumption) (by (repeat (first | exact .here | apply Mem.there)); first | done | fail) | exact cell_ints (by (repeat (first | exact .here | apply Mem.there)); first | done | fail) (by omega) | exact cell_bools (by assumption) (by (repeat (first | exact .here | apply Mem.there)); first | done | fail) | exact cell_intsR (by (repeat (first | exact .here | apply Mem.there)); first | done | fail) (by omega) | exact cell_boolsR (by assumption) (by (repeat (first | exact .here | apply Mem.there)); first | done | fail))))
    focus (refine' jk_q _ rfl rfl rfl _; rotate_left; (apply q_move; exact rfl))
    focus (refine' jk_q _ rfl rfl rfl _; rotate_left; (apply q_ne; exact rfl; exact rfl; omega))
    refine jk_nil ?_
    refine jk_if_t rfl ?_
    refine jk_skip ?_
    refine jk_seq ?_
    refine jk_block ?_
    refine jk_seq ?_
    refine jk_draw (.q 0 (.q 1 (.q 2 (.q 3 (.q 4 (.q 5 (.q 6 (.q 7 (.l 8 .e .nil))))))))) [] rfl (by kernel_rfl) (by (repeat (first | exact Sel.nil | (apply Sel.cons; (focus ((repeat (first | exact .here | apply Mem.there | apply Take.there)); first | done | fail))))); first | done | fail) ?_
    focus (refine' dj_q rfl _ rfl rfl rfl rfl _; rotate_left; (apply q_move; exact rfl))
    focus (refine' dj_q rfl _ rfl rfl rfl rfl _; rotate_left; (apply q_move; exact rfl))
    focus (refine' dj_q rfl _ rfl rfl rfl rfl _; rotate_left; (apply q_nilCheck; exact rfl))
    focus (refine' dj_q rfl _ rfl rfl rfl rfl _; rotate_left; (apply q_fld0; exact rfl; exact rfl))
    focus (refine' dj_q rfl _ rfl rfl rfl rfl _; rotate_left; (apply q_load; exact rfl; exact rfl; (first | exact cell_own (by (repeat (first | exact .here | apply Mem.there)); first | done | fail) rfl | exact cellR (by assumption) (by (repeat (first | exact .here | apply Mem.there)); first | done | fail) | exact cellH (by assumption) (by (repeat (first | exact .here | apply Mem.there)); first | done | fail) | exact cell_ints (by (repeat (first | exact .here | apply Mem.there)); first | done | fail) (by omega) | exact cell_bools (by assumption) (by (repeat (first | exact .here | apply Mem.there)); first | done | fail) | exact cell_intsR (by (repeat (first | exact .here | apply Mem.there)); first | done | fail) (by omega) | exact cell_boolsR (by assumption) (by (repeat (first | exact .here | apply Mem.there)); first | done | fail))))
    focus (refine' dj_q rfl _ rfl rfl rfl rfl _; rotate_left; (apply q_load; exact rfl; exact rfl; (first | exact cell_own (by (repeat (first | exact .here | apply Mem.there)); first | done | fail) rfl | exact cellR (by assumption) (by (repeat (first | exact .here | apply Mem.there)); first | done | fail) | exact cellH (by assumption) (by (repeat (first | exact .here | apply Mem.there)); first | done | fail) | exact cell_ints (by (repeat (first | exact .here | apply Mem.there)); first | done | fail) (by omega) | exact cell_bools (by assumption) (by (repeat (first | exact .here | apply Mem.there)); first | done | fail) | exact cell_intsR (by (repeat (first | exact .here | apply Mem.there)); first | done | fail) (by omega) | exact cell_boolsR (by assumption) (by (repeat (first | exact .here | apply Mem.there)); first | done | fail))))
    focus (refine' dj_q rfl _ rfl rfl rfl rfl _; rotate_left; (apply q_idx0; exact rfl; exact rfl; exact rfl; exact rfl; omega))
    focus (refine' dj_q rfl _ rfl rfl rfl rfl _; rotate_left; (apply q_load; exact rfl; exact rfl; (first | exact cell_own (by (repeat (first | exact .here | apply Mem.there)); first | done | fail) rfl | exact cellR (by assumption) (by (repeat (first | exact .here | apply Mem.there)); first | done | fail) | exact cellH (by assumption) (by (repeat (first | exact .here | apply Mem.there)); first | done | fail) | exact cell_ints (by (repeat (first | exact .here | apply Mem.there)); first | done | fail) (by omega) | exact cell_bools (by assumption) (by (repeat (first | exact .here | apply Mem.there)); first | done | fail) | exact cell_intsR (by (repeat (first | exact .here | apply Mem.there)); first | done | fail) (by omega) | exact cell_boolsR (by assumption) (by (repeat (first | exact .here | apply Mem.there)); first | done | fail))))
    refine dj_l (a_callM rfl (open_spec _ _ (SlE.one hls) rfl) rfl rfl (by (repeat (first | exact RdOK.nil | (refine RdOK.consR ?_ ?_; (focus ((repeat (first | exact .here | apply Mem.there | apply Take.there)); first | done | fail))) | (refine RdOK.consH ?_ ?_; (focus ((repeat (first | exact .here | apply Mem.there | apply Take.there)); first | done | fail))) | exact (fun τ hτ => .inl (by simp [hτ])))); first | done | fail) rfl rfl ?_)
    rintro _ _ ⟨bl, bg, rfl, rfl⟩
    simp only [List.cons_append, List.nil_append]
    refine dj_end ?_
    refine jk_freeze (ρ := sng bl _) (by (repeat (first | exact .here | apply Take.there)); first | done | fail) ?_
    refine jk_freeze (ρ := sng bg _) (by (repeat (first | exact .here | apply Take.there)); first | done | fail) ?_
    refine jk_block ?_
    refine jk_range (gf := 54) (cap := [.pointer (some ⟨bl, 0, none⟩), .pointer (some ⟨bg, 0, none⟩)]) (ps := [33]) (X := (Value × PH) × Nat) rfl Try.func54 rfl rfl
      (open_iter γ gb bl bg lv room (outs v) rm Rr hls (by have := (hO.len v).1; omega) hG.r (fun x hx => by
        obtain ⟨h1, h2, _⟩ := hO.outF v x hv hx
        exact hrm x.t x h2 ((hO.same x (by omega) h2).1 (by rw [h1]; exact hx)))) ?_
      (fun i x => x = ((pv, ρp), v) ∧ ∀ y ∈ (openL rm (outs v)).take i, near D v y = false)
      (fun x => [sng bv (.cells #[int (x.2 : Int)] 3 (0, 0)), sng b9 (.cells #[x.1.1] 26 (0, 0)), x.1.2])
      (fun c x => c = .exit 2 ∧ x.2 = x0.t ∧ OwnS 3 1 x.1.1 (pre ++ [x0]).length ((ksOf (pre ++ [x0])).map int) x.1.2) ((pv, ρp), v) rfl (by (repeat (first | exact Takes.nil | (apply Takes.cons; exact (by (repeat (first | exact .here | apply Take.there)); first | done | fail)))); first | done | fail) ⟨rfl, by simp⟩ ?_ ?_ ?_
    · intro σ hσ
      simp only [List.cons_append, List.nil_append, List.mem_cons] at hσ ⊢
      rcases hσ with h | h | h | h <;> simp [h]
    · rintro l r i x' vs hvs ⟨rfl, hno⟩ hps has hbd hst hpe hfr
      dsimp only at hno ⊢
      obtain ⟨st, pe, fnn, tm, prm, asg, bdy, df⟩ := r
      simp only at hps has hbd hst hpe hfr
      subst hps has hbd hst hpe
      rw [List.getElem?_map] at hvs
      obtain ⟨x, hx, rfl⟩ := Option.map_eq_some_iff.1 hvs
      have hlt : i < (openL rm (outs v)).length := (List.getElem?_eq_some_iff.1 hx).1
      have hxe : (openL rm (outs v))[i] = x := (List.getElem?_eq_some_iff.1 hx).2
      have hxm : x ∈ openL rm (outs v) := List.mem_of_getElem? hx
      have hxi : x ∈ outs v ∧ 0 < rm x.k := by unfold openL at hxm; simpa using hxm
      obtain ⟨hxf, hxt, hxk⟩ := hO.outF v x hv hxi.1
      have htk : (openL rm (outs v)).take (i + 1) = (openL rm (outs v)).take i ++ [x] := by rw [take_snoc' hlt, hxe]
      have hvub := hD.lt (opens_lt hO) ht hv
      have hxlo := hD.low x.t hxt
      have hxub := hD.lt (opens_lt hO) ht hxt
      refine yield_spec hfr rfl (by intro p hp; simp at hp; omega) (by (repeat (first | exact PutI.nil | apply PutI.cons)); first | done | fail) (fun N' β' => ?_)
      unfold encL
      refine jk_region ?_
      focus (refine' jk_op _ rfl rfl rfl _; rotate_left; (apply l_allocS; exact rfl); rintro _ _ ⟨b, rfl, rfl⟩)
      focus (refine' jk_op_none _ rfl rfl _; rotate_left; (apply l_storeS; exact rfl; exact rfl; exact (by (repeat (first | exact .here | apply Take.there)); first | done | fail); exact (by (repeat (first | exact (fun v hv => absurd hv List.not_mem_nil) | (refine List.forall_mem_cons.2 ⟨?_, ?_⟩; (focus (first | exact rfl | assumption))))); first | done | fail); exact rfl; exact rfl); rintro _ _ ⟨rfl, rfl⟩)
      refine jk_nil ?_
      refine jk_switch rfl rfl ?_
      refine jk_begin (by (repeat (first | exact .here | apply Take.there)); first | done | fail) rfl ?_
      refine jk_block ?_
      refine jk_seq ?_
      refine jk_draw (.q 0 (.q 1 (.q 2 (.q 3 (.q 4 (.q 5 (.q 6 (.q 7 (.q 8 (.q 9 (.q 10 .nil))))))))))) [] rfl (by kernel_rfl) (by (repeat (first | exact Sel.nil | (apply Sel.cons; (focus ((repeat (first | exact .here | apply Mem.there | apply Take.there)); first | done | fail))))); first | done | fail) ?_
      by_cases hnr : D.getD x.t 0 = D.getD v 0 - 1
      · have hfx : nxO outs rm D v = some x := find_of_take hx (by unfold near; rw [hnr]; simp) hno
        obtain rfl : x0 = x := by rw [hfx] at hx0; exact (Option.some.inj hx0).symm
        focus (refine' dj_q rfl _ rfl rfl rfl rfl _; rotate_left; (apply q_load; exact rfl; exact rfl; (first | exact cell_own (by (repeat (first | exact .here | apply Mem.there)); first | done | fail) rfl | exact cellR (by assumption) (by (repeat (first | exact .here | apply Mem.there)); first | done | fail) | exact cellH (by assumption) (by (repeat (first | exact .here | apply Mem.there)); first | done | fail) | exact cell_ints (by (repeat (first | exact .here | apply Mem.there)); first | done | fail) (by omega) | exact cell_bools (by assumption) (by (repeat (first | exact .here | apply Mem.there)); first | done | fail) | exact cell_intsR (by (repeat (first | exact .here | apply Mem.there)); first | done | fail) (by omega) | exact cell_boolsR (by assumption) (by (repeat (first | exact .here | apply Mem.there)); first | done | fail))))
        focus (refine' dj_q rfl _ rfl rfl rfl rfl _; rotate_left; (apply q_fld0; exact rfl; exact rfl))
        focus (refine' dj_q rfl _ rfl rfl rfl rfl _; rotate_left; (apply q_load; exact rfl; exact rfl; (first | exact cell_own (by (repeat (first | exact .here | apply Mem.there)); first | done | fail) rfl | exact cellR (by assumption) (by (repeat (first | exact .here | apply Mem.there)); first | done | fail) | exact cellH (by assumption) (by (repeat (first | exact .here | apply Mem.there)); first | done | fail) | exact cell_ints (by (repeat (first | exact .here | apply Mem.there)); first | done | fail) (by omega) | exact cell_bools (by assumption) (by (repeat (first | exact .here | apply Mem.there)); first | done | fail) | exact cell_intsR (by (repeat (first | exact .here | apply Mem.there)); first | done | fail) (by omega) | exact cell_boolsR (by assumption) (by (repeat (first | exact .here | apply Mem.there)); first | done | fail))))
        focus (refine' dj_q rfl _ rfl rfl rfl rfl _; rotate_left; (apply q_idx0; exact rfl; exact rfl; exact rfl; exact rfl; omega))
        focus (refine' dj_q rfl _ rfl rfl rfl rfl _; rotate_left; (apply q_load; exact rfl; exact rfl; (first | exact cell_own (by (repeat (first | exact .here | apply Mem.there)); first | done | fail) rfl | exact cellR (by assumption) (by (repeat (first | exact .here | apply Mem.there)); first | done | fail) | exact cellH (by assumption) (by (repeat (first | exact .here | apply Mem.there)); first | done | fail) | exact cell_ints (by (repeat (first | exact .here | apply Mem.there)); first | done | fail) (by omega) | exact cell_bools (by assumption) (by (repeat (first | exact .here | apply Mem.there)); first | done | fail) | exact cell_intsR (by (repeat (first | exact .here | apply Mem.there)); first | done | fail) (by omega) | exact cell_boolsR (by assumption) (by (repeat (first | exact .here | apply Mem.there)); first | done | fail))))
        focus (refine' dj_q rfl _ rfl rfl rfl rfl _; rotate_left; (apply q_load; exact rfl; exact rfl; (first | exact cell_own (by (repeat (first | exact .here | apply Mem.there)); first | done | fail) rfl | exact cellR (by assumption) (by (repeat (first | exact .here | apply Mem.there)); first | done | fail) | exact cellH (by assumption) (by (repeat (first | exact .here | apply Mem.there)); first | done | fail) | exact cell_ints (by (repeat (first | exact .here | apply Mem.there)); first | done | fail) (by omega) | exact cell_bools (by assumption) (by (repeat (first | exact .here | apply Mem.there)); first | done | fail) | exact cell_intsR (by (repeat (first | exact .here | apply Mem.there)); first | done | fail) (by omega) | exact cell_boolsR (by assumption) (by (repeat (first | exact .here | apply Mem.there)); first | done | fail))))
        focus (refine' dj_q rfl _ rfl rfl rfl rfl _; rotate_left; (apply q_load; exact rfl; exact rfl; (first | exact cell_own (by (repeat (first | exact .here | apply Mem.there)); first | done | fail) rfl | exact cellR (by assumption) (by (repeat (first | exact .here | apply Mem.there)); first | done | fail) | exact cellH (by assumption) (by (repeat (first | exact .here | apply Mem.there)); first | done | fail) | exact cell_ints (by (repeat (first | exact .here | apply Mem.there)); first | done | fail) (by omega) | exact cell_bools (by assumption) (by (repeat (first | exact .here | apply Mem.there)); first | done | fail) | exact cell_intsR (by (repeat (first | exact .here | apply Mem.there)); first | done | fail) (by omega) | exact cell_boolsR (by assumption) (by (repeat (first | exact .here | apply Mem.there)); first | done | fail))))
        focus (refine' dj_q rfl _ rfl rfl rfl rfl _; rotate_left; (apply q_idx0; exact rfl; exact rfl; exact rfl; exact rfl; omega))
        focus (refine' dj_q rfl _ rfl rfl rfl rfl _; rotate_left; (apply q_load; exact rfl; exact rfl; (first | exact cell_own (by (repeat (first | exact .here | apply Mem.there)); first | done | fail) rfl | exact cellR (by assumption) (by (repeat (first | exact .here | apply Mem.there)); first | done | fail) | exact cellH (by assumption) (by (repeat (first | exact .here | apply Mem.there)); first | done | fail) | exact cell_ints (by (repeat (first | exact .here | apply Mem.there)); first | done | fail) (by omega) | exact cell_bools (by assumption) (by (repeat (first | exact .here | apply Mem.there)); first | done | fail) | exact cell_intsR (by (repeat (first | exact .here | apply Mem.there)); first | done | fail) (by omega) | exact cell_boolsR (by assumption) (by (repeat (first | exact .here | apply Mem.there)); first | done | fail))))
        focus (refine' dj_q rfl _ rfl rfl rfl rfl _; rotate_left; (apply q_sub; exact rfl; exact rfl; exact ⟨by omega, by omega⟩))
        focus (refine' dj_q rfl _ rfl rfl rfl rfl _; rotate_left; (apply q_eq; exact rfl; exact rfl; omega))
        refine dj_end ?_
        refine jk_if_t rfl ?_
        refine jk_seq ?_
        have hpv : pv.oneCell' = true := SlE.one (ownInts (e := 3) (l := ksOf pre) (ρ := ρp) (by rw [show (ksOf pre).length = pre.length from by simp [ksOf]]; exact hP))
        refine jk_draw (.q 0 (.q 1 (.q 2 (.p 5 (.p 6 (.l 3 .e (.l 4 .b (.l 7 .b (.l 8 .b .nil))))))))) [sng b (.cells #[int (x0.k : Int), int (x0.f : Int), int (x0.t : Int)] 75 (0, 0))] rfl (by kernel_rfl) (by (repeat (first | exact Sel.nil | (apply Sel.cons; (focus ((repeat (first | exact .here | apply Mem.there | apply Take.there)); first | done | fail))))); first | done | fail) ?_
        focus (refine' dj_q rfl _ rfl rfl rfl rfl _; rotate_left; (apply q_load; exact rfl; exact rfl; (first | exact cell_own (by (repeat (first | exact .here | apply Mem.there)); first | done | fail) rfl | exact cellR (by assumption) (by (repeat (first | exact .here | apply Mem.there)); first | done | fail) | exact cellH (by assumption) (by (repeat (first | exact .here | apply Mem.there)); first | done | fail) | exact cell_ints (by (repeat (first | exact .here | apply Mem.there)); first | done | fail) (by omega) | exact cell_bools (by assumption) (by (repeat (first | exact .here | apply Mem.there)); first | done | fail) | exact cell_intsR (by (repeat (first | exact .here | apply Mem.there)); first | done | fail) (by omega) | exact cell_boolsR (by assumption) (by (repeat (first | exact .here | apply Mem.there)); first | done | fail))))
        focus (refine' dj_q rfl _ rfl rfl rfl rfl _; rotate_left; (apply q_fld0; exact rfl; exact rfl))
        focus (refine' dj_q rfl _ rfl rfl rfl rfl _; rotate_left; (apply q_load; exact rfl; exact rfl; (first | exact cell_own (by (repeat (first | exact .here | apply Mem.there)); first | done | fail) rfl | exact cellR (by assumption) (by (repeat (first | exact .here | apply Mem.there)); first | done | fail) | exact cellH (by assumption) (by (repeat (first | exact .here | apply Mem.there)); first | done | fail) | exact cell_ints (by (repeat (first | exact .here | apply Mem.there)); first | done | fail) (by omega) | exact cell_bools (by assumption) (by (repeat (first | exact .here | apply Mem.there)); first | done | fail) | exact cell_intsR (by (repeat (first | exact .here | apply Mem.there)); first | done | fail) (by omega) | exact cell_boolsR (by assumption) (by (repeat (first | exact .here | apply Mem.there)); first | done | fail))))
        focus (refine' dj_p rfl _ rfl rfl rfl _; rotate_left; (apply q_fld0; exact rfl; exact rfl))
        focus (refine' dj_p rfl _ rfl rfl rfl _; rotate_left; (apply q_load; exact rfl; exact rfl; (first | exact cell_own (by (repeat (first | exact .here | apply Mem.there)); first | done | fail) rfl | exact cellR (by assumption) (by (repeat (first | exact .here | apply Mem.there)); first | done | fail) | exact cellH (by assumption) (by (repeat (first | exact .here | apply Mem.there)); first | done | fail) | exact cell_ints (by (repeat (first | exact .here | apply Mem.there)); first | done | fail) (by omega) | exact cell_bools (by assumption) (by (repeat (first | exact .here | apply Mem.there)); first | done | fail) | exact cell_intsR (by (repeat (first | exact .here | apply Mem.there)); first | done | fail) (by omega) | exact cell_boolsR (by assumption) (by (repeat (first | exact .here | apply Mem.there)); first | done | fail))))
        focus (refine dj_l ?_; refine' a_e rfl _ rfl rfl rfl _ _; rotate_left; (apply l_buildSlice; exact rfl; exact rfl; exact rfl; exact rfl; exact rfl; exact (by (repeat (first | exact (fun v hv => absurd hv List.not_mem_nil) | (refine List.forall_mem_cons.2 ⟨?_, ?_⟩; (focus (first | exact rfl | assumption))))); first | done | fail); exact (by (repeat (first | exact Flat.nil | apply Flat.one rfl | apply Flat.agg2 | apply Flat.agg3 | apply Flat.agg1 | apply Flat.agg4 | apply Flat.agg5)); first | done | fail); exact rfl); (focus (rintro _ _ ⟨b, rfl, rfl⟩ w hw; exact hw.tail)); rintro _ _ ⟨b, rfl, rfl⟩)
        refine dj_l ?_
        refine' a_b rfl _ rfl rfl rfl _ _
        rotate_left
        · exact l_append (by_ := 8) (s := 1) (news := [int (x0.k : Int)]) rfl rfl rfl rfl rfl rfl rfl hP (by (repeat (first | exact .here | apply Take.there)); first | done | fail) (cells_own (by (repeat (first | exact .here | apply Mem.there)); first | done | fail)) rfl (by (repeat (first | exact (fun v hv => absurd hv List.not_mem_nil) | (refine List.forall_mem_cons.2 ⟨?_, ?_⟩; (focus (first | exact rfl | assumption))))); first | done | fail) (by omega) (by simp only [maxLen]; omega) (by omega)
        · rintro _ _ ⟨_, _, rfl⟩ w hw; exact hw.sel (by (repeat (first | exact Sel.nil | (apply Sel.cons; (focus ((repeat (first | exact .here | apply Mem.there | apply Take.there)); first | done | fail))))); first | done | fail)
        rintro q9 _ ⟨ρ3, hQ3, rfl⟩
        have hQ4 : OwnS 3 1 q9 (pre ++ [x0]).length ((ksOf (pre ++ [x0])).map int) ρ3 := by
          have : (ksOf (pre ++ [x0])).map int = (ksOf pre).map int ++ [int (x0.k : Int)] := by simp [ksOf]
          rw [this, List.length_append]
          exact hQ3
        have hq9 : q9.oneCell' = true := SlE.one (ownInts (e := 3) (l := ksOf (pre ++ [x0])) (ρ := ρ3) (by rw [show (ksOf (pre ++ [x0])).length = (pre ++ [x0]).length from by simp [ksOf]]; exact hQ4))
        focus (refine dj_l ?_; refine' a_bn rfl _ rfl rfl _ _; rotate_left; (apply l_storeL; exact rfl; exact rfl; (first | exact rfl | assumption); exact rfl; exact (by (repeat (first | exact .here | apply Take.there)); first | done | fail); (focus (repeat (first | exact SetL.here | apply SetL.there)); done)); (focus (rintro _ _ ⟨_, rfl⟩ w hw; exact hw.sel (by (repeat (first | exact Sel.nil | (apply Sel.cons; (focus ((repeat (first | exact .here | apply Mem.there | apply Take.there)); first | done | fail))))); first | done | fail))); rintro _ _ ⟨rfl, rfl⟩)
        focus (refine dj_l ?_; refine' a_bn rfl _ rfl rfl _ _; rotate_left; (apply l_storeL; exact rfl; exact rfl; (first | exact rfl | assumption); exact rfl; exact (by (repeat (first | exact .here | apply Take.there)); first | done | fail); (focus (repeat (first | exact SetL.here | apply SetL.there)); done)); (focus (rintro _ _ ⟨_, rfl⟩ w hw; exact hw.sel (by (repeat (first | exact Sel.nil | (apply Sel.cons; (focus ((repeat (first | exact .here | apply Mem.there | apply Take.there)); first | done | fail))))); first | done | fail))); rintro _ _ ⟨rfl, rfl⟩)
        refine dj_end ?_
        skip
        exact jk_roundExit rfl (by (repeat (first | exact .here | apply Take.there)); first | done | fail) (by (repeat (first | exact rs_nil | (refine rs_cons ?_ ?_; (focus ((repeat (first | exact .here | apply Mem.there | apply Take.there)); first | done | fail))) | exact fun ρ hρ => hρ | (intro ρ hρ; repeat (first | exact hρ | refine List.mem_cons_of_mem _ ?_)))); first | done | fail) (by (repeat (first | exact Sel.nil | (apply Sel.cons; (focus ((repeat (first | exact .here | apply Mem.there | apply Take.there)); first | done | fail))))); first | done | fail) ⟨((q9, ρ3), x0.t), .inr ⟨rfl, .exit 2, ⟨rfl, rfl, hQ4⟩, rfl⟩⟩
      · focus (refine' dj_q rfl _ rfl rfl rfl rfl _; rotate_left; (apply q_load; exact rfl; exact rfl; (first | exact cell_own (by (repeat (first | exact .here | apply Mem.there)); first | done | fail) rfl | exact cellR (by assumption) (by (repeat (first | exact .here | apply Mem.there)); first | done | fail) | exact cellH (by assumption) (by (repeat (first | exact .here | apply Mem.there)); first | done | fail) | exact cell_ints (by (repeat (first | exact .here | apply Mem.there)); first | done | fail) (by omega) | exact cell_bools (by assumption) (by (repeat (first | exact .here | apply Mem.there)); first | done | fail) | exact cell_intsR (by (repeat (first | exact .here | apply Mem.there)); first | done | fail) (by omega) | exact cell_boolsR (by assumption) (by (repeat (first | exact .here | apply Mem.there)); first | done | fail))))
        focus (refine' dj_q rfl _ rfl rfl rfl rfl _; rotate_left; (apply q_fld0; exact rfl; exact rfl))
        focus (refine' dj_q rfl _ rfl rfl rfl rfl _; rotate_left; (apply q_load; exact rfl; exact rfl; (first | exact cell_own (by (repeat (first | exact .here | apply Mem.there)); first | done | fail) rfl | exact cellR (by assumption) (by (repeat (first | exact .here | apply Mem.there)); first | done | fail) | exact cellH (by assumption) (by (repeat (first | exact .here | apply Mem.there)); first | done | fail) | exact cell_ints (by (repeat (first | exact .here | apply Mem.there)); first | done | fail) (by omega) | exact cell_bools (by assumption) (by (repeat (first | exact .here | apply Mem.there)); first | done | fail) | exact cell_intsR (by (repeat (first | exact .here | apply Mem.there)); first | done | fail) (by omega) | exact cell_boolsR (by assumption) (by (repeat (first | exact .here | apply Mem.there)); first | done | fail))))
        focus (refine' dj_q rfl _ rfl rfl rfl rfl _; rotate_left; (apply q_idx0; exact rfl; exact rfl; exact rfl; exact rfl; omega))
        focus (refine' dj_q rfl _ rfl rfl rfl rfl _; rotate_left; (apply q_load; exact rfl; exact rfl; (first | exact cell_own (by (repeat (first | exact .here | apply Mem.there)); first | done | fail) rfl | exact cellR (by assumption) (by (repeat (first | exact .here | apply Mem.there)); first | done | fail) | exact cellH (by assumption) (by (repeat (first | exact .here | apply Mem.there)); first | done | fail) | exact cell_ints (by (repeat (first | exact .here | apply Mem.there)); first | done | fail) (by omega) | exact cell_bools (by assumption) (by (repeat (first | exact .here | apply Mem.there)); first | done | fail) | exact cell_intsR (by (repeat (first | exact .here | apply Mem.there)); first | done | fail) (by omega) | exact cell_boolsR (by assumption) (by (repeat (first | exact .here | apply Mem.there)); first | done | fail))))
        focus (refine' dj_q rfl _ rfl rfl rfl rfl _; rotate_left; (apply q_load; exact rfl; exact rfl; (first | exact cell_own (by (repeat (first | exact .here | apply Mem.there)); first | done | fail) rfl | exact cellR (by assumption) (by (repeat (first | exact .here | apply Mem.there)); first | done | fail) | exact cellH (by assumption) (by (repeat (first | exact .here | apply Mem.there)); first | done | fail) | exact cell_ints (by (repeat (first | exact .here | apply Mem.there)); first | done | fail) (by omega) | exact cell_bools (by assumption) (by (repeat (first | exact .here | apply Mem.there)); first | done | fail) | exact cell_intsR (by (repeat (first | exact .here | apply Mem.there)); first | done | fail) (by omega) | exact cell_boolsR (by assumption) (by (repeat (first | exact .here | apply Mem.there)); first | done | fail))))
        focus (refine' dj_q rfl _ rfl rfl rfl rfl _; rotate_left; (apply q_load; exact rfl; exact rfl; (first | exact cell_own (by (repeat (first | exact .here | apply Mem.there)); first | done | fail) rfl | exact cellR (by assumption) (by (repeat (first | exact .here | apply Mem.there)); first | done | fail) | exact cellH (by assumption) (by (repeat (first | exact .here | apply Mem.there)); first | done | fail) | exact cell_ints (by (repeat (first | exact .here | apply Mem.there)); first | done | fail) (by omega) | exact cell_bools (by assumption) (by (repeat (first | exact .here | apply Mem.there)); first | done | fail) | exact cell_intsR (by (repeat (first | exact .here | apply Mem.there)); first | done | fail) (by omega) | exact cell_boolsR (by assumption) (by (repeat (first | exact .here | apply Mem.there)); first | done | fail))))
        focus (refine' dj_q rfl _ rfl rfl rfl rfl _; rotate_left; (apply q_idx0; exact rfl; exact rfl; exact rfl; exact rfl; omega))
        focus (refine' dj_q rfl _ rfl rfl rfl rfl _; rotate_left; (apply q_load; exact rfl; exact rfl; (first | exact cell_own (by (repeat (first | exact .here | apply Mem.there)); first | done | fail) rfl | exact cellR (by assumption) (by (repeat (first | exact .here | apply Mem.there)); first | done | fail) | exact cellH (by assumption) (by (repeat (first | exact .here | apply Mem.there)); first | done | fail) | exact cell_ints (by (repeat (first | exact .here | apply Mem.there)); first | done | fail) (by omega) | exact cell_bools (by assumption) (by (repeat (first | exact .here | apply Mem.there)); first | done | fail) | exact cell_intsR (by (repeat (first | exact .here | apply Mem.there)); first | done | fail) (by omega) | exact cell_boolsR (by assumption) (by (repeat (first | exact .here | apply Mem.there)); first | done | fail))))
        focus (refine' dj_q rfl _ rfl rfl rfl rfl _; rotate_left; (apply q_sub; exact rfl; exact rfl; exact ⟨by omega, by omega⟩))
        focus (refine' dj_q rfl _ rfl rfl rfl rfl _; rotate_left; (apply q_eqF; exact rfl; exact rfl; omega))
        refine dj_end ?_
        refine jk_if_f rfl ?_
        refine jk_skip ?_
        refine jk_blk ?_
        refine jk_roundEnd (by (repeat (first | exact .here | apply Take.there)); first | done | fail) (by (repeat (first | exact rs_nil | (refine rs_cons ?_ ?_; (focus ((repeat (first | exact .here | apply Mem.there | apply Take.there)); first | done | fail))) | exact fun ρ hρ => hρ | (intro ρ hρ; repeat (first | exact hρ | refine List.mem_cons_of_mem _ ?_)))); first | done | fail) (by (repeat (first | exact Sel.nil | (apply Sel.cons; (focus ((repeat (first | exact .here | apply Mem.there | apply Take.there)); first | done | fail))))); first | done | fail) ⟨((pv, ρp), v), .inl ⟨rfl, ⟨rfl, ?_⟩, rfl⟩⟩
        rw [htk]
        intro y hy
        rcases List.mem_append.1 hy with hy | hy
        · exact hno y hy
        · rw [List.mem_singleton.1 hy]
          exact decide_eq_false hnr
    · rintro b2 x' ⟨rfl, hno⟩
      exfalso
      have hm := List.mem_of_find?_eq_some hx0
      have hp := List.find?_some hx0
      rw [hno x0 (by simpa [List.length_map] using hm)] at hp
      simp at hp
    · rintro b2 c ⟨⟨pv2, ρ2⟩, v2⟩ ⟨rfl, hv2, hP2⟩
      dsimp only at hv2 hP2 ⊢
      subst hv2
      simp only [List.cons_append, List.nil_append]
      refine jk_rdrop (R' := sng bD (.cells (ints D) 3 (0, 0)) :: sng b8 (.cells #[.slice (some ⟨bD, 0, none⟩) n n] 26 (0, 0)) :: β :: γ :: Rr) (by intro σ hσ; simp at hσ ⊢; rcases hσ with h | h | h | h | h <;> simp [h]) ?_
      refine jk_markJoin (b := b2) (by (repeat (first | exact .here | apply Take.there)); first | done | fail) (μ := μ) (by (repeat (first | exact .here | apply Take.there)); first | done | fail) hM ?_
      intro μ2 hM2
      refine jk_exit rfl ?_
      refine jk_blk ?_
      refine jk_seq ?_
      refine jk_region ?_
      focus (refine' jk_q _ rfl rfl rfl _; rotate_left; (apply q_load; exact rfl; exact rfl; (first | exact cell_own (by (repeat (first | exact .here | apply Mem.there)); first | done | fail) rfl | exact cellR (by assumption) (by (repeat (first | exact .here | apply Mem.there)); first | done | fail) | exact cellH (by assumption) (by (repeat (first | exact .here | apply Mem.there)); first | done | fail) | exact cell_ints (by (repeat (first | exact .here | apply Mem.there)); first | done | fail) (by omega) | exact cell_bools (by assumption) (by (repeat (first | exact .here | apply Mem.there)); first | done | fail) | exact cell_intsR (by (repeat (first | exact .here | apply Mem.there)); first | done | fail) (by omega) | exact cell_boolsR (by assumption) (by (repeat (first | exact .here | apply Mem.there)); first | done | fail))))
      refine jk_nil ?_
      refine jk_region ?_
      focus (refine' jk_op _ rfl rfl rfl _; rotate_left; (apply l_alloc1; exact rfl; exact rfl); rintro _ _ ⟨b, rfl, rfl⟩)
      focus (refine' jk_op_none _ rfl rfl _; rotate_left; (apply l_storeL; exact rfl; exact rfl; (first | exact rfl | assumption); exact rfl; exact (by (repeat (first | exact .here | apply Take.there)); first | done | fail); (focus (repeat (first | exact SetL.here | apply SetL.there)); done)); rintro _ _ ⟨rfl, rfl⟩)
      refine jk_nil ?_
      refine jk_roundD (((pre ++ [x0], x0.t), ((pv2, ρ2), b)), (b2 :: ms, μ2)) rfl ⟨hx0t, by dsimp only; omega, ?_, hP2, ?_, hM2⟩ (by dsimp only; omega) (by (repeat (first | exact trivial | refine And.intro rfl ?_)); first | done | fail) (by (repeat (first | exact Sel.nil | (apply Sel.cons; (focus ((repeat (first | exact .here | apply Mem.there | apply Take.there)); first | done | fail))))); first | done | fail)
      · dsimp only
        rw [hpre, pathD_step hx0 hdv hx0d, List.append_assoc]; rfl
      · dsimp only
        rw [List.length_append, List.length_singleton]; omega
end Go.Proofs.Ytoccdekghjoldaa
