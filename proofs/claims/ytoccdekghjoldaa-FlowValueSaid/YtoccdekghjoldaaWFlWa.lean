/- Paths of the reference; paths compared. -/
import Derived.Test.YtoccdekghjoldaaWFlW
import Derived.Test.YtoccdekghjoldaaWFlT
import Derived.Test.YtoccdekghjoldaaWMbPl
set_option linter.all false
namespace Go.Proofs.Ytoccdekghjoldaa
open Go.Eng Go.Flow
set_option maxRecDepth 100000
set_option maxHeartbeats 4000000

def encX (x : Lk × Int) : List Value := [int x.1.f, int x.1.t, int x.2]
theorem encX_len (x : Lk × Int) : (encX x).length = 3 := rfl
theorem ownRow {α : Type} {enc : α → List Value} {s : Nat} (he : ∀ x, (enc x).length = s) {e : TypeId} {b n cap : Nat} {l : List α} {ρ : PH} (h : OwnS e s (.slice (some ⟨b, 0, none⟩) n cap) l.length (l.flatMap enc) ρ) {i : Nat} {x : α} (hx : l[i]? = some x) : RdN ρ b (0 + i * s) (enc x) := by
  have hS : SlE enc s ρ (.slice (some ⟨b, 0, none⟩) n cap) l := h.at
  obtain ⟨p, c, e1, hr⟩ := hS.val he
  simp only [Value.slice.injEq] at e1
  obtain ⟨b', o', e2, h2⟩ := hr i x hx
  rw [← e1.1] at e2
  simp only [Option.some.injEq, Addr.mk.injEq, and_true] at e2
  obtain ⟨rfl, rfl⟩ := e2
  exact h2
theorem encX_flat (l : List Arc) (rest : List Int) : (leftL l rest).flatMap encX = (plinks l).flatMap (encR (rmP rest)) := by
  unfold leftL
  rw [List.flatMap_map]
  rfl
theorem leftAt {e : TypeId} {v : Value} {l : List Arc} {rest : List Int} {ρ : PH} (h : OwnS e 3 v (leftL l rest).length ((leftL l rest).flatMap encX) ρ) : SlE (encR (rmP rest)) 3 ρ v (plinks l) := by
  have h9 := h.at
  rw [encX_flat, leftL_len, ← plinks_len] at h9
  exact h9
set_option maxHeartbeats 8000000 in
theorem refPaths_spec (ρ σ : PH) (v u : Value) (n s t : Int) (l : List Arc) (fl : List Int) (hv : ArcsAt ρ v l) (hu : IntsAt σ u fl) (hl : l.length ≤ 1000000) :
    Makes Try.prog (fv 30) [int n, v, u, int s, int t] [ρ, σ] (fun r τ => ∃ w ps e, r = .tuple #[w, int e] ∧ PathsAt τ w ps ∧ PathsOK n l fl s t ps e) := by
  have hnil : PathsAt emp (.slice none 0 0) [] := ⟨[], ⟨rfl, .inl ⟨rfl, none, 0, rfl⟩⟩, ArcsIn.nil _⟩
  have hv2 := hv
  have hu2 := hu
  obtain ⟨q, c, rfl, hr⟩ := hv.val encA_len
  obtain ⟨q1, c1, rfl, hr1⟩ := hu.val encI_len
  refine spec_in (cap := []) Try.func30 rfl rfl Try.ntmps30 rfl (by (repeat (first | exact EnvA.nil EnvI.nil | apply EnvA.cons | apply EnvA.nil | exact EnvI.nil | apply EnvI.cons)); first | done | fail) (fun N β => ?_)
  refine jk_seq ?_
  refine jk_region ?_
  focus (refine' jk_q _ rfl rfl rfl _; rotate_left; (apply q_assign; exact rfl))
  focus (refine' jk_q _ rfl rfl rfl _; rotate_left; (apply q_assign; exact rfl))
  refine jk_nil ?_
  refine jk_seq ?_
  refine jk_seq ?_
  refine jk_region ?_
  focus (refine' jk_q _ rfl rfl rfl _; rotate_left; (apply q_move; exact rfl))
  focus (refine' jk_q _ rfl rfl rfl _; rotate_left; (apply q_move; exact rfl))
  focus (refine' jk_q _ rfl rfl rfl _; rotate_left; (apply q_move; exact rfl))
  focus (refine' jk_q _ rfl rfl rfl _; rotate_left; (apply q_move; exact rfl))
  focus (refine' jk_q _ rfl rfl rfl _; rotate_left; (apply q_move; exact rfl))
  refine jk_call (refValue_spec ρ σ _ _ n s t l fl hv2 hu2 hl) rfl rfl (by (repeat (first | exact RdOK.nil | (refine RdOK.consR ?_ ?_; (focus ((repeat (first | exact .here | apply Mem.there | apply Take.there)); first | done | fail))) | (refine RdOK.consH ?_ ?_; (focus ((repeat (first | exact .here | apply Mem.there | apply Take.there)); first | done | fail))) | exact (fun τ hτ => .inl (by simp [hτ])))); first | done | fail) rfl rfl ?_
  rintro _ rfl
  by_cases h0 : (valueSpec n l fl s t).2 = 0
  rotate_left
  · focus (refine' jk_q _ rfl rfl rfl _; rotate_left; (apply q_move; exact rfl))
    focus (refine' jk_q _ rfl rfl rfl _; rotate_left; (apply q_extract; exact rfl; exact rfl))
    focus (refine' jk_q _ rfl rfl rfl _; rotate_left; (apply q_extract; exact rfl; exact rfl))
    focus (refine' jk_q _ rfl rfl rfl _; rotate_left; (apply q_assign; exact rfl))
    focus (refine' jk_q _ rfl rfl rfl _; rotate_left; (apply q_assign; exact rfl))
    refine jk_nil ?_
    refine jk_seq ?_
    refine jk_region ?_
    focus (refine' jk_q _ rfl rfl rfl _; rotate_left; (apply q_move; exact rfl))
    focus (refine' jk_q _ rfl rfl rfl _; rotate_left; (apply q_ne; exact rfl; exact rfl; omega))
    refine jk_nil ?_
    refine jk_if_t rfl ?_
    refine jk_seq ?_
    refine jk_region ?_
    focus (refine' jk_q _ rfl rfl rfl _; rotate_left; (apply q_move; exact rfl))
    focus (refine' jk_q _ rfl rfl rfl _; rotate_left; (apply q_assign; exact rfl))
    focus (refine' jk_q _ rfl rfl rfl _; rotate_left; (apply q_assign; exact rfl))
    refine jk_nil ?_
    refine jk_emp ?_
    exact jk_ret_any (res2 rfl rfl rfl) (by (repeat (first | exact rs_nil | (refine rs_cons ?_ ?_; (focus ((repeat (first | exact .here | apply Mem.there | apply Take.there)); first | done | fail))) | exact fun ρ hρ => hρ | (intro ρ hρ; repeat (first | exact hρ | refine List.mem_cons_of_mem _ ?_)))); first | done | fail) (by (repeat (first | exact Sel.nil | (apply Sel.cons; (focus ((repeat (first | exact .here | apply Mem.there | apply Take.there)); first | done | fail))))); first | done | fail) ⟨emp, ⟨_, [], _, rfl, hnil, .inl ⟨h0, rfl, rfl⟩⟩, rfl⟩
  obtain ⟨n', s', t', g, hF0, _⟩ := value_good h0
  obtain ⟨rfl, rfl, rfl⟩ := And.intro g.en (And.intro g.es g.et)
  have hn2 := g.n2
  have hl2 := g.l2
  have hpl := pl_lt g.ok
  have hlen0 := hF0.len
  have hcap : ∀ a ∈ l, 0 ≤ a.c ∧ a.c ≤ 1099511627776 := fun a ha => by have := okArc_iff.1 (g.ok a ha); omega
  refine jk_emp ?_
  focus (refine' jk_q _ rfl rfl rfl _; rotate_left; (apply q_move; exact rfl))
  focus (refine' jk_q _ rfl rfl rfl _; rotate_left; (apply q_extract; exact rfl; exact rfl))
  focus (refine' jk_q _ rfl rfl rfl _; rotate_left; (apply q_extract; exact rfl; exact rfl))
  focus (refine' jk_q _ rfl rfl rfl _; rotate_left; (apply q_assign; exact rfl))
  focus (refine' jk_q _ rfl rfl rfl _; rotate_left; (apply q_assign; exact rfl))
  refine jk_nil ?_
  refine jk_seq ?_
  refine jk_region ?_
  focus (refine' jk_q _ rfl rfl rfl _; rotate_left; (apply q_move; exact rfl))
  focus (refine' jk_q _ rfl rfl rfl _; rotate_left; (apply q_neF; exact rfl; exact rfl; omega))
  refine jk_nil ?_
  refine jk_if_f rfl ?_
  refine jk_skip ?_
  refine jk_seq ?_
  refine jk_region ?_
  focus (refine' jk_q _ rfl rfl rfl _; rotate_left; (apply q_assign; exact rfl))
  refine jk_nil ?_
  refine jk_seq ?_
  refine jk_seq ?_
  refine jk_region ?_
  focus (refine' jk_q _ rfl rfl rfl _; rotate_left; (apply q_assign; exact rfl))
  refine jk_nil ?_
  refine jk_block ?_
  refine jk_loop [0, 1, 2, 3, 4] (X := Nat × (Value × PH)) (0, (.slice none 0 0, emp)) (fun x => x.1 ≤ l.length ∧ OwnS 78 3 x.2.1 (leftL (l.take x.1) fl).length ((leftL (l.take x.1) fl).flatMap encX) x.2.2) (fun x => [(14, x.2.1), (15, int x.1)]) (fun x => [x.2.2]) (fun x => l.length - x.1)
    (by (repeat (first | exact Pick.nil | apply Pick.cons rfl)); first | done | fail) ⟨by dsimp only; omega, OwnS.nil _ _⟩ (by (repeat (first | exact trivial | refine And.intro rfl ?_)); first | done | fail) (by (repeat (first | exact Sel.nil | (apply Sel.cons; (focus ((repeat (first | exact .here | apply Mem.there | apply Take.there)); first | done | fail))))); first | done | fail) ?_
  rintro ⟨k, ⟨lv, ρl⟩⟩ ⟨hk, hOl⟩
  dsimp only at hk hOl ⊢
  by_cases hlt : k < l.length
  · have hx := List.getElem?_eq_getElem hlt
    obtain ⟨b', o, rfl, hA, h0', h1', h2'⟩ := arcRow hr hx
    have hlt1 : k < fl.length := by omega
    obtain ⟨b2, o2, rfl, g3'⟩ := hr1.int (List.getElem?_eq_getElem hlt1)
    obtain ⟨g1, g2, g3, g4, g5, g6, g7⟩ := okArc_iff.1 (g.ok l[k] (List.getElem_mem hlt))
    obtain ⟨f, hf⟩ := Int.eq_ofNat_of_zero_le g1
    obtain ⟨t2, ht2⟩ := Int.eq_ofNat_of_zero_le g3
    have hsn := leftL_snoc (fl := fl) hlt hlt1
    have hll := leftL_len (l.take k) fl
    have hlk : (l.take k).length = k := by simp; omega
    rw [hf, ht2] at hsn
    simp only [Int.toNat_natCast] at hsn
    rw [hf] at h0'
    rw [ht2] at h1'
    refine jk_seq ?_
    refine jk_seq ?_
    refine jk_region ?_
    focus (refine' jk_q _ rfl rfl rfl _; rotate_left; (apply q_move; exact rfl))
    focus (refine' jk_q _ rfl rfl rfl _; rotate_left; (apply q_move; exact rfl))
    focus (refine' jk_q _ rfl rfl rfl _; rotate_left; (apply q_len; exact rfl; exact rfl))
    focus (refine' jk_q _ rfl rfl rfl _; rotate_left; (apply q_lt; exact rfl; exact rfl; omega))
    refine jk_nil ?_
    refine jk_if_t rfl ?_
    refine jk_skip ?_
    refine jk_seq ?_
    refine jk_block ?_
    refine jk_draw (.q 0 (.q 1 (.q 2 (.q 3 (.q 4 (.q 5 (.q 6 (.q 7 (.q 8 (.q 9 (.q 10 (.q 11 (.q 12 (.q 13 (.q 14 (.q 15 (.l 16 .e (.l 17 .b (.l 18 .b .nil))))))))))))))))))) [] rfl (by kernel_rfl) (by (repeat (first | exact Sel.nil | (apply Sel.cons; (focus ((repeat (first | exact .here | apply Mem.there | apply Take.there)); first | done | fail))))); first | done | fail) ?_
    focus (refine' dj_q rfl _ rfl rfl rfl rfl _; rotate_left; (apply q_move; exact rfl))
    focus (refine' dj_q rfl _ rfl rfl rfl rfl _; rotate_left; (apply q_move; exact rfl))
    focus (refine' dj_q rfl _ rfl rfl rfl rfl _; rotate_left; (apply q_move; exact rfl))
    focus (refine' dj_q rfl _ rfl rfl rfl rfl _; rotate_left; (apply q_idxN; exact rfl; exact rfl; exact rfl; exact rfl; omega))
    focus (refine' dj_q rfl _ rfl rfl rfl rfl _; rotate_left; (apply q_fldZ; exact rfl; exact rfl))
    focus (refine' dj_q rfl _ rfl rfl rfl rfl _; rotate_left; (apply q_load; exact rfl; exact rfl; (first | exact cell_own (by (repeat (first | exact .here | apply Mem.there)); first | done | fail) rfl | exact cellR (by assumption) (by (repeat (first | exact .here | apply Mem.there)); first | done | fail) | exact cellH (by assumption) (by (repeat (first | exact .here | apply Mem.there)); first | done | fail) | exact cell_ints (by (repeat (first | exact .here | apply Mem.there)); first | done | fail) (by omega) | exact cell_bools (by assumption) (by (repeat (first | exact .here | apply Mem.there)); first | done | fail) | exact cell_intsR (by (repeat (first | exact .here | apply Mem.there)); first | done | fail) (by omega) | exact cell_boolsR (by assumption) (by (repeat (first | exact .here | apply Mem.there)); first | done | fail))))
    focus (refine' dj_q rfl _ rfl rfl rfl rfl _; rotate_left; (apply q_move; exact rfl))
    focus (refine' dj_q rfl _ rfl rfl rfl rfl _; rotate_left; (apply q_move; exact rfl))
    focus (refine' dj_q rfl _ rfl rfl rfl rfl _; rotate_left; (apply q_idxN; exact rfl; exact rfl; exact rfl; exact rfl; omega))
    focus (refine' dj_q rfl _ rfl rfl rfl rfl _; rotate_left; (apply q_fld; exact rfl; exact rfl))
    focus (refine' dj_q rfl _ rfl rfl rfl rfl _; rotate_left; (apply q_load; exact rfl; exact rfl; (first | exact cell_own (by (repeat (first | exact .here | apply Mem.there)); first | done | fail) rfl | exact cellR (by assumption) (by (repeat (first | exact .here | apply Mem.there)); first | done | fail) | exact cellH (by assumption) (by (repeat (first | exact .here | apply Mem.there)); first | done | fail) | exact cell_ints (by (repeat (first | exact .here | apply Mem.there)); first | done | fail) (by omega) | exact cell_bools (by assumption) (by (repeat (first | exact .here | apply Mem.there)); first | done | fail) | exact cell_intsR (by (repeat (first | exact .here | apply Mem.there)); first | done | fail) (by omega) | exact cell_boolsR (by assumption) (by (repeat (first | exact .here | apply Mem.there)); first | done | fail))))
    focus (refine' dj_q rfl _ rfl rfl rfl rfl _; rotate_left; (apply q_move; exact rfl))
    focus (refine' dj_q rfl _ rfl rfl rfl rfl _; rotate_left; (apply q_move; exact rfl))
    focus (refine' dj_q rfl _ rfl rfl rfl rfl _; rotate_left; (apply q_idx1; exact rfl; exact rfl; exact rfl; exact rfl; omega))
    focus (refine' dj_q rfl _ rfl rfl rfl rfl _; rotate_left; (apply q_load; exact rfl; exact rfl; (first | exact cell_own (by (repeat (first | exact .here | apply Mem.there)); first | done | fail) rfl | exact cellR (by assumption) (by (repeat (first | exact .here | apply Mem.there)); first | done | fail) | exact cellH (by assumption) (by (repeat (first | exact .here | apply Mem.there)); first | done | fail) | exact cell_ints (by (repeat (first | exact .here | apply Mem.there)); first | done | fail) (by omega) | exact cell_bools (by assumption) (by (repeat (first | exact .here | apply Mem.there)); first | done | fail) | exact cell_intsR (by (repeat (first | exact .here | apply Mem.there)); first | done | fail) (by omega) | exact cell_boolsR (by assumption) (by (repeat (first | exact .here | apply Mem.there)); first | done | fail))))
    focus (refine' dj_q rfl _ rfl rfl rfl rfl _; rotate_left; (apply q_build; exact rfl; exact rfl; exact (by (repeat (first | exact Bld.nil | apply Bld.put rfl rfl rfl | apply Bld.keep rfl)); first | done | fail)))
    focus (refine dj_l ?_; refine' a_e rfl _ rfl rfl rfl _ _; rotate_left; (apply l_buildSlice; exact rfl; exact rfl; exact rfl; exact rfl; exact rfl; exact (by (repeat (first | exact (fun v hv => absurd hv List.not_mem_nil) | (refine List.forall_mem_cons.2 ⟨?_, ?_⟩; (focus (first | exact rfl | assumption))))); first | done | fail); exact (by (repeat (first | exact Flat.nil | apply Flat.one rfl | apply Flat.agg2 | apply Flat.agg3 | apply Flat.agg1 | apply Flat.agg4 | apply Flat.agg5)); first | done | fail); exact rfl); (focus (rintro _ _ ⟨b, rfl, rfl⟩ w hw; exact hw.tail)); rintro _ _ ⟨b, rfl, rfl⟩)
    refine dj_l ?_
    refine' a_b rfl _ rfl rfl rfl _ _
    rotate_left
    · exact l_append (by_ := 24) (s := 3) (news := [int (f : Int), int (t2 : Int), int fl[k]]) rfl rfl rfl rfl rfl rfl rfl hOl (by (repeat (first | exact .here | apply Take.there)); first | done | fail) (cells_own (by (repeat (first | exact .here | apply Mem.there)); first | done | fail)) rfl (by (repeat (first | exact (fun v hv => absurd hv List.not_mem_nil) | (refine List.forall_mem_cons.2 ⟨?_, ?_⟩; (focus (first | exact rfl | assumption))))); first | done | fail) (by omega) (by simp only [maxLen]; omega) (by omega)
    · rintro _ _ ⟨_, _, rfl⟩ w hw; exact hw.sel (by (repeat (first | exact Sel.nil | (apply Sel.cons; (focus ((repeat (first | exact .here | apply Mem.there | apply Take.there)); first | done | fail))))); first | done | fail)
    rintro q9 _ ⟨ρ3, hQ3, rfl⟩
    focus (refine dj_l ?_; refine' a_bq rfl _ rfl rfl rfl (by (repeat (first | exact Sel.nil | (apply Sel.cons; (focus ((repeat (first | exact .here | apply Mem.there | apply Take.there)); first | done | fail))))); first | done | fail) _; rotate_left; (apply q_assign; exact rfl))
    refine dj_end ?_
    refine jk_blk ?_
    refine jk_region ?_
    focus (refine' jk_q _ rfl rfl rfl _; rotate_left; (apply q_move; exact rfl))
    focus (refine' jk_q _ rfl rfl rfl _; rotate_left; (apply q_inc; exact rfl; exact rfl; omega))
    focus (refine' jk_q _ rfl rfl rfl _; rotate_left; (apply q_assign; exact rfl))
    refine jk_nil ?_
    refine jk_round (k + 1, (q9, ρ3)) ⟨by dsimp only; omega, ?_⟩ (by dsimp only; omega) (by (repeat (first | exact trivial | refine And.intro rfl ?_)); first | done | fail) (by (repeat (first | exact Sel.nil | (apply Sel.cons; (focus ((repeat (first | exact .here | apply Mem.there | apply Take.there)); first | done | fail))))); first | done | fail)
    dsimp only
    rw [hsn, List.length_append, List.flatMap_append]
    exact hQ3
  rw [List.take_of_length_le (by omega)] at hOl
  refine jk_emp ?_
  refine jk_emp ?_
  refine jk_seq ?_
  refine jk_seq ?_
  refine jk_region ?_
  focus (refine' jk_q _ rfl rfl rfl _; rotate_left; (apply q_move; exact rfl))
  focus (refine' jk_q _ rfl rfl rfl _; rotate_left; (apply q_move; exact rfl))
  focus (refine' jk_q _ rfl rfl rfl _; rotate_left; (apply q_len; exact rfl; exact rfl))
  focus (refine' jk_q _ rfl rfl rfl _; rotate_left; (apply q_ltF; exact rfl; exact rfl; omega))
  refine jk_nil ?_
  refine jk_if_f rfl ?_
  refine jk_exit rfl ?_
  refine jk_seq ?_
  refine jk_region ?_
  focus (refine' jk_q _ rfl rfl rfl _; rotate_left; (apply q_assign; exact rfl))
  refine jk_nil ?_
  refine jk_seq ?_
  refine jk_block ?_
  refine jk_loop [0, 1, 3, 4, 14] (X := (List Int × List (List Lk × Int)) × ((Value × List (Value × Int)) × ((PH × PH) × PH))) ((fl, []), ((.slice none 0 0, []), ((emp, emp), ρl)))
    (fun x => Flw n' l s' t' x.1.1 ∧ (∀ ps r, RunP n' l s' t' x.1.1 ps r → RunP n' l s' t' fl (x.1.2 ++ ps) r) ∧ OwnS 78 3 lv (leftL l x.1.1).length ((leftL l x.1.1).flatMap encX) x.2.2.2 ∧ OwnS 51 2 x.2.1.1 x.2.1.2.length (x.2.1.2.flatMap encPV) x.2.2.1.1 ∧ ArcsIn x.2.2.1.2 x.2.1.2 x.1.2 ∧ x.1.2.length + npos x.1.1 ≤ l.length)
    (fun x => [(16, x.2.1.1)]) (fun x => [x.2.2.2, x.2.2.1.1, x.2.2.1.2]) (fun x => (fval s' l x.1.1 + 1099511627776 * (2 * (l.length : Int))).toNat)
    (by (repeat (first | exact Pick.nil | apply Pick.cons rfl)); first | done | fail) ⟨hF0, fun _ _ h => h, hOl, OwnS.nil _ _, ArcsIn.nil _, by have := npos_len fl; dsimp only [List.length_nil]; omega⟩ (by (repeat (first | exact trivial | refine And.intro rfl ?_)); first | done | fail) (by (repeat (first | exact Sel.nil | (apply Sel.cons; (focus ((repeat (first | exact .here | apply Mem.there | apply Take.there)); first | done | fail))))); first | done | fail) ?_
  rintro ⟨⟨rest, ps⟩, ⟨⟨ov, es⟩, ⟨⟨ρo, ρa⟩, ρ1⟩⟩⟩ ⟨hF, hrun, hO1, hOo, hAr, hcnt⟩
  dsimp only at hF hrun hO1 hOo hAr hcnt ⊢
  have hb1 := fval_bd s' l rest (inCap_small l _ hF.len hF.cap g.ok)
  rw [← hF.len] at hb1
  refine jk_seq ?_
  refine jk_if_t rfl ?_
  refine jk_skip ?_
  refine jk_block ?_
  refine jk_seq ?_
  refine jk_region ?_
  focus (refine' jk_q _ rfl rfl rfl _; rotate_left; (apply q_move; exact rfl))
  focus (refine' jk_q _ rfl rfl rfl _; rotate_left; (apply q_move; exact rfl))
  focus (refine' jk_q _ rfl rfl rfl _; rotate_left; (apply q_move; exact rfl))
  focus (refine' jk_q _ rfl rfl rfl _; rotate_left; (apply q_move; exact rfl))
  refine jk_callM (refPath_spec ρ1 lv n' s' t' (plinks l) (rmP rest) (leftAt hO1) hpl (plinks_at l) hn2 (by rw [plinks_len]; omega) g.sn g.tn) rfl rfl (by (repeat (first | exact RdOK.nil | (refine RdOK.consR ?_ ?_; (focus ((repeat (first | exact .here | apply Mem.there | apply Take.there)); first | done | fail))) | (refine RdOK.consH ?_ ?_; (focus ((repeat (first | exact .here | apply Mem.there | apply Take.there)); first | done | fail))) | exact (fun τ hτ => .inl (by simp [hτ])))); first | done | fail) rfl rfl ?_
  rintro _ ρp ⟨D, pv, hD, rfl, hP⟩
  by_cases hd0 : 0 ≤ D.getD s' 0
  rotate_left
  · have hpn : pathD (nxt (plinks l) (rmP rest) D) D s' = [] := pathD_end (by omega)
    obtain ⟨q2, c2, rfl⟩ : ∃ p c, pv = .slice p 0 c := by
      have h9 := SlAt.cap hP.at
      rw [hpn] at h9
      exact h9
    focus (refine' jk_q _ rfl rfl rfl _; rotate_left; (apply q_move; exact rfl))
    focus (refine' jk_q _ rfl rfl rfl _; rotate_left; (apply q_extract; exact rfl; exact rfl))
    focus (refine' jk_q _ rfl rfl rfl _; rotate_left; (apply q_extract; exact rfl; exact rfl))
    focus (refine' jk_q _ rfl rfl rfl _; rotate_left; (apply q_assign; exact rfl))
    focus (refine' jk_q _ rfl rfl rfl _; rotate_left; (apply q_assign; exact rfl))
    refine jk_nil ?_
    refine jk_seq ?_
    refine jk_seq ?_
    refine jk_region ?_
    focus (refine' jk_q _ rfl rfl rfl _; rotate_left; (apply q_move; exact rfl))
    focus (refine' jk_q _ rfl rfl rfl _; rotate_left; (apply q_len; exact rfl; exact rfl))
    focus (refine' jk_q _ rfl rfl rfl _; rotate_left; (apply q_eq; exact rfl; exact rfl; omega))
    refine jk_nil ?_
    refine jk_if_t rfl ?_
    refine jk_seq ?_
    refine jk_region ?_
    focus (refine' jk_q _ rfl rfl rfl _; rotate_left; (apply q_move; exact rfl))
    focus (refine' jk_q _ rfl rfl rfl _; rotate_left; (apply q_assign; exact rfl))
    focus (refine' jk_q _ rfl rfl rfl _; rotate_left; (apply q_assign; exact rfl))
    refine jk_nil ?_
    refine jk_join (ρ := ρo) (by (repeat (first | exact .here | apply Take.there)); first | done | fail) (σ := ρa) (by (repeat (first | exact .here | apply Take.there)); first | done | fail) (fun δ k1 k2 => ?_)
    refine jk_ret_any (res2 rfl rfl rfl) (by (repeat (first | exact rs_nil | (refine rs_cons ?_ ?_; (focus ((repeat (first | exact .here | apply Mem.there | apply Take.there)); first | done | fail))) | exact fun ρ hρ => hρ | (intro ρ hρ; repeat (first | exact hρ | refine List.mem_cons_of_mem _ ?_)))); first | done | fail) (by (repeat (first | exact Sel.nil | (apply Sel.cons; (focus ((repeat (first | exact .here | apply Mem.there | apply Take.there)); first | done | fail))))); first | done | fail) ⟨δ, ⟨ov, ps, 0, rfl, ⟨es, k1.slE hOo.at, hAr.sub k2⟩, .inr ⟨h0, rfl, rest, ?_⟩⟩, rfl⟩
    have := hrun [] rest (.done hD (by omega))
    simpa using this
  obtain ⟨hN1, hN2, hN3⟩ := pNext_ok g.ok g.sn g.ne hF hD hd0
  obtain ⟨k0, hk0⟩ := Int.eq_ofNat_of_zero_le hd0
  have hDn := hD.lt (fun x hx => hpl x hx.1) g.tn g.sn
  have hPl : (pP l rest D s').length = k0 := path_len hpl hD k0 s' g.sn hk0
  have hk1 : k0 ≠ 0 := fun h => by
    subst h
    exact g.ne (hD.zero s' g.sn (by omega))
  have hPm : ∀ x ∈ pP l rest D s', x ∈ plinks l := fun x hx => ((path_chn hpl hD k0 s' g.sn hk0).all x hx).1.1
  have hroom2 : leastR (rmP rest) (pP l rest D s') ≤ 1099511627776 := (leastR_le _ _ _).1
  have hroom3 : 0 < leastR (rmP rest) (pP l rest D s') := hN2
  have hrl2 : rmin (rmP rest) (pathD (nxt (plinks l) (rmP rest) D) D s') = leastR (rmP rest) (pP l rest D s') := rmin_least _ _ (fun h => by rw [show pP l rest D s' = [] from h] at hPl; simp at hPl; omega) (fun x hx => rmP_le g.ok hF.len hF.cap (hPm x hx))
  rw [hrl2]
  have hIn : IntsAt ρp pv (ksOf (pP l rest D s')) := ownInts (e := 3) (by rw [show (ksOf (pP l rest D s')).length = (pP l rest D s').length from by simp [ksOf]]; exact hP)
  have hpv1 : pv.oneCell' = true := SlE.one hIn
  obtain ⟨q2, c2, rfl, hr2⟩ := hIn.val encI_len
  have hkl : (ksOf (pP l rest D s')).length = (pP l rest D s').length := by simp [ksOf]
  have hmu := fval_bd s' l (pNext l rest D s') (inCap_small l _ hN1.len hN1.cap g.ok)
  rw [← hN1.len] at hmu
  focus (refine' jk_q _ rfl rfl rfl _; rotate_left; (apply q_move; exact rfl))
  focus (refine' jk_q _ rfl rfl rfl _; rotate_left; (apply q_extract; exact rfl; exact rfl))
  focus (refine' jk_q _ rfl rfl rfl _; rotate_left; (apply q_extract; exact rfl; exact rfl))
  focus (refine' jk_q _ rfl rfl rfl _; rotate_left; (apply q_assign; exact rfl))
  focus (refine' jk_q _ rfl rfl rfl _; rotate_left; (apply q_assign; exact rfl))
  refine jk_nil ?_
  refine jk_seq ?_
  refine jk_seq ?_
  refine jk_region ?_
  focus (refine' jk_q _ rfl rfl rfl _; rotate_left; (apply q_move; exact rfl))
  focus (refine' jk_q _ rfl rfl rfl _; rotate_left; (apply q_len; exact rfl; exact rfl))
  focus (refine' jk_q _ rfl rfl rfl _; rotate_left; (apply q_eqF; exact rfl; exact rfl; omega))
  refine jk_nil ?_
  refine jk_if_f rfl ?_
  refine jk_skip ?_
  refine jk_seq ?_
  refine jk_seq ?_
  refine jk_region ?_
  focus (refine' jk_q _ rfl rfl rfl _; rotate_left; (apply q_assign; exact rfl))
  refine jk_nil ?_
  refine jk_block ?_
  refine jk_loop [0, 1, 3, 4, 14, 16, 17, 18] (X := Nat × PH) (0, ρ1) (fun x => x.1 ≤ (pP l rest D s').length ∧ OwnS 78 3 lv (leftL l (subAll (pRoom l rest D s') rest ((pP l rest D s').take x.1))).length ((leftL l (subAll (pRoom l rest D s') rest ((pP l rest D s').take x.1))).flatMap encX) x.2) (fun x => [(19, int x.1)])
    (fun x => [x.2, ρo, ρa, ρp]) (fun x => (pP l rest D s').length - x.1) (by (repeat (first | exact Pick.nil | apply Pick.cons rfl)); first | done | fail) ⟨by dsimp only; omega, by simpa [subAll] using hO1⟩ (by (repeat (first | exact trivial | refine And.intro rfl ?_)); first | done | fail) (by (repeat (first | exact Sel.nil | (apply Sel.cons; (focus ((repeat (first | exact .here | apply Mem.there | apply Take.there)); first | done | fail))))); first | done | fail) ?_
  rintro ⟨i, ρ2⟩ ⟨hi, hO2⟩
  dsimp only at hi hO2 ⊢
  have hal : (subAll (pRoom l rest D s') rest ((pP l rest D s').take i)).length = l.length := by rw [subAll_len]; exact hF.len.symm
  by_cases hlt2 : i < (pP l rest D s').length
  · have hx : (ksOf (pP l rest D s'))[i]? = some ((pP l rest D s')[i].k : Int) := by simp [ksOf, hlt2]
    obtain ⟨b, o, rfl, g0⟩ := hr2.int hx
    have hxm := hPm _ (List.getElem_mem hlt2)
    have hxk := pl_k hxm
    have hxa : (plinks l)[(pP l rest D s')[i].k]? = some (pP l rest D s')[i] := by
      obtain ⟨j, a, ha, e⟩ := plinks_iff.1 hxm
      rw [plinks_get, e]
      dsimp only
      rw [ha]; rfl
    have hle := leftL_get (rest := subAll (pRoom l rest D s') rest ((pP l rest D s').take i)) hxa
    have hll := leftL_len l (subAll (pRoom l rest D s') rest ((pP l rest D s').take i))
    rcases hO2.block with ⟨_, h2, _⟩ | ⟨br, cap, cur, rfl, _⟩
    · rw [h2] at hll; simp at hll; omega
    have r1 := ownRow encX_len hO2 hle
    have r2 : rdc ρ2 br (0 + (pP l rest D s')[i].k * 3 + 2) = some (int (rmP (subAll (pRoom l rest D s') rest ((pP l rest D s').take i)) (pP l rest D s')[i].k)) := r1.get (j := 2) rfl
    have hic := inCap_get l _ (pTake_cap g.ok g.sn hF hD hd0 i) (pP l rest D s')[i].k (l[(pP l rest D s')[i].k]'(by omega)) ((subAll (pRoom l rest D s') rest ((pP l rest D s').take i)).getD (pP l rest D s')[i].k 0) (List.getElem?_eq_getElem (by omega)) (by rw [List.getD_eq_getElem?_getD, List.getElem?_eq_getElem (by omega)]; rfl)
    have hic2 : 0 ≤ rmP (subAll (pRoom l rest D s') rest ((pP l rest D s').take i)) (pP l rest D s')[i].k ∧ rmP (subAll (pRoom l rest D s') rest ((pP l rest D s').take i)) (pP l rest D s')[i].k ≤ l[(pP l rest D s')[i].k].c := hic
    have hcc := hcap _ (List.getElem_mem (show (pP l rest D s')[i].k < l.length by omega))
    have hsn := subAll_snoc (pRoom l rest D s') rest ((pP l rest D s').take i) (pP l rest D s')[i]
    rw [← take_snoc' hlt2] at hsn
    unfold subP at hsn
    have hset := leftL_set (rest := subAll (pRoom l rest D s') rest ((pP l rest D s').take i)) (rmP (subAll (pRoom l rest D s') rest ((pP l rest D s').take i)) (pP l rest D s')[i].k - leastR (rmP rest) (pP l rest D s')) hxa hal.symm
    refine jk_seq ?_
    refine jk_seq ?_
    refine jk_region ?_
    focus (refine' jk_q _ rfl rfl rfl _; rotate_left; (apply q_move; exact rfl))
    focus (refine' jk_q _ rfl rfl rfl _; rotate_left; (apply q_move; exact rfl))
    focus (refine' jk_q _ rfl rfl rfl _; rotate_left; (apply q_len; exact rfl; exact rfl))
    focus (refine' jk_q _ rfl rfl rfl _; rotate_left; (apply q_lt; exact rfl; exact rfl; omega))
    refine jk_nil ?_
    refine jk_if_t rfl ?_
    refine jk_skip ?_
    refine jk_seq ?_
    refine jk_block ?_
    refine jk_region ?_
    focus (refine' jk_q _ rfl rfl rfl _; rotate_left; (apply q_move; exact rfl))
    focus (refine' jk_q _ rfl rfl rfl _; rotate_left; (apply q_move; exact rfl))
    focus (refine' jk_q _ rfl rfl rfl _; rotate_left; (apply q_move; exact rfl))
    focus (refine' jk_q _ rfl rfl rfl _; rotate_left; (apply q_idx1; exact rfl; exact rfl; exact rfl; exact rfl; omega))
    focus (refine' jk_q _ rfl rfl rfl _; rotate_left; (apply q_load; exact rfl; exact rfl; (first | exact cell_own (by (repeat (first | exact .here | apply Mem.there)); first | done | fail) rfl | exact cellR (by assumption) (by (repeat (first | exact .here | apply Mem.there)); first | done | fail) | exact cellH (by assumption) (by (repeat (first | exact .here | apply Mem.there)); first | done | fail) | exact cell_ints (by (repeat (first | exact .here | apply Mem.there)); first | done | fail) (by omega) | exact cell_bools (by assumption) (by (repeat (first | exact .here | apply Mem.there)); first | done | fail) | exact cell_intsR (by (repeat (first | exact .here | apply Mem.there)); first | done | fail) (by omega) | exact cell_boolsR (by assumption) (by (repeat (first | exact .here | apply Mem.there)); first | done | fail))))
    focus (refine' jk_q _ rfl rfl rfl _; rotate_left; (apply q_idxN; exact rfl; exact rfl; exact rfl; exact rfl; omega))
    focus (refine' jk_q _ rfl rfl rfl _; rotate_left; (apply q_fld; exact rfl; exact rfl))
    focus (refine' jk_q _ rfl rfl rfl _; rotate_left; (apply q_load; exact rfl; exact rfl; (first | exact cell_own (by (repeat (first | exact .here | apply Mem.there)); first | done | fail) rfl | exact cellR (by assumption) (by (repeat (first | exact .here | apply Mem.there)); first | done | fail) | exact cellH (by assumption) (by (repeat (first | exact .here | apply Mem.there)); first | done | fail) | exact cell_ints (by (repeat (first | exact .here | apply Mem.there)); first | done | fail) (by omega) | exact cell_bools (by assumption) (by (repeat (first | exact .here | apply Mem.there)); first | done | fail) | exact cell_intsR (by (repeat (first | exact .here | apply Mem.there)); first | done | fail) (by omega) | exact cell_boolsR (by assumption) (by (repeat (first | exact .here | apply Mem.there)); first | done | fail))))
    focus (refine' jk_q _ rfl rfl rfl _; rotate_left; (apply q_move; exact rfl))
    focus (refine' jk_q _ rfl rfl rfl _; rotate_left; (apply q_sub; exact rfl; exact rfl; exact ⟨by omega, by omega⟩))
    focus (refine' jk_q _ rfl rfl rfl _; rotate_left; (apply q_idxN; exact rfl; exact rfl; exact rfl; exact rfl; omega))
    focus (refine' jk_q _ rfl rfl rfl _; rotate_left; (apply q_fld; exact rfl; exact rfl))
    refine jk_op_none (l_storeF encX_len (pP l rest D s')[i].k 2 ((pP l rest D s')[i], rmP (subAll (pRoom l rest D s') rest ((pP l rest D s').take i)) (pP l rest D s')[i].k - leastR (rmP rest) (pP l rest D s')) hO2 rfl (by rw [Nat.zero_add]; rfl) (by omega) hle rfl rfl rfl rfl (by (repeat (first | exact .here | apply Take.there)); first | done | fail)) rfl rfl ?_
    rintro _ _ ⟨rfl, ρ3, hO3, rfl⟩
    refine jk_nil ?_
    refine jk_blk ?_
    refine jk_region ?_
    focus (refine' jk_q _ rfl rfl rfl _; rotate_left; (apply q_move; exact rfl))
    focus (refine' jk_q _ rfl rfl rfl _; rotate_left; (apply q_inc; exact rfl; exact rfl; omega))
    focus (refine' jk_q _ rfl rfl rfl _; rotate_left; (apply q_assign; exact rfl))
    refine jk_nil ?_
    refine jk_round (i + 1, ρ3) ⟨by dsimp only; omega, ?_⟩ (by dsimp only; omega) (by (repeat (first | exact trivial | refine And.intro rfl ?_)); first | done | fail) (by (repeat (first | exact Sel.nil | (apply Sel.cons; (focus ((repeat (first | exact .here | apply Mem.there | apply Take.there)); first | done | fail))))); first | done | fail)
    dsimp only
    rw [hsn]
    rw [hset, leftL_len] at hO3
    rw [leftL_len, leftL_len]
    exact hO3
  · rw [List.take_of_length_le (by omega)] at hO2
    have hesl := hAr.1
    have hnp := pNext_pos g.ok g.sn g.ne hF hD hd0
    refine jk_seq ?_
    refine jk_seq ?_
    refine jk_region ?_
    focus (refine' jk_q _ rfl rfl rfl _; rotate_left; (apply q_move; exact rfl))
    focus (refine' jk_q _ rfl rfl rfl _; rotate_left; (apply q_move; exact rfl))
    focus (refine' jk_q _ rfl rfl rfl _; rotate_left; (apply q_len; exact rfl; exact rfl))
    focus (refine' jk_q _ rfl rfl rfl _; rotate_left; (apply q_ltF; exact rfl; exact rfl; omega))
    refine jk_nil ?_
    refine jk_if_f rfl ?_
    refine jk_exit rfl ?_
    refine jk_region ?_
    focus (refine' jk_q _ rfl rfl rfl _; rotate_left; (apply q_move; exact rfl))
    focus (refine' jk_q _ rfl rfl rfl _; rotate_left; (apply q_move; exact rfl))
    focus (refine' jk_q _ rfl rfl rfl _; rotate_left; (apply q_move; exact rfl))
    focus (refine' jk_q _ rfl rfl rfl _; rotate_left; (apply q_build; exact rfl; exact rfl; exact (by (repeat (first | exact Bld.nil | apply Bld.put rfl rfl rfl | apply Bld.keep rfl)); first | done | fail)))
    focus (refine' jk_op _ rfl rfl rfl _; rotate_left; (apply l_buildSlice; exact rfl; exact rfl; exact rfl; exact rfl; exact rfl; exact (by (repeat (first | exact (fun v hv => absurd hv List.not_mem_nil) | (refine List.forall_mem_cons.2 ⟨?_, ?_⟩; (focus (first | exact rfl | assumption))))); first | done | fail); exact (by (repeat (first | exact Flat.nil | apply Flat.one rfl | apply Flat.agg2 | apply Flat.agg3 | apply Flat.agg1 | apply Flat.agg4 | apply Flat.agg5)); first | done | fail); exact rfl); rintro _ _ ⟨b, rfl, rfl⟩)
    refine jk_op (l_append (by_ := 32) (s := 2) (news := [.slice q2 (ksOf (pP l rest D s')).length c2, int (leastR (rmP rest) (pP l rest D s'))]) rfl rfl rfl rfl rfl rfl rfl hOo (by (repeat (first | exact .here | apply Take.there)); first | done | fail) (cells_own (by (repeat (first | exact .here | apply Mem.there)); first | done | fail)) rfl (by (repeat (first | exact (fun v hv => absurd hv List.not_mem_nil) | (refine List.forall_mem_cons.2 ⟨?_, ?_⟩; (focus (first | exact rfl | assumption))))); first | done | fail) (by omega) (by simp only [maxLen]; omega) (by omega)) rfl rfl rfl ?_
    rintro q9 _ ⟨ρ4, hQ4, rfl⟩
    focus (refine' jk_q _ rfl rfl rfl _; rotate_left; (apply q_assign; exact rfl))
    refine jk_nil ?_
    refine jk_blk ?_
    refine jk_join (ρ := ρa) (by (repeat (first | exact .here | apply Take.there)); first | done | fail) (σ := ρp) (by (repeat (first | exact .here | apply Take.there)); first | done | fail) (fun δ k1 k2 => ?_)
    refine jk_round ((pNext l rest D s', ps ++ [(pP l rest D s', pRoom l rest D s')]), ((q9, es ++ [(.slice q2 (ksOf (pP l rest D s')).length c2, pRoom l rest D s')]), ((ρ4, δ), ρ2))) ⟨hN1, ?_, hO2, ?_, (hAr.sub k1).snoc rfl (k2.slE hIn), ?_⟩ (by dsimp only; omega) (by (repeat (first | exact trivial | refine And.intro rfl ?_)); first | done | fail) (by (repeat (first | exact Sel.nil | (apply Sel.cons; (focus ((repeat (first | exact .here | apply Mem.there | apply Take.there)); first | done | fail))))); first | done | fail)
    · intro ps2 r hR
      have := hrun _ r (.step hD hd0 hR)
      dsimp only
      rw [List.append_assoc]
      exact this
    · dsimp only
      rw [List.length_append, List.flatMap_append]
      exact hQ4
    · dsimp only
      rw [List.length_append, List.length_singleton]
      omega

theorem pvRow {ρ : PH} {p : Option Addr} {l : List (Value × Int)} (h : RowsE encPV 2 ρ p l) {i : Nat} {x : Value × Int} (hx : l[i]? = some x) : ∃ b o, p = some ⟨b, o, none⟩ ∧ rdc ρ b (o + i * 2) = some x.1 ∧ rdc ρ b (o + i * 2 + 1) = some (int x.2) := by
  obtain ⟨b, o, e, hr⟩ := h i x hx
  exact ⟨b, o, e, hr.get0, hr.get (j := 1) rfl⟩
theorem samePaths_spec (σ τ : PH) (u w : Value) (ps : List (List Lk × Int)) (hu : PathsAt σ u ps) (hw : PathsAt τ w ps) (hl : ps.length ≤ 1000000) (hk : ∀ p ∈ ps, p.1.length ≤ 1000000) :
    Ans Try.prog (fv 31) [u, w] [σ, τ] (fun r => r = .bool true) := by
  obtain ⟨es, h1, h2⟩ := hu
  obtain ⟨fs, h3, h4⟩ := hw
  obtain ⟨q, c, rfl, hr⟩ := h1.val encPV_len
  obtain ⟨q2, c2, rfl, hr2⟩ := h3.val encPV_len
  have e1 := h2.1
  have e2 := h4.1
  refine spec_in (cap := []) Try.func31 rfl rfl Try.ntmps31 rfl (by (repeat (first | exact EnvA.nil EnvI.nil | apply EnvA.cons | apply EnvA.nil | exact EnvI.nil | apply EnvI.cons)); first | done | fail) (fun N β => ?_)
  refine jk_seq ?_
  refine jk_region ?_
  focus (refine' jk_q _ rfl rfl rfl _; rotate_left; (apply q_assign; exact rfl))
  refine jk_nil ?_
  refine jk_seq ?_
  refine jk_seq ?_
  refine jk_region ?_
  focus (refine' jk_q _ rfl rfl rfl _; rotate_left; (apply q_move; exact rfl))
  focus (refine' jk_q _ rfl rfl rfl _; rotate_left; (apply q_len; exact rfl; exact rfl))
  focus (refine' jk_q _ rfl rfl rfl _; rotate_left; (apply q_move; exact rfl))
  focus (refine' jk_q _ rfl rfl rfl _; rotate_left; (apply q_len; exact rfl; exact rfl))
  focus (refine' jk_q _ rfl rfl rfl _; rotate_left; (apply q_neF; exact rfl; exact rfl; omega))
  refine jk_nil ?_
  refine jk_if_f rfl ?_
  refine jk_skip ?_
  refine jk_seq ?_
  refine jk_seq ?_
  refine jk_region ?_
  focus (refine' jk_q _ rfl rfl rfl _; rotate_left; (apply q_assign; exact rfl))
  refine jk_nil ?_
  refine jk_block ?_
  refine jk_loop [0, 1] (0 : Nat) (fun k => k ≤ ps.length) (fun k => [(5, int k)]) (fun _ => []) (fun k => ps.length - k) (by (repeat (first | exact Pick.nil | apply Pick.cons rfl)); first | done | fail) (by omega) (by (repeat (first | exact trivial | refine And.intro rfl ?_)); first | done | fail) (by (repeat (first | exact Sel.nil | (apply Sel.cons; (focus ((repeat (first | exact .here | apply Mem.there | apply Take.there)); first | done | fail))))); first | done | fail) ?_
  intro k hk2
  by_cases hlt : k < ps.length
  · have x1 := List.getElem?_eq_getElem (show k < es.length by omega)
    have x2 := List.getElem?_eq_getElem (show k < fs.length by omega)
    have x3 := List.getElem?_eq_getElem hlt
    obtain ⟨b1, o1, rfl, g1, g2⟩ := pvRow hr x1
    obtain ⟨b2, o2, rfl, g3, g4⟩ := pvRow hr2 x2
    obtain ⟨m1, i1⟩ := h2.2 k _ _ x1 x3
    obtain ⟨m2, i2⟩ := h4.2 k _ _ x2 x3
    have hkk : (ksOf ps[k].1).length ≤ 1000000 := by
      have := hk ps[k] (List.getElem_mem hlt)
      simpa [ksOf] using this
    have m3 : es[k].2 = fs[k].2 := by rw [m1, m2]
    refine jk_seq ?_
    refine jk_seq ?_
    refine jk_region ?_
    focus (refine' jk_q _ rfl rfl rfl _; rotate_left; (apply q_move; exact rfl))
    focus (refine' jk_q _ rfl rfl rfl _; rotate_left; (apply q_move; exact rfl))
    focus (refine' jk_q _ rfl rfl rfl _; rotate_left; (apply q_len; exact rfl; exact rfl))
    focus (refine' jk_q _ rfl rfl rfl _; rotate_left; (apply q_lt; exact rfl; exact rfl; omega))
    refine jk_nil ?_
    refine jk_if_t rfl ?_
    refine jk_skip ?_
    refine jk_seq ?_
    refine jk_block ?_
    refine jk_seq ?_
    refine jk_draw (.q 0 (.q 1 (.q 2 (.q 3 (.q 4 (.q 5 (.q 6 (.q 7 (.q 8 (.q 9 (.q 10 (.q 11 (.q 12 (.q 13 (.q 14 (.q 15 (.q 16 (.q 17 (.q 18 (.q 19 (.q 20 (.q 21 (.l 22 .e (.q 23 (.q 24 .nil))))))))))))))))))))))))) [] rfl (by kernel_rfl) (by (repeat (first | exact Sel.nil | (apply Sel.cons; (focus ((repeat (first | exact .here | apply Mem.there | apply Take.there)); first | done | fail))))); first | done | fail) ?_
    focus (refine' dj_q rfl _ rfl rfl rfl rfl _; rotate_left; (apply q_move; exact rfl))
    focus (refine' dj_q rfl _ rfl rfl rfl rfl _; rotate_left; (apply q_move; exact rfl))
    focus (refine' dj_q rfl _ rfl rfl rfl rfl _; rotate_left; (apply q_idxN; exact rfl; exact rfl; exact rfl; exact rfl; omega))
    focus (refine' dj_q rfl _ rfl rfl rfl rfl _; rotate_left; (apply q_fld; exact rfl; exact rfl))
    focus (refine' dj_q rfl _ rfl rfl rfl rfl _; rotate_left; (apply q_load; exact rfl; exact rfl; (first | exact cell_own (by (repeat (first | exact .here | apply Mem.there)); first | done | fail) rfl | exact cellR (by assumption) (by (repeat (first | exact .here | apply Mem.there)); first | done | fail) | exact cellH (by assumption) (by (repeat (first | exact .here | apply Mem.there)); first | done | fail) | exact cell_ints (by (repeat (first | exact .here | apply Mem.there)); first | done | fail) (by omega) | exact cell_bools (by assumption) (by (repeat (first | exact .here | apply Mem.there)); first | done | fail) | exact cell_intsR (by (repeat (first | exact .here | apply Mem.there)); first | done | fail) (by omega) | exact cell_boolsR (by assumption) (by (repeat (first | exact .here | apply Mem.there)); first | done | fail))))
    focus (refine' dj_q rfl _ rfl rfl rfl rfl _; rotate_left; (apply q_move; exact rfl))
    focus (refine' dj_q rfl _ rfl rfl rfl rfl _; rotate_left; (apply q_move; exact rfl))
    focus (refine' dj_q rfl _ rfl rfl rfl rfl _; rotate_left; (apply q_idxN; exact rfl; exact rfl; exact rfl; exact rfl; omega))
    focus (refine' dj_q rfl _ rfl rfl rfl rfl _; rotate_left; (apply q_fld; exact rfl; exact rfl))
    focus (refine' dj_q rfl _ rfl rfl rfl rfl _; rotate_left; (apply q_load; exact rfl; exact rfl; (first | exact cell_own (by (repeat (first | exact .here | apply Mem.there)); first | done | fail) rfl | exact cellR (by assumption) (by (repeat (first | exact .here | apply Mem.there)); first | done | fail) | exact cellH (by assumption) (by (repeat (first | exact .here | apply Mem.there)); first | done | fail) | exact cell_ints (by (repeat (first | exact .here | apply Mem.there)); first | done | fail) (by omega) | exact cell_bools (by assumption) (by (repeat (first | exact .here | apply Mem.there)); first | done | fail) | exact cell_intsR (by (repeat (first | exact .here | apply Mem.there)); first | done | fail) (by omega) | exact cell_boolsR (by assumption) (by (repeat (first | exact .here | apply Mem.there)); first | done | fail))))
    focus (refine' dj_q rfl _ rfl rfl rfl rfl _; rotate_left; (apply q_neF; exact rfl; exact rfl; omega))
    focus (refine' dj_q rfl _ rfl rfl rfl rfl _; rotate_left; (apply q_move; exact rfl))
    focus (refine' dj_q rfl _ rfl rfl rfl rfl _; rotate_left; (apply q_move; exact rfl))
    focus (refine' dj_q rfl _ rfl rfl rfl rfl _; rotate_left; (apply q_move; exact rfl))
    focus (refine' dj_q rfl _ rfl rfl rfl rfl _; rotate_left; (apply q_idxN; exact rfl; exact rfl; exact rfl; exact rfl; omega))
    focus (refine' dj_q rfl _ rfl rfl rfl rfl _; rotate_left; (apply q_fldZ; exact rfl; exact rfl))
    focus (refine' dj_q rfl _ rfl rfl rfl rfl _; rotate_left; (apply q_load; exact rfl; exact rfl; (first | exact cell_own (by (repeat (first | exact .here | apply Mem.there)); first | done | fail) rfl | exact cellR (by assumption) (by (repeat (first | exact .here | apply Mem.there)); first | done | fail) | exact cellH (by assumption) (by (repeat (first | exact .here | apply Mem.there)); first | done | fail) | exact cell_ints (by (repeat (first | exact .here | apply Mem.there)); first | done | fail) (by omega) | exact cell_bools (by assumption) (by (repeat (first | exact .here | apply Mem.there)); first | done | fail) | exact cell_intsR (by (repeat (first | exact .here | apply Mem.there)); first | done | fail) (by omega) | exact cell_boolsR (by assumption) (by (repeat (first | exact .here | apply Mem.there)); first | done | fail))))
    focus (refine' dj_q rfl _ rfl rfl rfl rfl _; rotate_left; (apply q_move; exact rfl))
    focus (refine' dj_q rfl _ rfl rfl rfl rfl _; rotate_left; (apply q_move; exact rfl))
    focus (refine' dj_q rfl _ rfl rfl rfl rfl _; rotate_left; (apply q_idxN; exact rfl; exact rfl; exact rfl; exact rfl; omega))
    focus (refine' dj_q rfl _ rfl rfl rfl rfl _; rotate_left; (apply q_fldZ; exact rfl; exact rfl))
    focus (refine' dj_q rfl _ rfl rfl rfl rfl _; rotate_left; (apply q_load; exact rfl; exact rfl; (first | exact cell_own (by (repeat (first | exact .here | apply Mem.there)); first | done | fail) rfl | exact cellR (by assumption) (by (repeat (first | exact .here | apply Mem.there)); first | done | fail) | exact cellH (by assumption) (by (repeat (first | exact .here | apply Mem.there)); first | done | fail) | exact cell_ints (by (repeat (first | exact .here | apply Mem.there)); first | done | fail) (by omega) | exact cell_bools (by assumption) (by (repeat (first | exact .here | apply Mem.there)); first | done | fail) | exact cell_intsR (by (repeat (first | exact .here | apply Mem.there)); first | done | fail) (by omega) | exact cell_boolsR (by assumption) (by (repeat (first | exact .here | apply Mem.there)); first | done | fail))))
    refine dj_l (a_call rfl (sameInts_spec σ τ _ _ _ _ i1 i2 hkk hkk) rfl rfl (by (repeat (first | exact RdOK.nil | (refine RdOK.consR ?_ ?_; (focus ((repeat (first | exact .here | apply Mem.there | apply Take.there)); first | done | fail))) | (refine RdOK.consH ?_ ?_; (focus ((repeat (first | exact .here | apply Mem.there | apply Take.there)); first | done | fail))) | exact (fun τ hτ => .inl (by simp [hτ])))); first | done | fail) rfl rfl ?_)
    rintro _ rfl
    rw [decide_eq_true rfl]
    focus (refine' dj_q rfl _ rfl rfl rfl rfl _; rotate_left; (apply q_not; exact rfl))
    focus (refine' dj_q rfl _ rfl rfl rfl rfl _; rotate_left; (apply q_pick_f; exact rfl; exact rfl))
    refine dj_end ?_
    refine jk_if_f rfl ?_
    refine jk_skip ?_
    refine jk_blk ?_
    refine jk_region ?_
    focus (refine' jk_q _ rfl rfl rfl _; rotate_left; (apply q_move; exact rfl))
    focus (refine' jk_q _ rfl rfl rfl _; rotate_left; (apply q_inc; exact rfl; exact rfl; omega))
    focus (refine' jk_q _ rfl rfl rfl _; rotate_left; (apply q_assign; exact rfl))
    refine jk_nil ?_
    exact jk_round (k + 1) (by omega) (by omega) (by (repeat (first | exact trivial | refine And.intro rfl ?_)); first | done | fail) (by (repeat (first | exact Sel.nil | (apply Sel.cons; (focus ((repeat (first | exact .here | apply Mem.there | apply Take.there)); first | done | fail))))); first | done | fail)
  · refine jk_seq ?_
    refine jk_seq ?_
    refine jk_region ?_
    focus (refine' jk_q _ rfl rfl rfl _; rotate_left; (apply q_move; exact rfl))
    focus (refine' jk_q _ rfl rfl rfl _; rotate_left; (apply q_move; exact rfl))
    focus (refine' jk_q _ rfl rfl rfl _; rotate_left; (apply q_len; exact rfl; exact rfl))
    focus (refine' jk_q _ rfl rfl rfl _; rotate_left; (apply q_ltF; exact rfl; exact rfl; omega))
    refine jk_nil ?_
    refine jk_if_f rfl ?_
    refine jk_exit rfl ?_
    refine jk_seq ?_
    refine jk_region ?_
    focus (refine' jk_q _ rfl rfl rfl _; rotate_left; (apply q_assign; exact rfl))
    refine jk_nil ?_
    exact jk_ret_any (res1 rfl rfl) (by (repeat (first | exact rs_nil | (refine rs_cons ?_ ?_; (focus ((repeat (first | exact .here | apply Mem.there | apply Take.there)); first | done | fail))) | exact fun ρ hρ => hρ | (intro ρ hρ; repeat (first | exact hρ | refine List.mem_cons_of_mem _ ?_)))); first | done | fail) (by (repeat (first | exact Sel.nil | (apply Sel.cons; (focus ((repeat (first | exact .here | apply Mem.there | apply Take.there)); first | done | fail))))); first | done | fail) ⟨rfl, rfl⟩
end Go.Proofs.Ytoccdekghjoldaa
