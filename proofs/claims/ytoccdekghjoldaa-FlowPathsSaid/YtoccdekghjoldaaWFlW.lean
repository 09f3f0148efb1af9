/- Paths of the program. -/
import Derived.Test.YtoccdekghjoldaaWFlM
import Derived.Test.YtoccdekghjoldaaWFlD
import Derived.Test.YtoccdekghjoldaaWMbClone
import Derived.Test.YtoccdekghjoldaaWMbPO
set_option linter.all false
namespace Go.Proofs.Ytoccdekghjoldaa
open Go.Eng Go.Flow
set_option maxRecDepth 100000
set_option maxHeartbeats 4000000

theorem ints_one (l : List Int) : ∀ u ∈ l.flatMap encI, u.oneCell' = true := by
  intro u hu
  rw [List.mem_flatMap] at hu
  obtain ⟨a, _, hu⟩ := hu
  simp only [encI, List.mem_cons, List.not_mem_nil, or_false] at hu
  subst hu; rfl
theorem cloneInt_spec (ρ : PH) (v : Value) (l : List Int) (hv : IntsAt ρ v l) (hl : l.length ≤ 1000000) :
    Makes Try.prog (fv 46) [v] [ρ] (fun r σ => OwnS 3 1 r l.length (l.flatMap encI) σ) := by
  have hv2 := hv
  obtain ⟨q, c, rfl, hr⟩ := hv.val encI_len
  refine spec_in (cap := []) Try.func46 rfl rfl Try.ntmps46 rfl (by (repeat (first | exact EnvA.nil EnvI.nil | apply EnvA.cons | apply EnvA.nil | exact EnvI.nil | apply EnvI.cons)); first | done | fail) (fun N β => ?_)
  cases q with
  | none =>
    have hnil : l = [] := by
      cases l with
      | nil => rfl
      | cons a l =>
        obtain ⟨b, o, e, _⟩ := hr 0 a rfl
        simp at e
    subst hnil
    refine jk_emp ?_
    refine jk_seq ?_
    refine jk_region ?_
    focus (refine' jk_q _ rfl rfl rfl _; rotate_left; (apply q_assign; exact rfl))
    refine jk_nil ?_
    refine jk_seq ?_
    refine jk_seq ?_
    refine jk_region ?_
    focus (refine' jk_q _ rfl rfl rfl _; rotate_left; (apply q_move; exact rfl))
    focus ((refine' jk_q _ rfl rfl rfl _; rotate_left; (apply q_nilSt; exact rfl; exact rfl; exact rfl)))
    refine jk_nil ?_
    refine jk_if_t rfl ?_
    refine jk_seq ?_
    refine jk_region ?_
    focus (refine' jk_q _ rfl rfl rfl _; rotate_left; (apply q_assign; exact rfl))
    refine jk_nil ?_
    exact jk_ret_any (res1 rfl rfl) (by (repeat (first | exact rs_nil | (refine rs_cons ?_ ?_; (focus ((repeat (first | exact .here | apply Mem.there | apply Take.there)); first | done | fail))) | exact fun ρ hρ => hρ | (intro ρ hρ; repeat (first | exact hρ | refine List.mem_cons_of_mem _ ?_)))); first | done | fail) (by (repeat (first | exact Sel.nil | (apply Sel.cons; (focus ((repeat (first | exact .here | apply Mem.there | apply Take.there)); first | done | fail))))); first | done | fail) ⟨emp, OwnS.nil _ _, rfl⟩
  | some ad =>
    refine jk_seq ?_
    refine jk_region ?_
    focus (refine' jk_q _ rfl rfl rfl _; rotate_left; (apply q_assign; exact rfl))
    refine jk_nil ?_
    refine jk_seq ?_
    refine jk_seq ?_
    refine jk_region ?_
    focus (refine' jk_q _ rfl rfl rfl _; rotate_left; (apply q_move; exact rfl))
    focus ((refine' jk_q _ rfl rfl rfl _; rotate_left; (apply q_nilSf; exact rfl; exact rfl; exact rfl)))
    refine jk_nil ?_
    refine jk_if_f rfl ?_
    refine jk_skip ?_
    refine jk_seq ?_
    refine jk_region ?_
    focus (refine' jk_op _ rfl rfl rfl _; rotate_left; (apply l_buildSlice; exact rfl; exact rfl; exact rfl; exact rfl; exact rfl; exact (by (repeat (first | exact (fun v hv => absurd hv List.not_mem_nil) | (refine List.forall_mem_cons.2 ⟨?_, ?_⟩; (focus (first | exact rfl | assumption))))); first | done | fail); exact (by (repeat (first | exact Flat.nil | apply Flat.one rfl | apply Flat.agg2 | apply Flat.agg3 | apply Flat.agg1 | apply Flat.agg4 | apply Flat.agg5)); first | done | fail); exact rfl); rintro _ _ ⟨b, rfl, rfl⟩)
    focus (refine' jk_q _ rfl rfl rfl _; rotate_left; (apply q_move; exact rfl))
    rcases Nat.eq_zero_or_pos l.length with h0 | h0
    · have hnil : l = [] := List.eq_nil_of_length_eq_zero h0
      subst hnil
      focus ((refine' jk_q _ rfl rfl rfl _; rotate_left; (apply q_append0; exact rfl; exact rfl; exact rfl; exact rfl; omega)))
      focus (refine' jk_q _ rfl rfl rfl _; rotate_left; (apply q_assign; exact rfl))
      refine jk_nil ?_
      exact jk_ret_any (res1 rfl rfl) (by (repeat (first | exact rs_nil | (refine rs_cons ?_ ?_; (focus ((repeat (first | exact .here | apply Mem.there | apply Take.there)); first | done | fail))) | exact fun ρ hρ => hρ | (intro ρ hρ; repeat (first | exact hρ | refine List.mem_cons_of_mem _ ?_)))); first | done | fail) (by (repeat (first | exact Sel.nil | (apply Sel.cons; (focus ((repeat (first | exact .here | apply Mem.there | apply Take.there)); first | done | fail))))); first | done | fail) ⟨_, OwnS.empty, rfl⟩
    · obtain ⟨b2, o2, c2, e, hcell⟩ := SlAt.some hv2 h0
      simp only [Value.slice.injEq, Option.some.injEq, true_and] at e
      obtain ⟨rfl, rfl⟩ := e
      refine jk_op (l_append (by_ := 8) (s := 1) (news := l.flatMap encI) rfl rfl rfl rfl rfl rfl rfl (OwnS.empty (b := b)) (by (repeat (first | exact .here | apply Take.there)); first | done | fail) (cellsR (ρ := ρ) hcell (by (repeat (first | exact .here | apply Mem.there)); first | done | fail)) (flat_len encI_len l) (ints_one l) h0 (by simp only [maxLen]; omega) (by omega)) rfl rfl rfl ?_
      rintro r1 _ ⟨σ, hO, rfl⟩
      focus (refine' jk_q _ rfl rfl rfl _; rotate_left; (apply q_assign; exact rfl))
      refine jk_nil ?_
      refine jk_ret_any (res1 rfl rfl) (by (repeat (first | exact rs_nil | (refine rs_cons ?_ ?_; (focus ((repeat (first | exact .here | apply Mem.there | apply Take.there)); first | done | fail))) | exact fun ρ hρ => hρ | (intro ρ hρ; repeat (first | exact hρ | refine List.mem_cons_of_mem _ ?_)))); first | done | fail) (by (repeat (first | exact Sel.nil | (apply Sel.cons; (focus ((repeat (first | exact .here | apply Mem.there | apply Take.there)); first | done | fail))))); first | done | fail) ⟨σ, ?_, rfl⟩
      simpa using hO
/-- a number in an owned slice of numbers -/
theorem OwnS.num {e : TypeId} {b n cap : Nat} {l : List Int} {ρ : PH} (h : OwnS e 1 (.slice (some ⟨b, 0, none⟩) n cap) l.length (l.flatMap encI) ρ) {i : Nat} (hi : i < l.length) : rdc ρ b i = some (int (l.getD i 0)) := by
  have hS : SlE encI 1 ρ (.slice (some ⟨b, 0, none⟩) n cap) l := h.at
  obtain ⟨p, c, e1, hr⟩ := hS.val encI_len
  simp only [Value.slice.injEq] at e1
  obtain ⟨b', o', e2, h2⟩ := hr.int (List.getElem?_eq_getElem hi)
  rw [← e1.1] at e2
  simp only [Option.some.injEq, Addr.mk.injEq, and_true] at e2
  obtain ⟨rfl, rfl⟩ := e2
  rw [Nat.zero_add] at h2
  rw [h2]
  simp [List.getD_eq_getElem?_getD, hi]
theorem OwnS.some_of {e : TypeId} {s : Nat} {v : Value} {l : List Int} {ρ : PH} (h : OwnS e s v l.length (l.flatMap encI) ρ) (h0 : 0 < l.length) : ∃ b cap, v = .slice (some ⟨b, 0, none⟩) l.length cap := by
  rcases h.block with ⟨_, h2, _⟩ | ⟨b, cap, cur, h2, _⟩
  · rw [h2] at h0; simp at h0
  · exact ⟨b, cap, h2⟩
abbrev roomP (b : Nat) : Value := .func (.func 48) #[] #[.pointer (some ⟨b, 0, none⟩)]
theorem paths1_spec (ρ : PH) (b k : Nat) (T e : TypeId) (rv : Value) (rest : List Int) (hO : OwnS e 1 rv rest.length (rest.flatMap encI) ρ) (hk : k < rest.length) :
    Ans Try.prog (roomP b) [int k] [sng b (.cells #[rv] T (0, 0)), ρ] (fun r => r = int (rmP rest k)) := by
  obtain ⟨br, cap, rfl⟩ := OwnS.some_of hO (by omega)
  have c1 : rdc (sng b (.cells #[.slice (some ⟨br, 0, none⟩) rest.length cap] T (0, 0))) b 0 = some (.slice (some ⟨br, 0, none⟩) rest.length cap) := by rw [rdc_sng]; rfl
  have c2 := OwnS.num hO hk
  refine spec_in (cap := [.pointer (some ⟨b, 0, none⟩)]) Try.func48 rfl rfl Try.ntmps48 rfl (by (repeat (first | exact EnvA.nil EnvI.nil | apply EnvA.cons | apply EnvA.nil | exact EnvI.nil | apply EnvI.cons)); first | done | fail) (fun N β => ?_)
  refine jk_seq ?_
  refine jk_region ?_
  focus (refine' jk_q _ rfl rfl rfl _; rotate_left; (apply q_assign; exact rfl))
  refine jk_nil ?_
  refine jk_seq ?_
  refine jk_region ?_
  focus (refine' jk_q _ rfl rfl rfl _; rotate_left; (apply q_load; exact rfl; exact rfl; (first | exact cell_own (by (repeat (first | exact .here | apply Mem.there)); first | done | fail) rfl | exact cellR (by assumption) (by (repeat (first | exact .here | apply Mem.there)); first | done | fail) | exact cellH (by assumption) (by (repeat (first | exact .here | apply Mem.there)); first | done | fail) | exact cell_ints (by (repeat (first | exact .here | apply Mem.there)); first | done | fail) (by omega) | exact cell_bools (by assumption) (by (repeat (first | exact .here | apply Mem.there)); first | done | fail) | exact cell_intsR (by (repeat (first | exact .here | apply Mem.there)); first | done | fail) (by omega) | exact cell_boolsR (by assumption) (by (repeat (first | exact .here | apply Mem.there)); first | done | fail))))
  focus (refine' jk_q _ rfl rfl rfl _; rotate_left; (apply q_move; exact rfl))
  focus (refine' jk_q _ rfl rfl rfl _; rotate_left; (apply q_idx0; exact rfl; exact rfl; exact rfl; exact rfl; omega))
  focus (refine' jk_q _ rfl rfl rfl _; rotate_left; (apply q_load; exact rfl; exact rfl; (first | exact cell_own (by (repeat (first | exact .here | apply Mem.there)); first | done | fail) rfl | exact cellR (by assumption) (by (repeat (first | exact .here | apply Mem.there)); first | done | fail) | exact cellH (by assumption) (by (repeat (first | exact .here | apply Mem.there)); first | done | fail) | exact cell_ints (by (repeat (first | exact .here | apply Mem.there)); first | done | fail) (by omega) | exact cell_bools (by assumption) (by (repeat (first | exact .here | apply Mem.there)); first | done | fail) | exact cell_intsR (by (repeat (first | exact .here | apply Mem.there)); first | done | fail) (by omega) | exact cell_boolsR (by assumption) (by (repeat (first | exact .here | apply Mem.there)); first | done | fail))))
  focus (refine' jk_q _ rfl rfl rfl _; rotate_left; (apply q_assign; exact rfl))
  refine jk_nil ?_
  exact jk_ret_any (res1 rfl rfl) (by (repeat (first | exact rs_nil | (refine rs_cons ?_ ?_; (focus ((repeat (first | exact .here | apply Mem.there | apply Take.there)); first | done | fail))) | exact fun ρ hρ => hρ | (intro ρ hρ; repeat (first | exact hρ | refine List.mem_cons_of_mem _ ?_)))); first | done | fail) (by (repeat (first | exact Sel.nil | (apply Sel.cons; (focus ((repeat (first | exact .here | apply Mem.there | apply Take.there)); first | done | fail))))); first | done | fail) ⟨rfl, rfl⟩

/-- a path in memory: its arcs' numbers, its value -/
def encPV (x : Value × Int) : List Value := [x.1, int x.2]
theorem encPV_len (x : Value × Int) : (encPV x).length = 2 := rfl
/-- the paths of a list, their numbers readable in σ -/
def ArcsIn (σ : PH) (es : List (Value × Int)) (ps : List (List Lk × Int)) : Prop :=
  es.length = ps.length ∧ ∀ (i : Nat) (e : Value × Int) (p : List Lk × Int), es[i]? = some e → ps[i]? = some p → e.2 = p.2 ∧ IntsAt σ e.1 (ksOf p.1)
theorem ArcsIn.nil (σ : PH) : ArcsIn σ [] [] := ⟨rfl, by intro i e p h; simp at h⟩
theorem ArcsIn.sub {σ τ : PH} {es : List (Value × Int)} {ps : List (List Lk × Int)} (h : ArcsIn σ es ps) (hs : PH.sub σ τ) : ArcsIn τ es ps := ⟨h.1, fun i e p h1 h2 => ⟨(h.2 i e p h1 h2).1, hs.slE (h.2 i e p h1 h2).2⟩⟩
theorem ArcsIn.snoc {σ : PH} {es : List (Value × Int)} {ps : List (List Lk × Int)} {e : Value × Int} {p : List Lk × Int} (h : ArcsIn σ es ps) (h1 : e.2 = p.2) (h2 : IntsAt σ e.1 (ksOf p.1)) : ArcsIn σ (es ++ [e]) (ps ++ [p]) := by
  refine ⟨by simp [h.1], fun i e' p' k1 k2 => ?_⟩
  by_cases hi : i < es.length
  · rw [List.getElem?_append_left hi] at k1
    rw [List.getElem?_append_left (by rw [← h.1]; exact hi)] at k2
    exact h.2 i e' p' k1 k2
  · rw [List.getElem?_append_right (by omega)] at k1
    rw [List.getElem?_append_right (by rw [← h.1]; omega)] at k2
    have hz : i - es.length = 0 := by
      have := (List.getElem?_eq_some_iff.1 k1).1
      simp at this; omega
    rw [hz] at k1
    rw [← h.1, hz] at k2
    simp at k1 k2
    subst k1; subst k2
    exact ⟨h1, h2⟩
def PathsAt (σ : PH) (u : Value) (ps : List (List Lk × Int)) : Prop := ∃ es, SlE encPV 2 σ u es ∧ ArcsIn σ es ps

set_option maxHeartbeats 8000000 in
theorem flowPaths_spec (ρ σ : PH) (v u : Value) (n s t : Int) (l : List Arc) (fl : List Int) (hv : ArcsAt ρ v l) (hu : IntsAt σ u fl) (hl : l.length ≤ 1000000) :
    Makes Try.prog (fv 27) [int n, v, u, int s, int t] [ρ, σ] (fun r τ => ∃ w ps e, r = .tuple #[w, int e] ∧ PathsAt τ w ps ∧ PathsOK n l fl s t ps e) := by
  have hnil : PathsAt emp (.slice none 0 0) [] := ⟨[], ⟨rfl, .inl ⟨rfl, none, 0, rfl⟩⟩, ArcsIn.nil _⟩
  have hv2 := hv
  obtain ⟨q, c, rfl, hr⟩ := hv.val encA_len
  refine spec_in (cap := []) Try.func27 rfl rfl Try.ntmps27 rfl (by (repeat (first | exact EnvA.nil EnvI.nil | apply EnvA.cons | apply EnvA.nil | exact EnvI.nil | apply EnvI.cons)); first | done | fail) (fun N β => ?_)
  refine jk_seq ?_
  refine jk_region ?_
  focus (refine' jk_q _ rfl rfl rfl _; rotate_left; (apply q_assign; exact rfl))
  focus (refine' jk_q _ rfl rfl rfl _; rotate_left; (apply q_assign; exact rfl))
  refine jk_nil ?_
  refine jk_seq ?_
  refine jk_seq ?_
  refine jk_region ?_
  focus (refine' jk_q _ rfl rfl rfl _; rotate_left; (apply q_move; exact rfl))
  focus (refine' jk_q _ rfl rfl rfl _; rotate_left; (apply q_move; exact rfl))
  focus (refine' jk_q _ rfl rfl rfl _; rotate_left; (apply q_move; exact rfl))
  focus (refine' jk_q _ rfl rfl rfl _; rotate_left; (apply q_move; exact rfl))
  focus (refine' jk_q _ rfl rfl rfl _; rotate_left; (apply q_move; exact rfl))
  refine jk_call (flowValue_spec ρ σ _ u n s t l fl hv2 hu hl) rfl rfl (by (repeat (first | exact RdOK.nil | (refine RdOK.consR ?_ ?_; (focus ((repeat (first | exact .here | apply Mem.there | apply Take.there)); first | done | fail))) | (refine RdOK.consH ?_ ?_; (focus ((repeat (first | exact .here | apply Mem.there | apply Take.there)); first | done | fail))) | exact (fun τ hτ => .inl (by simp [hτ])))); first | done | fail) rfl rfl ?_
  rintro _ rfl
  by_cases h0 : (valueSpec n l fl s t).2 = 0
  rotate_left
  · focus (refine' jk_q _ rfl rfl rfl _; rotate_left; (apply q_move; exact rfl))
    focus (refine' jk_q _ rfl rfl rfl _; rotate_left; (apply q_extract; exact rfl; exact rfl))
    focus (refine' jk_q _ rfl rfl rfl _; rotate_left; (apply q_extract; exact rfl; exact rfl))
    focus (refine' jk_q _ rfl rfl rfl _; rotate_left; (apply q_assign; exact rfl))
    focus (refine' jk_q _ rfl rfl rfl _; rotate_left; (apply q_assign; exact rfl))
    refine jk_nil ?_
    refine jk_seq ?_
    refine jk_region ?_
    focus (refine' jk_q _ rfl rfl rfl _; rotate_left; (apply q_move; exact rfl))
    focus (refine' jk_q _ rfl rfl rfl _; rotate_left; (apply q_ne; exact rfl; exact rfl; omega))
    refine jk_nil ?_
    refine jk_if_t rfl ?_
    refine jk_seq ?_
    refine jk_region ?_
    focus (refine' jk_q _ rfl rfl rfl _; rotate_left; (apply q_move; exact rfl))
    focus (refine' jk_q _ rfl rfl rfl _; rotate_left; (apply q_assign; exact rfl))
    focus (refine' jk_q _ rfl rfl rfl _; rotate_left; (apply q_assign; exact rfl))
    refine jk_nil ?_
    refine jk_emp ?_
    exact jk_ret_any (res2 rfl rfl rfl) (by (repeat (first | exact rs_nil | (refine rs_cons ?_ ?_; (focus ((repeat (first | exact .here | apply Mem.there | apply Take.there)); first | done | fail))) | exact fun ρ hρ => hρ | (intro ρ hρ; repeat (first | exact hρ | refine List.mem_cons_of_mem _ ?_)))); first | done | fail) (by (repeat (first | exact Sel.nil | (apply Sel.cons; (focus ((repeat (first | exact .here | apply Mem.there | apply Take.there)); first | done | fail))))); first | done | fail) ⟨emp, ⟨_, [], _, rfl, hnil, .inl ⟨h0, rfl, rfl⟩⟩, rfl⟩
  obtain ⟨n', s', t', g, hF0, _⟩ := value_good h0
  obtain ⟨rfl, rfl, rfl⟩ := And.intro g.en (And.intro g.es g.et)
  have hn2 := g.n2
  have hl2 := g.l2
  have hpl := pl_lt g.ok
  have hcap : ∀ a ∈ l, 0 ≤ a.c ∧ a.c ≤ 1099511627776 := fun a ha => by have := okArc_iff.1 (g.ok a ha); omega
  have hpk : ∀ x ∈ plinks l, x.f < n' ∧ x.t < n' ∧ x.k ≤ 40000 := fun x hx => by have := hpl x hx; have := pl_k hx; omega
  have hGok : GOk n' (outsOf (plinks l)) (insOf (plinks l)) := GOk_of hn2 (by rw [plinks_len]; omega) hpk
  focus (refine' jk_q _ rfl rfl rfl _; rotate_left; (apply q_move; exact rfl))
  focus (refine' jk_q _ rfl rfl rfl _; rotate_left; (apply q_extract; exact rfl; exact rfl))
  focus (refine' jk_q _ rfl rfl rfl _; rotate_left; (apply q_extract; exact rfl; exact rfl))
  focus (refine' jk_q _ rfl rfl rfl _; rotate_left; (apply q_assign; exact rfl))
  focus (refine' jk_q _ rfl rfl rfl _; rotate_left; (apply q_assign; exact rfl))
  refine jk_nil ?_
  refine jk_seq ?_
  refine jk_region ?_
  focus (refine' jk_q _ rfl rfl rfl _; rotate_left; (apply q_move; exact rfl))
  focus (refine' jk_q _ rfl rfl rfl _; rotate_left; (apply q_neF; exact rfl; exact rfl; omega))
  refine jk_nil ?_
  refine jk_if_f rfl ?_
  refine jk_skip ?_
  refine jk_seq ?_
  refine jk_region ?_
  focus (refine' jk_q _ rfl rfl rfl _; rotate_left; (apply q_move; exact rfl))
  refine jk_callM (cloneInt_spec σ u fl hu (by rw [← hF0.len]; omega)) rfl rfl (by (repeat (first | exact RdOK.nil | (refine RdOK.consR ?_ ?_; (focus ((repeat (first | exact .here | apply Mem.there | apply Take.there)); first | done | fail))) | (refine RdOK.consH ?_ ?_; (focus ((repeat (first | exact .here | apply Mem.there | apply Take.there)); first | done | fail))) | exact (fun τ hτ => .inl (by simp [hτ])))); first | done | fail) rfl rfl ?_
  rintro rv ρr hO
  have hrv1 : rv.oneCell' = true := OwnS.one hO
  refine jk_op (l_alloc1 rfl rfl) rfl rfl rfl ?_
  rintro _ _ ⟨bb, rfl, rfl⟩
  refine jk_op_none (l_storeL rfl rfl hrv1 rfl (by (repeat (first | exact .here | apply Take.there)); first | done | fail) SetL.here) rfl rfl ?_
  rintro _ _ ⟨rfl, rfl⟩
  refine jk_nil ?_
  refine jk_seq ?_
  refine jk_region ?_
  focus (refine' jk_q _ rfl rfl rfl _; rotate_left; (apply q_move; exact rfl))
  focus (refine' jk_q _ rfl rfl rfl _; rotate_left; (apply q_makeFunc; exact rfl; exact rfl))
  refine jk_callH (newGraph_spec n' 48 [.pointer (some ⟨bb, 0, none⟩)] hn2) rfl rfl (by (repeat (first | exact Takes.nil | (apply Takes.cons; exact (by (repeat (first | exact .here | apply Take.there)); first | done | fail)))); first | done | fail) (by (repeat (first | exact RdOK.nil | (refine RdOK.consR ?_ ?_; (focus ((repeat (first | exact .here | apply Mem.there | apply Take.there)); first | done | fail))) | (refine RdOK.consH ?_ ?_; (focus ((repeat (first | exact .here | apply Mem.there | apply Take.there)); first | done | fail))) | exact (fun τ hτ => .inl (by simp [hτ])))); first | done | fail) rfl rfl ?_
  rintro _ _ ⟨gb, ob, ib, rfl, rfl⟩
  simp only [List.cons_append, List.nil_append]
  have hG0 := GBl_new gb ob ib n' (roomP bb)
  refine jk_empEnd (n' + n') ?_
  simp only [List.cons_append, List.nil_append]
  focus (refine' jk_q _ rfl rfl rfl _; rotate_left; (apply q_assign; exact rfl))
  refine jk_nil ?_
  refine jk_seq ?_
  refine jk_seq ?_
  refine jk_region ?_
  focus (refine' jk_q _ rfl rfl rfl _; rotate_left; (apply q_move; exact rfl))
  focus (refine' jk_q _ rfl rfl rfl _; rotate_left; (apply q_len; exact rfl; exact rfl))
  focus (refine' jk_q _ rfl rfl rfl _; rotate_left; (apply q_move; exact rfl))
  refine jk_nil ?_
  refine jk_block ?_
  refine jk_loop [0, 1, 3, 4, 14, 15, 41, 42] (X := Nat × List PH) (0, _) (fun x => x.1 ≤ l.length ∧ GBl gb ob ib n' (roomP bb) (plinks (l.take x.1)) x.2) (fun x => [(43, int x.1)])
    (fun x => sng bb (.cells #[rv] 26 (0, 0)) :: ρr :: x.2) (fun x => l.length - x.1) (by (repeat (first | exact Pick.nil | apply Pick.cons rfl)); first | done | fail) ⟨by simp, hG0⟩ (by (repeat (first | exact trivial | refine And.intro rfl ?_)); first | done | fail) ?_ ?_
  · refine Sel.cons (by (repeat (first | exact .here | apply Take.there)); first | done | fail) (Sel.cons (by (repeat (first | exact .here | apply Take.there)); first | done | fail) (Sel.cons (by (repeat (first | exact .here | apply Take.there)); first | done | fail) (Sel.cons (by (repeat (first | exact .here | apply Take.there)); first | done | fail) (Sel.cons (by (repeat (first | exact .here | apply Take.there)); first | done | fail) ?_))))
    rw [List.replicate_append_replicate]
    exact Sel.refl
  rintro ⟨k, Hg⟩ ⟨hk, hG⟩
  dsimp only at hk hG ⊢
  by_cases hlt : k < l.length
  · have hx := List.getElem?_eq_getElem hlt
    obtain ⟨b', o, rfl, hA, h0', h1', h2'⟩ := arcRow hr hx
    obtain ⟨g1, g2, g3, g4, g5, g6, g7⟩ := okArc_iff.1 (g.ok l[k] (List.getElem_mem hlt))
    obtain ⟨f, hf⟩ := Int.eq_ofNat_of_zero_le g1
    obtain ⟨t2, ht2⟩ := Int.eq_ofNat_of_zero_le g3
    have hlr := plinks_len (l.take k)
    have hlk : (l.take k).length = k := by simp; omega
    have hsn := plinks_snoc (l.take k) l[k]
    rw [← take_snoc' hlt, hlk, hf, ht2] at hsn
    simp only [Int.toNat_natCast] at hsn
    rw [hf, ht2] at hA
    have a1 := add_bl hG k f t2 (by omega) (by omega) (by omega)
    refine jk_seq ?_
    refine jk_region ?_
    focus (refine' jk_q _ rfl rfl rfl _; rotate_left; (apply q_lt; exact rfl; exact rfl; omega))
    refine jk_nil ?_
    refine jk_seq ?_
    refine jk_if_t rfl ?_
    refine jk_skip ?_
    refine jk_seq ?_
    refine jk_block ?_
    refine jk_seq ?_
    refine jk_region ?_
    focus (refine' jk_q _ rfl rfl rfl _; rotate_left; (apply q_move; exact rfl))
    focus (refine' jk_q _ rfl rfl rfl _; rotate_left; (apply q_idxN; exact rfl; exact rfl; exact rfl; exact rfl; omega))
    focus (refine' jk_q _ rfl rfl rfl _; rotate_left; (apply q_loadS; exact rfl; exact rfl; (first | exact cells_own (by (repeat (first | exact .here | apply Mem.there)); first | done | fail) | exact cellsR (by assumption) (by (repeat (first | exact .here | apply Mem.there)); first | done | fail) | exact cellsH (by assumption) (by (repeat (first | exact .here | apply Mem.there)); first | done | fail)); exact rfl))
    focus (refine' jk_op _ rfl rfl rfl _; rotate_left; (apply l_allocS; exact rfl); rintro _ _ ⟨b, rfl, rfl⟩)
    focus (refine' jk_q _ rfl rfl rfl _; rotate_left; (apply q_assign; exact rfl))
    focus (refine' jk_op_none _ rfl rfl _; rotate_left; (apply l_storeS; exact rfl; exact rfl; exact (by (repeat (first | exact .here | apply Take.there)); first | done | fail); exact (by (repeat (first | exact (fun v hv => absurd hv List.not_mem_nil) | (refine List.forall_mem_cons.2 ⟨?_, ?_⟩; (focus (first | exact rfl | assumption))))); first | done | fail); exact rfl; exact rfl); rintro _ _ ⟨rfl, rfl⟩)
    refine jk_nil ?_
    refine jk_region ?_
    focus (refine' jk_q _ rfl rfl rfl _; rotate_left; (apply q_move; exact rfl))
    focus (refine' jk_q _ rfl rfl rfl _; rotate_left; (apply q_move; exact rfl))
    focus (refine' jk_q _ rfl rfl rfl _; rotate_left; (apply q_fld0; exact rfl; exact rfl))
    focus (refine' jk_q _ rfl rfl rfl _; rotate_left; (apply q_load; exact rfl; exact rfl; (first | exact cell_own (by (repeat (first | exact .here | apply Mem.there)); first | done | fail) rfl | exact cellR (by assumption) (by (repeat (first | exact .here | apply Mem.there)); first | done | fail) | exact cellH (by assumption) (by (repeat (first | exact .here | apply Mem.there)); first | done | fail) | exact cell_ints (by (repeat (first | exact .here | apply Mem.there)); first | done | fail) (by omega) | exact cell_bools (by assumption) (by (repeat (first | exact .here | apply Mem.there)); first | done | fail) | exact cell_intsR (by (repeat (first | exact .here | apply Mem.there)); first | done | fail) (by omega) | exact cell_boolsR (by assumption) (by (repeat (first | exact .here | apply Mem.there)); first | done | fail))))
    focus (refine' jk_q _ rfl rfl rfl _; rotate_left; (apply q_fld0; exact rfl; exact rfl))
    focus (refine' jk_q _ rfl rfl rfl _; rotate_left; (apply q_load; exact rfl; exact rfl; (first | exact cell_own (by (repeat (first | exact .here | apply Mem.there)); first | done | fail) rfl | exact cellR (by assumption) (by (repeat (first | exact .here | apply Mem.there)); first | done | fail) | exact cellH (by assumption) (by (repeat (first | exact .here | apply Mem.there)); first | done | fail) | exact cell_ints (by (repeat (first | exact .here | apply Mem.there)); first | done | fail) (by omega) | exact cell_bools (by assumption) (by (repeat (first | exact .here | apply Mem.there)); first | done | fail) | exact cell_intsR (by (repeat (first | exact .here | apply Mem.there)); first | done | fail) (by omega) | exact cell_boolsR (by assumption) (by (repeat (first | exact .here | apply Mem.there)); first | done | fail))))
    refine jk_callH a1 rfl rfl (Takes.skips [_, _, _] Takes.all) (by (repeat (first | exact RdOK.nil | (refine RdOK.consR ?_ ?_; (focus ((repeat (first | exact .here | apply Mem.there | apply Take.there)); first | done | fail))) | (refine RdOK.consH ?_ ?_; (focus ((repeat (first | exact .here | apply Mem.there | apply Take.there)); first | done | fail))) | exact (fun τ hτ => .inl (by simp [hτ])))); first | done | fail) rfl rfl ?_
    rintro _ H1 ⟨rfl, hG1⟩
    refine jk_perm (H' := sng b (.cells #[int (f : Int), int (t2 : Int), int l[k].c] 36 (0, 0)) :: sng bb (.cells #[rv] 26 (0, 0)) :: ρr :: H1) (by simpa using List.perm_append_comm (l₁ := H1) (l₂ := [_, _, _])) ?_
    refine jk_nil ?_
    refine jk_blk ?_
    refine jk_region ?_
    focus (refine' jk_q _ rfl rfl rfl _; rotate_left; (apply q_inc; exact rfl; exact rfl; omega))
    focus (refine' jk_q _ rfl rfl rfl _; rotate_left; (apply q_move; exact rfl))
    refine jk_nil ?_
    refine jk_round (k + 1, H1) ⟨by dsimp only; omega, ?_⟩ (by dsimp only; omega) (by (repeat (first | exact trivial | refine And.intro rfl ?_)); first | done | fail) (Sel.cons (by (repeat (first | exact .here | apply Take.there)); first | done | fail) (Sel.cons (by (repeat (first | exact .here | apply Take.there)); first | done | fail) (Sel.skip Sel.refl)))
    dsimp only
    rw [hsn]
    exact hG1
  rw [List.take_of_length_le (by omega)] at hG
  refine jk_perm (H' := Hg ++ [sng bb (.cells #[rv] 26 (0, 0)), ρr]) (by simpa using List.perm_append_comm (l₂ := Hg) (l₁ := [_, _])) ?_
  refine jk_joinAll (fun γ hγ => ?_)
  have hGA := hG.at hγ
  refine jk_freeze (ρ := γ) (by (repeat (first | exact .here | apply Take.there)); first | done | fail) ?_
  refine jk_emp ?_
  refine jk_emp ?_
  refine jk_seq ?_
  refine jk_region ?_
  focus (refine' jk_q _ rfl rfl rfl _; rotate_left; (apply q_ltF; exact rfl; exact rfl; omega))
  refine jk_nil ?_
  refine jk_seq ?_
  refine jk_if_f rfl ?_
  refine jk_exit rfl ?_
  refine jk_seq ?_
  refine jk_region ?_
  focus (refine' jk_q _ rfl rfl rfl _; rotate_left; (apply q_assign; exact rfl))
  refine jk_nil ?_
  refine jk_block ?_
  refine jk_loop [0, 1, 3, 4, 14, 15] (X := (List Int × List (List Lk × Int)) × ((Value × List (Value × Int)) × ((PH × PH) × PH))) ((fl, []), ((.slice none 0 0, []), ((emp, emp), ρr)))
    (fun x => Flw n' l s' t' x.1.1 ∧ (∀ ps r, RunP n' l s' t' x.1.1 ps r → RunP n' l s' t' fl (x.1.2 ++ ps) r) ∧ OwnS 3 1 rv x.1.1.length (x.1.1.flatMap encI) x.2.2.2 ∧ OwnS 51 2 x.2.1.1 x.2.1.2.length (x.2.1.2.flatMap encPV) x.2.2.1.1 ∧ ArcsIn x.2.2.1.2 x.2.1.2 x.1.2 ∧ x.1.2.length + npos x.1.1 ≤ l.length)
    (fun x => [(18, x.2.1.1)]) (fun x => [sng bb (.cells #[rv] 26 (0, 0)), x.2.2.2, x.2.2.1.1, x.2.2.1.2]) (fun x => (fval s' l x.1.1 + 1099511627776 * (2 * (l.length : Int))).toNat)
    (by (repeat (first | exact Pick.nil | apply Pick.cons rfl)); first | done | fail) ⟨hF0, fun _ _ h => h, hO, OwnS.nil _ _, ArcsIn.nil _, by have := npos_len fl; have := hF0.len; dsimp only [List.length_nil]; omega⟩ (by (repeat (first | exact trivial | refine And.intro rfl ?_)); first | done | fail) (by (repeat (first | exact Sel.nil | (apply Sel.cons; (focus ((repeat (first | exact .here | apply Mem.there | apply Take.there)); first | done | fail))))); first | done | fail) ?_
  rintro ⟨⟨rest, ps⟩, ⟨⟨ov, es⟩, ⟨⟨ρo, ρa⟩, ρ1⟩⟩⟩ ⟨hF, hrun, hO1, hOo, hAr, hcnt⟩
  dsimp only at hF hrun hO1 hOo hAr hcnt ⊢
  have hb0 := fval_bd s' l fl (inCap_small l _ hF0.len hF0.cap g.ok)
  have hb1 := fval_bd s' l rest (inCap_small l _ hF.len hF.cap g.ok)
  rw [← hF0.len] at hb0
  rw [← hF.len] at hb1
  have hrm : ∀ v x, v < n' → x ∈ insOf (plinks l) v → Ans Try.prog (roomP bb) [int x.k] [sng bb (.cells #[rv] 26 (0, 0)), ρ1] (fun r => r = int (rmP rest x.k)) := fun v x _ hx => by
    have hm : x ∈ plinks l := by unfold insOf at hx; exact (List.mem_filter.1 hx).1
    exact paths1_spec ρ1 bb x.k _ _ rv rest hO1 (by rw [← hF.len]; exact pl_k hm)
  refine jk_block ?_
  refine jk_seq ?_
  refine jk_region ?_
  focus (refine' jk_q _ rfl rfl rfl _; rotate_left; (apply q_move; exact rfl))
  focus (refine' jk_q _ rfl rfl rfl _; rotate_left; (apply q_move; exact rfl))
  focus (refine' jk_q _ rfl rfl rfl _; rotate_left; (apply q_move; exact rfl))
  refine jk_callM (path_spec γ gb n' s' t' (outsOf (plinks l)) (insOf (plinks l)) (roomP bb) (rmP rest) _ hGA hGok g.sn g.tn hrm) rfl rfl (by (repeat (first | exact RdOK.nil | (refine RdOK.consR ?_ ?_; (focus ((repeat (first | exact .here | apply Mem.there | apply Take.there)); first | done | fail))) | (refine RdOK.consH ?_ ?_; (focus ((repeat (first | exact .here | apply Mem.there | apply Take.there)); first | done | fail))) | exact (fun τ hτ => .inl (by simp [hτ])))); first | done | fail) rfl rfl ?_
  rintro _ ρp ⟨D, pv, hD, rfl, hP⟩
  rw [opens_opn hpl] at hD
  rw [nxO_nxt] at hP
  by_cases hd0 : 0 ≤ D.getD s' 0
  rotate_left
  · rw [decide_eq_false hd0]
    focus (refine' jk_q _ rfl rfl rfl _; rotate_left; (apply q_move; exact rfl))
    focus (refine' jk_q _ rfl rfl rfl _; rotate_left; (apply q_extract; exact rfl; exact rfl))
    focus (refine' jk_q _ rfl rfl rfl _; rotate_left; (apply q_extract; exact rfl; exact rfl))
    focus (refine' jk_q _ rfl rfl rfl _; rotate_left; (apply q_assign; exact rfl))
    focus (refine' jk_q _ rfl rfl rfl _; rotate_left; (apply q_assign; exact rfl))
    refine jk_nil ?_
    refine jk_seq ?_
    refine jk_seq ?_
    refine jk_region ?_
    focus (refine' jk_q _ rfl rfl rfl _; rotate_left; (apply q_move; exact rfl))
    focus (refine' jk_q _ rfl rfl rfl _; rotate_left; (apply q_not; exact rfl))
    refine jk_nil ?_
    refine jk_if_t rfl ?_
    refine jk_seq ?_
    refine jk_region ?_
    focus (refine' jk_q _ rfl rfl rfl _; rotate_left; (apply q_move; exact rfl))
    focus (refine' jk_q _ rfl rfl rfl _; rotate_left; (apply q_assign; exact rfl))
    focus (refine' jk_q _ rfl rfl rfl _; rotate_left; (apply q_assign; exact rfl))
    refine jk_nil ?_
    refine jk_join (ρ := ρo) (by (repeat (first | exact .here | apply Take.there)); first | done | fail) (σ := ρa) (by (repeat (first | exact .here | apply Take.there)); first | done | fail) (fun δ k1 k2 => ?_)
    refine jk_ret_any (res2 rfl rfl rfl) (by (repeat (first | exact rs_nil | (refine rs_cons ?_ ?_; (focus ((repeat (first | exact .here | apply Mem.there | apply Take.there)); first | done | fail))) | exact fun ρ hρ => hρ | (intro ρ hρ; repeat (first | exact hρ | refine List.mem_cons_of_mem _ ?_)))); first | done | fail) (by (repeat (first | exact Sel.nil | (apply Sel.cons; (focus ((repeat (first | exact .here | apply Mem.there | apply Take.there)); first | done | fail))))); first | done | fail) ⟨δ, ⟨ov, ps, 0, rfl, ⟨es, k1.slE hOo.at, hAr.sub k2⟩, .inr ⟨h0, rfl, rest, ?_⟩⟩, rfl⟩
    have := hrun [] rest (.done hD (by omega))
    simpa using this
  rw [decide_eq_true hd0]
  obtain ⟨hN1, hN2, hN3⟩ := pNext_ok g.ok g.sn g.ne hF hD hd0
  obtain ⟨k0, hk0⟩ := Int.eq_ofNat_of_zero_le hd0
  have hDn := hD.lt (fun x hx => hpl x hx.1) g.tn g.sn
  have hPl : (pP l rest D s').length = k0 := path_len hpl hD k0 s' g.sn hk0
  have hPm : ∀ x ∈ pP l rest D s', x ∈ plinks l := fun x hx => ((path_chn hpl hD k0 s' g.sn hk0).all x hx).1.1
  have hroom : pRoom l rest D s' ≤ 1099511627776 := (leastR_le _ _ _).1
  have hIn : IntsAt ρp pv (ksOf (pP l rest D s')) := ownInts (e := 3) (by rw [show (ksOf (pP l rest D s')).length = (pP l rest D s').length from by simp [ksOf]]; exact hP)
  have hlst := least_spec γ ρp gb (roomP bb) pv (rmP rest) _ (pP l rest D s') hGA.r hIn (by omega) (fun x hx => hrm x.t x (hpl x (hPm x hx)).2 (by unfold insOf; rw [List.mem_filter]; exact ⟨hPm x hx, by simp⟩))
  have hpv1 : pv.oneCell' = true := SlE.one hIn
  have hroom2 : leastR (rmP rest) (pP l rest D s') ≤ 1099511627776 := hroom
  have hroom3 : 0 < leastR (rmP rest) (pP l rest D s') := hN2
  obtain ⟨q2, c2, rfl, hr2⟩ := hIn.val encI_len
  have hkl : (ksOf (pP l rest D s')).length = (pP l rest D s').length := by simp [ksOf]
  have hmu := fval_bd s' l (pNext l rest D s') (inCap_small l _ hN1.len hN1.cap g.ok)
  rw [← hN1.len] at hmu
  focus (refine' jk_q _ rfl rfl rfl _; rotate_left; (apply q_move; exact rfl))
  focus (refine' jk_q _ rfl rfl rfl _; rotate_left; (apply q_extract; exact rfl; exact rfl))
  focus (refine' jk_q _ rfl rfl rfl _; rotate_left; (apply q_extract; exact rfl; exact rfl))
  focus (refine' jk_q _ rfl rfl rfl _; rotate_left; (apply q_assign; exact rfl))
  focus (refine' jk_q _ rfl rfl rfl _; rotate_left; (apply q_assign; exact rfl))
  refine jk_nil ?_
  refine jk_seq ?_
  refine jk_seq ?_
  refine jk_region ?_
  focus (refine' jk_q _ rfl rfl rfl _; rotate_left; (apply q_move; exact rfl))
  focus (refine' jk_q _ rfl rfl rfl _; rotate_left; (apply q_not; exact rfl))
  refine jk_nil ?_
  refine jk_if_f rfl ?_
  refine jk_skip ?_
  refine jk_seq ?_
  refine jk_region ?_
  focus (refine' jk_q _ rfl rfl rfl _; rotate_left; (apply q_move; exact rfl))
  focus (refine' jk_q _ rfl rfl rfl _; rotate_left; (apply q_move; exact rfl))
  refine jk_call hlst rfl rfl (by (repeat (first | exact RdOK.nil | (refine RdOK.consR ?_ ?_; (focus ((repeat (first | exact .here | apply Mem.there | apply Take.there)); first | done | fail))) | (refine RdOK.consH ?_ ?_; (focus ((repeat (first | exact .here | apply Mem.there | apply Take.there)); first | done | fail))) | exact (fun τ hτ => .inl (by simp [hτ])))); first | done | fail) rfl rfl ?_
  rintro _ rfl
  focus (refine' jk_q _ rfl rfl rfl _; rotate_left; (apply q_assign; exact rfl))
  refine jk_nil ?_
  refine jk_seq ?_
  refine jk_seq ?_
  refine jk_region ?_
  focus (refine' jk_q _ rfl rfl rfl _; rotate_left; (apply q_move; exact rfl))
  focus (refine' jk_q _ rfl rfl rfl _; rotate_left; (apply q_len; exact rfl; exact rfl))
  focus (refine' jk_q _ rfl rfl rfl _; rotate_left; (apply q_move; exact rfl))
  refine jk_nil ?_
  refine jk_block ?_
  refine jk_loop [0, 1, 3, 4, 14, 15, 18, 19, 21, 69, 70] (X := Nat × PH) (0, ρ1) (fun x => x.1 ≤ (pP l rest D s').length ∧ OwnS 3 1 rv (subAll (pRoom l rest D s') rest ((pP l rest D s').take x.1)).length ((subAll (pRoom l rest D s') rest ((pP l rest D s').take x.1)).flatMap encI) x.2) (fun x => [(71, int x.1)])
    (fun x => [sng bb (.cells #[rv] 26 (0, 0)), x.2, ρo, ρa, ρp])
    (fun x => (pP l rest D s').length - x.1) (by (repeat (first | exact Pick.nil | apply Pick.cons rfl)); first | done | fail) ⟨by dsimp only; omega, by simpa [subAll] using hO1⟩ (by (repeat (first | exact trivial | refine And.intro rfl ?_)); first | done | fail) (by (repeat (first | exact Sel.nil | (apply Sel.cons; (focus ((repeat (first | exact .here | apply Mem.there | apply Take.there)); first | done | fail))))); first | done | fail) ?_
  rintro ⟨i, ρ2⟩ ⟨hi, hO2⟩
  dsimp only at hi hO2 ⊢
  have hal : (subAll (pRoom l rest D s') rest ((pP l rest D s').take i)).length = l.length := by rw [subAll_len]; exact hF.len.symm
  by_cases hlt2 : i < (pP l rest D s').length
  · have hx : (ksOf (pP l rest D s'))[i]? = some ((pP l rest D s')[i].k : Int) := by simp [ksOf, hlt2]
    obtain ⟨b, o, rfl, g0⟩ := hr2.int hx
    have hxm := hPm _ (List.getElem_mem hlt2)
    have hxk := pl_k hxm
    obtain ⟨br, cap, rfl⟩ := OwnS.some_of hO2 (by omega)
    have hnum := OwnS.num hO2 (i := (pP l rest D s')[i].k) (by omega)
    have hic := inCap_get l _ (pTake_cap g.ok g.sn hF hD hd0 i) (pP l rest D s')[i].k (l[(pP l rest D s')[i].k]'(by omega)) ((subAll (pRoom l rest D s') rest ((pP l rest D s').take i)).getD (pP l rest D s')[i].k 0) (List.getElem?_eq_getElem (by omega)) (by rw [List.getD_eq_getElem?_getD, List.getElem?_eq_getElem (by omega)]; rfl)
    have hcc := hcap _ (List.getElem_mem (show (pP l rest D s')[i].k < l.length by omega))
    have hsn := subAll_snoc (pRoom l rest D s') rest ((pP l rest D s').take i) (pP l rest D s')[i]
    rw [← take_snoc' hlt2] at hsn
    unfold subP at hsn
    refine jk_seq ?_
    refine jk_region ?_
    focus (refine' jk_q _ rfl rfl rfl _; rotate_left; (apply q_lt; exact rfl; exact rfl; omega))
    refine jk_nil ?_
    refine jk_seq ?_
    refine jk_if_t rfl ?_
    refine jk_skip ?_
    refine jk_seq ?_
    refine jk_block ?_
    refine jk_seq ?_
    refine jk_region ?_
    focus (refine' jk_q _ rfl rfl rfl _; rotate_left; (apply q_idx1; exact rfl; exact rfl; exact rfl; exact rfl; omega))
    focus (refine' jk_q _ rfl rfl rfl _; rotate_left; (apply q_load; exact rfl; exact rfl; (first | exact cell_own (by (repeat (first | exact .here | apply Mem.there)); first | done | fail) rfl | exact cellR (by assumption) (by (repeat (first | exact .here | apply Mem.there)); first | done | fail) | exact cellH (by assumption) (by (repeat (first | exact .here | apply Mem.there)); first | done | fail) | exact cell_ints (by (repeat (first | exact .here | apply Mem.there)); first | done | fail) (by omega) | exact cell_bools (by assumption) (by (repeat (first | exact .here | apply Mem.there)); first | done | fail) | exact cell_intsR (by (repeat (first | exact .here | apply Mem.there)); first | done | fail) (by omega) | exact cell_boolsR (by assumption) (by (repeat (first | exact .here | apply Mem.there)); first | done | fail))))
    focus (refine' jk_q _ rfl rfl rfl _; rotate_left; (apply q_assign; exact rfl))
    refine jk_nil ?_
    refine jk_region ?_
    focus (refine' jk_q _ rfl rfl rfl _; rotate_left; (apply q_load; exact rfl; exact rfl; (first | exact cell_own (by (repeat (first | exact .here | apply Mem.there)); first | done | fail) rfl | exact cellR (by assumption) (by (repeat (first | exact .here | apply Mem.there)); first | done | fail) | exact cellH (by assumption) (by (repeat (first | exact .here | apply Mem.there)); first | done | fail) | exact cell_ints (by (repeat (first | exact .here | apply Mem.there)); first | done | fail) (by omega) | exact cell_bools (by assumption) (by (repeat (first | exact .here | apply Mem.there)); first | done | fail) | exact cell_intsR (by (repeat (first | exact .here | apply Mem.there)); first | done | fail) (by omega) | exact cell_boolsR (by assumption) (by (repeat (first | exact .here | apply Mem.there)); first | done | fail))))
    focus (refine' jk_q _ rfl rfl rfl _; rotate_left; (apply q_move; exact rfl))
    focus (refine' jk_q _ rfl rfl rfl _; rotate_left; (apply q_idx0; exact rfl; exact rfl; exact rfl; exact rfl; omega))
    focus (refine' jk_q _ rfl rfl rfl _; rotate_left; (apply q_load; exact rfl; exact rfl; (first | exact cell_own (by (repeat (first | exact .here | apply Mem.there)); first | done | fail) rfl | exact cellR (by assumption) (by (repeat (first | exact .here | apply Mem.there)); first | done | fail) | exact cellH (by assumption) (by (repeat (first | exact .here | apply Mem.there)); first | done | fail) | exact cell_ints (by (repeat (first | exact .here | apply Mem.there)); first | done | fail) (by omega) | exact cell_bools (by assumption) (by (repeat (first | exact .here | apply Mem.there)); first | done | fail) | exact cell_intsR (by (repeat (first | exact .here | apply Mem.there)); first | done | fail) (by omega) | exact cell_boolsR (by assumption) (by (repeat (first | exact .here | apply Mem.there)); first | done | fail))))
    focus (refine' jk_q _ rfl rfl rfl _; rotate_left; (apply q_move; exact rfl))
    focus (refine' jk_q _ rfl rfl rfl _; rotate_left; (apply q_sub; exact rfl; exact rfl; exact ⟨by omega, by omega⟩))
    focus (refine' jk_q _ rfl rfl rfl _; rotate_left; (apply q_idx0; exact rfl; exact rfl; exact rfl; exact rfl; omega))
    refine jk_op_none (l_storeF encI_len (a := (subAll (pRoom l rest D s') rest ((pP l rest D s').take i)).getD (pP l rest D s')[i].k 0) (pP l rest D s')[i].k 0 ((subAll (pRoom l rest D s') rest ((pP l rest D s').take i)).getD (pP l rest D s')[i].k 0 - pRoom l rest D s') hO2 rfl (by omega) (by omega) (by rw [List.getD_eq_getElem?_getD, List.getElem?_eq_getElem (by omega)]; rfl) rfl rfl rfl rfl (by (repeat (first | exact .here | apply Take.there)); first | done | fail)) rfl rfl ?_
    rintro _ _ ⟨rfl, ρ3, hO3, rfl⟩
    refine jk_nil ?_
    refine jk_blk ?_
    refine jk_region ?_
    focus (refine' jk_q _ rfl rfl rfl _; rotate_left; (apply q_inc; exact rfl; exact rfl; omega))
    focus (refine' jk_q _ rfl rfl rfl _; rotate_left; (apply q_move; exact rfl))
    refine jk_nil ?_
    refine jk_round (i + 1, ρ3) ⟨by dsimp only; omega, ?_⟩ (by dsimp only; omega) (by (repeat (first | exact trivial | refine And.intro rfl ?_)); first | done | fail) (by (repeat (first | exact Sel.nil | (apply Sel.cons; (focus ((repeat (first | exact .here | apply Mem.there | apply Take.there)); first | done | fail))))); first | done | fail)
    dsimp only
    rw [hsn]
    rw [List.length_set] at hO3 ⊢
    exact hO3
  · rw [List.take_of_length_le (by omega)] at hO2
    have hesl := hAr.1
    have hnp := pNext_pos g.ok g.sn g.ne hF hD hd0
    refine jk_seq ?_
    refine jk_region ?_
    focus (refine' jk_q _ rfl rfl rfl _; rotate_left; (apply q_ltF; exact rfl; exact rfl; omega))
    refine jk_nil ?_
    refine jk_seq ?_
    refine jk_if_f rfl ?_
    refine jk_exit rfl ?_
    refine jk_region ?_
    focus (refine' jk_q _ rfl rfl rfl _; rotate_left; (apply q_move; exact rfl))
    focus (refine' jk_q _ rfl rfl rfl _; rotate_left; (apply q_move; exact rfl))
    focus (refine' jk_q _ rfl rfl rfl _; rotate_left; (apply q_move; exact rfl))
    focus (refine' jk_q _ rfl rfl rfl _; rotate_left; (apply q_build; exact rfl; exact rfl; exact (by (repeat (first | exact Bld.nil | apply Bld.put rfl rfl rfl | apply Bld.keep rfl)); first | done | fail)))
    focus (refine' jk_op _ rfl rfl rfl _; rotate_left; (apply l_buildSlice; exact rfl; exact rfl; exact rfl; exact rfl; exact rfl; exact (by (repeat (first | exact (fun v hv => absurd hv List.not_mem_nil) | (refine List.forall_mem_cons.2 ⟨?_, ?_⟩; (focus (first | exact rfl | assumption))))); first | done | fail); exact (by (repeat (first | exact Flat.nil | apply Flat.one rfl | apply Flat.agg2 | apply Flat.agg3 | apply Flat.agg1 | apply Flat.agg4 | apply Flat.agg5)); first | done | fail); exact rfl); rintro _ _ ⟨b, rfl, rfl⟩)
    refine jk_op (l_append (by_ := 32) (s := 2) (news := [.slice q2 (ksOf (pP l rest D s')).length c2, int (pRoom l rest D s')]) rfl rfl rfl rfl rfl rfl rfl hOo (by (repeat (first | exact .here | apply Take.there)); first | done | fail) (cells_own (by (repeat (first | exact .here | apply Mem.there)); first | done | fail)) rfl (by (repeat (first | exact (fun v hv => absurd hv List.not_mem_nil) | (refine List.forall_mem_cons.2 ⟨?_, ?_⟩; (focus (first | exact rfl | assumption))))); first | done | fail) (by omega) (by simp only [maxLen]; omega) (by omega)) rfl rfl rfl ?_
    rintro q9 _ ⟨ρ4, hQ4, rfl⟩
    focus (refine' jk_q _ rfl rfl rfl _; rotate_left; (apply q_assign; exact rfl))
    refine jk_nil ?_
    refine jk_blk ?_
    refine jk_join (ρ := ρa) (by (repeat (first | exact .here | apply Take.there)); first | done | fail) (σ := ρp) (by (repeat (first | exact .here | apply Take.there)); first | done | fail) (fun δ k1 k2 => ?_)
    refine jk_round ((pNext l rest D s', ps ++ [(pP l rest D s', pRoom l rest D s')]), ((q9, es ++ [(.slice q2 (ksOf (pP l rest D s')).length c2, pRoom l rest D s')]), ((ρ4, δ), ρ2))) ⟨hN1, ?_, hO2, ?_, (hAr.sub k1).snoc rfl (k2.slE hIn), ?_⟩ (by dsimp only; omega) (by (repeat (first | exact trivial | refine And.intro rfl ?_)); first | done | fail) (by (repeat (first | exact Sel.nil | (apply Sel.cons; (focus ((repeat (first | exact .here | apply Mem.there | apply Take.there)); first | done | fail))))); first | done | fail)
    · intro ps2 r hR
      have := hrun _ r (.step hD hd0 hR)
      dsimp only
      rw [List.append_assoc]
      exact this
    · dsimp only
      rw [List.length_append, List.flatMap_append]
      exact hQ4
    · dsimp only
      rw [List.length_append, List.length_singleton]
      omega
end Go.Proofs.Ytoccdekghjoldaa
