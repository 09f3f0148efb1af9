/- Texts of this proof, one after the other; no conditions. -/
import Derived.Test.YtjbebmealbnmgaaGreatWB7
import Derived.Test.YtjbebmealbnmgaaGreatWB2
import Derived.Test.YtjbebmealbnmgaaGreatWB9
import Derived.Test.YtjbebmealbnmgaaGreatWB8
set_option linter.all false
/- Capacity of the document. -/
namespace Go.Proofs.YtjbebmealbnmgaaGreat
open Go.Eng Go.Step
set_option maxRecDepth 100000
set_option maxHeartbeats 4000000

theorem CutRow.open {ρ κ : PH} {p : Option Addr} {c : Cu} (h : CutRow ρ κ p c) (hp : 0 < c.length) : ∃ b o, p = some ⟨b, o, none⟩ ∧ ∀ (i : Nat) (l : List (Int × Int)), c[i]? = some l → ∃ q k, rdc ρ b (o + i) = some (.slice q l.length k) ∧ SpAt κ (.slice q l.length k) l ∧ RowsE encS 2 κ q l ∧ l.length ≤ 9223372036854775807 := by
  obtain ⟨b, o, _, _, e, _⟩ := h 0 _ (List.getElem?_eq_getElem hp)
  refine ⟨b, o, e, fun i l hl => ?_⟩
  obtain ⟨b2, o2, q, k, e2, h1, h2, h3⟩ := h i l hl
  rw [e] at e2
  simp only [Option.some.injEq, Addr.mk.injEq, and_true] at e2
  obtain ⟨rfl, rfl⟩ := e2
  obtain ⟨q2, k2, e3, hr⟩ := h2.val encS_len
  simp only [Value.slice.injEq] at e3
  obtain ⟨rfl, _, rfl⟩ := e3
  exact ⟨_, _, h1, h2, hr, h3⟩
set_option maxHeartbeats 64000000 in
theorem refCap_spec {ρ τ σ υ : PH} {pq pc pb ph : Option Addr} {kq kc kb kh : Nat} {qs : List Int} {cs : List Ct} {bs : List Bk} {hs : List Hd} (hT : TbAt ρ τ σ υ pq pc pb ph kq kc kb kh qs cs bs hs) (γ κ : PH) (d : Dm) (p : Option Addr) (kk : Nat) (c : Cu) (hc : CutRow γ κ p c) (hcl : c.length ≤ 9223372036854775807) :
    Ans Tryz.prog (fv 8) [.agg #[.slice pq qs.length kq, .slice pc cs.length kc, .slice pb bs.length kb, .slice ph hs.length kh], .agg #[int d.s, int d.d, int d.v, int d.r, int d.e], .slice p c.length kk] [ρ, τ, σ, υ, γ, κ] (fun r => r = .tuple #[int (capR qs cs bs hs d c).1, int (capR qs cs bs hs d c).2]) := by
  refine spec_in (cap := []) Tryz.func8 rfl rfl Tryz.ntmps8 rfl (by (repeat (first | exact EnvA.nil EnvI.nil | apply EnvA.cons | apply EnvA.nil | exact EnvI.nil | apply EnvI.cons)); first | done | fail) (fun N β => ?_)
  refine jk_seq ?_
  refine jk_region ?_
  refine jk_op (l_boxS rfl) rfl rfl rfl ?_
  rintro _ _ ⟨b1, rfl, rfl⟩
  refine jk_freeze (ρ := sng b1 _) takeZ ?_
  have ct : RdN (sng b1 (.cells #[.slice pq qs.length kq, .slice pc cs.length kc, .slice pb bs.length kb, .slice ph hs.length kh] 29 (0, 0))) b1 0 [.slice pq qs.length kq, .slice pc cs.length kc, .slice pb bs.length kb, .slice ph hs.length kh] := rdN_sng (vs := [.slice pq qs.length kq, .slice pc cs.length kc, .slice pb bs.length kb, .slice ph hs.length kh])
  have ct0 : rdc (sng b1 (.cells #[.slice pq qs.length kq, .slice pc cs.length kc, .slice pb bs.length kb, .slice ph hs.length kh] 29 (0, 0))) b1 0 = some (.slice pq qs.length kq) := by rw [rdc_sng]; rfl
  have ct1 : rdc (sng b1 (.cells #[.slice pq qs.length kq, .slice pc cs.length kc, .slice pb bs.length kb, .slice ph hs.length kh] 29 (0, 0))) b1 1 = some (.slice pc cs.length kc) := by rw [rdc_sng]; rfl
  have ct2 : rdc (sng b1 (.cells #[.slice pq qs.length kq, .slice pc cs.length kc, .slice pb bs.length kb, .slice ph hs.length kh] 29 (0, 0))) b1 2 = some (.slice pb bs.length kb) := by rw [rdc_sng]; rfl
  have ct3 : rdc (sng b1 (.cells #[.slice pq qs.length kq, .slice pc cs.length kc, .slice pb bs.length kb, .slice ph hs.length kh] 29 (0, 0))) b1 3 = some (.slice ph hs.length kh) := by rw [rdc_sng]; rfl
  have ctp : RdP (sng b1 (.cells #[.slice pq qs.length kq, .slice pc cs.length kc, .slice pb bs.length kb, .slice ph hs.length kh] 29 (0, 0))) b1 0 [.slice pq qs.length kq, .slice pc cs.length kc] := rdP_sng (xs := [.slice pq qs.length kq, .slice pc cs.length kc, .slice pb bs.length kb, .slice ph hs.length kh]) rfl
  refine jk_op (l_boxS rfl) rfl rfl rfl ?_
  rintro _ _ ⟨b2, rfl, rfl⟩
  refine jk_freeze (ρ := sng b2 _) takeZ ?_
  have cd : RdN (sng b2 (.cells #[int d.s, int d.d, int d.v, int d.r, int d.e] 31 (0, 0))) b2 0 [int d.s, int d.d, int d.v, int d.r, int d.e] := rdN_sng (vs := [int d.s, int d.d, int d.v, int d.r, int d.e])
  have cd0 : rdc (sng b2 (.cells #[int d.s, int d.d, int d.v, int d.r, int d.e] 31 (0, 0))) b2 0 = some (int d.s) := by rw [rdc_sng]; rfl
  have cd1 : rdc (sng b2 (.cells #[int d.s, int d.d, int d.v, int d.r, int d.e] 31 (0, 0))) b2 1 = some (int d.d) := by rw [rdc_sng]; rfl
  have cd2 : rdc (sng b2 (.cells #[int d.s, int d.d, int d.v, int d.r, int d.e] 31 (0, 0))) b2 2 = some (int d.v) := by rw [rdc_sng]; rfl
  have cd3 : rdc (sng b2 (.cells #[int d.s, int d.d, int d.v, int d.r, int d.e] 31 (0, 0))) b2 3 = some (int d.r) := by rw [rdc_sng]; rfl
  have cd4 : rdc (sng b2 (.cells #[int d.s, int d.d, int d.v, int d.r, int d.e] 31 (0, 0))) b2 4 = some (int d.e) := by rw [rdc_sng]; rfl
  refine zq_assign ?_
  refine zq_assign ?_
  refine jk_nil ?_
  refine jk_seq ?_
  refine jk_seq ?_
  refine jk_region ?_
  refine zq_loadS ?_
  refine zq_loadS ?_
  refine jk_call (refCertValid_spec hT d) rfl rfl rdZ rfl rfl ?_
  rintro _ rfl
  cases hval : validT qs cs bs hs d with
  | false =>
    have hR : capR qs cs bs hs d c = (0, 1) := by unfold capR; rw [if_pos hval]
    rw [hR]
    refine zq_not ?_
    refine jk_nil ?_
    refine jk_if_t rfl ?_
    refine jk_seq ?_
    refine jk_region ?_
    refine zq_assign ?_
    refine zq_assign ?_
    refine jk_nil ?_
    exact jk_ret_any (res2 rfl rfl rfl) (by (repeat (first | exact rs_nil | (refine rs_cons ?_ ?_; (focus ((repeat (first | exact .here | apply Mem.there | apply Take.there)); first | done | fail))) | exact fun ρ hρ => hρ | (intro ρ hρ; repeat (first | exact hρ | refine List.mem_cons_of_mem _ ?_)))); first | done | fail) selZ ⟨rfl, rfl⟩
  | true =>
  obtain ⟨hcs0, hbl, hok, hhl, hql, hquo, hdm, hcsl⟩ := valid_ok hval
  have hcs : ∀ c ∈ cs, chkCt c = 0 := fun c hc => (hcs0 c hc).1
  have hdm2 : 0 ≤ d.r ∧ d.r < d.e ∧ d.e ≤ 1099511627776 ∧ d.e - d.r ≤ 100 := hdm.2.2.2.2
  by_cases hlen : c.length = qs.length
  rotate_left
  · have hR : capR qs cs bs hs d c = (0, 10) := by unfold capR; rw [if_neg (by rw [hval]; simp), if_pos hlen]
    rw [hR]
    refine zq_not ?_
    refine jk_nil ?_
    refine jk_if_f rfl ?_
    refine jk_skip ?_
    refine jk_seq ?_
    refine jk_seq ?_
    refine jk_region ?_
    refine zq_move ?_
    refine zq_len ?_
    refine zq_fld0 ?_
    refine zq_fld0 ?_
    refine zq_load ?_
    refine zq_len ?_
    refine zq_ne ?_
    refine jk_nil ?_
    refine jk_if_t rfl ?_
    refine jk_seq ?_
    refine jk_region ?_
    refine zq_assign ?_
    refine zq_assign ?_
    refine jk_nil ?_
    exact jk_ret_any (res2 rfl rfl rfl) (by (repeat (first | exact rs_nil | (refine rs_cons ?_ ?_; (focus ((repeat (first | exact .here | apply Mem.there | apply Take.there)); first | done | fail))) | exact fun ρ hρ => hρ | (intro ρ hρ; repeat (first | exact hρ | refine List.mem_cons_of_mem _ ?_)))); first | done | fail) selZ ⟨rfl, rfl⟩
  obtain ⟨bp, op, rfl, hrow⟩ := hc.open (by omega)
  refine zq_not ?_
  refine jk_nil ?_
  refine jk_if_f rfl ?_
  refine jk_skip ?_
  refine jk_seq ?_
  refine jk_seq ?_
  refine jk_region ?_
  refine zq_move ?_
  refine zq_len ?_
  refine zq_fld0 ?_
  refine zq_fld0 ?_
  refine zq_load ?_
  refine zq_len ?_
  refine zq_neF ?_
  refine jk_nil ?_
  refine jk_if_f rfl ?_
  refine jk_skip ?_
  refine jk_seq ?_
  refine jk_seq ?_
  refine jk_region ?_
  refine zq_assign ?_
  refine jk_nil ?_
  refine jk_block ?_
  refine jk_loop [2, 3, 4] (0 : Nat) (fun i => i ≤ c.length ∧ (c.take i).any (badL2 d) = false) (fun i => [(8, int i)]) (fun _ => []) (fun i => c.length - i) pickZ ⟨by omega, rfl⟩ covZ selZ ?_
  rintro i ⟨hi, hI⟩
  by_cases hlt : i < c.length
  · have hx := List.getElem?_eq_getElem hlt
    have hnx := any_take (badL2 d) hlt
    rw [hI, Bool.false_or] at hnx
    obtain ⟨q, k, g, hsp, hr, hll⟩ := hrow i _ hx
    have hyes : badL2 d c[i] = true → capR qs cs bs hs d c = (0, 2) := fun h => by
      unfold capR
      rw [if_neg (by rw [hval]; simp), if_neg (fun h => h hlen), if_pos (List.any_eq_true.2 ⟨_, List.getElem_mem hlt, h⟩)]
    generalize c[i] = l at hnx g hsp hr hll hyes
    have hck := refIvCheck_spec κ _ l hsp hll
    refine jk_seq ?_
    refine jk_seq ?_
    refine jk_region ?_
    refine zq_move ?_
    refine zq_move ?_
    refine zq_len ?_
    refine zq_lt ?_
    refine jk_nil ?_
    refine jk_if_t rfl ?_
    refine jk_skip ?_
    refine jk_seq ?_
    refine jk_block ?_
    refine jk_seq ?_
    refine jk_seq ?_
    refine jk_region ?_
    refine zq_move ?_
    refine zq_move ?_
    refine zq_idx1 ?_
    refine zq_load ?_
    refine jk_call hck rfl rfl rdZ rfl rfl ?_
    rintro _ rfl
    unfold badL2 at hyes hnx
    by_cases h0 : chkI l = 0
    rotate_left
    · rw [hyes (by rw [decide_eq_true h0]; rfl)]
      generalize chkI l = z at h0
      refine zq_ne ?_
      refine jk_nil ?_
      refine jk_if_t rfl ?_
      refine jk_seq ?_
      refine jk_region ?_
      refine zq_assign ?_
      refine zq_assign ?_
      refine jk_nil ?_
      exact jk_ret_any (res2 rfl rfl rfl) (by (repeat (first | exact rs_nil | (refine rs_cons ?_ ?_; (focus ((repeat (first | exact .here | apply Mem.there | apply Take.there)); first | done | fail))) | exact fun ρ hρ => hρ | (intro ρ hρ; repeat (first | exact hρ | refine List.mem_cons_of_mem _ ?_)))); first | done | fail) selZ ⟨rfl, rfl⟩
    rw [h0]
    refine zq_neF ?_
    refine jk_nil ?_
    refine jk_if_f rfl ?_
    refine jk_skip ?_
    refine jk_seq ?_
    refine jk_region ?_
    refine zq_assign ?_
    refine jk_nil ?_
    refine jk_block ?_
    refine jk_loop [2, 3, 4, 8] (0 : Nat) (fun j => j ≤ l.length ∧ (l.take j).any (badS d) = false) (fun j => [(9, int j)]) (fun _ => []) (fun j => l.length - j) pickZ ⟨by omega, rfl⟩ covZ selZ ?_
    rintro j ⟨hj, hJ⟩
    by_cases hjl : j < l.length
    · obtain ⟨b4, o4, rfl, hrd, g0, g1⟩ := spRow hr (List.getElem?_eq_getElem hjl)
      have hnj := any_take (badS d) hjl
      rw [hJ, Bool.false_or] at hnj
      have hyes2 : badS d l[j] = true → capR qs cs bs hs d c = (0, 2) := fun h => hyes (by rw [List.any_eq_true.2 ⟨_, List.getElem_mem hjl, h⟩, Bool.or_true])
      generalize l[j] = y at hrd g0 g1 hnj hyes2
      unfold badS at hnj hyes2
      refine jk_seq ?_
      refine jk_seq ?_
      refine jk_region ?_
      refine zq_move ?_
      refine zq_move ?_
      refine zq_move ?_
      refine zq_idx1 ?_
      refine zq_load ?_
      refine zq_len ?_
      refine zq_lt ?_
      refine jk_nil ?_
      refine jk_if_t rfl ?_
      refine jk_skip ?_
      refine jk_seq ?_
      refine jk_block ?_
      refine jk_seq ?_
      refine jk_draw (.q 0 (.q 1 (.q 2 (.q 3 (.q 4 (.q 5 (.q 6 (.q 7 (.q 8 (.q 9 (.q 10 (.q 11 (.q 12 (.q 13 (.q 14 (.q 15 (.q 16 (.q 17 (.q 18 (.q 19 (.q 20 (.q 21 (.q 22 (.q 23 (.q 24 .nil))))))))))))))))))))))))) [] rfl (by kernel_rfl) selZ ?_
      by_cases k1 : y.1 < d.r
      · rw [hyes2 (by rw [decide_eq_true k1]; rfl)]
        refine zd_move ?_
        refine zd_move ?_
        refine zd_idx1 ?_
        refine zd_load ?_
        refine zd_move ?_
        refine zd_idxN ?_
        refine zd_fldZ ?_
        refine zd_load ?_
        refine zd_fld0 ?_
        refine zd_load ?_
        refine zd_lt ?_
        refine zd_move ?_
        refine dj_pass rfl rfl rfl rfl rfl ?_
        refine dj_pass rfl rfl rfl rfl rfl ?_
        refine dj_pass rfl rfl rfl rfl rfl ?_
        refine dj_pass rfl rfl rfl rfl rfl ?_
        refine dj_pass rfl rfl rfl rfl rfl ?_
        refine dj_pass rfl rfl rfl rfl rfl ?_
        refine dj_pass rfl rfl rfl rfl rfl ?_
        refine dj_pass rfl rfl rfl rfl rfl ?_
        refine dj_pass rfl rfl rfl rfl rfl ?_
        refine dj_pass rfl rfl rfl rfl rfl ?_
        refine dj_pass rfl rfl rfl rfl rfl ?_
        refine dj_pass rfl rfl rfl rfl rfl ?_
        refine zd_pick_t ?_
        refine dj_end ?_
        refine jk_if_t rfl ?_
        refine jk_seq ?_
        refine jk_region ?_
        refine zq_assign ?_
        refine zq_assign ?_
        refine jk_nil ?_
        exact jk_ret_any (res2 rfl rfl rfl) (by (repeat (first | exact rs_nil | (refine rs_cons ?_ ?_; (focus ((repeat (first | exact .here | apply Mem.there | apply Take.there)); first | done | fail))) | exact fun ρ hρ => hρ | (intro ρ hρ; repeat (first | exact hρ | refine List.mem_cons_of_mem _ ?_)))); first | done | fail) selZ ⟨rfl, rfl⟩
      by_cases k2 : d.e + 1 < y.2
      · rw [hyes2 (by rw [decide_eq_true k2, Bool.or_true])]
        refine zd_move ?_
        refine zd_move ?_
        refine zd_idx1 ?_
        refine zd_load ?_
        refine zd_move ?_
        refine zd_idxN ?_
        refine zd_fldZ ?_
        refine zd_load ?_
        refine zd_fld0 ?_
        refine zd_load ?_
        refine zd_ltF ?_
        refine zd_move ?_
        refine zd_move ?_
        refine zd_move ?_
        refine zd_idx1 ?_
        refine zd_load ?_
        refine zd_move ?_
        refine zd_idxN ?_
        refine zd_fld ?_
        refine zd_load ?_
        refine zd_fld0 ?_
        refine zd_load ?_
        refine zd_add ?_
        refine zd_gt ?_
        refine zd_pick_f ?_
        refine dj_end ?_
        refine jk_if_t rfl ?_
        refine jk_seq ?_
        refine jk_region ?_
        refine zq_assign ?_
        refine zq_assign ?_
        refine jk_nil ?_
        exact jk_ret_any (res2 rfl rfl rfl) (by (repeat (first | exact rs_nil | (refine rs_cons ?_ ?_; (focus ((repeat (first | exact .here | apply Mem.there | apply Take.there)); first | done | fail))) | exact fun ρ hρ => hρ | (intro ρ hρ; repeat (first | exact hρ | refine List.mem_cons_of_mem _ ?_)))); first | done | fail) selZ ⟨rfl, rfl⟩
      rw [decide_eq_false k1, decide_eq_false k2] at hnj
      refine zd_move ?_
      refine zd_move ?_
      refine zd_idx1 ?_
      refine zd_load ?_
      refine zd_move ?_
      refine zd_idxN ?_
      refine zd_fldZ ?_
      refine zd_load ?_
      refine zd_fld0 ?_
      refine zd_load ?_
      refine zd_ltF ?_
      refine zd_move ?_
      refine zd_move ?_
      refine zd_move ?_
      refine zd_idx1 ?_
      refine zd_load ?_
      refine zd_move ?_
      refine zd_idxN ?_
      refine zd_fld ?_
      refine zd_load ?_
      refine zd_fld0 ?_
      refine zd_load ?_
      refine zd_add ?_
      refine zd_gtF ?_
      refine zd_pick_f ?_
      refine dj_end ?_
      refine jk_if_f rfl ?_
      refine jk_skip ?_
      refine jk_blk ?_
      refine jk_region ?_
      refine zq_move ?_
      refine zq_inc ?_
      refine zq_assign ?_
      refine jk_nil ?_
      exact jk_round (j + 1) ⟨by omega, hnj⟩ (by omega) covZ selZ
    · have hje : j = l.length := by omega
      subst hje
      rw [List.take_length] at hJ
      rw [hJ, h0] at hnx
      refine jk_seq ?_
      refine jk_seq ?_
      refine jk_region ?_
      refine zq_move ?_
      refine zq_move ?_
      refine zq_move ?_
      refine zq_idx1 ?_
      refine zq_load ?_
      refine zq_len ?_
      refine zq_ltF ?_
      refine jk_nil ?_
      refine jk_if_f rfl ?_
      refine jk_exit rfl ?_
      refine jk_blk ?_
      refine jk_region ?_
      refine zq_move ?_
      refine zq_inc ?_
      refine zq_assign ?_
      refine jk_nil ?_
      exact jk_round (i + 1) ⟨by omega, hnx⟩ (by omega) covZ selZ
  have hie : i = c.length := by omega
  subst hie
  rw [List.take_length] at hI
  have hR0 : capR qs cs bs hs d c = if hasI (cuAt c d.s) d.r = false ∨ hasI (cuAt c d.d) d.e = true then (0, 24) else (capSum qs cs bs hs d c, 0) := by
    unfold capR
    rw [if_neg (by rw [hval]; simp), if_neg (fun h => h hlen), if_neg (by rw [hI]; simp)]
  clear hI
  have hdd0 := hdm.1
  have hdd1 := hdm.2.1
  obtain ⟨ds, hds⟩ : ∃ n : Nat, d.s = n := ⟨d.s.toNat, by omega⟩
  obtain ⟨dd, hdd⟩ : ∃ n : Nat, d.d = n := ⟨d.d.toNat, by omega⟩
  have hxs := List.getElem?_eq_getElem (show ds < c.length by omega)
  have hxd := List.getElem?_eq_getElem (show dd < c.length by omega)
  obtain ⟨q1, k1, gs, hs1, _, hl1⟩ := hrow ds _ hxs
  obtain ⟨q2, k2, gd, hs2, _, hl2⟩ := hrow dd _ hxd
  have hh1 := refHas_spec κ _ _ d.r hs1 hl1
  have hh2 := refHas_spec κ _ _ d.e hs2 hl2
  have e1 : cuAt c d.s = c[ds] := by rw [hds]; exact cuAt_get hxs
  have e2 : cuAt c d.d = c[dd] := by rw [hdd]; exact cuAt_get hxd
  rw [e1, e2] at hR0
  have cdn0 : rdc (sng b2 (.cells #[int d.s, int d.d, int d.v, int d.r, int d.e] 31 (0, 0))) b2 0 = some (int ds) := by rw [rdc_sng, ← hds]; rfl
  have cdn1 : rdc (sng b2 (.cells #[int d.s, int d.d, int d.v, int d.r, int d.e] 31 (0, 0))) b2 1 = some (int dd) := by rw [rdc_sng, ← hdd]; rfl
  clear cd0 cd1
  refine jk_seq ?_
  refine jk_seq ?_
  refine jk_region ?_
  refine zq_move ?_
  refine zq_move ?_
  refine zq_len ?_
  refine zq_ltF ?_
  refine jk_nil ?_
  refine jk_if_f rfl ?_
  refine jk_exit rfl ?_
  refine jk_seq ?_
  refine jk_seq ?_
  refine jk_draw (.q 0 (.q 1 (.q 2 (.q 3 (.q 4 (.q 5 (.q 6 (.l 7 .e (.q 8 (.q 9 (.q 10 (.q 11 (.q 12 (.q 13 (.q 14 (.q 15 (.q 16 (.l 17 .e (.q 18 .nil))))))))))))))))))) [] rfl (by kernel_rfl) selZ ?_
  refine zd_move ?_
  refine zd_fld0 ?_
  refine zd_load ?_
  refine zd_idx1 ?_
  refine zd_load ?_
  refine zd_fld0 ?_
  refine zd_load ?_
  refine dj_l (a_call rfl hh1 rfl rfl rdZ rfl rfl ?_)
  rintro _ rfl
  cases hb1 : hasI c[ds] d.r with
  | false =>
    rw [hR0, if_pos (.inl hb1)]
    refine dj_replan (.q 8 (.q 9 (.q 10 (.q 11 (.q 12 (.q 13 (.q 14 (.q 15 (.q 16 (.q 17 (.q 18 .nil))))))))))) (by kernel_rfl) ?_
    refine zd_not ?_
    refine zd_move ?_
    refine dj_pass rfl rfl rfl rfl rfl ?_
    refine dj_pass rfl rfl rfl rfl rfl ?_
    refine dj_pass rfl rfl rfl rfl rfl ?_
    refine dj_pass rfl rfl rfl rfl rfl ?_
    refine dj_pass rfl rfl rfl rfl rfl ?_
    refine dj_pass rfl rfl rfl rfl rfl ?_
    refine dj_pass rfl rfl rfl rfl rfl ?_
    refine dj_pass rfl rfl rfl rfl rfl ?_
    refine zd_pick_t ?_
    refine dj_end ?_
    refine jk_if_t rfl ?_
    refine jk_seq ?_
    refine jk_region ?_
    refine zq_assign ?_
    refine zq_assign ?_
    refine jk_nil ?_
    exact jk_ret_any (res2 rfl rfl rfl) (by (repeat (first | exact rs_nil | (refine rs_cons ?_ ?_; (focus ((repeat (first | exact .here | apply Mem.there | apply Take.there)); first | done | fail))) | exact fun ρ hρ => hρ | (intro ρ hρ; repeat (first | exact hρ | refine List.mem_cons_of_mem _ ?_)))); first | done | fail) selZ ⟨rfl, rfl⟩
  | true =>
  refine zd_not ?_
  refine zd_move ?_
  refine zd_move ?_
  refine zd_fld0 ?_
  refine zd_load ?_
  refine zd_idx1 ?_
  refine zd_load ?_
  refine zd_fld0 ?_
  refine zd_load ?_
  refine dj_l (a_call rfl hh2 rfl rfl rdZ rfl rfl ?_)
  rintro _ rfl
  cases hb2 : hasI c[dd] d.e with
  | true =>
    rw [hR0, if_pos (.inr hb2)]
    refine zd_pick_f ?_
    refine dj_end ?_
    refine jk_if_t rfl ?_
    refine jk_seq ?_
    refine jk_region ?_
    refine zq_assign ?_
    refine zq_assign ?_
    refine jk_nil ?_
    exact jk_ret_any (res2 rfl rfl rfl) (by (repeat (first | exact rs_nil | (refine rs_cons ?_ ?_; (focus ((repeat (first | exact .here | apply Mem.there | apply Take.there)); first | done | fail))) | exact fun ρ hρ => hρ | (intro ρ hρ; repeat (first | exact hρ | refine List.mem_cons_of_mem _ ?_)))); first | done | fail) selZ ⟨rfl, rfl⟩
  | false =>
  rw [if_neg (by rw [hb1, hb2]; simp)] at hR0
  rw [hR0]
  clear hh1 hh2 cdn0 cdn1 gs gd e1 e2 hR0
  have hwb := waitC_bd hquo hok hhl d c
  have hcb := conC_bd (fun x hx => by have := (chkCt_all (hcs x hx)).2.2.2.1; omega) bs d c
  have hWb := fun n => sumT_bd (f := fun n => sumU (waitC qs hs d c n) d.r d.e) (B := 1099511627776 * 100) (fun n => sumU_bd (by omega) (hwb n) hdm2.2.2.2) 0 n
  have hCb := fun n => sumT_bd (f := fun n => sumU (conC cs bs d c n) d.r d.e) (B := 1000 * 100) (fun n => sumU_bd (by omega) (hcb n) hdm2.2.2.2) 0 n
  refine zd_pick_f ?_
  refine dj_end ?_
  refine jk_if_f rfl ?_
  refine jk_skip ?_
  refine jk_seq ?_
  refine jk_region ?_
  refine zq_assign ?_
  refine jk_nil ?_
  refine jk_seq ?_
  refine jk_seq ?_
  refine jk_region ?_
  refine zq_assign ?_
  refine jk_nil ?_
  refine jk_block ?_
  refine jk_loop [2, 3, 4] (X := Nat × Int) (0, 0) (fun x => x.1 ≤ qs.length ∧ x.2 = capW qs hs d c x.1) (fun x => [(10, int x.2), (11, int x.1)]) (fun _ => []) (fun x => qs.length - x.1) pickZ ⟨by dsimp only; omega, rfl⟩ covZ selZ ?_
  rintro ⟨n, S⟩ ⟨hn, hS⟩
  dsimp only at hn hS ⊢
  have hSb := hWb n
  rw [show sumT (fun n => sumU (waitC qs hs d c n) d.r d.e) 0 n = S from hS.symm] at hSb
  by_cases hnq : n < qs.length
  · have hQx := List.getElem?_eq_getElem hnq
    have hxn := List.getElem?_eq_getElem (show n < c.length by omega)
    obtain ⟨qn, kn, gn, hsn, _, hln⟩ := hrow n _ hxn
    have en : cuAt c (n : Int) = c[n] := cuAt_get hxn
    have hrm := fun t => refCertRoom_spec hT d n t _ hQx (hquo n _ hQx) hok (by omega)
    refine jk_seq ?_
    refine jk_seq ?_
    refine jk_region ?_
    refine zq_move ?_
    refine zq_move ?_
    refine zq_len ?_
    refine zq_lt ?_
    refine jk_nil ?_
    refine jk_if_t rfl ?_
    refine jk_skip ?_
    refine jk_seq ?_
    refine jk_block ?_
    refine jk_seq ?_
    refine jk_region ?_
    refine zq_fld0 ?_
    refine zq_load ?_
    refine zq_assign ?_
    refine jk_nil ?_
    refine jk_block ?_
    refine jk_loop [2, 3, 4, 11] (X := Int × Int) (d.r, S) (fun x => d.r ≤ x.1 ∧ x.1 ≤ d.e ∧ x.2 = S + sumU (waitC qs hs d c n) d.r x.1) (fun x => [(10, int x.2), (12, int x.1)]) (fun _ => []) (fun x => (d.e - x.1).toNat) pickZ ⟨by dsimp only; omega, by dsimp only; omega, by dsimp only; rw [sumU_self]; omega⟩ covZ selZ ?_
    rintro ⟨t, S2⟩ ⟨ht1, ht2, hS2⟩
    dsimp only at ht1 ht2 hS2 ⊢
    have hb2 := sumU_bd (a := d.r) (t := t) (by omega) (hwb n) (by omega)
    by_cases ht : t < d.e
    · have hsx := sumU_succ (f := waitC qs hs d c n) ht1
      have hfe : waitC qs hs d c n t = if hasI (cuAt c n) t && !hasI (cuAt c n) (t + 1) then roomT qs hs d n t else 0 := rfl
      have hwt := hwb n t
      rw [en] at hfe
      have hh1 := refHas_spec κ _ _ t hsn hln
      have hh2 := refHas_spec κ _ _ (t + 1) hsn hln
      have hrt := hrm t
      generalize roomT qs hs d n t = Rm at hfe hrt
      refine jk_seq ?_
      refine jk_seq ?_
      refine jk_region ?_
      refine zq_move ?_
      refine zq_fld0 ?_
      refine zq_load ?_
      refine zq_lt ?_
      refine jk_nil ?_
      refine jk_if_t rfl ?_
      refine jk_skip ?_
      refine jk_seq ?_
      refine jk_block ?_
      refine jk_seq ?_
      refine jk_region ?_
      refine zq_move ?_
      refine zq_move ?_
      refine zq_idx1 ?_
      refine zq_load ?_
      refine zq_move ?_
      refine jk_call hh1 rfl rfl rdZ rfl rfl ?_
      rintro _ rfl
      cases hx1 : hasI c[n] t with
      | false =>
        rw [hx1, Bool.false_and, if_neg (by simp)] at hfe
        refine zq_move ?_
        refine jk_pass rfl rfl rfl ?_
        refine jk_pass rfl rfl rfl ?_
        refine jk_pass rfl rfl rfl ?_
        refine jk_pass rfl rfl rfl ?_
        refine jk_pass rfl rfl rfl ?_
        refine jk_pass rfl rfl rfl ?_
        refine jk_pass rfl rfl rfl ?_
        refine jk_pass rfl rfl rfl ?_
        refine zq_pick_f ?_
        refine jk_nil ?_
        refine jk_if_f rfl ?_
        refine jk_skip ?_
        refine jk_blk ?_
        refine jk_region ?_
        refine zq_move ?_
        refine zq_add ?_
        refine zq_assign ?_
        refine jk_nil ?_
        exact jk_round (t + 1, S2) ⟨by dsimp only; omega, by dsimp only; omega, by dsimp only; omega⟩ (by dsimp only; omega) covZ selZ
      | true =>
      refine zq_move ?_
      refine zq_move ?_
      refine zq_move ?_
      refine zq_idx1 ?_
      refine zq_load ?_
      refine zq_move ?_
      refine zq_add ?_
      refine jk_call hh2 rfl rfl rdZ rfl rfl ?_
      rintro _ rfl
      cases hx2 : hasI c[n] (t + 1) with
      | true =>
        rw [hx1, hx2, Bool.not_true, Bool.and_false, if_neg (by simp)] at hfe
        refine zq_not ?_
        refine zq_pick_t ?_
        refine jk_nil ?_
        refine jk_if_f rfl ?_
        refine jk_skip ?_
        refine jk_blk ?_
        refine jk_region ?_
        refine zq_move ?_
        refine zq_add ?_
        refine zq_assign ?_
        refine jk_nil ?_
        exact jk_round (t + 1, S2) ⟨by dsimp only; omega, by dsimp only; omega, by dsimp only; omega⟩ (by dsimp only; omega) covZ selZ
      | false =>
        rw [hx1, hx2, Bool.not_false, Bool.and_true, if_pos rfl] at hfe
        refine zq_not ?_
        refine zq_pick_t ?_
        refine jk_nil ?_
        refine jk_if_t rfl ?_
        refine jk_region ?_
        refine zq_move ?_
        refine zq_loadS ?_
        refine zq_loadS ?_
        refine zq_move ?_
        refine zq_move ?_
        refine jk_call hrt rfl rfl rdZ rfl rfl ?_
        rintro _ rfl
        refine zq_add ?_
        refine zq_assign ?_
        refine jk_nil ?_
        refine jk_blk ?_
        refine jk_region ?_
        refine zq_move ?_
        refine zq_add ?_
        refine zq_assign ?_
        refine jk_nil ?_
        exact jk_round (t + 1, S2 + Rm) ⟨by dsimp only; omega, by dsimp only; omega, by dsimp only; omega⟩ (by dsimp only; omega) covZ selZ
    · have hte : t = d.e := by omega
      subst hte
      refine jk_seq ?_
      refine jk_seq ?_
      refine jk_region ?_
      refine zq_move ?_
      refine zq_fld0 ?_
      refine zq_load ?_
      refine zq_ltF ?_
      refine jk_nil ?_
      refine jk_if_f rfl ?_
      refine jk_exit rfl ?_
      refine jk_blk ?_
      refine jk_region ?_
      refine zq_move ?_
      refine zq_inc ?_
      refine zq_assign ?_
      refine jk_nil ?_
      exact jk_round (n + 1, S2) ⟨by dsimp only; omega, by dsimp only; rw [hS2, hS]; exact (sumT_succ0 _ n).symm⟩ (by dsimp only; omega) covZ selZ
  have hne : n = qs.length := by omega
  subst hne
  refine jk_seq ?_
  refine jk_seq ?_
  refine jk_region ?_
  refine zq_move ?_
  refine zq_move ?_
  refine zq_len ?_
  refine zq_ltF ?_
  refine jk_nil ?_
  refine jk_if_f rfl ?_
  refine jk_exit rfl ?_
  refine jk_seq ?_
  refine jk_seq ?_
  refine jk_region ?_
  refine zq_assign ?_
  refine jk_nil ?_
  refine jk_block ?_
  refine jk_loop [2, 3, 4] (X := Nat × Int) (0, S) (fun x => x.1 ≤ cs.length ∧ x.2 = S + capC cs bs d c x.1) (fun x => [(10, int x.2), (13, int x.1)]) (fun _ => []) (fun x => cs.length - x.1) pickZ ⟨by dsimp only; omega, (Int.add_zero _).symm⟩ covZ selZ ?_
  rintro ⟨n, S1⟩ ⟨hn, hS1⟩
  dsimp only at hn hS1 ⊢
  have hCn := hCb n
  have hSb1 : -(1099511627776 * 100 * (qs.length : Int)) - 1000 * 100 * n ≤ S1 ∧ S1 ≤ 1099511627776 * 100 * (qs.length : Int) + 1000 * 100 * n := by
    have e : sumT (fun n => sumU (conC cs bs d c n) d.r d.e) 0 n = capC cs bs d c n := rfl
    rw [e] at hCn
    omega
  by_cases hnc : n < cs.length
  · have hx := List.getElem?_eq_getElem hnc
    have hck := chkCt_all (hcs _ (List.getElem_mem hnc))
    have hft := (hcs0 _ (List.getElem_mem hnc)).2
    obtain ⟨b4, o4, rfl, hrd⟩ := ctRow hT.rc hx
    have hfe : ∀ t, conC cs bs d c n t = if cs[n].s ≤ t ∧ t < cs[n].e ∧ t + 1 + cs[n].g ≤ d.e ∧ bookedB bs n t = false ∧ crossB c cs[n].f t cs[n].t (t + 1 + cs[n].g) = true then cs[n].r else 0 := fun t => by
      unfold conC
      rw [Int.toNat_natCast, hx]
    have harr := fun t h1 h2 => arrives_spec hT n _ t hx h1 h2
    have hbk := fun t => refBooked_spec hT n t (by omega)
    generalize cs[n] = x at hck hft hrd hfe harr
    obtain ⟨xf, hxf⟩ : ∃ k : Nat, x.f = k := ⟨x.f.toNat, by omega⟩
    obtain ⟨xt, hxt⟩ : ∃ k : Nat, x.t = k := ⟨x.t.toNat, by omega⟩
    have hgf := List.getElem?_eq_getElem (show xf < c.length by omega)
    have hgt := List.getElem?_eq_getElem (show xt < c.length by omega)
    obtain ⟨q1, k1, gs, hs1, _, hl1⟩ := hrow xf _ hgf
    obtain ⟨q2, k2, gd, hs2, _, hl2⟩ := hrow xt _ hgt
    rw [hxf, hxt] at hrd
    have e1 : cuAt c x.f = c[xf] := by rw [hxf]; exact cuAt_get hgf
    have e2 : cuAt c x.t = c[xt] := by rw [hxt]; exact cuAt_get hgt
    unfold crossB at hfe
    rw [e1, e2] at hfe
    refine jk_seq ?_
    refine jk_seq ?_
    refine jk_region ?_
    refine zq_move ?_
    refine zq_fld0 ?_
    refine zq_fld0 ?_
    refine zq_load ?_
    refine zq_len ?_
    refine zq_lt ?_
    refine jk_nil ?_
    refine jk_if_t rfl ?_
    refine jk_skip ?_
    refine jk_seq ?_
    refine jk_block ?_
    refine jk_seq ?_
    refine jk_region ?_
    refine zq_fld0 ?_
    refine zq_fld0 ?_
    refine zq_load ?_
    refine zq_move ?_
    refine zq_idxN ?_
    refine zq_loadS ?_
    refine zl_allocS ?_; rintro _ _ ⟨b, rfl, rfl⟩
    refine zs_storeS ?_; rintro _ _ ⟨rfl, rfl⟩
    refine jk_nil ?_
    refine jk_seq ?_
    refine jk_region ?_
    refine zq_fld0 ?_
    refine zq_load ?_
    refine zq_assign ?_
    refine jk_nil ?_
    refine jk_block ?_
    revert b; intro b5
    refine jk_loop [2, 3, 4, 13, 14] (X := Int × Int) (d.r, S1) (fun x => d.r ≤ x.1 ∧ x.1 ≤ d.e ∧ x.2 = S1 + sumU (conC cs bs d c n) d.r x.1) (fun x => [(10, int x.2), (15, int x.1)]) (fun _ => [sng b5 _]) (fun x => (d.e - x.1).toNat) pickZ ⟨by dsimp only; omega, by dsimp only; omega, by dsimp only; rw [sumU_self]; omega⟩ covZ selZ ?_
    rintro ⟨t, S2⟩ ⟨ht1, ht2, hS2⟩
    dsimp only at ht1 ht2 hS2 ⊢
    have hb2 := sumU_bd (a := d.r) (t := t) (by omega) (hcb n) (by omega)
    by_cases ht : t < d.e
    · have hsx := sumU_succ (f := conC cs bs d c n) ht1
      have hft2 := hfe t
      have hwt := hcb n t
      have hh1 := refHas_spec κ _ _ t hs1 hl1
      have hh2 := refHas_spec κ _ _ (t + 1 + x.g) hs2 hl2
      have har := harr t ⟨by omega, by omega⟩ ⟨by omega, by omega⟩
      have hbt := hbk t
      refine jk_seq ?_
      refine jk_seq ?_
      refine jk_region ?_
      refine zq_move ?_
      refine zq_fld0 ?_
      refine zq_load ?_
      refine zq_lt ?_
      refine jk_nil ?_
      refine jk_if_t rfl ?_
      refine jk_skip ?_
      refine jk_seq ?_
      refine jk_block ?_
      refine jk_seq ?_
      refine jk_seq ?_
      by_cases c1 : t < x.s
      · rw [if_neg (fun h => by omega)] at hft2
        refine jk_draw (.q 0 (.q 1 (.q 2 (.q 3 (.q 4 (.q 5 (.q 6 (.q 7 (.q 8 (.q 9 (.q 10 (.q 11 (.q 12 (.q 13 (.q 14 (.q 15 (.q 16 (.q 17 (.q 18 (.q 19 (.q 20 (.q 21 (.q 22 (.q 23 (.q 24 .nil))))))))))))))))))))))))) [sng b5 _] rfl (by kernel_rfl) selZ ?_
        refine zd_move ?_
        refine zd_fld0 ?_
        refine zd_load ?_
        refine zd_lt ?_
        refine zd_move ?_
        refine dj_pass rfl rfl rfl rfl rfl ?_
        refine dj_pass rfl rfl rfl rfl rfl ?_
        refine dj_pass rfl rfl rfl rfl rfl ?_
        refine dj_pass rfl rfl rfl rfl rfl ?_
        refine zd_pick_t ?_
        refine zd_move ?_
        refine dj_pass rfl rfl rfl rfl rfl ?_
        refine dj_pass rfl rfl rfl rfl rfl ?_
        refine dj_pass rfl rfl rfl rfl rfl ?_
        refine dj_pass rfl rfl rfl rfl rfl ?_
        refine dj_pass rfl rfl rfl rfl rfl ?_
        refine dj_pass rfl rfl rfl rfl rfl ?_
        refine dj_pass rfl rfl rfl rfl rfl ?_
        refine zd_pick_t ?_
        refine zd_move ?_
        refine dj_pass rfl rfl rfl rfl rfl ?_
        refine dj_pass rfl rfl rfl rfl rfl ?_
        refine dj_pass rfl rfl rfl rfl rfl ?_
        refine dj_pass rfl rfl rfl rfl rfl ?_
        refine zd_pick_t ?_
        refine dj_end ?_
        refine jk_if_t rfl ?_
        refine jk_exit rfl ?_
        refine jk_region ?_
        refine zq_move ?_
        refine zq_add ?_
        refine zq_assign ?_
        refine jk_nil ?_
        exact jk_round (t + 1, S2) ⟨by dsimp only; omega, by dsimp only; omega, by dsimp only; omega⟩ (by dsimp only; omega) covZ selZ
      by_cases c2 : x.e ≤ t
      · rw [if_neg (fun h => by omega)] at hft2
        refine jk_draw (.q 0 (.q 1 (.q 2 (.q 3 (.q 4 (.q 5 (.q 6 (.q 7 (.q 8 (.q 9 (.q 10 (.q 11 (.q 12 (.q 13 (.q 14 (.q 15 (.q 16 (.q 17 (.q 18 (.q 19 (.q 20 (.q 21 (.q 22 (.q 23 (.q 24 .nil))))))))))))))))))))))))) [sng b5 _] rfl (by kernel_rfl) selZ ?_
        refine zd_move ?_
        refine zd_fld0 ?_
        refine zd_load ?_
        refine zd_ltF ?_
        refine zd_move ?_
        refine zd_move ?_
        refine zd_fld0 ?_
        refine zd_load ?_
        refine zd_ge ?_
        refine zd_pick_f ?_
        refine zd_move ?_
        refine dj_pass rfl rfl rfl rfl rfl ?_
        refine dj_pass rfl rfl rfl rfl rfl ?_
        refine dj_pass rfl rfl rfl rfl rfl ?_
        refine dj_pass rfl rfl rfl rfl rfl ?_
        refine dj_pass rfl rfl rfl rfl rfl ?_
        refine dj_pass rfl rfl rfl rfl rfl ?_
        refine dj_pass rfl rfl rfl rfl rfl ?_
        refine zd_pick_t ?_
        refine zd_move ?_
        refine dj_pass rfl rfl rfl rfl rfl ?_
        refine dj_pass rfl rfl rfl rfl rfl ?_
        refine dj_pass rfl rfl rfl rfl rfl ?_
        refine dj_pass rfl rfl rfl rfl rfl ?_
        refine zd_pick_t ?_
        refine dj_end ?_
        refine jk_if_t rfl ?_
        refine jk_exit rfl ?_
        refine jk_region ?_
        refine zq_move ?_
        refine zq_add ?_
        refine zq_assign ?_
        refine jk_nil ?_
        exact jk_round (t + 1, S2) ⟨by dsimp only; omega, by dsimp only; omega, by dsimp only; omega⟩ (by dsimp only; omega) covZ selZ
      refine jk_draw (.q 0 (.q 1 (.q 2 (.q 3 (.q 4 (.q 5 (.q 6 (.q 7 (.q 8 (.q 9 (.q 10 (.q 11 (.q 12 (.q 13 (.q 15 (.q 16 (.l 14 .e (.q 17 (.q 18 (.q 19 (.q 20 (.q 21 (.q 22 (.l 23 .e (.q 24 .nil))))))))))))))))))))))))) [sng b5 _] rfl (by kernel_rfl) selZ ?_
      refine zd_move ?_
      refine zd_fld0 ?_
      refine zd_load ?_
      refine zd_ltF ?_
      refine zd_move ?_
      refine zd_move ?_
      refine zd_fld0 ?_
      refine zd_load ?_
      refine zd_geF ?_
      refine zd_pick_f ?_
      refine zd_move ?_
      refine zd_loadS ?_
      refine zd_move ?_
      refine zd_move ?_
      refine zd_fld0 ?_
      refine zd_load ?_
      refine dj_l (a_call rfl har rfl rfl rdZ rfl rfl ?_)
      rintro _ rfl
      by_cases c3 : d.e < t + 1 + x.g
      · rw [if_neg (fun h => by omega)] at hft2
        refine dj_replan (.q 17 (.q 18 (.q 19 (.q 20 (.q 21 (.q 22 (.q 23 (.q 24 .nil)))))))) (by kernel_rfl) ?_
        refine zd_gt ?_
        refine zd_pick_f ?_
        refine zd_move ?_
        refine dj_pass rfl rfl rfl rfl rfl ?_
        refine dj_pass rfl rfl rfl rfl rfl ?_
        refine dj_pass rfl rfl rfl rfl rfl ?_
        refine dj_pass rfl rfl rfl rfl rfl ?_
        refine zd_pick_t ?_
        refine dj_end ?_
        refine jk_if_t rfl ?_
        refine jk_exit rfl ?_
        refine jk_region ?_
        refine zq_move ?_
        refine zq_add ?_
        refine zq_assign ?_
        refine jk_nil ?_
        exact jk_round (t + 1, S2) ⟨by dsimp only; omega, by dsimp only; omega, by dsimp only; omega⟩ (by dsimp only; omega) covZ selZ
      refine zd_gtF ?_
      refine zd_pick_f ?_
      refine zd_move ?_
      refine zd_loadS ?_
      refine zd_move ?_
      refine zd_move ?_
      refine dj_l (a_call rfl hbt rfl rfl rdZ rfl rfl ?_)
      rintro _ rfl
      cases hbb : bookedB bs n t with
      | true =>
        rw [if_neg (fun h => by rw [hbb] at h; simp at h)] at hft2
        refine zd_pick_f ?_
        refine dj_end ?_
        refine jk_if_t rfl ?_
        refine jk_exit rfl ?_
        refine jk_region ?_
        refine zq_move ?_
        refine zq_add ?_
        refine zq_assign ?_
        refine jk_nil ?_
        exact jk_round (t + 1, S2) ⟨by dsimp only; omega, by dsimp only; omega, by dsimp only; omega⟩ (by dsimp only; omega) covZ selZ
      | false =>
      refine zd_pick_f ?_
      refine dj_end ?_
      refine jk_if_f rfl ?_
      refine jk_skip ?_
      refine jk_seq ?_
      refine jk_draw (.q 0 (.q 1 (.q 2 (.q 3 (.q 4 (.q 5 (.l 6 .e (.q 7 (.q 8 (.q 9 (.q 10 (.q 11 (.q 12 (.q 13 (.q 14 (.q 15 (.l 16 .e (.l 17 .e (.q 18 (.q 19 .nil)))))))))))))))))))) [sng b5 _] rfl (by kernel_rfl) selZ ?_
      refine zd_move ?_
      refine zd_fld0 ?_
      refine zd_load ?_
      refine zd_idx1 ?_
      refine zd_load ?_
      refine zd_move ?_
      refine dj_l (a_call rfl hh1 rfl rfl rdZ rfl rfl ?_)
      rintro _ rfl
      cases hx1 : hasI c[xf] t with
      | false =>
        rw [if_neg (fun h => by rw [hx1] at h; simp at h)] at hft2
        refine dj_replan (.q 7 (.q 8 (.q 9 (.q 10 (.q 11 (.q 12 (.q 13 (.q 14 (.q 15 (.q 16 (.q 17 (.q 18 (.q 19 .nil))))))))))))) (by kernel_rfl) ?_
        refine zd_move ?_
        refine dj_pass rfl rfl rfl rfl rfl ?_
        refine dj_pass rfl rfl rfl rfl rfl ?_
        refine dj_pass rfl rfl rfl rfl rfl ?_
        refine dj_pass rfl rfl rfl rfl rfl ?_
        refine dj_pass rfl rfl rfl rfl rfl ?_
        refine dj_pass rfl rfl rfl rfl rfl ?_
        refine dj_pass rfl rfl rfl rfl rfl ?_
        refine dj_pass rfl rfl rfl rfl rfl ?_
        refine dj_pass rfl rfl rfl rfl rfl ?_
        refine dj_pass rfl rfl rfl rfl rfl ?_
        refine dj_pass rfl rfl rfl rfl rfl ?_
        refine zd_pick_f ?_
        refine dj_end ?_
        refine jk_if_f rfl ?_
        refine jk_skip ?_
        refine jk_blk ?_
        refine jk_region ?_
        refine zq_move ?_
        refine zq_add ?_
        refine zq_assign ?_
        refine jk_nil ?_
        exact jk_round (t + 1, S2) ⟨by dsimp only; omega, by dsimp only; omega, by dsimp only; omega⟩ (by dsimp only; omega) covZ selZ
      | true =>
      refine zd_move ?_
      refine zd_move ?_
      refine zd_fld0 ?_
      refine zd_load ?_
      refine zd_idx1 ?_
      refine zd_load ?_
      refine zd_loadS ?_
      refine zd_move ?_
      refine zd_move ?_
      refine dj_l (a_call rfl har rfl rfl rdZ rfl rfl ?_)
      rintro _ rfl
      refine dj_l (a_call rfl hh2 rfl rfl rdZ rfl rfl ?_)
      rintro _ rfl
      cases hx2 : hasI c[xt] (t + 1 + x.g) with
      | true =>
        rw [if_neg (fun h => by rw [hx2] at h; simp at h)] at hft2
        refine zd_not ?_
        refine zd_pick_t ?_
        refine dj_end ?_
        refine jk_if_f rfl ?_
        refine jk_skip ?_
        refine jk_blk ?_
        refine jk_region ?_
        refine zq_move ?_
        refine zq_add ?_
        refine zq_assign ?_
        refine jk_nil ?_
        exact jk_round (t + 1, S2) ⟨by dsimp only; omega, by dsimp only; omega, by dsimp only; omega⟩ (by dsimp only; omega) covZ selZ
      | false =>
        rw [if_pos ⟨by omega, by omega, by omega, hbb, by rw [hx1, hx2]; rfl⟩] at hft2
        refine zd_not ?_
        refine zd_pick_t ?_
        refine dj_end ?_
        refine jk_if_t rfl ?_
        refine jk_region ?_
        refine zq_move ?_
        refine zq_fld0 ?_
        refine zq_load ?_
        refine zq_add ?_
        refine zq_assign ?_
        refine jk_nil ?_
        refine jk_blk ?_
        refine jk_region ?_
        refine zq_move ?_
        refine zq_add ?_
        refine zq_assign ?_
        refine jk_nil ?_
        exact jk_round (t + 1, S2 + x.r) ⟨by dsimp only; omega, by dsimp only; omega, by dsimp only; omega⟩ (by dsimp only; omega) covZ selZ
    · have hte : t = d.e := by omega
      subst hte
      refine jk_seq ?_
      refine jk_seq ?_
      refine jk_region ?_
      refine zq_move ?_
      refine zq_fld0 ?_
      refine zq_load ?_
      refine zq_ltF ?_
      refine jk_nil ?_
      refine jk_if_f rfl ?_
      refine jk_exit rfl ?_
      refine jk_blk ?_
      refine jk_region ?_
      refine zq_move ?_
      refine zq_inc ?_
      refine zq_assign ?_
      refine jk_nil ?_
      exact jk_round (n + 1, S2) ⟨by dsimp only; omega, by dsimp only; rw [hS2, hS1, Int.add_assoc]; congr 1; exact (sumT_succ0 _ n).symm⟩ (by dsimp only; omega) covZ selZ
  have hne : n = cs.length := by omega
  subst hne
  have hfin : capSum qs cs bs hs d c = S1 := by unfold capSum; rw [← hS, hS1]
  rw [hfin]
  refine jk_seq ?_
  refine jk_seq ?_
  refine jk_region ?_
  refine zq_move ?_
  refine zq_fld0 ?_
  refine zq_fld0 ?_
  refine zq_load ?_
  refine zq_len ?_
  refine zq_ltF ?_
  refine jk_nil ?_
  refine jk_if_f rfl ?_
  refine jk_exit rfl ?_
  refine jk_seq ?_
  refine jk_region ?_
  refine zq_move ?_
  refine zq_assign ?_
  refine zq_assign ?_
  refine jk_nil ?_
  exact jk_ret_any (res2 rfl rfl rfl) (by (repeat (first | exact rs_nil | (refine rs_cons ?_ ?_; (focus ((repeat (first | exact .here | apply Mem.there | apply Take.there)); first | done | fail))) | exact fun ρ hρ => hρ | (intro ρ hρ; repeat (first | exact hρ | refine List.mem_cons_of_mem _ ?_)))); first | done | fail) selZ ⟨rfl, rfl⟩
end Go.Proofs.YtjbebmealbnmgaaGreat
/- Capacity. -/
namespace Go.Proofs.YtjbebmealbnmgaaGreat
open Go.Eng Go.Step
set_option maxRecDepth 100000
set_option maxHeartbeats 4000000

set_option maxHeartbeats 64000000 in
theorem certCap_spec {ρ τ σ υ : PH} {pq pc pb ph : Option Addr} {kq kc kb kh : Nat} {qs : List Int} {cs : List Ct} {bs : List Bk} {hs : List Hd} (hT : TbAt ρ τ σ υ pq pc pb ph kq kc kb kh qs cs bs hs) (γ κ : PH) (d : Dm) (p : Option Addr) (kk : Nat) (c : Cu) (hc : CutRow γ κ p c) (hcl : c.length ≤ 9223372036854775807) :
    Ans Tryz.prog (fv 7) [.agg #[.slice pq qs.length kq, .slice pc cs.length kc, .slice pb bs.length kb, .slice ph hs.length kh], .agg #[int d.s, int d.d, int d.v, int d.r, int d.e], .slice p c.length kk] [ρ, τ, σ, υ, γ, κ] (fun r => r = .tuple #[int (capR qs cs bs hs d c).1, int (capR qs cs bs hs d c).2]) := by
  refine spec_in (cap := []) Tryz.func7 rfl rfl Tryz.ntmps7 rfl (by (repeat (first | exact EnvA.nil EnvI.nil | apply EnvA.cons | apply EnvA.nil | exact EnvI.nil | apply EnvI.cons)); first | done | fail) (fun N β => ?_)
  refine jk_seq ?_
  refine jk_region ?_
  refine jk_op (l_boxS rfl) rfl rfl rfl ?_
  rintro _ _ ⟨b1, rfl, rfl⟩
  refine jk_freeze (ρ := sng b1 _) takeZ ?_
  have ct : RdN (sng b1 (.cells #[.slice pq qs.length kq, .slice pc cs.length kc, .slice pb bs.length kb, .slice ph hs.length kh] 29 (0, 0))) b1 0 [.slice pq qs.length kq, .slice pc cs.length kc, .slice pb bs.length kb, .slice ph hs.length kh] := rdN_sng (vs := [.slice pq qs.length kq, .slice pc cs.length kc, .slice pb bs.length kb, .slice ph hs.length kh])
  have ct0 : rdc (sng b1 (.cells #[.slice pq qs.length kq, .slice pc cs.length kc, .slice pb bs.length kb, .slice ph hs.length kh] 29 (0, 0))) b1 0 = some (.slice pq qs.length kq) := by rw [rdc_sng]; rfl
  have ct1 : rdc (sng b1 (.cells #[.slice pq qs.length kq, .slice pc cs.length kc, .slice pb bs.length kb, .slice ph hs.length kh] 29 (0, 0))) b1 1 = some (.slice pc cs.length kc) := by rw [rdc_sng]; rfl
  have ct2 : rdc (sng b1 (.cells #[.slice pq qs.length kq, .slice pc cs.length kc, .slice pb bs.length kb, .slice ph hs.length kh] 29 (0, 0))) b1 2 = some (.slice pb bs.length kb) := by rw [rdc_sng]; rfl
  have ct3 : rdc (sng b1 (.cells #[.slice pq qs.length kq, .slice pc cs.length kc, .slice pb bs.length kb, .slice ph hs.length kh] 29 (0, 0))) b1 3 = some (.slice ph hs.length kh) := by rw [rdc_sng]; rfl
  have ctp : RdP (sng b1 (.cells #[.slice pq qs.length kq, .slice pc cs.length kc, .slice pb bs.length kb, .slice ph hs.length kh] 29 (0, 0))) b1 0 [.slice pq qs.length kq, .slice pc cs.length kc] := rdP_sng (xs := [.slice pq qs.length kq, .slice pc cs.length kc, .slice pb bs.length kb, .slice ph hs.length kh]) rfl
  refine jk_op (l_boxS rfl) rfl rfl rfl ?_
  rintro _ _ ⟨b2, rfl, rfl⟩
  refine jk_freeze (ρ := sng b2 _) takeZ ?_
  have cd : RdN (sng b2 (.cells #[int d.s, int d.d, int d.v, int d.r, int d.e] 31 (0, 0))) b2 0 [int d.s, int d.d, int d.v, int d.r, int d.e] := rdN_sng (vs := [int d.s, int d.d, int d.v, int d.r, int d.e])
  have cd0 : rdc (sng b2 (.cells #[int d.s, int d.d, int d.v, int d.r, int d.e] 31 (0, 0))) b2 0 = some (int d.s) := by rw [rdc_sng]; rfl
  have cd1 : rdc (sng b2 (.cells #[int d.s, int d.d, int d.v, int d.r, int d.e] 31 (0, 0))) b2 1 = some (int d.d) := by rw [rdc_sng]; rfl
  have cd2 : rdc (sng b2 (.cells #[int d.s, int d.d, int d.v, int d.r, int d.e] 31 (0, 0))) b2 2 = some (int d.v) := by rw [rdc_sng]; rfl
  have cd3 : rdc (sng b2 (.cells #[int d.s, int d.d, int d.v, int d.r, int d.e] 31 (0, 0))) b2 3 = some (int d.r) := by rw [rdc_sng]; rfl
  have cd4 : rdc (sng b2 (.cells #[int d.s, int d.d, int d.v, int d.r, int d.e] 31 (0, 0))) b2 4 = some (int d.e) := by rw [rdc_sng]; rfl
  refine zl_box1 ?_; rintro _ _ ⟨b, rfl, rfl⟩
  refine zq_assign ?_
  refine zq_assign ?_
  refine jk_nil ?_
  refine jk_seq ?_
  refine jk_seq ?_
  refine jk_region ?_
  refine zq_loadS ?_
  refine zq_loadS ?_
  revert b; intro b3
  refine jk_freeze (ρ := sng b3 _) takeZ ?_
  have cc : rdc (sng b3 (.cells #[.slice p c.length kk] 33 (0, 0))) b3 0 = some (.slice p c.length kk) := by rw [rdc_sng]; rfl
  refine jk_call (certCheck_spec hT d) rfl rfl rdZ rfl rfl ?_
  rintro _ rfl
  cases hval : validT qs cs bs hs d with
  | false =>
    have hR : capR qs cs bs hs d c = (0, 1) := by unfold capR; rw [if_pos hval]
    rw [hR, if_neg (by simp)]
    refine zq_assign ?_
    refine jk_nil ?_
    refine jk_seq ?_
    refine jk_region ?_
    refine zq_move ?_
    refine zq_ne ?_
    refine jk_nil ?_
    refine jk_if_t rfl ?_
    refine jk_seq ?_
    refine jk_region ?_
    refine zq_move ?_
    refine zq_assign ?_
    refine zq_assign ?_
    refine jk_nil ?_
    exact jk_ret_any (res2 rfl rfl rfl) (by (repeat (first | exact rs_nil | (refine rs_cons ?_ ?_; (focus ((repeat (first | exact .here | apply Mem.there | apply Take.there)); first | done | fail))) | exact fun ρ hρ => hρ | (intro ρ hρ; repeat (first | exact hρ | refine List.mem_cons_of_mem _ ?_)))); first | done | fail) selZ ⟨rfl, rfl⟩
  | true =>
  rw [if_pos rfl]
  obtain ⟨hcs0, hbl, hok, hhl, hql, hquo, hdm, hcsl⟩ := valid_ok hval
  have hcs : ∀ c ∈ cs, chkCt c = 0 := fun c hc => (hcs0 c hc).1
  have hdm2 : 0 ≤ d.r ∧ d.r < d.e ∧ d.e ≤ 1099511627776 ∧ d.e - d.r ≤ 100 := hdm.2.2.2.2
  by_cases hlen : c.length = qs.length
  rotate_left
  · have hR : capR qs cs bs hs d c = (0, 10) := by unfold capR; rw [if_neg (by rw [hval]; simp), if_pos hlen]
    rw [hR]
    refine zq_assign ?_
    refine jk_nil ?_
    refine jk_seq ?_
    refine jk_region ?_
    refine zq_move ?_
    refine zq_neF ?_
    refine jk_nil ?_
    refine jk_if_f rfl ?_
    refine jk_skip ?_
    refine jk_seq ?_
    refine jk_seq ?_
    refine jk_region ?_
    refine zq_load ?_
    refine zq_len ?_
    refine zq_fld0 ?_
    refine zq_fld0 ?_
    refine zq_load ?_
    refine zq_len ?_
    refine zq_ne ?_
    refine jk_nil ?_
    refine jk_if_t rfl ?_
    refine jk_seq ?_
    refine jk_region ?_
    refine zq_assign ?_
    refine zq_assign ?_
    refine jk_nil ?_
    exact jk_ret_any (res2 rfl rfl rfl) (by (repeat (first | exact rs_nil | (refine rs_cons ?_ ?_; (focus ((repeat (first | exact .here | apply Mem.there | apply Take.there)); first | done | fail))) | exact fun ρ hρ => hρ | (intro ρ hρ; repeat (first | exact hρ | refine List.mem_cons_of_mem _ ?_)))); first | done | fail) selZ ⟨rfl, rfl⟩
  have hcr := hc
  obtain ⟨bp, op, rfl, hrow⟩ := hc.open (by omega)
  refine zq_assign ?_
  refine jk_nil ?_
  refine jk_seq ?_
  refine jk_region ?_
  refine zq_move ?_
  refine zq_neF ?_
  refine jk_nil ?_
  refine jk_if_f rfl ?_
  refine jk_skip ?_
  refine jk_seq ?_
  refine jk_seq ?_
  refine jk_region ?_
  refine zq_load ?_
  refine zq_len ?_
  refine zq_fld0 ?_
  refine zq_fld0 ?_
  refine zq_load ?_
  refine zq_len ?_
  refine zq_neF ?_
  refine jk_nil ?_
  refine jk_if_f rfl ?_
  refine jk_skip ?_
  refine jk_seq ?_
  refine jk_seq ?_
  refine jk_region ?_
  refine zq_load ?_
  refine zq_len ?_
  refine zq_move ?_
  refine jk_nil ?_
  refine jk_block ?_
  refine jk_loop [3, 4, 5, 32, 33] (0 : Nat) (fun i => i ≤ c.length ∧ (c.take i).any (badL2 d) = false) (fun i => [(34, int i)]) (fun _ => []) (fun i => c.length - i) pickZ ⟨by omega, rfl⟩ covZ selZ ?_
  rintro i ⟨hi, hI⟩
  by_cases hlt : i < c.length
  · have hx := List.getElem?_eq_getElem hlt
    have hnx := any_take (badL2 d) hlt
    rw [hI, Bool.false_or] at hnx
    obtain ⟨q, k, g, hsp, hr, hll⟩ := hrow i _ hx
    have hyes : badL2 d c[i] = true → capR qs cs bs hs d c = (0, 2) := fun h => by
      unfold capR
      rw [if_neg (by rw [hval]; simp), if_neg (fun h => h hlen), if_pos (List.any_eq_true.2 ⟨_, List.getElem_mem hlt, h⟩)]
    generalize c[i] = l at hnx g hsp hr hll hyes
    have hck := ivCheck_spec κ _ l hsp hll
    unfold badL2 at hyes hnx
    refine jk_seq ?_
    refine jk_region ?_
    refine zq_lt ?_
    refine jk_nil ?_
    refine jk_seq ?_
    refine jk_if_t rfl ?_
    refine jk_skip ?_
    refine jk_seq ?_
    refine jk_block ?_
    refine jk_seq ?_
    refine jk_region ?_
    refine zq_idx1 ?_
    refine zq_load ?_
    refine zq_assign ?_
    refine jk_nil ?_
    refine jk_seq ?_
    refine jk_draw (.q 0 (.l 1 .e (.q 2 (.q 3 (.q 4 (.q 5 (.q 6 (.q 7 (.q 8 (.q 9 (.q 10 (.q 11 (.q 12 (.q 13 (.q 14 (.q 15 (.q 16 (.q 17 (.q 18 (.q 19 (.q 20 (.q 21 (.q 22 (.q 23 (.q 24 (.q 25 (.q 26 (.q 27 (.q 28 (.q 29 .nil)))))))))))))))))))))))))))))) [] rfl (by kernel_rfl) selZ ?_
    refine zd_move ?_
    refine dj_l (a_call rfl hck rfl rfl rdZ rfl rfl ?_)
    rintro _ rfl
    by_cases h0 : chkI l = 0
    rotate_left
    · rw [hyes (by rw [decide_eq_true h0]; rfl)]
      generalize chkI l = z at h0
      refine zd_ne ?_
      refine zd_move ?_
      refine dj_pass rfl rfl rfl rfl rfl ?_
      refine dj_pass rfl rfl rfl rfl rfl ?_
      refine dj_pass rfl rfl rfl rfl rfl ?_
      refine dj_pass rfl rfl rfl rfl rfl ?_
      refine dj_pass rfl rfl rfl rfl rfl ?_
      refine dj_pass rfl rfl rfl rfl rfl ?_
      refine dj_pass rfl rfl rfl rfl rfl ?_
      refine dj_pass rfl rfl rfl rfl rfl ?_
      refine dj_pass rfl rfl rfl rfl rfl ?_
      refine dj_pass rfl rfl rfl rfl rfl ?_
      refine dj_pass rfl rfl rfl rfl rfl ?_
      refine dj_pass rfl rfl rfl rfl rfl ?_
      refine dj_pass rfl rfl rfl rfl rfl ?_
      refine dj_pass rfl rfl rfl rfl rfl ?_
      refine dj_pass rfl rfl rfl rfl rfl ?_
      refine dj_pass rfl rfl rfl rfl rfl ?_
      refine dj_pass rfl rfl rfl rfl rfl ?_
      refine dj_pass rfl rfl rfl rfl rfl ?_
      refine dj_pass rfl rfl rfl rfl rfl ?_
      refine dj_pass rfl rfl rfl rfl rfl ?_
      refine dj_pass rfl rfl rfl rfl rfl ?_
      refine dj_pass rfl rfl rfl rfl rfl ?_
      refine dj_pass rfl rfl rfl rfl rfl ?_
      refine dj_pass rfl rfl rfl rfl rfl ?_
      refine dj_pass rfl rfl rfl rfl rfl ?_
      refine zd_pick_t ?_
      refine dj_end ?_
      refine jk_if_t rfl ?_
      refine jk_seq ?_
      refine jk_region ?_
      refine zq_assign ?_
      refine zq_assign ?_
      refine jk_nil ?_
      exact jk_ret_any (res2 rfl rfl rfl) (by (repeat (first | exact rs_nil | (refine rs_cons ?_ ?_; (focus ((repeat (first | exact .here | apply Mem.there | apply Take.there)); first | done | fail))) | exact fun ρ hρ => hρ | (intro ρ hρ; repeat (first | exact hρ | refine List.mem_cons_of_mem _ ?_)))); first | done | fail) selZ ⟨rfl, rfl⟩
    by_cases hz : l.length = 0
    · obtain rfl := List.eq_nil_of_length_eq_zero hz
      rw [h0, List.any_nil] at hnx
      rw [h0]
      refine zd_neF ?_
      refine zd_move ?_
      refine zd_move ?_
      refine zd_len ?_
      refine zd_gtF ?_
      refine zd_move ?_
      refine dj_pass rfl rfl rfl rfl rfl ?_
      refine dj_pass rfl rfl rfl rfl rfl ?_
      refine dj_pass rfl rfl rfl rfl rfl ?_
      refine dj_pass rfl rfl rfl rfl rfl ?_
      refine dj_pass rfl rfl rfl rfl rfl ?_
      refine dj_pass rfl rfl rfl rfl rfl ?_
      refine dj_pass rfl rfl rfl rfl rfl ?_
      refine dj_pass rfl rfl rfl rfl rfl ?_
      refine dj_pass rfl rfl rfl rfl rfl ?_
      refine dj_pass rfl rfl rfl rfl rfl ?_
      refine dj_pass rfl rfl rfl rfl rfl ?_
      refine dj_pass rfl rfl rfl rfl rfl ?_
      refine dj_pass rfl rfl rfl rfl rfl ?_
      refine dj_pass rfl rfl rfl rfl rfl ?_
      refine dj_pass rfl rfl rfl rfl rfl ?_
      refine dj_pass rfl rfl rfl rfl rfl ?_
      refine dj_pass rfl rfl rfl rfl rfl ?_
      refine dj_pass rfl rfl rfl rfl rfl ?_
      refine dj_pass rfl rfl rfl rfl rfl ?_
      refine dj_pass rfl rfl rfl rfl rfl ?_
      refine zd_pick_f ?_
      refine zd_pick_f ?_
      refine dj_end ?_
      refine jk_if_f rfl ?_
      refine jk_skip ?_
      refine jk_blk ?_
      refine jk_region ?_
      refine zq_inc ?_
      refine zq_move ?_
      refine jk_nil ?_
      exact jk_round (i + 1) ⟨by omega, hnx⟩ (by omega) covZ selZ
    have hen := badS_ends h0 (by omega) d
    rw [h0]
    rw [h0, hen] at hnx hyes
    obtain ⟨b4, o4, rfl, hrd, g0, g1⟩ := spRow hr (List.getElem?_eq_getElem (show 0 < l.length by omega))
    obtain ⟨_, _, e, _, p0, p1⟩ := spRow hr (List.getElem?_eq_getElem (show l.length - 1 < l.length by omega))
    simp only [Option.some.injEq, Addr.mk.injEq, and_true] at e
    obtain ⟨rfl, rfl⟩ := e
    generalize l[0] = y at hrd g0 g1 hnx hyes
    generalize l[l.length - 1] = y2 at p0 p1 hnx hyes
    by_cases k1 : y.1 < d.r
    · rw [hyes (by rw [decide_eq_true k1]; simp)]
      refine zd_neF ?_
      refine zd_move ?_
      refine zd_move ?_
      refine zd_len ?_
      refine zd_gt ?_
      refine zd_move ?_
      refine zd_move ?_
      refine zd_idxZ ?_
      refine zd_fldZ ?_
      refine zd_load ?_
      refine zd_fld0 ?_
      refine zd_load ?_
      refine zd_lt ?_
      refine zd_move ?_
      refine dj_pass rfl rfl rfl rfl rfl ?_
      refine dj_pass rfl rfl rfl rfl rfl ?_
      refine dj_pass rfl rfl rfl rfl rfl ?_
      refine dj_pass rfl rfl rfl rfl rfl ?_
      refine dj_pass rfl rfl rfl rfl rfl ?_
      refine dj_pass rfl rfl rfl rfl rfl ?_
      refine dj_pass rfl rfl rfl rfl rfl ?_
      refine dj_pass rfl rfl rfl rfl rfl ?_
      refine dj_pass rfl rfl rfl rfl rfl ?_
      refine dj_pass rfl rfl rfl rfl rfl ?_
      refine dj_pass rfl rfl rfl rfl rfl ?_
      refine zd_pick_t ?_
      refine zd_pick_t ?_
      refine zd_pick_f ?_
      refine dj_end ?_
      refine jk_if_t rfl ?_
      refine jk_seq ?_
      refine jk_region ?_
      refine zq_assign ?_
      refine zq_assign ?_
      refine jk_nil ?_
      exact jk_ret_any (res2 rfl rfl rfl) (by (repeat (first | exact rs_nil | (refine rs_cons ?_ ?_; (focus ((repeat (first | exact .here | apply Mem.there | apply Take.there)); first | done | fail))) | exact fun ρ hρ => hρ | (intro ρ hρ; repeat (first | exact hρ | refine List.mem_cons_of_mem _ ?_)))); first | done | fail) selZ ⟨rfl, rfl⟩
    by_cases k2 : d.e + 1 < y2.2
    · rw [hyes (by rw [decide_eq_true k2]; simp)]
      refine zd_neF ?_
      refine zd_move ?_
      refine zd_move ?_
      refine zd_len ?_
      refine zd_gt ?_
      refine zd_move ?_
      refine zd_move ?_
      refine zd_idxZ ?_
      refine zd_fldZ ?_
      refine zd_load ?_
      refine zd_fld0 ?_
      refine zd_load ?_
      refine zd_ltF ?_
      refine zd_move ?_
      refine zd_move ?_
      refine zd_move ?_
      refine zd_len ?_
      refine zd_sub_nat ?_
      refine zd_idxN ?_
      refine zd_fld ?_
      refine zd_load ?_
      refine zd_fld0 ?_
      refine zd_load ?_
      refine zd_add ?_
      refine zd_gt ?_
      refine zd_pick_f ?_
      refine zd_pick_t ?_
      refine zd_pick_f ?_
      refine dj_end ?_
      refine jk_if_t rfl ?_
      refine jk_seq ?_
      refine jk_region ?_
      refine zq_assign ?_
      refine zq_assign ?_
      refine jk_nil ?_
      exact jk_ret_any (res2 rfl rfl rfl) (by (repeat (first | exact rs_nil | (refine rs_cons ?_ ?_; (focus ((repeat (first | exact .here | apply Mem.there | apply Take.there)); first | done | fail))) | exact fun ρ hρ => hρ | (intro ρ hρ; repeat (first | exact hρ | refine List.mem_cons_of_mem _ ?_)))); first | done | fail) selZ ⟨rfl, rfl⟩
    rw [decide_eq_false k1, decide_eq_false k2] at hnx
    refine zd_neF ?_
    refine zd_move ?_
    refine zd_move ?_
    refine zd_len ?_
    refine zd_gt ?_
    refine zd_move ?_
    refine zd_move ?_
    refine zd_idxZ ?_
    refine zd_fldZ ?_
    refine zd_load ?_
    refine zd_fld0 ?_
    refine zd_load ?_
    refine zd_ltF ?_
    refine zd_move ?_
    refine zd_move ?_
    refine zd_move ?_
    refine zd_len ?_
    refine zd_sub_nat ?_
    refine zd_idxN ?_
    refine zd_fld ?_
    refine zd_load ?_
    refine zd_fld0 ?_
    refine zd_load ?_
    refine zd_add ?_
    refine zd_gtF ?_
    refine zd_pick_f ?_
    refine zd_pick_t ?_
    refine zd_pick_f ?_
    refine dj_end ?_
    refine jk_if_f rfl ?_
    refine jk_skip ?_
    refine jk_blk ?_
    refine jk_region ?_
    refine zq_inc ?_
    refine zq_move ?_
    refine jk_nil ?_
    exact jk_round (i + 1) ⟨by omega, hnx⟩ (by omega) covZ selZ
  have hie : i = c.length := by omega
  subst hie
  rw [List.take_length] at hI
  have hR0 : capR qs cs bs hs d c = if hasI (cuAt c d.s) d.r = false ∨ hasI (cuAt c d.d) d.e = true then (0, 24) else (capSum qs cs bs hs d c, 0) := by
    unfold capR
    rw [if_neg (by rw [hval]; simp), if_neg (fun h => h hlen), if_neg (by rw [hI]; simp)]
  clear hI
  have hdd0 := hdm.1
  have hdd1 := hdm.2.1
  obtain ⟨ds, hds⟩ : ∃ n : Nat, d.s = n := ⟨d.s.toNat, by omega⟩
  obtain ⟨dd, hdd⟩ : ∃ n : Nat, d.d = n := ⟨d.d.toNat, by omega⟩
  have hxs := List.getElem?_eq_getElem (show ds < c.length by omega)
  have hxd := List.getElem?_eq_getElem (show dd < c.length by omega)
  obtain ⟨q1, k1, gs, hs1, _, hl1⟩ := hrow ds _ hxs
  obtain ⟨q2, k2, gd, hs2, _, hl2⟩ := hrow dd _ hxd
  have hh1 := ivHas_spec κ _ _ d.r hs1 hl1
  have hh2 := ivHas_spec κ _ _ d.e hs2 hl2
  have e1 : cuAt c d.s = c[ds] := by rw [hds]; exact cuAt_get hxs
  have e2 : cuAt c d.d = c[dd] := by rw [hdd]; exact cuAt_get hxd
  rw [e1, e2] at hR0
  have cdn0 : rdc (sng b2 (.cells #[int d.s, int d.d, int d.v, int d.r, int d.e] 31 (0, 0))) b2 0 = some (int ds) := by rw [rdc_sng, ← hds]; rfl
  have cdn1 : rdc (sng b2 (.cells #[int d.s, int d.d, int d.v, int d.r, int d.e] 31 (0, 0))) b2 1 = some (int dd) := by rw [rdc_sng, ← hdd]; rfl
  clear cd0 cd1
  refine jk_seq ?_
  refine jk_region ?_
  refine zq_ltF ?_
  refine jk_nil ?_
  refine jk_seq ?_
  refine jk_if_f rfl ?_
  refine jk_exit rfl ?_
  refine jk_seq ?_
  refine jk_seq ?_
  refine jk_draw (.q 0 (.q 1 (.q 2 (.q 3 (.q 4 (.q 5 (.q 6 (.l 7 .e (.q 8 (.q 9 (.q 10 (.q 11 (.q 12 (.q 13 (.q 14 (.q 15 (.q 16 (.l 17 .e (.q 18 .nil))))))))))))))))))) [] rfl (by kernel_rfl) selZ ?_
  refine zd_load ?_
  refine zd_fld0 ?_
  refine zd_load ?_
  refine zd_idx1 ?_
  refine zd_load ?_
  refine zd_fld0 ?_
  refine zd_load ?_
  refine dj_l (a_call rfl hh1 rfl rfl rdZ rfl rfl ?_)
  rintro _ rfl
  cases hb1 : hasI c[ds] d.r with
  | false =>
    rw [hR0, if_pos (.inl hb1)]
    refine dj_replan (.q 8 (.q 9 (.q 10 (.q 11 (.q 12 (.q 13 (.q 14 (.q 15 (.q 16 (.q 17 (.q 18 .nil))))))))))) (by kernel_rfl) ?_
    refine zd_not ?_
    refine zd_move ?_
    refine dj_pass rfl rfl rfl rfl rfl ?_
    refine dj_pass rfl rfl rfl rfl rfl ?_
    refine dj_pass rfl rfl rfl rfl rfl ?_
    refine dj_pass rfl rfl rfl rfl rfl ?_
    refine dj_pass rfl rfl rfl rfl rfl ?_
    refine dj_pass rfl rfl rfl rfl rfl ?_
    refine dj_pass rfl rfl rfl rfl rfl ?_
    refine dj_pass rfl rfl rfl rfl rfl ?_
    refine zd_pick_t ?_
    refine dj_end ?_
    refine jk_if_t rfl ?_
    refine jk_seq ?_
    refine jk_region ?_
    refine zq_assign ?_
    refine zq_assign ?_
    refine jk_nil ?_
    exact jk_ret_any (res2 rfl rfl rfl) (by (repeat (first | exact rs_nil | (refine rs_cons ?_ ?_; (focus ((repeat (first | exact .here | apply Mem.there | apply Take.there)); first | done | fail))) | exact fun ρ hρ => hρ | (intro ρ hρ; repeat (first | exact hρ | refine List.mem_cons_of_mem _ ?_)))); first | done | fail) selZ ⟨rfl, rfl⟩
  | true =>
  refine zd_not ?_
  refine zd_move ?_
  refine zd_load ?_
  refine zd_fld0 ?_
  refine zd_load ?_
  refine zd_idx1 ?_
  refine zd_load ?_
  refine zd_fld0 ?_
  refine zd_load ?_
  refine dj_l (a_call rfl hh2 rfl rfl rdZ rfl rfl ?_)
  rintro _ rfl
  cases hb2 : hasI c[dd] d.e with
  | true =>
    rw [hR0, if_pos (.inr hb2)]
    refine zd_pick_f ?_
    refine dj_end ?_
    refine jk_if_t rfl ?_
    refine jk_seq ?_
    refine jk_region ?_
    refine zq_assign ?_
    refine zq_assign ?_
    refine jk_nil ?_
    exact jk_ret_any (res2 rfl rfl rfl) (by (repeat (first | exact rs_nil | (refine rs_cons ?_ ?_; (focus ((repeat (first | exact .here | apply Mem.there | apply Take.there)); first | done | fail))) | exact fun ρ hρ => hρ | (intro ρ hρ; repeat (first | exact hρ | refine List.mem_cons_of_mem _ ?_)))); first | done | fail) selZ ⟨rfl, rfl⟩
  | false =>
  rw [if_neg (by rw [hb1, hb2]; simp)] at hR0
  rw [hR0]
  clear hh1 hh2 cdn0 cdn1 gs gd e1 e2 hR0
  have cd0 : rdc (sng b2 (.cells #[int d.s, int d.d, int d.v, int d.r, int d.e] 31 (0, 0))) b2 0 = some (int d.s) := by rw [rdc_sng]; rfl
  have cd1 : rdc (sng b2 (.cells #[int d.s, int d.d, int d.v, int d.r, int d.e] 31 (0, 0))) b2 1 = some (int d.d) := by rw [rdc_sng]; rfl
  have hwb := waitC_bd hquo hok hhl d c
  have hcb := conC_bd (fun x hx => by have := (chkCt_all (hcs x hx)).2.2.2.1; omega) bs d c
  have hWb := fun n => sumT_bd (f := fun n => sumU (waitC qs hs d c n) d.r d.e) (B := 1099511627776 * 100) (fun n => sumU_bd (by omega) (hwb n) hdm2.2.2.2) 0 n
  have hCb := fun n => sumT_bd (f := fun n => sumU (conC cs bs d c n) d.r d.e) (B := 1000 * 100) (fun n => sumU_bd (by omega) (hcb n) hdm2.2.2.2) 0 n
  have hcross := fun bs' f t a u w S => cross_spec γ κ b3 bs' _ kk c hcr f t a u w S
  refine zd_pick_f ?_
  refine dj_end ?_
  refine jk_if_f rfl ?_
  refine jk_skip ?_
  refine jk_seq ?_
  refine jk_region ?_
  refine zl_alloc1 ?_; rintro _ _ ⟨b, rfl, rfl⟩
  refine zs_storeL ?_; rintro _ _ ⟨rfl, rfl⟩
  refine jk_nil ?_
  refine jk_seq ?_
  refine jk_region ?_
  refine zq_makeFunc ?_
  refine zq_assign ?_
  refine jk_nil ?_
  refine jk_seq ?_
  refine jk_seq ?_
  refine jk_region ?_
  refine zq_load ?_
  refine zq_len ?_
  refine zq_move ?_
  refine jk_nil ?_
  refine jk_block ?_
  revert b; intro b9
  refine jk_loop [3, 4, 5, 11, 12, 89, 90] (X := Nat × Int) (0, 0) (fun x => x.1 ≤ c.length ∧ x.2 = capW qs hs d c x.1) (fun x => [(91, int x.1)]) (fun x => [sng b9 (.cells #[int x.2] 3 (0, 0))]) (fun x => c.length - x.1) pickZ ⟨by dsimp only; omega, rfl⟩ covZ selZ ?_
  rintro ⟨n, S⟩ ⟨hn, hS⟩
  dsimp only at hn hS ⊢
  have hSb := hWb n
  rw [show sumT (fun n => sumU (waitC qs hs d c n) d.r d.e) 0 n = S from hS.symm] at hSb
  by_cases hnq : n < c.length
  · have hnq2 : n < qs.length := by omega
    have hQx := List.getElem?_eq_getElem hnq2
    have hrm := fun t => certRoom_spec hT n t _ hQx (hquo n _ hQx) hok (by omega)
    refine jk_seq ?_
    refine jk_region ?_
    refine zq_lt ?_
    refine jk_nil ?_
    refine jk_seq ?_
    refine jk_if_t rfl ?_
    refine jk_skip ?_
    refine jk_seq ?_
    refine jk_block ?_
    refine jk_seq ?_
    refine jk_region ?_
    refine zq_move ?_
    refine zq_assign ?_
    refine jk_nil ?_
    refine jk_seq ?_
    refine jk_region ?_
    refine zq_fld0 ?_
    refine zq_load ?_
    refine zq_assign ?_
    refine jk_nil ?_
    refine jk_block ?_
    refine jk_loop [3, 4, 5, 11, 12, 13, 89, 90, 91] (X := Int × Int) (d.r, S) (fun x => d.r ≤ x.1 ∧ x.1 ≤ d.e ∧ x.2 = S + sumU (waitC qs hs d c n) d.r x.1) (fun x => [(14, int x.1)]) (fun x => [sng b9 (.cells #[int x.2] 3 (0, 0))]) (fun x => (d.e - x.1).toNat) pickZ ⟨by dsimp only; omega, by dsimp only; omega, by dsimp only; rw [sumU_self]; omega⟩ covZ selZ ?_
    rintro ⟨t, S2⟩ ⟨ht1, ht2, hS2⟩
    dsimp only at ht1 ht2 hS2 ⊢
    have hb2 := sumU_bd (a := d.r) (t := t) (by omega) (hwb n) (by omega)
    by_cases ht : t < d.e
    · have hsx := sumU_succ (f := waitC qs hs d c n) ht1
      have hfe : waitC qs hs d c n t = if crossB c n t n (t + 1) then roomT qs hs d n t else 0 := rfl
      have hst := stored_bd (n := n) (t := t) hok
      have hqb := hquo n _ hQx
      have hrt := hrm t
      have hrT : roomT qs hs d n t = if (n : Int) = d.s ∨ (n : Int) = d.d then 1099511627776 else qs[n] - Step.stored hs n t := by
        unfold roomT
        rw [Int.toNat_natCast, List.getD_eq_getElem?_getD, hQx, Option.getD_some]
      by_cases hsd : (n : Int) = d.s ∨ (n : Int) = d.d
      · rw [if_pos hsd] at hrT
        rw [hrT] at hfe
        have hcx := hcross b9 n n t (t + 1) 1099511627776 S2 hnq hnq ⟨by omega, by omega⟩
        rw [← hfe] at hcx
        have hsd2 : ¬ ((n : Int) ≠ d.s ∧ (n : Int) ≠ d.d) := by omega
        by_cases hs1 : (n : Int) = d.s
        · refine jk_seq ?_
          refine jk_seq ?_
          refine jk_region ?_
          refine zq_move ?_
          refine zq_fld0 ?_
          refine zq_load ?_
          refine zq_lt ?_
          refine jk_nil ?_
          refine jk_if_t rfl ?_
          refine jk_skip ?_
          refine jk_seq ?_
          refine jk_block ?_
          refine jk_seq ?_
          refine jk_region ?_
          refine zq_assign ?_
          refine jk_nil ?_
          refine jk_seq ?_
          refine jk_seq ?_
          refine jk_region ?_
          refine zq_move ?_
          refine zq_fld0 ?_
          refine zq_load ?_
          refine zq_neF ?_
          refine zq_move ?_
          refine jk_pass rfl rfl rfl ?_
          refine jk_pass rfl rfl rfl ?_
          refine jk_pass rfl rfl rfl ?_
          refine jk_pass rfl rfl rfl ?_
          refine zq_pick_f ?_
          refine jk_nil ?_
          refine jk_if_f rfl ?_
          refine jk_skip ?_
          refine jk_region ?_
          refine zq_move ?_
          refine zq_move ?_
          refine zq_move ?_
          refine zq_move ?_
          refine zq_move ?_
          refine zq_add ?_
          refine zq_move ?_
          refine jk_callH hcx rfl rfl Takes.all rdZ rfl rfl ?_
          rintro _ _ ⟨rfl, rfl⟩
          refine jk_nil ?_
          refine jk_blk ?_
          refine jk_region ?_
          refine zq_move ?_
          refine zq_add ?_
          refine zq_assign ?_
          refine jk_nil ?_
          exact jk_round (t + 1, S2 + waitC qs hs d c n t) ⟨by dsimp only; omega, by dsimp only; omega, by dsimp only; omega⟩ (by dsimp only; omega) covZ selZ
        · have hs2 : (n : Int) = d.d := by omega
          refine jk_seq ?_
          refine jk_seq ?_
          refine jk_region ?_
          refine zq_move ?_
          refine zq_fld0 ?_
          refine zq_load ?_
          refine zq_lt ?_
          refine jk_nil ?_
          refine jk_if_t rfl ?_
          refine jk_skip ?_
          refine jk_seq ?_
          refine jk_block ?_
          refine jk_seq ?_
          refine jk_region ?_
          refine zq_assign ?_
          refine jk_nil ?_
          refine jk_seq ?_
          refine jk_seq ?_
          refine jk_region ?_
          refine zq_move ?_
          refine zq_fld0 ?_
          refine zq_load ?_
          refine zq_ne ?_
          refine zq_move ?_
          refine zq_move ?_
          refine zq_fld0 ?_
          refine zq_load ?_
          refine zq_neF ?_
          refine zq_pick_t ?_
          refine jk_nil ?_
          refine jk_if_f rfl ?_
          refine jk_skip ?_
          refine jk_region ?_
          refine zq_move ?_
          refine zq_move ?_
          refine zq_move ?_
          refine zq_move ?_
          refine zq_move ?_
          refine zq_add ?_
          refine zq_move ?_
          refine jk_callH hcx rfl rfl Takes.all rdZ rfl rfl ?_
          rintro _ _ ⟨rfl, rfl⟩
          refine jk_nil ?_
          refine jk_blk ?_
          refine jk_region ?_
          refine zq_move ?_
          refine zq_add ?_
          refine zq_assign ?_
          refine jk_nil ?_
          exact jk_round (t + 1, S2 + waitC qs hs d c n t) ⟨by dsimp only; omega, by dsimp only; omega, by dsimp only; omega⟩ (by dsimp only; omega) covZ selZ
      · rw [if_neg hsd] at hrT
        rw [hrT] at hfe
        have hcx := hcross b9 n n t (t + 1) (qs[n] - Step.stored hs n t) S2 hnq hnq ⟨by omega, by omega⟩
        rw [← hfe] at hcx
        have hs1 : ¬ (n : Int) = d.s := by omega
        have hs2 : ¬ (n : Int) = d.d := by omega
        refine jk_seq ?_
        refine jk_seq ?_
        refine jk_region ?_
        refine zq_move ?_
        refine zq_fld0 ?_
        refine zq_load ?_
        refine zq_lt ?_
        refine jk_nil ?_
        refine jk_if_t rfl ?_
        refine jk_skip ?_
        refine jk_seq ?_
        refine jk_block ?_
        refine jk_seq ?_
        refine jk_region ?_
        refine zq_assign ?_
        refine jk_nil ?_
        refine jk_seq ?_
        refine jk_seq ?_
        refine jk_region ?_
        refine zq_move ?_
        refine zq_fld0 ?_
        refine zq_load ?_
        refine zq_ne ?_
        refine zq_move ?_
        refine zq_move ?_
        refine zq_fld0 ?_
        refine zq_load ?_
        refine zq_ne ?_
        refine zq_pick_t ?_
        refine jk_nil ?_
        refine jk_if_t rfl ?_
        refine jk_region ?_
        refine zq_loadS ?_
        refine zq_move ?_
        refine zq_move ?_
        refine jk_call hrt rfl rfl rdZ rfl rfl ?_
        rintro _ rfl
        refine zq_assign ?_
        refine jk_nil ?_
        refine jk_region ?_
        refine zq_move ?_
        refine zq_move ?_
        refine zq_move ?_
        refine zq_move ?_
        refine zq_move ?_
        refine zq_add ?_
        refine zq_move ?_
        refine jk_callH hcx rfl rfl Takes.all rdZ rfl rfl ?_
        rintro _ _ ⟨rfl, rfl⟩
        refine jk_nil ?_
        refine jk_blk ?_
        refine jk_region ?_
        refine zq_move ?_
        refine zq_add ?_
        refine zq_assign ?_
        refine jk_nil ?_
        exact jk_round (t + 1, S2 + waitC qs hs d c n t) ⟨by dsimp only; omega, by dsimp only; omega, by dsimp only; omega⟩ (by dsimp only; omega) covZ selZ
    · have hte : t = d.e := by omega
      subst hte
      refine jk_seq ?_
      refine jk_seq ?_
      refine jk_region ?_
      refine zq_move ?_
      refine zq_fld0 ?_
      refine zq_load ?_
      refine zq_ltF ?_
      refine jk_nil ?_
      refine jk_if_f rfl ?_
      refine jk_exit rfl ?_
      refine jk_blk ?_
      refine jk_region ?_
      refine zq_inc ?_
      refine zq_move ?_
      refine jk_nil ?_
      exact jk_round (n + 1, S2) ⟨by dsimp only; omega, by dsimp only; rw [hS2, hS]; exact (sumT_succ0 _ n).symm⟩ (by dsimp only; omega) covZ selZ
  have hne : n = c.length := by omega
  subst hne
  rw [hlen] at hS hSb
  refine jk_seq ?_
  refine jk_region ?_
  refine zq_ltF ?_
  refine jk_nil ?_
  refine jk_seq ?_
  refine jk_if_f rfl ?_
  refine jk_exit rfl ?_
  refine jk_seq ?_
  refine jk_seq ?_
  refine jk_region ?_
  refine zq_fld0 ?_
  refine zq_fld0 ?_
  refine zq_load ?_
  refine zq_len ?_
  refine zq_move ?_
  refine jk_nil ?_
  refine jk_block ?_
  refine jk_loop [3, 4, 5, 11, 12, 127, 128] (X := Nat × Int) (0, S) (fun x => x.1 ≤ cs.length ∧ x.2 = S + capC cs bs d c x.1) (fun x => [(129, int x.1)]) (fun x => [sng b9 (.cells #[int x.2] 3 (0, 0))]) (fun x => cs.length - x.1) pickZ ⟨by dsimp only; omega, (Int.add_zero _).symm⟩ covZ selZ ?_
  rintro ⟨n, S1⟩ ⟨hn, hS1⟩
  dsimp only at hn hS1 ⊢
  have hCn := hCb n
  have hSb1 : -(1099511627776 * 100 * (qs.length : Int)) - 1000 * 100 * n ≤ S1 ∧ S1 ≤ 1099511627776 * 100 * (qs.length : Int) + 1000 * 100 * n := by
    have e : sumT (fun n => sumU (conC cs bs d c n) d.r d.e) 0 n = capC cs bs d c n := rfl
    rw [e] at hCn
    omega
  by_cases hnc : n < cs.length
  · have hx := List.getElem?_eq_getElem hnc
    have hck := chkCt_all (hcs _ (List.getElem_mem hnc))
    have hft := (hcs0 _ (List.getElem_mem hnc)).2
    obtain ⟨b4, o4, rfl, hrd⟩ := ctRow hT.rc hx
    have hfe : ∀ t, conC cs bs d c n t = if cs[n].s ≤ t ∧ t < cs[n].e ∧ t + 1 + cs[n].g ≤ d.e ∧ bookedB bs n t = false ∧ crossB c cs[n].f t cs[n].t (t + 1 + cs[n].g) = true then cs[n].r else 0 := fun t => by
      unfold conC
      rw [Int.toNat_natCast, hx]
    have hbk := fun t => booked_spec hT n t (by omega)
    generalize cs[n] = x at hck hft hrd hfe
    obtain ⟨xf, hxf⟩ : ∃ k : Nat, x.f = k := ⟨x.f.toNat, by omega⟩
    obtain ⟨xt, hxt⟩ : ∃ k : Nat, x.t = k := ⟨x.t.toNat, by omega⟩
    have harr := fun t h1 h2 => arrival_spec x t h1 h2
    rw [hxf, hxt] at hrd hfe
    simp only [hxf, hxt] at harr
    have hearly : ∀ v, v < x.s → conC cs bs d c n v = 0 := fun v hv => by rw [hfe, if_neg (fun h => by omega)]
    have hlate : ∀ v, d.e < v + 1 + x.g → conC cs bs d c n v = 0 := fun v hv => by rw [hfe, if_neg (fun h => by omega)]
    have hover : ∀ v, x.e ≤ v → conC cs bs d c n v = 0 := fun v hv => by rw [hfe, if_neg (fun h => by omega)]
    refine jk_seq ?_
    refine jk_region ?_
    refine zq_lt ?_
    refine jk_nil ?_
    refine jk_seq ?_
    refine jk_if_t rfl ?_
    refine jk_skip ?_
    refine jk_seq ?_
    refine jk_block ?_
    refine jk_seq ?_
    refine jk_region ?_
    refine zq_move ?_
    refine zq_idxN ?_
    refine zq_loadS ?_
    refine zl_allocS ?_; rintro _ _ ⟨b, rfl, rfl⟩
    refine zq_assign ?_
    refine zs_storeS ?_; rintro _ _ ⟨rfl, rfl⟩
    refine jk_nil ?_
    refine jk_seq ?_
    refine jk_region ?_
    refine zq_fld0 ?_
    refine zq_load ?_
    refine zq_fld0 ?_
    refine zq_load ?_
    refine zq_max ?_
    refine zq_assign ?_
    refine jk_nil ?_
    refine jk_block ?_
    revert b; intro b5
    have hst0 : sumU (conC cs bs d c n) d.r (max x.s d.r) = 0 := by
      rw [sumU_ext (Int.le_refl d.r) (by omega) (fun v _ h2 => hearly v (by omega)), sumU_self]
    refine jk_loop [3, 4, 5, 11, 12, 16, 17, 127, 128, 129] (X := Int × Int) (max x.s d.r, S1) (fun y => d.r ≤ y.1 ∧ x.s ≤ y.1 ∧ y.1 ≤ 1099511627776 ∧ y.2 = S1 + sumU (conC cs bs d c n) d.r y.1) (fun y => [(18, int y.1)]) (fun y => [sng b5 _, sng b9 (.cells #[int y.2] 3 (0, 0))]) (fun y => (1099511627776 - y.1).toNat) pickZ ⟨by dsimp only; omega, by dsimp only; omega, by dsimp only; omega, by dsimp only; rw [hst0]; omega⟩ covZ selZ ?_
    rintro ⟨t, S2⟩ ⟨ht1, ht3, ht2, hS2⟩
    dsimp only at ht1 ht2 ht3 hS2 ⊢
    have hbt := hbk t
    have hstop : (x.e ≤ t ∨ d.e < t + 1 + x.g) → S2 = S1 + sumU (conC cs bs d c n) d.r d.e := fun hh => by
      rw [hS2]
      congr 1
      by_cases hle : t ≤ d.e
      · exact (sumU_ext ht1 hle (fun v h1 h2 => by
          rcases hh with hh | hh
          · exact hover v (by omega)
          · exact hlate v (by omega))).symm
      · exact sumU_ext (by omega) (by omega) (fun v h1 h2 => hlate v (by omega))
    have hnext : (x.e ≤ t ∨ d.e < t + 1 + x.g) → S2 = S + capC cs bs d c (n + 1) := fun hh => by
      rw [hstop hh, hS1, Int.add_assoc]
      congr 1
      exact (sumT_succ0 _ n).symm
    by_cases c1 : t < x.e
    rotate_left
    · refine jk_seq ?_
      refine jk_seq ?_
      refine jk_draw (.q 0 (.q 1 (.q 2 (.q 3 (.q 4 (.q 5 (.q 6 (.q 7 (.q 8 (.q 9 (.q 10 (.q 11 .nil)))))))))))) [sng b5 _] rfl (by kernel_rfl) selZ ?_
      refine zd_move ?_
      refine zd_fld0 ?_
      refine zd_load ?_
      refine zd_ltF ?_
      refine zd_move ?_
      refine dj_pass rfl rfl rfl rfl rfl ?_
      refine dj_pass rfl rfl rfl rfl rfl ?_
      refine dj_pass rfl rfl rfl rfl rfl ?_
      refine dj_pass rfl rfl rfl rfl rfl ?_
      refine dj_pass rfl rfl rfl rfl rfl ?_
      refine dj_pass rfl rfl rfl rfl rfl ?_
      refine zd_pick_f ?_
      refine dj_end ?_
      refine jk_if_f rfl ?_
      refine jk_exit rfl ?_
      refine jk_blk ?_
      refine jk_region ?_
      refine zq_inc ?_
      refine zq_move ?_
      refine jk_nil ?_
      exact jk_round (n + 1, S2) ⟨by dsimp only; omega, hnext (.inl (by omega))⟩ (by dsimp only; omega) covZ selZ
    have har := harr t ⟨by omega, by omega⟩ ⟨by omega, by omega⟩
    refine jk_seq ?_
    refine jk_seq ?_
    refine jk_draw (.q 0 (.q 1 (.q 2 (.q 3 (.q 4 (.q 5 (.q 6 (.q 8 (.q 9 (.l 7 .e (.q 10 (.q 11 .nil)))))))))))) [sng b5 _, sng b9 _] rfl (by kernel_rfl) selZ ?_
    refine zd_move ?_
    refine zd_fld0 ?_
    refine zd_load ?_
    refine zd_lt ?_
    refine zd_move ?_
    refine zd_loadS ?_
    refine zd_move ?_
    refine zd_fld0 ?_
    refine zd_load ?_
    refine dj_l (a_call rfl har rfl rfl rdZ rfl rfl ?_)
    rintro _ rfl
    by_cases c2 : d.e < t + 1 + x.g
    · refine zd_leF ?_
      refine zd_pick_t ?_
      refine dj_end ?_
      refine jk_if_f rfl ?_
      refine jk_exit rfl ?_
      refine jk_blk ?_
      refine jk_region ?_
      refine zq_inc ?_
      refine zq_move ?_
      refine jk_nil ?_
      exact jk_round (n + 1, S2) ⟨by dsimp only; omega, hnext (.inr c2)⟩ (by dsimp only; omega) covZ selZ
    have hb2 := sumU_bd (a := d.r) (t := t) (by omega) (hcb n) (by omega)
    have hsx := sumU_succ (f := conC cs bs d c n) ht1
    refine zd_le ?_
    refine zd_pick_t ?_
    refine dj_end ?_
    refine jk_if_t rfl ?_
    refine jk_skip ?_
    refine jk_seq ?_
    refine jk_block ?_
    refine jk_seq ?_
    refine jk_region ?_
    refine zq_loadS ?_
    refine zq_move ?_
    refine zq_move ?_
    refine jk_call hbt rfl rfl rdZ rfl rfl ?_
    rintro _ rfl
    cases hbb : bookedB bs n t with
    | true =>
      have h0 : conC cs bs d c n t = 0 := by rw [hfe, if_neg (fun h => by rw [hbb] at h; simp at h)]
      refine zq_not ?_
      refine jk_nil ?_
      refine jk_if_f rfl ?_
      refine jk_skip ?_
      refine jk_blk ?_
      refine jk_region ?_
      refine zq_move ?_
      refine zq_add ?_
      refine zq_assign ?_
      refine jk_nil ?_
      exact jk_round (t + 1, S2) ⟨by dsimp only; omega, by dsimp only; omega, by dsimp only; omega, by dsimp only; omega⟩ (by dsimp only; omega) covZ selZ
    | false =>
      have hcx := hcross b9 xf xt t (t + 1 + x.g) x.r S2 (by omega) (by omega) ⟨by omega, by omega⟩
      have hcv : (if crossB c xf t xt (t + 1 + x.g) then x.r else 0) = conC cs bs d c n t := by
        rw [hfe]
        cases hcr2 : crossB c xf t xt (t + 1 + x.g) with
        | true => rw [if_pos rfl, if_pos ⟨by omega, by omega, by omega, hbb, rfl⟩]
        | false => rw [if_neg (by simp), if_neg (fun h => by simp at h)]
      rw [hcv] at hcx
      refine zq_not ?_
      refine jk_nil ?_
      refine jk_if_t rfl ?_
      refine jk_draw (.q 0 (.q 1 (.q 2 (.q 3 (.q 4 (.q 5 (.q 6 (.q 7 (.q 9 (.q 10 (.l 8 .e (.l 11 .b .nil)))))))))))) [sng b5 _] rfl (by kernel_rfl) selZ ?_
      refine zd_move ?_
      refine zd_fld0 ?_
      refine zd_load ?_
      refine zd_move ?_
      refine zd_fld0 ?_
      refine zd_load ?_
      refine zd_loadS ?_
      refine zd_move ?_
      refine zd_fld0 ?_
      refine zd_load ?_
      refine dj_l (a_call rfl har rfl rfl rdZ rfl rfl ?_)
      rintro _ rfl
      refine dj_l (a_callH rfl hcx rfl rfl (Takes.skip Takes.all) rdZ rfl rfl (fun v H' hp w hw => by obtain ⟨_, rfl⟩ := hp; exact hw.sel selZ) ?_)
      rintro _ _ ⟨rfl, rfl⟩
      refine dj_end ?_
      refine jk_blk ?_
      refine jk_region ?_
      refine zq_move ?_
      refine zq_add ?_
      refine zq_assign ?_
      refine jk_nil ?_
      exact jk_round (t + 1, S2 + conC cs bs d c n t) ⟨by dsimp only; omega, by dsimp only; omega, by dsimp only; omega, by dsimp only; omega⟩ (by dsimp only; omega) covZ selZ
  have hne : n = cs.length := by omega
  subst hne
  have hfin : capSum qs cs bs hs d c = S1 := by unfold capSum; rw [← hS, hS1]
  rw [hfin]
  refine jk_seq ?_
  refine jk_region ?_
  refine zq_ltF ?_
  refine jk_nil ?_
  refine jk_seq ?_
  refine jk_if_f rfl ?_
  refine jk_exit rfl ?_
  refine jk_seq ?_
  refine jk_region ?_
  refine zq_load ?_
  refine zq_assign ?_
  refine zq_assign ?_
  refine jk_nil ?_
  exact jk_ret_any (res2 rfl rfl rfl) (by (repeat (first | exact rs_nil | (refine rs_cons ?_ ?_; (focus ((repeat (first | exact .here | apply Mem.there | apply Take.there)); first | done | fail))) | exact fun ρ hρ => hρ | (intro ρ hρ; repeat (first | exact hρ | refine List.mem_cons_of_mem _ ?_)))); first | done | fail) selZ ⟨rfl, rfl⟩
end Go.Proofs.YtjbebmealbnmgaaGreat
/- The changes of stocks. -/
namespace Go.Proofs.YtjbebmealbnmgaaGreat
open Go.Eng Go.Step
set_option maxRecDepth 100000
set_option maxHeartbeats 4000000

def chAll (cs : List Ct) (l : List Sh) : List (List Int) := l.flatMap (chsOf cs)
def encCh (c : List Int) : List Value := [.agg (c.map int).toArray]
theorem ch_get (cs : List Ct) : ∀ (l : List Sh) (k : Nat) (x : Sh), l[k]? = some x → (chAll cs l)[2 * k]? = some [(ctOf cs x).f, x.t, -x.n] ∧ (chAll cs l)[2 * k + 1]? = some [(ctOf cs x).t, arrOf cs x, x.n]
  | [], k, x, h => by simp at h
  | y :: l, 0, x, h => by
    simp at h; subst h
    exact ⟨rfl, rfl⟩
  | y :: l, k + 1, x, h => by
    have ih := ch_get cs l k x (by simpa using h)
    have e : chAll cs (y :: l) = chsOf cs y ++ chAll cs l := rfl
    rw [e, List.getElem?_append_right (by simp [chsOf]; omega), List.getElem?_append_right (by simp [chsOf]; omega)]
    simp only [chsOf, List.length_cons, List.length_nil]
    rw [show 2 * (k + 1) - (0 + 1 + 1) = 2 * k by omega, show 2 * (k + 1) + 1 - (0 + 1 + 1) = 2 * k + 1 by omega]
    exact ih
theorem chAll_len (cs : List Ct) : ∀ l : List Sh, (chAll cs l).length = 2 * l.length
  | [] => rfl
  | y :: l => by
    have ih := chAll_len cs l
    have e : chAll cs (y :: l) = chsOf cs y ++ chAll cs l := rfl
    rw [e, List.length_append, ih]
    simp [chsOf]; omega
theorem changes_spec (v : Value) (pq pc pb ph : Option Addr) (nq nc nb nh kq kc kb kh : Nat) (hv1 : v.oneCell' = true) :
    Eng.Spec Tryz.prog (fv 64) [.agg #[.slice pq nq kq, .slice pc nc kc, .slice pb nb kb, .slice ph nh kh], v] [] [] (fun r H' => ∃ bl bt, r = .func (.func 75) #[] #[.pointer (some ⟨bl, 0, none⟩), .pointer (some ⟨bt, 0, none⟩)] ∧
      H' = [sng bl (.cells #[v] 44 (0, 0)), sng bt (.cells #[.slice pq nq kq, .slice pc nc kc, .slice pb nb kb, .slice ph nh kh] 29 (0, 0))]) := by
  refine spec_in (cap := []) Tryz.func64 rfl rfl Tryz.ntmps64 rfl (by (repeat (first | exact EnvA.nil EnvI.nil | apply EnvA.cons | apply EnvA.nil | exact EnvI.nil | apply EnvI.cons)); first | done | fail) (fun N β => ?_)
  refine jk_seq ?_
  refine jk_region ?_
  refine jk_op (l_boxS rfl) rfl rfl rfl ?_
  rintro _ _ ⟨bt, rfl, rfl⟩
  refine jk_op (l_box1 rfl hv1) rfl rfl rfl ?_
  rintro _ _ ⟨bl, rfl, rfl⟩
  refine zq_assign ?_
  refine jk_nil ?_
  refine jk_seq ?_
  refine jk_region ?_
  refine zq_makeFunc ?_
  refine zq_assign ?_
  refine jk_nil ?_
  exact jk_ret_any (res1 rfl rfl) (by (repeat (first | exact rs_nil | (refine rs_cons ?_ ?_; (focus ((repeat (first | exact .here | apply Mem.there | apply Take.there)); first | done | fail))) | exact fun ρ hρ => hρ | (intro ρ hρ; repeat (first | exact hρ | refine List.mem_cons_of_mem _ ?_)))); first | done | fail) selZ ⟨bl, bt, rfl, rfl⟩
set_option maxHeartbeats 32000000 in
theorem changes_iter {ρ τ σ υ : PH} (ω : PH) {pq pc pb ph : Option Addr} {kq kc kb kh : Nat} {qs : List Int} {cs : List Ct} {bs : List Bk} {hs : List Hd} (hT : TbAt ρ τ σ υ pq pc pb ph kq kc kb kh qs cs bs hs) (bl bt : Nat) (d : Dm) (v : Value) (l : List Sh) (hv : ShAt ω v l) (hS : ∀ x ∈ l, ship1 cs bs d x = 0) (hcs : ∀ c ∈ cs, chkCt c = 0) (hd : 0 ≤ d.r) (hll : l.length ≤ 1000000) :
    Iter Tryz.prog (.func (.func 75) #[] #[.pointer (some ⟨bl, 0, none⟩), .pointer (some ⟨bt, 0, none⟩)]) [sng bl (.cells #[v] 44 (0, 0)), sng bt (.cells #[.slice pq qs.length kq, .slice pc cs.length kc, .slice pb bs.length kb, .slice ph hs.length kh] 29 (0, 0)), τ, ω] ((chAll cs l).map encCh) := by
  intro y S Own Inv Stop Ry hy hyl σ0 hI0
  obtain ⟨yl, rfl⟩ := hyl
  obtain ⟨q, cc, rfl, hr⟩ := hv.val encX_len
  have c1 : rdc (sng bl (.cells #[.slice q l.length cc] 44 (0, 0))) bl 0 = some (.slice q l.length cc) := by rw [rdc_sng]; rfl
  have c2 : rdc (sng bt (.cells #[.slice pq qs.length kq, .slice pc cs.length kc, .slice pb bs.length kb, .slice ph hs.length kh] 29 (0, 0))) bt 1 = some (.slice pc cs.length kc) := by rw [rdc_sng]; rfl
  simp only [List.cons_append, List.nil_append]
  refine spec_in (cap := [.pointer (some ⟨bl, 0, none⟩), .pointer (some ⟨bt, 0, none⟩)]) Tryz.func75 rfl rfl Tryz.ntmps75 rfl (by (repeat (first | exact EnvA.nil EnvI.nil | apply EnvA.cons | apply EnvA.nil | exact EnvI.nil | apply EnvI.cons)); first | done | fail) (fun N β => ?_)
  refine jk_seq ?_
  refine jk_region ?_
  refine zq_load ?_
  refine zq_len ?_
  refine zq_move ?_
  refine jk_nil ?_
  refine jk_block ?_
  refine jk_loop [0, 1, 2, 7, 8] (X := Nat × S) (0, σ0) (fun x => x.1 ≤ l.length ∧ Inv (2 * x.1) x.2) (fun x => [(9, int x.1)]) (fun x => Own x.2) (fun x => l.length - x.1) pickZ ⟨by dsimp only; omega, hI0⟩ covZ Sel.refl ?_
  rintro ⟨k, σ'⟩ ⟨hk, hI⟩
  dsimp only at hk hI ⊢
  by_cases hlt : k < l.length
  · have hx := List.getElem?_eq_getElem hlt
    obtain ⟨hg1, hg2⟩ := ch_get cs l k _ hx
    obtain ⟨nn, c, hnn, hcx, hct, hin, hlate, har⟩ := ship1_ok (hS _ (List.getElem_mem hlt))
    obtain ⟨b5, o5, rfl, hrx, x0, x1, x2⟩ := shRow hr hx
    have hck := chkCt_all (hcs c (List.mem_of_getElem? hcx))
    have hnl := (List.getElem?_eq_some_iff.1 hcx).1
    rw [hct] at hg1 hg2
    rw [har] at hg2
    rw [hnn] at hrx x0
    have hy1 := hy (2 * k) σ' (encCh [c.f, l[k].t, -l[k].n]) (by rw [List.getElem?_map, hg1]; rfl) hI
    have hy2 := fun τ' (h : Inv (2 * k + 1) τ') => hy (2 * k + 1) τ' (encCh [c.t, l[k].t + 1 + c.g, l[k].n]) (by rw [List.getElem?_map, hg2]; rfl) h
    have harr := arrival_spec c l[k].t ⟨by omega, by omega⟩ ⟨by omega, by omega⟩
    generalize l[k] = x at hrx x0 x1 x2 hin hlate hy1 hy2 harr
    obtain ⟨b4, o4, rfl, hrd⟩ := ctRow hT.rc hcx
    refine jk_seq ?_
    refine jk_region ?_
    refine zq_lt ?_
    refine jk_nil ?_
    refine jk_seq ?_
    refine jk_if_t rfl ?_
    refine jk_skip ?_
    refine jk_seq ?_
    refine jk_block ?_
    refine jk_seq ?_
    refine jk_region ?_
    refine zq_idxN ?_
    refine zq_loadS ?_
    refine zl_allocS ?_; rintro _ _ ⟨b, rfl, rfl⟩
    refine zs_storeS ?_; rintro _ _ ⟨rfl, rfl⟩
    refine jk_nil ?_
    refine jk_seq ?_
    refine jk_region ?_
    refine zq_fld0 ?_
    refine zq_fld0 ?_
    refine zq_load ?_
    refine zq_fld0 ?_
    refine zq_load ?_
    refine zq_idxN ?_
    refine zq_loadS ?_
    refine zl_allocS ?_; rintro _ _ ⟨b, rfl, rfl⟩
    refine zs_storeS ?_; rintro _ _ ⟨rfl, rfl⟩
    refine jk_nil ?_
    refine jk_seq ?_
    refine jk_draw (.q 0 (.q 1 (.q 2 (.q 3 (.q 4 (.q 5 (.q 6 (.q 7 (.q 8 (.l 9 .b (.q 10 (.q 11 (.q 12 (.q 13 (.q 14 (.q 15 (.q 16 (.q 17 (.q 19 (.q 20 (.l 18 .e (.q 21 (.l 22 .b (.q 23 (.q 24 .nil))))))))))))))))))))))))) [] rfl (by kernel_rfl) Sel.nil ?_
    refine zd_move ?_
    refine zd_fld0 ?_
    refine zd_load ?_
    refine zd_fld0 ?_
    refine zd_load ?_
    refine zd_fld0 ?_
    refine zd_load ?_
    refine zd_neg ?_
    refine zd_build ?_
    refine dj_l (a_callH rfl hy1 rfl rfl (Takes.skip (Takes.skip Takes.all)) (fun τ hτ => .inl (by simp [hτ])) rfl rfl (fun _ _ _ w hw => hw.sel Sel.nil) ?_)
    rintro _ H' ⟨σ1, rfl, ⟨rfl, hI1⟩ | ⟨rfl, hSt⟩⟩
    · refine dj_perm (H' := _ :: _ :: Own σ1) (List.perm_append_comm (l₂ := [_, _])) ?_
      refine zd_not ?_
      refine zd_move ?_
      refine zd_move ?_
      refine zd_fld0 ?_
      refine zd_load ?_
      refine zd_loadS ?_
      refine zd_fld0 ?_
      refine zd_load ?_
      refine zd_fld0 ?_
      refine zd_load ?_
      refine dj_l (a_call rfl harr rfl rfl rdZ rfl rfl ?_)
      rintro _ rfl
      refine zd_build ?_
      refine dj_l (a_callH rfl (hy2 σ1 hI1) rfl rfl (Takes.skip (Takes.skip Takes.all)) (fun τ hτ => .inl (by simp [hτ])) rfl rfl (fun _ _ _ w hw => hw.sel Sel.nil) ?_)
      rintro _ H' ⟨σ2, rfl, ⟨rfl, hI2⟩ | ⟨rfl, hSt⟩⟩
      · refine zd_not ?_
        refine zd_pick_f ?_
        refine dj_end ?_
        refine jk_if_f rfl ?_
        refine jk_skip ?_
        refine jk_blk ?_
        refine jk_region ?_
        refine zq_inc ?_
        refine zq_move ?_
        refine jk_nil ?_
        refine jk_perm (H' := _ :: _ :: Own σ2) (List.perm_append_comm (l₂ := [_, _])) ?_
        exact jk_round (k + 1, σ2) ⟨by dsimp only; omega, hI2⟩ (by dsimp only; omega) covZ (Sel.skip (Sel.skip Sel.refl))
      · refine zd_not ?_
        refine zd_pick_f ?_
        refine dj_end ?_
        refine jk_if_t rfl ?_
        exact jk_ret_any (res0 rfl) (fun _ h => h) Sel.left ⟨σ2, rfl, .inr hSt⟩
    · refine dj_replan (.q 10 (.q 11 (.q 12 (.q 13 (.q 14 (.q 15 (.q 16 (.q 17 (.q 19 (.q 20 (.q 18 (.q 21 (.q 22 (.q 23 (.q 24 .nil))))))))))))))) (by kernel_rfl) ?_
      refine zd_not ?_
      refine zd_move ?_
      refine dj_pass rfl rfl rfl rfl rfl ?_
      refine dj_pass rfl rfl rfl rfl rfl ?_
      refine dj_pass rfl rfl rfl rfl rfl ?_
      refine dj_pass rfl rfl rfl rfl rfl ?_
      refine dj_pass rfl rfl rfl rfl rfl ?_
      refine dj_pass rfl rfl rfl rfl rfl ?_
      refine dj_pass rfl rfl rfl rfl rfl ?_
      refine dj_pass rfl rfl rfl rfl rfl ?_
      refine dj_pass rfl rfl rfl rfl rfl ?_
      refine dj_pass rfl rfl rfl rfl rfl ?_
      refine dj_pass rfl rfl rfl rfl rfl ?_
      refine dj_pass rfl rfl rfl rfl rfl ?_
      refine zd_pick_t ?_
      refine dj_end ?_
      refine jk_if_t rfl ?_
      exact jk_ret_any (res0 rfl) (fun _ h => h) Sel.left ⟨σ1, rfl, .inr hSt⟩
  have hke : k = l.length := by omega
  subst hke
  refine jk_seq ?_
  refine jk_region ?_
  refine zq_ltF ?_
  refine jk_nil ?_
  refine jk_seq ?_
  refine jk_if_f rfl ?_
  refine jk_exit rfl ?_
  refine jk_end_any (res0 rfl) (fun _ h => h) Sel.refl ⟨σ', rfl, .inl ?_⟩
  rw [List.length_map, chAll_len]
  exact hI
end Go.Proofs.YtjbebmealbnmgaaGreat
/- Chunks of many blocks: one of their cells is written; tables of numbers. No conditions. -/
namespace Go.Eng
variable {C : Cx} {D : List Deferred} {R H : List PH} {L : Env} {K : List It}
variable {dst : Option Tmp} {ty : TypeId} {pos : String} {aft : Array Edge} {g : Option (Nat × Bool)}
def updP (γ : PH) (b : Nat) (o : Obj) : PH := fun x => if x = b then some o else γ x
theorem updP_same (γ : PH) (b : Nat) (o : Obj) : updP γ b o b = some o := by simp [updP]
theorem updP_other (γ : PH) {b x : Nat} (o : Obj) (h : x ≠ b) : updP γ b o x = γ x := by simp [updP, h]
/-- a block of a chunk is turned -/
theorem Sat.turnP {N : Bs} {w w' : World} {b : Nat} {γ : PH} {o o' : Obj} {H' : List PH} (h : Sat N R H w) (t : Take γ H H') (hγ : γ b = some o) (hs : w'.heap.size = w.heap.size) (hb : w'.heap[b]? = some o') (ho : ∀ k, k ≠ b → w'.heap[k]? = w.heap[k]?) (hio : w'.os = w.os ∧ w'.output = w.output ∧ w'.tape = w.tape) : Sat N R (updP γ b o' :: H') w' := by
  have h1 := h.take t
  have hd1 := List.pairwise_cons.1 h1.hd
  have keep : ∀ ρ : PH, ρ.disj γ → ρ.le w → ρ.le w' := fun ρ hd hr k ob hk => by
    have hne : k ≠ b := fun e => by
      subst e
      rcases hd k with h2 | h2
      · rw [h2] at hk; simp at hk
      · rw [h2] at hγ; simp at hγ
    rw [ho k hne]; exact hr k ob hk
  have dj : ∀ ρ : PH, ρ.disj γ → ρ.disj (updP γ b o') := fun ρ hd k => by
    rcases hd k with h2 | h2
    · exact .inl h2
    · right
      have hk : k ≠ b := fun e => by subst e; rw [h2] at hγ; simp at hγ
      rw [updP_other γ o' hk]; exact h2
  refine ⟨by rw [hs, hio.1, hio.2.1, hio.2.2]; exact h.sz, fun ρ hr => keep ρ (h1.rd ρ hr _ (by simp)) (h.r ρ hr), fun ρ hr => ?_, List.pairwise_cons.2 ⟨fun ρ hr => (dj ρ (hd1.1 ρ hr).symm).symm, hd1.2⟩, fun ρ hr σ hσ => ?_⟩
  · simp at hr
    rcases hr with rfl | hr
    · intro k ob hk
      by_cases e : k = b
      · subst e
        rw [updP_same] at hk
        rw [hb, hk]
      · rw [updP_other γ o' e] at hk
        rw [ho k e]; exact h.h γ t.mem k ob hk
    · exact keep ρ (hd1.1 ρ hr).symm (h.h ρ (t.sub ρ hr))
  · simp at hσ
    rcases hσ with rfl | hσ
    · exact dj ρ (h1.rd ρ hr _ (by simp))
    · exact h.rd ρ hr σ (t.sub σ hσ)
/-- a cell of a block of a chunk is written -/
theorem l_storeP {t T : TypeId} {x y : Operand} {b o : Nat} {c : Array Value} {v : Value} {γ : PH} {H' : List PH} (h : evalE L x = some (.pointer (some ⟨b, o, none⟩))) (hv : evalE L y = some v) (h1 : v.oneCell' = true) (hn : szP C.P t = some 1)
    (ht : Take γ H H') (hγ : γ b = some (.cells c T (0, 0))) (ho : o < c.size) :
    Loud C R H L ⟨dst, .store t x y, ty, pos, aft, g⟩ (fun u H2 => u = undef ∧ H2 = updP γ b (.cells (c.setIfInBounds o v) T (0, 0)) :: H') := by
  refine ⟨fun a w hx hs next Q hnx => ?_⟩
  have hg : w.heap[b]? = some (.cells c T (0, 0)) := hs.h γ ht.mem b _ hγ
  have hcell : w.cell? ⟨b, o, none⟩ = some c[o] := by simp [World.cell?, hg, ho]
  have hfr := frozen_of_row w b o c T hg
  have hsz : v.cells = #[v] := by cases v <;> first | rfl | simp [Value.oneCell'] at h1
  have e1 := hx x (by simp [Op.operands]) _ h
  have e2 := hx y (by simp [Op.operands]) _ hv
  refine wpIn_skipv (w' := w.setCell ⟨b, o, none⟩ v) (by intro c; simp) ?_ (hnx _ _ _ ⟨rfl, rfl⟩ (hs.turnP ht hγ ?_ ?_ ?_ ⟨rfl, rfl, rfl⟩))
  · have hst : (store ⟨b, o, none⟩ v).run C.P w = .ok () (w.setCell ⟨b, o, none⟩ v) := by
      cases v <;> first | (simp [Value.oneCell'] at h1; done) | simp [store, Sem.run, hcell, hfr]
    simp [execOp, e1, e2, Instr.storeAt, Instr.sureAddr, storeVar, run_sizeOf hn, hsz, storeCells, hst, Addr.add]
  · simp [World.setCell]
  · exact heap_setCell_same w b o c T v hg
  · intro k hk; exact heap_setCell_other w ⟨b, o, none⟩ k v hk
/-- a block joins a chunk -/
theorem jk_joinB {b : Nat} {o : Obj} {γ : PH} {H1 H' : List PH} (t1 : Take (sng b o) H H1) (t2 : Take γ H1 H') (h : γ b = none → JK C D R (updP γ b o :: H') L K) : JK C D R H L K := by
  refine ⟨fun a w hf hd hs => ?_⟩
  have s1 := hs.take t1
  have s2 := s1.tail.take t2
  have hp1 := List.pairwise_cons.1 s1.hd
  have hp2 := List.pairwise_cons.1 s2.hd
  have hdj : (sng b o).disj γ := hp1.1 γ t2.mem
  have hγ : γ b = none := by
    rcases hdj b with h | h
    · simp [sng_self] at h
    · exact h
  have hle : (sng b o).le w := s1.h _ (by simp)
  have hsub : ∀ ρ ∈ H', ρ ∈ H1 := fun ρ hr => t2.sub ρ hr
  have dju : ∀ ρ : PH, ρ.disj (sng b o) → ρ.disj γ → ρ.disj (updP γ b o) := fun ρ d1 d2 k => by
    by_cases e : k = b
    · subst e
      rcases d1 k with h | h
      · exact .inl h
      · simp [sng_self] at h
    · rw [updP_other γ o e]; exact d2 k
  refine (h hγ).run a w hf hd ⟨hs.sz, hs.r, fun ρ hr => ?_, List.pairwise_cons.2 ⟨fun ρ hr => ?_, hp2.2⟩, fun ρ hr σ hσ => ?_⟩
  · simp at hr
    rcases hr with rfl | hr
    · intro k ob hk
      by_cases e : k = b
      · subst e
        rw [updP_same] at hk
        exact hle k ob (by rw [← hk]; exact sng_self k o)
      · rw [updP_other γ o e] at hk
        exact s2.h γ (by simp) k ob hk
    · exact s2.h ρ (by simp [hr])
  · exact (dju ρ (hp1.1 ρ (hsub ρ hr)).symm (hp2.1 ρ hr).symm).symm
  · simp at hσ
    rcases hσ with rfl | hσ
    · exact dju ρ (s1.rd ρ hr _ (by simp)) (s2.rd ρ hr γ (by simp))
    · exact s2.rd ρ hr σ (by simp [hσ])
/-- rows of numbers, each in its block -/
structure Tab (tI : TypeId) (γ : PH) (bs : List Nat) (rows : List (List Int)) : Prop where
  len : bs.length = rows.length
  nd : bs.Nodup
  row : ∀ (i b : Nat) (r : List Int), bs[i]? = some b → rows[i]? = some r → γ b = some (.cells (ints r) tI (0, 0))
theorem Tab.nil (tI : TypeId) (γ : PH) : Tab tI γ [] [] := ⟨rfl, by simp, fun i b r h => by simp at h⟩
theorem Tab.add {tI : TypeId} {γ : PH} {bs : List Nat} {rows : List (List Int)} (h : Tab tI γ bs rows) {b : Nat} {r : List Int} (hb : γ b = none) : Tab tI (updP γ b (.cells (ints r) tI (0, 0))) (bs ++ [b]) (rows ++ [r]) := by
  have hne : ∀ i b', bs[i]? = some b' → b' ≠ b := fun i b' hi e => by
    subst e
    obtain ⟨hlt, _⟩ := List.getElem?_eq_some_iff.1 hi
    have := h.row i b' _ hi (List.getElem?_eq_getElem (by rw [← h.len]; exact hlt))
    rw [hb] at this; simp at this
  refine ⟨by simp [h.len], ?_, fun i b' r' hi hr => ?_⟩
  · rw [List.nodup_append]
    refine ⟨h.nd, by simp, fun x hx y hy => ?_⟩
    simp only [List.mem_singleton] at hy
    subst hy
    obtain ⟨i, hi, rfl⟩ := List.getElem_of_mem hx
    exact hne i _ (List.getElem?_eq_getElem hi)
  · by_cases c : i < bs.length
    · rw [List.getElem?_append_left c] at hi
      rw [List.getElem?_append_left (by rw [← h.len]; exact c)] at hr
      rw [updP_other γ _ (hne i b' hi)]
      exact h.row i b' r' hi hr
    · have hl := h.len
      by_cases e : i = bs.length
      · subst e
        simp at hi
        rw [hl] at hr
        simp at hr
        subst hi hr
        exact updP_same ..
      · rw [List.getElem?_eq_none (by simp; omega)] at hi
        simp at hi
theorem Tab.set {tI : TypeId} {γ : PH} {bs : List Nat} {rows : List (List Int)} (h : Tab tI γ bs rows) {i b : Nat} {r r2 : List Int} (hb : bs[i]? = some b) (hr : rows[i]? = some r) : Tab tI (updP γ b (.cells (ints r2) tI (0, 0))) bs (rows.set i r2) := by
  refine ⟨by simp [h.len], h.nd, fun j b' r' hj hr' => ?_⟩
  by_cases e : j = i
  · subst e
    rw [hb] at hj
    obtain rfl := Option.some.inj hj
    have hlt := (List.getElem?_eq_some_iff.1 hr).1
    rw [List.getElem?_set_self hlt] at hr'
    obtain rfl := Option.some.inj hr'
    exact updP_same ..
  · rw [List.getElem?_set_ne (Ne.symm e)] at hr'
    have hne : b' ≠ b := fun e2 => by
      subst e2
      obtain ⟨h1, h2⟩ := List.getElem?_eq_some_iff.1 hj
      obtain ⟨h3, h4⟩ := List.getElem?_eq_some_iff.1 hb
      exact e ((List.getElem_inj h.nd).1 (by rw [h2, h4]))
    rw [updP_other γ _ hne]
    exact h.row j b' r' hj hr'
theorem Tab.cell {tI : TypeId} {γ : PH} {bs : List Nat} {rows : List (List Int)} (h : Tab tI γ bs rows) {i b k : Nat} {r : List Int} {x : Int} (hb : bs[i]? = some b) (hr : rows[i]? = some r) (hx : r[k]? = some x) : rdc γ b k = some (int x) := by
  have := h.row i b r hb hr
  obtain ⟨hk, rfl⟩ := List.getElem?_eq_some_iff.1 hx
  unfold rdc
  rw [this]
  exact ints_get hk
theorem Tab.ints {tI : TypeId} {γ : PH} {bs : List Nat} {rows : List (List Int)} (h : Tab tI γ bs rows) {i b : Nat} {r : List Int} {c : Nat} (hb : bs[i]? = some b) (hr : rows[i]? = some r) : IntsAt γ (.slice (some ⟨b, 0, none⟩) r.length c) r := by
  refine ⟨by rw [flat_len encI_len], .inr ⟨b, 0, c, rfl, fun j u hu => ?_⟩⟩
  have e : r.flatMap encI = r.map int := by
    clear hu hr
    induction r <;> simp_all [encI]
  rw [e] at hu
  have := h.row i b r hb hr
  unfold rdc
  rw [this, Nat.zero_add]
  show (Eng.ints r)[j]? = some u
  simpa [Eng.ints] using hu
/-- the cells of the outer slice -/
def rowsV (n : Nat) (bs : List Nat) : List Value := bs.map (fun b => .slice (some ⟨b, 0, none⟩) n n)
end Go.Eng
