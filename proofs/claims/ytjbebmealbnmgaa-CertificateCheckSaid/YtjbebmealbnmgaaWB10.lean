/- Texts of this proof, one after the other; no conditions. -/
import Derived.Test.YtjbebmealbnmgaaWB9
import Derived.Test.YtjbebmealbnmgaaWB3
import Derived.Test.YtjbebmealbnmgaaWB2
set_option linter.all false
/- Stocks, of the reference. -/
namespace Go.Proofs.Ytjbebmealbnmgaa
open Go.Eng Go.Step
set_option maxRecDepth 100000
set_option maxHeartbeats 4000000

set_option maxHeartbeats 32000000 in
theorem refStock_spec {ρ τ σ υ : PH} (ω : PH) {pq pc pb ph : Option Addr} {kq kc kb kh : Nat} {qs : List Int} {cs : List Ct} {bs : List Bk} {hs : List Hd} (hT : TbAt ρ τ σ υ pq pc pb ph kq kc kb kh qs cs bs hs) (d : Dm) (v : Value) (l : List Sh) (n t : Int) (hv : ShAt ω v l) (hS : ∀ x ∈ l, ship1 cs bs d x = 0) (hcs : ∀ c ∈ cs, chkCt c = 0) (hd : 0 ≤ d.r) (hll : l.length ≤ 1000000) :
    Ans Try.prog (fv 26) [.agg #[.slice pq qs.length kq, .slice pc cs.length kc, .slice pb bs.length kb, .slice ph hs.length kh], .agg #[int d.s, int d.d, int d.v, int d.r, int d.e], v, int n, int t] [ρ, τ, σ, υ, ω] (fun r => r = int (stock cs d n t l)) := by
  obtain ⟨q, cc, rfl, hr⟩ := hv.val encX_len
  have hbdx : ∀ x ∈ l, 0 ≤ x.n ∧ x.n ≤ 1000 := fun x hx => by
    obtain ⟨nn, c, _, h2, _, h4, _⟩ := ship1_ok (hS x hx)
    have := (chkCt_all (hcs c (List.mem_of_getElem? h2))).2.2.2.1
    omega
  refine spec_in (cap := []) Try.func26 rfl rfl Try.ntmps26 rfl (by (repeat (first | exact EnvA.nil EnvI.nil | apply EnvA.cons | apply EnvA.nil | exact EnvI.nil | apply EnvI.cons)); first | done | fail) (fun N β => ?_)
  refine jk_seq ?_
  refine jk_region ?_
  refine jk_op (l_boxS rfl) rfl rfl rfl ?_
  rintro _ _ ⟨b1, rfl, rfl⟩
  refine jk_freeze (ρ := sng b1 _) takeZ ?_
  have ct : RdN (sng b1 (.cells #[.slice pq qs.length kq, .slice pc cs.length kc, .slice pb bs.length kb, .slice ph hs.length kh] 29 (0, 0))) b1 0 [.slice pq qs.length kq, .slice pc cs.length kc, .slice pb bs.length kb, .slice ph hs.length kh] := rdN_sng (vs := [.slice pq qs.length kq, .slice pc cs.length kc, .slice pb bs.length kb, .slice ph hs.length kh])
  have ct0 : rdc (sng b1 (.cells #[.slice pq qs.length kq, .slice pc cs.length kc, .slice pb bs.length kb, .slice ph hs.length kh] 29 (0, 0))) b1 0 = some (.slice pq qs.length kq) := by rw [rdc_sng]; rfl
  have ct1 : rdc (sng b1 (.cells #[.slice pq qs.length kq, .slice pc cs.length kc, .slice pb bs.length kb, .slice ph hs.length kh] 29 (0, 0))) b1 1 = some (.slice pc cs.length kc) := by rw [rdc_sng]; rfl
  have ct2 : rdc (sng b1 (.cells #[.slice pq qs.length kq, .slice pc cs.length kc, .slice pb bs.length kb, .slice ph hs.length kh] 29 (0, 0))) b1 2 = some (.slice pb bs.length kb) := by rw [rdc_sng]; rfl
  have ct3 : rdc (sng b1 (.cells #[.slice pq qs.length kq, .slice pc cs.length kc, .slice pb bs.length kb, .slice ph hs.length kh] 29 (0, 0))) b1 3 = some (.slice ph hs.length kh) := by rw [rdc_sng]; rfl
  have ctp : RdP (sng b1 (.cells #[.slice pq qs.length kq, .slice pc cs.length kc, .slice pb bs.length kb, .slice ph hs.length kh] 29 (0, 0))) b1 0 [.slice pq qs.length kq, .slice pc cs.length kc] := rdP_sng (xs := [.slice pq qs.length kq, .slice pc cs.length kc, .slice pb bs.length kb, .slice ph hs.length kh]) rfl
  refine jk_op (l_boxS rfl) rfl rfl rfl ?_
  rintro _ _ ⟨b2, rfl, rfl⟩
  refine jk_freeze (ρ := sng b2 _) takeZ ?_
  have cd : RdN (sng b2 (.cells #[int d.s, int d.d, int d.v, int d.r, int d.e] 31 (0, 0))) b2 0 [int d.s, int d.d, int d.v, int d.r, int d.e] := rdN_sng (vs := [int d.s, int d.d, int d.v, int d.r, int d.e])
  have cd0 : rdc (sng b2 (.cells #[int d.s, int d.d, int d.v, int d.r, int d.e] 31 (0, 0))) b2 0 = some (int d.s) := by rw [rdc_sng]; rfl
  have cd1 : rdc (sng b2 (.cells #[int d.s, int d.d, int d.v, int d.r, int d.e] 31 (0, 0))) b2 1 = some (int d.d) := by rw [rdc_sng]; rfl
  have cd2 : rdc (sng b2 (.cells #[int d.s, int d.d, int d.v, int d.r, int d.e] 31 (0, 0))) b2 2 = some (int d.v) := by rw [rdc_sng]; rfl
  have cd3 : rdc (sng b2 (.cells #[int d.s, int d.d, int d.v, int d.r, int d.e] 31 (0, 0))) b2 3 = some (int d.r) := by rw [rdc_sng]; rfl
  have cd4 : rdc (sng b2 (.cells #[int d.s, int d.d, int d.v, int d.r, int d.e] 31 (0, 0))) b2 4 = some (int d.e) := by rw [rdc_sng]; rfl
  refine zq_assign ?_
  refine jk_nil ?_
  refine jk_seq ?_
  refine jk_region ?_
  refine zq_assign ?_
  refine jk_nil ?_
  refine jk_seq ?_
  refine jk_seq ?_
  refine jk_region ?_
  refine zq_assign ?_
  refine jk_nil ?_
  refine jk_block ?_
  refine jk_loop [2, 3, 4, 5, 6] (0 : Nat) (fun k => k ≤ l.length) (fun k => [(12, int k), (11, int (stock cs d n t (l.take k)))]) (fun _ => []) (fun k => l.length - k) pickZ (by omega) covZ selZ ?_
  intro k hk
  by_cases hlt : k < l.length
  · have hx := List.getElem?_eq_getElem hlt
    have hn := stock_next cs d n t hx
    have hb := stock_bd cs d n t (l.take k) (fun x hx => hbdx x (List.mem_of_mem_take hx))
    rw [List.length_take, Nat.min_eq_left hk] at hb
    have hbx := hbdx _ (List.getElem_mem hlt)
    obtain ⟨nn, c, hnn, hcx, hct, hin, hlate, har⟩ := ship1_ok (hS _ (List.getElem_mem hlt))
    obtain ⟨b5, o5, rfl, hrx, x0, x1, x2⟩ := shRow hr hx
    have hck := chkCt_all (hcs c (List.mem_of_getElem? hcx))
    have hnl := (List.getElem?_eq_some_iff.1 hcx).1
    have harr2 := arrives_spec hT nn c l[k].t hcx ⟨by omega, by omega⟩ ⟨by omega, by omega⟩
    unfold stk1 at hn
    rw [hct, har] at hn
    rw [hnn] at hrx x0
    generalize l[k] = x at hrx x0 x1 x2 hin hlate hn harr2 hbx
    generalize stock cs d n t (l.take k) = S at hn hb
    obtain ⟨b4, o4, rfl, hrd⟩ := ctRow hT.rc hcx
    refine jk_seq ?_
    refine jk_seq ?_
    refine jk_region ?_
    refine zq_move ?_
    refine zq_move ?_
    refine zq_len ?_
    refine zq_lt ?_
    refine jk_nil ?_
    refine jk_if_t rfl ?_
    refine jk_skip ?_
    refine jk_seq ?_
    refine jk_block ?_
    refine jk_seq ?_
    refine jk_draw (.q 0 (.q 1 (.q 2 (.q 3 (.q 4 (.q 5 (.q 6 (.q 7 (.q 8 (.q 9 (.l 10 .e (.l 11 .b .nil)))))))))))) [] rfl (by kernel_rfl) Sel.nil ?_
    refine zd_fld0 ?_
    refine zd_fld0 ?_
    refine zd_load ?_
    refine zd_move ?_
    refine zd_move ?_
    refine zd_idxN ?_
    refine zd_fldZ ?_
    refine zd_load ?_
    refine zd_idxN ?_
    refine zd_loadS ?_
    refine ze_allocS ?_; rintro _ _ ⟨b, rfl, rfl⟩
    focus ((refine dj_l ?_; refine' a_bn rfl _ rfl rfl _ _; rotate_left; (apply l_storeS; exact rfl; exact rfl; exact takeZ; exact (by (repeat (first | exact (fun v hv => absurd hv List.not_mem_nil) | (refine List.forall_mem_cons.2 ⟨?_, ?_⟩; (focus (first | exact rfl | assumption))))); first | done | fail); exact rfl; exact rfl); (focus (rintro _ _ ⟨_, rfl⟩ w hw; exact hw.sel Sel.nil)); rintro _ _ ⟨rfl, rfl⟩))
    refine dj_end ?_
    refine jk_seq ?_
    refine jk_draw (.q 0 (.q 1 (.q 2 (.q 3 (.q 4 (.q 5 (.q 6 (.q 7 (.q 8 (.q 9 (.q 10 (.l 11 .e (.q 12 .nil))))))))))))) [] rfl (by kernel_rfl) Sel.nil ?_
    refine zd_loadS ?_
    refine zd_move ?_
    refine zd_move ?_
    refine zd_idxN ?_
    refine zd_fldZ ?_
    refine zd_load ?_
    refine zd_move ?_
    refine zd_move ?_
    refine zd_idxN ?_
    refine zd_fld ?_
    refine zd_load ?_
    refine dj_l (a_call rfl harr2 rfl rfl rdZ rfl rfl ?_)
    rintro _ rfl
    refine zd_assign ?_
    refine dj_end ?_
    by_cases hns : n = d.s
    · rw [if_pos hns] at hn
      by_cases a1 : c.f = n
      · by_cases a2 : t < x.t
        · skip
          by_cases b1 : c.t = n
          · by_cases b2 : t < x.t + 1 + c.g
            · rw [if_pos (⟨a1, a2⟩ : c.f = n ∧ t < x.t), if_pos (⟨b1, b2⟩ : c.t = n ∧ t < x.t + 1 + c.g)] at hn
              refine jk_seq ?_
              refine jk_seq ?_
              refine jk_region ?_
              refine zq_move ?_
              refine zq_fld0 ?_
              refine zq_load ?_
              refine zq_eq ?_
              refine jk_nil ?_
              refine jk_if_t rfl ?_
              refine jk_seq ?_
              refine jk_seq ?_
              refine jk_region ?_
              refine zq_fld0 ?_
              refine zq_load ?_
              refine zq_move ?_
              refine zq_eq ?_
              refine zq_move ?_
              refine zq_move ?_
              refine zq_move ?_
              refine zq_idxN ?_
              refine zq_fld ?_
              refine zq_load ?_
              refine zq_move ?_
              refine zq_gt ?_
              refine zq_pick_t ?_
              refine jk_nil ?_
              refine jk_if_t rfl ?_
              refine jk_region ?_
              refine zq_move ?_
              refine zq_move ?_
              refine zq_move ?_
              refine zq_idxN ?_
              refine zq_fld ?_
              refine zq_load ?_
              refine zq_add ?_
              refine zq_assign ?_
              refine jk_nil ?_
              refine jk_seq ?_
              refine jk_seq ?_
              refine jk_region ?_
              refine zq_fld0 ?_
              refine zq_load ?_
              refine zq_move ?_
              refine zq_eq ?_
              refine zq_move ?_
              refine zq_move ?_
              refine zq_move ?_
              refine zq_gt ?_
              refine zq_pick_t ?_
              refine jk_nil ?_
              refine jk_if_t rfl ?_
              refine jk_region ?_
              refine zq_move ?_
              refine zq_move ?_
              refine zq_move ?_
              refine zq_idxN ?_
              refine zq_fld ?_
              refine zq_load ?_
              refine zq_sub ?_
              refine zq_assign ?_
              refine jk_nil ?_
              refine jk_exit rfl ?_
              refine jk_region ?_
              refine zq_move ?_
              refine zq_inc ?_
              refine zq_assign ?_
              refine jk_nil ?_
              refine jk_round (k + 1) (by omega) (by omega) ?_ selZ
              rw [hn, show S + (x.n - x.n) = S + x.n - x.n by omega]
              exact covZ
            · exfalso; omega
          · rw [if_pos (⟨a1, a2⟩ : c.f = n ∧ t < x.t), if_neg (fun h : c.t = n ∧ t < x.t + 1 + c.g => b1 h.1)] at hn
            refine jk_seq ?_
            refine jk_seq ?_
            refine jk_region ?_
            refine zq_move ?_
            refine zq_fld0 ?_
            refine zq_load ?_
            refine zq_eq ?_
            refine jk_nil ?_
            refine jk_if_t rfl ?_
            refine jk_seq ?_
            refine jk_seq ?_
            refine jk_region ?_
            refine zq_fld0 ?_
            refine zq_load ?_
            refine zq_move ?_
            refine zq_eq ?_
            refine zq_move ?_
            refine zq_move ?_
            refine zq_move ?_
            refine zq_idxN ?_
            refine zq_fld ?_
            refine zq_load ?_
            refine zq_move ?_
            refine zq_gt ?_
            refine zq_pick_t ?_
            refine jk_nil ?_
            refine jk_if_t rfl ?_
            refine jk_region ?_
            refine zq_move ?_
            refine zq_move ?_
            refine zq_move ?_
            refine zq_idxN ?_
            refine zq_fld ?_
            refine zq_load ?_
            refine zq_add ?_
            refine zq_assign ?_
            refine jk_nil ?_
            refine jk_seq ?_
            refine jk_seq ?_
            refine jk_region ?_
            refine zq_fld0 ?_
            refine zq_load ?_
            refine zq_move ?_
            refine zq_eqF ?_
            refine zq_move ?_
            refine jk_pass rfl rfl rfl ?_
            refine jk_pass rfl rfl rfl ?_
            refine jk_pass rfl rfl rfl ?_
            refine zq_pick_f ?_
            refine jk_nil ?_
            refine jk_if_f rfl ?_
            refine jk_skip ?_
            refine jk_exit rfl ?_
            refine jk_region ?_
            refine zq_move ?_
            refine zq_inc ?_
            refine zq_assign ?_
            refine jk_nil ?_
            refine jk_round (k + 1) (by omega) (by omega) ?_ selZ
            rw [hn, show S + (x.n - 0) = S + x.n by omega]
            exact covZ
        · skip
          by_cases b1 : c.t = n
          · by_cases b2 : t < x.t + 1 + c.g
            · rw [if_neg (fun h : c.f = n ∧ t < x.t => a2 h.2), if_pos (⟨b1, b2⟩ : c.t = n ∧ t < x.t + 1 + c.g)] at hn
              refine jk_seq ?_
              refine jk_seq ?_
              refine jk_region ?_
              refine zq_move ?_
              refine zq_fld0 ?_
              refine zq_load ?_
              refine zq_eq ?_
              refine jk_nil ?_
              refine jk_if_t rfl ?_
              refine jk_seq ?_
              refine jk_seq ?_
              refine jk_region ?_
              refine zq_fld0 ?_
              refine zq_load ?_
              refine zq_move ?_
              refine zq_eq ?_
              refine zq_move ?_
              refine zq_move ?_
              refine zq_move ?_
              refine zq_idxN ?_
              refine zq_fld ?_
              refine zq_load ?_
              refine zq_move ?_
              refine zq_gtF ?_
              refine zq_pick_t ?_
              refine jk_nil ?_
              refine jk_if_f rfl ?_
              refine jk_skip ?_
              refine jk_seq ?_
              refine jk_seq ?_
              refine jk_region ?_
              refine zq_fld0 ?_
              refine zq_load ?_
              refine zq_move ?_
              refine zq_eq ?_
              refine zq_move ?_
              refine zq_move ?_
              refine zq_move ?_
              refine zq_gt ?_
              refine zq_pick_t ?_
              refine jk_nil ?_
              refine jk_if_t rfl ?_
              refine jk_region ?_
              refine zq_move ?_
              refine zq_move ?_
              refine zq_move ?_
              refine zq_idxN ?_
              refine zq_fld ?_
              refine zq_load ?_
              refine zq_sub ?_
              refine zq_assign ?_
              refine jk_nil ?_
              refine jk_exit rfl ?_
              refine jk_region ?_
              refine zq_move ?_
              refine zq_inc ?_
              refine zq_assign ?_
              refine jk_nil ?_
              refine jk_round (k + 1) (by omega) (by omega) ?_ selZ
              rw [hn, show S + (0 - x.n) = S - x.n by omega]
              exact covZ
            · rw [if_neg (fun h : c.f = n ∧ t < x.t => a2 h.2), if_neg (fun h : c.t = n ∧ t < x.t + 1 + c.g => b2 h.2)] at hn
              refine jk_seq ?_
              refine jk_seq ?_
              refine jk_region ?_
              refine zq_move ?_
              refine zq_fld0 ?_
              refine zq_load ?_
              refine zq_eq ?_
              refine jk_nil ?_
              refine jk_if_t rfl ?_
              refine jk_seq ?_
              refine jk_seq ?_
              refine jk_region ?_
              refine zq_fld0 ?_
              refine zq_load ?_
              refine zq_move ?_
              refine zq_eq ?_
              refine zq_move ?_
              refine zq_move ?_
              refine zq_move ?_
              refine zq_idxN ?_
              refine zq_fld ?_
              refine zq_load ?_
              refine zq_move ?_
              refine zq_gtF ?_
              refine zq_pick_t ?_
              refine jk_nil ?_
              refine jk_if_f rfl ?_
              refine jk_skip ?_
              refine jk_seq ?_
              refine jk_seq ?_
              refine jk_region ?_
              refine zq_fld0 ?_
              refine zq_load ?_
              refine zq_move ?_
              refine zq_eq ?_
              refine zq_move ?_
              refine zq_move ?_
              refine zq_move ?_
              refine zq_gtF ?_
              refine zq_pick_t ?_
              refine jk_nil ?_
              refine jk_if_f rfl ?_
              refine jk_skip ?_
              refine jk_exit rfl ?_
              refine jk_region ?_
              refine zq_move ?_
              refine zq_inc ?_
              refine zq_assign ?_
              refine jk_nil ?_
              refine jk_round (k + 1) (by omega) (by omega) ?_ selZ
              rw [hn, show S + (0 - 0) = S by omega]
              exact covZ
          · rw [if_neg (fun h : c.f = n ∧ t < x.t => a2 h.2), if_neg (fun h : c.t = n ∧ t < x.t + 1 + c.g => b1 h.1)] at hn
            refine jk_seq ?_
            refine jk_seq ?_
            refine jk_region ?_
            refine zq_move ?_
            refine zq_fld0 ?_
            refine zq_load ?_
            refine zq_eq ?_
            refine jk_nil ?_
            refine jk_if_t rfl ?_
            refine jk_seq ?_
            refine jk_seq ?_
            refine jk_region ?_
            refine zq_fld0 ?_
            refine zq_load ?_
            refine zq_move ?_
            refine zq_eq ?_
            refine zq_move ?_
            refine zq_move ?_
            refine zq_move ?_
            refine zq_idxN ?_
            refine zq_fld ?_
            refine zq_load ?_
            refine zq_move ?_
            refine zq_gtF ?_
            refine zq_pick_t ?_
            refine jk_nil ?_
            refine jk_if_f rfl ?_
            refine jk_skip ?_
            refine jk_seq ?_
            refine jk_seq ?_
            refine jk_region ?_
            refine zq_fld0 ?_
            refine zq_load ?_
            refine zq_move ?_
            refine zq_eqF ?_
            refine zq_move ?_
            refine jk_pass rfl rfl rfl ?_
            refine jk_pass rfl rfl rfl ?_
            refine jk_pass rfl rfl rfl ?_
            refine zq_pick_f ?_
            refine jk_nil ?_
            refine jk_if_f rfl ?_
            refine jk_skip ?_
            refine jk_exit rfl ?_
            refine jk_region ?_
            refine zq_move ?_
            refine zq_inc ?_
            refine zq_assign ?_
            refine jk_nil ?_
            refine jk_round (k + 1) (by omega) (by omega) ?_ selZ
            rw [hn, show S + (0 - 0) = S by omega]
            exact covZ
      · skip
        by_cases b1 : c.t = n
        · by_cases b2 : t < x.t + 1 + c.g
          · rw [if_neg (fun h : c.f = n ∧ t < x.t => a1 h.1), if_pos (⟨b1, b2⟩ : c.t = n ∧ t < x.t + 1 + c.g)] at hn
            refine jk_seq ?_
            refine jk_seq ?_
            refine jk_region ?_
            refine zq_move ?_
            refine zq_fld0 ?_
            refine zq_load ?_
            refine zq_eq ?_
            refine jk_nil ?_
            refine jk_if_t rfl ?_
            refine jk_seq ?_
            refine jk_seq ?_
            refine jk_region ?_
            refine zq_fld0 ?_
            refine zq_load ?_
            refine zq_move ?_
            refine zq_eqF ?_
            refine zq_move ?_
            refine jk_pass rfl rfl rfl ?_
            refine jk_pass rfl rfl rfl ?_
            refine jk_pass rfl rfl rfl ?_
            refine jk_pass rfl rfl rfl ?_
            refine jk_pass rfl rfl rfl ?_
            refine jk_pass rfl rfl rfl ?_
            refine jk_pass rfl rfl rfl ?_
            refine zq_pick_f ?_
            refine jk_nil ?_
            refine jk_if_f rfl ?_
            refine jk_skip ?_
            refine jk_seq ?_
            refine jk_seq ?_
            refine jk_region ?_
            refine zq_fld0 ?_
            refine zq_load ?_
            refine zq_move ?_
            refine zq_eq ?_
            refine zq_move ?_
            refine zq_move ?_
            refine zq_move ?_
            refine zq_gt ?_
            refine zq_pick_t ?_
            refine jk_nil ?_
            refine jk_if_t rfl ?_
            refine jk_region ?_
            refine zq_move ?_
            refine zq_move ?_
            refine zq_move ?_
            refine zq_idxN ?_
            refine zq_fld ?_
            refine zq_load ?_
            refine zq_sub ?_
            refine zq_assign ?_
            refine jk_nil ?_
            refine jk_exit rfl ?_
            refine jk_region ?_
            refine zq_move ?_
            refine zq_inc ?_
            refine zq_assign ?_
            refine jk_nil ?_
            refine jk_round (k + 1) (by omega) (by omega) ?_ selZ
            rw [hn, show S + (0 - x.n) = S - x.n by omega]
            exact covZ
          · rw [if_neg (fun h : c.f = n ∧ t < x.t => a1 h.1), if_neg (fun h : c.t = n ∧ t < x.t + 1 + c.g => b2 h.2)] at hn
            refine jk_seq ?_
            refine jk_seq ?_
            refine jk_region ?_
            refine zq_move ?_
            refine zq_fld0 ?_
            refine zq_load ?_
            refine zq_eq ?_
            refine jk_nil ?_
            refine jk_if_t rfl ?_
            refine jk_seq ?_
            refine jk_seq ?_
            refine jk_region ?_
            refine zq_fld0 ?_
            refine zq_load ?_
            refine zq_move ?_
            refine zq_eqF ?_
            refine zq_move ?_
            refine jk_pass rfl rfl rfl ?_
            refine jk_pass rfl rfl rfl ?_
            refine jk_pass rfl rfl rfl ?_
            refine jk_pass rfl rfl rfl ?_
            refine jk_pass rfl rfl rfl ?_
            refine jk_pass rfl rfl rfl ?_
            refine jk_pass rfl rfl rfl ?_
            refine zq_pick_f ?_
            refine jk_nil ?_
            refine jk_if_f rfl ?_
            refine jk_skip ?_
            refine jk_seq ?_
            refine jk_seq ?_
            refine jk_region ?_
            refine zq_fld0 ?_
            refine zq_load ?_
            refine zq_move ?_
            refine zq_eq ?_
            refine zq_move ?_
            refine zq_move ?_
            refine zq_move ?_
            refine zq_gtF ?_
            refine zq_pick_t ?_
            refine jk_nil ?_
            refine jk_if_f rfl ?_
            refine jk_skip ?_
            refine jk_exit rfl ?_
            refine jk_region ?_
            refine zq_move ?_
            refine zq_inc ?_
            refine zq_assign ?_
            refine jk_nil ?_
            refine jk_round (k + 1) (by omega) (by omega) ?_ selZ
            rw [hn, show S + (0 - 0) = S by omega]
            exact covZ
        · rw [if_neg (fun h : c.f = n ∧ t < x.t => a1 h.1), if_neg (fun h : c.t = n ∧ t < x.t + 1 + c.g => b1 h.1)] at hn
          refine jk_seq ?_
          refine jk_seq ?_
          refine jk_region ?_
          refine zq_move ?_
          refine zq_fld0 ?_
          refine zq_load ?_
          refine zq_eq ?_
          refine jk_nil ?_
          refine jk_if_t rfl ?_
          refine jk_seq ?_
          refine jk_seq ?_
          refine jk_region ?_
          refine zq_fld0 ?_
          refine zq_load ?_
          refine zq_move ?_
          refine zq_eqF ?_
          refine zq_move ?_
          refine jk_pass rfl rfl rfl ?_
          refine jk_pass rfl rfl rfl ?_
          refine jk_pass rfl rfl rfl ?_
          refine jk_pass rfl rfl rfl ?_
          refine jk_pass rfl rfl rfl ?_
          refine jk_pass rfl rfl rfl ?_
          refine jk_pass rfl rfl rfl ?_
          refine zq_pick_f ?_
          refine jk_nil ?_
          refine jk_if_f rfl ?_
          refine jk_skip ?_
          refine jk_seq ?_
          refine jk_seq ?_
          refine jk_region ?_
          refine zq_fld0 ?_
          refine zq_load ?_
          refine zq_move ?_
          refine zq_eqF ?_
          refine zq_move ?_
          refine jk_pass rfl rfl rfl ?_
          refine jk_pass rfl rfl rfl ?_
          refine jk_pass rfl rfl rfl ?_
          refine zq_pick_f ?_
          refine jk_nil ?_
          refine jk_if_f rfl ?_
          refine jk_skip ?_
          refine jk_exit rfl ?_
          refine jk_region ?_
          refine zq_move ?_
          refine zq_inc ?_
          refine zq_assign ?_
          refine jk_nil ?_
          refine jk_round (k + 1) (by omega) (by omega) ?_ selZ
          rw [hn, show S + (0 - 0) = S by omega]
          exact covZ
    · rw [if_neg hns] at hn
      by_cases a1 : c.t = n
      · by_cases a2 : x.t + 1 + c.g ≤ t
        · skip
          by_cases b1 : c.f = n
          · by_cases b2 : x.t ≤ t
            · rw [if_pos (⟨a1, a2⟩ : c.t = n ∧ x.t + 1 + c.g ≤ t), if_pos (⟨b1, b2⟩ : c.f = n ∧ x.t ≤ t)] at hn
              refine jk_seq ?_
              refine jk_seq ?_
              refine jk_region ?_
              refine zq_move ?_
              refine zq_fld0 ?_
              refine zq_load ?_
              refine zq_eqF ?_
              refine jk_nil ?_
              refine jk_if_f rfl ?_
              refine jk_skip ?_
              refine jk_seq ?_
              refine jk_seq ?_
              refine jk_region ?_
              refine zq_fld0 ?_
              refine zq_load ?_
              refine zq_move ?_
              refine zq_eq ?_
              refine zq_move ?_
              refine zq_move ?_
              refine zq_move ?_
              refine zq_le ?_
              refine zq_pick_t ?_
              refine jk_nil ?_
              refine jk_if_t rfl ?_
              refine jk_region ?_
              refine zq_move ?_
              refine zq_move ?_
              refine zq_move ?_
              refine zq_idxN ?_
              refine zq_fld ?_
              refine zq_load ?_
              refine zq_add ?_
              refine zq_assign ?_
              refine jk_nil ?_
              refine jk_seq ?_
              refine jk_region ?_
              refine zq_fld0 ?_
              refine zq_load ?_
              refine zq_move ?_
              refine zq_eq ?_
              refine zq_move ?_
              refine zq_move ?_
              refine zq_move ?_
              refine zq_idxN ?_
              refine zq_fld ?_
              refine zq_load ?_
              refine zq_move ?_
              refine zq_le ?_
              refine zq_pick_t ?_
              refine jk_nil ?_
              refine jk_if_t rfl ?_
              refine jk_region ?_
              refine zq_move ?_
              refine zq_move ?_
              refine zq_move ?_
              refine zq_idxN ?_
              refine zq_fld ?_
              refine zq_load ?_
              refine zq_sub ?_
              refine zq_assign ?_
              refine jk_nil ?_
              refine jk_blk ?_
              refine jk_region ?_
              refine zq_move ?_
              refine zq_inc ?_
              refine zq_assign ?_
              refine jk_nil ?_
              refine jk_round (k + 1) (by omega) (by omega) ?_ selZ
              rw [hn, show S + (x.n - x.n) = S + x.n - x.n by omega]
              exact covZ
            · exfalso; omega
          · rw [if_pos (⟨a1, a2⟩ : c.t = n ∧ x.t + 1 + c.g ≤ t), if_neg (fun h : c.f = n ∧ x.t ≤ t => b1 h.1)] at hn
            refine jk_seq ?_
            refine jk_seq ?_
            refine jk_region ?_
            refine zq_move ?_
            refine zq_fld0 ?_
            refine zq_load ?_
            refine zq_eqF ?_
            refine jk_nil ?_
            refine jk_if_f rfl ?_
            refine jk_skip ?_
            refine jk_seq ?_
            refine jk_seq ?_
            refine jk_region ?_
            refine zq_fld0 ?_
            refine zq_load ?_
            refine zq_move ?_
            refine zq_eq ?_
            refine zq_move ?_
            refine zq_move ?_
            refine zq_move ?_
            refine zq_le ?_
            refine zq_pick_t ?_
            refine jk_nil ?_
            refine jk_if_t rfl ?_
            refine jk_region ?_
            refine zq_move ?_
            refine zq_move ?_
            refine zq_move ?_
            refine zq_idxN ?_
            refine zq_fld ?_
            refine zq_load ?_
            refine zq_add ?_
            refine zq_assign ?_
            refine jk_nil ?_
            refine jk_seq ?_
            refine jk_region ?_
            refine zq_fld0 ?_
            refine zq_load ?_
            refine zq_move ?_
            refine zq_eqF ?_
            refine zq_move ?_
            refine jk_pass rfl rfl rfl ?_
            refine jk_pass rfl rfl rfl ?_
            refine jk_pass rfl rfl rfl ?_
            refine jk_pass rfl rfl rfl ?_
            refine jk_pass rfl rfl rfl ?_
            refine jk_pass rfl rfl rfl ?_
            refine jk_pass rfl rfl rfl ?_
            refine zq_pick_f ?_
            refine jk_nil ?_
            refine jk_if_f rfl ?_
            refine jk_skip ?_
            refine jk_blk ?_
            refine jk_region ?_
            refine zq_move ?_
            refine zq_inc ?_
            refine zq_assign ?_
            refine jk_nil ?_
            refine jk_round (k + 1) (by omega) (by omega) ?_ selZ
            rw [hn, show S + (x.n - 0) = S + x.n by omega]
            exact covZ
        · skip
          by_cases b1 : c.f = n
          · by_cases b2 : x.t ≤ t
            · rw [if_neg (fun h : c.t = n ∧ x.t + 1 + c.g ≤ t => a2 h.2), if_pos (⟨b1, b2⟩ : c.f = n ∧ x.t ≤ t)] at hn
              refine jk_seq ?_
              refine jk_seq ?_
              refine jk_region ?_
              refine zq_move ?_
              refine zq_fld0 ?_
              refine zq_load ?_
              refine zq_eqF ?_
              refine jk_nil ?_
              refine jk_if_f rfl ?_
              refine jk_skip ?_
              refine jk_seq ?_
              refine jk_seq ?_
              refine jk_region ?_
              refine zq_fld0 ?_
              refine zq_load ?_
              refine zq_move ?_
              refine zq_eq ?_
              refine zq_move ?_
              refine zq_move ?_
              refine zq_move ?_
              refine zq_leF ?_
              refine zq_pick_t ?_
              refine jk_nil ?_
              refine jk_if_f rfl ?_
              refine jk_skip ?_
              refine jk_seq ?_
              refine jk_region ?_
              refine zq_fld0 ?_
              refine zq_load ?_
              refine zq_move ?_
              refine zq_eq ?_
              refine zq_move ?_
              refine zq_move ?_
              refine zq_move ?_
              refine zq_idxN ?_
              refine zq_fld ?_
              refine zq_load ?_
              refine zq_move ?_
              refine zq_le ?_
              refine zq_pick_t ?_
              refine jk_nil ?_
              refine jk_if_t rfl ?_
              refine jk_region ?_
              refine zq_move ?_
              refine zq_move ?_
              refine zq_move ?_
              refine zq_idxN ?_
              refine zq_fld ?_
              refine zq_load ?_
              refine zq_sub ?_
              refine zq_assign ?_
              refine jk_nil ?_
              refine jk_blk ?_
              refine jk_region ?_
              refine zq_move ?_
              refine zq_inc ?_
              refine zq_assign ?_
              refine jk_nil ?_
              refine jk_round (k + 1) (by omega) (by omega) ?_ selZ
              rw [hn, show S + (0 - x.n) = S - x.n by omega]
              exact covZ
            · rw [if_neg (fun h : c.t = n ∧ x.t + 1 + c.g ≤ t => a2 h.2), if_neg (fun h : c.f = n ∧ x.t ≤ t => b2 h.2)] at hn
              refine jk_seq ?_
              refine jk_seq ?_
              refine jk_region ?_
              refine zq_move ?_
              refine zq_fld0 ?_
              refine zq_load ?_
              refine zq_eqF ?_
              refine jk_nil ?_
              refine jk_if_f rfl ?_
              refine jk_skip ?_
              refine jk_seq ?_
              refine jk_seq ?_
              refine jk_region ?_
              refine zq_fld0 ?_
              refine zq_load ?_
              refine zq_move ?_
              refine zq_eq ?_
              refine zq_move ?_
              refine zq_move ?_
              refine zq_move ?_
              refine zq_leF ?_
              refine zq_pick_t ?_
              refine jk_nil ?_
              refine jk_if_f rfl ?_
              refine jk_skip ?_
              refine jk_seq ?_
              refine jk_region ?_
              refine zq_fld0 ?_
              refine zq_load ?_
              refine zq_move ?_
              refine zq_eq ?_
              refine zq_move ?_
              refine zq_move ?_
              refine zq_move ?_
              refine zq_idxN ?_
              refine zq_fld ?_
              refine zq_load ?_
              refine zq_move ?_
              refine zq_leF ?_
              refine zq_pick_t ?_
              refine jk_nil ?_
              refine jk_if_f rfl ?_
              refine jk_skip ?_
              refine jk_blk ?_
              refine jk_region ?_
              refine zq_move ?_
              refine zq_inc ?_
              refine zq_assign ?_
              refine jk_nil ?_
              refine jk_round (k + 1) (by omega) (by omega) ?_ selZ
              rw [hn, show S + (0 - 0) = S by omega]
              exact covZ
          · rw [if_neg (fun h : c.t = n ∧ x.t + 1 + c.g ≤ t => a2 h.2), if_neg (fun h : c.f = n ∧ x.t ≤ t => b1 h.1)] at hn
            refine jk_seq ?_
            refine jk_seq ?_
            refine jk_region ?_
            refine zq_move ?_
            refine zq_fld0 ?_
            refine zq_load ?_
            refine zq_eqF ?_
            refine jk_nil ?_
            refine jk_if_f rfl ?_
            refine jk_skip ?_
            refine jk_seq ?_
            refine jk_seq ?_
            refine jk_region ?_
            refine zq_fld0 ?_
            refine zq_load ?_
            refine zq_move ?_
            refine zq_eq ?_
            refine zq_move ?_
            refine zq_move ?_
            refine zq_move ?_
            refine zq_leF ?_
            refine zq_pick_t ?_
            refine jk_nil ?_
            refine jk_if_f rfl ?_
            refine jk_skip ?_
            refine jk_seq ?_
            refine jk_region ?_
            refine zq_fld0 ?_
            refine zq_load ?_
            refine zq_move ?_
            refine zq_eqF ?_
            refine zq_move ?_
            refine jk_pass rfl rfl rfl ?_
            refine jk_pass rfl rfl rfl ?_
            refine jk_pass rfl rfl rfl ?_
            refine jk_pass rfl rfl rfl ?_
            refine jk_pass rfl rfl rfl ?_
            refine jk_pass rfl rfl rfl ?_
            refine jk_pass rfl rfl rfl ?_
            refine zq_pick_f ?_
            refine jk_nil ?_
            refine jk_if_f rfl ?_
            refine jk_skip ?_
            refine jk_blk ?_
            refine jk_region ?_
            refine zq_move ?_
            refine zq_inc ?_
            refine zq_assign ?_
            refine jk_nil ?_
            refine jk_round (k + 1) (by omega) (by omega) ?_ selZ
            rw [hn, show S + (0 - 0) = S by omega]
            exact covZ
      · skip
        by_cases b1 : c.f = n
        · by_cases b2 : x.t ≤ t
          · rw [if_neg (fun h : c.t = n ∧ x.t + 1 + c.g ≤ t => a1 h.1), if_pos (⟨b1, b2⟩ : c.f = n ∧ x.t ≤ t)] at hn
            refine jk_seq ?_
            refine jk_seq ?_
            refine jk_region ?_
            refine zq_move ?_
            refine zq_fld0 ?_
            refine zq_load ?_
            refine zq_eqF ?_
            refine jk_nil ?_
            refine jk_if_f rfl ?_
            refine jk_skip ?_
            refine jk_seq ?_
            refine jk_seq ?_
            refine jk_region ?_
            refine zq_fld0 ?_
            refine zq_load ?_
            refine zq_move ?_
            refine zq_eqF ?_
            refine zq_move ?_
            refine jk_pass rfl rfl rfl ?_
            refine jk_pass rfl rfl rfl ?_
            refine jk_pass rfl rfl rfl ?_
            refine zq_pick_f ?_
            refine jk_nil ?_
            refine jk_if_f rfl ?_
            refine jk_skip ?_
            refine jk_seq ?_
            refine jk_region ?_
            refine zq_fld0 ?_
            refine zq_load ?_
            refine zq_move ?_
            refine zq_eq ?_
            refine zq_move ?_
            refine zq_move ?_
            refine zq_move ?_
            refine zq_idxN ?_
            refine zq_fld ?_
            refine zq_load ?_
            refine zq_move ?_
            refine zq_le ?_
            refine zq_pick_t ?_
            refine jk_nil ?_
            refine jk_if_t rfl ?_
            refine jk_region ?_
            refine zq_move ?_
            refine zq_move ?_
            refine zq_move ?_
            refine zq_idxN ?_
            refine zq_fld ?_
            refine zq_load ?_
            refine zq_sub ?_
            refine zq_assign ?_
            refine jk_nil ?_
            refine jk_blk ?_
            refine jk_region ?_
            refine zq_move ?_
            refine zq_inc ?_
            refine zq_assign ?_
            refine jk_nil ?_
            refine jk_round (k + 1) (by omega) (by omega) ?_ selZ
            rw [hn, show S + (0 - x.n) = S - x.n by omega]
            exact covZ
          · rw [if_neg (fun h : c.t = n ∧ x.t + 1 + c.g ≤ t => a1 h.1), if_neg (fun h : c.f = n ∧ x.t ≤ t => b2 h.2)] at hn
            refine jk_seq ?_
            refine jk_seq ?_
            refine jk_region ?_
            refine zq_move ?_
            refine zq_fld0 ?_
            refine zq_load ?_
            refine zq_eqF ?_
            refine jk_nil ?_
            refine jk_if_f rfl ?_
            refine jk_skip ?_
            refine jk_seq ?_
            refine jk_seq ?_
            refine jk_region ?_
            refine zq_fld0 ?_
            refine zq_load ?_
            refine zq_move ?_
            refine zq_eqF ?_
            refine zq_move ?_
            refine jk_pass rfl rfl rfl ?_
            refine jk_pass rfl rfl rfl ?_
            refine jk_pass rfl rfl rfl ?_
            refine zq_pick_f ?_
            refine jk_nil ?_
            refine jk_if_f rfl ?_
            refine jk_skip ?_
            refine jk_seq ?_
            refine jk_region ?_
            refine zq_fld0 ?_
            refine zq_load ?_
            refine zq_move ?_
            refine zq_eq ?_
            refine zq_move ?_
            refine zq_move ?_
            refine zq_move ?_
            refine zq_idxN ?_
            refine zq_fld ?_
            refine zq_load ?_
            refine zq_move ?_
            refine zq_leF ?_
            refine zq_pick_t ?_
            refine jk_nil ?_
            refine jk_if_f rfl ?_
            refine jk_skip ?_
            refine jk_blk ?_
            refine jk_region ?_
            refine zq_move ?_
            refine zq_inc ?_
            refine zq_assign ?_
            refine jk_nil ?_
            refine jk_round (k + 1) (by omega) (by omega) ?_ selZ
            rw [hn, show S + (0 - 0) = S by omega]
            exact covZ
        · rw [if_neg (fun h : c.t = n ∧ x.t + 1 + c.g ≤ t => a1 h.1), if_neg (fun h : c.f = n ∧ x.t ≤ t => b1 h.1)] at hn
          refine jk_seq ?_
          refine jk_seq ?_
          refine jk_region ?_
          refine zq_move ?_
          refine zq_fld0 ?_
          refine zq_load ?_
          refine zq_eqF ?_
          refine jk_nil ?_
          refine jk_if_f rfl ?_
          refine jk_skip ?_
          refine jk_seq ?_
          refine jk_seq ?_
          refine jk_region ?_
          refine zq_fld0 ?_
          refine zq_load ?_
          refine zq_move ?_
          refine zq_eqF ?_
          refine zq_move ?_
          refine jk_pass rfl rfl rfl ?_
          refine jk_pass rfl rfl rfl ?_
          refine jk_pass rfl rfl rfl ?_
          refine zq_pick_f ?_
          refine jk_nil ?_
          refine jk_if_f rfl ?_
          refine jk_skip ?_
          refine jk_seq ?_
          refine jk_region ?_
          refine zq_fld0 ?_
          refine zq_load ?_
          refine zq_move ?_
          refine zq_eqF ?_
          refine zq_move ?_
          refine jk_pass rfl rfl rfl ?_
          refine jk_pass rfl rfl rfl ?_
          refine jk_pass rfl rfl rfl ?_
          refine jk_pass rfl rfl rfl ?_
          refine jk_pass rfl rfl rfl ?_
          refine jk_pass rfl rfl rfl ?_
          refine jk_pass rfl rfl rfl ?_
          refine zq_pick_f ?_
          refine jk_nil ?_
          refine jk_if_f rfl ?_
          refine jk_skip ?_
          refine jk_blk ?_
          refine jk_region ?_
          refine zq_move ?_
          refine zq_inc ?_
          refine zq_assign ?_
          refine jk_nil ?_
          refine jk_round (k + 1) (by omega) (by omega) ?_ selZ
          rw [hn, show S + (0 - 0) = S by omega]
          exact covZ
  have hke : k = l.length := by omega
  subst hke
  rw [List.take_length]
  refine jk_seq ?_
  refine jk_seq ?_
  refine jk_region ?_
  refine zq_move ?_
  refine zq_move ?_
  refine zq_len ?_
  refine zq_ltF ?_
  refine jk_nil ?_
  refine jk_if_f rfl ?_
  refine jk_exit rfl ?_
  refine jk_seq ?_
  refine jk_region ?_
  refine zq_move ?_
  refine zq_assign ?_
  refine jk_nil ?_
  exact jk_ret_any (res1 rfl rfl) (by (repeat (first | exact rs_nil | (refine rs_cons ?_ ?_; (focus ((repeat (first | exact .here | apply Mem.there | apply Take.there)); first | done | fail))) | exact fun ρ hρ => hρ | (intro ρ hρ; repeat (first | exact hρ | refine List.mem_cons_of_mem _ ?_)))); first | done | fail) selZ ⟨rfl, rfl⟩
end Go.Proofs.Ytjbebmealbnmgaa
/- Flow, of the reference. -/
namespace Go.Proofs.Ytjbebmealbnmgaa
open Go.Eng Go.Step
set_option maxRecDepth 100000
set_option maxHeartbeats 4000000

theorem valid_ok {qs : List Int} {cs : List Ct} {bs : List Bk} {hs : List Hd} {d : Dm} (h : validT qs cs bs hs d = true) : (∀ c ∈ cs, chkCt c = 0 ∧ c.f < qs.length ∧ c.t < qs.length) ∧ bs.length ≤ 512 ∧ (∀ x ∈ hs, okHd qs.length x) ∧ hs.length ≤ 512 ∧ (1 ≤ qs.length ∧ qs.length ≤ 16) ∧ (∀ (j : Nat) (q : Int), qs[j]? = some q → 0 ≤ q ∧ q ≤ 1073741824) ∧ okDm qs.length d ∧ cs.length ≤ 64 := by
  obtain ⟨h1, h2⟩ := of_decide_eq_true h
  obtain ⟨p, b, hh⟩ := chkT_ok h1
  obtain ⟨k1, k2⟩ := chkPl_ct p
  obtain ⟨k3, k4⟩ := chkPl_quo p
  have k5 := chkB_ok b
  have k6 : (∀ x ∈ hs, okHd qs.length x) ∧ hs.length ≤ 512 := by
    unfold chkH at hh
    rw [if_neg (by simpa using p)] at hh
    by_cases c1 : 512 < hs.length
    · rw [if_pos c1] at hh; omega
    rw [if_neg c1] at hh
    by_cases c2 : firstE (hdE qs.length hs) hs.length = 0
    · have := hdE_ok c2
      rw [List.take_length] at this
      exact ⟨this, by omega⟩
    · rw [if_pos c2] at hh; exact absurd hh c2
  exact ⟨k2, k5.1, k6.1, k6.2, k3, k4, h2, k1⟩
theorem ships_ok {cs : List Ct} {bs : List Bk} {d : Dm} {l : List Sh} (h : firstE (shipE cs bs d l) l.length = 0) : ∀ x ∈ l, ship1 cs bs d x = 0 := fun x hx => by
  obtain ⟨i, hi, rfl⟩ := List.getElem_of_mem hx
  have h2 := firstE_zero h i hi
  rw [shipE_at (List.getElem?_eq_getElem hi)] at h2
  by_cases c : ship1 cs bs d l[i] = 0
  · exact c
  · rw [if_pos c] at h2; exact h2
set_option maxHeartbeats 64000000 in
theorem refFlow_spec {ρ τ σ υ : PH} (ω : PH) {pq pc pb ph : Option Addr} {kq kc kb kh : Nat} {qs : List Int} {cs : List Ct} {bs : List Bk} {hs : List Hd} (hT : TbAt ρ τ σ υ pq pc pb ph kq kc kb kh qs cs bs hs) (d : Dm) (v : Value) (l : List Sh) (hv : ShAt ω v l) (hll : l.length ≤ 1000000) :
    Ans Try.prog (fv 9) [.agg #[.slice pq qs.length kq, .slice pc cs.length kc, .slice pb bs.length kb, .slice ph hs.length kh], .agg #[int d.s, int d.d, int d.v, int d.r, int d.e], v] [ρ, τ, σ, υ, ω] (fun r => r = .tuple #[int (flowR qs cs bs hs d l).1, int (flowR qs cs bs hs d l).2]) := by
  have hv2 := hv
  obtain ⟨q, cc, rfl, hr⟩ := hv.val encX_len
  refine spec_in (cap := []) Try.func9 rfl rfl Try.ntmps9 rfl (by (repeat (first | exact EnvA.nil EnvI.nil | apply EnvA.cons | apply EnvA.nil | exact EnvI.nil | apply EnvI.cons)); first | done | fail) (fun N β => ?_)
  refine jk_seq ?_
  refine jk_region ?_
  refine jk_op (l_boxS rfl) rfl rfl rfl ?_
  rintro _ _ ⟨b1, rfl, rfl⟩
  refine jk_freeze (ρ := sng b1 _) takeZ ?_
  have ct : RdN (sng b1 (.cells #[.slice pq qs.length kq, .slice pc cs.length kc, .slice pb bs.length kb, .slice ph hs.length kh] 29 (0, 0))) b1 0 [.slice pq qs.length kq, .slice pc cs.length kc, .slice pb bs.length kb, .slice ph hs.length kh] := rdN_sng (vs := [.slice pq qs.length kq, .slice pc cs.length kc, .slice pb bs.length kb, .slice ph hs.length kh])
  have ct0 : rdc (sng b1 (.cells #[.slice pq qs.length kq, .slice pc cs.length kc, .slice pb bs.length kb, .slice ph hs.length kh] 29 (0, 0))) b1 0 = some (.slice pq qs.length kq) := by rw [rdc_sng]; rfl
  have ct1 : rdc (sng b1 (.cells #[.slice pq qs.length kq, .slice pc cs.length kc, .slice pb bs.length kb, .slice ph hs.length kh] 29 (0, 0))) b1 1 = some (.slice pc cs.length kc) := by rw [rdc_sng]; rfl
  have ct2 : rdc (sng b1 (.cells #[.slice pq qs.length kq, .slice pc cs.length kc, .slice pb bs.length kb, .slice ph hs.length kh] 29 (0, 0))) b1 2 = some (.slice pb bs.length kb) := by rw [rdc_sng]; rfl
  have ct3 : rdc (sng b1 (.cells #[.slice pq qs.length kq, .slice pc cs.length kc, .slice pb bs.length kb, .slice ph hs.length kh] 29 (0, 0))) b1 3 = some (.slice ph hs.length kh) := by rw [rdc_sng]; rfl
  have ctp : RdP (sng b1 (.cells #[.slice pq qs.length kq, .slice pc cs.length kc, .slice pb bs.length kb, .slice ph hs.length kh] 29 (0, 0))) b1 0 [.slice pq qs.length kq, .slice pc cs.length kc] := rdP_sng (xs := [.slice pq qs.length kq, .slice pc cs.length kc, .slice pb bs.length kb, .slice ph hs.length kh]) rfl
  refine jk_op (l_boxS rfl) rfl rfl rfl ?_
  rintro _ _ ⟨b2, rfl, rfl⟩
  refine jk_freeze (ρ := sng b2 _) takeZ ?_
  have cd : RdN (sng b2 (.cells #[int d.s, int d.d, int d.v, int d.r, int d.e] 31 (0, 0))) b2 0 [int d.s, int d.d, int d.v, int d.r, int d.e] := rdN_sng (vs := [int d.s, int d.d, int d.v, int d.r, int d.e])
  have cd0 : rdc (sng b2 (.cells #[int d.s, int d.d, int d.v, int d.r, int d.e] 31 (0, 0))) b2 0 = some (int d.s) := by rw [rdc_sng]; rfl
  have cd1 : rdc (sng b2 (.cells #[int d.s, int d.d, int d.v, int d.r, int d.e] 31 (0, 0))) b2 1 = some (int d.d) := by rw [rdc_sng]; rfl
  have cd2 : rdc (sng b2 (.cells #[int d.s, int d.d, int d.v, int d.r, int d.e] 31 (0, 0))) b2 2 = some (int d.v) := by rw [rdc_sng]; rfl
  have cd3 : rdc (sng b2 (.cells #[int d.s, int d.d, int d.v, int d.r, int d.e] 31 (0, 0))) b2 3 = some (int d.r) := by rw [rdc_sng]; rfl
  have cd4 : rdc (sng b2 (.cells #[int d.s, int d.d, int d.v, int d.r, int d.e] 31 (0, 0))) b2 4 = some (int d.e) := by rw [rdc_sng]; rfl
  refine zq_assign ?_
  refine zq_assign ?_
  refine jk_nil ?_
  refine jk_seq ?_
  refine jk_seq ?_
  refine jk_region ?_
  refine zq_loadS ?_
  refine zq_loadS ?_
  refine jk_call (refCertValid_spec hT d) rfl rfl rdZ rfl rfl ?_
  rintro _ rfl
  cases hval : validT qs cs bs hs d with
  | false =>
    have hR : flowR qs cs bs hs d l = (0, 1) := by unfold flowR; rw [if_pos hval]
    rw [hR]
    refine zq_not ?_
    refine jk_nil ?_
    refine jk_if_t rfl ?_
    refine jk_seq ?_
    refine jk_region ?_
    refine zq_assign ?_
    refine zq_assign ?_
    refine jk_nil ?_
    exact jk_ret_any (res2 rfl rfl rfl) (by (repeat (first | exact rs_nil | (refine rs_cons ?_ ?_; (focus ((repeat (first | exact .here | apply Mem.there | apply Take.there)); first | done | fail))) | exact fun ρ hρ => hρ | (intro ρ hρ; repeat (first | exact hρ | refine List.mem_cons_of_mem _ ?_)))); first | done | fail) selZ ⟨rfl, rfl⟩
  | true =>
  obtain ⟨hcs0, hbl, hok, hhl, hql, hquo, hdm, _⟩ := valid_ok hval
  have hcs : ∀ c ∈ cs, chkCt c = 0 := fun c hc => (hcs0 c hc).1
  have hdm2 : 0 ≤ d.r ∧ d.r < d.e ∧ d.e ≤ 1099511627776 ∧ d.e - d.r ≤ 100 := hdm.2.2.2.2
  refine zq_not ?_
  refine jk_nil ?_
  refine jk_if_f rfl ?_
  refine jk_skip ?_
  refine jk_seq ?_
  refine jk_seq ?_
  refine jk_region ?_
  refine zq_assign ?_
  refine jk_nil ?_
  refine jk_block ?_
  refine jk_loop [2, 3, 4] (0 : Nat) (fun k => k ≤ l.length ∧ firstE (shipE cs bs d l) k = 0) (fun k => [(8, int k)]) (fun _ => []) (fun k => l.length - k) pickZ ⟨by omega, rfl⟩ covZ selZ ?_
  rintro k ⟨hk, hI⟩
  by_cases hlt : k < l.length
  · refine jk_seq ?_
    refine jk_seq ?_
    refine jk_region ?_
    refine zq_move ?_
    refine zq_move ?_
    refine zq_len ?_
    refine zq_lt ?_
    refine jk_nil ?_
    refine jk_if_t rfl ?_
    refine jk_skip ?_
    refine jk_seq ?_
    refine jk_block ?_
    refine jk_seq ?_
    refine jk_region ?_
    refine zq_loadS ?_
    refine zq_loadS ?_
    refine zq_move ?_
    refine zq_move ?_
    refine jk_call (refShip_spec ω hT d _ l k l[k] hv2 (List.getElem?_eq_getElem hlt) hcs (by omega) hdm2.1 hll) rfl rfl rdZ rfl rfl ?_
    rintro _ rfl
    by_cases he : shipE cs bs d l k = 0
    · rw [he]
      refine zq_assign ?_
      refine jk_nil ?_
      refine jk_seq ?_
      refine jk_region ?_
      refine zq_move ?_
      refine zq_neF ?_
      refine jk_nil ?_
      refine jk_if_f rfl ?_
      refine jk_skip ?_
      refine jk_blk ?_
      refine jk_region ?_
      refine zq_move ?_
      refine zq_inc ?_
      refine zq_assign ?_
      refine jk_nil ?_
      exact jk_round (k + 1) ⟨by omega, firstE_ok hI he⟩ (by omega) covZ selZ
    · have hh := firstE_hit hI he _ hlt
      have hR : flowR qs cs bs hs d l = (0, shipE cs bs d l k) := by unfold flowR; rw [if_neg (by rw [hval]; simp), hh, if_pos he]
      rw [hR]
      generalize shipE cs bs d l k = z at he
      refine zq_assign ?_
      refine jk_nil ?_
      refine jk_seq ?_
      refine jk_region ?_
      refine zq_move ?_
      refine zq_ne ?_
      refine jk_nil ?_
      refine jk_if_t rfl ?_
      refine jk_seq ?_
      refine jk_region ?_
      refine zq_move ?_
      refine zq_assign ?_
      refine zq_assign ?_
      refine jk_nil ?_
      exact jk_ret_any (res2 rfl rfl rfl) (by (repeat (first | exact rs_nil | (refine rs_cons ?_ ?_; (focus ((repeat (first | exact .here | apply Mem.there | apply Take.there)); first | done | fail))) | exact fun ρ hρ => hρ | (intro ρ hρ; repeat (first | exact hρ | refine List.mem_cons_of_mem _ ?_)))); first | done | fail) selZ ⟨rfl, rfl⟩
  have hke : k = l.length := by omega
  subst hke
  have hS := ships_ok hI
  have hR0 : flowR qs cs bs hs d l = if conflB qs.length cs d l then (0, 24) else if fullB qs cs hs d l then (0, 15) else (stock cs d d.d d.e l, 0) := by unfold flowR; rw [if_neg (by rw [hval]; simp), if_neg (fun h => h hI)]
  clear hI
  have hst := fun n t => refStock_spec ω hT d _ l n t hv2 hS hcs hdm2.1 hll
  have hbdx : ∀ x ∈ l, 0 ≤ x.n ∧ x.n ≤ 1000 := fun x hx => by
    obtain ⟨nn, c, _, h2, _, h4, _⟩ := ship1_ok (hS x hx)
    have := (chkCt_all (hcs c (List.mem_of_getElem? h2))).2.2.2.1
    omega
  have hbd := fun n t => stock_bd cs d n t l hbdx
  refine jk_seq ?_
  refine jk_seq ?_
  refine jk_region ?_
  refine zq_move ?_
  refine zq_move ?_
  refine zq_len ?_
  refine zq_ltF ?_
  refine jk_nil ?_
  refine jk_if_f rfl ?_
  refine jk_exit rfl ?_
  refine jk_seq ?_
  refine jk_seq ?_
  refine jk_region ?_
  refine zq_assign ?_
  refine jk_nil ?_
  refine jk_block ?_
  refine jk_loop [2, 3, 4] (0 : Nat) (fun n => n ≤ qs.length ∧ anyT (fun n => anyT (confAt cs d l n) d.r (d.e - d.r + 1).toNat) 0 n = false) (fun n => [(10, int n)]) (fun _ => []) (fun n => qs.length - n) pickZ ⟨by omega, by rfl⟩ covZ selZ ?_
  rintro n ⟨hn, hIn⟩
  by_cases hnq : n < qs.length
  · refine jk_seq ?_
    refine jk_seq ?_
    refine jk_region ?_
    refine zq_move ?_
    refine zq_fld0 ?_
    refine zq_fld0 ?_
    refine zq_load ?_
    refine zq_len ?_
    refine zq_lt ?_
    refine jk_nil ?_
    refine jk_if_t rfl ?_
    refine jk_skip ?_
    refine jk_seq ?_
    refine jk_block ?_
    refine jk_seq ?_
    refine jk_region ?_
    refine zq_fld0 ?_
    refine zq_load ?_
    refine zq_assign ?_
    refine jk_nil ?_
    refine jk_block ?_
    refine jk_loop [2, 3, 4, 10] (0 : Nat) (fun j => j ≤ (d.e - d.r + 1).toNat ∧ anyT (confAt cs d l n) d.r j = false) (fun j => [(11, int (d.r + j))]) (fun _ => []) (fun j => (d.e - d.r + 1).toNat - j) pickZ ⟨by omega, by rfl⟩ ?_ selZ ?_
    · rw [show d.r + ((0 : Nat) : Int) = d.r by omega]
      exact covZ
    rintro j ⟨hj, hIj⟩
    by_cases hjt : d.r + (j : Int) ≤ d.e
    · have hnx := anyT_succ (confAt cs d l n) d.r j
      rw [hIj, Bool.false_or] at hnx
      have hst2 := hst n (d.r + j)
      have hb2 := hbd n (d.r + j)
      have hyes : confAt cs d l n (d.r + j) = true → flowR qs cs bs hs d l = (0, 24) := fun h => by
        rw [hR0, if_pos]
        refine anyT_hit (k := n) hnq ?_
        rw [show (0 : Int) + (n : Int) = n by omega]
        exact anyT_hit (k := j) (by omega) h
      unfold confAt at hnx hyes
      generalize stock cs d n (d.r + j) l = S at hst2 hb2 hnx hyes
      refine jk_seq ?_
      refine jk_seq ?_
      refine jk_region ?_
      refine zq_move ?_
      refine zq_fld0 ?_
      refine zq_load ?_
      refine zq_le ?_
      refine jk_nil ?_
      refine jk_if_t rfl ?_
      refine jk_skip ?_
      refine jk_seq ?_
      refine jk_block ?_
      refine jk_seq ?_
      refine jk_region ?_
      refine zq_loadS ?_
      refine zq_loadS ?_
      refine zq_move ?_
      refine zq_move ?_
      refine zq_move ?_
      refine jk_call hst2 rfl rfl rdZ rfl rfl ?_
      rintro _ rfl
      by_cases c1 : S < 0
      · rw [hyes (decide_eq_true (.inl c1))]
        refine zq_assign ?_
        refine jk_nil ?_
        refine jk_seq ?_
        refine jk_region ?_
        refine zq_move ?_
        refine zq_lt ?_
        refine zq_move ?_
        refine jk_pass rfl rfl rfl ?_
        refine jk_pass rfl rfl rfl ?_
        refine jk_pass rfl rfl rfl ?_
        refine jk_pass rfl rfl rfl ?_
        refine jk_pass rfl rfl rfl ?_
        refine jk_pass rfl rfl rfl ?_
        refine jk_pass rfl rfl rfl ?_
        refine jk_pass rfl rfl rfl ?_
        refine jk_pass rfl rfl rfl ?_
        refine jk_pass rfl rfl rfl ?_
        refine jk_pass rfl rfl rfl ?_
        refine jk_pass rfl rfl rfl ?_
        refine jk_pass rfl rfl rfl ?_
        refine jk_pass rfl rfl rfl ?_
        refine jk_pass rfl rfl rfl ?_
        refine jk_pass rfl rfl rfl ?_
        refine jk_pass rfl rfl rfl ?_
        refine jk_pass rfl rfl rfl ?_
        refine jk_pass rfl rfl rfl ?_
        refine jk_pass rfl rfl rfl ?_
        refine zq_pick_t ?_
        refine jk_nil ?_
        refine jk_if_t rfl ?_
        refine jk_seq ?_
        refine jk_region ?_
        refine zq_assign ?_
        refine zq_assign ?_
        refine jk_nil ?_
        exact jk_ret_any (res2 rfl rfl rfl) (by (repeat (first | exact rs_nil | (refine rs_cons ?_ ?_; (focus ((repeat (first | exact .here | apply Mem.there | apply Take.there)); first | done | fail))) | exact fun ρ hρ => hρ | (intro ρ hρ; repeat (first | exact hρ | refine List.mem_cons_of_mem _ ?_)))); first | done | fail) selZ ⟨rfl, rfl⟩
      by_cases c2 : d.r + (j : Int) = d.e
      · by_cases c3 : (n : Int) = d.s
        · rw [decide_eq_false (by omega)] at hnx
          refine zq_assign ?_
          refine jk_nil ?_
          refine jk_seq ?_
          refine jk_region ?_
          refine zq_move ?_
          refine zq_ltF ?_
          refine zq_move ?_
          refine zq_move ?_
          refine zq_fld0 ?_
          refine zq_load ?_
          refine zq_eq ?_
          refine zq_move ?_
          refine zq_move ?_
          refine zq_fld0 ?_
          refine zq_load ?_
          refine zq_neF ?_
          refine zq_pick_t ?_
          refine zq_move ?_
          refine jk_pass rfl rfl rfl ?_
          refine jk_pass rfl rfl rfl ?_
          refine jk_pass rfl rfl rfl ?_
          refine jk_pass rfl rfl rfl ?_
          refine zq_pick_f ?_
          refine zq_move ?_
          refine jk_pass rfl rfl rfl ?_
          refine jk_pass rfl rfl rfl ?_
          refine zq_pick_f ?_
          refine zq_pick_f ?_
          refine jk_nil ?_
          refine jk_if_f rfl ?_
          refine jk_skip ?_
          refine jk_blk ?_
          refine jk_region ?_
          refine zq_move ?_
          refine zq_add ?_
          refine zq_assign ?_
          refine jk_nil ?_
          refine jk_round (j + 1) ⟨by omega, hnx⟩ (by omega) ?_ selZ
          rw [show d.r + ((j + 1 : Nat) : Int) = d.r + (j : Int) + 1 by omega]
          exact covZ
        by_cases c4 : (n : Int) = d.d
        · rw [decide_eq_false (by omega)] at hnx
          refine zq_assign ?_
          refine jk_nil ?_
          refine jk_seq ?_
          refine jk_region ?_
          refine zq_move ?_
          refine zq_ltF ?_
          refine zq_move ?_
          refine zq_move ?_
          refine zq_fld0 ?_
          refine zq_load ?_
          refine zq_eq ?_
          refine zq_move ?_
          refine zq_move ?_
          refine zq_fld0 ?_
          refine zq_load ?_
          refine zq_ne ?_
          refine zq_pick_t ?_
          refine zq_move ?_
          refine zq_move ?_
          refine zq_fld0 ?_
          refine zq_load ?_
          refine zq_neF ?_
          refine zq_pick_t ?_
          refine zq_move ?_
          refine jk_pass rfl rfl rfl ?_
          refine jk_pass rfl rfl rfl ?_
          refine zq_pick_f ?_
          refine zq_pick_f ?_
          refine jk_nil ?_
          refine jk_if_f rfl ?_
          refine jk_skip ?_
          refine jk_blk ?_
          refine jk_region ?_
          refine zq_move ?_
          refine zq_add ?_
          refine zq_assign ?_
          refine jk_nil ?_
          refine jk_round (j + 1) ⟨by omega, hnx⟩ (by omega) ?_ selZ
          rw [show d.r + ((j + 1 : Nat) : Int) = d.r + (j : Int) + 1 by omega]
          exact covZ
        by_cases c5 : S = 0
        · rw [decide_eq_false (by omega)] at hnx
          refine zq_assign ?_
          refine jk_nil ?_
          refine jk_seq ?_
          refine jk_region ?_
          refine zq_move ?_
          refine zq_ltF ?_
          refine zq_move ?_
          refine zq_move ?_
          refine zq_fld0 ?_
          refine zq_load ?_
          refine zq_eq ?_
          refine zq_move ?_
          refine zq_move ?_
          refine zq_fld0 ?_
          refine zq_load ?_
          refine zq_ne ?_
          refine zq_pick_t ?_
          refine zq_move ?_
          refine zq_move ?_
          refine zq_fld0 ?_
          refine zq_load ?_
          refine zq_ne ?_
          refine zq_pick_t ?_
          refine zq_move ?_
          refine zq_move ?_
          refine zq_neF ?_
          refine zq_pick_t ?_
          refine zq_pick_f ?_
          refine jk_nil ?_
          refine jk_if_f rfl ?_
          refine jk_skip ?_
          refine jk_blk ?_
          refine jk_region ?_
          refine zq_move ?_
          refine zq_add ?_
          refine zq_assign ?_
          refine jk_nil ?_
          refine jk_round (j + 1) ⟨by omega, hnx⟩ (by omega) ?_ selZ
          rw [show d.r + ((j + 1 : Nat) : Int) = d.r + (j : Int) + 1 by omega]
          exact covZ
        · rw [hyes (decide_eq_true (by omega))]
          refine zq_assign ?_
          refine jk_nil ?_
          refine jk_seq ?_
          refine jk_region ?_
          refine zq_move ?_
          refine zq_ltF ?_
          refine zq_move ?_
          refine zq_move ?_
          refine zq_fld0 ?_
          refine zq_load ?_
          refine zq_eq ?_
          refine zq_move ?_
          refine zq_move ?_
          refine zq_fld0 ?_
          refine zq_load ?_
          refine zq_ne ?_
          refine zq_pick_t ?_
          refine zq_move ?_
          refine zq_move ?_
          refine zq_fld0 ?_
          refine zq_load ?_
          refine zq_ne ?_
          refine zq_pick_t ?_
          refine zq_move ?_
          refine zq_move ?_
          refine zq_ne ?_
          refine zq_pick_t ?_
          refine zq_pick_f ?_
          refine jk_nil ?_
          refine jk_if_t rfl ?_
          refine jk_seq ?_
          refine jk_region ?_
          refine zq_assign ?_
          refine zq_assign ?_
          refine jk_nil ?_
          exact jk_ret_any (res2 rfl rfl rfl) (by (repeat (first | exact rs_nil | (refine rs_cons ?_ ?_; (focus ((repeat (first | exact .here | apply Mem.there | apply Take.there)); first | done | fail))) | exact fun ρ hρ => hρ | (intro ρ hρ; repeat (first | exact hρ | refine List.mem_cons_of_mem _ ?_)))); first | done | fail) selZ ⟨rfl, rfl⟩
      · rw [decide_eq_false (by omega)] at hnx
        refine zq_assign ?_
        refine jk_nil ?_
        refine jk_seq ?_
        refine jk_region ?_
        refine zq_move ?_
        refine zq_ltF ?_
        refine zq_move ?_
        refine zq_move ?_
        refine zq_fld0 ?_
        refine zq_load ?_
        refine zq_eqF ?_
        refine zq_move ?_
        refine jk_pass rfl rfl rfl ?_
        refine jk_pass rfl rfl rfl ?_
        refine jk_pass rfl rfl rfl ?_
        refine jk_pass rfl rfl rfl ?_
        refine zq_pick_f ?_
        refine zq_move ?_
        refine jk_pass rfl rfl rfl ?_
        refine jk_pass rfl rfl rfl ?_
        refine jk_pass rfl rfl rfl ?_
        refine jk_pass rfl rfl rfl ?_
        refine zq_pick_f ?_
        refine zq_move ?_
        refine jk_pass rfl rfl rfl ?_
        refine jk_pass rfl rfl rfl ?_
        refine zq_pick_f ?_
        refine zq_pick_f ?_
        refine jk_nil ?_
        refine jk_if_f rfl ?_
        refine jk_skip ?_
        refine jk_blk ?_
        refine jk_region ?_
        refine zq_move ?_
        refine zq_add ?_
        refine zq_assign ?_
        refine jk_nil ?_
        refine jk_round (j + 1) ⟨by omega, hnx⟩ (by omega) ?_ selZ
        rw [show d.r + ((j + 1 : Nat) : Int) = d.r + (j : Int) + 1 by omega]
        exact covZ
    · have hje : j = (d.e - d.r + 1).toNat := by omega
      subst hje
      have hnx := anyT_succ (fun n => anyT (confAt cs d l n) d.r (d.e - d.r + 1).toNat) 0 n
      rw [hIn, Bool.false_or] at hnx
      rw [show (0 : Int) + (n : Int) = n by omega, hIj] at hnx
      refine jk_seq ?_
      refine jk_seq ?_
      refine jk_region ?_
      refine zq_move ?_
      refine zq_fld0 ?_
      refine zq_load ?_
      refine zq_leF ?_
      refine jk_nil ?_
      refine jk_if_f rfl ?_
      refine jk_exit rfl ?_
      refine jk_blk ?_
      refine jk_region ?_
      refine zq_move ?_
      refine zq_inc ?_
      refine zq_assign ?_
      refine jk_nil ?_
      exact jk_round (n + 1) ⟨by omega, hnx⟩ (by omega) covZ selZ
  have hne : n = qs.length := by omega
  subst hne
  have hconf : conflB qs.length cs d l = false := hIn
  rw [hconf, if_neg (by simp)] at hR0
  clear hIn
  refine jk_seq ?_
  refine jk_seq ?_
  refine jk_region ?_
  refine zq_move ?_
  refine zq_fld0 ?_
  refine zq_fld0 ?_
  refine zq_load ?_
  refine zq_len ?_
  refine zq_ltF ?_
  refine jk_nil ?_
  refine jk_if_f rfl ?_
  refine jk_exit rfl ?_
  refine jk_seq ?_
  refine jk_seq ?_
  refine jk_region ?_
  refine zq_assign ?_
  refine jk_nil ?_
  refine jk_block ?_
  refine jk_loop [2, 3, 4] (0 : Nat) (fun n => n ≤ qs.length ∧ anyT (fun n => anyT (fullAt qs cs hs d l n) d.r (d.e - d.r).toNat) 0 n = false) (fun n => [(13, int n)]) (fun _ => []) (fun n => qs.length - n) pickZ ⟨by omega, by rfl⟩ covZ selZ ?_
  rintro n ⟨hn, hIn⟩
  by_cases hnq : n < qs.length
  · have hQx := List.getElem?_eq_getElem hnq
    have hroom := fun t => refCertRoom_spec hT d n t _ hQx (hquo n _ hQx) hok (by omega)
    refine jk_seq ?_
    refine jk_seq ?_
    refine jk_region ?_
    refine zq_move ?_
    refine zq_fld0 ?_
    refine zq_fld0 ?_
    refine zq_load ?_
    refine zq_len ?_
    refine zq_lt ?_
    refine jk_nil ?_
    refine jk_if_t rfl ?_
    refine jk_skip ?_
    refine jk_seq ?_
    refine jk_block ?_
    refine jk_seq ?_
    refine jk_region ?_
    refine zq_fld0 ?_
    refine zq_load ?_
    refine zq_assign ?_
    refine jk_nil ?_
    refine jk_block ?_
    refine jk_loop [2, 3, 4, 13] (0 : Nat) (fun j => j ≤ (d.e - d.r).toNat ∧ anyT (fullAt qs cs hs d l n) d.r j = false) (fun j => [(14, int (d.r + j))]) (fun _ => []) (fun j => (d.e - d.r).toNat - j) pickZ ⟨by omega, by rfl⟩ ?_ selZ ?_
    · rw [show d.r + ((0 : Nat) : Int) = d.r by omega]
      exact covZ
    rintro j ⟨hj, hIj⟩
    by_cases hjt : d.r + (j : Int) < d.e
    · have hnx := anyT_succ (fullAt qs cs hs d l n) d.r j
      rw [hIj, Bool.false_or] at hnx
      have hst2 := hst n (d.r + j)
      have hroom2 := hroom (d.r + j)
      have hyes : fullAt qs cs hs d l n (d.r + j) = true → flowR qs cs bs hs d l = (0, 15) := fun h => by
        rw [hR0, if_pos]
        refine anyT_hit (k := n) hnq ?_
        rw [show (0 : Int) + (n : Int) = n by omega]
        exact anyT_hit (k := j) (by omega) h
      unfold fullAt at hnx hyes
      generalize stock cs d n (d.r + j) l = S at hst2 hnx hyes
      generalize roomT qs hs d n (d.r + j) = Rm at hroom2 hnx hyes
      refine jk_seq ?_
      refine jk_seq ?_
      refine jk_region ?_
      refine zq_move ?_
      refine zq_fld0 ?_
      refine zq_load ?_
      refine zq_lt ?_
      refine jk_nil ?_
      refine jk_if_t rfl ?_
      refine jk_skip ?_
      refine jk_seq ?_
      refine jk_block ?_
      refine jk_seq ?_
      refine jk_draw (.q 0 (.q 1 (.q 2 (.q 3 (.q 4 (.q 6 (.q 7 (.q 8 (.q 9 (.l 5 .e (.l 10 .e (.q 11 .nil)))))))))))) [] rfl (by kernel_rfl) Sel.nil ?_
      refine zd_loadS ?_
      refine zd_loadS ?_
      refine zd_move ?_
      refine zd_move ?_
      refine zd_move ?_
      refine zd_loadS ?_
      refine zd_loadS ?_
      refine zd_move ?_
      refine zd_move ?_
      refine dj_l (a_call rfl hst2 rfl rfl rdZ rfl rfl ?_)
      rintro _ rfl
      refine dj_l (a_call rfl hroom2 rfl rfl rdZ rfl rfl ?_)
      rintro _ rfl
      by_cases c1 : Rm < S
      · rw [hyes (decide_eq_true c1)]
        refine zd_gt ?_
        refine dj_end ?_
        refine jk_if_t rfl ?_
        refine jk_seq ?_
        refine jk_region ?_
        refine zq_assign ?_
        refine zq_assign ?_
        refine jk_nil ?_
        exact jk_ret_any (res2 rfl rfl rfl) (by (repeat (first | exact rs_nil | (refine rs_cons ?_ ?_; (focus ((repeat (first | exact .here | apply Mem.there | apply Take.there)); first | done | fail))) | exact fun ρ hρ => hρ | (intro ρ hρ; repeat (first | exact hρ | refine List.mem_cons_of_mem _ ?_)))); first | done | fail) selZ ⟨rfl, rfl⟩
      · rw [decide_eq_false c1] at hnx
        refine zd_gtF ?_
        refine dj_end ?_
        refine jk_if_f rfl ?_
        refine jk_skip ?_
        refine jk_blk ?_
        refine jk_region ?_
        refine zq_move ?_
        refine zq_add ?_
        refine zq_assign ?_
        refine jk_nil ?_
        refine jk_round (j + 1) ⟨by omega, hnx⟩ (by omega) ?_ selZ
        rw [show d.r + ((j + 1 : Nat) : Int) = d.r + (j : Int) + 1 by omega]
        exact covZ
    · have hje : j = (d.e - d.r).toNat := by omega
      subst hje
      have hnx := anyT_succ (fun n => anyT (fullAt qs cs hs d l n) d.r (d.e - d.r).toNat) 0 n
      rw [hIn, Bool.false_or] at hnx
      rw [show (0 : Int) + (n : Int) = n by omega, hIj] at hnx
      refine jk_seq ?_
      refine jk_seq ?_
      refine jk_region ?_
      refine zq_move ?_
      refine zq_fld0 ?_
      refine zq_load ?_
      refine zq_ltF ?_
      refine jk_nil ?_
      refine jk_if_f rfl ?_
      refine jk_exit rfl ?_
      refine jk_blk ?_
      refine jk_region ?_
      refine zq_move ?_
      refine zq_inc ?_
      refine zq_assign ?_
      refine jk_nil ?_
      exact jk_round (n + 1) ⟨by omega, hnx⟩ (by omega) covZ selZ
  have hne : n = qs.length := by omega
  subst hne
  have hfull : fullB qs cs hs d l = false := hIn
  rw [hfull, if_neg (by simp)] at hR0
  rw [hR0]
  refine jk_seq ?_
  refine jk_seq ?_
  refine jk_region ?_
  refine zq_move ?_
  refine zq_fld0 ?_
  refine zq_fld0 ?_
  refine zq_load ?_
  refine zq_len ?_
  refine zq_ltF ?_
  refine jk_nil ?_
  refine jk_if_f rfl ?_
  refine jk_exit rfl ?_
  refine jk_seq ?_
  refine jk_region ?_
  refine zq_loadS ?_
  refine zq_loadS ?_
  refine zq_move ?_
  refine zq_fld0 ?_
  refine zq_load ?_
  refine zq_fld0 ?_
  refine zq_load ?_
  refine jk_call (hst d.d d.e) rfl rfl rdZ rfl rfl ?_
  rintro _ rfl
  refine zq_assign ?_
  refine zq_assign ?_
  refine jk_nil ?_
  exact jk_ret_any (res2 rfl rfl rfl) (by (repeat (first | exact rs_nil | (refine rs_cons ?_ ?_; (focus ((repeat (first | exact .here | apply Mem.there | apply Take.there)); first | done | fail))) | exact fun ρ hρ => hρ | (intro ρ hρ; repeat (first | exact hρ | refine List.mem_cons_of_mem _ ?_)))); first | done | fail) selZ ⟨rfl, rfl⟩
end Go.Proofs.Ytjbebmealbnmgaa
/- Inside a region that draws its order: the chunks in another order. No conditions. -/
namespace Go.Eng
variable {C : Cx} {D : List Deferred} {R H Hf : List PH} {L : Env} {K : List It} {ps ls : List Nat}
theorem Quiet.perm {H' : List PH} {o : Oper} {v : Value} (hp : H'.Perm H) (h : Quiet C R H L o v) : Quiet C R H' L o v := ⟨h.1, fun a w hx hs => h.2 a w hx (hs.perm hp)⟩
theorem dj_perm {H' : List PH} {all : Array Oper} {done : List Nat} {plan : Pl} (hp : H.Perm H') (h : DJ C D R Hf H' L all done ps ls plan K) : DJ C D R Hf H L all done ps ls plan K := by
  refine ⟨fun hpl fuel listed a w hinv => h.run hpl fuel listed a w ⟨hinv.size, hinv.dc, hinv.sub, hinv.fuel, hinv.tm, hinv.df, hinv.sat.perm hp, hinv.get, fun i hi hn => ?_, fun w hw => hinv.hf w (hw.perm hp.symm), hinv.lds, hinv.data, hinv.uniq, hinv.chron⟩⟩
  obtain ⟨o, d, v, h1, h2, h3, h4, h5⟩ := hinv.prom i hi hn
  refine ⟨o, d, v, h1, h2, h3, h4, ?_⟩
  rcases h5 with ⟨k1, k2⟩ | k
  · refine .inl ⟨k1, ?_⟩
    split at k2
    · rename_i c; rw [if_pos c]; exact k2
    · rename_i c; rw [if_neg c]; exact k2.perm hp.symm
  · exact .inr k
/-- another plan for what is left -/
theorem dj_replan {all : Array Oper} {done : List Nat} {plan : Pl} (plan' : Pl) (hp : planOK all done ps ls plan' = true) (h : DJ C D R Hf H L all done ps ls plan' K) : DJ C D R Hf H L all done ps ls plan K := ⟨fun _ => h.run hp⟩
end Go.Eng
