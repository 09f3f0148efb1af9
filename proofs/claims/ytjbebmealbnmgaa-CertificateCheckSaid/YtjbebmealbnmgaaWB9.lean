/- Texts of this proof, one after the other; no conditions. -/
import Derived.Test.YtjbebmealbnmgaaRows
import Derived.Test.YtjbebmealbnmgaaWB8
import Derived.Test.YtjbebmealbnmgaaWB3
import Derived.Test.YtjbebmealbnmgaaWB2
set_option linter.all false
/- Rooms, arrivals, shipments. -/
namespace Go.Proofs.Ytjbebmealbnmgaa
open Go.Eng Go.Step
set_option maxRecDepth 100000
set_option maxHeartbeats 4000000

set_option maxHeartbeats 16000000 in
theorem certRoom_spec {ρ τ σ υ : PH} {pq pc pb ph : Option Addr} {kq kc kb kh : Nat} {qs : List Int} {cs : List Ct} {bs : List Bk} {hs : List Hd} (hT : TbAt ρ τ σ υ pq pc pb ph kq kc kb kh qs cs bs hs) (nn : Nat) (t Q : Int) (hQ : qs[nn]? = some Q) (hQb : 0 ≤ Q ∧ Q ≤ 1073741824) (hok : ∀ h ∈ hs, okHd qs.length h) (hl : hs.length ≤ 600) :
    Ans Try.prog (fv 23) [.agg #[.slice pq qs.length kq, .slice pc cs.length kc, .slice pb bs.length kb, .slice ph hs.length kh], int nn, int t] [ρ, τ, σ, υ] (fun r => r = int (Q - Step.stored hs nn t)) := by
  have hr := hT.rh
  have hnl := (List.getElem?_eq_some_iff.1 hQ).1
  refine spec_in (cap := []) Try.func23 rfl rfl Try.ntmps23 rfl (by (repeat (first | exact EnvA.nil EnvI.nil | apply EnvA.cons | apply EnvA.nil | exact EnvI.nil | apply EnvI.cons)); first | done | fail) (fun N β => ?_)
  refine jk_seq ?_
  refine jk_region ?_
  refine jk_op (l_boxS rfl) rfl rfl rfl ?_
  rintro _ _ ⟨b1, rfl, rfl⟩
  refine jk_freeze (ρ := sng b1 _) takeZ ?_
  have ct : RdN (sng b1 (.cells #[.slice pq qs.length kq, .slice pc cs.length kc, .slice pb bs.length kb, .slice ph hs.length kh] 29 (0, 0))) b1 0 [.slice pq qs.length kq, .slice pc cs.length kc, .slice pb bs.length kb, .slice ph hs.length kh] := rdN_sng (vs := [.slice pq qs.length kq, .slice pc cs.length kc, .slice pb bs.length kb, .slice ph hs.length kh])
  have ct0 : rdc (sng b1 (.cells #[.slice pq qs.length kq, .slice pc cs.length kc, .slice pb bs.length kb, .slice ph hs.length kh] 29 (0, 0))) b1 0 = some (.slice pq qs.length kq) := by rw [rdc_sng]; rfl
  have ct1 : rdc (sng b1 (.cells #[.slice pq qs.length kq, .slice pc cs.length kc, .slice pb bs.length kb, .slice ph hs.length kh] 29 (0, 0))) b1 1 = some (.slice pc cs.length kc) := by rw [rdc_sng]; rfl
  have ct2 : rdc (sng b1 (.cells #[.slice pq qs.length kq, .slice pc cs.length kc, .slice pb bs.length kb, .slice ph hs.length kh] 29 (0, 0))) b1 2 = some (.slice pb bs.length kb) := by rw [rdc_sng]; rfl
  have ct3 : rdc (sng b1 (.cells #[.slice pq qs.length kq, .slice pc cs.length kc, .slice pb bs.length kb, .slice ph hs.length kh] 29 (0, 0))) b1 3 = some (.slice ph hs.length kh) := by rw [rdc_sng]; rfl
  have ctp : RdP (sng b1 (.cells #[.slice pq qs.length kq, .slice pc cs.length kc, .slice pb bs.length kb, .slice ph hs.length kh] 29 (0, 0))) b1 0 [.slice pq qs.length kq, .slice pc cs.length kc] := rdP_sng (xs := [.slice pq qs.length kq, .slice pc cs.length kc, .slice pb bs.length kb, .slice ph hs.length kh]) rfl
  obtain ⟨bq, oq, rfl, gq⟩ := hT.rq.int hQ
  refine zq_assign ?_
  refine jk_nil ?_
  refine jk_seq ?_
  refine jk_region ?_
  refine zq_fld0 ?_
  refine zq_fld0 ?_
  refine zq_load ?_
  refine zq_move ?_
  refine zq_idx1 ?_
  refine zq_load ?_
  refine zq_assign ?_
  refine jk_nil ?_
  refine jk_seq ?_
  refine jk_seq ?_
  refine jk_region ?_
  refine zq_fld0 ?_
  refine zq_load ?_
  refine zq_len ?_
  refine zq_move ?_
  refine jk_nil ?_
  refine jk_block ?_
  refine jk_loop [1, 2, 17, 18] (0 : Nat) (fun k => k ≤ hs.length) (fun k => [(19, int k), (7, int (Q - Step.stored (hs.take k) nn t))]) (fun _ => []) (fun k => hs.length - k) pickZ (by omega) ?_ selZ ?_
  · rw [List.take_zero]
    simp only [Step.stored, Int.sub_zero]
    exact covZ
  intro k hk
  by_cases hlt : k < hs.length
  · have hx := List.getElem?_eq_getElem hlt
    have hh := (hok _ (List.getElem_mem hlt)).2.2.1
    obtain ⟨b3, o3, rfl, hrd, g0, g1, g2, g3, _⟩ := hdRow5 hr hx
    have hm := stored_snoc nn t hs[k] (hs.take k)
    rw [← List.take_succ_eq_append_getElem hlt] at hm
    have hb := stored_bd (n := nn) (t := t) (l := hs.take k) (fun h hm => hok h (List.mem_of_mem_take hm))
    rw [List.length_take, Nat.min_eq_left hk] at hb
    generalize hs[k] = h at hrd g0 g1 g2 g3 hm hh
    generalize Step.stored (hs.take k) nn t = s at hm hb
    by_cases c1 : h.n = nn
    · by_cases c2 : h.a ≤ t
      · by_cases c3 : t < h.b
        · rw [if_pos ⟨c1, c2, c3⟩] at hm
          refine jk_seq ?_
          refine jk_region ?_
          refine zq_lt ?_
          refine jk_nil ?_
          refine jk_seq ?_
          refine jk_if_t rfl ?_
          refine jk_skip ?_
          refine jk_seq ?_
          refine jk_block ?_
          refine jk_seq ?_
          refine jk_region ?_
          refine zq_idxN ?_
          refine zq_loadS ?_
          refine zl_allocS ?_; rintro _ _ ⟨b, rfl, rfl⟩
          refine zs_storeS ?_; rintro _ _ ⟨rfl, rfl⟩
          refine jk_nil ?_
          refine jk_seq ?_
          refine jk_region ?_
          refine zq_fld0 ?_
          refine zq_load ?_
          refine zq_move ?_
          refine zq_eq ?_
          refine zq_move ?_
          refine zq_fld0 ?_
          refine zq_load ?_
          refine zq_move ?_
          refine zq_le ?_
          refine zq_pick_t ?_
          refine zq_move ?_
          refine zq_move ?_
          refine zq_fld0 ?_
          refine zq_load ?_
          refine zq_lt ?_
          refine zq_pick_t ?_
          refine jk_nil ?_
          refine jk_if_t rfl ?_
          refine jk_region ?_
          refine zq_move ?_
          refine zq_fld0 ?_
          refine zq_load ?_
          refine zq_sub ?_
          refine zq_assign ?_
          refine jk_nil ?_
          refine jk_blk ?_
          refine jk_region ?_
          refine zq_inc ?_
          refine zq_move ?_
          refine jk_nil ?_
          refine jk_round (k + 1) (by omega) (by omega) ?_ selZ
          rw [hm, show Q - (s + h.s) = Q - s - h.s by omega]
          exact covZ
        · rw [if_neg (by omega), Int.add_zero] at hm
          refine jk_seq ?_
          refine jk_region ?_
          refine zq_lt ?_
          refine jk_nil ?_
          refine jk_seq ?_
          refine jk_if_t rfl ?_
          refine jk_skip ?_
          refine jk_seq ?_
          refine jk_block ?_
          refine jk_seq ?_
          refine jk_region ?_
          refine zq_idxN ?_
          refine zq_loadS ?_
          refine zl_allocS ?_; rintro _ _ ⟨b, rfl, rfl⟩
          refine zs_storeS ?_; rintro _ _ ⟨rfl, rfl⟩
          refine jk_nil ?_
          refine jk_seq ?_
          refine jk_region ?_
          refine zq_fld0 ?_
          refine zq_load ?_
          refine zq_move ?_
          refine zq_eq ?_
          refine zq_move ?_
          refine zq_fld0 ?_
          refine zq_load ?_
          refine zq_move ?_
          refine zq_le ?_
          refine zq_pick_t ?_
          refine zq_move ?_
          refine zq_move ?_
          refine zq_fld0 ?_
          refine zq_load ?_
          refine zq_ltF ?_
          refine zq_pick_t ?_
          refine jk_nil ?_
          refine jk_if_f rfl ?_
          refine jk_skip ?_
          refine jk_blk ?_
          refine jk_region ?_
          refine zq_inc ?_
          refine zq_move ?_
          refine jk_nil ?_
          refine jk_round (k + 1) (by omega) (by omega) ?_ selZ
          rw [hm]
          exact covZ
      · rw [if_neg (by omega), Int.add_zero] at hm
        refine jk_seq ?_
        refine jk_region ?_
        refine zq_lt ?_
        refine jk_nil ?_
        refine jk_seq ?_
        refine jk_if_t rfl ?_
        refine jk_skip ?_
        refine jk_seq ?_
        refine jk_block ?_
        refine jk_seq ?_
        refine jk_region ?_
        refine zq_idxN ?_
        refine zq_loadS ?_
        refine zl_allocS ?_; rintro _ _ ⟨b, rfl, rfl⟩
        refine zs_storeS ?_; rintro _ _ ⟨rfl, rfl⟩
        refine jk_nil ?_
        refine jk_seq ?_
        refine jk_region ?_
        refine zq_fld0 ?_
        refine zq_load ?_
        refine zq_move ?_
        refine zq_eq ?_
        refine zq_move ?_
        refine zq_fld0 ?_
        refine zq_load ?_
        refine zq_move ?_
        refine zq_leF ?_
        refine zq_pick_t ?_
        refine zq_move ?_
        refine jk_pass rfl rfl rfl ?_
        refine jk_pass rfl rfl rfl ?_
        refine jk_pass rfl rfl rfl ?_
        refine jk_pass rfl rfl rfl ?_
        refine zq_pick_f ?_
        refine jk_nil ?_
        refine jk_if_f rfl ?_
        refine jk_skip ?_
        refine jk_blk ?_
        refine jk_region ?_
        refine zq_inc ?_
        refine zq_move ?_
        refine jk_nil ?_
        refine jk_round (k + 1) (by omega) (by omega) ?_ selZ
        rw [hm]
        exact covZ
    · rw [if_neg (by omega), Int.add_zero] at hm
      refine jk_seq ?_
      refine jk_region ?_
      refine zq_lt ?_
      refine jk_nil ?_
      refine jk_seq ?_
      refine jk_if_t rfl ?_
      refine jk_skip ?_
      refine jk_seq ?_
      refine jk_block ?_
      refine jk_seq ?_
      refine jk_region ?_
      refine zq_idxN ?_
      refine zq_loadS ?_
      refine zl_allocS ?_; rintro _ _ ⟨b, rfl, rfl⟩
      refine zs_storeS ?_; rintro _ _ ⟨rfl, rfl⟩
      refine jk_nil ?_
      refine jk_seq ?_
      refine jk_region ?_
      refine zq_fld0 ?_
      refine zq_load ?_
      refine zq_move ?_
      refine zq_eqF ?_
      refine zq_move ?_
      refine jk_pass rfl rfl rfl ?_
      refine jk_pass rfl rfl rfl ?_
      refine jk_pass rfl rfl rfl ?_
      refine jk_pass rfl rfl rfl ?_
      refine zq_pick_f ?_
      refine zq_move ?_
      refine jk_pass rfl rfl rfl ?_
      refine jk_pass rfl rfl rfl ?_
      refine jk_pass rfl rfl rfl ?_
      refine jk_pass rfl rfl rfl ?_
      refine zq_pick_f ?_
      refine jk_nil ?_
      refine jk_if_f rfl ?_
      refine jk_skip ?_
      refine jk_blk ?_
      refine jk_region ?_
      refine zq_inc ?_
      refine zq_move ?_
      refine jk_nil ?_
      refine jk_round (k + 1) (by omega) (by omega) ?_ selZ
      rw [hm]
      exact covZ
  · have hke : k = hs.length := by omega
    subst hke
    rw [List.take_length]
    refine jk_seq ?_
    refine jk_region ?_
    refine zq_ltF ?_
    refine jk_nil ?_
    refine jk_seq ?_
    refine jk_if_f rfl ?_
    refine jk_exit rfl ?_
    refine jk_seq ?_
    refine jk_region ?_
    refine zq_move ?_
    refine zq_assign ?_
    refine jk_nil ?_
    exact jk_ret_any (res1 rfl rfl) (by (repeat (first | exact rs_nil | (refine rs_cons ?_ ?_; (focus ((repeat (first | exact .here | apply Mem.there | apply Take.there)); first | done | fail))) | exact fun ρ hρ => hρ | (intro ρ hρ; repeat (first | exact hρ | refine List.mem_cons_of_mem _ ?_)))); first | done | fail) selZ ⟨rfl, rfl⟩
set_option maxHeartbeats 16000000 in
theorem refCertRoom_spec {ρ τ σ υ : PH} {pq pc pb ph : Option Addr} {kq kc kb kh : Nat} {qs : List Int} {cs : List Ct} {bs : List Bk} {hs : List Hd} (hT : TbAt ρ τ σ υ pq pc pb ph kq kc kb kh qs cs bs hs) (d : Dm) (nn : Nat) (t Q : Int) (hQ : qs[nn]? = some Q) (hQb : 0 ≤ Q ∧ Q ≤ 1073741824) (hok : ∀ h ∈ hs, okHd qs.length h) (hl : hs.length ≤ 600) :
    Ans Try.prog (fv 27) [.agg #[.slice pq qs.length kq, .slice pc cs.length kc, .slice pb bs.length kb, .slice ph hs.length kh], .agg #[int d.s, int d.d, int d.v, int d.r, int d.e], int nn, int t] [ρ, τ, σ, υ] (fun r => r = int (roomT qs hs d nn t)) := by
  have hnl := (List.getElem?_eq_some_iff.1 hQ).1
  have hst := stored_spec υ _ hs nn t qs.length hT.hh hok hl
  have hb := stored_bd (n := nn) (t := t) (l := hs) hok
  refine spec_in (cap := []) Try.func27 rfl rfl Try.ntmps27 rfl (by (repeat (first | exact EnvA.nil EnvI.nil | apply EnvA.cons | apply EnvA.nil | exact EnvI.nil | apply EnvI.cons)); first | done | fail) (fun N β => ?_)
  refine jk_seq ?_
  refine jk_region ?_
  refine jk_op (l_boxS rfl) rfl rfl rfl ?_
  rintro _ _ ⟨b1, rfl, rfl⟩
  refine jk_freeze (ρ := sng b1 _) takeZ ?_
  have ct : RdN (sng b1 (.cells #[.slice pq qs.length kq, .slice pc cs.length kc, .slice pb bs.length kb, .slice ph hs.length kh] 29 (0, 0))) b1 0 [.slice pq qs.length kq, .slice pc cs.length kc, .slice pb bs.length kb, .slice ph hs.length kh] := rdN_sng (vs := [.slice pq qs.length kq, .slice pc cs.length kc, .slice pb bs.length kb, .slice ph hs.length kh])
  have ct0 : rdc (sng b1 (.cells #[.slice pq qs.length kq, .slice pc cs.length kc, .slice pb bs.length kb, .slice ph hs.length kh] 29 (0, 0))) b1 0 = some (.slice pq qs.length kq) := by rw [rdc_sng]; rfl
  have ct1 : rdc (sng b1 (.cells #[.slice pq qs.length kq, .slice pc cs.length kc, .slice pb bs.length kb, .slice ph hs.length kh] 29 (0, 0))) b1 1 = some (.slice pc cs.length kc) := by rw [rdc_sng]; rfl
  have ct2 : rdc (sng b1 (.cells #[.slice pq qs.length kq, .slice pc cs.length kc, .slice pb bs.length kb, .slice ph hs.length kh] 29 (0, 0))) b1 2 = some (.slice pb bs.length kb) := by rw [rdc_sng]; rfl
  have ct3 : rdc (sng b1 (.cells #[.slice pq qs.length kq, .slice pc cs.length kc, .slice pb bs.length kb, .slice ph hs.length kh] 29 (0, 0))) b1 3 = some (.slice ph hs.length kh) := by rw [rdc_sng]; rfl
  have ctp : RdP (sng b1 (.cells #[.slice pq qs.length kq, .slice pc cs.length kc, .slice pb bs.length kb, .slice ph hs.length kh] 29 (0, 0))) b1 0 [.slice pq qs.length kq, .slice pc cs.length kc] := rdP_sng (xs := [.slice pq qs.length kq, .slice pc cs.length kc, .slice pb bs.length kb, .slice ph hs.length kh]) rfl
  refine jk_op (l_boxS rfl) rfl rfl rfl ?_
  rintro _ _ ⟨b2, rfl, rfl⟩
  refine jk_freeze (ρ := sng b2 _) takeZ ?_
  have cd : RdN (sng b2 (.cells #[int d.s, int d.d, int d.v, int d.r, int d.e] 31 (0, 0))) b2 0 [int d.s, int d.d, int d.v, int d.r, int d.e] := rdN_sng (vs := [int d.s, int d.d, int d.v, int d.r, int d.e])
  have cd0 : rdc (sng b2 (.cells #[int d.s, int d.d, int d.v, int d.r, int d.e] 31 (0, 0))) b2 0 = some (int d.s) := by rw [rdc_sng]; rfl
  have cd1 : rdc (sng b2 (.cells #[int d.s, int d.d, int d.v, int d.r, int d.e] 31 (0, 0))) b2 1 = some (int d.d) := by rw [rdc_sng]; rfl
  have cd2 : rdc (sng b2 (.cells #[int d.s, int d.d, int d.v, int d.r, int d.e] 31 (0, 0))) b2 2 = some (int d.v) := by rw [rdc_sng]; rfl
  have cd3 : rdc (sng b2 (.cells #[int d.s, int d.d, int d.v, int d.r, int d.e] 31 (0, 0))) b2 3 = some (int d.r) := by rw [rdc_sng]; rfl
  have cd4 : rdc (sng b2 (.cells #[int d.s, int d.d, int d.v, int d.r, int d.e] 31 (0, 0))) b2 4 = some (int d.e) := by rw [rdc_sng]; rfl
  obtain ⟨bq, oq, rfl, gq⟩ := hT.rq.int hQ
  unfold roomT
  by_cases h1 : (nn : Int) = d.s
  · rw [if_pos (.inl h1)]
    refine zq_assign ?_
    refine jk_nil ?_
    refine jk_seq ?_
    refine jk_seq ?_
    refine jk_region ?_
    refine zq_move ?_
    refine zq_fld0 ?_
    refine zq_load ?_
    refine zq_eq ?_
    refine zq_move ?_
    refine jk_pass rfl rfl rfl ?_
    refine jk_pass rfl rfl rfl ?_
    refine jk_pass rfl rfl rfl ?_
    refine jk_pass rfl rfl rfl ?_
    refine zq_pick_t ?_
    refine jk_nil ?_
    refine jk_if_t rfl ?_
    refine jk_seq ?_
    refine jk_region ?_
    refine zq_assign ?_
    refine jk_nil ?_
    exact jk_ret_any (res1 rfl rfl) (by (repeat (first | exact rs_nil | (refine rs_cons ?_ ?_; (focus ((repeat (first | exact .here | apply Mem.there | apply Take.there)); first | done | fail))) | exact fun ρ hρ => hρ | (intro ρ hρ; repeat (first | exact hρ | refine List.mem_cons_of_mem _ ?_)))); first | done | fail) selZ ⟨rfl, rfl⟩
  by_cases h2 : (nn : Int) = d.d
  · rw [if_pos (.inr h2)]
    refine zq_assign ?_
    refine jk_nil ?_
    refine jk_seq ?_
    refine jk_seq ?_
    refine jk_region ?_
    refine zq_move ?_
    refine zq_fld0 ?_
    refine zq_load ?_
    refine zq_eqF ?_
    refine zq_move ?_
    refine zq_move ?_
    refine zq_fld0 ?_
    refine zq_load ?_
    refine zq_eq ?_
    refine zq_pick_f ?_
    refine jk_nil ?_
    refine jk_if_t rfl ?_
    refine jk_seq ?_
    refine jk_region ?_
    refine zq_assign ?_
    refine jk_nil ?_
    exact jk_ret_any (res1 rfl rfl) (by (repeat (first | exact rs_nil | (refine rs_cons ?_ ?_; (focus ((repeat (first | exact .here | apply Mem.there | apply Take.there)); first | done | fail))) | exact fun ρ hρ => hρ | (intro ρ hρ; repeat (first | exact hρ | refine List.mem_cons_of_mem _ ?_)))); first | done | fail) selZ ⟨rfl, rfl⟩
  rw [if_neg (by omega), Int.toNat_natCast, List.getD_eq_getElem?_getD, hQ, Option.getD_some]
  generalize Step.stored hs nn t = s at hst hb
  refine zq_assign ?_
  refine jk_nil ?_
  refine jk_seq ?_
  refine jk_seq ?_
  refine jk_region ?_
  refine zq_move ?_
  refine zq_fld0 ?_
  refine zq_load ?_
  refine zq_eqF ?_
  refine zq_move ?_
  refine zq_move ?_
  refine zq_fld0 ?_
  refine zq_load ?_
  refine zq_eqF ?_
  refine zq_pick_f ?_
  refine jk_nil ?_
  refine jk_if_f rfl ?_
  refine jk_skip ?_
  refine jk_seq ?_
  refine jk_draw (.q 0 (.q 1 (.q 2 (.q 3 (.q 4 (.q 5 (.q 6 (.q 7 (.q 8 (.q 9 (.l 10 .e (.q 11 (.q 12 .nil))))))))))))) [] rfl (by kernel_rfl) Sel.nil ?_
  refine zd_fld0 ?_
  refine zd_fld0 ?_
  refine zd_load ?_
  refine zd_move ?_
  refine zd_idx1 ?_
  refine zd_load ?_
  refine zd_fld0 ?_
  refine zd_load ?_
  refine zd_move ?_
  refine zd_move ?_
  refine dj_l (a_call rfl hst rfl rfl rdZ rfl rfl ?_)
  rintro _ rfl
  refine zd_sub ?_
  refine zd_assign ?_
  refine dj_end ?_
  skip
  exact jk_ret_any (res1 rfl rfl) (by (repeat (first | exact rs_nil | (refine rs_cons ?_ ?_; (focus ((repeat (first | exact .here | apply Mem.there | apply Take.there)); first | done | fail))) | exact fun ρ hρ => hρ | (intro ρ hρ; repeat (first | exact hρ | refine List.mem_cons_of_mem _ ?_)))); first | done | fail) selZ ⟨rfl, rfl⟩
theorem arrival_spec (c : Ct) (t : Int) (h1 : In64 (t + 1)) (h2 : In64 (t + 1 + c.g)) : Ans Try.prog (fv 32) [.agg #[int c.f, int c.t, int c.s, int c.e, int c.r, int c.g, int c.l], int t] [] (fun r => r = int (t + 1 + c.g)) := by
  refine spec_in (cap := []) Try.func32 rfl rfl Try.ntmps32 rfl (by (repeat (first | exact EnvA.nil EnvI.nil | apply EnvA.cons | apply EnvA.nil | exact EnvI.nil | apply EnvI.cons)); first | done | fail) (fun N β => ?_)
  unfold In64 at h1 h2
  refine jk_seq ?_
  refine jk_region ?_
  refine zl_boxS ?_; rintro _ _ ⟨b, rfl, rfl⟩
  refine zq_assign ?_
  refine jk_nil ?_
  refine jk_seq ?_
  refine jk_region ?_
  refine zq_move ?_
  refine zq_add ?_
  refine zq_fld0 ?_
  refine zq_load ?_
  refine zq_add ?_
  refine zq_assign ?_
  refine jk_nil ?_
  exact jk_ret_any (res1 rfl rfl) (by (repeat (first | exact rs_nil | (refine rs_cons ?_ ?_; (focus ((repeat (first | exact .here | apply Mem.there | apply Take.there)); first | done | fail))) | exact fun ρ hρ => hρ | (intro ρ hρ; repeat (first | exact hρ | refine List.mem_cons_of_mem _ ?_)))); first | done | fail) selZ ⟨rfl, rfl⟩
theorem arrives_spec {ρ τ σ υ : PH} {pq pc pb ph : Option Addr} {kq kc kb kh : Nat} {qs : List Int} {cs : List Ct} {bs : List Bk} {hs : List Hd} (hT : TbAt ρ τ σ υ pq pc pb ph kq kc kb kh qs cs bs hs) (nn : Nat) (c : Ct) (t : Int) (hx : cs[nn]? = some c) (h1 : In64 (t + 1)) (h2 : In64 (t + 1 + c.g)) : Ans Try.prog (fv 42) [.agg #[.slice pq qs.length kq, .slice pc cs.length kc, .slice pb bs.length kb, .slice ph hs.length kh], int nn, int t] [ρ, τ, σ, υ] (fun r => r = int (t + 1 + c.g)) := by
  have hlt := (List.getElem?_eq_some_iff.1 hx).1
  refine spec_in (cap := []) Try.func42 rfl rfl Try.ntmps42 rfl (by (repeat (first | exact EnvA.nil EnvI.nil | apply EnvA.cons | apply EnvA.nil | exact EnvI.nil | apply EnvI.cons)); first | done | fail) (fun N β => ?_)
  refine jk_seq ?_
  refine jk_region ?_
  refine jk_op (l_boxS rfl) rfl rfl rfl ?_
  rintro _ _ ⟨b1, rfl, rfl⟩
  refine jk_freeze (ρ := sng b1 _) takeZ ?_
  have ct : RdN (sng b1 (.cells #[.slice pq qs.length kq, .slice pc cs.length kc, .slice pb bs.length kb, .slice ph hs.length kh] 29 (0, 0))) b1 0 [.slice pq qs.length kq, .slice pc cs.length kc, .slice pb bs.length kb, .slice ph hs.length kh] := rdN_sng (vs := [.slice pq qs.length kq, .slice pc cs.length kc, .slice pb bs.length kb, .slice ph hs.length kh])
  have ct0 : rdc (sng b1 (.cells #[.slice pq qs.length kq, .slice pc cs.length kc, .slice pb bs.length kb, .slice ph hs.length kh] 29 (0, 0))) b1 0 = some (.slice pq qs.length kq) := by rw [rdc_sng]; rfl
  have ct1 : rdc (sng b1 (.cells #[.slice pq qs.length kq, .slice pc cs.length kc, .slice pb bs.length kb, .slice ph hs.length kh] 29 (0, 0))) b1 1 = some (.slice pc cs.length kc) := by rw [rdc_sng]; rfl
  have ct2 : rdc (sng b1 (.cells #[.slice pq qs.length kq, .slice pc cs.length kc, .slice pb bs.length kb, .slice ph hs.length kh] 29 (0, 0))) b1 2 = some (.slice pb bs.length kb) := by rw [rdc_sng]; rfl
  have ct3 : rdc (sng b1 (.cells #[.slice pq qs.length kq, .slice pc cs.length kc, .slice pb bs.length kb, .slice ph hs.length kh] 29 (0, 0))) b1 3 = some (.slice ph hs.length kh) := by rw [rdc_sng]; rfl
  have ctp : RdP (sng b1 (.cells #[.slice pq qs.length kq, .slice pc cs.length kc, .slice pb bs.length kb, .slice ph hs.length kh] 29 (0, 0))) b1 0 [.slice pq qs.length kq, .slice pc cs.length kc] := rdP_sng (xs := [.slice pq qs.length kq, .slice pc cs.length kc, .slice pb bs.length kb, .slice ph hs.length kh]) rfl
  obtain ⟨b3, o3, rfl, hrd⟩ := ctRow hT.rc hx
  have g5 := hrd.get (j := 5) rfl
  unfold In64 at h1 h2
  refine zq_assign ?_
  refine jk_nil ?_
  refine jk_seq ?_
  refine jk_region ?_
  refine zq_move ?_
  refine zq_add ?_
  refine zq_fld0 ?_
  refine zq_fld0 ?_
  refine zq_load ?_
  refine zq_move ?_
  refine zq_idxN ?_
  refine zq_fld ?_
  refine zq_load ?_
  refine zq_add ?_
  refine zq_assign ?_
  refine jk_nil ?_
  exact jk_ret_any (res1 rfl rfl) (by (repeat (first | exact rs_nil | (refine rs_cons ?_ ?_; (focus ((repeat (first | exact .here | apply Mem.there | apply Take.there)); first | done | fail))) | exact fun ρ hρ => hρ | (intro ρ hρ; repeat (first | exact hρ | refine List.mem_cons_of_mem _ ?_)))); first | done | fail) selZ ⟨rfl, rfl⟩
def encX (x : Sh) : List Value := [int x.c, int x.t, int x.n]
theorem encX_len (x : Sh) : (encX x).length = 3 := rfl
abbrev ShAt (ρ : PH) (v : Value) (l : List Sh) : Prop := SlE encX 3 ρ v l
theorem shRow {ρ : PH} {p : Option Addr} {l : List Sh} (h : RowsE encX 3 ρ p l) {i : Nat} {x : Sh} (hx : l[i]? = some x) :
    ∃ b o, p = some ⟨b, o, none⟩ ∧ RdN ρ b (o + i * 3) [int x.c, int x.t, int x.n] ∧ rdc ρ b (o + i * 3) = some (int x.c) ∧ rdc ρ b (o + i * 3 + 1) = some (int x.t) ∧ rdc ρ b (o + i * 3 + 2) = some (int x.n) := by
  obtain ⟨b, o, e, hr⟩ := h i x hx
  exact ⟨b, o, e, hr, hr.get0, hr.get (j := 1) rfl, hr.get (j := 2) rfl⟩
set_option maxHeartbeats 32000000 in
theorem checkShip_spec {ρ τ σ υ : PH} {pq pc pb ph : Option Addr} {kq kc kb kh : Nat} {qs : List Int} {cs : List Ct} {bs : List Bk} {hs : List Hd} (hT : TbAt ρ τ σ υ pq pc pb ph kq kc kb kh qs cs bs hs) (d : Dm) (x : Sh) (hcs : ∀ c ∈ cs, chkCt c = 0) (hbl : bs.length ≤ 1000) (hd : 0 ≤ d.r) :
    Ans Try.prog (fv 19) [.agg #[.slice pq qs.length kq, .slice pc cs.length kc, .slice pb bs.length kb, .slice ph hs.length kh], .agg #[int d.s, int d.d, int d.v, int d.r, int d.e], .agg #[int x.c, int x.t, int x.n]] [ρ, τ, σ, υ] (fun r => r = int (ship1 cs bs d x)) := by
  refine spec_in (cap := []) Try.func19 rfl rfl Try.ntmps19 rfl (by (repeat (first | exact EnvA.nil EnvI.nil | apply EnvA.cons | apply EnvA.nil | exact EnvI.nil | apply EnvI.cons)); first | done | fail) (fun N β => ?_)
  refine jk_seq ?_
  refine jk_region ?_
  refine jk_op (l_boxS rfl) rfl rfl rfl ?_
  rintro _ _ ⟨b1, rfl, rfl⟩
  refine jk_freeze (ρ := sng b1 _) takeZ ?_
  have ct : RdN (sng b1 (.cells #[.slice pq qs.length kq, .slice pc cs.length kc, .slice pb bs.length kb, .slice ph hs.length kh] 29 (0, 0))) b1 0 [.slice pq qs.length kq, .slice pc cs.length kc, .slice pb bs.length kb, .slice ph hs.length kh] := rdN_sng (vs := [.slice pq qs.length kq, .slice pc cs.length kc, .slice pb bs.length kb, .slice ph hs.length kh])
  have ct0 : rdc (sng b1 (.cells #[.slice pq qs.length kq, .slice pc cs.length kc, .slice pb bs.length kb, .slice ph hs.length kh] 29 (0, 0))) b1 0 = some (.slice pq qs.length kq) := by rw [rdc_sng]; rfl
  have ct1 : rdc (sng b1 (.cells #[.slice pq qs.length kq, .slice pc cs.length kc, .slice pb bs.length kb, .slice ph hs.length kh] 29 (0, 0))) b1 1 = some (.slice pc cs.length kc) := by rw [rdc_sng]; rfl
  have ct2 : rdc (sng b1 (.cells #[.slice pq qs.length kq, .slice pc cs.length kc, .slice pb bs.length kb, .slice ph hs.length kh] 29 (0, 0))) b1 2 = some (.slice pb bs.length kb) := by rw [rdc_sng]; rfl
  have ct3 : rdc (sng b1 (.cells #[.slice pq qs.length kq, .slice pc cs.length kc, .slice pb bs.length kb, .slice ph hs.length kh] 29 (0, 0))) b1 3 = some (.slice ph hs.length kh) := by rw [rdc_sng]; rfl
  have ctp : RdP (sng b1 (.cells #[.slice pq qs.length kq, .slice pc cs.length kc, .slice pb bs.length kb, .slice ph hs.length kh] 29 (0, 0))) b1 0 [.slice pq qs.length kq, .slice pc cs.length kc] := rdP_sng (xs := [.slice pq qs.length kq, .slice pc cs.length kc, .slice pb bs.length kb, .slice ph hs.length kh]) rfl
  refine jk_op (l_boxS rfl) rfl rfl rfl ?_
  rintro _ _ ⟨b2, rfl, rfl⟩
  refine jk_freeze (ρ := sng b2 _) takeZ ?_
  have cd : RdN (sng b2 (.cells #[int d.s, int d.d, int d.v, int d.r, int d.e] 31 (0, 0))) b2 0 [int d.s, int d.d, int d.v, int d.r, int d.e] := rdN_sng (vs := [int d.s, int d.d, int d.v, int d.r, int d.e])
  have cd0 : rdc (sng b2 (.cells #[int d.s, int d.d, int d.v, int d.r, int d.e] 31 (0, 0))) b2 0 = some (int d.s) := by rw [rdc_sng]; rfl
  have cd1 : rdc (sng b2 (.cells #[int d.s, int d.d, int d.v, int d.r, int d.e] 31 (0, 0))) b2 1 = some (int d.d) := by rw [rdc_sng]; rfl
  have cd2 : rdc (sng b2 (.cells #[int d.s, int d.d, int d.v, int d.r, int d.e] 31 (0, 0))) b2 2 = some (int d.v) := by rw [rdc_sng]; rfl
  have cd3 : rdc (sng b2 (.cells #[int d.s, int d.d, int d.v, int d.r, int d.e] 31 (0, 0))) b2 3 = some (int d.r) := by rw [rdc_sng]; rfl
  have cd4 : rdc (sng b2 (.cells #[int d.s, int d.d, int d.v, int d.r, int d.e] 31 (0, 0))) b2 4 = some (int d.e) := by rw [rdc_sng]; rfl
  refine jk_op (l_boxS rfl) rfl rfl rfl ?_
  rintro _ _ ⟨b3, rfl, rfl⟩
  refine jk_freeze (ρ := sng b3 _) takeZ ?_
  have cx : RdN (sng b3 (.cells #[int x.c, int x.t, int x.n] 53 (0, 0))) b3 0 [int x.c, int x.t, int x.n] := rdN_sng (vs := [int x.c, int x.t, int x.n])
  have cx0 : rdc (sng b3 (.cells #[int x.c, int x.t, int x.n] 53 (0, 0))) b3 0 = some (int x.c) := by rw [rdc_sng]; rfl
  have cx1 : rdc (sng b3 (.cells #[int x.c, int x.t, int x.n] 53 (0, 0))) b3 1 = some (int x.t) := by rw [rdc_sng]; rfl
  have cx2 : rdc (sng b3 (.cells #[int x.c, int x.t, int x.n] 53 (0, 0))) b3 2 = some (int x.n) := by rw [rdc_sng]; rfl
  unfold ship1
  by_cases h1 : x.c < 0
  · rw [if_pos (.inl h1)]
    refine zq_assign ?_
    refine jk_nil ?_
    refine jk_seq ?_
    refine jk_seq ?_
    refine jk_region ?_
    refine zq_fld0 ?_
    refine zq_load ?_
    refine zq_lt ?_
    refine zq_move ?_
    refine jk_pass rfl rfl rfl ?_
    refine jk_pass rfl rfl rfl ?_
    refine jk_pass rfl rfl rfl ?_
    refine jk_pass rfl rfl rfl ?_
    refine jk_pass rfl rfl rfl ?_
    refine jk_pass rfl rfl rfl ?_
    refine jk_pass rfl rfl rfl ?_
    refine zq_pick_t ?_
    refine jk_nil ?_
    refine jk_if_t rfl ?_
    refine jk_seq ?_
    refine jk_region ?_
    refine zq_assign ?_
    refine jk_nil ?_
    exact jk_ret_any (res1 rfl rfl) (by (repeat (first | exact rs_nil | (refine rs_cons ?_ ?_; (focus ((repeat (first | exact .here | apply Mem.there | apply Take.there)); first | done | fail))) | exact fun ρ hρ => hρ | (intro ρ hρ; repeat (first | exact hρ | refine List.mem_cons_of_mem _ ?_)))); first | done | fail) selZ ⟨rfl, rfl⟩
  by_cases h2 : (cs.length : Int) ≤ x.c
  · rw [if_pos (.inr h2)]
    refine zq_assign ?_
    refine jk_nil ?_
    refine jk_seq ?_
    refine jk_seq ?_
    refine jk_region ?_
    refine zq_fld0 ?_
    refine zq_load ?_
    refine zq_ltF ?_
    refine zq_move ?_
    refine zq_fld0 ?_
    refine zq_load ?_
    refine zq_fld0 ?_
    refine zq_fld0 ?_
    refine zq_load ?_
    refine zq_len ?_
    refine zq_ge ?_
    refine zq_pick_f ?_
    refine jk_nil ?_
    refine jk_if_t rfl ?_
    refine jk_seq ?_
    refine jk_region ?_
    refine zq_assign ?_
    refine jk_nil ?_
    exact jk_ret_any (res1 rfl rfl) (by (repeat (first | exact rs_nil | (refine rs_cons ?_ ?_; (focus ((repeat (first | exact .here | apply Mem.there | apply Take.there)); first | done | fail))) | exact fun ρ hρ => hρ | (intro ρ hρ; repeat (first | exact hρ | refine List.mem_cons_of_mem _ ?_)))); first | done | fail) selZ ⟨rfl, rfl⟩
  rw [if_neg (by omega)]
  obtain ⟨nn, hnn⟩ : ∃ nn : Nat, x.c = nn := ⟨x.c.toNat, by omega⟩
  have hlt : nn < cs.length := by omega
  have hx := List.getElem?_eq_getElem hlt
  have hck := chkCt_all (hcs _ (List.getElem_mem hlt))
  obtain ⟨b4, o4, rfl, hrd⟩ := ctRow hT.rc hx
  have hbk := booked_spec hT x.c x.t hbl
  rw [hnn] at hbk
  have e1 : cs[x.c.toNat]? = some cs[nn] := by rw [hnn, Int.toNat_natCast]; exact hx
  have e2 : bookedB bs x.c x.t = bookedB bs nn x.t := by rw [hnn]
  rw [e1, e2]
  have cn : rdc (sng b3 (.cells #[int x.c, int x.t, int x.n] 53 (0, 0))) b3 0 = some (int nn) := by rw [rdc_sng, ← hnn]; rfl
  clear cx0
  generalize cs[nn] = c at hrd hck
  dsimp only
  by_cases h3 : x.t < d.r
  · rw [if_pos (.inl h3)]
    refine zq_assign ?_
    refine jk_nil ?_
    refine jk_seq ?_
    refine jk_seq ?_
    refine jk_region ?_
    refine zq_fld0 ?_
    refine zq_load ?_
    refine zq_ltF ?_
    refine zq_move ?_
    refine zq_fld0 ?_
    refine zq_load ?_
    refine zq_fld0 ?_
    refine zq_fld0 ?_
    refine zq_load ?_
    refine zq_len ?_
    refine zq_geF ?_
    refine zq_pick_f ?_
    refine jk_nil ?_
    refine jk_if_f rfl ?_
    refine jk_skip ?_
    refine jk_seq ?_
    refine jk_region ?_
    refine zq_fld0 ?_
    refine zq_fld0 ?_
    refine zq_load ?_
    refine zq_fld0 ?_
    refine zq_load ?_
    refine zq_idxN ?_
    refine zq_loadS ?_
    refine zl_allocS ?_; rintro _ _ ⟨b, rfl, rfl⟩
    refine zs_storeS ?_; rintro _ _ ⟨rfl, rfl⟩
    refine jk_nil ?_
    refine jk_seq ?_
    refine jk_seq ?_
    refine jk_region ?_
    refine zq_fld0 ?_
    refine zq_load ?_
    refine zq_fld0 ?_
    refine zq_load ?_
    refine zq_fld0 ?_
    refine zq_load ?_
    refine zq_max ?_
    refine zq_lt ?_
    refine zq_move ?_
    refine jk_pass rfl rfl rfl ?_
    refine jk_pass rfl rfl rfl ?_
    refine jk_pass rfl rfl rfl ?_
    refine jk_pass rfl rfl rfl ?_
    refine jk_pass rfl rfl rfl ?_
    refine zq_pick_t ?_
    refine zq_move ?_
    refine jk_pass rfl rfl rfl ?_
    refine jk_pass rfl rfl rfl ?_
    refine jk_pass rfl rfl rfl ?_
    refine zq_pick_t ?_
    refine zq_move ?_
    refine jk_pass rfl rfl rfl ?_
    refine jk_pass rfl rfl rfl ?_
    refine jk_pass rfl rfl rfl ?_
    refine jk_pass rfl rfl rfl ?_
    refine jk_pass rfl rfl rfl ?_
    refine zq_pick_t ?_
    refine jk_nil ?_
    refine jk_if_t rfl ?_
    refine jk_seq ?_
    refine jk_region ?_
    refine zq_assign ?_
    refine jk_nil ?_
    exact jk_ret_any (res1 rfl rfl) (by (repeat (first | exact rs_nil | (refine rs_cons ?_ ?_; (focus ((repeat (first | exact .here | apply Mem.there | apply Take.there)); first | done | fail))) | exact fun ρ hρ => hρ | (intro ρ hρ; repeat (first | exact hρ | refine List.mem_cons_of_mem _ ?_)))); first | done | fail) selZ ⟨rfl, rfl⟩
  by_cases h4 : x.t < c.s
  · rw [if_pos (.inr (.inl h4))]
    refine zq_assign ?_
    refine jk_nil ?_
    refine jk_seq ?_
    refine jk_seq ?_
    refine jk_region ?_
    refine zq_fld0 ?_
    refine zq_load ?_
    refine zq_ltF ?_
    refine zq_move ?_
    refine zq_fld0 ?_
    refine zq_load ?_
    refine zq_fld0 ?_
    refine zq_fld0 ?_
    refine zq_load ?_
    refine zq_len ?_
    refine zq_geF ?_
    refine zq_pick_f ?_
    refine jk_nil ?_
    refine jk_if_f rfl ?_
    refine jk_skip ?_
    refine jk_seq ?_
    refine jk_region ?_
    refine zq_fld0 ?_
    refine zq_fld0 ?_
    refine zq_load ?_
    refine zq_fld0 ?_
    refine zq_load ?_
    refine zq_idxN ?_
    refine zq_loadS ?_
    refine zl_allocS ?_; rintro _ _ ⟨b, rfl, rfl⟩
    refine zs_storeS ?_; rintro _ _ ⟨rfl, rfl⟩
    refine jk_nil ?_
    refine jk_seq ?_
    refine jk_seq ?_
    refine jk_region ?_
    refine zq_fld0 ?_
    refine zq_load ?_
    refine zq_fld0 ?_
    refine zq_load ?_
    refine zq_fld0 ?_
    refine zq_load ?_
    refine zq_max ?_
    refine zq_lt ?_
    refine zq_move ?_
    refine jk_pass rfl rfl rfl ?_
    refine jk_pass rfl rfl rfl ?_
    refine jk_pass rfl rfl rfl ?_
    refine jk_pass rfl rfl rfl ?_
    refine jk_pass rfl rfl rfl ?_
    refine zq_pick_t ?_
    refine zq_move ?_
    refine jk_pass rfl rfl rfl ?_
    refine jk_pass rfl rfl rfl ?_
    refine jk_pass rfl rfl rfl ?_
    refine zq_pick_t ?_
    refine zq_move ?_
    refine jk_pass rfl rfl rfl ?_
    refine jk_pass rfl rfl rfl ?_
    refine jk_pass rfl rfl rfl ?_
    refine jk_pass rfl rfl rfl ?_
    refine jk_pass rfl rfl rfl ?_
    refine zq_pick_t ?_
    refine jk_nil ?_
    refine jk_if_t rfl ?_
    refine jk_seq ?_
    refine jk_region ?_
    refine zq_assign ?_
    refine jk_nil ?_
    exact jk_ret_any (res1 rfl rfl) (by (repeat (first | exact rs_nil | (refine rs_cons ?_ ?_; (focus ((repeat (first | exact .here | apply Mem.there | apply Take.there)); first | done | fail))) | exact fun ρ hρ => hρ | (intro ρ hρ; repeat (first | exact hρ | refine List.mem_cons_of_mem _ ?_)))); first | done | fail) selZ ⟨rfl, rfl⟩
  by_cases h5 : c.e ≤ x.t
  · rw [if_pos (.inr (.inr (.inl h5)))]
    refine zq_assign ?_
    refine jk_nil ?_
    refine jk_seq ?_
    refine jk_seq ?_
    refine jk_region ?_
    refine zq_fld0 ?_
    refine zq_load ?_
    refine zq_ltF ?_
    refine zq_move ?_
    refine zq_fld0 ?_
    refine zq_load ?_
    refine zq_fld0 ?_
    refine zq_fld0 ?_
    refine zq_load ?_
    refine zq_len ?_
    refine zq_geF ?_
    refine zq_pick_f ?_
    refine jk_nil ?_
    refine jk_if_f rfl ?_
    refine jk_skip ?_
    refine jk_seq ?_
    refine jk_region ?_
    refine zq_fld0 ?_
    refine zq_fld0 ?_
    refine zq_load ?_
    refine zq_fld0 ?_
    refine zq_load ?_
    refine zq_idxN ?_
    refine zq_loadS ?_
    refine zl_allocS ?_; rintro _ _ ⟨b, rfl, rfl⟩
    refine zs_storeS ?_; rintro _ _ ⟨rfl, rfl⟩
    refine jk_nil ?_
    refine jk_seq ?_
    refine jk_seq ?_
    refine jk_region ?_
    refine zq_fld0 ?_
    refine zq_load ?_
    refine zq_fld0 ?_
    refine zq_load ?_
    refine zq_fld0 ?_
    refine zq_load ?_
    refine zq_max ?_
    refine zq_ltF ?_
    refine zq_move ?_
    refine zq_fld0 ?_
    refine zq_load ?_
    refine zq_fld0 ?_
    refine zq_load ?_
    refine zq_ge ?_
    refine zq_pick_f ?_
    refine zq_move ?_
    refine jk_pass rfl rfl rfl ?_
    refine jk_pass rfl rfl rfl ?_
    refine jk_pass rfl rfl rfl ?_
    refine zq_pick_t ?_
    refine zq_move ?_
    refine jk_pass rfl rfl rfl ?_
    refine jk_pass rfl rfl rfl ?_
    refine jk_pass rfl rfl rfl ?_
    refine jk_pass rfl rfl rfl ?_
    refine jk_pass rfl rfl rfl ?_
    refine zq_pick_t ?_
    refine jk_nil ?_
    refine jk_if_t rfl ?_
    refine jk_seq ?_
    refine jk_region ?_
    refine zq_assign ?_
    refine jk_nil ?_
    exact jk_ret_any (res1 rfl rfl) (by (repeat (first | exact rs_nil | (refine rs_cons ?_ ?_; (focus ((repeat (first | exact .here | apply Mem.there | apply Take.there)); first | done | fail))) | exact fun ρ hρ => hρ | (intro ρ hρ; repeat (first | exact hρ | refine List.mem_cons_of_mem _ ?_)))); first | done | fail) selZ ⟨rfl, rfl⟩
  by_cases h6 : x.n < 1
  · rw [if_pos (.inr (.inr (.inr (.inl h6))))]
    refine zq_assign ?_
    refine jk_nil ?_
    refine jk_seq ?_
    refine jk_seq ?_
    refine jk_region ?_
    refine zq_fld0 ?_
    refine zq_load ?_
    refine zq_ltF ?_
    refine zq_move ?_
    refine zq_fld0 ?_
    refine zq_load ?_
    refine zq_fld0 ?_
    refine zq_fld0 ?_
    refine zq_load ?_
    refine zq_len ?_
    refine zq_geF ?_
    refine zq_pick_f ?_
    refine jk_nil ?_
    refine jk_if_f rfl ?_
    refine jk_skip ?_
    refine jk_seq ?_
    refine jk_region ?_
    refine zq_fld0 ?_
    refine zq_fld0 ?_
    refine zq_load ?_
    refine zq_fld0 ?_
    refine zq_load ?_
    refine zq_idxN ?_
    refine zq_loadS ?_
    refine zl_allocS ?_; rintro _ _ ⟨b, rfl, rfl⟩
    refine zs_storeS ?_; rintro _ _ ⟨rfl, rfl⟩
    refine jk_nil ?_
    refine jk_seq ?_
    refine jk_seq ?_
    refine jk_region ?_
    refine zq_fld0 ?_
    refine zq_load ?_
    refine zq_fld0 ?_
    refine zq_load ?_
    refine zq_fld0 ?_
    refine zq_load ?_
    refine zq_max ?_
    refine zq_ltF ?_
    refine zq_move ?_
    refine zq_fld0 ?_
    refine zq_load ?_
    refine zq_fld0 ?_
    refine zq_load ?_
    refine zq_geF ?_
    refine zq_pick_f ?_
    refine zq_move ?_
    refine zq_fld0 ?_
    refine zq_load ?_
    refine zq_lt ?_
    refine zq_pick_f ?_
    refine zq_move ?_
    refine jk_pass rfl rfl rfl ?_
    refine jk_pass rfl rfl rfl ?_
    refine jk_pass rfl rfl rfl ?_
    refine jk_pass rfl rfl rfl ?_
    refine jk_pass rfl rfl rfl ?_
    refine zq_pick_t ?_
    refine jk_nil ?_
    refine jk_if_t rfl ?_
    refine jk_seq ?_
    refine jk_region ?_
    refine zq_assign ?_
    refine jk_nil ?_
    exact jk_ret_any (res1 rfl rfl) (by (repeat (first | exact rs_nil | (refine rs_cons ?_ ?_; (focus ((repeat (first | exact .here | apply Mem.there | apply Take.there)); first | done | fail))) | exact fun ρ hρ => hρ | (intro ρ hρ; repeat (first | exact hρ | refine List.mem_cons_of_mem _ ?_)))); first | done | fail) selZ ⟨rfl, rfl⟩
  by_cases h7 : c.r < x.n
  · rw [if_pos (.inr (.inr (.inr (.inr h7))))]
    refine zq_assign ?_
    refine jk_nil ?_
    refine jk_seq ?_
    refine jk_seq ?_
    refine jk_region ?_
    refine zq_fld0 ?_
    refine zq_load ?_
    refine zq_ltF ?_
    refine zq_move ?_
    refine zq_fld0 ?_
    refine zq_load ?_
    refine zq_fld0 ?_
    refine zq_fld0 ?_
    refine zq_load ?_
    refine zq_len ?_
    refine zq_geF ?_
    refine zq_pick_f ?_
    refine jk_nil ?_
    refine jk_if_f rfl ?_
    refine jk_skip ?_
    refine jk_seq ?_
    refine jk_region ?_
    refine zq_fld0 ?_
    refine zq_fld0 ?_
    refine zq_load ?_
    refine zq_fld0 ?_
    refine zq_load ?_
    refine zq_idxN ?_
    refine zq_loadS ?_
    refine zl_allocS ?_; rintro _ _ ⟨b, rfl, rfl⟩
    refine zs_storeS ?_; rintro _ _ ⟨rfl, rfl⟩
    refine jk_nil ?_
    refine jk_seq ?_
    refine jk_seq ?_
    refine jk_region ?_
    refine zq_fld0 ?_
    refine zq_load ?_
    refine zq_fld0 ?_
    refine zq_load ?_
    refine zq_fld0 ?_
    refine zq_load ?_
    refine zq_max ?_
    refine zq_ltF ?_
    refine zq_move ?_
    refine zq_fld0 ?_
    refine zq_load ?_
    refine zq_fld0 ?_
    refine zq_load ?_
    refine zq_geF ?_
    refine zq_pick_f ?_
    refine zq_move ?_
    refine zq_fld0 ?_
    refine zq_load ?_
    refine zq_ltF ?_
    refine zq_pick_f ?_
    refine zq_move ?_
    refine zq_fld0 ?_
    refine zq_load ?_
    refine zq_fld0 ?_
    refine zq_load ?_
    refine zq_gt ?_
    refine zq_pick_f ?_
    refine jk_nil ?_
    refine jk_if_t rfl ?_
    refine jk_seq ?_
    refine jk_region ?_
    refine zq_assign ?_
    refine jk_nil ?_
    exact jk_ret_any (res1 rfl rfl) (by (repeat (first | exact rs_nil | (refine rs_cons ?_ ?_; (focus ((repeat (first | exact .here | apply Mem.there | apply Take.there)); first | done | fail))) | exact fun ρ hρ => hρ | (intro ρ hρ; repeat (first | exact hρ | refine List.mem_cons_of_mem _ ?_)))); first | done | fail) selZ ⟨rfl, rfl⟩
  rw [if_neg (by omega)]
  have harr := arrival_spec c x.t ⟨by omega, by omega⟩ ⟨by omega, by omega⟩
  refine zq_assign ?_
  refine jk_nil ?_
  refine jk_seq ?_
  refine jk_seq ?_
  refine jk_region ?_
  refine zq_fld0 ?_
  refine zq_load ?_
  refine zq_ltF ?_
  refine zq_move ?_
  refine zq_fld0 ?_
  refine zq_load ?_
  refine zq_fld0 ?_
  refine zq_fld0 ?_
  refine zq_load ?_
  refine zq_len ?_
  refine zq_geF ?_
  refine zq_pick_f ?_
  refine jk_nil ?_
  refine jk_if_f rfl ?_
  refine jk_skip ?_
  refine jk_seq ?_
  refine jk_region ?_
  refine zq_fld0 ?_
  refine zq_fld0 ?_
  refine zq_load ?_
  refine zq_fld0 ?_
  refine zq_load ?_
  refine zq_idxN ?_
  refine zq_loadS ?_
  refine zl_allocS ?_; rintro _ _ ⟨b, rfl, rfl⟩
  refine zs_storeS ?_; rintro _ _ ⟨rfl, rfl⟩
  refine jk_nil ?_
  refine jk_seq ?_
  refine jk_seq ?_
  refine jk_region ?_
  refine zq_fld0 ?_
  refine zq_load ?_
  refine zq_fld0 ?_
  refine zq_load ?_
  refine zq_fld0 ?_
  refine zq_load ?_
  refine zq_max ?_
  refine zq_ltF ?_
  refine zq_move ?_
  refine zq_fld0 ?_
  refine zq_load ?_
  refine zq_fld0 ?_
  refine zq_load ?_
  refine zq_geF ?_
  refine zq_pick_f ?_
  refine zq_move ?_
  refine zq_fld0 ?_
  refine zq_load ?_
  refine zq_ltF ?_
  refine zq_pick_f ?_
  refine zq_move ?_
  refine zq_fld0 ?_
  refine zq_load ?_
  refine zq_fld0 ?_
  refine zq_load ?_
  refine zq_gtF ?_
  refine zq_pick_f ?_
  refine jk_nil ?_
  refine jk_if_f rfl ?_
  refine jk_skip ?_
  refine jk_seq ?_
  refine jk_seq ?_
  revert b; intro b7
  refine jk_draw (.q 0 (.q 1 (.q 2 (.q 4 (.q 5 (.l 3 .e (.q 6 .nil))))))) [sng b7 _] rfl (by kernel_rfl) selZ ?_
  refine zd_loadS ?_
  refine zd_fld0 ?_
  refine zd_load ?_
  refine zd_fld0 ?_
  refine zd_load ?_
  refine dj_l (a_call rfl harr rfl rfl rdZ rfl rfl ?_)
  rintro _ rfl
  by_cases h8 : d.e < x.t + 1 + c.g
  · rw [if_pos h8]
    refine zd_gt ?_
    refine dj_end ?_
    refine jk_if_t rfl ?_
    refine jk_seq ?_
    refine jk_region ?_
    refine zq_assign ?_
    refine jk_nil ?_
    exact jk_ret_any (res1 rfl rfl) (by (repeat (first | exact rs_nil | (refine rs_cons ?_ ?_; (focus ((repeat (first | exact .here | apply Mem.there | apply Take.there)); first | done | fail))) | exact fun ρ hρ => hρ | (intro ρ hρ; repeat (first | exact hρ | refine List.mem_cons_of_mem _ ?_)))); first | done | fail) selZ ⟨rfl, rfl⟩
  rw [if_neg h8]
  refine zd_gtF ?_
  refine dj_end ?_
  refine jk_if_f rfl ?_
  refine jk_skip ?_
  refine jk_seq ?_
  refine jk_seq ?_
  refine jk_region ?_
  refine zq_loadS ?_
  refine zq_fld0 ?_
  refine zq_load ?_
  refine zq_fld0 ?_
  refine zq_load ?_
  refine jk_call hbk rfl rfl rdZ rfl rfl ?_
  rintro _ rfl
  cases bookedB bs nn x.t with
  | true =>
    refine jk_nil ?_
    refine jk_if_t rfl ?_
    refine jk_seq ?_
    refine jk_region ?_
    refine zq_assign ?_
    refine jk_nil ?_
    exact jk_ret_any (res1 rfl rfl) (by (repeat (first | exact rs_nil | (refine rs_cons ?_ ?_; (focus ((repeat (first | exact .here | apply Mem.there | apply Take.there)); first | done | fail))) | exact fun ρ hρ => hρ | (intro ρ hρ; repeat (first | exact hρ | refine List.mem_cons_of_mem _ ?_)))); first | done | fail) selZ ⟨rfl, rfl⟩
  | false =>
    refine jk_nil ?_
    refine jk_if_f rfl ?_
    refine jk_skip ?_
    refine jk_seq ?_
    refine jk_region ?_
    refine zq_assign ?_
    refine jk_nil ?_
    exact jk_ret_any (res1 rfl rfl) (by (repeat (first | exact rs_nil | (refine rs_cons ?_ ?_; (focus ((repeat (first | exact .here | apply Mem.there | apply Take.there)); first | done | fail))) | exact fun ρ hρ => hρ | (intro ρ hρ; repeat (first | exact hρ | refine List.mem_cons_of_mem _ ?_)))); first | done | fail) selZ ⟨rfl, rfl⟩
end Go.Proofs.Ytjbebmealbnmgaa
/- Cuts and their capacities. No program in sight. No conditions. -/
namespace Go.Step
abbrev Cu := List (List (Int × Int))
def cuAt (c : Cu) (n : Int) : List (Int × Int) := c.getD n.toNat []
/-- does a cut's edge cross: from there at a time, to there at a time? -/
def crossB (c : Cu) (f a t u : Int) : Bool := hasI (cuAt c f) a && !hasI (cuAt c t) u
def sumT (f : Int → Int) (a : Int) : Nat → Int
  | 0 => 0
  | m + 1 => sumT f a m + f (a + m)
theorem sumT_congr {f g : Int → Int} {a : Int} : ∀ {m : Nat}, (∀ k : Nat, k < m → f (a + k) = g (a + k)) → sumT f a m = sumT g a m
  | 0, _ => rfl
  | m + 1, h => by rw [sumT, sumT, sumT_congr (m := m) (fun k hk => h k (Nat.lt_succ_of_lt hk)), h m (Nat.lt_succ_self m)]
theorem sumT_bd {f : Int → Int} {B : Int} (h : ∀ t, -B ≤ f t ∧ f t ≤ B) (a : Int) : ∀ m : Nat, -(B * m) ≤ sumT f a m ∧ sumT f a m ≤ B * m
  | 0 => by simp [sumT]
  | m + 1 => by
    have ih := sumT_bd h a m
    have := h (a + m)
    have e : B * ((m + 1 : Nat) : Int) = B * (m : Int) + B := by rw [Int.natCast_succ, Int.mul_add, Int.mul_one]
    show -(B * ((m + 1 : Nat) : Int)) ≤ sumT f a m + f (a + m) ∧ sumT f a m + f (a + m) ≤ B * ((m + 1 : Nat) : Int)
    rw [e]
    omega
theorem sumT_ext {f : Int → Int} {a : Int} {m : Nat} : ∀ {k : Nat}, (∀ j : Nat, m ≤ j → j < m + k → f (a + j) = 0) → sumT f a (m + k) = sumT f a m
  | 0, _ => rfl
  | k + 1, h => by
    have h1 := sumT_ext (k := k) (fun j h1 h2 => h j h1 (by omega))
    have h2 := h (m + k) (by omega) (by omega)
    show sumT f a (m + k) + f (a + ((m + k : Nat) : Int)) = sumT f a m
    rw [h1, h2, Int.add_zero]
theorem sumT_succ0 (f : Int → Int) (n : Nat) : sumT f 0 (n + 1) = sumT f 0 n + f n := by
  show sumT f 0 n + f (0 + n) = _
  rw [Int.zero_add]
/-- the sum over the times from a to before t -/
def sumU (f : Int → Int) (a t : Int) : Int := sumT f a (t - a).toNat
theorem sumU_self (f : Int → Int) (a : Int) : sumU f a a = 0 := by unfold sumU; rw [Int.sub_self]; rfl
theorem sumU_succ {f : Int → Int} {a t : Int} (h : a ≤ t) : sumU f a (t + 1) = sumU f a t + f t := by
  unfold sumU
  rw [show (t + 1 - a).toNat = (t - a).toNat + 1 by omega]
  show sumT f a (t - a).toNat + f (a + (t - a).toNat) = _
  rw [show a + ((t - a).toNat : Int) = t by omega]
theorem sumU_bd {f : Int → Int} {B a t : Int} (hB : 0 ≤ B) (h : ∀ t, -B ≤ f t ∧ f t ≤ B) (h1 : t - a ≤ 100) : -(B * 100) ≤ sumU f a t ∧ sumU f a t ≤ B * 100 := by
  have := sumT_bd h a (t - a).toNat
  have h2 : B * ((t - a).toNat : Int) ≤ B * 100 := Int.mul_le_mul_of_nonneg_left (by omega) hB
  unfold sumU
  omega
theorem sumU_ext {f : Int → Int} {a t u : Int} (h : a ≤ t) (h2 : t ≤ u) (hz : ∀ v, t ≤ v → v < u → f v = 0) : sumU f a u = sumU f a t := by
  unfold sumU
  rw [show (u - a).toNat = (t - a).toNat + (u - t).toNat by omega]
  exact sumT_ext (fun j h1 h2 => hz _ (by omega) (by omega))
/-- bytes that wait at a node over a tick, across the cut -/
def waitC (qs : List Int) (hs : List Hd) (d : Dm) (c : Cu) (n t : Int) : Int := if crossB c n t n (t + 1) then roomT qs hs d n t else 0
/-- bytes over a contact in a tick, across the cut -/
def conC (cs : List Ct) (bs : List Bk) (d : Dm) (c : Cu) (i t : Int) : Int :=
  match cs[i.toNat]? with
  | none => 0
  | some x => if x.s ≤ t ∧ t < x.e ∧ t + 1 + x.g ≤ d.e ∧ bookedB bs i t = false ∧ crossB c x.f t x.t (t + 1 + x.g) = true then x.r else 0
theorem waitC_bd {qs : List Int} {hs : List Hd} {nq : Nat} (hq : ∀ (j : Nat) (q : Int), qs[j]? = some q → 0 ≤ q ∧ q ≤ 1073741824) (hok : ∀ h ∈ hs, okHd nq h) (hl : hs.length ≤ 512) (d : Dm) (c : Cu) (n t : Int) : -1099511627776 ≤ waitC qs hs d c n t ∧ waitC qs hs d c n t ≤ 1099511627776 := by
  have h1 := stored_bd (n := n) (t := t) hok
  have h2 : 0 ≤ qs.getD n.toNat 0 ∧ qs.getD n.toNat 0 ≤ 1073741824 := by
    rw [List.getD_eq_getElem?_getD]
    cases e : qs[n.toNat]? with
    | none => exact ⟨by simp, by simp⟩
    | some q => exact hq _ _ e
  unfold waitC roomT
  split
  · split <;> omega
  · omega
theorem conC_bd {cs : List Ct} (h : ∀ x ∈ cs, 0 ≤ x.r ∧ x.r ≤ 1000) (bs : List Bk) (d : Dm) (c : Cu) (i t : Int) : -1000 ≤ conC cs bs d c i t ∧ conC cs bs d c i t ≤ 1000 := by
  unfold conC
  cases e : cs[i.toNat]? with
  | none => dsimp only; omega
  | some x =>
    have := h x (List.mem_of_getElem? e)
    dsimp only
    split <;> omega
def badS (d : Dm) (x : Int × Int) : Bool := decide (x.1 < d.r) || decide (d.e + 1 < x.2)
def badL2 (d : Dm) (l : List (Int × Int)) : Bool := decide (chkI l ≠ 0) || l.any (badS d)
def capW (qs : List Int) (hs : List Hd) (d : Dm) (c : Cu) : Nat → Int := sumT (fun n => sumU (waitC qs hs d c n) d.r d.e) 0
def capC (cs : List Ct) (bs : List Bk) (d : Dm) (c : Cu) : Nat → Int := sumT (fun i => sumU (conC cs bs d c i) d.r d.e) 0
def capSum (qs : List Int) (cs : List Ct) (bs : List Bk) (hs : List Hd) (d : Dm) (c : Cu) : Int := capW qs hs d c qs.length + capC cs bs d c cs.length
/-- the capacity of a cut -/
def capR (qs : List Int) (cs : List Ct) (bs : List Bk) (hs : List Hd) (d : Dm) (c : Cu) : Int × Int :=
  if validT qs cs bs hs d = false then (0, 1) else if c.length ≠ qs.length then (0, 10) else if c.any (badL2 d) then (0, 2)
  else if hasI (cuAt c d.s) d.r = false ∨ hasI (cuAt c d.d) d.e = true then (0, 24) else (capSum qs cs bs hs d c, 0)
end Go.Step
/- What crosses a cut. -/
namespace Go.Proofs.Ytjbebmealbnmgaa
open Go.Eng Go.Step
set_option maxRecDepth 100000
set_option maxHeartbeats 4000000

/-- a cut in memory: the slices in ρ, what they hold in κ -/
def CutRow (ρ κ : PH) (p : Option Addr) (c : Cu) : Prop := ∀ (i : Nat) (l : List (Int × Int)), c[i]? = some l → ∃ b o q k, p = some ⟨b, o, none⟩ ∧ rdc ρ b (o + i) = some (.slice q l.length k) ∧ SpAt κ (.slice q l.length k) l ∧ l.length ≤ 9223372036854775807
theorem cuAt_get {c : Cu} {n : Nat} {l : List (Int × Int)} (h : c[n]? = some l) : cuAt c n = l := by unfold cuAt; rw [Int.toNat_natCast, List.getD_eq_getElem?_getD, h]; rfl
set_option maxHeartbeats 16000000 in
theorem cross_spec (ρ κ : PH) (bc bs' : Nat) (p : Option Addr) (kk : Nat) (c : Cu) (hc : CutRow ρ κ p c) (f t : Nat) (a u w S : Int) (hf : f < c.length) (ht : t < c.length) (hS : In64 (S + w)) :
    Eng.Spec Try.prog (.func (.func 31) #[] #[.pointer (some ⟨bc, 0, none⟩), .pointer (some ⟨bs', 0, none⟩)]) [int f, int a, int t, int u, int w] [sng bc (.cells #[.slice p c.length kk] 39 (0, 0)), ρ, κ] [sng bs' (.cells #[int S] 3 (0, 0))]
      (fun r H' => r = .tuple #[] ∧ H' = [sng bs' (.cells #[int (S + if crossB c f a t u then w else 0)] 3 (0, 0))]) := by
  unfold In64 at hS
  have gc : rdc (sng bc (.cells #[.slice p c.length kk] 39 (0, 0))) bc 0 = some (.slice p c.length kk) := by rw [rdc_sng]; rfl
  obtain ⟨b1, o1, q1, k1, rfl, g1, s1, l1⟩ := hc f _ (List.getElem?_eq_getElem hf)
  obtain ⟨_, _, q2, k2, e, g2, s2, l2⟩ := hc t _ (List.getElem?_eq_getElem ht)
  simp only [Option.some.injEq, Addr.mk.injEq, and_true] at e
  obtain ⟨rfl, rfl⟩ := e
  have h1 := ivHas_spec κ _ _ a s1 l1
  have h2 := ivHas_spec κ _ _ u s2 l2
  unfold crossB
  rw [cuAt_get (List.getElem?_eq_getElem hf), cuAt_get (List.getElem?_eq_getElem ht)]
  refine spec_in (cap := [.pointer (some ⟨bc, 0, none⟩), .pointer (some ⟨bs', 0, none⟩)]) Try.func31 rfl rfl Try.ntmps31 rfl (by (repeat (first | exact EnvA.nil EnvI.nil | apply EnvA.cons | apply EnvA.nil | exact EnvI.nil | apply EnvI.cons)); first | done | fail) (fun N β => ?_)
  refine jk_seq ?_
  refine jk_region ?_
  refine zq_load ?_
  refine zq_move ?_
  refine zq_idx1 ?_
  refine zq_load ?_
  refine zq_move ?_
  refine jk_call h1 rfl rfl rdZ rfl rfl ?_
  rintro _ rfl
  cases hasI c[f] a with
  | false =>
    rw [Bool.false_and, if_neg (by simp), Int.add_zero]
    refine zq_move ?_
    refine jk_pass rfl rfl rfl ?_
    refine jk_pass rfl rfl rfl ?_
    refine jk_pass rfl rfl rfl ?_
    refine jk_pass rfl rfl rfl ?_
    refine jk_pass rfl rfl rfl ?_
    refine jk_pass rfl rfl rfl ?_
    refine jk_pass rfl rfl rfl ?_
    refine zq_pick_f ?_
    refine jk_nil ?_
    refine jk_if_f rfl ?_
    refine jk_skip ?_
    exact jk_end_any (res0 rfl) (by (repeat (first | exact rs_nil | (refine rs_cons ?_ ?_; (focus ((repeat (first | exact .here | apply Mem.there | apply Take.there)); first | done | fail))) | exact fun ρ hρ => hρ | (intro ρ hρ; repeat (first | exact hρ | refine List.mem_cons_of_mem _ ?_)))); first | done | fail) selZ ⟨rfl, rfl⟩
  | true =>
    refine zq_move ?_
    refine zq_load ?_
    refine zq_move ?_
    refine zq_idx1 ?_
    refine zq_load ?_
    refine zq_move ?_
    refine jk_call h2 rfl rfl rdZ rfl rfl ?_
    rintro _ rfl
    cases hasI c[t] u with
    | true =>
      rw [Bool.not_true, Bool.and_false, if_neg (by simp), Int.add_zero]
      refine zq_not ?_
      refine zq_pick_t ?_
      refine jk_nil ?_
      refine jk_if_f rfl ?_
      refine jk_skip ?_
      exact jk_end_any (res0 rfl) (by (repeat (first | exact rs_nil | (refine rs_cons ?_ ?_; (focus ((repeat (first | exact .here | apply Mem.there | apply Take.there)); first | done | fail))) | exact fun ρ hρ => hρ | (intro ρ hρ; repeat (first | exact hρ | refine List.mem_cons_of_mem _ ?_)))); first | done | fail) selZ ⟨rfl, rfl⟩
    | false =>
      rw [Bool.not_false, Bool.and_true, if_pos rfl]
      refine zq_not ?_
      refine zq_pick_t ?_
      refine jk_nil ?_
      refine jk_if_t rfl ?_
      refine jk_region ?_
      refine zq_load ?_
      refine zq_move ?_
      refine zq_add ?_
      refine zs_storeL ?_; rintro _ _ ⟨rfl, rfl⟩
      refine jk_nil ?_
      exact jk_end_any (res0 rfl) (by (repeat (first | exact rs_nil | (refine rs_cons ?_ ?_; (focus ((repeat (first | exact .here | apply Mem.there | apply Take.there)); first | done | fail))) | exact fun ρ hρ => hρ | (intro ρ hρ; repeat (first | exact hρ | refine List.mem_cons_of_mem _ ?_)))); first | done | fail) selZ ⟨rfl, rfl⟩
end Go.Proofs.Ytjbebmealbnmgaa
/- Arguments that are slices: their room. No conditions. -/
namespace Go.Eng
open Go.ChangeShapes Go.WideShapes Go.RowKit
variable {P : Program} {W : World} {t : TypeId}
theorem RdT.capOK {e : TypeId} {v : Value} (ht : P.underlying t = some (.slice e)) (h : RdT P W t [v]) : CapOK v := by
  obtain ⟨H, enc, fuel, x, h⟩ := h
  rcases Deep.open_slice ht h with ⟨e, _⟩ | ⟨a, len, cap, m, n, D, Pl, e, _, hlc, _⟩
  · simp only [List.cons.injEq, and_true] at e
    exact ⟨_, _, _, e, Nat.le_refl _⟩
  · simp only [List.cons.injEq, and_true] at e
    exact ⟨_, _, _, e, hlc⟩
end Go.Eng
/- The rows: each law, for every input. -/
namespace Go.Proofs.Ytjbebmealbnmgaa
open Go.Eng Go.Step
set_option maxRecDepth 100000
set_option maxHeartbeats 4000000
open Go.ChangeShapes Go.WideShapes Go.ChangeAt Go.RowKit

theorem Try.own : ownKnob Try.prog.godebug = none := by kernel_rfl
theorem Try.laidOut : laidOutB Try.prog = true := by kernel_rfl
theorem wf_u8 {n : Int} (h : (Lit.int .u8 n).wf = true) : 0 ≤ n ∧ n ≤ 255 := by
  simp only [Lit.wf, Bool.and_eq_true, decide_eq_true_eq] at h
  exact ⟨h.1, h.2⟩
theorem wf_u16 {n : Int} (h : (Lit.int .u16 n).wf = true) : 0 ≤ n ∧ n ≤ 65535 := by
  simp only [Lit.wf, Bool.and_eq_true, decide_eq_true_eq] at h
  exact ⟨h.1, h.2⟩
theorem wf_u32 {n : Int} (h : (Lit.int .u32 n).wf = true) : 0 ≤ n ∧ n ≤ 4294967295 := by
  simp only [Lit.wf, Bool.and_eq_true, decide_eq_true_eq] at h
  exact ⟨h.1, h.2⟩
theorem ct_of {W : World} {x : List Value} (h : RdT Try.prog W 75 x) : ∃ a : Ct, x = encC a ∧ True := by
  obtain ⟨h1, _⟩ := h.struct Try.underlying75
  have hc : Try.prog.cellsOf 75 = 7 := by kernel_rfl
  rw [hc] at h1
  match x, h1 with
  | [c0, c1, c2, c3, c4, c5, c6], _ =>
    have k : Try.prog.cellsOf 3 = 1 := by kernel_rfl
    obtain ⟨x0, e0, _⟩ := (h.fld1 Try.underlying75 0 rfl rfl rfl k rfl).i64 Try.underlying3
    obtain ⟨x1, e1, _⟩ := (h.fld1 Try.underlying75 1 rfl rfl rfl k rfl).i64 Try.underlying3
    obtain ⟨x2, e2, _⟩ := (h.fld1 Try.underlying75 2 rfl rfl rfl k rfl).i64 Try.underlying3
    obtain ⟨x3, e3, _⟩ := (h.fld1 Try.underlying75 3 rfl rfl rfl k rfl).i64 Try.underlying3
    obtain ⟨x4, e4, _⟩ := (h.fld1 Try.underlying75 4 rfl rfl rfl k rfl).i64 Try.underlying3
    obtain ⟨x5, e5, _⟩ := (h.fld1 Try.underlying75 5 rfl rfl rfl k rfl).i64 Try.underlying3
    obtain ⟨x6, e6, _⟩ := (h.fld1 Try.underlying75 6 rfl rfl rfl k rfl).i64 Try.underlying3
    simp at e0 e1 e2 e3 e4 e5 e6
    subst e0 e1 e2 e3 e4 e5 e6
    exact ⟨⟨x0, x1, x2, x3, x4, x5, x6⟩, rfl, trivial⟩
theorem bk_of {W : World} {x : List Value} (h : RdT Try.prog W 105 x) : ∃ a : Bk, x = encB a ∧ True := by
  obtain ⟨h1, _⟩ := h.struct Try.underlying105
  have hc : Try.prog.cellsOf 105 = 4 := by kernel_rfl
  rw [hc] at h1
  match x, h1 with
  | [c0, c1, c2, c3], _ =>
    have k : Try.prog.cellsOf 3 = 1 := by kernel_rfl
    obtain ⟨x0, e0, _⟩ := (h.fld1 Try.underlying105 0 rfl rfl rfl k rfl).i64 Try.underlying3
    obtain ⟨x1, e1, _⟩ := (h.fld1 Try.underlying105 1 rfl rfl rfl k rfl).i64 Try.underlying3
    obtain ⟨x2, e2, _⟩ := (h.fld1 Try.underlying105 2 rfl rfl rfl k rfl).i64 Try.underlying3
    obtain ⟨x3, e3, _⟩ := (h.fld1 Try.underlying105 3 rfl rfl rfl k rfl).i64 Try.underlying3
    simp at e0 e1 e2 e3
    subst e0 e1 e2 e3
    exact ⟨⟨x0, x1, x2, x3⟩, rfl, trivial⟩
theorem hd_of {W : World} {x : List Value} (h : RdT Try.prog W 88 x) : ∃ a : Hd, x = encH a ∧ True := by
  obtain ⟨h1, _⟩ := h.struct Try.underlying88
  have hc : Try.prog.cellsOf 88 = 5 := by kernel_rfl
  rw [hc] at h1
  match x, h1 with
  | [c0, c1, c2, c3, c4], _ =>
    have k : Try.prog.cellsOf 3 = 1 := by kernel_rfl
    obtain ⟨x0, e0, _⟩ := (h.fld1 Try.underlying88 0 rfl rfl rfl k rfl).i64 Try.underlying3
    obtain ⟨x1, e1, _⟩ := (h.fld1 Try.underlying88 1 rfl rfl rfl k rfl).i64 Try.underlying3
    obtain ⟨x2, e2, _⟩ := (h.fld1 Try.underlying88 2 rfl rfl rfl k rfl).i64 Try.underlying3
    obtain ⟨x3, e3, _⟩ := (h.fld1 Try.underlying88 3 rfl rfl rfl k rfl).i64 Try.underlying3
    obtain ⟨x4, e4, _⟩ := (h.fld1 Try.underlying88 4 rfl rfl rfl k rfl).i64 Try.underlying3
    simp at e0 e1 e2 e3 e4
    subst e0 e1 e2 e3 e4
    exact ⟨⟨x0, x1, x2, x3, x4⟩, rfl, trivial⟩
theorem sh_of {W : World} {x : List Value} (h : RdT Try.prog W 53 x) : ∃ a : Sh, x = encX a ∧ True := by
  obtain ⟨h1, _⟩ := h.struct Try.underlying53
  have hc : Try.prog.cellsOf 53 = 3 := by kernel_rfl
  rw [hc] at h1
  match x, h1 with
  | [c0, c1, c2], _ =>
    have k : Try.prog.cellsOf 3 = 1 := by kernel_rfl
    obtain ⟨x0, e0, _⟩ := (h.fld1 Try.underlying53 0 rfl rfl rfl k rfl).i64 Try.underlying3
    obtain ⟨x1, e1, _⟩ := (h.fld1 Try.underlying53 1 rfl rfl rfl k rfl).i64 Try.underlying3
    obtain ⟨x2, e2, _⟩ := (h.fld1 Try.underlying53 2 rfl rfl rfl k rfl).i64 Try.underlying3
    simp at e0 e1 e2
    subst e0 e1 e2
    exact ⟨⟨x0, x1, x2⟩, rfl, trivial⟩
theorem sp_of {W : World} {x : List Value} (h : RdT Try.prog W 55 x) : ∃ a : (Int × Int), x = encS a ∧ True := by
  obtain ⟨h1, _⟩ := h.struct Try.underlying55
  have hc : Try.prog.cellsOf 55 = 2 := by kernel_rfl
  rw [hc] at h1
  match x, h1 with
  | [c0, c1], _ =>
    have k : Try.prog.cellsOf 3 = 1 := by kernel_rfl
    obtain ⟨x0, e0, _⟩ := (h.fld1 Try.underlying55 0 rfl rfl rfl k rfl).i64 Try.underlying3
    obtain ⟨x1, e1, _⟩ := (h.fld1 Try.underlying55 1 rfl rfl rfl k rfl).i64 Try.underlying3
    simp at e0 e1
    subst e0 e1
    exact ⟨⟨x0, x1⟩, rfl, trivial⟩
theorem ships_of {W : World} {r : Reach} {base : Nat} {v0 : Value} (hv : Value.okWide Try.prog W r base 32 v0) (h : RdT Try.prog W 32 v0.cells.toList) : ∃ l : List Sh, ShAt (heapPH W) v0 l ∧ CapOK v0 ∧ l.length ≤ 9223372036854775807 := by
  obtain ⟨a, len, cap, rfl⟩ := okWide_slice Try.underlying32 hv
  have h' : RdT Try.prog W 32 [Value.slice a len cap] := h
  obtain ⟨v, e, l, h1, h2, h3⟩ := h'.sliceE Try.underlying32 (s := 3) (by kernel_rfl) (by omega) (fun x hx => sh_of hx)
  simp only [List.cons.injEq, and_true] at e
  subst e
  exact ⟨l, h1, h'.capOK Try.underlying32, by simp only [maxLen] at h3; omega⟩
theorem demand_of {W : World} {r : Reach} {base : Nat} {v0 : Value} (hv : Value.okWide Try.prog W r base 31 v0) (h : RdT Try.prog W 31 v0.cells.toList) : ∃ a : Dm, v0 = .agg [int a.s, int a.d, int a.v, int a.r, int a.e].toArray ∧ In64 a.s ∧ In64 a.d ∧ In64 a.v ∧ In64 a.r ∧ In64 a.e := by
  obtain ⟨cs, rfl⟩ := okWide_agg Try.underlying31 hv
  obtain ⟨h1, _⟩ := h.struct Try.underlying31
  have hc : Try.prog.cellsOf 31 = 5 := by kernel_rfl
  rw [hc] at h1
  obtain ⟨x⟩ := cs
  match x, h1 with
  | [c0, c1, c2, c3, c4], _ =>
    have k : Try.prog.cellsOf 3 = 1 := by kernel_rfl
    obtain ⟨x0, e0, i0⟩ := (h.fld1 Try.underlying31 0 rfl rfl rfl k rfl).i64 Try.underlying3
    obtain ⟨x1, e1, i1⟩ := (h.fld1 Try.underlying31 1 rfl rfl rfl k rfl).i64 Try.underlying3
    obtain ⟨x2, e2, i2⟩ := (h.fld1 Try.underlying31 2 rfl rfl rfl k rfl).i64 Try.underlying3
    obtain ⟨x3, e3, i3⟩ := (h.fld1 Try.underlying31 3 rfl rfl rfl k rfl).i64 Try.underlying3
    obtain ⟨x4, e4, i4⟩ := (h.fld1 Try.underlying31 4 rfl rfl rfl k rfl).i64 Try.underlying3
    simp at e0 e1 e2 e3 e4
    subst e0 e1 e2 e3 e4
    exact ⟨⟨x0, x1, x2, x3, x4⟩, rfl, i0, i1, i2, i3, i4⟩
theorem int_of {W : World} {x : List Value} (h : RdT Try.prog W 3 x) : ∃ a : Int, x = Eng.encI a ∧ True := by
  obtain ⟨a, e, _⟩ := h.i64 Try.underlying3
  exact ⟨a, e, trivial⟩
theorem tables_of {W : World} {r : Reach} {base : Nat} {v0 : Value} (hv : Value.okWide Try.prog W r base 29 v0) (h : RdT Try.prog W 29 v0.cells.toList) :
    ∃ (pq pc pb ph : Option Addr) (kq kc kb kh : Nat) (qs : List Int) (cs : List Ct) (bs : List Bk) (hs : List Hd), v0 = .agg #[.slice pq qs.length kq, .slice pc cs.length kc, .slice pb bs.length kb, .slice ph hs.length kh] ∧ TbAt (heapPH W) (heapPH W) (heapPH W) (heapPH W) pq pc pb ph kq kc kb kh qs cs bs hs := by
  obtain ⟨cs, rfl⟩ := okWide_agg Try.underlying29 hv
  obtain ⟨h1, hf⟩ := h.struct Try.underlying29
  have hc : Try.prog.cellsOf 29 = 4 := by kernel_rfl
  rw [hc] at h1
  obtain ⟨x⟩ := cs
  match x, h1 with
  | [c0, c1, c2, c3], _ =>
    have k0 : Try.prog.cellsOf 22 = 1 := by kernel_rfl
    have k1 : Try.prog.cellsOf 23 = 1 := by kernel_rfl
    have k2 : Try.prog.cellsOf 26 = 1 := by kernel_rfl
    have k3 : Try.prog.cellsOf 27 = 1 := by kernel_rfl
    have kp : Try.prog.cellsOf 25 = 2 := by kernel_rfl
    have hp : RdT Try.prog W 25 [c0, c1] := by
      have : RdT Try.prog W 25 ((([c0, c1, c2, c3] : List Value).drop 0).take (Try.prog.cellsOf 25)) := hf 0 _ rfl
      rw [show (Try.prog.cellsOf 25) = 2 from kp] at this
      exact this
    have f0 := hp.fld1 Try.underlying25 0 rfl rfl rfl k0 rfl
    have f1 := hp.fld1 Try.underlying25 1 rfl rfl rfl k1 rfl
    have f2 := h.fld1 Try.underlying29 1 rfl rfl rfl k2 rfl
    have f3 := h.fld1 Try.underlying29 2 rfl rfl rfl k3 rfl
    obtain ⟨v, e, qs, a1, a2, a3⟩ := f0.sliceE Try.underlying22 (s := 1) (by kernel_rfl) (by omega) (fun x hx => int_of hx)
    simp only [List.cons.injEq, and_true] at e
    obtain ⟨u, e', ct, b1, b2, b3⟩ := f1.sliceE Try.underlying23 (s := 7) (by kernel_rfl) (by omega) (fun x hx => ct_of hx)
    simp only [List.cons.injEq, and_true] at e'
    obtain ⟨u2, e2, bk, d1, d2, d3⟩ := f2.sliceE Try.underlying26 (s := 4) (by kernel_rfl) (by omega) (fun x hx => bk_of hx)
    simp only [List.cons.injEq, and_true] at e2
    obtain ⟨u3, e3, hd, g1, g2, g3⟩ := f3.sliceE Try.underlying27 (s := 5) (by kernel_rfl) (by omega) (fun x hx => hd_of hx)
    simp only [List.cons.injEq, and_true] at e3
    have cap2 := f1.capOK Try.underlying23
    subst e e' e2 e3
    obtain ⟨pq, kq, rfl, _⟩ := a1.val Eng.encI_len
    obtain ⟨pc, kc, rfl, _⟩ := b1.val encC_len
    obtain ⟨pb, kb, rfl, _⟩ := d1.val encB_len
    obtain ⟨ph, kh, rfl, _⟩ := g1.val encH_len
    simp only [maxLen] at a3 b3 d3 g3
    exact ⟨pq, pc, pb, ph, kq, kc, kb, kh, qs, ct, bk, hd, rfl, a1, b1, cap2.le, by omega, by omega, d1, by omega, g1, by omega⟩
theorem cut_of {W : World} {x : Value} (h : RdT Try.prog W 39 [x]) : ∃ (p : Option Addr) (k : Nat) (c : Cu), x = .slice p c.length k ∧ CutRow (heapPH W) (heapPH W) p c ∧ c.length ≤ 9223372036854775807 := by
  obtain ⟨v, p, k, e, els, rfl, hle, hx⟩ := h.slice Try.underlying39 (s := 1) (by kernel_rfl) (by omega)
  simp only [List.cons.injEq, and_true] at e
  subst e
  obtain ⟨c, hl, hq⟩ := choose_list (fun i (l : List (Int × Int)) => ∃ v, els[i]? = some [v] ∧ SpAt (heapPH W) v l ∧ l.length ≤ 9223372036854775807) els.length (fun i hi => by
    obtain ⟨_, h2, _⟩ := hx i _ (List.getElem?_eq_getElem hi)
    obtain ⟨v, e, l, h3, _, h4⟩ := h2.sliceE Try.underlying56 (s := 2) (by kernel_rfl) (by omega) (fun x hx => sp_of hx)
    exact ⟨l, v, by rw [List.getElem?_eq_getElem hi, e], h3, by simp only [maxLen] at h4; omega⟩)
  simp only [maxLen] at hle
  refine ⟨p, k, c, by rw [hl], fun i l hil => ?_, by omega⟩
  obtain ⟨v, e, h3, h4⟩ := hq i l hil
  obtain ⟨_, _, b, o, rfl, hr⟩ := hx i _ e
  obtain ⟨q, kk, rfl, _⟩ := h3.val encS_len
  refine ⟨b, o, q, kk, rfl, ?_, h3, h4⟩
  have := hr 0 _ rfl
  rwa [Nat.mul_one, Nat.add_zero] at this
theorem cutV_of {W : World} {r : Reach} {base : Nat} {v0 : Value} (hv : Value.okWide Try.prog W r base 39 v0) (h : RdT Try.prog W 39 v0.cells.toList) : ∃ (p : Option Addr) (k : Nat) (c : Cu), v0 = .slice p c.length k ∧ CutRow (heapPH W) (heapPH W) p c ∧ c.length ≤ 9223372036854775807 := by
  obtain ⟨a, len, cap, rfl⟩ := okWide_slice Try.underlying39 hv
  exact cut_of h
theorem answer_of {W : World} {r : Reach} {base : Nat} {v0 : Value} (hv : Value.okWide Try.prog W r base 41 v0) (h : RdT Try.prog W 41 v0.cells.toList) :
    ∃ (acc : Bool) (vol : Int) (q : Option Addr) (kl : Nat) (l : List Sh) (p : Option Addr) (kk : Nat) (c : Cu), v0 = .agg #[.bool acc, int vol, .slice q l.length kl, .slice p c.length kk] ∧ ShAt (heapPH W) (.slice q l.length kl) l ∧ l.length ≤ 9223372036854775807 ∧ CutRow (heapPH W) (heapPH W) p c ∧ c.length ≤ 9223372036854775807 := by
  obtain ⟨cs, rfl⟩ := okWide_agg Try.underlying41 hv
  obtain ⟨h1, _⟩ := h.struct Try.underlying41
  have hc : Try.prog.cellsOf 41 = 4 := by kernel_rfl
  rw [hc] at h1
  obtain ⟨x⟩ := cs
  match x, h1 with
  | [c0, c1, c2, c3], _ =>
    have k0 : Try.prog.cellsOf 4 = 1 := by kernel_rfl
    have k1 : Try.prog.cellsOf 3 = 1 := by kernel_rfl
    have k2 : Try.prog.cellsOf 32 = 1 := by kernel_rfl
    have k3 : Try.prog.cellsOf 39 = 1 := by kernel_rfl
    obtain ⟨acc, e0⟩ := (h.fld1 Try.underlying41 0 rfl rfl rfl k0 rfl).bool Try.underlying4
    obtain ⟨vol, e1, _⟩ := (h.fld1 Try.underlying41 1 rfl rfl rfl k1 rfl).i64 Try.underlying3
    obtain ⟨v, e2, l, a1, a2, a3⟩ := (h.fld1 Try.underlying41 2 rfl rfl rfl k2 rfl).sliceE Try.underlying32 (s := 3) (by kernel_rfl) (by omega) (fun x hx => sh_of hx)
    obtain ⟨p, kk, c, e3, g1, g2⟩ := cut_of (h.fld1 Try.underlying41 3 rfl rfl rfl k3 rfl)
    obtain ⟨q, kl, rfl, _⟩ := a1.val encX_len
    simp only [List.cons.injEq, and_true] at e0 e1 e2
    subst e0 e1 e2 e3
    simp only [maxLen] at a3
    exact ⟨acc, vol, q, kl, l, p, kk, c, rfl, a1, by omega, g1, g2⟩
end Go.Proofs.Ytjbebmealbnmgaa
/- Shipments and stocks, of the reference. -/
namespace Go.Proofs.Ytjbebmealbnmgaa
open Go.Eng Go.Step
set_option maxRecDepth 100000
set_option maxHeartbeats 4000000

theorem ship1_ok {cs : List Ct} {bs : List Bk} {d : Dm} {x : Sh} (h : ship1 cs bs d x = 0) : ∃ (nn : Nat) (c : Ct), x.c = nn ∧ cs[nn]? = some c ∧ ctOf cs x = c ∧ (d.r ≤ x.t ∧ c.s ≤ x.t ∧ x.t < c.e ∧ 1 ≤ x.n ∧ x.n ≤ c.r) ∧ x.t + 1 + c.g ≤ d.e ∧ arrOf cs x = x.t + 1 + c.g := by
  unfold ship1 at h
  by_cases h1 : x.c < 0 ∨ (cs.length : Int) ≤ x.c
  · rw [if_pos h1] at h; omega
  rw [if_neg h1] at h
  have hlt : x.c.toNat < cs.length := by omega
  rw [List.getElem?_eq_getElem hlt] at h
  dsimp only at h
  have hct : ctOf cs x = cs[x.c.toNat] := by unfold ctOf; rw [List.getD_eq_getElem?_getD, List.getElem?_eq_getElem hlt]; rfl
  by_cases h2 : x.t < d.r ∨ x.t < cs[x.c.toNat].s ∨ cs[x.c.toNat].e ≤ x.t ∨ x.n < 1 ∨ cs[x.c.toNat].r < x.n
  · rw [if_pos h2] at h; omega
  rw [if_neg h2] at h
  by_cases h3 : d.e < x.t + 1 + cs[x.c.toNat].g
  · rw [if_pos h3] at h; omega
  exact ⟨x.c.toNat, cs[x.c.toNat], by omega, List.getElem?_eq_getElem hlt, hct, by omega, by omega, by unfold arrOf; rw [hct]⟩
theorem ship1_out {cs : List Ct} {bs : List Bk} {d : Dm} {x : Sh} (h : x.c < 0 ∨ (cs.length : Int) ≤ x.c) : ship1 cs bs d x = 2 := by unfold ship1; rw [if_pos h]
theorem ship1_c {cs : List Ct} {bs : List Bk} {d : Dm} {x : Sh} {nn : Nat} {c : Ct} (hn : x.c = nn) (hc : cs[nn]? = some c) : ship1 cs bs d x = if x.t < d.r ∨ x.t < c.s ∨ c.e ≤ x.t ∨ x.n < 1 ∨ c.r < x.n then 2 else if d.e < x.t + 1 + c.g then 16 else if bookedB bs nn x.t then 14 else 0 := by
  have hlt := (List.getElem?_eq_some_iff.1 hc).1
  unfold ship1
  rw [if_neg (by omega), hn, Int.toNat_natCast, hc]
theorem shipE_bad {cs : List Ct} {bs : List Bk} {d : Dm} {l : List Sh} {i : Nat} {x : Sh} {e : Int} (h : l[i]? = some x) (h1 : ship1 cs bs d x = e) (h0 : e ≠ 0) : shipE cs bs d l i = e := by rw [shipE_at h, h1, if_pos h0]
theorem shipE_good {cs : List Ct} {bs : List Bk} {d : Dm} {l : List Sh} {i : Nat} {x : Sh} (h : l[i]? = some x) (h1 : ship1 cs bs d x = 0) : shipE cs bs d l i = if (l.take i).any (sameSl x) then 14 else 0 := by rw [shipE_at h, h1, if_neg (by simp)]
set_option maxHeartbeats 32000000 in
theorem refShip_spec {ρ τ σ υ : PH} (ω : PH) {pq pc pb ph : Option Addr} {kq kc kb kh : Nat} {qs : List Int} {cs : List Ct} {bs : List Bk} {hs : List Hd} (hT : TbAt ρ τ σ υ pq pc pb ph kq kc kb kh qs cs bs hs) (d : Dm) (v : Value) (l : List Sh) (i : Nat) (x : Sh) (hv : ShAt ω v l) (hi : l[i]? = some x) (hcs : ∀ c ∈ cs, chkCt c = 0) (hbl : bs.length ≤ 1000) (hd : 0 ≤ d.r) (hll : l.length ≤ 1000000) :
    Ans Try.prog (fv 25) [.agg #[.slice pq qs.length kq, .slice pc cs.length kc, .slice pb bs.length kb, .slice ph hs.length kh], .agg #[int d.s, int d.d, int d.v, int d.r, int d.e], v, int i] [ρ, τ, σ, υ, ω] (fun r => r = int (shipE cs bs d l i)) := by
  obtain ⟨q, cc, rfl, hr⟩ := hv.val encX_len
  have hil := (List.getElem?_eq_some_iff.1 hi).1
  refine spec_in (cap := []) Try.func25 rfl rfl Try.ntmps25 rfl (by (repeat (first | exact EnvA.nil EnvI.nil | apply EnvA.cons | apply EnvA.nil | exact EnvI.nil | apply EnvI.cons)); first | done | fail) (fun N β => ?_)
  refine jk_seq ?_
  refine jk_region ?_
  refine jk_op (l_boxS rfl) rfl rfl rfl ?_
  rintro _ _ ⟨b1, rfl, rfl⟩
  refine jk_freeze (ρ := sng b1 _) takeZ ?_
  have ct : RdN (sng b1 (.cells #[.slice pq qs.length kq, .slice pc cs.length kc, .slice pb bs.length kb, .slice ph hs.length kh] 29 (0, 0))) b1 0 [.slice pq qs.length kq, .slice pc cs.length kc, .slice pb bs.length kb, .slice ph hs.length kh] := rdN_sng (vs := [.slice pq qs.length kq, .slice pc cs.length kc, .slice pb bs.length kb, .slice ph hs.length kh])
  have ct0 : rdc (sng b1 (.cells #[.slice pq qs.length kq, .slice pc cs.length kc, .slice pb bs.length kb, .slice ph hs.length kh] 29 (0, 0))) b1 0 = some (.slice pq qs.length kq) := by rw [rdc_sng]; rfl
  have ct1 : rdc (sng b1 (.cells #[.slice pq qs.length kq, .slice pc cs.length kc, .slice pb bs.length kb, .slice ph hs.length kh] 29 (0, 0))) b1 1 = some (.slice pc cs.length kc) := by rw [rdc_sng]; rfl
  have ct2 : rdc (sng b1 (.cells #[.slice pq qs.length kq, .slice pc cs.length kc, .slice pb bs.length kb, .slice ph hs.length kh] 29 (0, 0))) b1 2 = some (.slice pb bs.length kb) := by rw [rdc_sng]; rfl
  have ct3 : rdc (sng b1 (.cells #[.slice pq qs.length kq, .slice pc cs.length kc, .slice pb bs.length kb, .slice ph hs.length kh] 29 (0, 0))) b1 3 = some (.slice ph hs.length kh) := by rw [rdc_sng]; rfl
  have ctp : RdP (sng b1 (.cells #[.slice pq qs.length kq, .slice pc cs.length kc, .slice pb bs.length kb, .slice ph hs.length kh] 29 (0, 0))) b1 0 [.slice pq qs.length kq, .slice pc cs.length kc] := rdP_sng (xs := [.slice pq qs.length kq, .slice pc cs.length kc, .slice pb bs.length kb, .slice ph hs.length kh]) rfl
  refine jk_op (l_boxS rfl) rfl rfl rfl ?_
  rintro _ _ ⟨b2, rfl, rfl⟩
  refine jk_freeze (ρ := sng b2 _) takeZ ?_
  have cd : RdN (sng b2 (.cells #[int d.s, int d.d, int d.v, int d.r, int d.e] 31 (0, 0))) b2 0 [int d.s, int d.d, int d.v, int d.r, int d.e] := rdN_sng (vs := [int d.s, int d.d, int d.v, int d.r, int d.e])
  have cd0 : rdc (sng b2 (.cells #[int d.s, int d.d, int d.v, int d.r, int d.e] 31 (0, 0))) b2 0 = some (int d.s) := by rw [rdc_sng]; rfl
  have cd1 : rdc (sng b2 (.cells #[int d.s, int d.d, int d.v, int d.r, int d.e] 31 (0, 0))) b2 1 = some (int d.d) := by rw [rdc_sng]; rfl
  have cd2 : rdc (sng b2 (.cells #[int d.s, int d.d, int d.v, int d.r, int d.e] 31 (0, 0))) b2 2 = some (int d.v) := by rw [rdc_sng]; rfl
  have cd3 : rdc (sng b2 (.cells #[int d.s, int d.d, int d.v, int d.r, int d.e] 31 (0, 0))) b2 3 = some (int d.r) := by rw [rdc_sng]; rfl
  have cd4 : rdc (sng b2 (.cells #[int d.s, int d.d, int d.v, int d.r, int d.e] 31 (0, 0))) b2 4 = some (int d.e) := by rw [rdc_sng]; rfl
  obtain ⟨b5, o5, rfl, hrx, x0, x1, x2⟩ := shRow hr hi
  by_cases h1 : x.c < 0
  · rw [shipE_bad hi (ship1_out (.inl h1)) (by decide)]
    refine zq_assign ?_
    refine jk_nil ?_
    refine jk_seq ?_
    refine jk_region ?_
    refine zq_move ?_
    refine zq_move ?_
    refine zq_idxN ?_
    refine zq_loadS ?_
    refine zl_allocS ?_; rintro _ _ ⟨b, rfl, rfl⟩
    refine zs_storeS ?_; rintro _ _ ⟨rfl, rfl⟩
    refine jk_nil ?_
    refine jk_seq ?_
    refine jk_seq ?_
    refine jk_region ?_
    refine zq_fld0 ?_
    refine zq_load ?_
    refine zq_lt ?_
    refine zq_move ?_
    refine jk_pass rfl rfl rfl ?_
    refine jk_pass rfl rfl rfl ?_
    refine jk_pass rfl rfl rfl ?_
    refine jk_pass rfl rfl rfl ?_
    refine jk_pass rfl rfl rfl ?_
    refine jk_pass rfl rfl rfl ?_
    refine jk_pass rfl rfl rfl ?_
    refine zq_pick_t ?_
    refine jk_nil ?_
    refine jk_if_t rfl ?_
    refine jk_seq ?_
    refine jk_region ?_
    refine zq_assign ?_
    refine jk_nil ?_
    exact jk_ret_any (res1 rfl rfl) (by (repeat (first | exact rs_nil | (refine rs_cons ?_ ?_; (focus ((repeat (first | exact .here | apply Mem.there | apply Take.there)); first | done | fail))) | exact fun ρ hρ => hρ | (intro ρ hρ; repeat (first | exact hρ | refine List.mem_cons_of_mem _ ?_)))); first | done | fail) selZ ⟨rfl, rfl⟩
  by_cases h2 : (cs.length : Int) ≤ x.c
  · rw [shipE_bad hi (ship1_out (.inr h2)) (by decide)]
    refine zq_assign ?_
    refine jk_nil ?_
    refine jk_seq ?_
    refine jk_region ?_
    refine zq_move ?_
    refine zq_move ?_
    refine zq_idxN ?_
    refine zq_loadS ?_
    refine zl_allocS ?_; rintro _ _ ⟨b, rfl, rfl⟩
    refine zs_storeS ?_; rintro _ _ ⟨rfl, rfl⟩
    refine jk_nil ?_
    refine jk_seq ?_
    refine jk_seq ?_
    refine jk_region ?_
    refine zq_fld0 ?_
    refine zq_load ?_
    refine zq_ltF ?_
    refine zq_move ?_
    refine zq_fld0 ?_
    refine zq_load ?_
    refine zq_fld0 ?_
    refine zq_fld0 ?_
    refine zq_load ?_
    refine zq_len ?_
    refine zq_ge ?_
    refine zq_pick_f ?_
    refine jk_nil ?_
    refine jk_if_t rfl ?_
    refine jk_seq ?_
    refine jk_region ?_
    refine zq_assign ?_
    refine jk_nil ?_
    exact jk_ret_any (res1 rfl rfl) (by (repeat (first | exact rs_nil | (refine rs_cons ?_ ?_; (focus ((repeat (first | exact .here | apply Mem.there | apply Take.there)); first | done | fail))) | exact fun ρ hρ => hρ | (intro ρ hρ; repeat (first | exact hρ | refine List.mem_cons_of_mem _ ?_)))); first | done | fail) selZ ⟨rfl, rfl⟩
  obtain ⟨nn, hnn⟩ : ∃ nn : Nat, x.c = nn := ⟨x.c.toNat, by omega⟩
  have hlt : nn < cs.length := by omega
  have hx := List.getElem?_eq_getElem hlt
  have hck := chkCt_all (hcs _ (List.getElem_mem hlt))
  have harr := fun (k1 : In64 (x.t + 1)) (k2 : In64 (x.t + 1 + cs[nn].g)) => arrives_spec hT nn cs[nn] x.t hx k1 k2
  have hs1 := ship1_c (bs := bs) (d := d) hnn hx
  have hbk := refBooked_spec hT x.c x.t hbl
  obtain ⟨b4, o4, rfl, hrd⟩ := ctRow hT.rc hx
  rw [hnn] at hbk
  generalize cs[nn] = c at hrd hck harr hs1
  rw [hnn] at hrx x0
  by_cases h3 : x.t < d.r
  · rw [if_pos (.inl h3)] at hs1
    rw [shipE_bad hi hs1 (by decide)]
    refine zq_assign ?_
    refine jk_nil ?_
    refine jk_seq ?_
    refine jk_region ?_
    refine zq_move ?_
    refine zq_move ?_
    refine zq_idxN ?_
    refine zq_loadS ?_
    refine zl_allocS ?_; rintro _ _ ⟨b, rfl, rfl⟩
    refine zs_storeS ?_; rintro _ _ ⟨rfl, rfl⟩
    refine jk_nil ?_
    refine jk_seq ?_
    refine jk_seq ?_
    refine jk_region ?_
    refine zq_fld0 ?_
    refine zq_load ?_
    refine zq_ltF ?_
    refine zq_move ?_
    refine zq_fld0 ?_
    refine zq_load ?_
    refine zq_fld0 ?_
    refine zq_fld0 ?_
    refine zq_load ?_
    refine zq_len ?_
    refine zq_geF ?_
    refine zq_pick_f ?_
    refine jk_nil ?_
    refine jk_if_f rfl ?_
    refine jk_skip ?_
    refine jk_seq ?_
    refine jk_region ?_
    refine zq_fld0 ?_
    refine zq_fld0 ?_
    refine zq_load ?_
    refine zq_fld0 ?_
    refine zq_load ?_
    refine zq_idxN ?_
    refine zq_loadS ?_
    refine zl_allocS ?_; rintro _ _ ⟨b, rfl, rfl⟩
    refine zs_storeS ?_; rintro _ _ ⟨rfl, rfl⟩
    refine jk_nil ?_
    refine jk_seq ?_
    refine jk_seq ?_
    refine jk_region ?_
    refine zq_fld0 ?_
    refine zq_load ?_
    refine zq_fld0 ?_
    refine zq_load ?_
    refine zq_lt ?_
    refine zq_move ?_
    refine jk_pass rfl rfl rfl ?_
    refine jk_pass rfl rfl rfl ?_
    refine jk_pass rfl rfl rfl ?_
    refine jk_pass rfl rfl rfl ?_
    refine jk_pass rfl rfl rfl ?_
    refine zq_pick_t ?_
    refine zq_move ?_
    refine jk_pass rfl rfl rfl ?_
    refine jk_pass rfl rfl rfl ?_
    refine jk_pass rfl rfl rfl ?_
    refine jk_pass rfl rfl rfl ?_
    refine jk_pass rfl rfl rfl ?_
    refine zq_pick_t ?_
    refine zq_move ?_
    refine jk_pass rfl rfl rfl ?_
    refine jk_pass rfl rfl rfl ?_
    refine jk_pass rfl rfl rfl ?_
    refine zq_pick_t ?_
    refine zq_move ?_
    refine jk_pass rfl rfl rfl ?_
    refine jk_pass rfl rfl rfl ?_
    refine jk_pass rfl rfl rfl ?_
    refine jk_pass rfl rfl rfl ?_
    refine jk_pass rfl rfl rfl ?_
    refine zq_pick_t ?_
    refine jk_nil ?_
    refine jk_if_t rfl ?_
    refine jk_seq ?_
    refine jk_region ?_
    refine zq_assign ?_
    refine jk_nil ?_
    exact jk_ret_any (res1 rfl rfl) (by (repeat (first | exact rs_nil | (refine rs_cons ?_ ?_; (focus ((repeat (first | exact .here | apply Mem.there | apply Take.there)); first | done | fail))) | exact fun ρ hρ => hρ | (intro ρ hρ; repeat (first | exact hρ | refine List.mem_cons_of_mem _ ?_)))); first | done | fail) selZ ⟨rfl, rfl⟩
  by_cases h4 : x.t < c.s
  · rw [if_pos (.inr (.inl h4))] at hs1
    rw [shipE_bad hi hs1 (by decide)]
    refine zq_assign ?_
    refine jk_nil ?_
    refine jk_seq ?_
    refine jk_region ?_
    refine zq_move ?_
    refine zq_move ?_
    refine zq_idxN ?_
    refine zq_loadS ?_
    refine zl_allocS ?_; rintro _ _ ⟨b, rfl, rfl⟩
    refine zs_storeS ?_; rintro _ _ ⟨rfl, rfl⟩
    refine jk_nil ?_
    refine jk_seq ?_
    refine jk_seq ?_
    refine jk_region ?_
    refine zq_fld0 ?_
    refine zq_load ?_
    refine zq_ltF ?_
    refine zq_move ?_
    refine zq_fld0 ?_
    refine zq_load ?_
    refine zq_fld0 ?_
    refine zq_fld0 ?_
    refine zq_load ?_
    refine zq_len ?_
    refine zq_geF ?_
    refine zq_pick_f ?_
    refine jk_nil ?_
    refine jk_if_f rfl ?_
    refine jk_skip ?_
    refine jk_seq ?_
    refine jk_region ?_
    refine zq_fld0 ?_
    refine zq_fld0 ?_
    refine zq_load ?_
    refine zq_fld0 ?_
    refine zq_load ?_
    refine zq_idxN ?_
    refine zq_loadS ?_
    refine zl_allocS ?_; rintro _ _ ⟨b, rfl, rfl⟩
    refine zs_storeS ?_; rintro _ _ ⟨rfl, rfl⟩
    refine jk_nil ?_
    refine jk_seq ?_
    refine jk_seq ?_
    refine jk_region ?_
    refine zq_fld0 ?_
    refine zq_load ?_
    refine zq_fld0 ?_
    refine zq_load ?_
    refine zq_ltF ?_
    refine zq_move ?_
    refine zq_fld0 ?_
    refine zq_load ?_
    refine zq_fld0 ?_
    refine zq_load ?_
    refine zq_lt ?_
    refine zq_pick_f ?_
    refine zq_move ?_
    refine jk_pass rfl rfl rfl ?_
    refine jk_pass rfl rfl rfl ?_
    refine jk_pass rfl rfl rfl ?_
    refine jk_pass rfl rfl rfl ?_
    refine jk_pass rfl rfl rfl ?_
    refine zq_pick_t ?_
    refine zq_move ?_
    refine jk_pass rfl rfl rfl ?_
    refine jk_pass rfl rfl rfl ?_
    refine jk_pass rfl rfl rfl ?_
    refine zq_pick_t ?_
    refine zq_move ?_
    refine jk_pass rfl rfl rfl ?_
    refine jk_pass rfl rfl rfl ?_
    refine jk_pass rfl rfl rfl ?_
    refine jk_pass rfl rfl rfl ?_
    refine jk_pass rfl rfl rfl ?_
    refine zq_pick_t ?_
    refine jk_nil ?_
    refine jk_if_t rfl ?_
    refine jk_seq ?_
    refine jk_region ?_
    refine zq_assign ?_
    refine jk_nil ?_
    exact jk_ret_any (res1 rfl rfl) (by (repeat (first | exact rs_nil | (refine rs_cons ?_ ?_; (focus ((repeat (first | exact .here | apply Mem.there | apply Take.there)); first | done | fail))) | exact fun ρ hρ => hρ | (intro ρ hρ; repeat (first | exact hρ | refine List.mem_cons_of_mem _ ?_)))); first | done | fail) selZ ⟨rfl, rfl⟩
  by_cases h5 : c.e ≤ x.t
  · rw [if_pos (.inr (.inr (.inl h5)))] at hs1
    rw [shipE_bad hi hs1 (by decide)]
    refine zq_assign ?_
    refine jk_nil ?_
    refine jk_seq ?_
    refine jk_region ?_
    refine zq_move ?_
    refine zq_move ?_
    refine zq_idxN ?_
    refine zq_loadS ?_
    refine zl_allocS ?_; rintro _ _ ⟨b, rfl, rfl⟩
    refine zs_storeS ?_; rintro _ _ ⟨rfl, rfl⟩
    refine jk_nil ?_
    refine jk_seq ?_
    refine jk_seq ?_
    refine jk_region ?_
    refine zq_fld0 ?_
    refine zq_load ?_
    refine zq_ltF ?_
    refine zq_move ?_
    refine zq_fld0 ?_
    refine zq_load ?_
    refine zq_fld0 ?_
    refine zq_fld0 ?_
    refine zq_load ?_
    refine zq_len ?_
    refine zq_geF ?_
    refine zq_pick_f ?_
    refine jk_nil ?_
    refine jk_if_f rfl ?_
    refine jk_skip ?_
    refine jk_seq ?_
    refine jk_region ?_
    refine zq_fld0 ?_
    refine zq_fld0 ?_
    refine zq_load ?_
    refine zq_fld0 ?_
    refine zq_load ?_
    refine zq_idxN ?_
    refine zq_loadS ?_
    refine zl_allocS ?_; rintro _ _ ⟨b, rfl, rfl⟩
    refine zs_storeS ?_; rintro _ _ ⟨rfl, rfl⟩
    refine jk_nil ?_
    refine jk_seq ?_
    refine jk_seq ?_
    refine jk_region ?_
    refine zq_fld0 ?_
    refine zq_load ?_
    refine zq_fld0 ?_
    refine zq_load ?_
    refine zq_ltF ?_
    refine zq_move ?_
    refine zq_fld0 ?_
    refine zq_load ?_
    refine zq_fld0 ?_
    refine zq_load ?_
    refine zq_ltF ?_
    refine zq_pick_f ?_
    refine zq_move ?_
    refine zq_fld0 ?_
    refine zq_load ?_
    refine zq_fld0 ?_
    refine zq_load ?_
    refine zq_ge ?_
    refine zq_pick_f ?_
    refine zq_move ?_
    refine jk_pass rfl rfl rfl ?_
    refine jk_pass rfl rfl rfl ?_
    refine jk_pass rfl rfl rfl ?_
    refine zq_pick_t ?_
    refine zq_move ?_
    refine jk_pass rfl rfl rfl ?_
    refine jk_pass rfl rfl rfl ?_
    refine jk_pass rfl rfl rfl ?_
    refine jk_pass rfl rfl rfl ?_
    refine jk_pass rfl rfl rfl ?_
    refine zq_pick_t ?_
    refine jk_nil ?_
    refine jk_if_t rfl ?_
    refine jk_seq ?_
    refine jk_region ?_
    refine zq_assign ?_
    refine jk_nil ?_
    exact jk_ret_any (res1 rfl rfl) (by (repeat (first | exact rs_nil | (refine rs_cons ?_ ?_; (focus ((repeat (first | exact .here | apply Mem.there | apply Take.there)); first | done | fail))) | exact fun ρ hρ => hρ | (intro ρ hρ; repeat (first | exact hρ | refine List.mem_cons_of_mem _ ?_)))); first | done | fail) selZ ⟨rfl, rfl⟩
  by_cases h6 : x.n < 1
  · rw [if_pos (.inr (.inr (.inr (.inl h6))))] at hs1
    rw [shipE_bad hi hs1 (by decide)]
    refine zq_assign ?_
    refine jk_nil ?_
    refine jk_seq ?_
    refine jk_region ?_
    refine zq_move ?_
    refine zq_move ?_
    refine zq_idxN ?_
    refine zq_loadS ?_
    refine zl_allocS ?_; rintro _ _ ⟨b, rfl, rfl⟩
    refine zs_storeS ?_; rintro _ _ ⟨rfl, rfl⟩
    refine jk_nil ?_
    refine jk_seq ?_
    refine jk_seq ?_
    refine jk_region ?_
    refine zq_fld0 ?_
    refine zq_load ?_
    refine zq_ltF ?_
    refine zq_move ?_
    refine zq_fld0 ?_
    refine zq_load ?_
    refine zq_fld0 ?_
    refine zq_fld0 ?_
    refine zq_load ?_
    refine zq_len ?_
    refine zq_geF ?_
    refine zq_pick_f ?_
    refine jk_nil ?_
    refine jk_if_f rfl ?_
    refine jk_skip ?_
    refine jk_seq ?_
    refine jk_region ?_
    refine zq_fld0 ?_
    refine zq_fld0 ?_
    refine zq_load ?_
    refine zq_fld0 ?_
    refine zq_load ?_
    refine zq_idxN ?_
    refine zq_loadS ?_
    refine zl_allocS ?_; rintro _ _ ⟨b, rfl, rfl⟩
    refine zs_storeS ?_; rintro _ _ ⟨rfl, rfl⟩
    refine jk_nil ?_
    refine jk_seq ?_
    refine jk_seq ?_
    refine jk_region ?_
    refine zq_fld0 ?_
    refine zq_load ?_
    refine zq_fld0 ?_
    refine zq_load ?_
    refine zq_ltF ?_
    refine zq_move ?_
    refine zq_fld0 ?_
    refine zq_load ?_
    refine zq_fld0 ?_
    refine zq_load ?_
    refine zq_ltF ?_
    refine zq_pick_f ?_
    refine zq_move ?_
    refine zq_fld0 ?_
    refine zq_load ?_
    refine zq_fld0 ?_
    refine zq_load ?_
    refine zq_geF ?_
    refine zq_pick_f ?_
    refine zq_move ?_
    refine zq_fld0 ?_
    refine zq_load ?_
    refine zq_lt ?_
    refine zq_pick_f ?_
    refine zq_move ?_
    refine jk_pass rfl rfl rfl ?_
    refine jk_pass rfl rfl rfl ?_
    refine jk_pass rfl rfl rfl ?_
    refine jk_pass rfl rfl rfl ?_
    refine jk_pass rfl rfl rfl ?_
    refine zq_pick_t ?_
    refine jk_nil ?_
    refine jk_if_t rfl ?_
    refine jk_seq ?_
    refine jk_region ?_
    refine zq_assign ?_
    refine jk_nil ?_
    exact jk_ret_any (res1 rfl rfl) (by (repeat (first | exact rs_nil | (refine rs_cons ?_ ?_; (focus ((repeat (first | exact .here | apply Mem.there | apply Take.there)); first | done | fail))) | exact fun ρ hρ => hρ | (intro ρ hρ; repeat (first | exact hρ | refine List.mem_cons_of_mem _ ?_)))); first | done | fail) selZ ⟨rfl, rfl⟩
  by_cases h7 : c.r < x.n
  · rw [if_pos (.inr (.inr (.inr (.inr h7))))] at hs1
    rw [shipE_bad hi hs1 (by decide)]
    refine zq_assign ?_
    refine jk_nil ?_
    refine jk_seq ?_
    refine jk_region ?_
    refine zq_move ?_
    refine zq_move ?_
    refine zq_idxN ?_
    refine zq_loadS ?_
    refine zl_allocS ?_; rintro _ _ ⟨b, rfl, rfl⟩
    refine zs_storeS ?_; rintro _ _ ⟨rfl, rfl⟩
    refine jk_nil ?_
    refine jk_seq ?_
    refine jk_seq ?_
    refine jk_region ?_
    refine zq_fld0 ?_
    refine zq_load ?_
    refine zq_ltF ?_
    refine zq_move ?_
    refine zq_fld0 ?_
    refine zq_load ?_
    refine zq_fld0 ?_
    refine zq_fld0 ?_
    refine zq_load ?_
    refine zq_len ?_
    refine zq_geF ?_
    refine zq_pick_f ?_
    refine jk_nil ?_
    refine jk_if_f rfl ?_
    refine jk_skip ?_
    refine jk_seq ?_
    refine jk_region ?_
    refine zq_fld0 ?_
    refine zq_fld0 ?_
    refine zq_load ?_
    refine zq_fld0 ?_
    refine zq_load ?_
    refine zq_idxN ?_
    refine zq_loadS ?_
    refine zl_allocS ?_; rintro _ _ ⟨b, rfl, rfl⟩
    refine zs_storeS ?_; rintro _ _ ⟨rfl, rfl⟩
    refine jk_nil ?_
    refine jk_seq ?_
    refine jk_seq ?_
    refine jk_region ?_
    refine zq_fld0 ?_
    refine zq_load ?_
    refine zq_fld0 ?_
    refine zq_load ?_
    refine zq_ltF ?_
    refine zq_move ?_
    refine zq_fld0 ?_
    refine zq_load ?_
    refine zq_fld0 ?_
    refine zq_load ?_
    refine zq_ltF ?_
    refine zq_pick_f ?_
    refine zq_move ?_
    refine zq_fld0 ?_
    refine zq_load ?_
    refine zq_fld0 ?_
    refine zq_load ?_
    refine zq_geF ?_
    refine zq_pick_f ?_
    refine zq_move ?_
    refine zq_fld0 ?_
    refine zq_load ?_
    refine zq_ltF ?_
    refine zq_pick_f ?_
    refine zq_move ?_
    refine zq_fld0 ?_
    refine zq_load ?_
    refine zq_fld0 ?_
    refine zq_load ?_
    refine zq_gt ?_
    refine zq_pick_f ?_
    refine jk_nil ?_
    refine jk_if_t rfl ?_
    refine jk_seq ?_
    refine jk_region ?_
    refine zq_assign ?_
    refine jk_nil ?_
    exact jk_ret_any (res1 rfl rfl) (by (repeat (first | exact rs_nil | (refine rs_cons ?_ ?_; (focus ((repeat (first | exact .here | apply Mem.there | apply Take.there)); first | done | fail))) | exact fun ρ hρ => hρ | (intro ρ hρ; repeat (first | exact hρ | refine List.mem_cons_of_mem _ ?_)))); first | done | fail) selZ ⟨rfl, rfl⟩
  rw [if_neg (by omega : ¬ (x.t < d.r ∨ x.t < c.s ∨ c.e ≤ x.t ∨ x.n < 1 ∨ c.r < x.n))] at hs1
  have harr2 := harr ⟨by omega, by omega⟩ ⟨by omega, by omega⟩
  refine zq_assign ?_
  refine jk_nil ?_
  refine jk_seq ?_
  refine jk_region ?_
  refine zq_move ?_
  refine zq_move ?_
  refine zq_idxN ?_
  refine zq_loadS ?_
  refine zl_allocS ?_; rintro _ _ ⟨b, rfl, rfl⟩
  refine zs_storeS ?_; rintro _ _ ⟨rfl, rfl⟩
  refine jk_nil ?_
  refine jk_seq ?_
  refine jk_seq ?_
  refine jk_region ?_
  refine zq_fld0 ?_
  refine zq_load ?_
  refine zq_ltF ?_
  refine zq_move ?_
  refine zq_fld0 ?_
  refine zq_load ?_
  refine zq_fld0 ?_
  refine zq_fld0 ?_
  refine zq_load ?_
  refine zq_len ?_
  refine zq_geF ?_
  refine zq_pick_f ?_
  refine jk_nil ?_
  refine jk_if_f rfl ?_
  refine jk_skip ?_
  refine jk_seq ?_
  refine jk_region ?_
  refine zq_fld0 ?_
  refine zq_fld0 ?_
  refine zq_load ?_
  refine zq_fld0 ?_
  refine zq_load ?_
  refine zq_idxN ?_
  refine zq_loadS ?_
  refine zl_allocS ?_; rintro _ _ ⟨b, rfl, rfl⟩
  refine zs_storeS ?_; rintro _ _ ⟨rfl, rfl⟩
  refine jk_nil ?_
  refine jk_seq ?_
  refine jk_seq ?_
  refine jk_region ?_
  refine zq_fld0 ?_
  refine zq_load ?_
  refine zq_fld0 ?_
  refine zq_load ?_
  refine zq_ltF ?_
  refine zq_move ?_
  refine zq_fld0 ?_
  refine zq_load ?_
  refine zq_fld0 ?_
  refine zq_load ?_
  refine zq_ltF ?_
  refine zq_pick_f ?_
  refine zq_move ?_
  refine zq_fld0 ?_
  refine zq_load ?_
  refine zq_fld0 ?_
  refine zq_load ?_
  refine zq_geF ?_
  refine zq_pick_f ?_
  refine zq_move ?_
  refine zq_fld0 ?_
  refine zq_load ?_
  refine zq_ltF ?_
  refine zq_pick_f ?_
  refine zq_move ?_
  refine zq_fld0 ?_
  refine zq_load ?_
  refine zq_fld0 ?_
  refine zq_load ?_
  refine zq_gtF ?_
  refine zq_pick_f ?_
  refine jk_nil ?_
  refine jk_if_f rfl ?_
  refine jk_skip ?_
  refine jk_seq ?_
  refine jk_seq ?_
  revert b; intro bc
  revert b; intro bx
  have gx0 : rdc (sng bx (.cells #[int nn, int x.t, int x.n] 53 (0, 0))) bx 0 = some (int nn) := by rw [rdc_sng]; rfl
  have gx1 : rdc (sng bx (.cells #[int nn, int x.t, int x.n] 53 (0, 0))) bx 1 = some (int x.t) := by rw [rdc_sng]; rfl
  refine jk_freeze (ρ := sng bx _) takeZ ?_
  refine jk_draw (.q 0 (.q 1 (.q 2 (.q 3 (.q 4 (.q 6 (.q 7 (.l 5 .e (.q 8 .nil))))))))) [] rfl (by kernel_rfl) Sel.nil ?_
  refine zd_loadS ?_
  refine zd_fld0 ?_
  refine zd_load ?_
  refine zd_fld0 ?_
  refine zd_load ?_
  refine zd_fld0 ?_
  refine zd_load ?_
  refine dj_l (a_call rfl harr2 rfl rfl rdZ rfl rfl ?_)
  rintro _ rfl
  by_cases h8 : d.e < x.t + 1 + c.g
  · rw [if_pos h8] at hs1
    rw [shipE_bad hi hs1 (by decide)]
    refine zd_gt ?_
    refine dj_end ?_
    refine jk_if_t rfl ?_
    refine jk_seq ?_
    refine jk_region ?_
    refine zq_assign ?_
    refine jk_nil ?_
    exact jk_ret_any (res1 rfl rfl) (by (repeat (first | exact rs_nil | (refine rs_cons ?_ ?_; (focus ((repeat (first | exact .here | apply Mem.there | apply Take.there)); first | done | fail))) | exact fun ρ hρ => hρ | (intro ρ hρ; repeat (first | exact hρ | refine List.mem_cons_of_mem _ ?_)))); first | done | fail) selZ ⟨rfl, rfl⟩
  rw [if_neg h8] at hs1
  refine zd_gtF ?_
  refine dj_end ?_
  refine jk_if_f rfl ?_
  refine jk_skip ?_
  refine jk_seq ?_
  refine jk_seq ?_
  refine jk_region ?_
  refine zq_loadS ?_
  refine zq_fld0 ?_
  refine zq_load ?_
  refine zq_fld0 ?_
  refine zq_load ?_
  refine jk_call hbk rfl rfl rdZ rfl rfl ?_
  rintro _ rfl
  cases hbb : bookedB bs nn x.t with
  | true =>
    rw [hbb, if_pos rfl] at hs1
    rw [shipE_bad hi hs1 (by decide)]
    refine jk_nil ?_
    refine jk_if_t rfl ?_
    refine jk_seq ?_
    refine jk_region ?_
    refine zq_assign ?_
    refine jk_nil ?_
    exact jk_ret_any (res1 rfl rfl) (by (repeat (first | exact rs_nil | (refine rs_cons ?_ ?_; (focus ((repeat (first | exact .here | apply Mem.there | apply Take.there)); first | done | fail))) | exact fun ρ hρ => hρ | (intro ρ hρ; repeat (first | exact hρ | refine List.mem_cons_of_mem _ ?_)))); first | done | fail) selZ ⟨rfl, rfl⟩
  | false =>
  rw [hbb, if_neg (by simp)] at hs1
  rw [shipE_good hi hs1]
  refine jk_nil ?_
  refine jk_if_f rfl ?_
  refine jk_skip ?_
  refine jk_seq ?_
  refine jk_seq ?_
  refine jk_region ?_
  refine zq_assign ?_
  refine jk_nil ?_
  refine jk_block ?_
  refine jk_loop [2, 3, 9] (0 : Nat) (fun k => k ≤ i ∧ (l.take k).any (sameSl x) = false) (fun k => [(11, int k)]) (fun _ => []) (fun k => i - k) pickZ ⟨by omega, by simp⟩ covZ selZ ?_
  rintro k ⟨hk, hI⟩
  by_cases hki : k < i
  · have hkl : k < l.length := by omega
    have hn := any_take (sameSl x) hkl
    rw [hI, Bool.false_or] at hn
    have hmem : l[k] ∈ l.take i := by
      rw [List.mem_iff_getElem?]
      exact ⟨k, by rw [List.getElem?_take_of_lt hki]; exact List.getElem?_eq_getElem hkl⟩
    obtain ⟨_, _, e, hry, y0, y1, y2⟩ := shRow hr (List.getElem?_eq_getElem hkl)
    simp only [Option.some.injEq, Addr.mk.injEq, and_true] at e
    obtain ⟨rfl, rfl⟩ := e
    generalize l[k] = y at hry y0 y1 y2 hn hmem
    refine jk_seq ?_
    refine jk_seq ?_
    refine jk_region ?_
    refine zq_move ?_
    refine zq_move ?_
    refine zq_lt ?_
    refine jk_nil ?_
    refine jk_if_t rfl ?_
    refine jk_skip ?_
    refine jk_seq ?_
    refine jk_block ?_
    refine jk_seq ?_
    refine jk_draw (.q 0 (.q 1 (.q 2 (.q 3 (.q 4 (.q 5 (.q 6 (.q 7 (.q 8 (.q 9 (.q 10 (.q 11 (.q 12 (.q 13 (.q 14 (.q 15 (.q 16 (.q 17 .nil)))))))))))))))))) [] rfl (by kernel_rfl) Sel.nil ?_
    by_cases e1 : y.c = nn
    · by_cases e2 : y.t = x.t
      · rw [if_pos (List.any_eq_true.2 ⟨y, hmem, decide_eq_true ⟨by omega, by omega⟩⟩)]
        refine zd_move ?_
        refine zd_move ?_
        refine zd_idxN ?_
        refine zd_fldZ ?_
        refine zd_load ?_
        refine zd_fld0 ?_
        refine zd_load ?_
        refine zd_eq ?_
        refine zd_move ?_
        refine zd_move ?_
        refine zd_move ?_
        refine zd_idxN ?_
        refine zd_fld ?_
        refine zd_load ?_
        refine zd_fld0 ?_
        refine zd_load ?_
        refine zd_eq ?_
        refine zd_pick_t ?_
        refine dj_end ?_
        refine jk_if_t rfl ?_
        refine jk_seq ?_
        refine jk_region ?_
        refine zq_assign ?_
        refine jk_nil ?_
        exact jk_ret_any (res1 rfl rfl) (by (repeat (first | exact rs_nil | (refine rs_cons ?_ ?_; (focus ((repeat (first | exact .here | apply Mem.there | apply Take.there)); first | done | fail))) | exact fun ρ hρ => hρ | (intro ρ hρ; repeat (first | exact hρ | refine List.mem_cons_of_mem _ ?_)))); first | done | fail) selZ ⟨rfl, rfl⟩
      · rw [show sameSl x y = false from decide_eq_false (by omega)] at hn
        refine zd_move ?_
        refine zd_move ?_
        refine zd_idxN ?_
        refine zd_fldZ ?_
        refine zd_load ?_
        refine zd_fld0 ?_
        refine zd_load ?_
        refine zd_eq ?_
        refine zd_move ?_
        refine zd_move ?_
        refine zd_move ?_
        refine zd_idxN ?_
        refine zd_fld ?_
        refine zd_load ?_
        refine zd_fld0 ?_
        refine zd_load ?_
        refine zd_eqF ?_
        refine zd_pick_t ?_
        refine dj_end ?_
        refine jk_if_f rfl ?_
        refine jk_skip ?_
        refine jk_blk ?_
        refine jk_region ?_
        refine zq_move ?_
        refine zq_inc ?_
        refine zq_assign ?_
        refine jk_nil ?_
        exact jk_round (k + 1) ⟨by omega, hn⟩ (by omega) covZ selZ
    · rw [show sameSl x y = false from decide_eq_false (by omega)] at hn
      refine zd_move ?_
      refine zd_move ?_
      refine zd_idxN ?_
      refine zd_fldZ ?_
      refine zd_load ?_
      refine zd_fld0 ?_
      refine zd_load ?_
      refine zd_eqF ?_
      refine zd_move ?_
      refine dj_pass rfl rfl rfl rfl rfl ?_
      refine dj_pass rfl rfl rfl rfl rfl ?_
      refine dj_pass rfl rfl rfl rfl rfl ?_
      refine dj_pass rfl rfl rfl rfl rfl ?_
      refine dj_pass rfl rfl rfl rfl rfl ?_
      refine dj_pass rfl rfl rfl rfl rfl ?_
      refine dj_pass rfl rfl rfl rfl rfl ?_
      refine dj_pass rfl rfl rfl rfl rfl ?_
      refine zd_pick_f ?_
      refine dj_end ?_
      refine jk_if_f rfl ?_
      refine jk_skip ?_
      refine jk_blk ?_
      refine jk_region ?_
      refine zq_move ?_
      refine zq_inc ?_
      refine zq_assign ?_
      refine jk_nil ?_
      exact jk_round (k + 1) ⟨by omega, hn⟩ (by omega) covZ selZ
  have hke : k = i := by omega
  subst hke
  rw [hI, if_neg (by simp)]
  refine jk_seq ?_
  refine jk_seq ?_
  refine jk_region ?_
  refine zq_move ?_
  refine zq_move ?_
  refine zq_ltF ?_
  refine jk_nil ?_
  refine jk_if_f rfl ?_
  refine jk_exit rfl ?_
  refine jk_seq ?_
  refine jk_region ?_
  refine zq_assign ?_
  refine jk_nil ?_
  exact jk_ret_any (res1 rfl rfl) (by (repeat (first | exact rs_nil | (refine rs_cons ?_ ?_; (focus ((repeat (first | exact .here | apply Mem.there | apply Take.there)); first | done | fail))) | exact fun ρ hρ => hρ | (intro ρ hρ; repeat (first | exact hρ | refine List.mem_cons_of_mem _ ?_)))); first | done | fail) selZ ⟨rfl, rfl⟩
end Go.Proofs.Ytjbebmealbnmgaa
