/- Texts of this proof, one after the other; no conditions. -/
import Derived.Test.YtjbebmealbnmgaaGreatRows
import Derived.Test.YtjbebmealbnmgaaGreatWB6
import Derived.Test.YtjbebmealbnmgaaGreatWB2
import Derived.Test.YtjbebmealbnmgaaGreatWB1
set_option linter.all false
/- Rooms, arrivals, shipments. -/
namespace Go.Proofs.YtjbebmealbnmgaaGreat
open Go.Eng Go.Step
set_option maxRecDepth 100000
set_option maxHeartbeats 4000000

set_option maxHeartbeats 16000000 in
theorem certRoom_spec {ρ τ σ υ : PH} {pq pc pb ph : Option Addr} {kq kc kb kh : Nat} {qs : List Int} {cs : List Ct} {bs : List Bk} {hs : List Hd} (hT : TbAt ρ τ σ υ pq pc pb ph kq kc kb kh qs cs bs hs) (nn : Nat) (t Q : Int) (hQ : qs[nn]? = some Q) (hQb : 0 ≤ Q ∧ Q ≤ 1073741824) (hok : ∀ h ∈ hs, okHd qs.length h) (hl : hs.length ≤ 600) :
    Ans Tryz.prog (fv 22) [.agg #[.slice pq qs.length kq, .slice pc cs.length kc, .slice pb bs.length kb, .slice ph hs.length kh], int nn, int t] [ρ, τ, σ, υ] (fun r => r = int (Q - Step.stored hs nn t)) := by
  have hr := hT.rh
  have hnl := (List.getElem?_eq_some_iff.1 hQ).1
  refine spec_in (cap := []) Tryz.func22 rfl rfl Tryz.ntmps22 rfl (by (repeat (first | exact EnvA.nil EnvI.nil | apply EnvA.cons | apply EnvA.nil | exact EnvI.nil | apply EnvI.cons)); first | done | fail) (fun N β => ?_)
  refine jk_seq ?_
  refine jk_region ?_
  refine jk_op (l_boxS rfl) rfl rfl rfl ?_
  rintro _ _ ⟨b1, rfl, rfl⟩
  refine jk_freeze (ρ := sng b1 _) takeZ ?_
  have ct : RdN (sng b1 (.cells #[.slice pq qs.length kq, .slice pc cs.length kc, .slice pb bs.length kb, .slice ph hs.length kh] 29 (0, 0))) b1 0 [.slice pq qs.length kq, .slice pc cs.length kc, .slice pb bs.length kb, .slice ph hs.length kh] := rdN_sng (vs := [.slice pq qs.length kq, .slice pc cs.length kc, .slice pb bs.length kb, .slice ph hs.length kh])
  have ct0 : rdc (sng b1 (.cells #[.slice pq qs.length kq, .slice pc cs.length kc, .slice pb bs.length kb, .slice ph hs.length kh] 29 (0, 0))) b1 0 = some (.slice pq qs.length kq) := by rw [rdc_sng]; rfl
  have ct1 : rdc (sng b1 (.cells #[.slice pq qs.length kq, .slice pc cs.length kc, .slice pb bs.length kb, .slice ph hs.length kh] 29 (0, 0))) b1 1 = some (.slice pc cs.length kc) := by rw [rdc_sng]; rfl
  have ct2 : rdc (sng b1 (.cells #[.slice pq qs.length kq, .slice pc cs.length kc, .slice pb bs.length kb, .slice ph hs.length kh] 29 (0, 0))) b1 2 = some (.slice pb bs.length kb) := by rw [rdc_sng]; rfl
  have ct3 : rdc (sng b1 (.cells #[.slice pq qs.length kq, .slice pc cs.length kc, .slice pb bs.length kb, .slice ph hs.length kh] 29 (0, 0))) b1 3 = some (.slice ph hs.length kh) := by rw [rdc_sng]; rfl
  have ctp : RdP (sng b1 (.cells #[.slice pq qs.length kq, .slice pc cs.length kc, .slice pb bs.length kb, .slice ph hs.length kh] 29 (0, 0))) b1 0 [.slice pq qs.length kq, .slice pc cs.length kc] := rdP_sng (xs := [.slice pq qs.length kq, .slice pc cs.length kc, .slice pb bs.length kb, .slice ph hs.length kh]) rfl
  obtain ⟨bq, oq, rfl, gq⟩ := hT.rq.int hQ
  refine zq_assign ?_
  refine jk_nil ?_
  refine jk_seq ?_
  refine jk_region ?_
  refine zq_fld0 ?_
  refine zq_fld0 ?_
  refine zq_load ?_
  refine zq_move ?_
  refine zq_idx1 ?_
  refine zq_load ?_
  refine zq_assign ?_
  refine jk_nil ?_
  refine jk_seq ?_
  refine jk_seq ?_
  refine jk_region ?_
  refine zq_fld0 ?_
  refine zq_load ?_
  refine zq_len ?_
  refine zq_move ?_
  refine jk_nil ?_
  refine jk_block ?_
  refine jk_loop [1, 2, 17, 18] (0 : Nat) (fun k => k ≤ hs.length) (fun k => [(19, int k), (7, int (Q - Step.stored (hs.take k) nn t))]) (fun _ => []) (fun k => hs.length - k) pickZ (by omega) ?_ selZ ?_
  · rw [List.take_zero]
    simp only [Step.stored, Int.sub_zero]
    exact covZ
  intro k hk
  by_cases hlt : k < hs.length
  · have hx := List.getElem?_eq_getElem hlt
    have hh := (hok _ (List.getElem_mem hlt)).2.2.1
    obtain ⟨b3, o3, rfl, hrd, g0, g1, g2, g3, _⟩ := hdRow5 hr hx
    have hm := stored_snoc nn t hs[k] (hs.take k)
    rw [← List.take_succ_eq_append_getElem hlt] at hm
    have hb := stored_bd (n := nn) (t := t) (l := hs.take k) (fun h hm => hok h (List.mem_of_mem_take hm))
    rw [List.length_take, Nat.min_eq_left hk] at hb
    generalize hs[k] = h at hrd g0 g1 g2 g3 hm hh
    generalize Step.stored (hs.take k) nn t = s at hm hb
    by_cases c1 : h.n = nn
    · by_cases c2 : h.a ≤ t
      · by_cases c3 : t < h.b
        · rw [if_pos ⟨c1, c2, c3⟩] at hm
          refine jk_seq ?_
          refine jk_region ?_
          refine zq_lt ?_
          refine jk_nil ?_
          refine jk_seq ?_
          refine jk_if_t rfl ?_
          refine jk_skip ?_
          refine jk_seq ?_
          refine jk_block ?_
          refine jk_seq ?_
          refine jk_region ?_
          refine zq_idxN ?_
          refine zq_loadS ?_
          refine zl_allocS ?_; rintro _ _ ⟨b, rfl, rfl⟩
          refine zs_storeS ?_; rintro _ _ ⟨rfl, rfl⟩
          refine jk_nil ?_
          refine jk_seq ?_
          refine jk_region ?_
          refine zq_fld0 ?_
          refine zq_load ?_
          refine zq_move ?_
          refine zq_eq ?_
          refine zq_move ?_
          refine zq_fld0 ?_
          refine zq_load ?_
          refine zq_move ?_
          refine zq_le ?_
          refine zq_pick_t ?_
          refine zq_move ?_
          refine zq_move ?_
          refine zq_fld0 ?_
          refine zq_load ?_
          refine zq_lt ?_
          refine zq_pick_t ?_
          refine jk_nil ?_
          refine jk_if_t rfl ?_
          refine jk_region ?_
          refine zq_move ?_
          refine zq_fld0 ?_
          refine zq_load ?_
          refine zq_sub ?_
          refine zq_assign ?_
          refine jk_nil ?_
          refine jk_blk ?_
          refine jk_region ?_
          refine zq_inc ?_
          refine zq_move ?_
          refine jk_nil ?_
          refine jk_round (k + 1) (by omega) (by omega) ?_ selZ
          rw [hm, show Q - (s + h.s) = Q - s - h.s by omega]
          exact covZ
        · rw [if_neg (by omega), Int.add_zero] at hm
          refine jk_seq ?_
          refine jk_region ?_
          refine zq_lt ?_
          refine jk_nil ?_
          refine jk_seq ?_
          refine jk_if_t rfl ?_
          refine jk_skip ?_
          refine jk_seq ?_
          refine jk_block ?_
          refine jk_seq ?_
          refine jk_region ?_
          refine zq_idxN ?_
          refine zq_loadS ?_
          refine zl_allocS ?_; rintro _ _ ⟨b, rfl, rfl⟩
          refine zs_storeS ?_; rintro _ _ ⟨rfl, rfl⟩
          refine jk_nil ?_
          refine jk_seq ?_
          refine jk_region ?_
          refine zq_fld0 ?_
          refine zq_load ?_
          refine zq_move ?_
          refine zq_eq ?_
          refine zq_move ?_
          refine zq_fld0 ?_
          refine zq_load ?_
          refine zq_move ?_
          refine zq_le ?_
          refine zq_pick_t ?_
          refine zq_move ?_
          refine zq_move ?_
          refine zq_fld0 ?_
          refine zq_load ?_
          refine zq_ltF ?_
          refine zq_pick_t ?_
          refine jk_nil ?_
          refine jk_if_f rfl ?_
          refine jk_skip ?_
          refine jk_blk ?_
          refine jk_region ?_
          refine zq_inc ?_
          refine zq_move ?_
          refine jk_nil ?_
          refine jk_round (k + 1) (by omega) (by omega) ?_ selZ
          rw [hm]
          exact covZ
      · rw [if_neg (by omega), Int.add_zero] at hm
        refine jk_seq ?_
        refine jk_region ?_
        refine zq_lt ?_
        refine jk_nil ?_
        refine jk_seq ?_
        refine jk_if_t rfl ?_
        refine jk_skip ?_
        refine jk_seq ?_
        refine jk_block ?_
        refine jk_seq ?_
        refine jk_region ?_
        refine zq_idxN ?_
        refine zq_loadS ?_
        refine zl_allocS ?_; rintro _ _ ⟨b, rfl, rfl⟩
        refine zs_storeS ?_; rintro _ _ ⟨rfl, rfl⟩
        refine jk_nil ?_
        refine jk_seq ?_
        refine jk_region ?_
        refine zq_fld0 ?_
        refine zq_load ?_
        refine zq_move ?_
        refine zq_eq ?_
        refine zq_move ?_
        refine zq_fld0 ?_
        refine zq_load ?_
        refine zq_move ?_
        refine zq_leF ?_
        refine zq_pick_t ?_
        refine zq_move ?_
        refine jk_pass rfl rfl rfl ?_
        refine jk_pass rfl rfl rfl ?_
        refine jk_pass rfl rfl rfl ?_
        refine jk_pass rfl rfl rfl ?_
        refine zq_pick_f ?_
        refine jk_nil ?_
        refine jk_if_f rfl ?_
        refine jk_skip ?_
        refine jk_blk ?_
        refine jk_region ?_
        refine zq_inc ?_
        refine zq_move ?_
        refine jk_nil ?_
        refine jk_round (k + 1) (by omega) (by omega) ?_ selZ
        rw [hm]
        exact covZ
    · rw [if_neg (by omega), Int.add_zero] at hm
      refine jk_seq ?_
      refine jk_region ?_
      refine zq_lt ?_
      refine jk_nil ?_
      refine jk_seq ?_
      refine jk_if_t rfl ?_
      refine jk_skip ?_
      refine jk_seq ?_
      refine jk_block ?_
      refine jk_seq ?_
      refine jk_region ?_
      refine zq_idxN ?_
      refine zq_loadS ?_
      refine zl_allocS ?_; rintro _ _ ⟨b, rfl, rfl⟩
      refine zs_storeS ?_; rintro _ _ ⟨rfl, rfl⟩
      refine jk_nil ?_
      refine jk_seq ?_
      refine jk_region ?_
      refine zq_fld0 ?_
      refine zq_load ?_
      refine zq_move ?_
      refine zq_eqF ?_
      refine zq_move ?_
      refine jk_pass rfl rfl rfl ?_
      refine jk_pass rfl rfl rfl ?_
      refine jk_pass rfl rfl rfl ?_
      refine jk_pass rfl rfl rfl ?_
      refine zq_pick_f ?_
      refine zq_move ?_
      refine jk_pass rfl rfl rfl ?_
      refine jk_pass rfl rfl rfl ?_
      refine jk_pass rfl rfl rfl ?_
      refine jk_pass rfl rfl rfl ?_
      refine zq_pick_f ?_
      refine jk_nil ?_
      refine jk_if_f rfl ?_
      refine jk_skip ?_
      refine jk_blk ?_
      refine jk_region ?_
      refine zq_inc ?_
      refine zq_move ?_
      refine jk_nil ?_
      refine jk_round (k + 1) (by omega) (by omega) ?_ selZ
      rw [hm]
      exact covZ
  · have hke : k = hs.length := by omega
    subst hke
    rw [List.take_length]
    refine jk_seq ?_
    refine jk_region ?_
    refine zq_ltF ?_
    refine jk_nil ?_
    refine jk_seq ?_
    refine jk_if_f rfl ?_
    refine jk_exit rfl ?_
    refine jk_seq ?_
    refine jk_region ?_
    refine zq_move ?_
    refine zq_assign ?_
    refine jk_nil ?_
    exact jk_ret_any (res1 rfl rfl) (by (repeat (first | exact rs_nil | (refine rs_cons ?_ ?_; (focus ((repeat (first | exact .here | apply Mem.there | apply Take.there)); first | done | fail))) | exact fun ρ hρ => hρ | (intro ρ hρ; repeat (first | exact hρ | refine List.mem_cons_of_mem _ ?_)))); first | done | fail) selZ ⟨rfl, rfl⟩
set_option maxHeartbeats 16000000 in
theorem refCertRoom_spec {ρ τ σ υ : PH} {pq pc pb ph : Option Addr} {kq kc kb kh : Nat} {qs : List Int} {cs : List Ct} {bs : List Bk} {hs : List Hd} (hT : TbAt ρ τ σ υ pq pc pb ph kq kc kb kh qs cs bs hs) (d : Dm) (nn : Nat) (t Q : Int) (hQ : qs[nn]? = some Q) (hQb : 0 ≤ Q ∧ Q ≤ 1073741824) (hok : ∀ h ∈ hs, okHd qs.length h) (hl : hs.length ≤ 600) :
    Ans Tryz.prog (fv 28) [.agg #[.slice pq qs.length kq, .slice pc cs.length kc, .slice pb bs.length kb, .slice ph hs.length kh], .agg #[int d.s, int d.d, int d.v, int d.r, int d.e], int nn, int t] [ρ, τ, σ, υ] (fun r => r = int (roomT qs hs d nn t)) := by
  have hnl := (List.getElem?_eq_some_iff.1 hQ).1
  have hst := stored_spec υ _ hs nn t qs.length hT.hh hok hl
  have hb := stored_bd (n := nn) (t := t) (l := hs) hok
  refine spec_in (cap := []) Tryz.func28 rfl rfl Tryz.ntmps28 rfl (by (repeat (first | exact EnvA.nil EnvI.nil | apply EnvA.cons | apply EnvA.nil | exact EnvI.nil | apply EnvI.cons)); first | done | fail) (fun N β => ?_)
  refine jk_seq ?_
  refine jk_region ?_
  refine jk_op (l_boxS rfl) rfl rfl rfl ?_
  rintro _ _ ⟨b1, rfl, rfl⟩
  refine jk_freeze (ρ := sng b1 _) takeZ ?_
  have ct : RdN (sng b1 (.cells #[.slice pq qs.length kq, .slice pc cs.length kc, .slice pb bs.length kb, .slice ph hs.length kh] 29 (0, 0))) b1 0 [.slice pq qs.length kq, .slice pc cs.length kc, .slice pb bs.length kb, .slice ph hs.length kh] := rdN_sng (vs := [.slice pq qs.length kq, .slice pc cs.length kc, .slice pb bs.length kb, .slice ph hs.length kh])
  have ct0 : rdc (sng b1 (.cells #[.slice pq qs.length kq, .slice pc cs.length kc, .slice pb bs.length kb, .slice ph hs.length kh] 29 (0, 0))) b1 0 = some (.slice pq qs.length kq) := by rw [rdc_sng]; rfl
  have ct1 : rdc (sng b1 (.cells #[.slice pq qs.length kq, .slice pc cs.length kc, .slice pb bs.length kb, .slice ph hs.length kh] 29 (0, 0))) b1 1 = some (.slice pc cs.length kc) := by rw [rdc_sng]; rfl
  have ct2 : rdc (sng b1 (.cells #[.slice pq qs.length kq, .slice pc cs.length kc, .slice pb bs.length kb, .slice ph hs.length kh] 29 (0, 0))) b1 2 = some (.slice pb bs.length kb) := by rw [rdc_sng]; rfl
  have ct3 : rdc (sng b1 (.cells #[.slice pq qs.length kq, .slice pc cs.length kc, .slice pb bs.length kb, .slice ph hs.length kh] 29 (0, 0))) b1 3 = some (.slice ph hs.length kh) := by rw [rdc_sng]; rfl
  have ctp : RdP (sng b1 (.cells #[.slice pq qs.length kq, .slice pc cs.length kc, .slice pb bs.length kb, .slice ph hs.length kh] 29 (0, 0))) b1 0 [.slice pq qs.length kq, .slice pc cs.length kc] := rdP_sng (xs := [.slice pq qs.length kq, .slice pc cs.length kc, .slice pb bs.length kb, .slice ph hs.length kh]) rfl
  refine jk_op (l_boxS rfl) rfl rfl rfl ?_
  rintro _ _ ⟨b2, rfl, rfl⟩
  refine jk_freeze (ρ := sng b2 _) takeZ ?_
  have cd : RdN (sng b2 (.cells #[int d.s, int d.d, int d.v, int d.r, int d.e] 31 (0, 0))) b2 0 [int d.s, int d.d, int d.v, int d.r, int d.e] := rdN_sng (vs := [int d.s, int d.d, int d.v, int d.r, int d.e])
  have cd0 : rdc (sng b2 (.cells #[int d.s, int d.d, int d.v, int d.r, int d.e] 31 (0, 0))) b2 0 = some (int d.s) := by rw [rdc_sng]; rfl
  have cd1 : rdc (sng b2 (.cells #[int d.s, int d.d, int d.v, int d.r, int d.e] 31 (0, 0))) b2 1 = some (int d.d) := by rw [rdc_sng]; rfl
  have cd2 : rdc (sng b2 (.cells #[int d.s, int d.d, int d.v, int d.r, int d.e] 31 (0, 0))) b2 2 = some (int d.v) := by rw [rdc_sng]; rfl
  have cd3 : rdc (sng b2 (.cells #[int d.s, int d.d, int d.v, int d.r, int d.e] 31 (0, 0))) b2 3 = some (int d.r) := by rw [rdc_sng]; rfl
  have cd4 : rdc (sng b2 (.cells #[int d.s, int d.d, int d.v, int d.r, int d.e] 31 (0, 0))) b2 4 = some (int d.e) := by rw [rdc_sng]; rfl
  obtain ⟨bq, oq, rfl, gq⟩ := hT.rq.int hQ
  unfold roomT
  by_cases h1 : (nn : Int) = d.s
  · rw [if_pos (.inl h1)]
    refine zq_assign ?_
    refine jk_nil ?_
    refine jk_seq ?_
    refine jk_seq ?_
    refine jk_region ?_
    refine zq_move ?_
    refine zq_fld0 ?_
    refine zq_load ?_
    refine zq_eq ?_
    refine zq_move ?_
    refine jk_pass rfl rfl rfl ?_
    refine jk_pass rfl rfl rfl ?_
    refine jk_pass rfl rfl rfl ?_
    refine jk_pass rfl rfl rfl ?_
    refine zq_pick_t ?_
    refine jk_nil ?_
    refine jk_if_t rfl ?_
    refine jk_seq ?_
    refine jk_region ?_
    refine zq_assign ?_
    refine jk_nil ?_
    exact jk_ret_any (res1 rfl rfl) (by (repeat (first | exact rs_nil | (refine rs_cons ?_ ?_; (focus ((repeat (first | exact .here | apply Mem.there | apply Take.there)); first | done | fail))) | exact fun ρ hρ => hρ | (intro ρ hρ; repeat (first | exact hρ | refine List.mem_cons_of_mem _ ?_)))); first | done | fail) selZ ⟨rfl, rfl⟩
  by_cases h2 : (nn : Int) = d.d
  · rw [if_pos (.inr h2)]
    refine zq_assign ?_
    refine jk_nil ?_
    refine jk_seq ?_
    refine jk_seq ?_
    refine jk_region ?_
    refine zq_move ?_
    refine zq_fld0 ?_
    refine zq_load ?_
    refine zq_eqF ?_
    refine zq_move ?_
    refine zq_move ?_
    refine zq_fld0 ?_
    refine zq_load ?_
    refine zq_eq ?_
    refine zq_pick_f ?_
    refine jk_nil ?_
    refine jk_if_t rfl ?_
    refine jk_seq ?_
    refine jk_region ?_
    refine zq_assign ?_
    refine jk_nil ?_
    exact jk_ret_any (res1 rfl rfl) (by (repeat (first | exact rs_nil | (refine rs_cons ?_ ?_; (focus ((repeat (first | exact .here | apply Mem.there | apply Take.there)); first | done | fail))) | exact fun ρ hρ => hρ | (intro ρ hρ; repeat (first | exact hρ | refine List.mem_cons_of_mem _ ?_)))); first | done | fail) selZ ⟨rfl, rfl⟩
  rw [if_neg (by omega), Int.toNat_natCast, List.getD_eq_getElem?_getD, hQ, Option.getD_some]
  generalize Step.stored hs nn t = s at hst hb
  refine zq_assign ?_
  refine jk_nil ?_
  refine jk_seq ?_
  refine jk_seq ?_
  refine jk_region ?_
  refine zq_move ?_
  refine zq_fld0 ?_
  refine zq_load ?_
  refine zq_eqF ?_
  refine zq_move ?_
  refine zq_move ?_
  refine zq_fld0 ?_
  refine zq_load ?_
  refine zq_eqF ?_
  refine zq_pick_f ?_
  refine jk_nil ?_
  refine jk_if_f rfl ?_
  refine jk_skip ?_
  refine jk_seq ?_
  refine jk_draw (.q 0 (.q 1 (.q 2 (.q 3 (.q 4 (.q 5 (.q 6 (.q 7 (.q 8 (.q 9 (.l 10 .e (.q 11 (.q 12 .nil))))))))))))) [] rfl (by kernel_rfl) Sel.nil ?_
  refine zd_fld0 ?_
  refine zd_fld0 ?_
  refine zd_load ?_
  refine zd_move ?_
  refine zd_idx1 ?_
  refine zd_load ?_
  refine zd_fld0 ?_
  refine zd_load ?_
  refine zd_move ?_
  refine zd_move ?_
  refine dj_l (a_call rfl hst rfl rfl rdZ rfl rfl ?_)
  rintro _ rfl
  refine zd_sub ?_
  refine zd_assign ?_
  refine dj_end ?_
  skip
  exact jk_ret_any (res1 rfl rfl) (by (repeat (first | exact rs_nil | (refine rs_cons ?_ ?_; (focus ((repeat (first | exact .here | apply Mem.there | apply Take.there)); first | done | fail))) | exact fun ρ hρ => hρ | (intro ρ hρ; repeat (first | exact hρ | refine List.mem_cons_of_mem _ ?_)))); first | done | fail) selZ ⟨rfl, rfl⟩
theorem arrival_spec (c : Ct) (t : Int) (h1 : In64 (t + 1)) (h2 : In64 (t + 1 + c.g)) : Ans Tryz.prog (fv 23) [.agg #[int c.f, int c.t, int c.s, int c.e, int c.r, int c.g, int c.l], int t] [] (fun r => r = int (t + 1 + c.g)) := by
  refine spec_in (cap := []) Tryz.func23 rfl rfl Tryz.ntmps23 rfl (by (repeat (first | exact EnvA.nil EnvI.nil | apply EnvA.cons | apply EnvA.nil | exact EnvI.nil | apply EnvI.cons)); first | done | fail) (fun N β => ?_)
  unfold In64 at h1 h2
  refine jk_seq ?_
  refine jk_region ?_
  refine zl_boxS ?_; rintro _ _ ⟨b, rfl, rfl⟩
  refine zq_assign ?_
  refine jk_nil ?_
  refine jk_seq ?_
  refine jk_region ?_
  refine zq_move ?_
  refine zq_add ?_
  refine zq_fld0 ?_
  refine zq_load ?_
  refine zq_add ?_
  refine zq_assign ?_
  refine jk_nil ?_
  exact jk_ret_any (res1 rfl rfl) (by (repeat (first | exact rs_nil | (refine rs_cons ?_ ?_; (focus ((repeat (first | exact .here | apply Mem.there | apply Take.there)); first | done | fail))) | exact fun ρ hρ => hρ | (intro ρ hρ; repeat (first | exact hρ | refine List.mem_cons_of_mem _ ?_)))); first | done | fail) selZ ⟨rfl, rfl⟩
theorem arrives_spec {ρ τ σ υ : PH} {pq pc pb ph : Option Addr} {kq kc kb kh : Nat} {qs : List Int} {cs : List Ct} {bs : List Bk} {hs : List Hd} (hT : TbAt ρ τ σ υ pq pc pb ph kq kc kb kh qs cs bs hs) (nn : Nat) (c : Ct) (t : Int) (hx : cs[nn]? = some c) (h1 : In64 (t + 1)) (h2 : In64 (t + 1 + c.g)) : Ans Tryz.prog (fv 29) [.agg #[.slice pq qs.length kq, .slice pc cs.length kc, .slice pb bs.length kb, .slice ph hs.length kh], int nn, int t] [ρ, τ, σ, υ] (fun r => r = int (t + 1 + c.g)) := by
  have hlt := (List.getElem?_eq_some_iff.1 hx).1
  refine spec_in (cap := []) Tryz.func29 rfl rfl Tryz.ntmps29 rfl (by (repeat (first | exact EnvA.nil EnvI.nil | apply EnvA.cons | apply EnvA.nil | exact EnvI.nil | apply EnvI.cons)); first | done | fail) (fun N β => ?_)
  refine jk_seq ?_
  refine jk_region ?_
  refine jk_op (l_boxS rfl) rfl rfl rfl ?_
  rintro _ _ ⟨b1, rfl, rfl⟩
  refine jk_freeze (ρ := sng b1 _) takeZ ?_
  have ct : RdN (sng b1 (.cells #[.slice pq qs.length kq, .slice pc cs.length kc, .slice pb bs.length kb, .slice ph hs.length kh] 29 (0, 0))) b1 0 [.slice pq qs.length kq, .slice pc cs.length kc, .slice pb bs.length kb, .slice ph hs.length kh] := rdN_sng (vs := [.slice pq qs.length kq, .slice pc cs.length kc, .slice pb bs.length kb, .slice ph hs.length kh])
  have ct0 : rdc (sng b1 (.cells #[.slice pq qs.length kq, .slice pc cs.length kc, .slice pb bs.length kb, .slice ph hs.length kh] 29 (0, 0))) b1 0 = some (.slice pq qs.length kq) := by rw [rdc_sng]; rfl
  have ct1 : rdc (sng b1 (.cells #[.slice pq qs.length kq, .slice pc cs.length kc, .slice pb bs.length kb, .slice ph hs.length kh] 29 (0, 0))) b1 1 = some (.slice pc cs.length kc) := by rw [rdc_sng]; rfl
  have ct2 : rdc (sng b1 (.cells #[.slice pq qs.length kq, .slice pc cs.length kc, .slice pb bs.length kb, .slice ph hs.length kh] 29 (0, 0))) b1 2 = some (.slice pb bs.length kb) := by rw [rdc_sng]; rfl
  have ct3 : rdc (sng b1 (.cells #[.slice pq qs.length kq, .slice pc cs.length kc, .slice pb bs.length kb, .slice ph hs.length kh] 29 (0, 0))) b1 3 = some (.slice ph hs.length kh) := by rw [rdc_sng]; rfl
  have ctp : RdP (sng b1 (.cells #[.slice pq qs.length kq, .slice pc cs.length kc, .slice pb bs.length kb, .slice ph hs.length kh] 29 (0, 0))) b1 0 [.slice pq qs.length kq, .slice pc cs.length kc] := rdP_sng (xs := [.slice pq qs.length kq, .slice pc cs.length kc, .slice pb bs.length kb, .slice ph hs.length kh]) rfl
  obtain ⟨b3, o3, rfl, hrd⟩ := ctRow hT.rc hx
  have g5 := hrd.get (j := 5) rfl
  unfold In64 at h1 h2
  refine zq_assign ?_
  refine jk_nil ?_
  refine jk_seq ?_
  refine jk_region ?_
  refine zq_move ?_
  refine zq_add ?_
  refine zq_fld0 ?_
  refine zq_fld0 ?_
  refine zq_load ?_
  refine zq_move ?_
  refine zq_idxN ?_
  refine zq_fld ?_
  refine zq_load ?_
  refine zq_add ?_
  refine zq_assign ?_
  refine jk_nil ?_
  exact jk_ret_any (res1 rfl rfl) (by (repeat (first | exact rs_nil | (refine rs_cons ?_ ?_; (focus ((repeat (first | exact .here | apply Mem.there | apply Take.there)); first | done | fail))) | exact fun ρ hρ => hρ | (intro ρ hρ; repeat (first | exact hρ | refine List.mem_cons_of_mem _ ?_)))); first | done | fail) selZ ⟨rfl, rfl⟩
def encX (x : Sh) : List Value := [int x.c, int x.t, int x.n]
theorem encX_len (x : Sh) : (encX x).length = 3 := rfl
abbrev ShAt (ρ : PH) (v : Value) (l : List Sh) : Prop := SlE encX 3 ρ v l
theorem shRow {ρ : PH} {p : Option Addr} {l : List Sh} (h : RowsE encX 3 ρ p l) {i : Nat} {x : Sh} (hx : l[i]? = some x) :
    ∃ b o, p = some ⟨b, o, none⟩ ∧ RdN ρ b (o + i * 3) [int x.c, int x.t, int x.n] ∧ rdc ρ b (o + i * 3) = some (int x.c) ∧ rdc ρ b (o + i * 3 + 1) = some (int x.t) ∧ rdc ρ b (o + i * 3 + 2) = some (int x.n) := by
  obtain ⟨b, o, e, hr⟩ := h i x hx
  exact ⟨b, o, e, hr, hr.get0, hr.get (j := 1) rfl, hr.get (j := 2) rfl⟩
set_option maxHeartbeats 32000000 in
theorem checkShip_spec {ρ τ σ υ : PH} {pq pc pb ph : Option Addr} {kq kc kb kh : Nat} {qs : List Int} {cs : List Ct} {bs : List Bk} {hs : List Hd} (hT : TbAt ρ τ σ υ pq pc pb ph kq kc kb kh qs cs bs hs) (d : Dm) (x : Sh) (hcs : ∀ c ∈ cs, chkCt c = 0) (hbl : bs.length ≤ 1000) (hd : 0 ≤ d.r) :
    Ans Tryz.prog (fv 39) [.agg #[.slice pq qs.length kq, .slice pc cs.length kc, .slice pb bs.length kb, .slice ph hs.length kh], .agg #[int d.s, int d.d, int d.v, int d.r, int d.e], .agg #[int x.c, int x.t, int x.n]] [ρ, τ, σ, υ] (fun r => r = int (ship1 cs bs d x)) := by
  refine spec_in (cap := []) Tryz.func39 rfl rfl Tryz.ntmps39 rfl (by (repeat (first | exact EnvA.nil EnvI.nil | apply EnvA.cons | apply EnvA.nil | exact EnvI.nil | apply EnvI.cons)); first | done | fail) (fun N β => ?_)
  refine jk_seq ?_
  refine jk_region ?_
  refine jk_op (l_boxS rfl) rfl rfl rfl ?_
  rintro _ _ ⟨b1, rfl, rfl⟩
  refine jk_freeze (ρ := sng b1 _) takeZ ?_
  have ct : RdN (sng b1 (.cells #[.slice pq qs.length kq, .slice pc cs.length kc, .slice pb bs.length kb, .slice ph hs.length kh] 29 (0, 0))) b1 0 [.slice pq qs.length kq, .slice pc cs.length kc, .slice pb bs.length kb, .slice ph hs.length kh] := rdN_sng (vs := [.slice pq qs.length kq, .slice pc cs.length kc, .slice pb bs.length kb, .slice ph hs.length kh])
  have ct0 : rdc (sng b1 (.cells #[.slice pq qs.length kq, .slice pc cs.length kc, .slice pb bs.length kb, .slice ph hs.length kh] 29 (0, 0))) b1 0 = some (.slice pq qs.length kq) := by rw [rdc_sng]; rfl
  have ct1 : rdc (sng b1 (.cells #[.slice pq qs.length kq, .slice pc cs.length kc, .slice pb bs.length kb, .slice ph hs.length kh] 29 (0, 0))) b1 1 = some (.slice pc cs.length kc) := by rw [rdc_sng]; rfl
  have ct2 : rdc (sng b1 (.cells #[.slice pq qs.length kq, .slice pc cs.length kc, .slice pb bs.length kb, .slice ph hs.length kh] 29 (0, 0))) b1 2 = some (.slice pb bs.length kb) := by rw [rdc_sng]; rfl
  have ct3 : rdc (sng b1 (.cells #[.slice pq qs.length kq, .slice pc cs.length kc, .slice pb bs.length kb, .slice ph hs.length kh] 29 (0, 0))) b1 3 = some (.slice ph hs.length kh) := by rw [rdc_sng]; rfl
  have ctp : RdP (sng b1 (.cells #[.slice pq qs.length kq, .slice pc cs.length kc, .slice pb bs.length kb, .slice ph hs.length kh] 29 (0, 0))) b1 0 [.slice pq qs.length kq, .slice pc cs.length kc] := rdP_sng (xs := [.slice pq qs.length kq, .slice pc cs.length kc, .slice pb bs.length kb, .slice ph hs.length kh]) rfl
  refine jk_op (l_boxS rfl) rfl rfl rfl ?_
  rintro _ _ ⟨b2, rfl, rfl⟩
  refine jk_freeze (ρ := sng b2 _) takeZ ?_
  have cd : RdN (sng b2 (.cells #[int d.s, int d.d, int d.v, int d.r, int d.e] 31 (0, 0))) b2 0 [int d.s, int d.d, int d.v, int d.r, int d.e] := rdN_sng (vs := [int d.s, int d.d, int d.v, int d.r, int d.e])
  have cd0 : rdc (sng b2 (.cells #[int d.s, int d.d, int d.v, int d.r, int d.e] 31 (0, 0))) b2 0 = some (int d.s) := by rw [rdc_sng]; rfl
  have cd1 : rdc (sng b2 (.cells #[int d.s, int d.d, int d.v, int d.r, int d.e] 31 (0, 0))) b2 1 = some (int d.d) := by rw [rdc_sng]; rfl
  have cd2 : rdc (sng b2 (.cells #[int d.s, int d.d, int d.v, int d.r, int d.e] 31 (0, 0))) b2 2 = some (int d.v) := by rw [rdc_sng]; rfl
  have cd3 : rdc (sng b2 (.cells #[int d.s, int d.d, int d.v, int d.r, int d.e] 31 (0, 0))) b2 3 = some (int d.r) := by rw [rdc_sng]; rfl
  have cd4 : rdc (sng b2 (.cells #[int d.s, int d.d, int d.v, int d.r, int d.e] 31 (0, 0))) b2 4 = some (int d.e) := by rw [rdc_sng]; rfl
  refine jk_op (l_boxS rfl) rfl rfl rfl ?_
  rintro _ _ ⟨b3, rfl, rfl⟩
  refine jk_freeze (ρ := sng b3 _) takeZ ?_
  have cx : RdN (sng b3 (.cells #[int x.c, int x.t, int x.n] 51 (0, 0))) b3 0 [int x.c, int x.t, int x.n] := rdN_sng (vs := [int x.c, int x.t, int x.n])
  have cx0 : rdc (sng b3 (.cells #[int x.c, int x.t, int x.n] 51 (0, 0))) b3 0 = some (int x.c) := by rw [rdc_sng]; rfl
  have cx1 : rdc (sng b3 (.cells #[int x.c, int x.t, int x.n] 51 (0, 0))) b3 1 = some (int x.t) := by rw [rdc_sng]; rfl
  have cx2 : rdc (sng b3 (.cells #[int x.c, int x.t, int x.n] 51 (0, 0))) b3 2 = some (int x.n) := by rw [rdc_sng]; rfl
  unfold ship1
  by_cases h1 : x.c < 0
  · rw [if_pos (.inl h1)]
    refine zq_assign ?_
    refine jk_nil ?_
    refine jk_seq ?_
    refine jk_seq ?_
    refine jk_region ?_
    refine zq_fld0 ?_
    refine zq_load ?_
    refine zq_lt ?_
    refine zq_move ?_
    refine jk_pass rfl rfl rfl ?_
    refine jk_pass rfl rfl rfl ?_
    refine jk_pass rfl rfl rfl ?_
    refine jk_pass rfl rfl rfl ?_
    refine jk_pass rfl rfl rfl ?_
    refine jk_pass rfl rfl rfl ?_
    refine jk_pass rfl rfl rfl ?_
    refine zq_pick_t ?_
    refine jk_nil ?_
    refine jk_if_t rfl ?_
    refine jk_seq ?_
    refine jk_region ?_
    refine zq_assign ?_
    refine jk_nil ?_
    exact jk_ret_any (res1 rfl rfl) (by (repeat (first | exact rs_nil | (refine rs_cons ?_ ?_; (focus ((repeat (first | exact .here | apply Mem.there | apply Take.there)); first | done | fail))) | exact fun ρ hρ => hρ | (intro ρ hρ; repeat (first | exact hρ | refine List.mem_cons_of_mem _ ?_)))); first | done | fail) selZ ⟨rfl, rfl⟩
  by_cases h2 : (cs.length : Int) ≤ x.c
  · rw [if_pos (.inr h2)]
    refine zq_assign ?_
    refine jk_nil ?_
    refine jk_seq ?_
    refine jk_seq ?_
    refine jk_region ?_
    refine zq_fld0 ?_
    refine zq_load ?_
    refine zq_ltF ?_
    refine zq_move ?_
    refine zq_fld0 ?_
    refine zq_load ?_
    refine zq_fld0 ?_
    refine zq_fld0 ?_
    refine zq_load ?_
    refine zq_len ?_
    refine zq_ge ?_
    refine zq_pick_f ?_
    refine jk_nil ?_
    refine jk_if_t rfl ?_
    refine jk_seq ?_
    refine jk_region ?_
    refine zq_assign ?_
    refine jk_nil ?_
    exact jk_ret_any (res1 rfl rfl) (by (repeat (first | exact rs_nil | (refine rs_cons ?_ ?_; (focus ((repeat (first | exact .here | apply Mem.there | apply Take.there)); first | done | fail))) | exact fun ρ hρ => hρ | (intro ρ hρ; repeat (first | exact hρ | refine List.mem_cons_of_mem _ ?_)))); first | done | fail) selZ ⟨rfl, rfl⟩
  rw [if_neg (by omega)]
  obtain ⟨nn, hnn⟩ : ∃ nn : Nat, x.c = nn := ⟨x.c.toNat, by omega⟩
  have hlt : nn < cs.length := by omega
  have hx := List.getElem?_eq_getElem hlt
  have hck := chkCt_all (hcs _ (List.getElem_mem hlt))
  obtain ⟨b4, o4, rfl, hrd⟩ := ctRow hT.rc hx
  have hbk := booked_spec hT x.c x.t hbl
  rw [hnn] at hbk
  have e1 : cs[x.c.toNat]? = some cs[nn] := by rw [hnn, Int.toNat_natCast]; exact hx
  have e2 : bookedB bs x.c x.t = bookedB bs nn x.t := by rw [hnn]
  rw [e1, e2]
  have cn : rdc (sng b3 (.cells #[int x.c, int x.t, int x.n] 51 (0, 0))) b3 0 = some (int nn) := by rw [rdc_sng, ← hnn]; rfl
  clear cx0
  generalize cs[nn] = c at hrd hck
  dsimp only
  by_cases h3 : x.t < d.r
  · rw [if_pos (.inl h3)]
    refine zq_assign ?_
    refine jk_nil ?_
    refine jk_seq ?_
    refine jk_seq ?_
    refine jk_region ?_
    refine zq_fld0 ?_
    refine zq_load ?_
    refine zq_ltF ?_
    refine zq_move ?_
    refine zq_fld0 ?_
    refine zq_load ?_
    refine zq_fld0 ?_
    refine zq_fld0 ?_
    refine zq_load ?_
    refine zq_len ?_
    refine zq_geF ?_
    refine zq_pick_f ?_
    refine jk_nil ?_
    refine jk_if_f rfl ?_
    refine jk_skip ?_
    refine jk_seq ?_
    refine jk_region ?_
    refine zq_fld0 ?_
    refine zq_fld0 ?_
    refine zq_load ?_
    refine zq_fld0 ?_
    refine zq_load ?_
    refine zq_idxN ?_
    refine zq_loadS ?_
    refine zl_allocS ?_; rintro _ _ ⟨b, rfl, rfl⟩
    refine zs_storeS ?_; rintro _ _ ⟨rfl, rfl⟩
    refine jk_nil ?_
    refine jk_seq ?_
    refine jk_seq ?_
    refine jk_region ?_
    refine zq_fld0 ?_
    refine zq_load ?_
    refine zq_fld0 ?_
    refine zq_load ?_
    refine zq_fld0 ?_
    refine zq_load ?_
    refine zq_max ?_
    refine zq_lt ?_
    refine zq_move ?_
    refine jk_pass rfl rfl rfl ?_
    refine jk_pass rfl rfl rfl ?_
    refine jk_pass rfl rfl rfl ?_
    refine jk_pass rfl rfl rfl ?_
    refine jk_pass rfl rfl rfl ?_
    refine zq_pick_t ?_
    refine zq_move ?_
    refine jk_pass rfl rfl rfl ?_
    refine jk_pass rfl rfl rfl ?_
    refine jk_pass rfl rfl rfl ?_
    refine zq_pick_t ?_
    refine zq_move ?_
    refine jk_pass rfl rfl rfl ?_
    refine jk_pass rfl rfl rfl ?_
    refine jk_pass rfl rfl rfl ?_
    refine jk_pass rfl rfl rfl ?_
    refine jk_pass rfl rfl rfl ?_
    refine zq_pick_t ?_
    refine jk_nil ?_
    refine jk_if_t rfl ?_
    refine jk_seq ?_
    refine jk_region ?_
    refine zq_assign ?_
    refine jk_nil ?_
    exact jk_ret_any (res1 rfl rfl) (by (repeat (first | exact rs_nil | (refine rs_cons ?_ ?_; (focus ((repeat (first | exact .here | apply Mem.there | apply Take.there)); first | done | fail))) | exact fun ρ hρ => hρ | (intro ρ hρ; repeat (first | exact hρ | refine List.mem_cons_of_mem _ ?_)))); first | done | fail) selZ ⟨rfl, rfl⟩
  by_cases h4 : x.t < c.s
  · rw [if_pos (.inr (.inl h4))]
    refine zq_assign ?_
    refine jk_nil ?_
    refine jk_seq ?_
    refine jk_seq ?_
    refine jk_region ?_
    refine zq_fld0 ?_
    refine zq_load ?_
    refine zq_ltF ?_
    refine zq_move ?_
    refine zq_fld0 ?_
    refine zq_load ?_
    refine zq_fld0 ?_
    refine zq_fld0 ?_
    refine zq_load ?_
    refine zq_len ?_
    refine zq_geF ?_
    refine zq_pick_f ?_
    refine jk_nil ?_
    refine jk_if_f rfl ?_
    refine jk_skip ?_
    refine jk_seq ?_
    refine jk_region ?_
    refine zq_fld0 ?_
    refine zq_fld0 ?_
    refine zq_load ?_
    refine zq_fld0 ?_
    refine zq_load ?_
    refine zq_idxN ?_
    refine zq_loadS ?_
    refine zl_allocS ?_; rintro _ _ ⟨b, rfl, rfl⟩
    refine zs_storeS ?_; rintro _ _ ⟨rfl, rfl⟩
    refine jk_nil ?_
    refine jk_seq ?_
    refine jk_seq ?_
    refine jk_region ?_
    refine zq_fld0 ?_
    refine zq_load ?_
    refine zq_fld0 ?_
    refine zq_load ?_
    refine zq_fld0 ?_
    refine zq_load ?_
    refine zq_max ?_
    refine zq_lt ?_
    refine zq_move ?_
    refine jk_pass rfl rfl rfl ?_
    refine jk_pass rfl rfl rfl ?_
    refine jk_pass rfl rfl rfl ?_
    refine jk_pass rfl rfl rfl ?_
    refine jk_pass rfl rfl rfl ?_
    refine zq_pick_t ?_
    refine zq_move ?_
    refine jk_pass rfl rfl rfl ?_
    refine jk_pass rfl rfl rfl ?_
    refine jk_pass rfl rfl rfl ?_
    refine zq_pick_t ?_
    refine zq_move ?_
    refine jk_pass rfl rfl rfl ?_
    refine jk_pass rfl rfl rfl ?_
    refine jk_pass rfl rfl rfl ?_
    refine jk_pass rfl rfl rfl ?_
    refine jk_pass rfl rfl rfl ?_
    refine zq_pick_t ?_
    refine jk_nil ?_
    refine jk_if_t rfl ?_
    refine jk_seq ?_
    refine jk_region ?_
    refine zq_assign ?_
    refine jk_nil ?_
    exact jk_ret_any (res1 rfl rfl) (by (repeat (first | exact rs_nil | (refine rs_cons ?_ ?_; (focus ((repeat (first | exact .here | apply Mem.there | apply Take.there)); first | done | fail))) | exact fun ρ hρ => hρ | (intro ρ hρ; repeat (first | exact hρ | refine List.mem_cons_of_mem _ ?_)))); first | done | fail) selZ ⟨rfl, rfl⟩
  by_cases h5 : c.e ≤ x.t
  · rw [if_pos (.inr (.inr (.inl h5)))]
    refine zq_assign ?_
    refine jk_nil ?_
    refine jk_seq ?_
    refine jk_seq ?_
    refine jk_region ?_
    refine zq_fld0 ?_
    refine zq_load ?_
    refine zq_ltF ?_
    refine zq_move ?_
    refine zq_fld0 ?_
    refine zq_load ?_
    refine zq_fld0 ?_
    refine zq_fld0 ?_
    refine zq_load ?_
    refine zq_len ?_
    refine zq_geF ?_
    refine zq_pick_f ?_
    refine jk_nil ?_
    refine jk_if_f rfl ?_
    refine jk_skip ?_
    refine jk_seq ?_
    refine jk_region ?_
    refine zq_fld0 ?_
    refine zq_fld0 ?_
    refine zq_load ?_
    refine zq_fld0 ?_
    refine zq_load ?_
    refine zq_idxN ?_
    refine zq_loadS ?_
    refine zl_allocS ?_; rintro _ _ ⟨b, rfl, rfl⟩
    refine zs_storeS ?_; rintro _ _ ⟨rfl, rfl⟩
    refine jk_nil ?_
    refine jk_seq ?_
    refine jk_seq ?_
    refine jk_region ?_
    refine zq_fld0 ?_
    refine zq_load ?_
    refine zq_fld0 ?_
    refine zq_load ?_
    refine zq_fld0 ?_
    refine zq_load ?_
    refine zq_max ?_
    refine zq_ltF ?_
    refine zq_move ?_
    refine zq_fld0 ?_
    refine zq_load ?_
    refine zq_fld0 ?_
    refine zq_load ?_
    refine zq_ge ?_
    refine zq_pick_f ?_
    refine zq_move ?_
    refine jk_pass rfl rfl rfl ?_
    refine jk_pass rfl rfl rfl ?_
    refine jk_pass rfl rfl rfl ?_
    refine zq_pick_t ?_
    refine zq_move ?_
    refine jk_pass rfl rfl rfl ?_
    refine jk_pass rfl rfl rfl ?_
    refine jk_pass rfl rfl rfl ?_
    refine jk_pass rfl rfl rfl ?_
    refine jk_pass rfl rfl rfl ?_
    refine zq_pick_t ?_
    refine jk_nil ?_
    refine jk_if_t rfl ?_
    refine jk_seq ?_
    refine jk_region ?_
    refine zq_assign ?_
    refine jk_nil ?_
    exact jk_ret_any (res1 rfl rfl) (by (repeat (first | exact rs_nil | (refine rs_cons ?_ ?_; (focus ((repeat (first | exact .here | apply Mem.there | apply Take.there)); first | done | fail))) | exact fun ρ hρ => hρ | (intro ρ hρ; repeat (first | exact hρ | refine List.mem_cons_of_mem _ ?_)))); first | done | fail) selZ ⟨rfl, rfl⟩
  by_cases h6 : x.n < 1
  · rw [if_pos (.inr (.inr (.inr (.inl h6))))]
    refine zq_assign ?_
    refine jk_nil ?_
    refine jk_seq ?_
    refine jk_seq ?_
    refine jk_region ?_
    refine zq_fld0 ?_
    refine zq_load ?_
    refine zq_ltF ?_
    refine zq_move ?_
    refine zq_fld0 ?_
    refine zq_load ?_
    refine zq_fld0 ?_
    refine zq_fld0 ?_
    refine zq_load ?_
    refine zq_len ?_
    refine zq_geF ?_
    refine zq_pick_f ?_
    refine jk_nil ?_
    refine jk_if_f rfl ?_
    refine jk_skip ?_
    refine jk_seq ?_
    refine jk_region ?_
    refine zq_fld0 ?_
    refine zq_fld0 ?_
    refine zq_load ?_
    refine zq_fld0 ?_
    refine zq_load ?_
    refine zq_idxN ?_
    refine zq_loadS ?_
    refine zl_allocS ?_; rintro _ _ ⟨b, rfl, rfl⟩
    refine zs_storeS ?_; rintro _ _ ⟨rfl, rfl⟩
    refine jk_nil ?_
    refine jk_seq ?_
    refine jk_seq ?_
    refine jk_region ?_
    refine zq_fld0 ?_
    refine zq_load ?_
    refine zq_fld0 ?_
    refine zq_load ?_
    refine zq_fld0 ?_
    refine zq_load ?_
    refine zq_max ?_
    refine zq_ltF ?_
    refine zq_move ?_
    refine zq_fld0 ?_
    refine zq_load ?_
    refine zq_fld0 ?_
    refine zq_load ?_
    refine zq_geF ?_
    refine zq_pick_f ?_
    refine zq_move ?_
    refine zq_fld0 ?_
    refine zq_load ?_
    refine zq_lt ?_
    refine zq_pick_f ?_
    refine zq_move ?_
    refine jk_pass rfl rfl rfl ?_
    refine jk_pass rfl rfl rfl ?_
    refine jk_pass rfl rfl rfl ?_
    refine jk_pass rfl rfl rfl ?_
    refine jk_pass rfl rfl rfl ?_
    refine zq_pick_t ?_
    refine jk_nil ?_
    refine jk_if_t rfl ?_
    refine jk_seq ?_
    refine jk_region ?_
    refine zq_assign ?_
    refine jk_nil ?_
    exact jk_ret_any (res1 rfl rfl) (by (repeat (first | exact rs_nil | (refine rs_cons ?_ ?_; (focus ((repeat (first | exact .here | apply Mem.there | apply Take.there)); first | done | fail))) | exact fun ρ hρ => hρ | (intro ρ hρ; repeat (first | exact hρ | refine List.mem_cons_of_mem _ ?_)))); first | done | fail) selZ ⟨rfl, rfl⟩
  by_cases h7 : c.r < x.n
  · rw [if_pos (.inr (.inr (.inr (.inr h7))))]
    refine zq_assign ?_
    refine jk_nil ?_
    refine jk_seq ?_
    refine jk_seq ?_
    refine jk_region ?_
    refine zq_fld0 ?_
    refine zq_load ?_
    refine zq_ltF ?_
    refine zq_move ?_
    refine zq_fld0 ?_
    refine zq_load ?_
    refine zq_fld0 ?_
    refine zq_fld0 ?_
    refine zq_load ?_
    refine zq_len ?_
    refine zq_geF ?_
    refine zq_pick_f ?_
    refine jk_nil ?_
    refine jk_if_f rfl ?_
    refine jk_skip ?_
    refine jk_seq ?_
    refine jk_region ?_
    refine zq_fld0 ?_
    refine zq_fld0 ?_
    refine zq_load ?_
    refine zq_fld0 ?_
    refine zq_load ?_
    refine zq_idxN ?_
    refine zq_loadS ?_
    refine zl_allocS ?_; rintro _ _ ⟨b, rfl, rfl⟩
    refine zs_storeS ?_; rintro _ _ ⟨rfl, rfl⟩
    refine jk_nil ?_
    refine jk_seq ?_
    refine jk_seq ?_
    refine jk_region ?_
    refine zq_fld0 ?_
    refine zq_load ?_
    refine zq_fld0 ?_
    refine zq_load ?_
    refine zq_fld0 ?_
    refine zq_load ?_
    refine zq_max ?_
    refine zq_ltF ?_
    refine zq_move ?_
    refine zq_fld0 ?_
    refine zq_load ?_
    refine zq_fld0 ?_
    refine zq_load ?_
    refine zq_geF ?_
    refine zq_pick_f ?_
    refine zq_move ?_
    refine zq_fld0 ?_
    refine zq_load ?_
    refine zq_ltF ?_
    refine zq_pick_f ?_
    refine zq_move ?_
    refine zq_fld0 ?_
    refine zq_load ?_
    refine zq_fld0 ?_
    refine zq_load ?_
    refine zq_gt ?_
    refine zq_pick_f ?_
    refine jk_nil ?_
    refine jk_if_t rfl ?_
    refine jk_seq ?_
    refine jk_region ?_
    refine zq_assign ?_
    refine jk_nil ?_
    exact jk_ret_any (res1 rfl rfl) (by (repeat (first | exact rs_nil | (refine rs_cons ?_ ?_; (focus ((repeat (first | exact .here | apply Mem.there | apply Take.there)); first | done | fail))) | exact fun ρ hρ => hρ | (intro ρ hρ; repeat (first | exact hρ | refine List.mem_cons_of_mem _ ?_)))); first | done | fail) selZ ⟨rfl, rfl⟩
  rw [if_neg (by omega)]
  have harr := arrival_spec c x.t ⟨by omega, by omega⟩ ⟨by omega, by omega⟩
  refine zq_assign ?_
  refine jk_nil ?_
  refine jk_seq ?_
  refine jk_seq ?_
  refine jk_region ?_
  refine zq_fld0 ?_
  refine zq_load ?_
  refine zq_ltF ?_
  refine zq_move ?_
  refine zq_fld0 ?_
  refine zq_load ?_
  refine zq_fld0 ?_
  refine zq_fld0 ?_
  refine zq_load ?_
  refine zq_len ?_
  refine zq_geF ?_
  refine zq_pick_f ?_
  refine jk_nil ?_
  refine jk_if_f rfl ?_
  refine jk_skip ?_
  refine jk_seq ?_
  refine jk_region ?_
  refine zq_fld0 ?_
  refine zq_fld0 ?_
  refine zq_load ?_
  refine zq_fld0 ?_
  refine zq_load ?_
  refine zq_idxN ?_
  refine zq_loadS ?_
  refine zl_allocS ?_; rintro _ _ ⟨b, rfl, rfl⟩
  refine zs_storeS ?_; rintro _ _ ⟨rfl, rfl⟩
  refine jk_nil ?_
  refine jk_seq ?_
  refine jk_seq ?_
  refine jk_region ?_
  refine zq_fld0 ?_
  refine zq_load ?_
  refine zq_fld0 ?_
  refine zq_load ?_
  refine zq_fld0 ?_
  refine zq_load ?_
  refine zq_max ?_
  refine zq_ltF ?_
  refine zq_move ?_
  refine zq_fld0 ?_
  refine zq_load ?_
  refine zq_fld0 ?_
  refine zq_load ?_
  refine zq_geF ?_
  refine zq_pick_f ?_
  refine zq_move ?_
  refine zq_fld0 ?_
  refine zq_load ?_
  refine zq_ltF ?_
  refine zq_pick_f ?_
  refine zq_move ?_
  refine zq_fld0 ?_
  refine zq_load ?_
  refine zq_fld0 ?_
  refine zq_load ?_
  refine zq_gtF ?_
  refine zq_pick_f ?_
  refine jk_nil ?_
  refine jk_if_f rfl ?_
  refine jk_skip ?_
  refine jk_seq ?_
  refine jk_seq ?_
  revert b; intro b7
  refine jk_draw (.q 0 (.q 1 (.q 2 (.q 4 (.q 5 (.l 3 .e (.q 6 .nil))))))) [sng b7 _] rfl (by kernel_rfl) selZ ?_
  refine zd_loadS ?_
  refine zd_fld0 ?_
  refine zd_load ?_
  refine zd_fld0 ?_
  refine zd_load ?_
  refine dj_l (a_call rfl harr rfl rfl rdZ rfl rfl ?_)
  rintro _ rfl
  by_cases h8 : d.e < x.t + 1 + c.g
  · rw [if_pos h8]
    refine zd_gt ?_
    refine dj_end ?_
    refine jk_if_t rfl ?_
    refine jk_seq ?_
    refine jk_region ?_
    refine zq_assign ?_
    refine jk_nil ?_
    exact jk_ret_any (res1 rfl rfl) (by (repeat (first | exact rs_nil | (refine rs_cons ?_ ?_; (focus ((repeat (first | exact .here | apply Mem.there | apply Take.there)); first | done | fail))) | exact fun ρ hρ => hρ | (intro ρ hρ; repeat (first | exact hρ | refine List.mem_cons_of_mem _ ?_)))); first | done | fail) selZ ⟨rfl, rfl⟩
  rw [if_neg h8]
  refine zd_gtF ?_
  refine dj_end ?_
  refine jk_if_f rfl ?_
  refine jk_skip ?_
  refine jk_seq ?_
  refine jk_seq ?_
  refine jk_region ?_
  refine zq_loadS ?_
  refine zq_fld0 ?_
  refine zq_load ?_
  refine zq_fld0 ?_
  refine zq_load ?_
  refine jk_call hbk rfl rfl rdZ rfl rfl ?_
  rintro _ rfl
  cases bookedB bs nn x.t with
  | true =>
    refine jk_nil ?_
    refine jk_if_t rfl ?_
    refine jk_seq ?_
    refine jk_region ?_
    refine zq_assign ?_
    refine jk_nil ?_
    exact jk_ret_any (res1 rfl rfl) (by (repeat (first | exact rs_nil | (refine rs_cons ?_ ?_; (focus ((repeat (first | exact .here | apply Mem.there | apply Take.there)); first | done | fail))) | exact fun ρ hρ => hρ | (intro ρ hρ; repeat (first | exact hρ | refine List.mem_cons_of_mem _ ?_)))); first | done | fail) selZ ⟨rfl, rfl⟩
  | false =>
    refine jk_nil ?_
    refine jk_if_f rfl ?_
    refine jk_skip ?_
    refine jk_seq ?_
    refine jk_region ?_
    refine zq_assign ?_
    refine jk_nil ?_
    exact jk_ret_any (res1 rfl rfl) (by (repeat (first | exact rs_nil | (refine rs_cons ?_ ?_; (focus ((repeat (first | exact .here | apply Mem.there | apply Take.there)); first | done | fail))) | exact fun ρ hρ => hρ | (intro ρ hρ; repeat (first | exact hρ | refine List.mem_cons_of_mem _ ?_)))); first | done | fail) selZ ⟨rfl, rfl⟩
end Go.Proofs.YtjbebmealbnmgaaGreat
/- Cuts and their capacities. No program in sight. No conditions. -/
namespace Go.Step
abbrev Cu := List (List (Int × Int))
def cuAt (c : Cu) (n : Int) : List (Int × Int) := c.getD n.toNat []
/-- does a cut's edge cross: from there at a time, to there at a time? -/
def crossB (c : Cu) (f a t u : Int) : Bool := hasI (cuAt c f) a && !hasI (cuAt c t) u
def sumT (f : Int → Int) (a : Int) : Nat → Int
  | 0 => 0
  | m + 1 => sumT f a m + f (a + m)
theorem sumT_bd {f : Int → Int} {B : Int} (h : ∀ t, -B ≤ f t ∧ f t ≤ B) (a : Int) : ∀ m : Nat, -(B * m) ≤ sumT f a m ∧ sumT f a m ≤ B * m
  | 0 => by simp [sumT]
  | m + 1 => by
    have ih := sumT_bd h a m
    have := h (a + m)
    have e : B * ((m + 1 : Nat) : Int) = B * (m : Int) + B := by rw [Int.natCast_succ, Int.mul_add, Int.mul_one]
    show -(B * ((m + 1 : Nat) : Int)) ≤ sumT f a m + f (a + m) ∧ sumT f a m + f (a + m) ≤ B * ((m + 1 : Nat) : Int)
    rw [e]
    omega
theorem sumT_ext {f : Int → Int} {a : Int} {m : Nat} : ∀ {k : Nat}, (∀ j : Nat, m ≤ j → j < m + k → f (a + j) = 0) → sumT f a (m + k) = sumT f a m
  | 0, _ => rfl
  | k + 1, h => by
    have h1 := sumT_ext (k := k) (fun j h1 h2 => h j h1 (by omega))
    have h2 := h (m + k) (by omega) (by omega)
    show sumT f a (m + k) + f (a + ((m + k : Nat) : Int)) = sumT f a m
    rw [h1, h2, Int.add_zero]
theorem sumT_succ0 (f : Int → Int) (n : Nat) : sumT f 0 (n + 1) = sumT f 0 n + f n := by
  show sumT f 0 n + f (0 + n) = _
  rw [Int.zero_add]
/-- the sum over the times from a to before t -/
def sumU (f : Int → Int) (a t : Int) : Int := sumT f a (t - a).toNat
theorem sumU_self (f : Int → Int) (a : Int) : sumU f a a = 0 := by unfold sumU; rw [Int.sub_self]; rfl
theorem sumU_succ {f : Int → Int} {a t : Int} (h : a ≤ t) : sumU f a (t + 1) = sumU f a t + f t := by
  unfold sumU
  rw [show (t + 1 - a).toNat = (t - a).toNat + 1 by omega]
  show sumT f a (t - a).toNat + f (a + (t - a).toNat) = _
  rw [show a + ((t - a).toNat : Int) = t by omega]
theorem sumU_bd {f : Int → Int} {B a t : Int} (hB : 0 ≤ B) (h : ∀ t, -B ≤ f t ∧ f t ≤ B) (h1 : t - a ≤ 100) : -(B * 100) ≤ sumU f a t ∧ sumU f a t ≤ B * 100 := by
  have := sumT_bd h a (t - a).toNat
  have h2 : B * ((t - a).toNat : Int) ≤ B * 100 := Int.mul_le_mul_of_nonneg_left (by omega) hB
  unfold sumU
  omega
theorem sumU_ext {f : Int → Int} {a t u : Int} (h : a ≤ t) (h2 : t ≤ u) (hz : ∀ v, t ≤ v → v < u → f v = 0) : sumU f a u = sumU f a t := by
  unfold sumU
  rw [show (u - a).toNat = (t - a).toNat + (u - t).toNat by omega]
  exact sumT_ext (fun j h1 h2 => hz _ (by omega) (by omega))
/-- bytes that wait at a node over a tick, across the cut -/
def waitC (qs : List Int) (hs : List Hd) (d : Dm) (c : Cu) (n t : Int) : Int := if crossB c n t n (t + 1) then roomT qs hs d n t else 0
/-- bytes over a contact in a tick, across the cut -/
def conC (cs : List Ct) (bs : List Bk) (d : Dm) (c : Cu) (i t : Int) : Int :=
  match cs[i.toNat]? with
  | none => 0
  | some x => if x.s ≤ t ∧ t < x.e ∧ t + 1 + x.g ≤ d.e ∧ bookedB bs i t = false ∧ crossB c x.f t x.t (t + 1 + x.g) = true then x.r else 0
theorem waitC_bd {qs : List Int} {hs : List Hd} {nq : Nat} (hq : ∀ (j : Nat) (q : Int), qs[j]? = some q → 0 ≤ q ∧ q ≤ 1073741824) (hok : ∀ h ∈ hs, okHd nq h) (hl : hs.length ≤ 512) (d : Dm) (c : Cu) (n t : Int) : -1099511627776 ≤ waitC qs hs d c n t ∧ waitC qs hs d c n t ≤ 1099511627776 := by
  have h1 := stored_bd (n := n) (t := t) hok
  have h2 : 0 ≤ qs.getD n.toNat 0 ∧ qs.getD n.toNat 0 ≤ 1073741824 := by
    rw [List.getD_eq_getElem?_getD]
    cases e : qs[n.toNat]? with
    | none => exact ⟨by simp, by simp⟩
    | some q => exact hq _ _ e
  unfold waitC roomT
  split
  · split <;> omega
  · omega
theorem conC_bd {cs : List Ct} (h : ∀ x ∈ cs, 0 ≤ x.r ∧ x.r ≤ 1000) (bs : List Bk) (d : Dm) (c : Cu) (i t : Int) : -1000 ≤ conC cs bs d c i t ∧ conC cs bs d c i t ≤ 1000 := by
  unfold conC
  cases e : cs[i.toNat]? with
  | none => dsimp only; omega
  | some x =>
    have := h x (List.mem_of_getElem? e)
    dsimp only
    split <;> omega
def badS (d : Dm) (x : Int × Int) : Bool := decide (x.1 < d.r) || decide (d.e + 1 < x.2)
def badL2 (d : Dm) (l : List (Int × Int)) : Bool := decide (chkI l ≠ 0) || l.any (badS d)
def capW (qs : List Int) (hs : List Hd) (d : Dm) (c : Cu) : Nat → Int := sumT (fun n => sumU (waitC qs hs d c n) d.r d.e) 0
def capC (cs : List Ct) (bs : List Bk) (d : Dm) (c : Cu) : Nat → Int := sumT (fun i => sumU (conC cs bs d c i) d.r d.e) 0
def capSum (qs : List Int) (cs : List Ct) (bs : List Bk) (hs : List Hd) (d : Dm) (c : Cu) : Int := capW qs hs d c qs.length + capC cs bs d c cs.length
/-- the capacity of a cut -/
def capR (qs : List Int) (cs : List Ct) (bs : List Bk) (hs : List Hd) (d : Dm) (c : Cu) : Int × Int :=
  if validT qs cs bs hs d = false then (0, 1) else if c.length ≠ qs.length then (0, 10) else if c.any (badL2 d) then (0, 2)
  else if hasI (cuAt c d.s) d.r = false ∨ hasI (cuAt c d.d) d.e = true then (0, 24) else (capSum qs cs bs hs d c, 0)
end Go.Step
/- What crosses a cut. -/
namespace Go.Proofs.YtjbebmealbnmgaaGreat
open Go.Eng Go.Step
set_option maxRecDepth 100000
set_option maxHeartbeats 4000000

/-- a cut in memory: the slices in ρ, what they hold in κ -/
def CutRow (ρ κ : PH) (p : Option Addr) (c : Cu) : Prop := ∀ (i : Nat) (l : List (Int × Int)), c[i]? = some l → ∃ b o q k, p = some ⟨b, o, none⟩ ∧ rdc ρ b (o + i) = some (.slice q l.length k) ∧ SpAt κ (.slice q l.length k) l ∧ l.length ≤ 9223372036854775807
theorem cuAt_get {c : Cu} {n : Nat} {l : List (Int × Int)} (h : c[n]? = some l) : cuAt c n = l := by unfold cuAt; rw [Int.toNat_natCast, List.getD_eq_getElem?_getD, h]; rfl
set_option maxHeartbeats 16000000 in
theorem cross_spec (ρ κ : PH) (bc bs' : Nat) (p : Option Addr) (kk : Nat) (c : Cu) (hc : CutRow ρ κ p c) (f t : Nat) (a u w S : Int) (hf : f < c.length) (ht : t < c.length) (hS : In64 (S + w)) :
    Eng.Spec Tryz.prog (.func (.func 21) #[] #[.pointer (some ⟨bc, 0, none⟩), .pointer (some ⟨bs', 0, none⟩)]) [int f, int a, int t, int u, int w] [sng bc (.cells #[.slice p c.length kk] 33 (0, 0)), ρ, κ] [sng bs' (.cells #[int S] 3 (0, 0))]
      (fun r H' => r = .tuple #[] ∧ H' = [sng bs' (.cells #[int (S + if crossB c f a t u then w else 0)] 3 (0, 0))]) := by
  unfold In64 at hS
  have gc : rdc (sng bc (.cells #[.slice p c.length kk] 33 (0, 0))) bc 0 = some (.slice p c.length kk) := by rw [rdc_sng]; rfl
  obtain ⟨b1, o1, q1, k1, rfl, g1, s1, l1⟩ := hc f _ (List.getElem?_eq_getElem hf)
  obtain ⟨_, _, q2, k2, e, g2, s2, l2⟩ := hc t _ (List.getElem?_eq_getElem ht)
  simp only [Option.some.injEq, Addr.mk.injEq, and_true] at e
  obtain ⟨rfl, rfl⟩ := e
  have h1 := ivHas_spec κ _ _ a s1 l1
  have h2 := ivHas_spec κ _ _ u s2 l2
  unfold crossB
  rw [cuAt_get (List.getElem?_eq_getElem hf), cuAt_get (List.getElem?_eq_getElem ht)]
  refine spec_in (cap := [.pointer (some ⟨bc, 0, none⟩), .pointer (some ⟨bs', 0, none⟩)]) Tryz.func21 rfl rfl Tryz.ntmps21 rfl (by (repeat (first | exact EnvA.nil EnvI.nil | apply EnvA.cons | apply EnvA.nil | exact EnvI.nil | apply EnvI.cons)); first | done | fail) (fun N β => ?_)
  refine jk_seq ?_
  refine jk_region ?_
  refine zq_load ?_
  refine zq_move ?_
  refine zq_idx1 ?_
  refine zq_load ?_
  refine zq_move ?_
  refine jk_call h1 rfl rfl rdZ rfl rfl ?_
  rintro _ rfl
  cases hasI c[f] a with
  | false =>
    rw [Bool.false_and, if_neg (by simp), Int.add_zero]
    refine zq_move ?_
    refine jk_pass rfl rfl rfl ?_
    refine jk_pass rfl rfl rfl ?_
    refine jk_pass rfl rfl rfl ?_
    refine jk_pass rfl rfl rfl ?_
    refine jk_pass rfl rfl rfl ?_
    refine jk_pass rfl rfl rfl ?_
    refine jk_pass rfl rfl rfl ?_
    refine zq_pick_f ?_
    refine jk_nil ?_
    refine jk_if_f rfl ?_
    refine jk_skip ?_
    exact jk_end_any (res0 rfl) (by (repeat (first | exact rs_nil | (refine rs_cons ?_ ?_; (focus ((repeat (first | exact .here | apply Mem.there | apply Take.there)); first | done | fail))) | exact fun ρ hρ => hρ | (intro ρ hρ; repeat (first | exact hρ | refine List.mem_cons_of_mem _ ?_)))); first | done | fail) selZ ⟨rfl, rfl⟩
  | true =>
    refine zq_move ?_
    refine zq_load ?_
    refine zq_move ?_
    refine zq_idx1 ?_
    refine zq_load ?_
    refine zq_move ?_
    refine jk_call h2 rfl rfl rdZ rfl rfl ?_
    rintro _ rfl
    cases hasI c[t] u with
    | true =>
      rw [Bool.not_true, Bool.and_false, if_neg (by simp), Int.add_zero]
      refine zq_not ?_
      refine zq_pick_t ?_
      refine jk_nil ?_
      refine jk_if_f rfl ?_
      refine jk_skip ?_
      exact jk_end_any (res0 rfl) (by (repeat (first | exact rs_nil | (refine rs_cons ?_ ?_; (focus ((repeat (first | exact .here | apply Mem.there | apply Take.there)); first | done | fail))) | exact fun ρ hρ => hρ | (intro ρ hρ; repeat (first | exact hρ | refine List.mem_cons_of_mem _ ?_)))); first | done | fail) selZ ⟨rfl, rfl⟩
    | false =>
      rw [Bool.not_false, Bool.and_true, if_pos rfl]
      refine zq_not ?_
      refine zq_pick_t ?_
      refine jk_nil ?_
      refine jk_if_t rfl ?_
      refine jk_region ?_
      refine zq_load ?_
      refine zq_move ?_
      refine zq_add ?_
      refine zs_storeL ?_; rintro _ _ ⟨rfl, rfl⟩
      refine jk_nil ?_
      exact jk_end_any (res0 rfl) (by (repeat (first | exact rs_nil | (refine rs_cons ?_ ?_; (focus ((repeat (first | exact .here | apply Mem.there | apply Take.there)); first | done | fail))) | exact fun ρ hρ => hρ | (intro ρ hρ; repeat (first | exact hρ | refine List.mem_cons_of_mem _ ?_)))); first | done | fail) selZ ⟨rfl, rfl⟩
end Go.Proofs.YtjbebmealbnmgaaGreat
/- Arguments that are slices: their room. No conditions. -/
namespace Go.Eng
open Go.ChangeShapes Go.WideShapes Go.RowKit
variable {P : Program} {W : World} {t : TypeId}
theorem RdT.capOK {e : TypeId} {v : Value} (ht : P.underlying t = some (.slice e)) (h : RdT P W t [v]) : CapOK v := by
  obtain ⟨H, enc, fuel, x, h⟩ := h
  rcases Deep.open_slice ht h with ⟨e, _⟩ | ⟨a, len, cap, m, n, D, Pl, e, _, hlc, _⟩
  · simp only [List.cons.injEq, and_true] at e
    exact ⟨_, _, _, e, Nat.le_refl _⟩
  · simp only [List.cons.injEq, and_true] at e
    exact ⟨_, _, _, e, hlc⟩
end Go.Eng
/- The rows: each law, for every input. -/
namespace Go.Proofs.YtjbebmealbnmgaaGreat
open Go.Eng Go.Step
set_option maxRecDepth 100000
set_option maxHeartbeats 4000000
open Go.ChangeShapes Go.WideShapes Go.ChangeAt Go.RowKit

theorem Tryz.own : ownKnob Tryz.prog.godebug = none := by kernel_rfl
theorem Tryz.laidOut : laidOutB Tryz.prog = true := by kernel_rfl
theorem ct_of {W : World} {x : List Value} (h : RdT Tryz.prog W 63 x) : ∃ a : Ct, x = encC a ∧ True := by
  obtain ⟨h1, _⟩ := h.struct Tryz.underlying63
  have hc : Tryz.prog.cellsOf 63 = 7 := by kernel_rfl
  rw [hc] at h1
  match x, h1 with
  | [c0, c1, c2, c3, c4, c5, c6], _ =>
    have k : Tryz.prog.cellsOf 3 = 1 := by kernel_rfl
    obtain ⟨x0, e0, _⟩ := (h.fld1 Tryz.underlying63 0 rfl rfl rfl k rfl).i64 Tryz.underlying3
    obtain ⟨x1, e1, _⟩ := (h.fld1 Tryz.underlying63 1 rfl rfl rfl k rfl).i64 Tryz.underlying3
    obtain ⟨x2, e2, _⟩ := (h.fld1 Tryz.underlying63 2 rfl rfl rfl k rfl).i64 Tryz.underlying3
    obtain ⟨x3, e3, _⟩ := (h.fld1 Tryz.underlying63 3 rfl rfl rfl k rfl).i64 Tryz.underlying3
    obtain ⟨x4, e4, _⟩ := (h.fld1 Tryz.underlying63 4 rfl rfl rfl k rfl).i64 Tryz.underlying3
    obtain ⟨x5, e5, _⟩ := (h.fld1 Tryz.underlying63 5 rfl rfl rfl k rfl).i64 Tryz.underlying3
    obtain ⟨x6, e6, _⟩ := (h.fld1 Tryz.underlying63 6 rfl rfl rfl k rfl).i64 Tryz.underlying3
    simp at e0 e1 e2 e3 e4 e5 e6
    subst e0 e1 e2 e3 e4 e5 e6
    exact ⟨⟨x0, x1, x2, x3, x4, x5, x6⟩, rfl, trivial⟩
theorem bk_of {W : World} {x : List Value} (h : RdT Tryz.prog W 107 x) : ∃ a : Bk, x = encB a ∧ True := by
  obtain ⟨h1, _⟩ := h.struct Tryz.underlying107
  have hc : Tryz.prog.cellsOf 107 = 4 := by kernel_rfl
  rw [hc] at h1
  match x, h1 with
  | [c0, c1, c2, c3], _ =>
    have k : Tryz.prog.cellsOf 3 = 1 := by kernel_rfl
    obtain ⟨x0, e0, _⟩ := (h.fld1 Tryz.underlying107 0 rfl rfl rfl k rfl).i64 Tryz.underlying3
    obtain ⟨x1, e1, _⟩ := (h.fld1 Tryz.underlying107 1 rfl rfl rfl k rfl).i64 Tryz.underlying3
    obtain ⟨x2, e2, _⟩ := (h.fld1 Tryz.underlying107 2 rfl rfl rfl k rfl).i64 Tryz.underlying3
    obtain ⟨x3, e3, _⟩ := (h.fld1 Tryz.underlying107 3 rfl rfl rfl k rfl).i64 Tryz.underlying3
    simp at e0 e1 e2 e3
    subst e0 e1 e2 e3
    exact ⟨⟨x0, x1, x2, x3⟩, rfl, trivial⟩
theorem hd_of {W : World} {x : List Value} (h : RdT Tryz.prog W 86 x) : ∃ a : Hd, x = encH a ∧ True := by
  obtain ⟨h1, _⟩ := h.struct Tryz.underlying86
  have hc : Tryz.prog.cellsOf 86 = 5 := by kernel_rfl
  rw [hc] at h1
  match x, h1 with
  | [c0, c1, c2, c3, c4], _ =>
    have k : Tryz.prog.cellsOf 3 = 1 := by kernel_rfl
    obtain ⟨x0, e0, _⟩ := (h.fld1 Tryz.underlying86 0 rfl rfl rfl k rfl).i64 Tryz.underlying3
    obtain ⟨x1, e1, _⟩ := (h.fld1 Tryz.underlying86 1 rfl rfl rfl k rfl).i64 Tryz.underlying3
    obtain ⟨x2, e2, _⟩ := (h.fld1 Tryz.underlying86 2 rfl rfl rfl k rfl).i64 Tryz.underlying3
    obtain ⟨x3, e3, _⟩ := (h.fld1 Tryz.underlying86 3 rfl rfl rfl k rfl).i64 Tryz.underlying3
    obtain ⟨x4, e4, _⟩ := (h.fld1 Tryz.underlying86 4 rfl rfl rfl k rfl).i64 Tryz.underlying3
    simp at e0 e1 e2 e3 e4
    subst e0 e1 e2 e3 e4
    exact ⟨⟨x0, x1, x2, x3, x4⟩, rfl, trivial⟩
theorem sp_of {W : World} {x : List Value} (h : RdT Tryz.prog W 53 x) : ∃ a : (Int × Int), x = encS a ∧ True := by
  obtain ⟨h1, _⟩ := h.struct Tryz.underlying53
  have hc : Tryz.prog.cellsOf 53 = 2 := by kernel_rfl
  rw [hc] at h1
  match x, h1 with
  | [c0, c1], _ =>
    have k : Tryz.prog.cellsOf 3 = 1 := by kernel_rfl
    obtain ⟨x0, e0, _⟩ := (h.fld1 Tryz.underlying53 0 rfl rfl rfl k rfl).i64 Tryz.underlying3
    obtain ⟨x1, e1, _⟩ := (h.fld1 Tryz.underlying53 1 rfl rfl rfl k rfl).i64 Tryz.underlying3
    simp at e0 e1
    subst e0 e1
    exact ⟨⟨x0, x1⟩, rfl, trivial⟩
theorem demand_of {W : World} {r : Reach} {base : Nat} {v0 : Value} (hv : Value.okWide Tryz.prog W r base 31 v0) (h : RdT Tryz.prog W 31 v0.cells.toList) : ∃ a : Dm, v0 = .agg [int a.s, int a.d, int a.v, int a.r, int a.e].toArray ∧ In64 a.s ∧ In64 a.d ∧ In64 a.v ∧ In64 a.r ∧ In64 a.e := by
  obtain ⟨cs, rfl⟩ := okWide_agg Tryz.underlying31 hv
  obtain ⟨h1, _⟩ := h.struct Tryz.underlying31
  have hc : Tryz.prog.cellsOf 31 = 5 := by kernel_rfl
  rw [hc] at h1
  obtain ⟨x⟩ := cs
  match x, h1 with
  | [c0, c1, c2, c3, c4], _ =>
    have k : Tryz.prog.cellsOf 3 = 1 := by kernel_rfl
    obtain ⟨x0, e0, i0⟩ := (h.fld1 Tryz.underlying31 0 rfl rfl rfl k rfl).i64 Tryz.underlying3
    obtain ⟨x1, e1, i1⟩ := (h.fld1 Tryz.underlying31 1 rfl rfl rfl k rfl).i64 Tryz.underlying3
    obtain ⟨x2, e2, i2⟩ := (h.fld1 Tryz.underlying31 2 rfl rfl rfl k rfl).i64 Tryz.underlying3
    obtain ⟨x3, e3, i3⟩ := (h.fld1 Tryz.underlying31 3 rfl rfl rfl k rfl).i64 Tryz.underlying3
    obtain ⟨x4, e4, i4⟩ := (h.fld1 Tryz.underlying31 4 rfl rfl rfl k rfl).i64 Tryz.underlying3
    simp at e0 e1 e2 e3 e4
    subst e0 e1 e2 e3 e4
    exact ⟨⟨x0, x1, x2, x3, x4⟩, rfl, i0, i1, i2, i3, i4⟩
theorem int_of {W : World} {x : List Value} (h : RdT Tryz.prog W 3 x) : ∃ a : Int, x = Eng.encI a ∧ True := by
  obtain ⟨a, e, _⟩ := h.i64 Tryz.underlying3
  exact ⟨a, e, trivial⟩
theorem tables_of {W : World} {r : Reach} {base : Nat} {v0 : Value} (hv : Value.okWide Tryz.prog W r base 29 v0) (h : RdT Tryz.prog W 29 v0.cells.toList) :
    ∃ (pq pc pb ph : Option Addr) (kq kc kb kh : Nat) (qs : List Int) (cs : List Ct) (bs : List Bk) (hs : List Hd), v0 = .agg #[.slice pq qs.length kq, .slice pc cs.length kc, .slice pb bs.length kb, .slice ph hs.length kh] ∧ TbAt (heapPH W) (heapPH W) (heapPH W) (heapPH W) pq pc pb ph kq kc kb kh qs cs bs hs := by
  obtain ⟨cs, rfl⟩ := okWide_agg Tryz.underlying29 hv
  obtain ⟨h1, hf⟩ := h.struct Tryz.underlying29
  have hc : Tryz.prog.cellsOf 29 = 4 := by kernel_rfl
  rw [hc] at h1
  obtain ⟨x⟩ := cs
  match x, h1 with
  | [c0, c1, c2, c3], _ =>
    have k0 : Tryz.prog.cellsOf 22 = 1 := by kernel_rfl
    have k1 : Tryz.prog.cellsOf 23 = 1 := by kernel_rfl
    have k2 : Tryz.prog.cellsOf 26 = 1 := by kernel_rfl
    have k3 : Tryz.prog.cellsOf 27 = 1 := by kernel_rfl
    have kp : Tryz.prog.cellsOf 25 = 2 := by kernel_rfl
    have hp : RdT Tryz.prog W 25 [c0, c1] := by
      have : RdT Tryz.prog W 25 ((([c0, c1, c2, c3] : List Value).drop 0).take (Tryz.prog.cellsOf 25)) := hf 0 _ rfl
      rw [show (Tryz.prog.cellsOf 25) = 2 from kp] at this
      exact this
    have f0 := hp.fld1 Tryz.underlying25 0 rfl rfl rfl k0 rfl
    have f1 := hp.fld1 Tryz.underlying25 1 rfl rfl rfl k1 rfl
    have f2 := h.fld1 Tryz.underlying29 1 rfl rfl rfl k2 rfl
    have f3 := h.fld1 Tryz.underlying29 2 rfl rfl rfl k3 rfl
    obtain ⟨v, e, qs, a1, a2, a3⟩ := f0.sliceE Tryz.underlying22 (s := 1) (by kernel_rfl) (by omega) (fun x hx => int_of hx)
    simp only [List.cons.injEq, and_true] at e
    obtain ⟨u, e', ct, b1, b2, b3⟩ := f1.sliceE Tryz.underlying23 (s := 7) (by kernel_rfl) (by omega) (fun x hx => ct_of hx)
    simp only [List.cons.injEq, and_true] at e'
    obtain ⟨u2, e2, bk, d1, d2, d3⟩ := f2.sliceE Tryz.underlying26 (s := 4) (by kernel_rfl) (by omega) (fun x hx => bk_of hx)
    simp only [List.cons.injEq, and_true] at e2
    obtain ⟨u3, e3, hd, g1, g2, g3⟩ := f3.sliceE Tryz.underlying27 (s := 5) (by kernel_rfl) (by omega) (fun x hx => hd_of hx)
    simp only [List.cons.injEq, and_true] at e3
    have cap2 := f1.capOK Tryz.underlying23
    subst e e' e2 e3
    obtain ⟨pq, kq, rfl, _⟩ := a1.val Eng.encI_len
    obtain ⟨pc, kc, rfl, _⟩ := b1.val encC_len
    obtain ⟨pb, kb, rfl, _⟩ := d1.val encB_len
    obtain ⟨ph, kh, rfl, _⟩ := g1.val encH_len
    simp only [maxLen] at a3 b3 d3 g3
    exact ⟨pq, pc, pb, ph, kq, kc, kb, kh, qs, ct, bk, hd, rfl, a1, b1, cap2.le, by omega, by omega, d1, by omega, g1, by omega⟩
theorem cut_of {W : World} {x : Value} (h : RdT Tryz.prog W 33 [x]) : ∃ (p : Option Addr) (k : Nat) (c : Cu), x = .slice p c.length k ∧ CutRow (heapPH W) (heapPH W) p c ∧ c.length ≤ 9223372036854775807 := by
  obtain ⟨v, p, k, e, els, rfl, hle, hx⟩ := h.slice Tryz.underlying33 (s := 1) (by kernel_rfl) (by omega)
  simp only [List.cons.injEq, and_true] at e
  subst e
  obtain ⟨c, hl, hq⟩ := choose_list (fun i (l : List (Int × Int)) => ∃ v, els[i]? = some [v] ∧ SpAt (heapPH W) v l ∧ l.length ≤ 9223372036854775807) els.length (fun i hi => by
    obtain ⟨_, h2, _⟩ := hx i _ (List.getElem?_eq_getElem hi)
    obtain ⟨v, e, l, h3, _, h4⟩ := h2.sliceE Tryz.underlying46 (s := 2) (by kernel_rfl) (by omega) (fun x hx => sp_of hx)
    exact ⟨l, v, by rw [List.getElem?_eq_getElem hi, e], h3, by simp only [maxLen] at h4; omega⟩)
  simp only [maxLen] at hle
  refine ⟨p, k, c, by rw [hl], fun i l hil => ?_, by omega⟩
  obtain ⟨v, e, h3, h4⟩ := hq i l hil
  obtain ⟨_, _, b, o, rfl, hr⟩ := hx i _ e
  obtain ⟨q, kk, rfl, _⟩ := h3.val encS_len
  refine ⟨b, o, q, kk, rfl, ?_, h3, h4⟩
  have := hr 0 _ rfl
  rwa [Nat.mul_one, Nat.add_zero] at this
theorem cutV_of {W : World} {r : Reach} {base : Nat} {v0 : Value} (hv : Value.okWide Tryz.prog W r base 33 v0) (h : RdT Tryz.prog W 33 v0.cells.toList) : ∃ (p : Option Addr) (k : Nat) (c : Cu), v0 = .slice p c.length k ∧ CutRow (heapPH W) (heapPH W) p c ∧ c.length ≤ 9223372036854775807 := by
  obtain ⟨a, len, cap, rfl⟩ := okWide_slice Tryz.underlying33 hv
  exact cut_of h
end Go.Proofs.YtjbebmealbnmgaaGreat
/- What an owned slice looks like; chunks that hold more. No conditions. -/
namespace Go.Eng
theorem OwnS.form {e : TypeId} {s n : Nat} {v : Value} {xs : List Value} {ρ : PH} (h : OwnS e s v n xs ρ) : ∃ p c, v = .slice p n c := by
  obtain ⟨_, ⟨rfl, rfl, _⟩ | ⟨b, cap, _, rfl, _⟩⟩ := h
  · exact ⟨none, 0, rfl⟩
  · exact ⟨_, cap, rfl⟩
theorem OwnS.formP {e : TypeId} {s n : Nat} {v : Value} {xs : List Value} {ρ : PH} (h : OwnS e s v n xs ρ) (hn : 0 < n) : ∃ b c, v = .slice (some ⟨b, 0, none⟩) n c := by
  obtain ⟨_, ⟨_, h, _⟩ | ⟨b, cap, _, rfl, _⟩⟩ := h
  · omega
  · exact ⟨b, cap, rfl⟩
theorem SlAt.mono {ρ γ : PH} {s n : Nat} {v : Value} {xs : List Value} (h : SlAt ρ s v n xs) (hs : PH.sub ρ γ) : SlAt γ s v n xs := by
  obtain ⟨h1, h2 | ⟨b, o, c, e, h3⟩⟩ := h
  · exact ⟨h1, .inl h2⟩
  · exact ⟨h1, .inr ⟨b, o, c, e, fun j u hu => hs.rdc (h3 j u hu)⟩⟩
theorem SlE.mono {α : Type} {enc : α → List Value} {s : Nat} {ρ γ : PH} {v : Value} {l : List α} (h : SlE enc s ρ v l) (hs : PH.sub ρ γ) : SlE enc s γ v l := SlAt.mono h hs
end Go.Eng
/- Slices of sets. -/
namespace Go.Proofs.YtjbebmealbnmgaaGreat
open Go.Eng Go.Step
set_option maxRecDepth 100000
set_option maxHeartbeats 4000000

/-- a set with its slice's place and room -/
abbrev Sq := (Option Addr × Nat) × List (Int × Int)
def encQ (x : Sq) : List Value := [.slice x.1.1 x.2.length x.1.2]
theorem encQ_len (x : Sq) : (encQ x).length = 1 := rfl
abbrev cuL (L : List Sq) : Cu := L.map (fun x => x.2)
/-- a cut in memory -/
def CutL (γ κ : PH) (v : Value) (L : List Sq) : Prop := SlE encQ 1 γ v L ∧ ∀ x ∈ L, SpAt κ (.slice x.1.1 x.2.length x.1.2) x.2 ∧ x.2.length ≤ 9223372036854775807
theorem CutL.row {γ κ : PH} {p : Option Addr} {n kk : Nat} {L : List Sq} (h : CutL γ κ (.slice p n kk) L) : CutRow γ κ p (cuL L) := fun i l hl => by
  rw [List.getElem?_map] at hl
  obtain ⟨x, hx, rfl⟩ := Option.map_eq_some_iff.1 hl
  obtain ⟨q, k, e, hr⟩ := h.1.val encQ_len
  simp only [Value.slice.injEq] at e
  obtain ⟨b, o, e2, hrd⟩ := hr i x hx
  obtain ⟨h1, h2⟩ := h.2 x (List.mem_of_getElem? hx)
  refine ⟨b, o, x.1.1, x.1.2, by rw [e.1, e2], ?_, h1, h2⟩
  have := hrd 0 _ rfl
  rwa [Nat.mul_one, Nat.add_zero] at this
theorem CutRow.cutL {γ κ : PH} {p : Option Addr} {c : Cu} (h : CutRow γ κ p c) (kk : Nat) : ∃ L : List Sq, cuL L = c ∧ L.length = c.length ∧ CutL γ κ (.slice p L.length kk) L := by
  obtain ⟨L, hL, hq⟩ := choose_list (fun i (x : Sq) => c[i]? = some x.2 ∧ (∃ b o, p = some ⟨b, o, none⟩ ∧ rdc γ b (o + i) = some (.slice x.1.1 x.2.length x.1.2)) ∧ SpAt κ (.slice x.1.1 x.2.length x.1.2) x.2 ∧ x.2.length ≤ 9223372036854775807) c.length (fun i hi => by
    obtain ⟨b, o, q, k, e, h1, h2, h3⟩ := h i _ (List.getElem?_eq_getElem hi)
    exact ⟨((q, k), c[i]), List.getElem?_eq_getElem hi, ⟨b, o, e, h1⟩, h2, h3⟩)
  have he : cuL L = c := by
    apply List.ext_getElem?
    intro i
    rw [List.getElem?_map]
    by_cases hi : i < L.length
    · have := (hq i _ (List.getElem?_eq_getElem hi)).1
      rw [List.getElem?_eq_getElem hi, this]; rfl
    · rw [List.getElem?_eq_none (by omega), List.getElem?_eq_none (by omega)]; rfl
  refine ⟨L, he, hL, ⟨by rw [flat_len encQ_len], ?_⟩, fun x hx => ?_⟩
  · rcases Nat.eq_zero_or_pos L.length with hz | hz
    · exact .inl ⟨hz, p, kk, by rw [hz]⟩
    · obtain ⟨b, o, e, _⟩ := (hq 0 _ (List.getElem?_eq_getElem hz)).2.1
      refine .inr ⟨b, o, kk, by rw [e], fun j u hu => ?_⟩
      have hj : j < L.length := by
        have := (List.getElem?_eq_some_iff.1 hu).1
        rwa [flat_len encQ_len, Nat.mul_one] at this
      obtain ⟨b2, o2, e2, h2⟩ := (hq j _ (List.getElem?_eq_getElem hj)).2.1
      rw [e] at e2
      simp only [Option.some.injEq, Addr.mk.injEq, and_true] at e2
      obtain ⟨rfl, rfl⟩ := e2
      have hf := flat_get encQ_len L j _ (List.getElem?_eq_getElem hj) 0 _ rfl
      rw [Nat.mul_one, Nat.add_zero] at hf
      rw [hf] at hu
      obtain rfl := Option.some.inj hu
      exact h2
  · obtain ⟨i, hi, e⟩ := List.getElem_of_mem hx
    exact (hq i x (by rw [List.getElem?_eq_getElem hi, e])).2.2
theorem one_Q (x : Sq) : ∀ u ∈ encQ x, u.oneCell' = true := by
  intro u hu
  simp only [encQ, List.mem_cons, List.not_mem_nil, or_false] at hu
  rcases hu with rfl <;> rfl
theorem ones_Q (l : List Sq) : ∀ u ∈ l.flatMap encQ, u.oneCell' = true := by
  intro u hu
  rw [List.mem_flatMap] at hu
  obtain ⟨a, _, hu⟩ := hu
  exact one_Q a u hu
theorem growQ_spec (n : Nat) (hn : n ≤ 100000000) : Makes Tryz.prog (fv 73) [.slice none 0 0, int n] [] (fun r σ => OwnS 46 1 r 0 [] σ) := by
  refine spec_in (cap := []) Tryz.func73 rfl rfl Tryz.ntmps73 rfl (by (repeat (first | exact EnvA.nil EnvI.nil | apply EnvA.cons | apply EnvA.nil | exact EnvI.nil | apply EnvI.cons)); first | done | fail) (fun N β => ?_)
  rcases Nat.eq_zero_or_pos n with h0 | h0
  · subst h0
    refine jk_emp ?_
    refine jk_seq ?_
    refine jk_region ?_
    refine zq_assign ?_
    refine jk_nil ?_
    refine jk_seq ?_
    refine jk_seq ?_
    refine jk_region ?_
    refine zq_move ?_
    refine zq_ltF ?_
    refine jk_nil ?_
    refine jk_if_f rfl ?_
    refine jk_skip ?_
    refine jk_seq ?_
    refine jk_seq ?_
    refine jk_region ?_
    refine zq_move ?_
    refine zq_move ?_
    refine zq_cap ?_
    refine zq_move ?_
    refine zq_len ?_
    refine zq_sub ?_
    refine zq_sub ?_
    refine zq_assign ?_
    refine jk_nil ?_
    refine jk_seq ?_
    refine jk_region ?_
    refine zq_move ?_
    refine zq_gtF ?_
    refine jk_nil ?_
    refine jk_if_f rfl ?_
    refine jk_skip ?_
    refine jk_seq ?_
    refine jk_region ?_
    refine zq_move ?_
    refine zq_assign ?_
    refine jk_nil ?_
    exact jk_ret_any (res1 rfl rfl) (by (repeat (first | exact rs_nil | (refine rs_cons ?_ ?_; (focus ((repeat (first | exact .here | apply Mem.there | apply Take.there)); first | done | fail))) | exact fun ρ hρ => hρ | (intro ρ hρ; repeat (first | exact hρ | refine List.mem_cons_of_mem _ ?_)))); first | done | fail) selZ ⟨emp, OwnS.nil _ _, rfl⟩
  · have e0 : (n : Int) - (((0 : Nat) : Int) - ((0 : Nat) : Int)) = (n : Int) := by omega
    refine jk_seq ?_
    refine jk_region ?_
    refine zq_assign ?_
    refine jk_nil ?_
    refine jk_seq ?_
    refine jk_seq ?_
    refine jk_region ?_
    refine zq_move ?_
    refine zq_ltF ?_
    refine jk_nil ?_
    refine jk_if_f rfl ?_
    refine jk_skip ?_
    refine jk_seq ?_
    refine jk_seq ?_
    refine jk_region ?_
    refine zq_move ?_
    refine zq_move ?_
    refine zq_cap ?_
    refine zq_move ?_
    refine zq_len ?_
    refine zq_sub ?_
    refine zq_sub ?_
    refine zq_assign ?_
    refine jk_nil ?_
    refine jk_seq ?_
    refine jk_region ?_
    refine zq_move ?_
    refine zq_gt ?_
    refine jk_nil ?_
    refine jk_if_t rfl ?_
    refine jk_region ?_
    refine zq_move ?_
    refine zq_move ?_
    refine zq_cap ?_
    refine zq_cutHi ?_
    refine zq_move ?_
    focus ((rw [e0]))
    refine jk_op (l_appendZ (n := n) (by_ := 24) (s := 1) rfl rfl rfl rfl rfl rfl rfl rfl (by decide) h0 (by simp only [maxLen]; omega) (by omega)) rfl rfl rfl ?_
    rintro _ _ ⟨b, cap, cur, rfl, rfl, h1, h2, h3⟩
    have hcz := cutP_zero b cap 1
    refine jk_q (q_move rfl) rfl rfl rfl ?_
    refine jk_q (q_len rfl rfl) rfl rfl rfl ?_
    refine jk_q (q_cutHi (i := 0) (s := 1) rfl rfl rfl rfl (by omega)) rfl rfl rfl ?_
    rw [hcz]
    refine zq_assign ?_
    refine jk_nil ?_
    refine jk_seq ?_
    refine jk_region ?_
    refine zq_move ?_
    refine zq_assign ?_
    refine jk_nil ?_
    exact jk_ret_any (res1 rfl rfl) (by (repeat (first | exact rs_nil | (refine rs_cons ?_ ?_; (focus ((repeat (first | exact .here | apply Mem.there | apply Take.there)); first | done | fail))) | exact fun ρ hρ => hρ | (intro ρ hρ; repeat (first | exact hρ | refine List.mem_cons_of_mem _ ?_)))); first | done | fail) selZ ⟨_, OwnS.room h2 h3, rfl⟩
set_option maxHeartbeats 8000000 in
theorem concatQ_spec (τ : PH) (Rs : List PH) (v : Value) (vs : List Value) (ls : List (List Sq)) (hv : SlE encW 1 τ v vs) (hlen : vs.length = ls.length) (hall : ∀ (i : Nat) (w : Value) (l : List Sq), vs[i]? = some w → ls[i]? = some l → ∃ σ ∈ Rs, SlE encQ 1 σ w l) (hk : vs.length ≤ 1000) (ht : totL ls ≤ 1000000) :
    Makes Tryz.prog (fv 55) [v] (τ :: Rs) (fun r σ => OwnS 46 1 r ls.flatten.length (ls.flatten.flatMap encQ) σ) := by
  obtain ⟨q, c, rfl, hr⟩ := hv.val encW_len
  refine spec_in (cap := []) Tryz.func55 rfl rfl Tryz.ntmps55 rfl (by (repeat (first | exact EnvA.nil EnvI.nil | apply EnvA.cons | apply EnvA.nil | exact EnvI.nil | apply EnvI.cons)); first | done | fail) (fun N β => ?_)
  refine jk_seq ?_
  refine jk_region ?_
  refine zq_assign ?_
  refine jk_nil ?_
  refine jk_seq ?_
  refine jk_region ?_
  refine zq_assign ?_
  refine jk_nil ?_
  refine jk_seq ?_
  refine jk_seq ?_
  refine jk_region ?_
  refine zq_move ?_
  refine zq_len ?_
  refine zq_move ?_
  refine jk_nil ?_
  refine jk_block ?_
  refine jk_loop [0, 9, 10] (0 : Nat) (fun k => k ≤ vs.length) (fun k => [(11, int k), (3, int ((totL (ls.take k) : Nat) : Int))]) (fun _ => []) (fun k => vs.length - k) pickZ (by omega) ⟨rfl, rfl, trivial⟩ selZ ?_
  rintro k hkk
  by_cases hlt : k < vs.length
  · obtain ⟨w, hw⟩ : ∃ w, vs[k]? = some w := ⟨_, List.getElem?_eq_getElem hlt⟩
    obtain ⟨l, hl⟩ : ∃ l, ls[k]? = some l := ⟨_, List.getElem?_eq_getElem (by omega)⟩
    obtain ⟨σ, hσ, hS⟩ := hall k w l hw hl
    obtain ⟨p2, c2, rfl, _⟩ := hS.val encQ_len
    obtain ⟨b1, o1, rfl, hrd⟩ := hr k _ hw
    have g0 : rdc τ b1 (o1 + k) = some (.slice p2 l.length c2) := by have := hrd.get0; rwa [Nat.mul_one] at this
    have hst := totL_take ls k l hl
    have hle := totL_le ls (k + 1)
    have hsum : ((totL (ls.take k) : Nat) : Int) + (l.length : Int) = ((totL (ls.take (k + 1)) : Nat) : Int) := by omega
    refine jk_seq ?_
    refine jk_region ?_
    refine zq_lt ?_
    refine jk_nil ?_
    refine jk_seq ?_
    refine jk_if_t rfl ?_
    refine jk_skip ?_
    refine jk_seq ?_
    refine jk_block ?_
    refine jk_seq ?_
    refine jk_region ?_
    refine zq_idx1 ?_
    refine zq_load ?_
    refine zq_assign ?_
    refine jk_nil ?_
    refine jk_seq ?_
    refine jk_region ?_
    refine zq_move ?_
    refine zq_move ?_
    refine zq_len ?_
    refine zq_add ?_
    refine zq_assign ?_
    refine jk_nil ?_
    refine jk_seq ?_
    refine jk_region ?_
    refine zq_move ?_
    refine zq_ltF ?_
    refine jk_nil ?_
    refine jk_if_f rfl ?_
    refine jk_skip ?_
    refine jk_blk ?_
    refine jk_region ?_
    refine zq_inc ?_
    refine zq_move ?_
    refine jk_nil ?_
    focus ((rw [hsum]))
    exact jk_round (k + 1) (by omega) (by omega) covZ selZ
  · have hkl : k = vs.length := by omega
    subst hkl
    rw [List.take_of_length_le (by omega)]
    refine jk_seq ?_
    refine jk_region ?_
    refine zq_ltF ?_
    refine jk_nil ?_
    refine jk_seq ?_
    refine jk_if_f rfl ?_
    refine jk_exit rfl ?_
    refine jk_seq ?_
    refine jk_region ?_
    refine zq_move ?_
    refine jk_callM (growQ_spec (totL ls) (by omega)) rfl rfl rdZ rfl rfl ?_
    rintro u0 σ0 hO0
    refine zq_assign ?_
    refine jk_nil ?_
    refine jk_seq ?_
    refine jk_seq ?_
    refine jk_region ?_
    refine zq_move ?_
    refine zq_len ?_
    refine zq_move ?_
    refine jk_nil ?_
    refine jk_block ?_
    refine jk_loop [25, 26] (X := Nat × (Value × PH)) (0, (u0, σ0)) (fun x => x.1 ≤ vs.length ∧ OwnS 46 1 x.2.1 (ls.take x.1).flatten.length ((ls.take x.1).flatten.flatMap encQ) x.2.2) (fun x => [(27, int x.1), (6, x.2.1)]) (fun x => [x.2.2]) (fun x => vs.length - x.1) pickZ ⟨by dsimp only; omega, by simpa using hO0⟩ covZ selZ ?_
    rintro ⟨k, ⟨u, σ1⟩⟩ ⟨hk2, hO⟩
    dsimp only at hk2 hO ⊢
    by_cases hlt2 : k < vs.length
    · obtain ⟨w, hw⟩ : ∃ w, vs[k]? = some w := ⟨_, List.getElem?_eq_getElem hlt2⟩
      obtain ⟨l, hl⟩ : ∃ l, ls[k]? = some l := ⟨_, List.getElem?_eq_getElem (by omega)⟩
      obtain ⟨σ, hσ, hS⟩ := hall k w l hw hl
      have hS2 := hS
      obtain ⟨p2, c2, rfl, _⟩ := hS.val encQ_len
      obtain ⟨b1, o1, rfl, hrd⟩ := hr k _ hw
      have g0 : rdc τ b1 (o1 + k) = some (.slice p2 l.length c2) := by have := hrd.get0; rwa [Nat.mul_one] at this
      have hst := totL_take ls k l hl
      have hle := totL_le ls (k + 1)
      have hfl := totL_flat (ls.take k)
      refine jk_seq ?_
      refine jk_region ?_
      refine zq_lt ?_
      refine jk_nil ?_
      refine jk_seq ?_
      refine jk_if_t rfl ?_
      refine jk_skip ?_
      refine jk_seq ?_
      refine jk_block ?_
      refine jk_seq ?_
      refine jk_region ?_
      refine zq_idx1 ?_
      refine zq_load ?_
      refine zq_assign ?_
      refine jk_nil ?_
      refine jk_region ?_
      refine zq_move ?_
      refine zq_move ?_
      refine jk_op (l_appendE (by_ := 24) (s := 1) (σ := σ) (news := l.flatMap encQ) (m := l.length) rfl rfl rfl rfl rfl rfl rfl hO takeZ hS2 (fun b o h => cells_of_mem (List.mem_cons_of_mem _ (List.mem_cons_of_mem _ hσ)) h) (ones_Q l) (by simp only [maxLen]; omega) (by omega)) rfl rfl rfl ?_
      rintro u1 _ ⟨σ2, hO2, rfl⟩
      refine zq_assign ?_
      refine jk_nil ?_
      refine jk_blk ?_
      refine jk_region ?_
      refine zq_inc ?_
      refine zq_move ?_
      refine jk_nil ?_
      refine jk_round (k + 1, (u1, σ2)) ⟨by dsimp only; omega, ?_⟩ (by dsimp only; omega) covZ selZ
      dsimp only
      rw [flat_succ ls k l hl, List.length_append, List.flatMap_append]
      exact hO2
    · have hkl : k = vs.length := by omega
      subst hkl
      rw [List.take_of_length_le (by omega)] at hO
      refine jk_seq ?_
      refine jk_region ?_
      refine zq_ltF ?_
      refine jk_nil ?_
      refine jk_seq ?_
      refine jk_if_f rfl ?_
      refine jk_exit rfl ?_
      refine jk_seq ?_
      refine jk_region ?_
      refine zq_move ?_
      refine zq_assign ?_
      refine jk_nil ?_
      exact jk_ret_any (res1 rfl rfl) (by (repeat (first | exact rs_nil | (refine rs_cons ?_ ?_; (focus ((repeat (first | exact .here | apply Mem.there | apply Take.there)); first | done | fail))) | exact fun ρ hρ => hρ | (intro ρ hρ; repeat (first | exact hρ | refine List.mem_cons_of_mem _ ?_)))); first | done | fail) selZ ⟨σ1, hO, rfl⟩
theorem indexQ_spec (ρ : PH) (Rs : List PH) (v fn : Value) (l : List Sq) (p : Sq → Bool) (hv : SlE encQ 1 ρ v l) (hl : l.length ≤ 9223372036854775807) (hfn : ∀ (i : Nat) (x : Sq), l[i]? = some x → Ans Tryz.prog fn [.slice x.1.1 x.2.length x.1.2] Rs (fun r => r = .bool (p x))) :
    Ans Tryz.prog (fv 72) [v, fn] (ρ :: Rs) (fun r => (∃ (i : Nat) (x : Sq), l[i]? = some x ∧ p x = true ∧ (∀ (j : Nat) (y : Sq), j < i → l[j]? = some y → p y = false) ∧ r = int i) ∨ ((∀ x ∈ l, p x = false) ∧ r = int (-1))) := by
  obtain ⟨q, c, rfl, hr⟩ := hv.val encQ_len
  refine spec_in (cap := []) Tryz.func72 rfl rfl Tryz.ntmps72 rfl (by (repeat (first | exact EnvA.nil EnvI.nil | apply EnvA.cons | apply EnvA.nil | exact EnvI.nil | apply EnvI.cons)); first | done | fail) (fun N β => ?_)
  refine jk_seq ?_
  refine jk_region ?_
  refine zq_assign ?_
  refine jk_nil ?_
  refine jk_seq ?_
  refine jk_seq ?_
  refine jk_region ?_
  refine zq_move ?_
  refine zq_len ?_
  refine zq_move ?_
  refine jk_nil ?_
  refine jk_block ?_
  refine jk_loop [0, 1, 7] (0 : Nat) (fun k => k ≤ l.length ∧ ∀ (i : Nat) (x : Sq), i < k → l[i]? = some x → p x = false) (fun k => [(8, int k)]) (fun _ => []) (fun k => l.length - k) pickZ ⟨by omega, fun i x h => by omega⟩ covZ selZ ?_
  rintro k ⟨hk, hI⟩
  by_cases hlt : k < l.length
  · have hx := List.getElem?_eq_getElem hlt
    obtain ⟨b1, o1, rfl, hrd⟩ := hr k _ hx
    have hrd2 : RdN ρ b1 (o1 + k * 1) (encQ l[k]) := hrd
    have hf := hfn k _ hx
    have g0 : rdc ρ b1 (o1 + k) = some (.slice l[k].1.1 l[k].2.length l[k].1.2) := by have := hrd.get0; rwa [Nat.mul_one] at this
    refine jk_seq ?_
    refine jk_region ?_
    refine zq_lt ?_
    refine jk_nil ?_
    refine jk_seq ?_
    refine jk_if_t rfl ?_
    refine jk_skip ?_
    refine jk_seq ?_
    refine jk_block ?_
    refine jk_seq ?_
    refine jk_region ?_
    refine zq_move ?_
    refine zq_assign ?_
    refine jk_nil ?_
    refine jk_seq ?_
    refine jk_region ?_
    refine zq_move ?_
    refine zq_move ?_
    refine zq_move ?_
    refine zq_idx1 ?_
    refine zq_load ?_
    refine jk_call hf rfl rfl (fun τ hτ => .inl (by simp [hτ])) rfl rfl ?_
    rintro _ rfl
    cases hp : p l[k] with
    | true =>
      refine jk_nil ?_
      refine jk_if_t rfl ?_
      refine jk_seq ?_
      refine jk_region ?_
      refine zq_move ?_
      refine zq_assign ?_
      refine jk_nil ?_
      exact jk_ret_any (res1 rfl rfl) (by (repeat (first | exact rs_nil | (refine rs_cons ?_ ?_; (focus ((repeat (first | exact .here | apply Mem.there | apply Take.there)); first | done | fail))) | exact fun ρ hρ => hρ | (intro ρ hρ; repeat (first | exact hρ | refine List.mem_cons_of_mem _ ?_)))); first | done | fail) selZ ⟨rfl, .inl ⟨k, l[k], hx, hp, hI, rfl⟩⟩
    | false =>
      refine jk_nil ?_
      refine jk_if_f rfl ?_
      refine jk_skip ?_
      refine jk_blk ?_
      refine jk_region ?_
      refine zq_inc ?_
      refine zq_move ?_
      refine jk_nil ?_
      refine jk_round (k + 1) ⟨by omega, fun i x hi hix => ?_⟩ (by omega) covZ selZ
      by_cases e : i = k
      · subst e; rw [hx] at hix; injection hix with hix; rw [← hix]; exact hp
      · exact hI i x (by omega) hix
  · refine jk_seq ?_
    refine jk_region ?_
    refine zq_ltF ?_
    refine jk_nil ?_
    refine jk_seq ?_
    refine jk_if_f rfl ?_
    refine jk_exit rfl ?_
    refine jk_seq ?_
    refine jk_region ?_
    refine zq_assign ?_
    refine jk_nil ?_
    refine jk_ret_any (res1 rfl rfl) (by (repeat (first | exact rs_nil | (refine rs_cons ?_ ?_; (focus ((repeat (first | exact .here | apply Mem.there | apply Take.there)); first | done | fail))) | exact fun ρ hρ => hρ | (intro ρ hρ; repeat (first | exact hρ | refine List.mem_cons_of_mem _ ?_)))); first | done | fail) selZ ⟨rfl, .inr ⟨fun x hx => ?_, rfl⟩⟩
    obtain ⟨i, hi, rfl⟩ := List.getElem_of_mem hx
    exact hI i _ (by omega) (List.getElem?_eq_getElem hi)
theorem contQ_spec (ρ : PH) (Rs : List PH) (v fn : Value) (l : List Sq) (p : Sq → Bool) (hv : SlE encQ 1 ρ v l) (hl : l.length ≤ 9223372036854775807) (hfn : ∀ (i : Nat) (x : Sq), l[i]? = some x → Ans Tryz.prog fn [.slice x.1.1 x.2.length x.1.2] Rs (fun r => r = .bool (p x))) :
    Ans Tryz.prog (fv 54) [v, fn] (ρ :: Rs) (fun r => r = .bool (l.any p)) := by
  have hix := indexQ_spec ρ Rs v fn l p hv hl hfn
  obtain ⟨q, c, rfl, hr⟩ := hv.val encQ_len
  refine spec_in (cap := []) Tryz.func54 rfl rfl Tryz.ntmps54 rfl (by (repeat (first | exact EnvA.nil EnvI.nil | apply EnvA.cons | apply EnvA.nil | exact EnvI.nil | apply EnvI.cons)); first | done | fail) (fun N β => ?_)
  refine jk_seq ?_
  refine jk_region ?_
  refine zq_assign ?_
  refine jk_nil ?_
  refine jk_seq ?_
  refine jk_region ?_
  refine zq_move ?_
  refine zq_move ?_
  refine jk_call hix rfl rfl (fun τ hτ => .inl (List.mem_cons_of_mem _ hτ)) rfl rfl ?_
  rintro _ (⟨i, x, hi, hp, _, rfl⟩ | ⟨hall2, rfl⟩)
  · have hfl : l.any p = true := List.any_eq_true.2 ⟨x, List.mem_of_getElem? hi, hp⟩
    refine zq_ge ?_
    refine zq_assign ?_
    refine jk_nil ?_
    exact jk_ret_any (res1 rfl rfl) (by (repeat (first | exact rs_nil | (refine rs_cons ?_ ?_; (focus ((repeat (first | exact .here | apply Mem.there | apply Take.there)); first | done | fail))) | exact fun ρ hρ => hρ | (intro ρ hρ; repeat (first | exact hρ | refine List.mem_cons_of_mem _ ?_)))); first | done | fail) selZ ⟨rfl, by rw [hfl]⟩
  · have hfl : l.any p = false := List.any_eq_false.2 (fun x hx => by rw [hall2 x hx]; simp)
    refine zq_geF ?_
    refine zq_assign ?_
    refine jk_nil ?_
    exact jk_ret_any (res1 rfl rfl) (by (repeat (first | exact rs_nil | (refine rs_cons ?_ ?_; (focus ((repeat (first | exact .here | apply Mem.there | apply Take.there)); first | done | fail))) | exact fun ρ hρ => hρ | (intro ρ hρ; repeat (first | exact hρ | refine List.mem_cons_of_mem _ ?_)))); first | done | fail) selZ ⟨rfl, by rw [hfl]⟩
end Go.Proofs.YtjbebmealbnmgaaGreat
/- A set of integers lies between its first and its last. No program in sight. No conditions. -/
namespace Go.Step
theorem chkI_at {l : List (Int × Int)} (h : chkI l = 0) {i : Nat} (hi : i < l.length) : l[i].1 < l[i].2 ∧ (∀ h0 : 0 < i, l[i - 1].2 < l[i].1) := by
  unfold chkI at h
  split at h
  · simp at h
  have h2 := firstE_zero h i hi
  rw [spE_at (List.getElem?_eq_getElem hi)] at h2
  split at h2
  · simp at h2
  rename_i h3
  split at h2
  · simp at h2
  rename_i h4
  have h5 : okSp l[i] := Decidable.not_not.1 h3
  refine ⟨h5.1, fun h0 => ?_⟩
  rw [List.getD_eq_getElem?_getD, List.getElem?_eq_getElem (by omega), Option.getD_some] at h4
  omega
theorem chkI_lo {l : List (Int × Int)} (h : chkI l = 0) : ∀ {i : Nat} (hi : i < l.length), l[0].1 ≤ l[i].1
  | 0, hi => Int.le_refl _
  | i + 1, hi => by
    have h1 := chkI_lo h (i := i) (by omega)
    have h2 := (chkI_at h (i := i) (by omega)).1
    have h3 := (chkI_at h hi).2 (by omega)
    simp only [Nat.add_sub_cancel] at h3
    omega
theorem chkI_hi {l : List (Int × Int)} (h : chkI l = 0) : ∀ (k : Nat) {i : Nat} (hi : i + k < l.length), l[i].2 ≤ l[i + k].2
  | 0, i, hi => Int.le_refl _
  | k + 1, i, hi => by
    have h1 := chkI_hi h k (i := i) (by omega)
    have h2 := (chkI_at h (i := i + (k + 1)) hi).1
    have h3 := (chkI_at h hi).2 (by omega)
    have e : i + (k + 1) - 1 = i + k := by omega
    simp only [e] at h3
    omega
theorem badS_ends {l : List (Int × Int)} (h : chkI l = 0) (hp : 0 < l.length) (d : Dm) : l.any (badS d) = (decide (l[0].1 < d.r) || decide (d.e + 1 < l[l.length - 1].2)) := by
  rw [Bool.eq_iff_iff, List.any_eq_true, Bool.or_eq_true, decide_eq_true_eq, decide_eq_true_eq]
  constructor
  · rintro ⟨x, hx, hb⟩
    obtain ⟨i, hi, rfl⟩ := List.getElem_of_mem hx
    unfold badS at hb
    rw [Bool.or_eq_true, decide_eq_true_eq, decide_eq_true_eq] at hb
    have h1 := chkI_lo h hi
    have h2 := chkI_hi h (l.length - 1 - i) (i := i) (by omega)
    have e : i + (l.length - 1 - i) = l.length - 1 := by omega
    simp only [e] at h2
    omega
  · rintro (h1 | h1)
    · exact ⟨_, List.getElem_mem hp, by unfold badS; rw [decide_eq_true h1]; rfl⟩
    · exact ⟨_, List.getElem_mem (show l.length - 1 < l.length by omega), by unfold badS; rw [decide_eq_true h1, Bool.or_true]⟩
end Go.Step
