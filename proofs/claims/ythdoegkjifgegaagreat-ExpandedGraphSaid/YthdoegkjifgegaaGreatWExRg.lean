/- Texts of this proof, one after the other; no conditions. -/
import Derived.Test.YthdoegkjifgegaaGreatWB13
import Derived.Test.YthdoegkjifgegaaGreatWB3
import Derived.Test.YthdoegkjifgegaaGreatWB11
import Derived.Test.YthdoegkjifgegaaGreatWB2
import Derived.Test.YthdoegkjifgegaaGreatWB7
set_option linter.all false
/- The document's arcs. -/
namespace Go.Proofs.YthdoegkjifgegaaGreat
open Go.Eng Go.Step
set_option maxRecDepth 100000
set_option maxHeartbeats 4000000

theorem refCheck53_spec {ρ τ σ υ : PH} {pq pc pb ph : Option Addr} {kq kc kb kh : Nat} {qs : List Int} {cs : List Ct} {bs : List Bk} {hs : List Hd} (hT : TbAt ρ τ σ υ pq pc pb ph kq kc kb kh qs cs bs hs) (d : Dm) : Ans Tryz.prog (fv 41) [.agg #[.slice pq qs.length kq, .slice pc cs.length kc, .slice pb bs.length kb, .slice ph hs.length kh], .agg #[int d.s, int d.d, int d.v, int d.r, int d.e]] [ρ, τ, σ, υ] (fun r => r = .bool (validT qs cs bs hs d)) := by
  have hct := refChkTab_spec hT
  have hd := demand53_spec pq pc kq kc qs.length cs.length d
  refine spec_in (cap := []) Tryz.func41 rfl rfl Tryz.ntmps41 rfl (by (repeat (first | exact EnvA.nil EnvI.nil | apply EnvA.cons | apply EnvA.nil | exact EnvI.nil | apply EnvI.cons)); first | done | fail) (fun N β => ?_)
  refine jk_seq ?_
  refine jk_region ?_
  refine jk_op (l_boxS rfl) rfl rfl rfl ?_
  rintro _ _ ⟨b1, rfl, rfl⟩
  refine jk_freeze (ρ := sng b1 _) takeZ ?_
  have ct : RdN (sng b1 (.cells #[.slice pq qs.length kq, .slice pc cs.length kc, .slice pb bs.length kb, .slice ph hs.length kh] 29 (0, 0))) b1 0 [.slice pq qs.length kq, .slice pc cs.length kc, .slice pb bs.length kb, .slice ph hs.length kh] := rdN_sng (vs := [.slice pq qs.length kq, .slice pc cs.length kc, .slice pb bs.length kb, .slice ph hs.length kh])
  have ct0 : rdc (sng b1 (.cells #[.slice pq qs.length kq, .slice pc cs.length kc, .slice pb bs.length kb, .slice ph hs.length kh] 29 (0, 0))) b1 0 = some (.slice pq qs.length kq) := by rw [rdc_sng]; rfl
  have ct1 : rdc (sng b1 (.cells #[.slice pq qs.length kq, .slice pc cs.length kc, .slice pb bs.length kb, .slice ph hs.length kh] 29 (0, 0))) b1 1 = some (.slice pc cs.length kc) := by rw [rdc_sng]; rfl
  have ct2 : rdc (sng b1 (.cells #[.slice pq qs.length kq, .slice pc cs.length kc, .slice pb bs.length kb, .slice ph hs.length kh] 29 (0, 0))) b1 2 = some (.slice pb bs.length kb) := by rw [rdc_sng]; rfl
  have ct3 : rdc (sng b1 (.cells #[.slice pq qs.length kq, .slice pc cs.length kc, .slice pb bs.length kb, .slice ph hs.length kh] 29 (0, 0))) b1 3 = some (.slice ph hs.length kh) := by rw [rdc_sng]; rfl
  have ctp : RdP (sng b1 (.cells #[.slice pq qs.length kq, .slice pc cs.length kc, .slice pb bs.length kb, .slice ph hs.length kh] 29 (0, 0))) b1 0 [.slice pq qs.length kq, .slice pc cs.length kc] := rdP_sng (xs := [.slice pq qs.length kq, .slice pc cs.length kc, .slice pb bs.length kb, .slice ph hs.length kh]) rfl
  refine jk_op (l_boxS rfl) rfl rfl rfl ?_
  rintro _ _ ⟨b2, rfl, rfl⟩
  refine jk_freeze (ρ := sng b2 _) takeZ ?_
  have cd : RdN (sng b2 (.cells #[int d.s, int d.d, int d.v, int d.r, int d.e] 31 (0, 0))) b2 0 [int d.s, int d.d, int d.v, int d.r, int d.e] := rdN_sng (vs := [int d.s, int d.d, int d.v, int d.r, int d.e])
  have cd0 : rdc (sng b2 (.cells #[int d.s, int d.d, int d.v, int d.r, int d.e] 31 (0, 0))) b2 0 = some (int d.s) := by rw [rdc_sng]; rfl
  have cd1 : rdc (sng b2 (.cells #[int d.s, int d.d, int d.v, int d.r, int d.e] 31 (0, 0))) b2 1 = some (int d.d) := by rw [rdc_sng]; rfl
  have cd2 : rdc (sng b2 (.cells #[int d.s, int d.d, int d.v, int d.r, int d.e] 31 (0, 0))) b2 2 = some (int d.v) := by rw [rdc_sng]; rfl
  have cd3 : rdc (sng b2 (.cells #[int d.s, int d.d, int d.v, int d.r, int d.e] 31 (0, 0))) b2 3 = some (int d.r) := by rw [rdc_sng]; rfl
  have cd4 : rdc (sng b2 (.cells #[int d.s, int d.d, int d.v, int d.r, int d.e] 31 (0, 0))) b2 4 = some (int d.e) := by rw [rdc_sng]; rfl
  refine zq_assign ?_
  refine jk_nil ?_
  refine jk_seq ?_
  refine jk_region ?_
  refine zq_loadS ?_
  refine jk_call hct rfl rfl rdZ rfl rfl ?_
  rintro _ rfl
  by_cases hz : chkT qs cs bs hs = 0
  · rw [hz]
    refine zq_eq ?_
    refine zq_move ?_
    refine zq_fld0 ?_
    refine zq_loadS ?_
    refine zq_loadS ?_
    refine jk_call hd rfl rfl rdZ rfl rfl ?_
    rintro _ rfl
    have hV : validT qs cs bs hs d = okDmB qs.length d := by unfold validT okDmB; simp [hz]
    rw [hV]
    cases okDmB qs.length d with
    | true =>
      refine zq_pick_t ?_
      refine zq_assign ?_
      refine jk_nil ?_
      exact jk_ret_any (res1 rfl rfl) (by (repeat (first | exact rs_nil | (refine rs_cons ?_ ?_; (focus ((repeat (first | exact .here | apply Mem.there | apply Take.there)); first | done | fail))) | exact fun ρ hρ => hρ | (intro ρ hρ; repeat (first | exact hρ | refine List.mem_cons_of_mem _ ?_)))); first | done | fail) selZ ⟨rfl, rfl⟩
    | false =>
      refine zq_pick_t ?_
      refine zq_assign ?_
      refine jk_nil ?_
      exact jk_ret_any (res1 rfl rfl) (by (repeat (first | exact rs_nil | (refine rs_cons ?_ ?_; (focus ((repeat (first | exact .here | apply Mem.there | apply Take.there)); first | done | fail))) | exact fun ρ hρ => hρ | (intro ρ hρ; repeat (first | exact hρ | refine List.mem_cons_of_mem _ ?_)))); first | done | fail) selZ ⟨rfl, rfl⟩
  · have hV : validT qs cs bs hs d = false := decide_eq_false (fun h => hz h.1)
    rw [hV]
    refine zq_eqF ?_
    refine zq_move ?_
    refine jk_pass rfl rfl rfl ?_
    refine jk_pass rfl rfl rfl ?_
    refine jk_pass rfl rfl rfl ?_
    refine jk_pass rfl rfl rfl ?_
    refine zq_pick_f ?_
    refine zq_assign ?_
    refine jk_nil ?_
    exact jk_ret_any (res1 rfl rfl) (by (repeat (first | exact rs_nil | (refine rs_cons ?_ ?_; (focus ((repeat (first | exact .here | apply Mem.there | apply Take.there)); first | done | fail))) | exact fun ρ hρ => hρ | (intro ρ hρ; repeat (first | exact hρ | refine List.mem_cons_of_mem _ ?_)))); first | done | fail) selZ ⟨rfl, rfl⟩
theorem refVtx_spec (d : Dm) (n t : Int) (hr : 0 ≤ d.r ∧ d.r ≤ d.e ∧ d.e ≤ 1099511627776 ∧ d.e - d.r ≤ 100) (hn : 0 ≤ n ∧ n ≤ 1000) (ht : 0 ≤ t ∧ t ≤ 2199023255552) : Ans Tryz.prog (fv 42) [.agg #[int d.s, int d.d, int d.v, int d.r, int d.e], int n, int t] [] (fun r => r = int (vtx d n t)) := by
  have hv : vtx d n t = n * (d.e - d.r + 1) + t - d.r := by unfold vtx wd; omega
  have hm : 0 ≤ n * (d.e - d.r + 1) ∧ n * (d.e - d.r + 1) ≤ 1000 * 101 := ⟨Int.mul_nonneg hn.1 (by omega), Int.mul_le_mul hn.2 (by omega) (by omega) (by omega)⟩
  rw [hv]
  refine spec_in (cap := []) Tryz.func42 rfl rfl Tryz.ntmps42 rfl (by (repeat (first | exact EnvA.nil EnvI.nil | apply EnvA.cons | apply EnvA.nil | exact EnvI.nil | apply EnvI.cons)); first | done | fail) (fun N β => ?_)
  refine jk_seq ?_
  refine jk_region ?_
  refine jk_op (l_boxS rfl) rfl rfl rfl ?_
  rintro _ _ ⟨b2, rfl, rfl⟩
  refine jk_freeze (ρ := sng b2 _) takeZ ?_
  have cd : RdN (sng b2 (.cells #[int d.s, int d.d, int d.v, int d.r, int d.e] 31 (0, 0))) b2 0 [int d.s, int d.d, int d.v, int d.r, int d.e] := rdN_sng (vs := [int d.s, int d.d, int d.v, int d.r, int d.e])
  have cd0 : rdc (sng b2 (.cells #[int d.s, int d.d, int d.v, int d.r, int d.e] 31 (0, 0))) b2 0 = some (int d.s) := by rw [rdc_sng]; rfl
  have cd1 : rdc (sng b2 (.cells #[int d.s, int d.d, int d.v, int d.r, int d.e] 31 (0, 0))) b2 1 = some (int d.d) := by rw [rdc_sng]; rfl
  have cd2 : rdc (sng b2 (.cells #[int d.s, int d.d, int d.v, int d.r, int d.e] 31 (0, 0))) b2 2 = some (int d.v) := by rw [rdc_sng]; rfl
  have cd3 : rdc (sng b2 (.cells #[int d.s, int d.d, int d.v, int d.r, int d.e] 31 (0, 0))) b2 3 = some (int d.r) := by rw [rdc_sng]; rfl
  have cd4 : rdc (sng b2 (.cells #[int d.s, int d.d, int d.v, int d.r, int d.e] 31 (0, 0))) b2 4 = some (int d.e) := by rw [rdc_sng]; rfl
  refine zq_assign ?_
  refine jk_nil ?_
  refine jk_seq ?_
  refine jk_region ?_
  refine zq_move ?_
  refine zq_fld0 ?_
  refine zq_load ?_
  refine zq_fld0 ?_
  refine zq_load ?_
  refine zq_sub ?_
  refine zq_add ?_
  refine zq_mul ?_
  refine zq_move ?_
  refine zq_add ?_
  refine zq_fld0 ?_
  refine zq_load ?_
  refine zq_sub ?_
  refine zq_assign ?_
  refine jk_nil ?_
  exact jk_ret_any (res1 rfl rfl) (by (repeat (first | exact rs_nil | (refine rs_cons ?_ ?_; (focus ((repeat (first | exact .here | apply Mem.there | apply Take.there)); first | done | fail))) | exact fun ρ hρ => hρ | (intro ρ hρ; repeat (first | exact hρ | refine List.mem_cons_of_mem _ ?_)))); first | done | fail) selZ ⟨rfl, rfl⟩
set_option maxHeartbeats 32000000 in
theorem refGaps_spec {ρ τ σ υ : PH} {pq pc pb ph : Option Addr} {kq kc kb kh : Nat} {qs : List Int} {cs : List Ct} {bs : List Bk} {hs : List Hd} (hT : TbAt ρ τ σ υ pq pc pb ph kq kc kb kh qs cs bs hs) (i : Nat) (x : Ct) (hx : cs[i]? = some x) (hbl : bs.length ≤ 512) :
    Makes Tryz.prog (fv 87) [.agg #[.slice pq qs.length kq, .slice pc cs.length kc], .slice pb bs.length kb, int (i : Int)] [ρ, τ, σ] (fun r χ => OwnS 61 2 r (freeC cs bs i).length ((freeC cs bs i).flatMap encS) χ) := by
  have hbusy := refBusy_spec σ _ bs i hT.hb (by omega)
  have hbll := busyL_len bs i
  have hfc : freeC cs bs i = gapsP x.e x.s (busyL bs i) := by unfold freeC; rw [hx]
  have hgl := gapsP_len x.e (busyL bs i) x.s
  rw [hfc]
  have hi := (List.getElem?_eq_some_iff.1 hx).1
  obtain ⟨bq, oq, e4, hrd⟩ := ctRow hT.rc hx
  have q2 : rdc τ bq (oq + i * 7 + 2) = some (int x.s) := hrd.get (j := 2) rfl
  have q3 : rdc τ bq (oq + i * 7 + 3) = some (int x.e) := hrd.get (j := 3) rfl
  refine spec_in (cap := []) Tryz.func87 rfl rfl Tryz.ntmps87 rfl (by (repeat (first | exact EnvA.nil EnvI.nil | apply EnvA.cons | apply EnvA.nil | exact EnvI.nil | apply EnvI.cons)); first | done | fail) (fun N β => ?_)
  refine jk_seq ?_
  refine jk_region ?_
  refine jk_op (l_boxS rfl) rfl rfl rfl ?_
  rintro _ _ ⟨b3, rfl, rfl⟩
  refine jk_freeze (ρ := sng b3 _) takeZ ?_
  have c : RdN (sng b3 (.cells #[.slice pq qs.length kq, .slice pc cs.length kc] 25 (0, 0))) b3 0 [.slice pq qs.length kq, .slice pc cs.length kc] := rdN_sng (vs := [.slice pq qs.length kq, .slice pc cs.length kc])
  have c0 : rdc (sng b3 (.cells #[.slice pq qs.length kq, .slice pc cs.length kc] 25 (0, 0))) b3 0 = some (.slice pq qs.length kq) := by rw [rdc_sng]; rfl
  have c1 : rdc (sng b3 (.cells #[.slice pq qs.length kq, .slice pc cs.length kc] 25 (0, 0))) b3 1 = some (.slice pc cs.length kc) := by rw [rdc_sng]; rfl
  refine jk_emp ?_
  subst e4
  refine zq_assign ?_
  refine jk_nil ?_
  refine jk_seq ?_
  refine jk_region ?_
  refine zq_assign ?_
  refine jk_nil ?_
  refine jk_seq ?_
  refine jk_region ?_
  refine zq_fld0 ?_
  refine zq_load ?_
  refine zq_move ?_
  refine zq_idxN ?_
  refine zq_fld ?_
  refine zq_load ?_
  refine zq_assign ?_
  refine jk_nil ?_
  refine jk_seq ?_
  refine jk_region ?_
  refine zq_move ?_
  refine zq_move ?_
  refine jk_callM hbusy rfl rfl rdZ rfl rfl ?_
  rintro w χb hOb
  have hSb := hOb.at
  obtain ⟨pw, kw, rfl⟩ := hOb.form
  obtain ⟨_, _, ew, hrw⟩ := SlE.val (enc := encS) encS_len (show SlE encS 2 χb _ (busyL bs i) from hSb)
  simp only [Value.slice.injEq] at ew
  obtain ⟨rfl, _, rfl⟩ := ew
  refine jk_freeze (ρ := χb) takeZ ?_
  generalize busyL bs i = L at hbll hOb hSb hrw hgl
  refine zq_assign ?_
  refine jk_nil ?_
  refine jk_seq ?_
  refine jk_seq ?_
  refine jk_region ?_
  refine zq_assign ?_
  refine jk_nil ?_
  refine jk_block ?_
  refine jk_loop [2, 3, 9] (X := Nat × Int × List (Int × Int) × Value × PH) (0, x.s, [], .slice none 0 0, emp) (fun z => z.1 ≤ L.length ∧ gapsP x.e x.s L = z.2.2.1 ++ gapsP x.e z.2.1 (L.drop z.1) ∧ OwnS 61 2 z.2.2.2.1 z.2.2.1.length (z.2.2.1.flatMap encS) z.2.2.2.2) (fun z => [(10, int z.1), (8, int z.2.1), (7, z.2.2.2.1)]) (fun z => [z.2.2.2.2]) (fun z => L.length - z.1) pickZ ⟨by dsimp only; omega, rfl, OwnS.nil _ _⟩ covZ selZ ?_
  rintro ⟨k, a, G, u, χ⟩ ⟨hk, hG, hO⟩
  dsimp only at hk hG hO ⊢
  have hGl : G.length ≤ L.length + 1 := by
    have := congrArg List.length hG
    rw [List.length_append] at this
    omega
  by_cases hlt : k < L.length
  · have hy := List.getElem?_eq_getElem hlt
    have hga := gapsP_at (e := x.e) hlt a
    obtain ⟨b6, o6, rfl, hRd6, y0, y1⟩ := spRow hrw hy
    generalize L[k] = y at hy hga hRd6 y0 y1
    by_cases hc : a < y.1
    · rw [if_pos hc] at hga
      refine jk_seq ?_
      refine jk_seq ?_
      refine jk_region ?_
      refine zq_move ?_
      refine zq_move ?_
      refine zq_len ?_
      refine zq_lt ?_
      refine jk_nil ?_
      refine jk_if_t rfl ?_
      refine jk_skip ?_
      refine jk_seq ?_
      refine jk_block ?_
      refine jk_seq ?_
      refine jk_seq ?_
      refine jk_region ?_
      refine zq_move ?_
      refine zq_move ?_
      refine zq_move ?_
      refine zq_idxN ?_
      refine zq_fldZ ?_
      refine zq_load ?_
      refine zq_lt ?_
      refine jk_nil ?_
      refine jk_if_t rfl ?_
      refine jk_region ?_
      refine zq_move ?_
      refine zq_move ?_
      refine zq_move ?_
      refine zq_move ?_
      refine zq_idxN ?_
      refine zq_fldZ ?_
      refine zq_load ?_
      refine zq_build ?_
      refine zl_buildSlice ?_; rintro _ _ ⟨b, rfl, rfl⟩
      refine jk_op (l_append (by_ := 16) (s := 2) (news := [int a, int y.1]) rfl rfl rfl rfl rfl rfl rfl hO takeZ (cells_own memZ) rfl (by (repeat (first | exact (fun v hv => absurd hv List.not_mem_nil) | (refine List.forall_mem_cons.2 ⟨?_, ?_⟩; (focus (first | exact rfl | assumption))))); first | done | fail) (by omega) (by simp only [maxLen]; omega) (by omega)) rfl rfl rfl ?_
      rintro u1 _ ⟨χ1, hO1, rfl⟩
      refine zq_assign ?_
      refine jk_nil ?_
      refine jk_region ?_
      refine zq_move ?_
      refine zq_move ?_
      refine zq_idxN ?_
      refine zq_fld ?_
      refine zq_load ?_
      refine zq_assign ?_
      refine jk_nil ?_
      refine jk_blk ?_
      refine jk_region ?_
      refine zq_move ?_
      refine zq_inc ?_
      refine zq_assign ?_
      refine jk_nil ?_
      refine jk_round (k + 1, y.2, G ++ [(a, y.1)], u1, χ1) ⟨by dsimp only; omega, ?_, ?_⟩ (by dsimp only; omega) covZ selZ
      · dsimp only
        rw [hG, hga, List.append_assoc]
      · dsimp only
        rw [List.length_append, List.flatMap_append]
        exact hO1
    · rw [if_neg hc, List.nil_append] at hga
      refine jk_seq ?_
      refine jk_seq ?_
      refine jk_region ?_
      refine zq_move ?_
      refine zq_move ?_
      refine zq_len ?_
      refine zq_lt ?_
      refine jk_nil ?_
      refine jk_if_t rfl ?_
      refine jk_skip ?_
      refine jk_seq ?_
      refine jk_block ?_
      refine jk_seq ?_
      refine jk_seq ?_
      refine jk_region ?_
      refine zq_move ?_
      refine zq_move ?_
      refine zq_move ?_
      refine zq_idxN ?_
      refine zq_fldZ ?_
      refine zq_load ?_
      refine zq_ltF ?_
      refine jk_nil ?_
      refine jk_if_f rfl ?_
      refine jk_skip ?_
      refine jk_region ?_
      refine zq_move ?_
      refine zq_move ?_
      refine zq_idxN ?_
      refine zq_fld ?_
      refine zq_load ?_
      refine zq_assign ?_
      refine jk_nil ?_
      refine jk_blk ?_
      refine jk_region ?_
      refine zq_move ?_
      refine zq_inc ?_
      refine zq_assign ?_
      refine jk_nil ?_
      refine jk_round (k + 1, y.2, G, u, χ) ⟨by dsimp only; omega, ?_, hO⟩ (by dsimp only; omega) covZ selZ
      dsimp only
      rw [hG, hga]
  · have hke : k = L.length := by omega
    subst hke
    have hfin : gapsP x.e x.s L = G ++ (if a < x.e then [(a, x.e)] else []) := by
      rw [hG, List.drop_length]
      rfl
    rw [hfin]
    by_cases hc : a < x.e
    · rw [if_pos hc]
      refine jk_seq ?_
      refine jk_seq ?_
      refine jk_region ?_
      refine zq_move ?_
      refine zq_move ?_
      refine zq_len ?_
      refine zq_ltF ?_
      refine jk_nil ?_
      refine jk_if_f rfl ?_
      refine jk_exit rfl ?_
      refine jk_seq ?_
      refine jk_seq ?_
      refine jk_region ?_
      refine zq_move ?_
      refine zq_fld0 ?_
      refine zq_load ?_
      refine zq_move ?_
      refine zq_idxN ?_
      refine zq_fld ?_
      refine zq_load ?_
      refine zq_lt ?_
      refine jk_nil ?_
      refine jk_if_t rfl ?_
      refine jk_region ?_
      refine zq_move ?_
      refine zq_move ?_
      refine zq_fld0 ?_
      refine zq_load ?_
      refine zq_move ?_
      refine zq_idxN ?_
      refine zq_fld ?_
      refine zq_load ?_
      refine zq_build ?_
      refine zl_buildSlice ?_; rintro _ _ ⟨b, rfl, rfl⟩
      refine jk_op (l_append (by_ := 16) (s := 2) (news := [int a, int x.e]) rfl rfl rfl rfl rfl rfl rfl hO takeZ (cells_own memZ) rfl (by (repeat (first | exact (fun v hv => absurd hv List.not_mem_nil) | (refine List.forall_mem_cons.2 ⟨?_, ?_⟩; (focus (first | exact rfl | assumption))))); first | done | fail) (by omega) (by simp only [maxLen]; omega) (by omega)) rfl rfl rfl ?_
      rintro u1 _ ⟨χ1, hO1, rfl⟩
      refine zq_assign ?_
      refine jk_nil ?_
      refine jk_seq ?_
      refine jk_region ?_
      refine zq_move ?_
      refine zq_assign ?_
      refine jk_nil ?_
      refine jk_ret_any (res1 rfl rfl) (by (repeat (first | exact rs_nil | (refine rs_cons ?_ ?_; (focus ((repeat (first | exact .here | apply Mem.there | apply Take.there)); first | done | fail))) | exact fun ρ hρ => hρ | (intro ρ hρ; repeat (first | exact hρ | refine List.mem_cons_of_mem _ ?_)))); first | done | fail) selZ ⟨χ1, ?_, rfl⟩
      rw [List.length_append, List.flatMap_append]
      exact hO1
    · rw [if_neg hc, List.append_nil]
      refine jk_seq ?_
      refine jk_seq ?_
      refine jk_region ?_
      refine zq_move ?_
      refine zq_move ?_
      refine zq_len ?_
      refine zq_ltF ?_
      refine jk_nil ?_
      refine jk_if_f rfl ?_
      refine jk_exit rfl ?_
      refine jk_seq ?_
      refine jk_seq ?_
      refine jk_region ?_
      refine zq_move ?_
      refine zq_fld0 ?_
      refine zq_load ?_
      refine zq_move ?_
      refine zq_idxN ?_
      refine zq_fld ?_
      refine zq_load ?_
      refine zq_ltF ?_
      refine jk_nil ?_
      refine jk_if_f rfl ?_
      refine jk_skip ?_
      refine jk_seq ?_
      refine jk_region ?_
      refine zq_move ?_
      refine zq_assign ?_
      refine jk_nil ?_
      exact jk_ret_any (res1 rfl rfl) (by (repeat (first | exact rs_nil | (refine rs_cons ?_ ?_; (focus ((repeat (first | exact .here | apply Mem.there | apply Take.there)); first | done | fail))) | exact fun ρ hρ => hρ | (intro ρ hρ; repeat (first | exact hρ | refine List.mem_cons_of_mem _ ?_)))); first | done | fail) selZ ⟨χ, hO, rfl⟩
def encRA (x : EA) : List Value := [int x.a.f, int x.a.t, int x.a.c, int x.c, int x.t]
theorem encRA_len (x : EA) : (encRA x).length = 5 := rfl
set_option maxHeartbeats 64000000 in
theorem refArcs_spec {ρ τ σ υ : PH} {pq pc pb ph : Option Addr} {kq kc kb kh : Nat} {qs : List Int} {cs : List Ct} {bs : List Bk} {hs : List Hd} (hT : TbAt ρ τ σ υ pq pc pb ph kq kc kb kh qs cs bs hs) (d : Dm) (h : VOk qs cs bs hs d) :
    Makes Tryz.prog (fv 43) [.agg #[.slice pq qs.length kq, .slice pc cs.length kc, .slice pb bs.length kb, .slice ph hs.length kh], .agg #[int d.s, int d.d, int d.v, int d.r, int d.e]] [ρ, τ, σ, υ] (fun r χ => OwnS 92 5 r (arcsE qs cs bs hs d).length ((arcsE qs cs bs hs d).flatMap encRA) χ) := by
  have hdm := h.dm
  unfold okDm at hdm
  have hnq := h.nq
  have hnc := h.nc
  refine spec_in (cap := []) Tryz.func43 rfl rfl Tryz.ntmps43 rfl (by (repeat (first | exact EnvA.nil EnvI.nil | apply EnvA.cons | apply EnvA.nil | exact EnvI.nil | apply EnvI.cons)); first | done | fail) (fun N β => ?_)
  refine jk_seq ?_
  refine jk_region ?_
  refine jk_op (l_boxS rfl) rfl rfl rfl ?_
  rintro _ _ ⟨b1, rfl, rfl⟩
  refine jk_freeze (ρ := sng b1 _) takeZ ?_
  have ct : RdN (sng b1 (.cells #[.slice pq qs.length kq, .slice pc cs.length kc, .slice pb bs.length kb, .slice ph hs.length kh] 29 (0, 0))) b1 0 [.slice pq qs.length kq, .slice pc cs.length kc, .slice pb bs.length kb, .slice ph hs.length kh] := rdN_sng (vs := [.slice pq qs.length kq, .slice pc cs.length kc, .slice pb bs.length kb, .slice ph hs.length kh])
  have ct0 : rdc (sng b1 (.cells #[.slice pq qs.length kq, .slice pc cs.length kc, .slice pb bs.length kb, .slice ph hs.length kh] 29 (0, 0))) b1 0 = some (.slice pq qs.length kq) := by rw [rdc_sng]; rfl
  have ct1 : rdc (sng b1 (.cells #[.slice pq qs.length kq, .slice pc cs.length kc, .slice pb bs.length kb, .slice ph hs.length kh] 29 (0, 0))) b1 1 = some (.slice pc cs.length kc) := by rw [rdc_sng]; rfl
  have ct2 : rdc (sng b1 (.cells #[.slice pq qs.length kq, .slice pc cs.length kc, .slice pb bs.length kb, .slice ph hs.length kh] 29 (0, 0))) b1 2 = some (.slice pb bs.length kb) := by rw [rdc_sng]; rfl
  have ct3 : rdc (sng b1 (.cells #[.slice pq qs.length kq, .slice pc cs.length kc, .slice pb bs.length kb, .slice ph hs.length kh] 29 (0, 0))) b1 3 = some (.slice ph hs.length kh) := by rw [rdc_sng]; rfl
  have ctp : RdP (sng b1 (.cells #[.slice pq qs.length kq, .slice pc cs.length kc, .slice pb bs.length kb, .slice ph hs.length kh] 29 (0, 0))) b1 0 [.slice pq qs.length kq, .slice pc cs.length kc] := rdP_sng (xs := [.slice pq qs.length kq, .slice pc cs.length kc, .slice pb bs.length kb, .slice ph hs.length kh]) rfl
  refine jk_op (l_boxS rfl) rfl rfl rfl ?_
  rintro _ _ ⟨b2, rfl, rfl⟩
  refine jk_freeze (ρ := sng b2 _) takeZ ?_
  have cd : RdN (sng b2 (.cells #[int d.s, int d.d, int d.v, int d.r, int d.e] 31 (0, 0))) b2 0 [int d.s, int d.d, int d.v, int d.r, int d.e] := rdN_sng (vs := [int d.s, int d.d, int d.v, int d.r, int d.e])
  have cd0 : rdc (sng b2 (.cells #[int d.s, int d.d, int d.v, int d.r, int d.e] 31 (0, 0))) b2 0 = some (int d.s) := by rw [rdc_sng]; rfl
  have cd1 : rdc (sng b2 (.cells #[int d.s, int d.d, int d.v, int d.r, int d.e] 31 (0, 0))) b2 1 = some (int d.d) := by rw [rdc_sng]; rfl
  have cd2 : rdc (sng b2 (.cells #[int d.s, int d.d, int d.v, int d.r, int d.e] 31 (0, 0))) b2 2 = some (int d.v) := by rw [rdc_sng]; rfl
  have cd3 : rdc (sng b2 (.cells #[int d.s, int d.d, int d.v, int d.r, int d.e] 31 (0, 0))) b2 3 = some (int d.r) := by rw [rdc_sng]; rfl
  have cd4 : rdc (sng b2 (.cells #[int d.s, int d.d, int d.v, int d.r, int d.e] 31 (0, 0))) b2 4 = some (int d.e) := by rw [rdc_sng]; rfl
  refine zq_assign ?_
  refine jk_nil ?_
  refine jk_seq ?_
  refine jk_region ?_
  refine zl_buildSlice ?_; rintro _ _ ⟨b, rfl, rfl⟩
  refine zq_assign ?_
  refine jk_nil ?_
  refine jk_seq ?_
  refine jk_seq ?_
  refine jk_region ?_
  refine zq_assign ?_
  refine jk_nil ?_
  refine jk_block ?_
  revert b; intro bo
  refine jk_loop [2, 3] (X := Nat × Value × PH) (0, .slice (some ⟨bo, 0, none⟩) 0 0, sng bo (.cells #[] 92 (0, 0))) (fun z => z.1 ≤ qs.length ∧ OwnS 92 5 z.2.1 (waitA qs hs d z.1).length ((waitA qs hs d z.1).flatMap encRA) z.2.2) (fun z => [(6, int z.1), (5, z.2.1)]) (fun z => [z.2.2]) (fun z => qs.length - z.1) pickZ ⟨by dsimp only; omega, OwnS.empty⟩ covZ selZ ?_
  rintro ⟨n, u, σo⟩ ⟨hn, hO⟩
  dsimp only at hn hO ⊢
  by_cases hlt : n < qs.length
  rotate_left
  · have hne : n = qs.length := by omega
    subst hne
    have hWl := h.waitA_le (Nat.le_refl _)
    have hWE : arcsE qs cs bs hs d = waitA qs hs d qs.length ++ conA cs bs d cs.length := rfl
    rw [hWE]
    generalize waitA qs hs d qs.length = W at hO hWl
    refine jk_seq ?_
    refine jk_seq ?_
    refine jk_region ?_
    refine zq_move ?_
    refine zq_fld0 ?_
    refine zq_fld0 ?_
    refine zq_load ?_
    refine zq_len ?_
    refine zq_ltF ?_
    refine jk_nil ?_
    refine jk_if_f rfl ?_
    refine jk_exit rfl ?_
    refine jk_seq ?_
    refine jk_seq ?_
    refine jk_region ?_
    refine zq_assign ?_
    refine jk_nil ?_
    refine jk_block ?_
    refine jk_loop [2, 3] (X := Nat × Value × PH) (0, u, σo) (fun z => z.1 ≤ cs.length ∧ OwnS 92 5 z.2.1 (W ++ conA cs bs d z.1).length ((W ++ conA cs bs d z.1).flatMap encRA) z.2.2) (fun z => [(9, int z.1), (5, z.2.1)]) (fun z => [z.2.2]) (fun z => cs.length - z.1) pickZ ⟨by dsimp only; omega, by dsimp only; rw [show conA cs bs d 0 = [] from rfl, List.append_nil]; exact hO⟩ covZ selZ ?_
    rintro ⟨i, u, σo⟩ ⟨hi, hO⟩
    dsimp only at hi hO ⊢
    by_cases hil : i < cs.length
    rotate_left
    · have hie : i = cs.length := by omega
      subst hie
      refine jk_seq ?_
      refine jk_seq ?_
      refine jk_region ?_
      refine zq_move ?_
      refine zq_fld0 ?_
      refine zq_fld0 ?_
      refine zq_load ?_
      refine zq_len ?_
      refine zq_ltF ?_
      refine jk_nil ?_
      refine jk_if_f rfl ?_
      refine jk_exit rfl ?_
      refine jk_seq ?_
      refine jk_region ?_
      refine zq_move ?_
      refine zq_assign ?_
      refine jk_nil ?_
      exact jk_ret_any (res1 rfl rfl) (by (repeat (first | exact rs_nil | (refine rs_cons ?_ ?_; (focus ((repeat (first | exact .here | apply Mem.there | apply Take.there)); first | done | fail))) | exact fun ρ hρ => hρ | (intro ρ hρ; repeat (first | exact hρ | refine List.mem_cons_of_mem _ ?_)))); first | done | fail) selZ ⟨σo, hO, rfl⟩
    have hx := List.getElem?_eq_getElem hil
    have hCl := h.conA_le (m := i) (by omega)
    have hend := fun t => conT_end h (t := t) hx
    obtain ⟨hfc, hfl⟩ := h.free_chk hx
    have hmem := fun t => (h.free hx).2.2 t
    have k := h.ct _ (List.mem_of_getElem? hx)
    have hgp := refGaps_spec hT i _ hx h.nb
    obtain ⟨bq, oq, e4, hrd⟩ := ctRow hT.rc hx
    have hnx : conA cs bs d (i + 1) = conA cs bs d i ++ conN cs bs d i := rfl
    generalize cs[i] = c at hx hend k hrd hmem
    generalize conN cs bs d i = CN at hend hnx
    generalize conA cs bs d i = CA at hO hCl hnx
    subst e4
    refine jk_seq ?_
    refine jk_seq ?_
    refine jk_region ?_
    refine zq_move ?_
    refine zq_fld0 ?_
    refine zq_fld0 ?_
    refine zq_load ?_
    refine zq_len ?_
    refine zq_lt ?_
    refine jk_nil ?_
    refine jk_if_t rfl ?_
    refine jk_skip ?_
    refine jk_seq ?_
    refine jk_block ?_
    refine jk_seq ?_
    refine jk_region ?_
    refine zq_fld0 ?_
    refine zq_fld0 ?_
    refine zq_load ?_
    refine zq_move ?_
    refine zq_idxN ?_
    refine zq_loadS ?_
    refine zl_allocS ?_; rintro _ _ ⟨b, rfl, rfl⟩
    refine zs_storeS ?_; rintro _ _ ⟨rfl, rfl⟩
    refine jk_nil ?_
    refine jk_seq ?_
    refine jk_region ?_
    refine zq_fld0 ?_
    refine zq_loadS ?_
    refine zq_fld0 ?_
    refine zq_load ?_
    refine zq_move ?_
    revert b; intro b10
    refine jk_callM hgp rfl rfl rdZ rfl rfl ?_
    rintro uf χf hOf
    have hSf : SpAt χf uf (freeC cs bs i) := hOf.at
    obtain ⟨pf, kf, rfl⟩ := hOf.form
    generalize freeC cs bs i = G at hfc hfl hend hOf hSf hmem
    refine zq_assign ?_
    refine jk_nil ?_
    refine jk_seq ?_
    refine jk_region ?_
    refine zq_fld0 ?_
    refine zq_load ?_
    refine zq_fld0 ?_
    refine zq_load ?_
    refine zq_max ?_
    refine zq_assign ?_
    refine jk_nil ?_
    refine jk_block ?_
    refine jk_loop [2, 3, 9, 10, 11] (X := Int × Value × PH) (max c.s d.r, u, σo) (fun z => max c.s d.r ≤ z.1 ∧ (∀ v, max c.s d.r ≤ v → v < z.1 → v < c.e ∧ v + 1 + c.g ≤ d.e) ∧ OwnS 92 5 z.2.1 (W ++ (CA ++ conT d c i G z.1)).length ((W ++ (CA ++ conT d c i G z.1)).flatMap encRA) z.2.2) (fun z => [(12, int z.1), (5, z.2.1)]) (fun z => [z.2.2, sng b10 (.cells #[int c.f, int c.t, int c.s, int c.e, int c.r, int c.g, int c.l] 70 (0, 0)), χf]) (fun z => (c.e - z.1).toNat) pickZ ⟨by dsimp only; omega, fun v h1 h2 => by dsimp only at h2; omega, by dsimp only; rw [conT_nil, List.append_nil]; exact hO⟩ covZ selZ ?_
    rintro ⟨t, u, σo⟩ ⟨ht1, hin, hO⟩
    dsimp only at ht1 hin hO ⊢
    have htl : (t - max c.s d.r).toNat ≤ 100 := by
      by_cases hq : max c.s d.r < t
      · have := hin (t - 1) (by omega) (by omega)
        omega
      · omega
    have hcl := conT_len d c i G t
    have htot : (W ++ (CA ++ conT d c i G t)).length ≤ 8100 := by rw [List.length_append, List.length_append]; omega
    by_cases c1 : t < c.e
    rotate_left
    · have he := hend t (fun h => c1 h.1) hin
      refine jk_seq ?_
      refine jk_seq ?_
      refine jk_region ?_
      refine zq_move ?_
      refine zq_fld0 ?_
      refine zq_load ?_
      refine zq_ltF ?_
      refine zq_move ?_
      refine jk_pass rfl rfl rfl ?_
      refine jk_pass rfl rfl rfl ?_
      refine jk_pass rfl rfl rfl ?_
      refine jk_pass rfl rfl rfl ?_
      refine jk_pass rfl rfl rfl ?_
      refine jk_pass rfl rfl rfl ?_
      refine jk_pass rfl rfl rfl ?_
      refine jk_pass rfl rfl rfl ?_
      refine zq_pick_f ?_
      refine jk_nil ?_
      refine jk_if_f rfl ?_
      refine jk_exit rfl ?_
      refine jk_blk ?_
      refine jk_region ?_
      refine zq_move ?_
      refine zq_inc ?_
      refine zq_assign ?_
      refine jk_nil ?_
      refine jk_round (i + 1, u, σo) ⟨by dsimp only; omega, ?_⟩ (by dsimp only; omega) covZ selZ
      dsimp only
      rw [hnx, ← he]
      exact hO
    by_cases c2 : t + 1 + c.g ≤ d.e
    rotate_left
    · have he := hend t (fun h => c2 h.2) hin
      refine jk_seq ?_
      refine jk_seq ?_
      refine jk_region ?_
      refine zq_move ?_
      refine zq_fld0 ?_
      refine zq_load ?_
      refine zq_lt ?_
      refine zq_move ?_
      refine zq_move ?_
      refine zq_add ?_
      refine zq_fld0 ?_
      refine zq_load ?_
      refine zq_add ?_
      refine zq_fld0 ?_
      refine zq_load ?_
      refine zq_leF ?_
      refine zq_pick_t ?_
      refine jk_nil ?_
      refine jk_if_f rfl ?_
      refine jk_exit rfl ?_
      refine jk_blk ?_
      refine jk_region ?_
      refine zq_move ?_
      refine zq_inc ?_
      refine zq_assign ?_
      refine jk_nil ?_
      refine jk_round (i + 1, u, σo) ⟨by dsimp only; omega, ?_⟩ (by dsimp only; omega) covZ selZ
      dsimp only
      rw [hnx, ← he]
      exact hO
    have hin2 : ∀ v, max c.s d.r ≤ v → v < t + 1 → v < c.e ∧ v + 1 + c.g ≤ d.e := fun v h1 h2 => by
      by_cases hq : v < t
      · exact hin v h1 hq
      · have : v = t := by omega
        subst this
        exact ⟨c1, c2⟩
    have hhas := refHas_spec χf (.slice pf G.length kf) G t hSf (by omega)
    rw [hasI_mem hfc] at hhas
    have hsn := conT_snoc (d := d) (c := c) (i := i) (G := G) ht1
    have hv1 := refVtx_spec d c.f t (by omega) (by omega) (by omega)
    have hv2 := refVtx_spec d c.t (t + 1 + c.g) (by omega) (by omega) (by omega)
    refine jk_seq ?_
    refine jk_seq ?_
    refine jk_region ?_
    refine zq_move ?_
    refine zq_fld0 ?_
    refine zq_load ?_
    refine zq_lt ?_
    refine zq_move ?_
    refine zq_move ?_
    refine zq_add ?_
    refine zq_fld0 ?_
    refine zq_load ?_
    refine zq_add ?_
    refine zq_fld0 ?_
    refine zq_load ?_
    refine zq_le ?_
    refine zq_pick_t ?_
    refine jk_nil ?_
    refine jk_if_t rfl ?_
    refine jk_skip ?_
    refine jk_seq ?_
    refine jk_block ?_
    refine jk_seq ?_
    refine jk_region ?_
    refine zq_move ?_
    refine zq_move ?_
    refine jk_call hhas rfl rfl rdZ rfl rfl ?_
    rintro _ rfl
    cases hm : memI G t with
    | false =>
      rw [hm, if_neg (by simp), List.append_nil] at hsn
      refine jk_nil ?_
      refine jk_if_f rfl ?_
      refine jk_skip ?_
      refine jk_blk ?_
      refine jk_region ?_
      refine zq_move ?_
      refine zq_add ?_
      refine zq_assign ?_
      refine jk_nil ?_
      refine jk_round (t + 1, u, σo) ⟨by dsimp only; omega, hin2, ?_⟩ (by dsimp only; omega) covZ selZ
      dsimp only
      rw [hsn]
      exact hO
    | true =>
      rw [hm, if_pos rfl] at hsn
      generalize conT d c i G t = T0 at hO htot hsn
      refine jk_nil ?_
      refine jk_if_t rfl ?_
      refine jk_draw (.q 0 (.q 1 (.q 2 (.q 3 (.q 4 (.q 6 (.q 7 (.q 8 (.q 9 (.q 10 (.q 11 (.q 12 (.q 13 (.q 15 (.q 16 (.q 18 (.q 19 (.l 5 .e (.l 14 .e (.q 17 (.q 20 (.l 21 .e (.l 22 .b (.l 23 .b .nil)))))))))))))))))))))))) [] rfl (by kernel_rfl) Sel.nil ?_
      refine zd_move ?_
      refine zd_loadS ?_
      refine zd_fld0 ?_
      refine zd_load ?_
      refine zd_move ?_
      refine zd_loadS ?_
      refine zd_fld0 ?_
      refine zd_load ?_
      refine zd_move ?_
      refine zd_add ?_
      refine zd_fld0 ?_
      refine zd_load ?_
      refine zd_add ?_
      refine zd_fld0 ?_
      refine zd_load ?_
      refine zd_move ?_
      refine zd_move ?_
      refine dj_l (a_call rfl hv1 rfl rfl rdZ rfl rfl ?_)
      rintro _ rfl
      skip
      refine dj_l (a_call rfl hv2 rfl rfl rdZ rfl rfl ?_)
      rintro _ rfl
      refine zd_build ?_
      focus ((refine' dj_q rfl _ rfl rfl rfl rfl _; rotate_left; (focus (exact q_buildN (out := [int (vtx d c.f t), int (vtx d c.t (t + 1 + c.g)), int c.r, int (i : Int), int t]) rfl rfl rfl rfl rfl))))
      refine ze_buildSlice ?_; rintro _ _ ⟨b, rfl, rfl⟩
      refine dj_l (a_b rfl (l_append (by_ := 40) (s := 5) (news := [int (vtx d c.f t), int (vtx d c.t (t + 1 + c.g)), int c.r, int (i : Int), int t]) rfl rfl rfl rfl rfl rfl rfl hO takeZ (cells_own memZ) rfl (by (repeat (first | exact (fun v hv => absurd hv List.not_mem_nil) | (refine List.forall_mem_cons.2 ⟨?_, ?_⟩; (focus (first | exact rfl | assumption))))); first | done | fail) (by omega) (by simp only [maxLen]; omega) (by omega)) rfl rfl rfl (fun _ _ _ w hw => hw.sel Sel.nil) ?_)
      rintro u1 _ ⟨σ2, hO2, rfl⟩
      refine zb_assign ?_
      refine dj_end ?_
      refine jk_blk ?_
      refine jk_region ?_
      refine zq_move ?_
      refine zq_add ?_
      refine zq_assign ?_
      refine jk_nil ?_
      refine jk_round (t + 1, u1, σ2) ⟨by dsimp only; omega, hin2, ?_⟩ (by dsimp only; omega) covZ selZ
      dsimp only
      rw [hsn, ← List.append_assoc, ← List.append_assoc, List.length_append, List.flatMap_append, List.append_assoc]
      exact hO2
  have hWl := h.waitA_le (m := n) (by omega)
  have hnx : waitA qs hs d (n + 1) = waitA qs hs d n ++ waitN qs hs d n := rfl
  have hQ := List.getElem?_eq_getElem hlt
  obtain ⟨bq, oq, epq, gq⟩ := hT.rq.int hQ
  have hQb := h.quo _ _ hQ
  have hR := fun t : Int => show roomT qs hs d n t = if (n : Int) = d.s ∨ (n : Int) = d.d then 1099511627776 else qs[n] - Step.stored hs n t by
    unfold roomT
    rw [Int.toNat_natCast, List.getD_eq_getElem?_getD, hQ, Option.getD_some]
  generalize qs[n] = Q at hQ gq hQb hR
  generalize waitA qs hs d n = W at hO hWl hnx
  subst epq
  refine jk_seq ?_
  refine jk_seq ?_
  refine jk_region ?_
  refine zq_move ?_
  refine zq_fld0 ?_
  refine zq_fld0 ?_
  refine zq_load ?_
  refine zq_len ?_
  refine zq_lt ?_
  refine jk_nil ?_
  refine jk_if_t rfl ?_
  refine jk_skip ?_
  refine jk_seq ?_
  refine jk_block ?_
  refine jk_seq ?_
  refine jk_region ?_
  refine zq_fld0 ?_
  refine zq_load ?_
  refine zq_assign ?_
  refine jk_nil ?_
  refine jk_block ?_
  refine jk_loop [2, 3, 6] (X := Int × Value × PH) (d.r, u, σo) (fun z => d.r ≤ z.1 ∧ z.1 ≤ d.e ∧ OwnS 92 5 z.2.1 (W ++ waitT qs hs d n z.1).length ((W ++ waitT qs hs d n z.1).flatMap encRA) z.2.2) (fun z => [(7, int z.1), (5, z.2.1)]) (fun z => [z.2.2]) (fun z => (d.e - z.1).toNat) pickZ ⟨by dsimp only; omega, by dsimp only; omega, by dsimp only; rw [waitT_nil, List.append_nil]; exact hO⟩ covZ selZ ?_
  rintro ⟨t, u, σo⟩ ⟨ht1, ht2, hO⟩
  dsimp only at ht1 ht2 hO ⊢
  have htl := waitT_len qs hs d n t
  have htot : (W ++ waitT qs hs d n t).length ≤ 1800 := by rw [List.length_append]; omega
  by_cases hte : t < d.e
  rotate_left
  · have hee : t = d.e := by omega
    subst hee
    refine jk_seq ?_
    refine jk_seq ?_
    refine jk_region ?_
    refine zq_move ?_
    refine zq_fld0 ?_
    refine zq_load ?_
    refine zq_ltF ?_
    refine jk_nil ?_
    refine jk_if_f rfl ?_
    refine jk_exit rfl ?_
    refine jk_blk ?_
    refine jk_region ?_
    refine zq_move ?_
    refine zq_inc ?_
    refine zq_assign ?_
    refine jk_nil ?_
    refine jk_round (n + 1, u, σo) ⟨by dsimp only; omega, ?_⟩ (by dsimp only; omega) covZ selZ
    dsimp only
    rw [hnx, ← waitT_end]
    exact hO
  have hRt := hR t
  have hv1 := refVtx_spec d n t (by omega) (by omega) (by omega)
  have hv2 := refVtx_spec d n (t + 1) (by omega) (by omega) (by omega)
  have hst := stored_spec υ (.slice ph hs.length kh) hs n t qs.length hT.hh h.hd (by have := h.nh; omega)
  have hsb := stored_bd (n := (n : Int)) (t := t) h.hd
  have hnh := h.nh
  by_cases s1 : (n : Int) = d.s
  · rw [if_pos (.inl s1)] at hRt
    refine jk_seq ?_
    refine jk_seq ?_
    refine jk_region ?_
    refine zq_move ?_
    refine zq_fld0 ?_
    refine zq_load ?_
    refine zq_lt ?_
    refine jk_nil ?_
    refine jk_if_t rfl ?_
    refine jk_skip ?_
    refine jk_seq ?_
    refine jk_block ?_
    refine jk_seq ?_
    refine jk_region ?_
    refine zq_assign ?_
    refine jk_nil ?_
    refine jk_seq ?_
    refine jk_seq ?_
    refine jk_region ?_
    refine zq_move ?_
    refine zq_fld0 ?_
    refine zq_load ?_
    refine zq_neF ?_
    refine zq_move ?_
    refine jk_pass rfl rfl rfl ?_
    refine jk_pass rfl rfl rfl ?_
    refine jk_pass rfl rfl rfl ?_
    refine jk_pass rfl rfl rfl ?_
    refine zq_pick_f ?_
    refine jk_nil ?_
    refine jk_if_f rfl ?_
    refine jk_skip ?_
    refine jk_draw (.q 0 (.q 1 (.q 2 (.q 3 (.q 5 (.q 6 (.q 7 (.q 8 (.q 10 (.q 12 (.l 4 .e (.l 9 .e (.q 11 (.q 13 (.l 14 .e (.l 15 .b (.l 16 .b .nil))))))))))))))))) [] rfl (by kernel_rfl) Sel.nil ?_
    refine zd_move ?_
    refine zd_loadS ?_
    refine zd_move ?_
    refine zd_move ?_
    refine zd_loadS ?_
    refine zd_move ?_
    refine zd_move ?_
    refine zd_add ?_
    refine zd_move ?_
    refine zd_move ?_
    refine dj_l (a_call rfl hv1 rfl rfl rdZ rfl rfl ?_)
    rintro _ rfl
    skip
    refine dj_l (a_call rfl hv2 rfl rfl rdZ rfl rfl ?_)
    rintro _ rfl
    refine zd_build ?_
    focus ((refine' dj_q rfl _ rfl rfl rfl rfl _; rotate_left; (focus (exact q_buildN (out := [int (vtx d n t), int (vtx d n (t + 1)), int 1099511627776, int (-1), int t]) rfl rfl rfl rfl rfl))))
    refine ze_buildSlice ?_; rintro _ _ ⟨b, rfl, rfl⟩
    refine dj_l (a_b rfl (l_append (by_ := 40) (s := 5) (news := [int (vtx d n t), int (vtx d n (t + 1)), int 1099511627776, int (-1), int t]) rfl rfl rfl rfl rfl rfl rfl hO takeZ (cells_own memZ) rfl (by (repeat (first | exact (fun v hv => absurd hv List.not_mem_nil) | (refine List.forall_mem_cons.2 ⟨?_, ?_⟩; (focus (first | exact rfl | assumption))))); first | done | fail) (by omega) (by simp only [maxLen]; omega) (by omega)) rfl rfl rfl (fun _ _ _ w hw => hw.sel Sel.nil) ?_)
    rintro u1 _ ⟨σ2, hO2, rfl⟩
    refine zb_assign ?_
    refine dj_end ?_
    refine jk_blk ?_
    refine jk_region ?_
    refine zq_move ?_
    refine zq_add ?_
    refine zq_assign ?_
    refine jk_nil ?_
    refine jk_round (t + 1, u1, σ2) ⟨by dsimp only; omega, by dsimp only; omega, ?_⟩ (by dsimp only; omega) covZ selZ
    dsimp only
    rw [waitT_snoc ht1, hRt, ← List.append_assoc, List.length_append, List.flatMap_append]
    exact hO2
  by_cases s2 : (n : Int) = d.d
  · rw [if_pos (.inr s2)] at hRt
    refine jk_seq ?_
    refine jk_seq ?_
    refine jk_region ?_
    refine zq_move ?_
    refine zq_fld0 ?_
    refine zq_load ?_
    refine zq_lt ?_
    refine jk_nil ?_
    refine jk_if_t rfl ?_
    refine jk_skip ?_
    refine jk_seq ?_
    refine jk_block ?_
    refine jk_seq ?_
    refine jk_region ?_
    refine zq_assign ?_
    refine jk_nil ?_
    refine jk_seq ?_
    refine jk_seq ?_
    refine jk_region ?_
    refine zq_move ?_
    refine zq_fld0 ?_
    refine zq_load ?_
    refine zq_ne ?_
    refine zq_move ?_
    refine zq_move ?_
    refine zq_fld0 ?_
    refine zq_load ?_
    refine zq_neF ?_
    refine zq_pick_t ?_
    refine jk_nil ?_
    refine jk_if_f rfl ?_
    refine jk_skip ?_
    refine jk_draw (.q 0 (.q 1 (.q 2 (.q 3 (.q 5 (.q 6 (.q 7 (.q 8 (.q 10 (.q 12 (.l 4 .e (.l 9 .e (.q 11 (.q 13 (.l 14 .e (.l 15 .b (.l 16 .b .nil))))))))))))))))) [] rfl (by kernel_rfl) Sel.nil ?_
    refine zd_move ?_
    refine zd_loadS ?_
    refine zd_move ?_
    refine zd_move ?_
    refine zd_loadS ?_
    refine zd_move ?_
    refine zd_move ?_
    refine zd_add ?_
    refine zd_move ?_
    refine zd_move ?_
    refine dj_l (a_call rfl hv1 rfl rfl rdZ rfl rfl ?_)
    rintro _ rfl
    skip
    refine dj_l (a_call rfl hv2 rfl rfl rdZ rfl rfl ?_)
    rintro _ rfl
    refine zd_build ?_
    focus ((refine' dj_q rfl _ rfl rfl rfl rfl _; rotate_left; (focus (exact q_buildN (out := [int (vtx d n t), int (vtx d n (t + 1)), int 1099511627776, int (-1), int t]) rfl rfl rfl rfl rfl))))
    refine ze_buildSlice ?_; rintro _ _ ⟨b, rfl, rfl⟩
    refine dj_l (a_b rfl (l_append (by_ := 40) (s := 5) (news := [int (vtx d n t), int (vtx d n (t + 1)), int 1099511627776, int (-1), int t]) rfl rfl rfl rfl rfl rfl rfl hO takeZ (cells_own memZ) rfl (by (repeat (first | exact (fun v hv => absurd hv List.not_mem_nil) | (refine List.forall_mem_cons.2 ⟨?_, ?_⟩; (focus (first | exact rfl | assumption))))); first | done | fail) (by omega) (by simp only [maxLen]; omega) (by omega)) rfl rfl rfl (fun _ _ _ w hw => hw.sel Sel.nil) ?_)
    rintro u1 _ ⟨σ2, hO2, rfl⟩
    refine zb_assign ?_
    refine dj_end ?_
    refine jk_blk ?_
    refine jk_region ?_
    refine zq_move ?_
    refine zq_add ?_
    refine zq_assign ?_
    refine jk_nil ?_
    refine jk_round (t + 1, u1, σ2) ⟨by dsimp only; omega, by dsimp only; omega, ?_⟩ (by dsimp only; omega) covZ selZ
    dsimp only
    rw [waitT_snoc ht1, hRt, ← List.append_assoc, List.length_append, List.flatMap_append]
    exact hO2
  rw [if_neg (by omega)] at hRt
  refine jk_seq ?_
  refine jk_seq ?_
  refine jk_region ?_
  refine zq_move ?_
  refine zq_fld0 ?_
  refine zq_load ?_
  refine zq_lt ?_
  refine jk_nil ?_
  refine jk_if_t rfl ?_
  refine jk_skip ?_
  refine jk_seq ?_
  refine jk_block ?_
  refine jk_seq ?_
  refine jk_region ?_
  refine zq_assign ?_
  refine jk_nil ?_
  refine jk_seq ?_
  refine jk_seq ?_
  refine jk_region ?_
  refine zq_move ?_
  refine zq_fld0 ?_
  refine zq_load ?_
  refine zq_ne ?_
  refine zq_move ?_
  refine zq_move ?_
  refine zq_fld0 ?_
  refine zq_load ?_
  refine zq_ne ?_
  refine zq_pick_t ?_
  refine jk_nil ?_
  refine jk_if_t rfl ?_
  refine jk_draw (.q 0 (.q 1 (.q 2 (.q 3 (.q 4 (.q 5 (.q 6 (.q 7 (.q 8 (.q 9 (.l 10 .e (.q 11 (.q 12 .nil))))))))))))) [] rfl (by kernel_rfl) Sel.nil ?_
  refine zd_fld0 ?_
  refine zd_fld0 ?_
  refine zd_load ?_
  refine zd_move ?_
  refine zd_idx1 ?_
  refine zd_load ?_
  refine zd_fld0 ?_
  refine zd_load ?_
  refine zd_move ?_
  refine zd_move ?_
  refine dj_l (a_call rfl hst rfl rfl rdZ rfl rfl ?_)
  rintro _ rfl
  refine zd_sub ?_
  refine zd_assign ?_
  refine dj_end ?_
  skip
  refine jk_draw (.q 0 (.q 1 (.q 2 (.q 3 (.q 5 (.q 6 (.q 7 (.q 8 (.q 10 (.q 12 (.l 4 .e (.l 9 .e (.q 11 (.q 13 (.l 14 .e (.l 15 .b (.l 16 .b .nil))))))))))))))))) [] rfl (by kernel_rfl) Sel.nil ?_
  refine zd_move ?_
  refine zd_loadS ?_
  refine zd_move ?_
  refine zd_move ?_
  refine zd_loadS ?_
  refine zd_move ?_
  refine zd_move ?_
  refine zd_add ?_
  refine zd_move ?_
  refine zd_move ?_
  refine dj_l (a_call rfl hv1 rfl rfl rdZ rfl rfl ?_)
  rintro _ rfl
  skip
  refine dj_l (a_call rfl hv2 rfl rfl rdZ rfl rfl ?_)
  rintro _ rfl
  refine zd_build ?_
  focus ((refine' dj_q rfl _ rfl rfl rfl rfl _; rotate_left; (focus (exact q_buildN (out := [int (vtx d n t), int (vtx d n (t + 1)), int (Q - Step.stored hs n t), int (-1), int t]) rfl rfl rfl rfl rfl))))
  refine ze_buildSlice ?_; rintro _ _ ⟨b, rfl, rfl⟩
  refine dj_l (a_b rfl (l_append (by_ := 40) (s := 5) (news := [int (vtx d n t), int (vtx d n (t + 1)), int (Q - Step.stored hs n t), int (-1), int t]) rfl rfl rfl rfl rfl rfl rfl hO takeZ (cells_own memZ) rfl (by (repeat (first | exact (fun v hv => absurd hv List.not_mem_nil) | (refine List.forall_mem_cons.2 ⟨?_, ?_⟩; (focus (first | exact rfl | assumption))))); first | done | fail) (by omega) (by simp only [maxLen]; omega) (by omega)) rfl rfl rfl (fun _ _ _ w hw => hw.sel Sel.nil) ?_)
  rintro u1 _ ⟨σ2, hO2, rfl⟩
  refine zb_assign ?_
  refine dj_end ?_
  refine jk_blk ?_
  refine jk_region ?_
  refine zq_move ?_
  refine zq_add ?_
  refine zq_assign ?_
  refine jk_nil ?_
  refine jk_round (t + 1, u1, σ2) ⟨by dsimp only; omega, by dsimp only; omega, ?_⟩ (by dsimp only; omega) covZ selZ
  dsimp only
  rw [waitT_snoc ht1, hRt, ← List.append_assoc, List.length_append, List.flatMap_append]
  exact hO2
end Go.Proofs.YthdoegkjifgegaaGreat
/- The document's network, its vertices and shipments. -/
namespace Go.Proofs.YthdoegkjifgegaaGreat
open Go.Eng Go.Step
set_option maxRecDepth 100000
set_option maxHeartbeats 4000000

theorem RdN.pre {ρ : PH} {b o : Nat} {xs ys : List Value} (h : RdN ρ b o (xs ++ ys)) : RdP ρ b o xs := ⟨fun j v hv => h j v (by
  have hl := (List.getElem?_eq_some_iff.1 hv).1
  rw [List.getElem?_append_left hl]
  exact hv)⟩
theorem rowN {α : Type} {enc : α → List Value} {s : Nat} (he : ∀ x, (enc x).length = s) {ρ : PH} {p : Option Addr} {k : Nat} {l : List α} (h : SlE enc s ρ (.slice p l.length k) l) : RowsE enc s ρ p l := by
  obtain ⟨_, _, e, hr⟩ := h.val he
  simp only [Value.slice.injEq] at e
  obtain ⟨rfl, _, _⟩ := e
  exact hr
set_option maxHeartbeats 32000000 in
theorem refGraph53_spec {ρ τ σ υ : PH} {pq pc pb ph : Option Addr} {kq kc kb kh : Nat} {qs : List Int} {cs : List Ct} {bs : List Bk} {hs : List Hd} (hT : TbAt ρ τ σ υ pq pc pb ph kq kc kb kh qs cs bs hs) (d : Dm) :
    Makes Tryz.prog (fv 11) [.agg #[.slice pq qs.length kq, .slice pc cs.length kc, .slice pb bs.length kb, .slice ph hs.length kh], .agg #[int d.s, int d.d, int d.v, int d.r, int d.e]] [ρ, τ, σ, υ] (fun r χ' => if validT qs cs bs hs d = true then ∃ u, r = .tuple #[.agg #[int (vsN qs d), u, int (vtx d d.s d.r), int (vtx d d.d d.e)], int 0] ∧ OwnS 66 3 u (arcsG qs cs bs hs d).length ((arcsG qs cs bs hs d).flatMap encA) χ' else r = .tuple #[.agg #[int 0, .slice none 0 0, int 0, int 0], int 1] ∧ χ' = emp) := by
  refine spec_in (cap := []) Tryz.func11 rfl rfl Tryz.ntmps11 rfl (by (repeat (first | exact EnvA.nil EnvI.nil | apply EnvA.cons | apply EnvA.nil | exact EnvI.nil | apply EnvI.cons)); first | done | fail) (fun N β => ?_)
  refine jk_seq ?_
  refine jk_region ?_
  refine jk_op (l_boxS rfl) rfl rfl rfl ?_
  rintro _ _ ⟨b1, rfl, rfl⟩
  refine jk_freeze (ρ := sng b1 _) takeZ ?_
  have ct : RdN (sng b1 (.cells #[.slice pq qs.length kq, .slice pc cs.length kc, .slice pb bs.length kb, .slice ph hs.length kh] 29 (0, 0))) b1 0 [.slice pq qs.length kq, .slice pc cs.length kc, .slice pb bs.length kb, .slice ph hs.length kh] := rdN_sng (vs := [.slice pq qs.length kq, .slice pc cs.length kc, .slice pb bs.length kb, .slice ph hs.length kh])
  have ct0 : rdc (sng b1 (.cells #[.slice pq qs.length kq, .slice pc cs.length kc, .slice pb bs.length kb, .slice ph hs.length kh] 29 (0, 0))) b1 0 = some (.slice pq qs.length kq) := by rw [rdc_sng]; rfl
  have ct1 : rdc (sng b1 (.cells #[.slice pq qs.length kq, .slice pc cs.length kc, .slice pb bs.length kb, .slice ph hs.length kh] 29 (0, 0))) b1 1 = some (.slice pc cs.length kc) := by rw [rdc_sng]; rfl
  have ct2 : rdc (sng b1 (.cells #[.slice pq qs.length kq, .slice pc cs.length kc, .slice pb bs.length kb, .slice ph hs.length kh] 29 (0, 0))) b1 2 = some (.slice pb bs.length kb) := by rw [rdc_sng]; rfl
  have ct3 : rdc (sng b1 (.cells #[.slice pq qs.length kq, .slice pc cs.length kc, .slice pb bs.length kb, .slice ph hs.length kh] 29 (0, 0))) b1 3 = some (.slice ph hs.length kh) := by rw [rdc_sng]; rfl
  have ctp : RdP (sng b1 (.cells #[.slice pq qs.length kq, .slice pc cs.length kc, .slice pb bs.length kb, .slice ph hs.length kh] 29 (0, 0))) b1 0 [.slice pq qs.length kq, .slice pc cs.length kc] := rdP_sng (xs := [.slice pq qs.length kq, .slice pc cs.length kc, .slice pb bs.length kb, .slice ph hs.length kh]) rfl
  refine jk_op (l_boxS rfl) rfl rfl rfl ?_
  rintro _ _ ⟨b2, rfl, rfl⟩
  refine jk_freeze (ρ := sng b2 _) takeZ ?_
  have cd : RdN (sng b2 (.cells #[int d.s, int d.d, int d.v, int d.r, int d.e] 31 (0, 0))) b2 0 [int d.s, int d.d, int d.v, int d.r, int d.e] := rdN_sng (vs := [int d.s, int d.d, int d.v, int d.r, int d.e])
  have cd0 : rdc (sng b2 (.cells #[int d.s, int d.d, int d.v, int d.r, int d.e] 31 (0, 0))) b2 0 = some (int d.s) := by rw [rdc_sng]; rfl
  have cd1 : rdc (sng b2 (.cells #[int d.s, int d.d, int d.v, int d.r, int d.e] 31 (0, 0))) b2 1 = some (int d.d) := by rw [rdc_sng]; rfl
  have cd2 : rdc (sng b2 (.cells #[int d.s, int d.d, int d.v, int d.r, int d.e] 31 (0, 0))) b2 2 = some (int d.v) := by rw [rdc_sng]; rfl
  have cd3 : rdc (sng b2 (.cells #[int d.s, int d.d, int d.v, int d.r, int d.e] 31 (0, 0))) b2 3 = some (int d.r) := by rw [rdc_sng]; rfl
  have cd4 : rdc (sng b2 (.cells #[int d.s, int d.d, int d.v, int d.r, int d.e] 31 (0, 0))) b2 4 = some (int d.e) := by rw [rdc_sng]; rfl
  refine jk_emp ?_
  refine zl_allocS ?_; rintro _ _ ⟨b, rfl, rfl⟩
  refine zq_assign ?_
  refine jk_nil ?_
  refine jk_seq ?_
  refine jk_seq ?_
  refine jk_region ?_
  refine zq_loadS ?_
  refine zq_loadS ?_
  revert b; intro b4
  refine jk_call (refCheck53_spec hT d) rfl rfl rdZ rfl rfl ?_
  rintro _ rfl
  cases hv : validT qs cs bs hs d with
  | false =>
    refine zq_not ?_
    refine jk_nil ?_
    refine jk_if_t rfl ?_
    refine jk_seq ?_
    refine jk_region ?_
    refine zq_build ?_
    refine zs_storeS ?_; rintro _ _ ⟨rfl, rfl⟩
    refine zq_assign ?_
    refine jk_nil ?_
    exact jk_ret_any (resSE (b1 := b4) (T := 36) (v1 := [int 0, .slice none 0 0, int 0, int 0]) rfl rfl rfl rfl rfl (cells_own memZ)) (by (repeat (first | exact rs_nil | (refine rs_cons ?_ ?_; (focus ((repeat (first | exact .here | apply Mem.there | apply Take.there)); first | done | fail))) | exact fun ρ hρ => hρ | (intro ρ hρ; repeat (first | exact hρ | refine List.mem_cons_of_mem _ ?_)))); first | done | fail) selZ ⟨emp, by (try dsimp only); rw [if_neg (by simp)]; exact ⟨rfl, rfl⟩, rfl⟩
  | true =>
  have h := vok hv
  have hdm := h.dm
  unfold okDm at hdm
  have hnq := h.nq
  have hvs := h.vs
  have hmul : (qs.length : Int) * (d.e - d.r + 1) = vsN qs d := rfl
  have hv1 := refVtx_spec d d.s d.r (by omega) (by omega) (by omega)
  have hv2 := refVtx_spec d d.d d.e (by omega) (by omega) (by omega)
  have hEl := ea_len qs cs bs hs d h
  have hone : ∀ z n (xs : List Value) (χ : PH), OwnS 66 3 z n xs χ → z.oneCell' = true := fun z n xs χ h => by obtain ⟨_, _, rfl⟩ := h.form; rfl
  refine zq_not ?_
  refine jk_nil ?_
  refine jk_if_f rfl ?_
  refine jk_skip ?_
  refine jk_seq ?_
  refine jk_mid (X := Nat) [2, 3, 4] (fun _ => True) (fun x => [(6, .pointer (some ⟨x, 0, none⟩))]) (fun x => [sng x (.cells #[int (vsN qs d), .slice none 0 0, int (vtx d d.s d.r), int (vtx d d.d d.e)] 36 (0, 0)), sng b4 (.cells #[int 0, .slice none 0 0, int 0, int 0] 36 (0, 0)), emp]) pickZ ?_ ?_
  · refine jk_draw (.q 0 (.q 1 (.q 2 (.q 3 (.q 4 (.q 5 (.q 6 (.q 7 (.q 8 (.q 9 (.q 10 (.q 11 (.q 12 (.q 13 (.q 14 (.q 15 (.q 17 (.q 18 (.q 19 (.q 20 (.q 21 (.l2 16 .e (.l2 22 .e (.q 23 (.l 24 .e (.l 25 .b .nil))) 24 .e (.l 22 .e (.q 23 (.l 25 .b .nil)))) 24 .e (.l 16 .e (.l 22 .e (.q 23 (.l 25 .b .nil)))))))))))))))))))))))))) [] rfl (by kernel_rfl) Sel.nil ?_
    repeat' (first
      | (refine zd_load ?_)
      | (refine zd_fld0 ?_)
      | (refine zd_len ?_)
      | (refine zd_add ?_)
      | (refine zd_sub ?_)
      | (refine zd_mul ?_)
      | (refine zd_loadS ?_)
      | (refine zd_build ?_)
      | (focus ((refine dj_l (a_call rfl hv1 rfl rfl rdZ rfl rfl ?_); rintro _ rfl)))
      | (focus ((refine a_call rfl hv1 rfl rfl rdZ rfl rfl ?_; rintro _ rfl)))
      | (refine dj_end ?_)
      | (refine dj_l2 ?_ ?_)
      | (focus ((refine dj_l (a_call rfl hv2 rfl rfl rdZ rfl rfl ?_); rintro _ rfl)))
      | (focus ((refine a_call rfl hv2 rfl rfl rdZ rfl rfl ?_; rintro _ rfl)))
      | (focus ((refine dj_l ?_; refine' a_bn rfl _ rfl rfl _ _; rotate_left; (focus (apply l_storeS; exact rfl; exact rfl; exact takeZ; exact (by (repeat (first | exact (fun v hv => absurd hv List.not_mem_nil) | (refine List.forall_mem_cons.2 ⟨?_, ?_⟩; (focus (first | exact rfl | assumption))))); first | done | fail); exact rfl; exact rfl)); (focus (rintro _ _ ⟨_, rfl⟩ w hw; exact hw.sel Sel.nil)); rintro _ _ ⟨rfl, rfl⟩)))
      | (refine ze_allocS ?_; rintro _ _ ⟨b, rfl, rfl⟩)
      | (refine zE_allocS ?_; rintro _ _ ⟨b, rfl, rfl⟩)
      | fail)
    all_goals (rw [hmul]; refine jk_meet _ trivial covZ selZ)
  rintro b6 _
  refine jk_seq ?_
  refine jk_region ?_
  refine zq_loadS ?_
  refine zq_loadS ?_
  refine jk_callM (refArcs_spec hT d h) rfl rfl rdZ rfl rfl ?_
  rintro ua χa hOa
  have hSa : SlE encRA 5 χa ua (arcsE qs cs bs hs d) := hOa.at
  obtain ⟨pa, ka, rfl⟩ := hOa.form
  have hra := rowN encRA_len hSa
  refine jk_freeze (ρ := χa) takeZ ?_
  have hAG : arcsG qs cs bs hs d = (arcsE qs cs bs hs d).map (fun x => x.a) := rfl
  rw [hAG]
  generalize arcsE qs cs bs hs d = L at hEl hOa hSa hra
  clear hAG
  refine zq_assign ?_
  refine jk_nil ?_
  refine jk_seq ?_
  refine jk_seq ?_
  refine jk_region ?_
  refine zq_assign ?_
  refine jk_nil ?_
  refine jk_block ?_
  refine jk_loop [2, 3, 4, 6, 7] (X := Nat × Value × PH) (0, .slice none 0 0, emp) (fun z => z.1 ≤ L.length ∧ OwnS 66 3 z.2.1 (L.take z.1).length ((L.take z.1).flatMap (fun e => encA e.a)) z.2.2) (fun z => [(8, int z.1)]) (fun z => [sng b6 (.cells #[int (vsN qs d), z.2.1, int (vtx d d.s d.r), int (vtx d d.d d.e)] 36 (0, 0)), sng b4 (.cells #[int 0, .slice none 0 0, int 0, int 0] 36 (0, 0)), z.2.2]) (fun z => L.length - z.1) pickZ ⟨by dsimp only; omega, OwnS.nil _ _⟩ covZ selZ ?_
  rintro ⟨k, u, σ1⟩ ⟨hk, hO⟩
  dsimp only at hk hO ⊢
  have hu1 := hone _ _ _ _ hO
  by_cases hlt : k < L.length
  rotate_left
  · rw [List.take_of_length_le (by omega)] at hO
    have hO2 : OwnS 66 3 u (L.map (fun x => x.a)).length ((L.map (fun x => x.a)).flatMap encA) σ1 := by
      rw [List.length_map, List.flatMap_map]
      exact hO
    refine jk_seq ?_
    refine jk_seq ?_
    refine jk_region ?_
    refine zq_move ?_
    refine zq_move ?_
    refine zq_len ?_
    refine zq_ltF ?_
    refine jk_nil ?_
    refine jk_if_f rfl ?_
    refine jk_exit rfl ?_
    refine jk_seq ?_
    refine jk_region ?_
    refine zq_loadS ?_
    refine zs_storeS ?_; rintro _ _ ⟨rfl, rfl⟩
    refine zq_assign ?_
    refine jk_nil ?_
    exact jk_ret_any (resSE (b1 := b4) (T := 36) (v1 := [int (vsN qs d), u, int (vtx d d.s d.r), int (vtx d d.d d.e)]) rfl rfl rfl rfl rfl (cells_own memZ)) (by (repeat (first | exact rs_nil | (refine rs_cons ?_ ?_; (focus ((repeat (first | exact .here | apply Mem.there | apply Take.there)); first | done | fail))) | exact fun ρ hρ => hρ | (intro ρ hρ; repeat (first | exact hρ | refine List.mem_cons_of_mem _ ?_)))); first | done | fail) selZ ⟨σ1, by (try dsimp only); rw [if_pos rfl]; exact ⟨u, rfl, hO2⟩, rfl⟩
  have hx := List.getElem?_eq_getElem hlt
  have hti := List.take_succ_eq_append_getElem hlt
  have hil : (L.take k).length ≤ 1000000 := by rw [List.length_take]; omega
  obtain ⟨b7, o7, epa, hrd⟩ := hra k _ hx
  generalize L[k] = x at hx hti hrd
  generalize L.take k = O at hO hti hil
  have px := RdN.pre (xs := [int x.a.f, int x.a.t, int x.a.c]) (ys := [int x.c, int x.t]) hrd
  clear hrd
  subst epa
  refine jk_seq ?_
  refine jk_seq ?_
  refine jk_region ?_
  refine zq_move ?_
  refine zq_move ?_
  refine zq_len ?_
  refine zq_lt ?_
  refine jk_nil ?_
  refine jk_if_t rfl ?_
  refine jk_skip ?_
  refine jk_seq ?_
  refine jk_block ?_
  refine jk_draw (.q 0 (.q 1 (.q 2 (.q 3 (.q 4 (.q 5 (.q 6 (.l 7 .e (.l 8 .b (.q 9 (.l 10 .b .nil))))))))))) [] rfl (by kernel_rfl) Sel.nil ?_
  refine zd_fld0 ?_
  refine zd_load ?_
  refine zd_move ?_
  refine zd_move ?_
  refine zd_idxN ?_
  refine zd_fldZ ?_
  refine zd_loadS ?_
  refine ze_buildSlice ?_; rintro _ _ ⟨b, rfl, rfl⟩
  refine dj_l (a_b rfl (l_append (by_ := 24) (s := 3) (news := [int x.a.f, int x.a.t, int x.a.c]) rfl rfl rfl rfl rfl rfl rfl hO takeZ (cells_own memZ) rfl (by (repeat (first | exact (fun v hv => absurd hv List.not_mem_nil) | (refine List.forall_mem_cons.2 ⟨?_, ?_⟩; (focus (first | exact rfl | assumption))))); first | done | fail) (by omega) (by simp only [maxLen]; omega) (by omega)) rfl rfl rfl (fun _ _ _ w hw => hw.sel Sel.nil) ?_)
  rintro u1 _ ⟨σ2, hO1, rfl⟩
  have hu2 := hone _ _ _ _ hO1
  refine zd_fld0 ?_
  refine zn_storeL ?_; rintro _ _ ⟨rfl, rfl⟩
  refine dj_end ?_
  refine jk_blk ?_
  refine jk_region ?_
  refine zq_move ?_
  refine zq_inc ?_
  refine zq_assign ?_
  refine jk_nil ?_
  refine jk_round (k + 1, u1, σ2) ⟨by dsimp only; omega, ?_⟩ (by dsimp only; omega) covZ selZ
  dsimp only
  rw [hti, List.length_append, List.flatMap_append]
  exact hO1
set_option maxHeartbeats 16000000 in
theorem refVertex_spec {ρ τ σ υ : PH} {pq pc pb ph : Option Addr} {kq kc kb kh : Nat} {qs : List Int} {cs : List Ct} {bs : List Bk} {hs : List Hd} (hT : TbAt ρ τ σ υ pq pc pb ph kq kc kb kh qs cs bs hs) (d : Dm) (n t : Int) :
    Ans Tryz.prog (fv 13) [.agg #[.slice pq qs.length kq, .slice pc cs.length kc, .slice pb bs.length kb, .slice ph hs.length kh], .agg #[int d.s, int d.d, int d.v, int d.r, int d.e], int n, int t] [ρ, τ, σ, υ] (fun r => r = .tuple #[int (vertexR qs cs bs hs d n t).1, int (vertexR qs cs bs hs d n t).2]) := by
  unfold vertexR
  refine spec_in (cap := []) Tryz.func13 rfl rfl Tryz.ntmps13 rfl (by (repeat (first | exact EnvA.nil EnvI.nil | apply EnvA.cons | apply EnvA.nil | exact EnvI.nil | apply EnvI.cons)); first | done | fail) (fun N β => ?_)
  refine jk_seq ?_
  refine jk_region ?_
  refine jk_op (l_boxS rfl) rfl rfl rfl ?_
  rintro _ _ ⟨b1, rfl, rfl⟩
  refine jk_freeze (ρ := sng b1 _) takeZ ?_
  have ct : RdN (sng b1 (.cells #[.slice pq qs.length kq, .slice pc cs.length kc, .slice pb bs.length kb, .slice ph hs.length kh] 29 (0, 0))) b1 0 [.slice pq qs.length kq, .slice pc cs.length kc, .slice pb bs.length kb, .slice ph hs.length kh] := rdN_sng (vs := [.slice pq qs.length kq, .slice pc cs.length kc, .slice pb bs.length kb, .slice ph hs.length kh])
  have ct0 : rdc (sng b1 (.cells #[.slice pq qs.length kq, .slice pc cs.length kc, .slice pb bs.length kb, .slice ph hs.length kh] 29 (0, 0))) b1 0 = some (.slice pq qs.length kq) := by rw [rdc_sng]; rfl
  have ct1 : rdc (sng b1 (.cells #[.slice pq qs.length kq, .slice pc cs.length kc, .slice pb bs.length kb, .slice ph hs.length kh] 29 (0, 0))) b1 1 = some (.slice pc cs.length kc) := by rw [rdc_sng]; rfl
  have ct2 : rdc (sng b1 (.cells #[.slice pq qs.length kq, .slice pc cs.length kc, .slice pb bs.length kb, .slice ph hs.length kh] 29 (0, 0))) b1 2 = some (.slice pb bs.length kb) := by rw [rdc_sng]; rfl
  have ct3 : rdc (sng b1 (.cells #[.slice pq qs.length kq, .slice pc cs.length kc, .slice pb bs.length kb, .slice ph hs.length kh] 29 (0, 0))) b1 3 = some (.slice ph hs.length kh) := by rw [rdc_sng]; rfl
  have ctp : RdP (sng b1 (.cells #[.slice pq qs.length kq, .slice pc cs.length kc, .slice pb bs.length kb, .slice ph hs.length kh] 29 (0, 0))) b1 0 [.slice pq qs.length kq, .slice pc cs.length kc] := rdP_sng (xs := [.slice pq qs.length kq, .slice pc cs.length kc, .slice pb bs.length kb, .slice ph hs.length kh]) rfl
  refine jk_op (l_boxS rfl) rfl rfl rfl ?_
  rintro _ _ ⟨b2, rfl, rfl⟩
  refine jk_freeze (ρ := sng b2 _) takeZ ?_
  have cd : RdN (sng b2 (.cells #[int d.s, int d.d, int d.v, int d.r, int d.e] 31 (0, 0))) b2 0 [int d.s, int d.d, int d.v, int d.r, int d.e] := rdN_sng (vs := [int d.s, int d.d, int d.v, int d.r, int d.e])
  have cd0 : rdc (sng b2 (.cells #[int d.s, int d.d, int d.v, int d.r, int d.e] 31 (0, 0))) b2 0 = some (int d.s) := by rw [rdc_sng]; rfl
  have cd1 : rdc (sng b2 (.cells #[int d.s, int d.d, int d.v, int d.r, int d.e] 31 (0, 0))) b2 1 = some (int d.d) := by rw [rdc_sng]; rfl
  have cd2 : rdc (sng b2 (.cells #[int d.s, int d.d, int d.v, int d.r, int d.e] 31 (0, 0))) b2 2 = some (int d.v) := by rw [rdc_sng]; rfl
  have cd3 : rdc (sng b2 (.cells #[int d.s, int d.d, int d.v, int d.r, int d.e] 31 (0, 0))) b2 3 = some (int d.r) := by rw [rdc_sng]; rfl
  have cd4 : rdc (sng b2 (.cells #[int d.s, int d.d, int d.v, int d.r, int d.e] 31 (0, 0))) b2 4 = some (int d.e) := by rw [rdc_sng]; rfl
  refine zq_assign ?_
  refine zq_assign ?_
  refine jk_nil ?_
  refine jk_seq ?_
  refine jk_seq ?_
  refine jk_region ?_
  refine zq_loadS ?_
  refine zq_loadS ?_
  refine jk_call (refCheck53_spec hT d) rfl rfl rdZ rfl rfl ?_
  rintro _ rfl
  cases hv : validT qs cs bs hs d with
  | false =>
    refine zq_not ?_
    refine jk_nil ?_
    refine jk_if_t rfl ?_
    refine jk_seq ?_
    refine jk_region ?_
    refine zq_assign ?_
    refine zq_assign ?_
    refine jk_nil ?_
    exact jk_ret_any (res2 rfl rfl rfl) (by (repeat (first | exact rs_nil | (refine rs_cons ?_ ?_; (focus ((repeat (first | exact .here | apply Mem.there | apply Take.there)); first | done | fail))) | exact fun ρ hρ => hρ | (intro ρ hρ; repeat (first | exact hρ | refine List.mem_cons_of_mem _ ?_)))); first | done | fail) selZ ⟨rfl, rfl⟩
  | true =>
  have h := vok hv
  have hdm := h.dm
  unfold okDm at hdm
  have hnq := h.nq
  rw [if_pos rfl]
  by_cases c0 : n < 0
  · rw [if_neg (by omega)]
    refine zq_not ?_
    refine jk_nil ?_
    refine jk_if_f rfl ?_
    refine jk_skip ?_
    refine jk_seq ?_
    refine jk_seq ?_
    refine jk_region ?_
    refine zq_move ?_
    refine zq_lt ?_
    refine zq_move ?_
    refine jk_pass rfl rfl rfl ?_
    refine jk_pass rfl rfl rfl ?_
    refine jk_pass rfl rfl rfl ?_
    refine jk_pass rfl rfl rfl ?_
    refine jk_pass rfl rfl rfl ?_
    refine jk_pass rfl rfl rfl ?_
    refine zq_pick_t ?_
    refine zq_move ?_
    refine jk_pass rfl rfl rfl ?_
    refine jk_pass rfl rfl rfl ?_
    refine jk_pass rfl rfl rfl ?_
    refine jk_pass rfl rfl rfl ?_
    refine zq_pick_t ?_
    refine zq_move ?_
    refine jk_pass rfl rfl rfl ?_
    refine jk_pass rfl rfl rfl ?_
    refine jk_pass rfl rfl rfl ?_
    refine jk_pass rfl rfl rfl ?_
    refine zq_pick_t ?_
    refine jk_nil ?_
    refine jk_if_t rfl ?_
    refine jk_seq ?_
    refine jk_region ?_
    refine zq_assign ?_
    refine zq_assign ?_
    refine jk_nil ?_
    exact jk_ret_any (res2 rfl rfl rfl) (by (repeat (first | exact rs_nil | (refine rs_cons ?_ ?_; (focus ((repeat (first | exact .here | apply Mem.there | apply Take.there)); first | done | fail))) | exact fun ρ hρ => hρ | (intro ρ hρ; repeat (first | exact hρ | refine List.mem_cons_of_mem _ ?_)))); first | done | fail) selZ ⟨rfl, rfl⟩
  by_cases c1 : (qs.length : Int) ≤ n
  · rw [if_neg (by omega)]
    refine zq_not ?_
    refine jk_nil ?_
    refine jk_if_f rfl ?_
    refine jk_skip ?_
    refine jk_seq ?_
    refine jk_seq ?_
    refine jk_region ?_
    refine zq_move ?_
    refine zq_ltF ?_
    refine zq_move ?_
    refine zq_move ?_
    refine zq_fld0 ?_
    refine zq_fld0 ?_
    refine zq_load ?_
    refine zq_len ?_
    refine zq_ge ?_
    refine zq_pick_f ?_
    refine zq_move ?_
    refine jk_pass rfl rfl rfl ?_
    refine jk_pass rfl rfl rfl ?_
    refine jk_pass rfl rfl rfl ?_
    refine jk_pass rfl rfl rfl ?_
    refine zq_pick_t ?_
    refine zq_move ?_
    refine jk_pass rfl rfl rfl ?_
    refine jk_pass rfl rfl rfl ?_
    refine jk_pass rfl rfl rfl ?_
    refine jk_pass rfl rfl rfl ?_
    refine zq_pick_t ?_
    refine jk_nil ?_
    refine jk_if_t rfl ?_
    refine jk_seq ?_
    refine jk_region ?_
    refine zq_assign ?_
    refine zq_assign ?_
    refine jk_nil ?_
    exact jk_ret_any (res2 rfl rfl rfl) (by (repeat (first | exact rs_nil | (refine rs_cons ?_ ?_; (focus ((repeat (first | exact .here | apply Mem.there | apply Take.there)); first | done | fail))) | exact fun ρ hρ => hρ | (intro ρ hρ; repeat (first | exact hρ | refine List.mem_cons_of_mem _ ?_)))); first | done | fail) selZ ⟨rfl, rfl⟩
  by_cases c2 : t < d.r
  · rw [if_neg (by omega)]
    refine zq_not ?_
    refine jk_nil ?_
    refine jk_if_f rfl ?_
    refine jk_skip ?_
    refine jk_seq ?_
    refine jk_seq ?_
    refine jk_region ?_
    refine zq_move ?_
    refine zq_ltF ?_
    refine zq_move ?_
    refine zq_move ?_
    refine zq_fld0 ?_
    refine zq_fld0 ?_
    refine zq_load ?_
    refine zq_len ?_
    refine zq_geF ?_
    refine zq_pick_f ?_
    refine zq_move ?_
    refine zq_move ?_
    refine zq_fld0 ?_
    refine zq_load ?_
    refine zq_lt ?_
    refine zq_pick_f ?_
    refine zq_move ?_
    refine jk_pass rfl rfl rfl ?_
    refine jk_pass rfl rfl rfl ?_
    refine jk_pass rfl rfl rfl ?_
    refine jk_pass rfl rfl rfl ?_
    refine zq_pick_t ?_
    refine jk_nil ?_
    refine jk_if_t rfl ?_
    refine jk_seq ?_
    refine jk_region ?_
    refine zq_assign ?_
    refine zq_assign ?_
    refine jk_nil ?_
    exact jk_ret_any (res2 rfl rfl rfl) (by (repeat (first | exact rs_nil | (refine rs_cons ?_ ?_; (focus ((repeat (first | exact .here | apply Mem.there | apply Take.there)); first | done | fail))) | exact fun ρ hρ => hρ | (intro ρ hρ; repeat (first | exact hρ | refine List.mem_cons_of_mem _ ?_)))); first | done | fail) selZ ⟨rfl, rfl⟩
  by_cases c3 : d.e < t
  · rw [if_neg (by omega)]
    refine zq_not ?_
    refine jk_nil ?_
    refine jk_if_f rfl ?_
    refine jk_skip ?_
    refine jk_seq ?_
    refine jk_seq ?_
    refine jk_region ?_
    refine zq_move ?_
    refine zq_ltF ?_
    refine zq_move ?_
    refine zq_move ?_
    refine zq_fld0 ?_
    refine zq_fld0 ?_
    refine zq_load ?_
    refine zq_len ?_
    refine zq_geF ?_
    refine zq_pick_f ?_
    refine zq_move ?_
    refine zq_move ?_
    refine zq_fld0 ?_
    refine zq_load ?_
    refine zq_ltF ?_
    refine zq_pick_f ?_
    refine zq_move ?_
    refine zq_move ?_
    refine zq_fld0 ?_
    refine zq_load ?_
    refine zq_gt ?_
    refine zq_pick_f ?_
    refine jk_nil ?_
    refine jk_if_t rfl ?_
    refine jk_seq ?_
    refine jk_region ?_
    refine zq_assign ?_
    refine zq_assign ?_
    refine jk_nil ?_
    exact jk_ret_any (res2 rfl rfl rfl) (by (repeat (first | exact rs_nil | (refine rs_cons ?_ ?_; (focus ((repeat (first | exact .here | apply Mem.there | apply Take.there)); first | done | fail))) | exact fun ρ hρ => hρ | (intro ρ hρ; repeat (first | exact hρ | refine List.mem_cons_of_mem _ ?_)))); first | done | fail) selZ ⟨rfl, rfl⟩
  rw [if_pos (by omega)]
  have hv1 := refVtx_spec d n t (by omega) (by omega) (by omega)
  refine zq_not ?_
  refine jk_nil ?_
  refine jk_if_f rfl ?_
  refine jk_skip ?_
  refine jk_seq ?_
  refine jk_seq ?_
  refine jk_region ?_
  refine zq_move ?_
  refine zq_ltF ?_
  refine zq_move ?_
  refine zq_move ?_
  refine zq_fld0 ?_
  refine zq_fld0 ?_
  refine zq_load ?_
  refine zq_len ?_
  refine zq_geF ?_
  refine zq_pick_f ?_
  refine zq_move ?_
  refine zq_move ?_
  refine zq_fld0 ?_
  refine zq_load ?_
  refine zq_ltF ?_
  refine zq_pick_f ?_
  refine zq_move ?_
  refine zq_move ?_
  refine zq_fld0 ?_
  refine zq_load ?_
  refine zq_gtF ?_
  refine zq_pick_f ?_
  refine jk_nil ?_
  refine jk_if_f rfl ?_
  refine jk_skip ?_
  refine jk_seq ?_
  refine jk_region ?_
  refine zq_loadS ?_
  refine zq_move ?_
  refine zq_move ?_
  refine jk_call hv1 rfl rfl rdZ rfl rfl ?_
  rintro _ rfl
  refine zq_assign ?_
  refine zq_assign ?_
  refine jk_nil ?_
  exact jk_ret_any (res2 rfl rfl rfl) (by (repeat (first | exact rs_nil | (refine rs_cons ?_ ?_; (focus ((repeat (first | exact .here | apply Mem.there | apply Take.there)); first | done | fail))) | exact fun ρ hρ => hρ | (intro ρ hρ; repeat (first | exact hρ | refine List.mem_cons_of_mem _ ?_)))); first | done | fail) selZ ⟨rfl, rfl⟩
set_option maxHeartbeats 16000000 in
theorem refPlace_spec {ρ τ σ υ : PH} {pq pc pb ph : Option Addr} {kq kc kb kh : Nat} {qs : List Int} {cs : List Ct} {bs : List Bk} {hs : List Hd} (hT : TbAt ρ τ σ υ pq pc pb ph kq kc kb kh qs cs bs hs) (d : Dm) (v : Int) :
    Ans Tryz.prog (fv 15) [.agg #[.slice pq qs.length kq, .slice pc cs.length kc, .slice pb bs.length kb, .slice ph hs.length kh], .agg #[int d.s, int d.d, int d.v, int d.r, int d.e], int v] [ρ, τ, σ, υ] (fun r => r = .tuple #[int (placeR qs cs bs hs d v).1, int (placeR qs cs bs hs d v).2.1, int (placeR qs cs bs hs d v).2.2]) := by
  unfold placeR
  refine spec_in (cap := []) Tryz.func15 rfl rfl Tryz.ntmps15 rfl (by (repeat (first | exact EnvA.nil EnvI.nil | apply EnvA.cons | apply EnvA.nil | exact EnvI.nil | apply EnvI.cons)); first | done | fail) (fun N β => ?_)
  refine jk_seq ?_
  refine jk_region ?_
  refine jk_op (l_boxS rfl) rfl rfl rfl ?_
  rintro _ _ ⟨b1, rfl, rfl⟩
  refine jk_freeze (ρ := sng b1 _) takeZ ?_
  have ct : RdN (sng b1 (.cells #[.slice pq qs.length kq, .slice pc cs.length kc, .slice pb bs.length kb, .slice ph hs.length kh] 29 (0, 0))) b1 0 [.slice pq qs.length kq, .slice pc cs.length kc, .slice pb bs.length kb, .slice ph hs.length kh] := rdN_sng (vs := [.slice pq qs.length kq, .slice pc cs.length kc, .slice pb bs.length kb, .slice ph hs.length kh])
  have ct0 : rdc (sng b1 (.cells #[.slice pq qs.length kq, .slice pc cs.length kc, .slice pb bs.length kb, .slice ph hs.length kh] 29 (0, 0))) b1 0 = some (.slice pq qs.length kq) := by rw [rdc_sng]; rfl
  have ct1 : rdc (sng b1 (.cells #[.slice pq qs.length kq, .slice pc cs.length kc, .slice pb bs.length kb, .slice ph hs.length kh] 29 (0, 0))) b1 1 = some (.slice pc cs.length kc) := by rw [rdc_sng]; rfl
  have ct2 : rdc (sng b1 (.cells #[.slice pq qs.length kq, .slice pc cs.length kc, .slice pb bs.length kb, .slice ph hs.length kh] 29 (0, 0))) b1 2 = some (.slice pb bs.length kb) := by rw [rdc_sng]; rfl
  have ct3 : rdc (sng b1 (.cells #[.slice pq qs.length kq, .slice pc cs.length kc, .slice pb bs.length kb, .slice ph hs.length kh] 29 (0, 0))) b1 3 = some (.slice ph hs.length kh) := by rw [rdc_sng]; rfl
  have ctp : RdP (sng b1 (.cells #[.slice pq qs.length kq, .slice pc cs.length kc, .slice pb bs.length kb, .slice ph hs.length kh] 29 (0, 0))) b1 0 [.slice pq qs.length kq, .slice pc cs.length kc] := rdP_sng (xs := [.slice pq qs.length kq, .slice pc cs.length kc, .slice pb bs.length kb, .slice ph hs.length kh]) rfl
  refine jk_op (l_boxS rfl) rfl rfl rfl ?_
  rintro _ _ ⟨b2, rfl, rfl⟩
  refine jk_freeze (ρ := sng b2 _) takeZ ?_
  have cd : RdN (sng b2 (.cells #[int d.s, int d.d, int d.v, int d.r, int d.e] 31 (0, 0))) b2 0 [int d.s, int d.d, int d.v, int d.r, int d.e] := rdN_sng (vs := [int d.s, int d.d, int d.v, int d.r, int d.e])
  have cd0 : rdc (sng b2 (.cells #[int d.s, int d.d, int d.v, int d.r, int d.e] 31 (0, 0))) b2 0 = some (int d.s) := by rw [rdc_sng]; rfl
  have cd1 : rdc (sng b2 (.cells #[int d.s, int d.d, int d.v, int d.r, int d.e] 31 (0, 0))) b2 1 = some (int d.d) := by rw [rdc_sng]; rfl
  have cd2 : rdc (sng b2 (.cells #[int d.s, int d.d, int d.v, int d.r, int d.e] 31 (0, 0))) b2 2 = some (int d.v) := by rw [rdc_sng]; rfl
  have cd3 : rdc (sng b2 (.cells #[int d.s, int d.d, int d.v, int d.r, int d.e] 31 (0, 0))) b2 3 = some (int d.r) := by rw [rdc_sng]; rfl
  have cd4 : rdc (sng b2 (.cells #[int d.s, int d.d, int d.v, int d.r, int d.e] 31 (0, 0))) b2 4 = some (int d.e) := by rw [rdc_sng]; rfl
  refine zq_assign ?_
  refine zq_assign ?_
  refine zq_assign ?_
  refine jk_nil ?_
  refine jk_seq ?_
  refine jk_seq ?_
  refine jk_region ?_
  refine zq_loadS ?_
  refine zq_loadS ?_
  refine jk_call (refCheck53_spec hT d) rfl rfl rdZ rfl rfl ?_
  rintro _ rfl
  cases hv : validT qs cs bs hs d with
  | false =>
    refine zq_not ?_
    refine jk_nil ?_
    refine jk_if_t rfl ?_
    refine jk_seq ?_
    refine jk_region ?_
    refine zq_assign ?_
    refine zq_assign ?_
    refine zq_assign ?_
    refine jk_nil ?_
    exact jk_ret_any (res3 rfl rfl rfl rfl) (by (repeat (first | exact rs_nil | (refine rs_cons ?_ ?_; (focus ((repeat (first | exact .here | apply Mem.there | apply Take.there)); first | done | fail))) | exact fun ρ hρ => hρ | (intro ρ hρ; repeat (first | exact hρ | refine List.mem_cons_of_mem _ ?_)))); first | done | fail) selZ ⟨rfl, rfl⟩
  | true =>
  have h := vok hv
  have hdm := h.dm
  unfold okDm at hdm
  have hnq := h.nq
  have hvs := h.vs
  have hmul : (d.e - d.r + 1) * (qs.length : Int) = vsN qs d := Int.mul_comm _ _
  rw [if_pos rfl]
  by_cases c1 : v < 0
  · rw [if_neg (by omega)]
    refine zq_not ?_
    refine jk_nil ?_
    refine jk_if_f rfl ?_
    refine jk_skip ?_
    refine jk_seq ?_
    refine jk_region ?_
    refine zq_fld0 ?_
    refine zq_load ?_
    refine zq_fld0 ?_
    refine zq_load ?_
    refine zq_sub ?_
    refine zq_add ?_
    refine zq_assign ?_
    refine jk_nil ?_
    refine jk_seq ?_
    refine jk_seq ?_
    refine jk_region ?_
    refine zq_move ?_
    refine zq_lt ?_
    refine zq_move ?_
    refine jk_pass rfl rfl rfl ?_
    refine jk_pass rfl rfl rfl ?_
    refine jk_pass rfl rfl rfl ?_
    refine jk_pass rfl rfl rfl ?_
    refine jk_pass rfl rfl rfl ?_
    refine jk_pass rfl rfl rfl ?_
    refine jk_pass rfl rfl rfl ?_
    refine jk_pass rfl rfl rfl ?_
    refine zq_pick_t ?_
    refine jk_nil ?_
    refine jk_if_t rfl ?_
    refine jk_seq ?_
    refine jk_region ?_
    refine zq_assign ?_
    refine zq_assign ?_
    refine zq_assign ?_
    refine jk_nil ?_
    exact jk_ret_any (res3 rfl rfl rfl rfl) (by (repeat (first | exact rs_nil | (refine rs_cons ?_ ?_; (focus ((repeat (first | exact .here | apply Mem.there | apply Take.there)); first | done | fail))) | exact fun ρ hρ => hρ | (intro ρ hρ; repeat (first | exact hρ | refine List.mem_cons_of_mem _ ?_)))); first | done | fail) selZ ⟨rfl, rfl⟩
  by_cases c2 : vsN qs d ≤ v
  · rw [if_neg (by omega)]
    refine zq_not ?_
    refine jk_nil ?_
    refine jk_if_f rfl ?_
    refine jk_skip ?_
    refine jk_seq ?_
    refine jk_region ?_
    refine zq_fld0 ?_
    refine zq_load ?_
    refine zq_fld0 ?_
    refine zq_load ?_
    refine zq_sub ?_
    refine zq_add ?_
    refine zq_assign ?_
    refine jk_nil ?_
    refine jk_seq ?_
    refine jk_seq ?_
    refine jk_region ?_
    refine zq_move ?_
    refine zq_ltF ?_
    refine zq_move ?_
    refine zq_move ?_
    refine zq_move ?_
    refine zq_fld0 ?_
    refine zq_fld0 ?_
    refine zq_load ?_
    refine zq_len ?_
    refine zq_mul ?_
    refine zq_ge ?_
    refine zq_pick_f ?_
    refine jk_nil ?_
    refine jk_if_t rfl ?_
    refine jk_seq ?_
    refine jk_region ?_
    refine zq_assign ?_
    refine zq_assign ?_
    refine zq_assign ?_
    refine jk_nil ?_
    exact jk_ret_any (res3 rfl rfl rfl rfl) (by (repeat (first | exact rs_nil | (refine rs_cons ?_ ?_; (focus ((repeat (first | exact .here | apply Mem.there | apply Take.there)); first | done | fail))) | exact fun ρ hρ => hρ | (intro ρ hρ; repeat (first | exact hρ | refine List.mem_cons_of_mem _ ?_)))); first | done | fail) selZ ⟨rfl, rfl⟩
  rw [if_pos (by omega)]
  have hm0 := Int.emod_nonneg v (show d.e - d.r + 1 ≠ 0 by omega)
  have hm1 := Int.emod_lt_of_pos v (show 0 < d.e - d.r + 1 by omega)
  refine zq_not ?_
  refine jk_nil ?_
  refine jk_if_f rfl ?_
  refine jk_skip ?_
  refine jk_seq ?_
  refine jk_region ?_
  refine zq_fld0 ?_
  refine zq_load ?_
  refine zq_fld0 ?_
  refine zq_load ?_
  refine zq_sub ?_
  refine zq_add ?_
  refine zq_assign ?_
  refine jk_nil ?_
  refine jk_seq ?_
  refine jk_seq ?_
  refine jk_region ?_
  refine zq_move ?_
  refine zq_ltF ?_
  refine zq_move ?_
  refine zq_move ?_
  refine zq_move ?_
  refine zq_fld0 ?_
  refine zq_fld0 ?_
  refine zq_load ?_
  refine zq_len ?_
  refine zq_mul ?_
  refine zq_geF ?_
  refine zq_pick_f ?_
  refine jk_nil ?_
  refine jk_if_f rfl ?_
  refine jk_skip ?_
  refine jk_seq ?_
  refine jk_draw (.q 0 (.q 1 (.q 2 (.q 3 (.q 4 (.q 5 (.q 6 (.q 7 (.q 8 (.q 9 (.q 10 (.q 11 .nil)))))))))))) [] rfl (by kernel_rfl) Sel.nil ?_
  refine zd_move ?_
  refine zd_move ?_
  refine zd_quo ?_
  refine zd_fld0 ?_
  refine zd_load ?_
  refine zd_move ?_
  refine zd_move ?_
  refine zd_rem ?_
  refine zd_add ?_
  refine zd_assign ?_
  refine zd_assign ?_
  refine zd_assign ?_
  refine dj_end ?_
  skip
  exact jk_ret_any (res3 rfl rfl rfl rfl) (by (repeat (first | exact rs_nil | (refine rs_cons ?_ ?_; (focus ((repeat (first | exact .here | apply Mem.there | apply Take.there)); first | done | fail))) | exact fun ρ hρ => hρ | (intro ρ hρ; repeat (first | exact hρ | refine List.mem_cons_of_mem _ ?_)))); first | done | fail) selZ ⟨rfl, rfl⟩
set_option maxHeartbeats 16000000 in
theorem sameNet_spec (ρ τ : PH) (p p' : Option Addr) (kk kk' : Nat) (m s t : Int) (l : List Arc) (hv : ArcsAt ρ (.slice p l.length kk) l) (hw : ArcsAt τ (.slice p' l.length kk') l) (hl : l.length ≤ 1000000) :
    Ans Tryz.prog (fv 16) [.agg #[int m, .slice p l.length kk, int s, int t], .agg #[int m, .slice p' l.length kk', int s, int t]] [ρ, τ] (fun r => r = .bool true) := by
  have hr := rowN encA_len hv
  have hr' := rowN encA_len hw
  refine spec_in (cap := []) Tryz.func16 rfl rfl Tryz.ntmps16 rfl (by (repeat (first | exact EnvA.nil EnvI.nil | apply EnvA.cons | apply EnvA.nil | exact EnvI.nil | apply EnvI.cons)); first | done | fail) (fun N β => ?_)
  refine jk_seq ?_
  refine jk_region ?_
  refine jk_op (l_boxS rfl) rfl rfl rfl ?_
  rintro _ _ ⟨b3, rfl, rfl⟩
  refine jk_freeze (ρ := sng b3 _) takeZ ?_
  have ca : RdN (sng b3 (.cells #[int m, .slice p l.length kk, int s, int t] 36 (0, 0))) b3 0 [int m, .slice p l.length kk, int s, int t] := rdN_sng (vs := [int m, .slice p l.length kk, int s, int t])
  have ca0 : rdc (sng b3 (.cells #[int m, .slice p l.length kk, int s, int t] 36 (0, 0))) b3 0 = some (int m) := by rw [rdc_sng]; rfl
  have ca1 : rdc (sng b3 (.cells #[int m, .slice p l.length kk, int s, int t] 36 (0, 0))) b3 1 = some (.slice p l.length kk) := by rw [rdc_sng]; rfl
  have ca2 : rdc (sng b3 (.cells #[int m, .slice p l.length kk, int s, int t] 36 (0, 0))) b3 2 = some (int s) := by rw [rdc_sng]; rfl
  have ca3 : rdc (sng b3 (.cells #[int m, .slice p l.length kk, int s, int t] 36 (0, 0))) b3 3 = some (int t) := by rw [rdc_sng]; rfl
  refine jk_op (l_boxS rfl) rfl rfl rfl ?_
  rintro _ _ ⟨b4, rfl, rfl⟩
  refine jk_freeze (ρ := sng b4 _) takeZ ?_
  have cb : RdN (sng b4 (.cells #[int m, .slice p' l.length kk', int s, int t] 36 (0, 0))) b4 0 [int m, .slice p' l.length kk', int s, int t] := rdN_sng (vs := [int m, .slice p' l.length kk', int s, int t])
  have cb0 : rdc (sng b4 (.cells #[int m, .slice p' l.length kk', int s, int t] 36 (0, 0))) b4 0 = some (int m) := by rw [rdc_sng]; rfl
  have cb1 : rdc (sng b4 (.cells #[int m, .slice p' l.length kk', int s, int t] 36 (0, 0))) b4 1 = some (.slice p' l.length kk') := by rw [rdc_sng]; rfl
  have cb2 : rdc (sng b4 (.cells #[int m, .slice p' l.length kk', int s, int t] 36 (0, 0))) b4 2 = some (int s) := by rw [rdc_sng]; rfl
  have cb3 : rdc (sng b4 (.cells #[int m, .slice p' l.length kk', int s, int t] 36 (0, 0))) b4 3 = some (int t) := by rw [rdc_sng]; rfl
  refine zq_assign ?_
  refine jk_nil ?_
  refine jk_seq ?_
  refine jk_seq ?_
  refine jk_region ?_
  refine zq_fld0 ?_
  refine zq_load ?_
  refine zq_fld0 ?_
  refine zq_load ?_
  refine zq_neF ?_
  refine zq_move ?_
  refine zq_fld0 ?_
  refine zq_load ?_
  refine zq_fld0 ?_
  refine zq_load ?_
  refine zq_neF ?_
  refine zq_pick_f ?_
  refine zq_move ?_
  refine zq_fld0 ?_
  refine zq_load ?_
  refine zq_fld0 ?_
  refine zq_load ?_
  refine zq_neF ?_
  refine zq_pick_f ?_
  refine zq_move ?_
  refine zq_fld0 ?_
  refine zq_load ?_
  refine zq_len ?_
  refine zq_fld0 ?_
  refine zq_load ?_
  refine zq_len ?_
  refine zq_neF ?_
  refine zq_pick_f ?_
  refine jk_nil ?_
  refine jk_if_f rfl ?_
  refine jk_skip ?_
  refine jk_seq ?_
  refine jk_seq ?_
  refine jk_region ?_
  refine zq_assign ?_
  refine jk_nil ?_
  refine jk_block ?_
  refine jk_loop [2, 3] (0 : Nat) (fun k => k ≤ l.length) (fun k => [(5, int k)]) (fun _ => []) (fun k => l.length - k) pickZ (by omega) covZ selZ ?_
  rintro k hk
  by_cases hlt : k < l.length
  · have hx := List.getElem?_eq_getElem hlt
    obtain ⟨b1, o1, rfl, hRd1⟩ := hr k _ hx
    obtain ⟨b2, o2, rfl, hRd2⟩ := hr' k _ hx
    generalize l[k] = x at hRd1 hRd2 hx
    refine jk_seq ?_
    refine jk_seq ?_
    refine jk_region ?_
    refine zq_move ?_
    refine zq_fld0 ?_
    refine zq_load ?_
    refine zq_len ?_
    refine zq_lt ?_
    refine jk_nil ?_
    refine jk_if_t rfl ?_
    refine jk_skip ?_
    refine jk_seq ?_
    refine jk_block ?_
    refine jk_seq ?_
    refine jk_draw (.q 0 (.q 1 (.q 2 (.q 3 (.q 4 (.q 5 (.q 6 (.q 7 (.q 8 (.q 9 (.q 10 .nil))))))))))) [] rfl (by kernel_rfl) Sel.nil ?_
    refine zd_fld0 ?_
    refine zd_load ?_
    refine zd_move ?_
    refine zd_idxN ?_
    refine zd_loadS ?_
    refine zd_fld0 ?_
    refine zd_load ?_
    refine zd_move ?_
    refine zd_idxN ?_
    refine zd_loadS ?_
    focus ((refine' dj_q rfl _ rfl rfl rfl rfl _; rotate_left; (apply q_neS [x.f, x.t, x.c] [x.f, x.t, x.c] (n := 3); exact rfl; exact rfl; kernel_rfl; kernel_rfl; kernel_rfl; exact rfl; exact rfl)))
    refine dj_end ?_
    rw [show (!decide ([x.f, x.t, x.c] = [x.f, x.t, x.c])) = false by simp]
    skip
    refine jk_if_f rfl ?_
    refine jk_skip ?_
    refine jk_blk ?_
    refine jk_region ?_
    refine zq_move ?_
    refine zq_inc ?_
    refine zq_assign ?_
    refine jk_nil ?_
    exact jk_round (k + 1) (by omega) (by omega) covZ selZ
  · refine jk_seq ?_
    refine jk_seq ?_
    refine jk_region ?_
    refine zq_move ?_
    refine zq_fld0 ?_
    refine zq_load ?_
    refine zq_len ?_
    refine zq_ltF ?_
    refine jk_nil ?_
    refine jk_if_f rfl ?_
    refine jk_exit rfl ?_
    refine jk_seq ?_
    refine jk_region ?_
    refine zq_assign ?_
    refine jk_nil ?_
    exact jk_ret_any (res1 rfl rfl) (by (repeat (first | exact rs_nil | (refine rs_cons ?_ ?_; (focus ((repeat (first | exact .here | apply Mem.there | apply Take.there)); first | done | fail))) | exact fun ρ hρ => hρ | (intro ρ hρ; repeat (first | exact hρ | refine List.mem_cons_of_mem _ ?_)))); first | done | fail) selZ ⟨rfl, rfl⟩
end Go.Proofs.YthdoegkjifgegaaGreat
/- Distances found level by level, over all links again and again; the first link that leads nearer; what is reached by n rounds. No program in sight. No conditions. -/
namespace Go.Flow
/-- in the round d: the links of pre were looked at -/
structure LInv (n t : Nat) (E : Lk → Prop) (D : List Int) (d : Nat) (pre : List Lk) : Prop where
  len : D.length = n
  low : ∀ v, v < n → -1 ≤ D.getD v 0
  hi : ∀ v, v < n → D.getD v 0 ≤ (d : Int) + 1
  at0 : D.getD t 0 = 0
  zero : ∀ v, v < n → D.getD v 0 = 0 → v = t
  step : ∀ v, v < n → 0 < D.getD v 0 → ∃ x, E x ∧ x.f = v ∧ D.getD x.t 0 = D.getD v 0 - 1
  old : ∀ x, E x → 0 ≤ D.getD x.t 0 → D.getD x.t 0 < (d : Int) → 0 ≤ D.getD x.f 0 ∧ D.getD x.f 0 ≤ D.getD x.t 0 + 1
  pre0 : ∀ x ∈ pre, E x → D.getD x.t 0 = (d : Int) → 0 ≤ D.getD x.f 0
section
variable {n t : Nat} {E : Lk → Prop} {D : List Int} {d : Nat}
theorem LInv.start (ht : t < n) : LInv n t E ((List.replicate n (-1)).set t 0) 0 [] ∧ ∀ v, v < n → ((List.replicate n (-1 : Int)).set t 0).getD v 0 ≤ ((0 : Nat) : Int) := by
  have hg : ∀ v, v < n → ((List.replicate n (-1 : Int)).set t 0).getD v 0 = if t = v then 0 else -1 := fun v hv => by
    rw [getD_set (by simpa using ht)]
    split
    · rfl
    · exact getD_rep hv _
  have hlt : ∀ v, v < n → ((List.replicate n (-1 : Int)).set t 0).getD v 0 ≤ 0 := fun v hv => by rw [hg v hv]; split <;> omega
  refine ⟨⟨by simp, fun v hv => by rw [hg v hv]; split <;> omega, fun v hv => by have := hlt v hv; omega, by rw [hg t ht]; simp, fun v hv h => ?_, fun v hv h => by have := hlt v hv; omega, fun x _ h1 h2 => by omega, by simp⟩, hlt⟩
  rw [hg v hv] at h
  split at h
  · rename_i e; exact e.symm
  · omega
/-- a link that tells nothing new -/
theorem LInv.skip {pre : List Lk} {x : Lk} (h : LInv n t E D d pre) (hx : E x → D.getD x.t 0 = (d : Int) → 0 ≤ D.getD x.f 0) : LInv n t E D d (pre ++ [x]) :=
  ⟨h.len, h.low, h.hi, h.at0, h.zero, h.step, h.old, fun y hy => by
    rcases List.mem_append.1 hy with hy | hy
    · exact h.pre0 y hy
    · rw [List.mem_singleton.1 hy]; exact hx⟩
/-- the round's end -/
theorem LInv.next {ls : List Lk} {pre : List Lk} (hsub : ∀ x, E x → x ∈ ls) (hE : ∀ x, E x → x.f < n ∧ x.t < n) (hp : ∀ x ∈ ls, x ∈ pre) (h : LInv n t E D d pre) : LInv n t E D (d + 1) [] :=
  ⟨h.len, h.low, fun v hv => by have := h.hi v hv; omega, h.at0, h.zero, h.step, fun x hx h1 h2 => by
    by_cases e : D.getD x.t 0 = (d : Int)
    · have := h.pre0 x (hp x (hsub x hx)) hx e
      have := h.hi x.f (hE x hx).1
      omega
    · exact h.old x hx h1 (by omega), by simp⟩
theorem LInv.dist (hE : ∀ x, E x → x.f < n ∧ x.t < n) (h : LInv n t E D (d + 1) []) (hno : ∀ v, v < n → D.getD v 0 ≤ (d : Int)) : IsDist n t E D :=
  ⟨h.len, h.low, h.at0, h.zero, fun x hx h1 => h.old x hx h1 (by have := hno x.t (hE x hx).2; omega), h.step⟩
end
/-- after r rounds: all that can be reached by r links is marked -/
inductive RchN (E : Lk → Prop) (s : Nat) : Nat → Nat → Prop
  | refl {k : Nat} : RchN E s k s
  | step {k : Nat} {x : Lk} : RchN E s k x.f → E x → RchN E s (k + 1) x.t
theorem RchN.mono {E : Lk → Prop} {s k m v : Nat} (h : RchN E s k v) (hk : k ≤ m) : RchN E s m v := by
  induction h generalizing m with
  | refl => exact .refl
  | step _ hx ih =>
    obtain ⟨m', rfl⟩ : ∃ m', m = m' + 1 := ⟨m - 1, by omega⟩
    exact .step (ih (by omega)) hx
structure KInv (n s : Nat) (E : Lk → Prop) (B : List Bool) (r : Nat) (pre : List Lk) : Prop where
  len : B.length = n
  snd : ∀ v, v < n → bget B v = true → Rch E s v
  cmp : ∀ v, v < n → RchN E s r v → bget B v = true
  pre0 : ∀ x ∈ pre, E x → RchN E s r x.f → bget B x.t = true
section
variable {n s : Nat} {E : Lk → Prop} {B : List Bool} {r : Nat}
theorem KInv.start (hs : s < n) : KInv n s E ((List.replicate n false).set s true) 0 [] := by
  have hl : s < (List.replicate n false).length := by simpa using hs
  refine ⟨by simp, fun v _ h => ?_, fun v hv h => ?_, by simp⟩
  · rw [bget_set hl, bget_rep] at h
    split at h
    · rename_i e; rw [← e]; exact .refl
    · simp at h
  · cases h with
    | refl => rw [bget_set hl]; simp
theorem KInv.skip {pre : List Lk} {x : Lk} (h : KInv n s E B r pre) (hx : E x → bget B x.f = false) (hE : ∀ x, E x → x.f < n ∧ x.t < n) : KInv n s E B r (pre ++ [x]) :=
  ⟨h.len, h.snd, h.cmp, fun y hy hyE hr => by
    rcases List.mem_append.1 hy with hy | hy
    · exact h.pre0 y hy hyE hr
    · rw [List.mem_singleton.1 hy] at hyE hr ⊢
      have := h.cmp x.f (hE x hyE).1 hr
      rw [hx hyE] at this; simp at this⟩
theorem KInv.next {ls pre : List Lk} (hsub : ∀ x, E x → x ∈ ls) (hp : ∀ x ∈ ls, x ∈ pre) (hs : s < n) (h : KInv n s E B r pre) : KInv n s E B (r + 1) [] :=
  ⟨h.len, h.snd, fun v hv hr => by
    cases hr with
    | refl => exact h.cmp s hs .refl
    | @step _ x hr hx => exact h.pre0 x (hp x (hsub x hx)) hx hr, by simp⟩
end
end Go.Flow
/- The example of the chapter; the laws on maximum flows, cuts and paths, in plain words. No program in sight. No conditions. -/
namespace Go.Flow
/-! ### the laws -/
section
variable {n s t : Int} {l : List Arc}
end
end Go.Flow
/- Searches in slices of numbers; the example of the chapter. -/
namespace Go.Proofs.YthdoegkjifgegaaGreat
open Go.Eng Go.Flow
set_option maxRecDepth 100000
set_option maxHeartbeats 4000000

end Go.Proofs.YthdoegkjifgegaaGreat
/- How many ticks a set has; the sets of a set of vertices have as many as it has. No program in sight. No conditions. -/
namespace Go.Step
open Go.Flow (sideChk capacitySpec)
variable {qs : List Int} {cs : List Ct} {bs : List Bk} {hs : List Hd} {d : Dm}
end Go.Step
/- The document's cuts. -/
namespace Go.Proofs.YthdoegkjifgegaaGreat
open Go.Eng Go.Step
set_option maxRecDepth 100000
set_option maxHeartbeats 4000000

end Go.Proofs.YthdoegkjifgegaaGreat
/- Laws Graph and Sides. -/
namespace Go.Proofs.YthdoegkjifgegaaGreat
open Go.Eng Go.Step
set_option maxRecDepth 100000
set_option maxHeartbeats 4000000

set_option maxHeartbeats 64000000 in
theorem graph_law {ρ τ σ υ : PH} {pq pc pb ph : Option Addr} {kq kc kb kh : Nat} {qs : List Int} {cs : List Ct} {bs : List Bk} {hs : List Hd} (hT : TbAt ρ τ σ υ pq pc pb ph kq kc kb kh qs cs bs hs) (d : Dm) (n t v : Int) :
    Ans Tryz.prog (fv 3) [.agg #[.slice pq qs.length kq, .slice pc cs.length kc, .slice pb bs.length kb, .slice ph hs.length kh], .agg #[int d.s, int d.d, int d.v, int d.r, int d.e], int n, int t, int v] [ρ, τ, σ, υ] (fun r => r = .bool true) := by
  have hgr := great53_spec pq pc pb ph kq kc kb kh qs.length cs.length bs.length hs.length d
  have hG := Graph_spec hT d
  have hG' := refGraph53_spec hT d
  have hV := Vertex_spec hT d n t
  have hV' := refVertex_spec hT d n t
  have hP := Place_spec hT d v
  have hP' := refPlace_spec hT d v
  generalize vertexR qs cs bs hs d n t = x at hV hV'
  generalize placeR qs cs bs hs d v = y at hP hP'
  obtain ⟨x1, x2⟩ := x
  obtain ⟨y1, y2, y3⟩ := y
  dsimp only at hV hV' hP hP'
  refine spec_in (cap := []) Tryz.func3 rfl rfl Tryz.ntmps3 rfl (by (repeat (first | exact EnvA.nil EnvI.nil | apply EnvA.cons | apply EnvA.nil | exact EnvI.nil | apply EnvI.cons)); first | done | fail) (fun N β => ?_)
  refine jk_seq ?_
  refine jk_region ?_
  refine jk_op (l_boxS rfl) rfl rfl rfl ?_
  rintro _ _ ⟨b1, rfl, rfl⟩
  refine jk_freeze (ρ := sng b1 _) takeZ ?_
  have ct : RdN (sng b1 (.cells #[.slice pq qs.length kq, .slice pc cs.length kc, .slice pb bs.length kb, .slice ph hs.length kh] 29 (0, 0))) b1 0 [.slice pq qs.length kq, .slice pc cs.length kc, .slice pb bs.length kb, .slice ph hs.length kh] := rdN_sng (vs := [.slice pq qs.length kq, .slice pc cs.length kc, .slice pb bs.length kb, .slice ph hs.length kh])
  have ct0 : rdc (sng b1 (.cells #[.slice pq qs.length kq, .slice pc cs.length kc, .slice pb bs.length kb, .slice ph hs.length kh] 29 (0, 0))) b1 0 = some (.slice pq qs.length kq) := by rw [rdc_sng]; rfl
  have ct1 : rdc (sng b1 (.cells #[.slice pq qs.length kq, .slice pc cs.length kc, .slice pb bs.length kb, .slice ph hs.length kh] 29 (0, 0))) b1 1 = some (.slice pc cs.length kc) := by rw [rdc_sng]; rfl
  have ct2 : rdc (sng b1 (.cells #[.slice pq qs.length kq, .slice pc cs.length kc, .slice pb bs.length kb, .slice ph hs.length kh] 29 (0, 0))) b1 2 = some (.slice pb bs.length kb) := by rw [rdc_sng]; rfl
  have ct3 : rdc (sng b1 (.cells #[.slice pq qs.length kq, .slice pc cs.length kc, .slice pb bs.length kb, .slice ph hs.length kh] 29 (0, 0))) b1 3 = some (.slice ph hs.length kh) := by rw [rdc_sng]; rfl
  have ctp : RdP (sng b1 (.cells #[.slice pq qs.length kq, .slice pc cs.length kc, .slice pb bs.length kb, .slice ph hs.length kh] 29 (0, 0))) b1 0 [.slice pq qs.length kq, .slice pc cs.length kc] := rdP_sng (xs := [.slice pq qs.length kq, .slice pc cs.length kc, .slice pb bs.length kb, .slice ph hs.length kh]) rfl
  refine jk_op (l_boxS rfl) rfl rfl rfl ?_
  rintro _ _ ⟨b2, rfl, rfl⟩
  refine jk_freeze (ρ := sng b2 _) takeZ ?_
  have cd : RdN (sng b2 (.cells #[int d.s, int d.d, int d.v, int d.r, int d.e] 31 (0, 0))) b2 0 [int d.s, int d.d, int d.v, int d.r, int d.e] := rdN_sng (vs := [int d.s, int d.d, int d.v, int d.r, int d.e])
  have cd0 : rdc (sng b2 (.cells #[int d.s, int d.d, int d.v, int d.r, int d.e] 31 (0, 0))) b2 0 = some (int d.s) := by rw [rdc_sng]; rfl
  have cd1 : rdc (sng b2 (.cells #[int d.s, int d.d, int d.v, int d.r, int d.e] 31 (0, 0))) b2 1 = some (int d.d) := by rw [rdc_sng]; rfl
  have cd2 : rdc (sng b2 (.cells #[int d.s, int d.d, int d.v, int d.r, int d.e] 31 (0, 0))) b2 2 = some (int d.v) := by rw [rdc_sng]; rfl
  have cd3 : rdc (sng b2 (.cells #[int d.s, int d.d, int d.v, int d.r, int d.e] 31 (0, 0))) b2 3 = some (int d.r) := by rw [rdc_sng]; rfl
  have cd4 : rdc (sng b2 (.cells #[int d.s, int d.d, int d.v, int d.r, int d.e] 31 (0, 0))) b2 4 = some (int d.e) := by rw [rdc_sng]; rfl
  refine jk_emp ?_
  refine jk_freeze (ρ := emp) takeZ ?_
  refine zq_assign ?_
  refine jk_nil ?_
  refine jk_seq ?_
  refine jk_seq ?_
  refine jk_region ?_
  refine zq_loadS ?_
  refine zq_loadS ?_
  refine jk_call hgr rfl rfl rdZ rfl rfl ?_
  rintro _ ⟨b, rfl⟩
  cases b with
  | true =>
    refine jk_nil ?_
    refine jk_if_t rfl ?_
    refine jk_seq ?_
    refine jk_region ?_
    refine jk_call awake53_spec rfl rfl rdZ rfl rfl ?_
    rintro _ rfl
    refine zq_assign ?_
    refine jk_nil ?_
    exact jk_ret_any (res1 rfl rfl) (by (repeat (first | exact rs_nil | (refine rs_cons ?_ ?_; (focus ((repeat (first | exact .here | apply Mem.there | apply Take.there)); first | done | fail))) | exact fun ρ hρ => hρ | (intro ρ hρ; repeat (first | exact hρ | refine List.mem_cons_of_mem _ ?_)))); first | done | fail) selZ ⟨rfl, rfl⟩
  | false =>
  refine jk_nil ?_
  refine jk_if_f rfl ?_
  refine jk_skip ?_
  refine jk_seq ?_
  refine jk_region ?_
  refine zq_loadS ?_
  refine zq_loadS ?_
  refine jk_callM hG rfl rfl rdZ rfl rfl ?_
  rintro _ σg hg
  cases hv : validT qs cs bs hs d with
  | false =>
    rw [hv, if_neg (by simp)] at hg
    obtain ⟨rfl, rfl⟩ := hg
    refine zq_move ?_
    refine zq_extract ?_
    refine zq_extract ?_
    refine zl_allocS ?_; rintro _ _ ⟨b, rfl, rfl⟩
    refine zs_storeS ?_; rintro _ _ ⟨rfl, rfl⟩
    refine zq_assign ?_
    refine jk_nil ?_
    refine jk_seq ?_
    refine jk_region ?_
    refine zq_loadS ?_
    refine zq_loadS ?_
    refine jk_callM hG' rfl rfl rdZ rfl rfl ?_
    rintro _ σg' hg'
    rw [hv, if_neg (by simp)] at hg'
    obtain ⟨rfl, rfl⟩ := hg'
    refine zq_move ?_
    refine zq_extract ?_
    refine zq_extract ?_
    refine zl_allocS ?_; rintro _ _ ⟨b, rfl, rfl⟩
    refine zs_storeS ?_; rintro _ _ ⟨rfl, rfl⟩
    refine zq_assign ?_
    refine jk_nil ?_
    refine jk_seq ?_
    refine jk_region ?_
    refine zq_loadS ?_
    refine zq_loadS ?_
    refine zq_move ?_
    refine zq_move ?_
    refine jk_call hV rfl rfl rdZ rfl rfl ?_
    rintro _ rfl
    refine zq_move ?_
    refine zq_extract ?_
    refine zq_extract ?_
    refine zq_assign ?_
    refine zq_assign ?_
    refine jk_nil ?_
    refine jk_seq ?_
    refine jk_region ?_
    refine zq_loadS ?_
    refine zq_loadS ?_
    refine zq_move ?_
    refine zq_move ?_
    refine jk_call hV' rfl rfl rdZ rfl rfl ?_
    rintro _ rfl
    refine zq_move ?_
    refine zq_extract ?_
    refine zq_extract ?_
    refine zq_assign ?_
    refine zq_assign ?_
    refine jk_nil ?_
    refine jk_seq ?_
    refine jk_region ?_
    refine zq_loadS ?_
    refine zq_loadS ?_
    refine zq_move ?_
    refine jk_call hP rfl rfl rdZ rfl rfl ?_
    rintro _ rfl
    refine zq_move ?_
    refine zq_extract ?_
    refine zq_extract ?_
    refine zq_extract ?_
    refine zq_assign ?_
    refine zq_assign ?_
    refine zq_assign ?_
    refine jk_nil ?_
    refine jk_seq ?_
    refine jk_region ?_
    refine zq_loadS ?_
    refine zq_loadS ?_
    refine zq_move ?_
    refine jk_call hP' rfl rfl rdZ rfl rfl ?_
    rintro _ rfl
    refine zq_move ?_
    refine zq_extract ?_
    refine zq_extract ?_
    refine zq_extract ?_
    refine zq_assign ?_
    refine zq_assign ?_
    refine zq_assign ?_
    refine jk_nil ?_
    refine jk_seq ?_
    refine jk_region ?_
    refine zq_loadS ?_
    refine zq_loadS ?_
    refine jk_call (sameNet_spec emp emp none none 0 0 0 0 0 [] ⟨rfl, .inl ⟨rfl, none, 0, rfl⟩⟩ ⟨rfl, .inl ⟨rfl, none, 0, rfl⟩⟩ (by simp)) rfl rfl rdZ rfl rfl ?_
    rintro _ rfl
    refine zq_move ?_
    refine zq_move ?_
    refine zq_move ?_
    refine zq_eq ?_
    refine zq_pick_t ?_
    refine zq_move ?_
    refine zq_move ?_
    refine zq_move ?_
    refine zq_eq ?_
    refine zq_pick_t ?_
    refine zq_move ?_
    refine zq_move ?_
    refine zq_move ?_
    refine zq_eq ?_
    refine zq_pick_t ?_
    refine zq_move ?_
    refine zq_move ?_
    refine zq_move ?_
    refine zq_eq ?_
    refine zq_pick_t ?_
    refine zq_move ?_
    refine zq_move ?_
    refine zq_move ?_
    refine zq_eq ?_
    refine zq_pick_t ?_
    refine zq_move ?_
    refine zq_move ?_
    refine zq_move ?_
    refine zq_eq ?_
    refine zq_pick_t ?_
    refine zq_move ?_
    refine jk_call awake53_spec rfl rfl rdZ rfl rfl ?_
    rintro _ rfl
    refine zq_pick_t ?_
    refine zq_assign ?_
    refine jk_nil ?_
    exact jk_ret_any (res1 rfl rfl) (by (repeat (first | exact rs_nil | (refine rs_cons ?_ ?_; (focus ((repeat (first | exact .here | apply Mem.there | apply Take.there)); first | done | fail))) | exact fun ρ hρ => hρ | (intro ρ hρ; repeat (first | exact hρ | refine List.mem_cons_of_mem _ ?_)))); first | done | fail) selZ ⟨rfl, rfl⟩
  | true =>
  rw [hv, if_pos rfl] at hg
  obtain ⟨ug, rfl, hOg⟩ := hg
  have hAt : ArcsAt σg ug (arcsG qs cs bs hs d) := hOg.at
  obtain ⟨pg, kg, rfl⟩ := hOg.form
  refine jk_freeze (ρ := σg) takeZ ?_
  refine zq_move ?_
  refine zq_extract ?_
  refine zq_extract ?_
  refine zl_allocS ?_; rintro _ _ ⟨b, rfl, rfl⟩
  refine zs_storeS ?_; rintro _ _ ⟨rfl, rfl⟩
  refine zq_assign ?_
  refine jk_nil ?_
  refine jk_seq ?_
  refine jk_region ?_
  refine zq_loadS ?_
  refine zq_loadS ?_
  refine jk_callM hG' rfl rfl rdZ rfl rfl ?_
  rintro _ σg' hg'
  rw [hv, if_pos rfl] at hg'
  obtain ⟨ug', rfl, hOg'⟩ := hg'
  have hAt' : ArcsAt σg' ug' (arcsG qs cs bs hs d) := hOg'.at
  obtain ⟨pg', kg', rfl⟩ := hOg'.form
  refine jk_freeze (ρ := σg') takeZ ?_
  have hEl := ea_len qs cs bs hs d (vok hv)
  have hAl : (arcsG qs cs bs hs d).length = (arcsE qs cs bs hs d).length := by unfold arcsG; rw [List.length_map]
  refine zq_move ?_
  refine zq_extract ?_
  refine zq_extract ?_
  refine zl_allocS ?_; rintro _ _ ⟨b, rfl, rfl⟩
  refine zs_storeS ?_; rintro _ _ ⟨rfl, rfl⟩
  refine zq_assign ?_
  refine jk_nil ?_
  refine jk_seq ?_
  refine jk_region ?_
  refine zq_loadS ?_
  refine zq_loadS ?_
  refine zq_move ?_
  refine zq_move ?_
  refine jk_call hV rfl rfl rdZ rfl rfl ?_
  rintro _ rfl
  refine zq_move ?_
  refine zq_extract ?_
  refine zq_extract ?_
  refine zq_assign ?_
  refine zq_assign ?_
  refine jk_nil ?_
  refine jk_seq ?_
  refine jk_region ?_
  refine zq_loadS ?_
  refine zq_loadS ?_
  refine zq_move ?_
  refine zq_move ?_
  refine jk_call hV' rfl rfl rdZ rfl rfl ?_
  rintro _ rfl
  refine zq_move ?_
  refine zq_extract ?_
  refine zq_extract ?_
  refine zq_assign ?_
  refine zq_assign ?_
  refine jk_nil ?_
  refine jk_seq ?_
  refine jk_region ?_
  refine zq_loadS ?_
  refine zq_loadS ?_
  refine zq_move ?_
  refine jk_call hP rfl rfl rdZ rfl rfl ?_
  rintro _ rfl
  refine zq_move ?_
  refine zq_extract ?_
  refine zq_extract ?_
  refine zq_extract ?_
  refine zq_assign ?_
  refine zq_assign ?_
  refine zq_assign ?_
  refine jk_nil ?_
  refine jk_seq ?_
  refine jk_region ?_
  refine zq_loadS ?_
  refine zq_loadS ?_
  refine zq_move ?_
  refine jk_call hP' rfl rfl rdZ rfl rfl ?_
  rintro _ rfl
  refine zq_move ?_
  refine zq_extract ?_
  refine zq_extract ?_
  refine zq_extract ?_
  refine zq_assign ?_
  refine zq_assign ?_
  refine zq_assign ?_
  refine jk_nil ?_
  refine jk_seq ?_
  refine jk_region ?_
  refine zq_loadS ?_
  refine zq_loadS ?_
  refine jk_call (sameNet_spec σg σg' pg pg' kg kg' (vsN qs d) (vtx d d.s d.r) (vtx d d.d d.e) (arcsG qs cs bs hs d) hAt hAt' (by omega)) rfl rfl rdZ rfl rfl ?_
  rintro _ rfl
  refine zq_move ?_
  refine zq_move ?_
  refine zq_move ?_
  refine zq_eq ?_
  refine zq_pick_t ?_
  refine zq_move ?_
  refine zq_move ?_
  refine zq_move ?_
  refine zq_eq ?_
  refine zq_pick_t ?_
  refine zq_move ?_
  refine zq_move ?_
  refine zq_move ?_
  refine zq_eq ?_
  refine zq_pick_t ?_
  refine zq_move ?_
  refine zq_move ?_
  refine zq_move ?_
  refine zq_eq ?_
  refine zq_pick_t ?_
  refine zq_move ?_
  refine zq_move ?_
  refine zq_move ?_
  refine zq_eq ?_
  refine zq_pick_t ?_
  refine zq_move ?_
  refine zq_move ?_
  refine zq_move ?_
  refine zq_eq ?_
  refine zq_pick_t ?_
  refine zq_move ?_
  refine jk_call awake53_spec rfl rfl rdZ rfl rfl ?_
  rintro _ rfl
  refine zq_pick_t ?_
  refine zq_assign ?_
  refine jk_nil ?_
  exact jk_ret_any (res1 rfl rfl) (by (repeat (first | exact rs_nil | (refine rs_cons ?_ ?_; (focus ((repeat (first | exact .here | apply Mem.there | apply Take.there)); first | done | fail))) | exact fun ρ hρ => hρ | (intro ρ hρ; repeat (first | exact hρ | refine List.mem_cons_of_mem _ ?_)))); first | done | fail) selZ ⟨rfl, rfl⟩
end Go.Proofs.YthdoegkjifgegaaGreat
/- The rows: each law, for every input. -/
namespace Go.Proofs.YthdoegkjifgegaaGreat
open Go.Eng Go.Step
set_option maxRecDepth 100000
set_option maxHeartbeats 4000000
open Go.ChangeShapes Go.WideShapes Go.ChangeAt Go.RowKit

set_option maxRecDepth 100000 in
theorem expandedGraph_lifted (os : Os) (started : os.Started) (H : Type) (enc : TypeId × Value → H) :
    ReturnsInHanded {} Tryz.checked os 3 .any (Rows.expandedGraphSpec.pre6 enc Tryz.prog Tryz.f3 Rows.expandedGraphRow.domain false) (Rows.expandedGraphSpec.post enc Tryz.prog Tryz.f3 false true false false) := by
  refine returnsInHanded_of_change (C := Tryz.checked) Tryz.own started (by kernel_rfl) Tryz.func3
    (ChangeSpec.witness6 (enc := enc) (C := Tryz.checked) false ⟨#[], #[.agg #[.slice none 0 0, .slice none 0 0, .slice none 0 0, .slice none 0 0], .agg #[.int .i64 0, .int .i64 0, .int .i64 0, .int .i64 0, .int .i64 0], .int .i64 0, .int .i64 0, .int .i64 0], []⟩ 8 (by kernel_rfl) (by kernel_rfl) (by kernel_rfl) (by kernel_rfl)) ?_
  intro W base args ds gs before hval0 hW hcnd _
  have hval : ∀ (j : Nat) t v, Tryz.f3.params[j]? = some t → args[j]? = some v → Value.okWide Tryz.prog W .any base t v := hval0
  have hW' := hW
  obtain ⟨p, q, hA0, hV, rfl, hfz, hnd⟩ := hW
  have hA : DataW.TrodAll enc Tryz.prog W 0 (fun _ => true) true Tryz.f3.params.toList args.toList ds p := hA0
  rw [Tryz.params3] at hA hval
  obtain ⟨v0, vs0, d0, ds0, p0, q0, hargs, rfl, rfl, h0, r0⟩ := trodAll_cons hA
  obtain ⟨v1, vs1, d1, ds1, p1, q1, rfl, rfl, rfl, h1, r1⟩ := trodAll_cons r0
  obtain ⟨v2, vs2, d2, ds2, p2, q2, rfl, rfl, rfl, h2, r2⟩ := trodAll_cons r1
  obtain ⟨v3, vs3, d3, ds3, p3, q3, rfl, rfl, rfl, h3, r3⟩ := trodAll_cons r2
  obtain ⟨v4, vs4, d4, ds4, p4, q4, rfl, rfl, rfl, h4, r4⟩ := trodAll_cons r3
  obtain ⟨rfl, rfl, rfl⟩ := trodAll_nil r4
  obtain rfl : args = #[v0, v1, v2, v3, v4] := by cases args; simp_all
  obtain ⟨rfl, rfl⟩ := trodVars_none hV
  have lt0 : ∀ x ∈ p0, x.block < W.heap.size := by obtain ⟨m, hm⟩ := h0; exact DataW.trod_lt m _ _ _ hm
  have lt1 : ∀ x ∈ p1, x.block < W.heap.size := by obtain ⟨m, hm⟩ := h1; exact DataW.trod_lt m _ _ _ hm
  have lt2 : ∀ x ∈ p2, x.block < W.heap.size := by obtain ⟨m, hm⟩ := h2; exact DataW.trod_lt m _ _ _ hm
  have lt3 : ∀ x ∈ p3, x.block < W.heap.size := by obtain ⟨m, hm⟩ := h3; exact DataW.trod_lt m _ _ _ hm
  have lt4 : ∀ x ∈ p4, x.block < W.heap.size := by obtain ⟨m, hm⟩ := h4; exact DataW.trod_lt m _ _ _ hm
  have hlaw : Ans Tryz.prog (fv 3) [v0, v1, v2, v3, v4] [heapPH W] (fun v => v = .bool true) := by
    obtain ⟨pq, pc, pb, ph, kq, kc, kb, kh, qs, cs, bs, hs, rfl, hT⟩ := tables_of (hval 0 _ v0 rfl rfl) (RdT.of h0)
    obtain ⟨d, rfl, id0, id1, id2, id3, id4⟩ := demand_of (hval 1 _ v1 rfl rfl) (RdT.of h1)
    obtain ⟨n, rfl, _, _, wn⟩ := open_int Tryz.underlying3 (hval 2 _ v2 rfl rfl) h2
    obtain ⟨t, rfl, _, _, wt⟩ := open_int Tryz.underlying3 (hval 3 _ v3 rfl rfl) h3
    obtain ⟨v, rfl, _, _, wv⟩ := open_int Tryz.underlying3 (hval 4 _ v4 rfl rfl) h4
    exact (graph_law hT d n t v).rsub (fun _ h => by simpa using h)
  refine (law_calls Tryz.func3 rfl rfl hlaw).mono fun e W' ⟨he, bel⟩ => ?_
  subst he
  exact ⟨_, rfl, _, _, _, [], _, [], hW', trodAll_mk1 (shut_bool Tryz.underlying4 _), (trodAll_cons_mk (Below.trod Tryz.laidOut (by kernel_rfl) (of_decide_eq_true (by kernel_rfl)) h0 bel lt0) (trodAll_cons_mk (Below.trod Tryz.laidOut (by kernel_rfl) (of_decide_eq_true (by kernel_rfl)) h1 bel lt1) (trodAll_cons_mk (Below.trod Tryz.laidOut (by kernel_rfl) (of_decide_eq_true (by kernel_rfl)) h2 bel lt2) (trodAll_cons_mk (Below.trod Tryz.laidOut (by kernel_rfl) (of_decide_eq_true (by kernel_rfl)) h3 bel lt3) (trodAll_cons_mk (Below.trod Tryz.laidOut (by kernel_rfl) (of_decide_eq_true (by kernel_rfl)) h4 bel lt4) trodAll_mk0))))), rfl, bel.frame _, fun h => by cases h⟩
theorem expandedGraph_holds : Rows.ExpandedGraphSaid :=
  OpenClaim.holds_of_wide 3 Tryz.f3 rfl rfl rfl rfl rfl rfl rfl ⟨rfl, rfl, rfl, rfl, rfl⟩ rfl rfl rfl rfl rfl (by kernel_rfl) Tryz.func3 (by kernel_rfl)
    (of_decide_eq_true (by kernel_rfl)) (by unfold Func.isWrapper; first | (rw [if_pos (by decide +kernel)]; kernel_rfl) | (rw [if_neg (by decide +kernel)]; exact ⟨rfl, rfl⟩))
    (fun os started H enc _ => expandedGraph_lifted os started H enc)
end Go.Proofs.YthdoegkjifgegaaGreat
