/- Texts of this proof, one after the other; no conditions. -/
import Derived.Test.YthdoegkjifgegaaWB11
import Derived.Test.YthdoegkjifgegaaWB2
import Derived.Test.YthdoegkjifgegaaWB5
set_option linter.all false
/- Cuts. -/
namespace Go.Proofs.Ythdoegkjifgegaa
open Go.Eng Go.Step
set_option maxRecDepth 100000
set_option maxHeartbeats 4000000

set_option maxHeartbeats 64000000 in
theorem cuts_law {ρ τ σ υ : PH} {pq pc pb ph : Option Addr} {kq kc kb kh : Nat} {qs : List Int} {cs : List Ct} {bs : List Bk} {hs : List Hd} (hT : TbAt ρ τ σ υ pq pc pb ph kq kc kb kh qs cs bs hs) (d : Dm) (ω : PH) (pf : Option Addr) (kf : Nat) (side : List Int) (hu : IntsAt ω (.slice pf side.length kf) side) (hsl : side.length ≤ 9223372036854775807) :
    Ans Try.prog (fv 5) [.agg #[.slice pq qs.length kq, .slice pc cs.length kc, .slice pb bs.length kb, .slice ph hs.length kh], .agg #[int d.s, int d.d, int d.v, int d.r, int d.e], .slice pf side.length kf] [ρ, τ, σ, υ, ω] (fun r => r = .bool true) := by
  have hf := fine53_spec hT d
  have hG := Graph_spec hT d
  refine spec_in (cap := []) Try.func5 rfl rfl Try.ntmps5 rfl (by (repeat (first | exact EnvA.nil EnvI.nil | apply EnvA.cons | apply EnvA.nil | exact EnvI.nil | apply EnvI.cons)); first | done | fail) (fun N β => ?_)
  refine jk_seq ?_
  refine jk_region ?_
  refine jk_op (l_boxS rfl) rfl rfl rfl ?_
  rintro _ _ ⟨b1, rfl, rfl⟩
  refine jk_freeze (ρ := sng b1 _) takeZ ?_
  have ct : RdN (sng b1 (.cells #[.slice pq qs.length kq, .slice pc cs.length kc, .slice pb bs.length kb, .slice ph hs.length kh] 29 (0, 0))) b1 0 [.slice pq qs.length kq, .slice pc cs.length kc, .slice pb bs.length kb, .slice ph hs.length kh] := rdN_sng (vs := [.slice pq qs.length kq, .slice pc cs.length kc, .slice pb bs.length kb, .slice ph hs.length kh])
  have ct0 : rdc (sng b1 (.cells #[.slice pq qs.length kq, .slice pc cs.length kc, .slice pb bs.length kb, .slice ph hs.length kh] 29 (0, 0))) b1 0 = some (.slice pq qs.length kq) := by rw [rdc_sng]; rfl
  have ct1 : rdc (sng b1 (.cells #[.slice pq qs.length kq, .slice pc cs.length kc, .slice pb bs.length kb, .slice ph hs.length kh] 29 (0, 0))) b1 1 = some (.slice pc cs.length kc) := by rw [rdc_sng]; rfl
  have ct2 : rdc (sng b1 (.cells #[.slice pq qs.length kq, .slice pc cs.length kc, .slice pb bs.length kb, .slice ph hs.length kh] 29 (0, 0))) b1 2 = some (.slice pb bs.length kb) := by rw [rdc_sng]; rfl
  have ct3 : rdc (sng b1 (.cells #[.slice pq qs.length kq, .slice pc cs.length kc, .slice pb bs.length kb, .slice ph hs.length kh] 29 (0, 0))) b1 3 = some (.slice ph hs.length kh) := by rw [rdc_sng]; rfl
  have ctp : RdP (sng b1 (.cells #[.slice pq qs.length kq, .slice pc cs.length kc, .slice pb bs.length kb, .slice ph hs.length kh] 29 (0, 0))) b1 0 [.slice pq qs.length kq, .slice pc cs.length kc] := rdP_sng (xs := [.slice pq qs.length kq, .slice pc cs.length kc, .slice pb bs.length kb, .slice ph hs.length kh]) rfl
  refine jk_op (l_boxS rfl) rfl rfl rfl ?_
  rintro _ _ ⟨b2, rfl, rfl⟩
  refine jk_freeze (ρ := sng b2 _) takeZ ?_
  have cd : RdN (sng b2 (.cells #[int d.s, int d.d, int d.v, int d.r, int d.e] 31 (0, 0))) b2 0 [int d.s, int d.d, int d.v, int d.r, int d.e] := rdN_sng (vs := [int d.s, int d.d, int d.v, int d.r, int d.e])
  have cd0 : rdc (sng b2 (.cells #[int d.s, int d.d, int d.v, int d.r, int d.e] 31 (0, 0))) b2 0 = some (int d.s) := by rw [rdc_sng]; rfl
  have cd1 : rdc (sng b2 (.cells #[int d.s, int d.d, int d.v, int d.r, int d.e] 31 (0, 0))) b2 1 = some (int d.d) := by rw [rdc_sng]; rfl
  have cd2 : rdc (sng b2 (.cells #[int d.s, int d.d, int d.v, int d.r, int d.e] 31 (0, 0))) b2 2 = some (int d.v) := by rw [rdc_sng]; rfl
  have cd3 : rdc (sng b2 (.cells #[int d.s, int d.d, int d.v, int d.r, int d.e] 31 (0, 0))) b2 3 = some (int d.r) := by rw [rdc_sng]; rfl
  have cd4 : rdc (sng b2 (.cells #[int d.s, int d.d, int d.v, int d.r, int d.e] 31 (0, 0))) b2 4 = some (int d.e) := by rw [rdc_sng]; rfl
  refine zq_assign ?_
  refine jk_nil ?_
  refine jk_seq ?_
  refine jk_seq ?_
  refine jk_region ?_
  refine zq_loadS ?_
  refine zq_loadS ?_
  refine jk_call hf rfl rfl rdZ rfl rfl ?_
  rintro _ ⟨fb, rfl, hfb⟩
  cases fb with
  | false =>
    refine zq_not ?_
    refine zq_move ?_
    refine jk_pass rfl rfl rfl ?_
    refine jk_pass rfl rfl rfl ?_
    refine jk_pass rfl rfl rfl ?_
    refine zq_pick_t ?_
    refine jk_nil ?_
    refine jk_if_t rfl ?_
    refine jk_seq ?_
    refine jk_region ?_
    focus ((refine jk_call awake53_spec rfl rfl rdZ rfl rfl ?_; rintro _ rfl))
    refine zq_assign ?_
    refine jk_nil ?_
    exact jk_ret_any (res1 rfl rfl) (by (repeat (first | exact rs_nil | (refine rs_cons ?_ ?_; (focus ((repeat (first | exact .here | apply Mem.there | apply Take.there)); first | done | fail))) | exact fun ρ hρ => hρ | (intro ρ hρ; repeat (first | exact hρ | refine List.mem_cons_of_mem _ ?_)))); first | done | fail) selZ ⟨rfl, rfl⟩
  | true =>
  have hv := hfb rfl
  by_cases h120 : 120 < side.length
  · refine zq_not ?_
    refine zq_move ?_
    refine zq_move ?_
    refine zq_len ?_
    refine zq_gt ?_
    refine zq_pick_f ?_
    refine jk_nil ?_
    refine jk_if_t rfl ?_
    refine jk_seq ?_
    refine jk_region ?_
    focus ((refine jk_call awake53_spec rfl rfl rdZ rfl rfl ?_; rintro _ rfl))
    refine zq_assign ?_
    refine jk_nil ?_
    exact jk_ret_any (res1 rfl rfl) (by (repeat (first | exact rs_nil | (refine rs_cons ?_ ?_; (focus ((repeat (first | exact .here | apply Mem.there | apply Take.there)); first | done | fail))) | exact fun ρ hρ => hρ | (intro ρ hρ; repeat (first | exact hρ | refine List.mem_cons_of_mem _ ?_)))); first | done | fail) selZ ⟨rfl, rfl⟩
  have h := vok hv
  have hdm := h.dm
  unfold okDm at hdm
  have hnq := h.nq
  have hvs := h.vs
  have hEl := ea_len qs cs bs hs d h
  have hAl : (arcsG qs cs bs hs d).length = (arcsE qs cs bs hs d).length := by unfold arcsG; rw [List.length_map]
  have hD := Sides_spec hT d ω (.slice pf side.length kf) side hu (by omega)
  have hEv : sidesE qs cs bs hs d side = (Go.Flow.capacitySpec (vsN qs d) (arcsG qs cs bs hs d) side).2 := by unfold sidesE; rw [if_pos hv]
  obtain ⟨N, hN⟩ : ∃ N : Nat, vsN qs d = N := ⟨(vsN qs d).toNat, by omega⟩
  rw [hN] at hG hEv
  refine zq_not ?_
  refine zq_move ?_
  refine zq_move ?_
  refine zq_len ?_
  refine zq_gtF ?_
  refine zq_pick_f ?_
  refine jk_nil ?_
  refine jk_if_f rfl ?_
  refine jk_skip ?_
  refine jk_seq ?_
  refine jk_region ?_
  refine zq_loadS ?_
  refine zq_loadS ?_
  refine zq_move ?_
  refine jk_callH hD rfl rfl Takes.nil rdZ rfl rfl ?_
  rintro _ _ ⟨L, w, σ1, χ1, rfl, rfl, hL, hCL⟩
  obtain ⟨q, kq2, rfl, hrL⟩ := hCL.1.val encQ_len
  refine jk_freeze (ρ := σ1) takeZ ?_
  refine jk_freeze (ρ := χ1) takeZ ?_
  refine zq_move ?_
  refine zq_extract ?_
  refine zq_extract ?_
  refine zq_assign ?_
  refine zq_assign ?_
  refine jk_nil ?_
  refine jk_seq ?_
  refine jk_region ?_
  refine zq_loadS ?_
  refine zq_loadS ?_
  refine jk_callM hG rfl rfl rdZ rfl rfl ?_
  rintro _ σg hg
  rw [if_pos hv] at hg
  obtain ⟨ug, rfl, hOg⟩ := hg
  have hAt : ArcsAt σg ug (arcsG qs cs bs hs d) := hOg.at
  obtain ⟨pg, kg, rfl⟩ := hOg.form
  refine jk_freeze (ρ := σg) takeZ ?_
  refine zq_move ?_
  refine zq_extract ?_
  refine zq_extract ?_
  refine zl_allocS ?_; rintro _ _ ⟨b, rfl, rfl⟩
  refine zs_storeS ?_; rintro _ _ ⟨rfl, rfl⟩
  refine zq_assign ?_
  refine jk_nil ?_
  refine jk_seq ?_
  refine jk_region ?_
  refine zq_fld0 ?_
  refine zq_load ?_
  refine zq_fld0 ?_
  refine zq_load ?_
  refine zq_move ?_
  revert b; intro bg
  refine jk_freeze (ρ := sng bg _) takeZ ?_
  have gg0 : rdc (sng bg (.cells #[int (N : Int), .slice pg (arcsG qs cs bs hs d).length kg, int (vtx d d.s d.r), int (vtx d d.d d.e)] 36 (0, 0))) bg 0 = some (int (N : Int)) := by rw [rdc_sng]; rfl
  have gg1 : rdc (sng bg (.cells #[int (N : Int), .slice pg (arcsG qs cs bs hs d).length kg, int (vtx d d.s d.r), int (vtx d d.d d.e)] 36 (0, 0))) bg 1 = some (.slice pg (arcsG qs cs bs hs d).length kg) := by rw [rdc_sng]; rfl
  have gg2 : rdc (sng bg (.cells #[int (N : Int), .slice pg (arcsG qs cs bs hs d).length kg, int (vtx d d.s d.r), int (vtx d d.d d.e)] 36 (0, 0))) bg 2 = some (int (vtx d d.s d.r)) := by rw [rdc_sng]; rfl
  have gg3 : rdc (sng bg (.cells #[int (N : Int), .slice pg (arcsG qs cs bs hs d).length kg, int (vtx d d.s d.r), int (vtx d d.d d.e)] 36 (0, 0))) bg 3 = some (int (vtx d d.d d.e)) := by rw [rdc_sng]; rfl
  have hcap := flowCapacity_spec σg ω (.slice pg (arcsG qs cs bs hs d).length kg) (.slice pf side.length kf) N (arcsG qs cs bs hs d) side hAt hu (by omega) (by omega)
  refine jk_call hcap rfl rfl rdZ rfl rfl ?_
  rintro _ rfl
  rw [← hEv]
  generalize (Go.Flow.capacitySpec (N : Int) (arcsG qs cs bs hs d) side).1 = vv
  by_cases hz : sidesE qs cs bs hs d side = 0
  rotate_left
  · rw [if_neg hz] at hL
    have hLl : L.length = 0 := by
      have := congrArg List.length hL
      rwa [List.length_map] at this
    rw [hLl]
    refine zq_move ?_
    refine zq_extract ?_
    refine zq_extract ?_
    refine zq_assign ?_
    refine zq_assign ?_
    refine jk_nil ?_
    refine jk_seq ?_
    refine jk_seq ?_
    refine jk_region ?_
    refine zq_move ?_
    refine zq_ne ?_
    refine zq_move ?_
    refine jk_pass rfl rfl rfl ?_
    refine jk_pass rfl rfl rfl ?_
    refine zq_pick_t ?_
    refine jk_nil ?_
    refine jk_if_t rfl ?_
    refine jk_seq ?_
    refine jk_region ?_
    refine zq_move ?_
    refine zq_eq ?_
    refine zq_move ?_
    refine zq_move ?_
    refine zq_move ?_
    refine zq_eq ?_
    refine zq_pick_t ?_
    refine zq_move ?_
    refine zq_move ?_
    refine zq_len ?_
    refine zq_eq ?_
    refine zq_pick_t ?_
    refine zq_move ?_
    refine jk_call awake53_spec rfl rfl rdZ rfl rfl ?_
    rintro _ rfl
    refine zq_pick_t ?_
    refine zq_assign ?_
    refine jk_nil ?_
    exact jk_ret_any (res1 rfl rfl) (by (repeat (first | exact rs_nil | (refine rs_cons ?_ ?_; (focus ((repeat (first | exact .here | apply Mem.there | apply Take.there)); first | done | fail))) | exact fun ρ hρ => hρ | (intro ρ hρ; repeat (first | exact hρ | refine List.mem_cons_of_mem _ ?_)))); first | done | fail) selZ ⟨rfl, rfl⟩
  rw [if_pos hz] at hL
  have hin := sidesE_in hv hz
  have hasc := sidesE_asc hv hz
  have htot := totC_sides h hin hasc side.length (Nat.le_refl _)
  rw [List.take_length] at htot
  have hLl : L.length = qs.length := by
    have := congrArg List.length hL
    rwa [List.length_map, sidesC_len] at this
  rw [hz]
  refine zq_move ?_
  refine zq_extract ?_
  refine zq_extract ?_
  refine zq_assign ?_
  refine zq_assign ?_
  refine jk_nil ?_
  refine jk_seq ?_
  refine jk_seq ?_
  refine jk_region ?_
  refine zq_move ?_
  refine zq_neF ?_
  refine zq_move ?_
  refine zq_move ?_
  refine zq_neF ?_
  refine zq_pick_f ?_
  refine jk_nil ?_
  refine jk_if_f rfl ?_
  refine jk_skip ?_
  refine jk_seq ?_
  refine jk_seq ?_
  refine jk_region ?_
  refine zq_move ?_
  refine zq_len ?_
  refine zq_fld0 ?_
  refine zq_fld0 ?_
  refine zq_load ?_
  refine zq_len ?_
  refine zq_neF ?_
  refine jk_nil ?_
  refine jk_if_f rfl ?_
  refine jk_skip ?_
  refine jk_seq ?_
  refine jk_region ?_
  refine zq_assign ?_
  refine jk_nil ?_
  refine jk_seq ?_
  refine jk_seq ?_
  refine jk_region ?_
  refine zq_move ?_
  refine zq_len ?_
  refine zq_move ?_
  refine jk_nil ?_
  refine jk_block ?_
  refine jk_loop [2, 3, 4, 81, 82] (0 : Nat) (fun n => n ≤ L.length) (fun n => [(83, int n), (13, int (totC ((cuL L).take n)))]) (fun _ => []) (fun n => L.length - n) pickZ (by omega) covZ selZ ?_
  rintro n hn
  by_cases hlt : n < L.length
  rotate_left
  · have hne : n = L.length := by omega
    subst hne
    rw [show (cuL L).take L.length = cuL L by rw [show L.length = (cuL L).length by rw [List.length_map]]; exact List.take_length, hL, htot]
    refine jk_seq ?_
    refine jk_region ?_
    refine zq_ltF ?_
    refine jk_nil ?_
    refine jk_seq ?_
    refine jk_if_f rfl ?_
    refine jk_exit rfl ?_
    refine jk_seq ?_
    refine jk_region ?_
    refine zq_move ?_
    refine zq_move ?_
    refine zq_len ?_
    refine zq_eq ?_
    refine zq_move ?_
    refine jk_call awake53_spec rfl rfl rdZ rfl rfl ?_
    rintro _ rfl
    refine zq_pick_t ?_
    refine zq_assign ?_
    refine jk_nil ?_
    exact jk_ret_any (res1 rfl rfl) (by (repeat (first | exact rs_nil | (refine rs_cons ?_ ?_; (focus ((repeat (first | exact .here | apply Mem.there | apply Take.there)); first | done | fail))) | exact fun ρ hρ => hρ | (intro ρ hρ; repeat (first | exact hρ | refine List.mem_cons_of_mem _ ?_)))); first | done | fail) selZ ⟨rfl, rfl⟩
  have hx := List.getElem?_eq_getElem hlt
  have hSn := hCL.2 _ (List.getElem_mem hlt)
  have hcn : (cuL L)[n]? = some L[n].2 := by rw [List.getElem?_map, hx]; rfl
  have hLe : L[n].2 = sideI d side n := by
    have e1 := hcn
    rw [hL] at e1
    unfold sidesC at e1
    rw [List.getElem?_map, List.getElem?_range (by omega)] at e1
    exact (Option.some.inj e1).symm
  have hnorm := (sideI_ok d side n).1
  have hslen := (sideI_ok d side n).2.2
  have hinw := sideI_in (d := d) (by omega) side n
  have hmem := fun (t : Int) (h1 : d.r ≤ t) (h2 : t ≤ d.e) => sideI_mem (d := d) (side := side) (n := (n : Int)) h1 h2
  have hctl : totC ((cuL L).take (n + 1)) = totC ((cuL L).take n) + lenI L[n].2 := by rw [List.take_add_one, hcn]; exact totC_snoc _ _
  have hctb : ∀ k, 0 ≤ totC ((cuL L).take k) ∧ totC ((cuL L).take k) ≤ 120 := fun k => by
    have := totC_take (sidesC_pos d qs.length side) k
    rw [← hL] at this
    rw [← hL] at htot
    omega
  have hc0 := hctb n
  have hc1 := hctb (n + 1)
  rw [← hLe] at hnorm hslen hinw
  simp only [← hLe] at hmem
  obtain ⟨b1', o1', eq1, hr1⟩ := hrL n _ hx
  have g1 : rdc σ1 b1' (o1' + n) = some (.slice L[n].1.1 L[n].2.length L[n].1.2) := by have := hr1.get0; rwa [Nat.mul_one] at this
  clear hr1
  generalize hzz : L[n] = z at hx hSn hLe hnorm hslen hinw hmem hctl g1 hcn
  obtain ⟨⟨pz, kz⟩, lz⟩ := z
  dsimp only at hSn hLe hnorm hslen hinw hmem hctl g1 hcn
  obtain ⟨_, _, ez, hrz⟩ := SlE.val (enc := encS) encS_len hSn.1
  simp only [Value.slice.injEq] at ez
  obtain ⟨rfl, _, rfl⟩ := ez
  subst eq1
  generalize hT0 : totC ((cuL L).take n) = T0 at hctl hc0
  refine jk_seq ?_
  refine jk_region ?_
  refine zq_lt ?_
  refine jk_nil ?_
  refine jk_seq ?_
  refine jk_if_t rfl ?_
  refine jk_skip ?_
  refine jk_seq ?_
  refine jk_block ?_
  refine jk_seq ?_
  refine jk_region ?_
  refine zq_move ?_
  refine zq_idx1 ?_
  refine zq_load ?_
  refine zq_assign ?_
  refine zq_assign ?_
  refine jk_nil ?_
  refine jk_seq ?_
  refine jk_region ?_
  refine zq_move ?_
  refine zq_len ?_
  refine zq_move ?_
  refine jk_nil ?_
  refine jk_block ?_
  refine jk_loop [2, 3, 4, 14, 15, 81, 82, 83, 88, 89] (0 : Nat) (fun i => i ≤ lz.length) (fun i => [(90, int i), (13, int (T0 + lenI (lz.take i)))]) (fun _ => []) (fun i => lz.length - i) pickZ (by omega) (by rw [List.take_zero]; simp only [lenI, Int.add_zero]; exact covZ) selZ ?_
  rintro i hi
  by_cases hlti : i < lz.length
  rotate_left
  · have hie : i = lz.length := by omega
    subst hie
    rw [List.take_length]
    refine jk_seq ?_
    refine jk_region ?_
    refine zq_ltF ?_
    refine jk_nil ?_
    refine jk_seq ?_
    refine jk_if_f rfl ?_
    refine jk_exit rfl ?_
    refine jk_blk ?_
    refine jk_region ?_
    refine zq_inc ?_
    refine zq_move ?_
    refine jk_nil ?_
    refine jk_round (n + 1) (by omega) (by omega) ?_ selZ
    rw [hctl]
    exact covZ
  have hxi := List.getElem?_eq_getElem hlti
  have hxm := List.getElem_mem hlti
  have hpos := hnorm.1 _ hxm
  have hbd := hinw _ hxm
  have htk : lenI (lz.take (i + 1)) = lenI (lz.take i) + (lz[i].2 - lz[i].1) := by rw [List.take_succ_eq_append_getElem hlti, lenI_snoc]
  have hl0 := lenI_take hnorm.1 i
  have hl1 := lenI_take hnorm.1 (i + 1)
  have hml : ∀ t, lz[i].1 ≤ t → t < lz[i].2 → vtx d n t ∈ side := fun t h1 h2 => (hmem t (by omega) (by omega)).1 (memI_iff.2 ⟨_, hxm, h1, h2⟩)
  have hprev : 1 ≤ i → ∃ y, lz[i - 1]? = some y ∧ y.2 < lz[i].1 := fun h1 => ⟨lz[i - 1], List.getElem?_eq_getElem (by omega), by
    have := List.pairwise_iff_getElem.1 hnorm.2 (i - 1) i (by omega) hlti (by omega)
    exact this⟩
  obtain ⟨b6, o6, e6, hRd6, y0, y1⟩ := spRow hrz hxi
  generalize lz[i] = x at hxi hxm hpos hbd htk hml hprev hRd6 y0 y1
  subst e6
  refine jk_seq ?_
  refine jk_region ?_
  refine zq_lt ?_
  refine jk_nil ?_
  refine jk_seq ?_
  refine jk_if_t rfl ?_
  refine jk_skip ?_
  refine jk_seq ?_
  refine jk_block ?_
  refine jk_seq ?_
  refine jk_region ?_
  refine zq_move ?_
  refine zq_idxN ?_
  refine zq_loadS ?_
  refine zl_allocS ?_; rintro _ _ ⟨b, rfl, rfl⟩
  refine zq_assign ?_
  refine zs_storeS ?_; rintro _ _ ⟨rfl, rfl⟩
  refine jk_nil ?_
  refine jk_seq ?_
  refine jk_seq ?_
  revert b; intro bx
  rcases Nat.eq_zero_or_pos i with h0 | h0
  · subst h0
    refine jk_draw (.q 0 (.q 1 (.q 2 (.q 3 (.q 4 (.q 5 (.q 6 (.q 7 (.q 8 (.q 9 (.q 10 (.q 11 (.q 12 (.q 13 (.q 14 (.q 15 (.q 16 (.q 17 (.q 18 (.q 19 (.q 20 (.q 21 (.q 22 (.q 23 (.q 24 (.q 25 (.q 26 (.q 27 (.q 28 (.q 29 (.q 30 (.q 31 (.q 32 (.q 33 (.q 34 .nil))))))))))))))))))))))))))))))))))) [] rfl (by kernel_rfl) Sel.nil ?_
    refine zd_fld0 ?_
    refine zd_load ?_
    refine zd_fld0 ?_
    refine zd_load ?_
    refine zd_ltF ?_
    refine zd_move ?_
    refine zd_fld0 ?_
    refine zd_load ?_
    refine zd_fld0 ?_
    refine zd_load ?_
    refine zd_geF ?_
    refine zd_pick_f ?_
    refine zd_move ?_
    refine zd_fld0 ?_
    refine zd_load ?_
    refine zd_fld0 ?_
    refine zd_load ?_
    refine zd_add ?_
    refine zd_gtF ?_
    refine zd_pick_f ?_
    refine zd_move ?_
    refine zd_move ?_
    refine zd_gtF ?_
    refine zd_move ?_
    refine dj_pass rfl rfl rfl rfl rfl ?_
    refine dj_pass rfl rfl rfl rfl rfl ?_
    refine dj_pass rfl rfl rfl rfl rfl ?_
    refine dj_pass rfl rfl rfl rfl rfl ?_
    refine dj_pass rfl rfl rfl rfl rfl ?_
    refine dj_pass rfl rfl rfl rfl rfl ?_
    refine dj_pass rfl rfl rfl rfl rfl ?_
    refine dj_pass rfl rfl rfl rfl rfl ?_
    refine dj_pass rfl rfl rfl rfl rfl ?_
    refine zd_pick_f ?_
    refine zd_pick_f ?_
    refine dj_end ?_
    refine jk_if_f rfl ?_
    refine jk_skip ?_
    refine jk_seq ?_
    refine jk_region ?_
    refine zq_move ?_
    refine zq_fld0 ?_
    refine zq_load ?_
    refine zq_fld0 ?_
    refine zq_load ?_
    refine zq_sub ?_
    refine zq_add ?_
    refine zq_assign ?_
    refine jk_nil ?_
    refine jk_seq ?_
    refine jk_region ?_
    refine zq_fld0 ?_
    refine zq_load ?_
    refine zq_assign ?_
    refine jk_nil ?_
    refine jk_block ?_
    refine jk_loop [2, 3, 4, 13, 14, 15, 17, 81, 82, 83, 88, 89, 90] x.1 (fun t => x.1 ≤ t ∧ t ≤ x.2) (fun t => [(18, int t)]) (fun _ => [sng bx (.cells #[int x.1, int x.2] 61 (0, 0))]) (fun t => (x.2 - t).toNat) pickZ ⟨by omega, by omega⟩ covZ selZ ?_
    rintro t ⟨ht1, ht2⟩
    by_cases hlt3 : t < x.2
    rotate_left
    · refine jk_seq ?_
      refine jk_seq ?_
      refine jk_region ?_
      refine zq_move ?_
      refine zq_fld0 ?_
      refine zq_load ?_
      refine zq_ltF ?_
      refine jk_nil ?_
      refine jk_if_f rfl ?_
      refine jk_exit rfl ?_
      refine jk_blk ?_
      refine jk_region ?_
      refine zq_inc ?_
      refine zq_move ?_
      refine jk_nil ?_
      refine jk_round (0 + 1) (by omega) (by omega) ?_ selZ
      rw [htk, ← Int.add_assoc]
      exact covZ
    have hV := Vertex_spec hT d n t
    rw [show vertexR qs cs bs hs d n t = (vtx d n t, 0) by unfold vertexR; rw [if_pos hv, if_pos (by omega)]] at hV
    dsimp only at hV
    have hC := containsInt_spec ω (.slice pf side.length kf) side (vtx d n t) hu (by omega)
    rw [decide_eq_true (hml t ht1 hlt3)] at hC
    refine jk_seq ?_
    refine jk_seq ?_
    refine jk_region ?_
    refine zq_move ?_
    refine zq_fld0 ?_
    refine zq_load ?_
    refine zq_lt ?_
    refine jk_nil ?_
    refine jk_if_t rfl ?_
    refine jk_skip ?_
    refine jk_seq ?_
    refine jk_block ?_
    refine jk_seq ?_
    refine jk_region ?_
    refine zq_loadS ?_
    refine zq_loadS ?_
    refine zq_move ?_
    refine zq_move ?_
    refine jk_call hV rfl rfl rdZ rfl rfl ?_
    rintro _ rfl
    refine zq_move ?_
    refine zq_extract ?_
    refine zq_extract ?_
    refine zq_assign ?_
    refine zq_assign ?_
    refine jk_nil ?_
    refine jk_seq ?_
    refine jk_region ?_
    refine zq_move ?_
    refine zq_neF ?_
    refine zq_move ?_
    refine zq_move ?_
    refine zq_move ?_
    refine jk_call hC rfl rfl rdZ rfl rfl ?_
    rintro _ rfl
    refine zq_not ?_
    refine zq_pick_f ?_
    refine jk_nil ?_
    refine jk_if_f rfl ?_
    refine jk_skip ?_
    refine jk_blk ?_
    refine jk_region ?_
    refine zq_move ?_
    refine zq_add ?_
    refine zq_assign ?_
    refine jk_nil ?_
    exact jk_round (t + 1) ⟨by omega, by omega⟩ (by omega) covZ selZ
  · obtain ⟨y, hyi, hyx⟩ := hprev h0
    obtain ⟨b7, o7, e7, _, z0, z1⟩ := spRow hrz hyi
    simp only [Option.some.injEq, Addr.mk.injEq, and_true] at e7
    obtain ⟨rfl, rfl⟩ := e7
    refine jk_draw (.q 0 (.q 1 (.q 2 (.q 3 (.q 4 (.q 5 (.q 6 (.q 7 (.q 8 (.q 9 (.q 10 (.q 11 (.q 12 (.q 13 (.q 14 (.q 15 (.q 16 (.q 17 (.q 18 (.q 19 (.q 20 (.q 21 (.q 22 (.q 23 (.q 24 (.q 25 (.q 26 (.q 27 (.q 28 (.q 29 (.q 30 (.q 31 (.q 32 (.q 33 (.q 34 .nil))))))))))))))))))))))))))))))))))) [] rfl (by kernel_rfl) Sel.nil ?_
    refine zd_fld0 ?_
    refine zd_load ?_
    refine zd_fld0 ?_
    refine zd_load ?_
    refine zd_ltF ?_
    refine zd_move ?_
    refine zd_fld0 ?_
    refine zd_load ?_
    refine zd_fld0 ?_
    refine zd_load ?_
    refine zd_geF ?_
    refine zd_pick_f ?_
    refine zd_move ?_
    refine zd_fld0 ?_
    refine zd_load ?_
    refine zd_fld0 ?_
    refine zd_load ?_
    refine zd_add ?_
    refine zd_gtF ?_
    refine zd_pick_f ?_
    refine zd_move ?_
    refine zd_move ?_
    refine zd_gt ?_
    refine zd_move ?_
    refine zd_fld0 ?_
    refine zd_load ?_
    refine zd_move ?_
    refine zd_move ?_
    refine zd_sub_nat ?_
    refine zd_idxN ?_
    refine zd_fld ?_
    refine zd_load ?_
    refine zd_leF ?_
    refine zd_pick_t ?_
    refine zd_pick_f ?_
    refine dj_end ?_
    refine jk_if_f rfl ?_
    refine jk_skip ?_
    refine jk_seq ?_
    refine jk_region ?_
    refine zq_move ?_
    refine zq_fld0 ?_
    refine zq_load ?_
    refine zq_fld0 ?_
    refine zq_load ?_
    refine zq_sub ?_
    refine zq_add ?_
    refine zq_assign ?_
    refine jk_nil ?_
    refine jk_seq ?_
    refine jk_region ?_
    refine zq_fld0 ?_
    refine zq_load ?_
    refine zq_assign ?_
    refine jk_nil ?_
    refine jk_block ?_
    refine jk_loop [2, 3, 4, 13, 14, 15, 17, 81, 82, 83, 88, 89, 90] x.1 (fun t => x.1 ≤ t ∧ t ≤ x.2) (fun t => [(18, int t)]) (fun _ => [sng bx (.cells #[int x.1, int x.2] 61 (0, 0))]) (fun t => (x.2 - t).toNat) pickZ ⟨by omega, by omega⟩ covZ selZ ?_
    rintro t ⟨ht1, ht2⟩
    by_cases hlt3 : t < x.2
    rotate_left
    · refine jk_seq ?_
      refine jk_seq ?_
      refine jk_region ?_
      refine zq_move ?_
      refine zq_fld0 ?_
      refine zq_load ?_
      refine zq_ltF ?_
      refine jk_nil ?_
      refine jk_if_f rfl ?_
      refine jk_exit rfl ?_
      refine jk_blk ?_
      refine jk_region ?_
      refine zq_inc ?_
      refine zq_move ?_
      refine jk_nil ?_
      refine jk_round (i + 1) (by omega) (by omega) ?_ selZ
      rw [htk, ← Int.add_assoc]
      exact covZ
    have hV := Vertex_spec hT d n t
    rw [show vertexR qs cs bs hs d n t = (vtx d n t, 0) by unfold vertexR; rw [if_pos hv, if_pos (by omega)]] at hV
    dsimp only at hV
    have hC := containsInt_spec ω (.slice pf side.length kf) side (vtx d n t) hu (by omega)
    rw [decide_eq_true (hml t ht1 hlt3)] at hC
    refine jk_seq ?_
    refine jk_seq ?_
    refine jk_region ?_
    refine zq_move ?_
    refine zq_fld0 ?_
    refine zq_load ?_
    refine zq_lt ?_
    refine jk_nil ?_
    refine jk_if_t rfl ?_
    refine jk_skip ?_
    refine jk_seq ?_
    refine jk_block ?_
    refine jk_seq ?_
    refine jk_region ?_
    refine zq_loadS ?_
    refine zq_loadS ?_
    refine zq_move ?_
    refine zq_move ?_
    refine jk_call hV rfl rfl rdZ rfl rfl ?_
    rintro _ rfl
    refine zq_move ?_
    refine zq_extract ?_
    refine zq_extract ?_
    refine zq_assign ?_
    refine zq_assign ?_
    refine jk_nil ?_
    refine jk_seq ?_
    refine jk_region ?_
    refine zq_move ?_
    refine zq_neF ?_
    refine zq_move ?_
    refine zq_move ?_
    refine zq_move ?_
    refine jk_call hC rfl rfl rdZ rfl rfl ?_
    rintro _ rfl
    refine zq_not ?_
    refine zq_pick_f ?_
    refine jk_nil ?_
    refine jk_if_f rfl ?_
    refine jk_skip ?_
    refine jk_blk ?_
    refine jk_region ?_
    refine zq_move ?_
    refine zq_add ?_
    refine zq_assign ?_
    refine jk_nil ?_
    exact jk_round (t + 1) ⟨by omega, by omega⟩ (by omega) covZ selZ
end Go.Proofs.Ythdoegkjifgegaa
/- The rows: each law, for every input. -/
namespace Go.Proofs.Ythdoegkjifgegaa
open Go.Eng Go.Step
set_option maxRecDepth 100000
set_option maxHeartbeats 4000000
open Go.ChangeShapes Go.WideShapes Go.ChangeAt Go.RowKit

set_option maxRecDepth 100000 in
theorem expandedCuts_lifted (os : Os) (started : os.Started) (H : Type) (enc : TypeId × Value → H) :
    ReturnsInHanded {} Try.checked os 5 .any (Rows.expandedCutsSpec.pre6 enc Try.prog Try.f5 Rows.expandedCutsRow.domain false) (Rows.expandedCutsSpec.post enc Try.prog Try.f5 false true false false) := by
  refine returnsInHanded_of_change (C := Try.checked) Try.own started (by kernel_rfl) Try.func5
    (ChangeSpec.witness6 (enc := enc) (C := Try.checked) false ⟨#[], #[.agg #[.slice none 0 0, .slice none 0 0, .slice none 0 0, .slice none 0 0], .agg #[.int .i64 0, .int .i64 0, .int .i64 0, .int .i64 0, .int .i64 0], .slice none 0 0], []⟩ 8 (by kernel_rfl) (by kernel_rfl) (by kernel_rfl) (by kernel_rfl)) ?_
  intro W base args ds gs before hval0 hW hcnd _
  have hval : ∀ (j : Nat) t v, Try.f5.params[j]? = some t → args[j]? = some v → Value.okWide Try.prog W .any base t v := hval0
  have hW' := hW
  obtain ⟨p, q, hA0, hV, rfl, hfz, hnd⟩ := hW
  have hA : DataW.TrodAll enc Try.prog W 0 (fun _ => true) true Try.f5.params.toList args.toList ds p := hA0
  rw [Try.params5] at hA hval
  obtain ⟨v0, vs0, d0, ds0, p0, q0, hargs, rfl, rfl, h0, r0⟩ := trodAll_cons hA
  obtain ⟨v1, vs1, d1, ds1, p1, q1, rfl, rfl, rfl, h1, r1⟩ := trodAll_cons r0
  obtain ⟨v2, vs2, d2, ds2, p2, q2, rfl, rfl, rfl, h2, r2⟩ := trodAll_cons r1
  obtain ⟨rfl, rfl, rfl⟩ := trodAll_nil r2
  obtain rfl : args = #[v0, v1, v2] := by cases args; simp_all
  obtain ⟨rfl, rfl⟩ := trodVars_none hV
  have lt0 : ∀ x ∈ p0, x.block < W.heap.size := by obtain ⟨m, hm⟩ := h0; exact DataW.trod_lt m _ _ _ hm
  have lt1 : ∀ x ∈ p1, x.block < W.heap.size := by obtain ⟨m, hm⟩ := h1; exact DataW.trod_lt m _ _ _ hm
  have lt2 : ∀ x ∈ p2, x.block < W.heap.size := by obtain ⟨m, hm⟩ := h2; exact DataW.trod_lt m _ _ _ hm
  have hlaw : Ans Try.prog (fv 5) [v0, v1, v2] [heapPH W] (fun v => v = .bool true) := by
    obtain ⟨pq, pc, pb, ph, kq, kc, kb, kh, qs, cs, bs, hs, rfl, hT⟩ := tables_of (hval 0 _ v0 rfl rfl) (RdT.of h0)
    obtain ⟨d, rfl, id0, id1, id2, id3, id4⟩ := demand_of (hval 1 _ v1 rfl rfl) (RdT.of h1)
    obtain ⟨side, hside, _, lside⟩ := intsV_of (hval 2 _ v2 rfl rfl) (RdT.of h2)
    obtain ⟨pf, kf, rfl, _⟩ := hside.val Eng.encI_len
    exact (cuts_law hT d _ pf kf side hside lside).rsub (fun _ h => by simpa using h)
  refine (law_calls Try.func5 rfl rfl hlaw).mono fun e W' ⟨he, bel⟩ => ?_
  subst he
  exact ⟨_, rfl, _, _, _, [], _, [], hW', trodAll_mk1 (shut_bool Try.underlying4 _), (trodAll_cons_mk (Below.trod Try.laidOut (by kernel_rfl) (of_decide_eq_true (by kernel_rfl)) h0 bel lt0) (trodAll_cons_mk (Below.trod Try.laidOut (by kernel_rfl) (of_decide_eq_true (by kernel_rfl)) h1 bel lt1) (trodAll_cons_mk (Below.trod Try.laidOut (by kernel_rfl) (of_decide_eq_true (by kernel_rfl)) h2 bel lt2) trodAll_mk0))), rfl, bel.frame _, fun h => by cases h⟩
theorem expandedCuts_holds : Rows.ExpandedCutsSaid :=
  OpenClaim.holds_of_wide 5 Try.f5 rfl rfl rfl rfl rfl rfl rfl ⟨rfl, rfl, rfl, rfl, rfl⟩ rfl rfl rfl rfl rfl (by kernel_rfl) Try.func5 (by kernel_rfl)
    (of_decide_eq_true (by kernel_rfl)) (by unfold Func.isWrapper; first | (rw [if_pos (by decide +kernel)]; kernel_rfl) | (rw [if_neg (by decide +kernel)]; exact ⟨rfl, rfl⟩))
    (fun os started H enc _ => expandedCuts_lifted os started H enc)
end Go.Proofs.Ythdoegkjifgegaa
