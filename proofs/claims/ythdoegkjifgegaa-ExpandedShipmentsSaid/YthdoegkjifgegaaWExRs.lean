/- Texts of this proof, one after the other; no conditions. -/
import Derived.Test.YthdoegkjifgegaaWB11
import Derived.Test.YthdoegkjifgegaaWB2
import Derived.Test.YthdoegkjifgegaaWB5
set_option linter.all false
/- What nodes get and send. -/
namespace Go.Proofs.Ythdoegkjifgegaa
open Go.Eng Go.Step
set_option maxRecDepth 100000
set_option maxHeartbeats 4000000

set_option maxHeartbeats 64000000 in
theorem shipments_law {ρ τ σ υ : PH} {pq pc pb ph : Option Addr} {kq kc kb kh : Nat} {qs : List Int} {cs : List Ct} {bs : List Bk} {hs : List Hd} (hT : TbAt ρ τ σ υ pq pc pb ph kq kc kb kh qs cs bs hs) (d : Dm) :
    Ans Try.prog (fv 4) [.agg #[.slice pq qs.length kq, .slice pc cs.length kc, .slice pb bs.length kb, .slice ph hs.length kh], .agg #[int d.s, int d.d, int d.v, int d.r, int d.e]] [ρ, τ, σ, υ] (fun r => r = .bool true) := by
  have hf := fine53_spec hT d
  have hG := Graph_spec hT d
  refine spec_in (cap := []) Try.func4 rfl rfl Try.ntmps4 rfl (by (repeat (first | exact EnvA.nil EnvI.nil | apply EnvA.cons | apply EnvA.nil | exact EnvI.nil | apply EnvI.cons)); first | done | fail) (fun N β => ?_)
  refine jk_seq ?_
  refine jk_region ?_
  refine jk_op (l_boxS rfl) rfl rfl rfl ?_
  rintro _ _ ⟨b1, rfl, rfl⟩
  refine jk_freeze (ρ := sng b1 _) takeZ ?_
  have ct : RdN (sng b1 (.cells #[.slice pq qs.length kq, .slice pc cs.length kc, .slice pb bs.length kb, .slice ph hs.length kh] 29 (0, 0))) b1 0 [.slice pq qs.length kq, .slice pc cs.length kc, .slice pb bs.length kb, .slice ph hs.length kh] := rdN_sng (vs := [.slice pq qs.length kq, .slice pc cs.length kc, .slice pb bs.length kb, .slice ph hs.length kh])
  have ct0 : rdc (sng b1 (.cells #[.slice pq qs.length kq, .slice pc cs.length kc, .slice pb bs.length kb, .slice ph hs.length kh] 29 (0, 0))) b1 0 = some (.slice pq qs.length kq) := by rw [rdc_sng]; rfl
  have ct1 : rdc (sng b1 (.cells #[.slice pq qs.length kq, .slice pc cs.length kc, .slice pb bs.length kb, .slice ph hs.length kh] 29 (0, 0))) b1 1 = some (.slice pc cs.length kc) := by rw [rdc_sng]; rfl
  have ct2 : rdc (sng b1 (.cells #[.slice pq qs.length kq, .slice pc cs.length kc, .slice pb bs.length kb, .slice ph hs.length kh] 29 (0, 0))) b1 2 = some (.slice pb bs.length kb) := by rw [rdc_sng]; rfl
  have ct3 : rdc (sng b1 (.cells #[.slice pq qs.length kq, .slice pc cs.length kc, .slice pb bs.length kb, .slice ph hs.length kh] 29 (0, 0))) b1 3 = some (.slice ph hs.length kh) := by rw [rdc_sng]; rfl
  have ctp : RdP (sng b1 (.cells #[.slice pq qs.length kq, .slice pc cs.length kc, .slice pb bs.length kb, .slice ph hs.length kh] 29 (0, 0))) b1 0 [.slice pq qs.length kq, .slice pc cs.length kc] := rdP_sng (xs := [.slice pq qs.length kq, .slice pc cs.length kc, .slice pb bs.length kb, .slice ph hs.length kh]) rfl
  refine jk_op (l_boxS rfl) rfl rfl rfl ?_
  rintro _ _ ⟨b2, rfl, rfl⟩
  refine jk_freeze (ρ := sng b2 _) takeZ ?_
  have cd : RdN (sng b2 (.cells #[int d.s, int d.d, int d.v, int d.r, int d.e] 31 (0, 0))) b2 0 [int d.s, int d.d, int d.v, int d.r, int d.e] := rdN_sng (vs := [int d.s, int d.d, int d.v, int d.r, int d.e])
  have cd0 : rdc (sng b2 (.cells #[int d.s, int d.d, int d.v, int d.r, int d.e] 31 (0, 0))) b2 0 = some (int d.s) := by rw [rdc_sng]; rfl
  have cd1 : rdc (sng b2 (.cells #[int d.s, int d.d, int d.v, int d.r, int d.e] 31 (0, 0))) b2 1 = some (int d.d) := by rw [rdc_sng]; rfl
  have cd2 : rdc (sng b2 (.cells #[int d.s, int d.d, int d.v, int d.r, int d.e] 31 (0, 0))) b2 2 = some (int d.v) := by rw [rdc_sng]; rfl
  have cd3 : rdc (sng b2 (.cells #[int d.s, int d.d, int d.v, int d.r, int d.e] 31 (0, 0))) b2 3 = some (int d.r) := by rw [rdc_sng]; rfl
  have cd4 : rdc (sng b2 (.cells #[int d.s, int d.d, int d.v, int d.r, int d.e] 31 (0, 0))) b2 4 = some (int d.e) := by rw [rdc_sng]; rfl
  refine zq_assign ?_
  refine jk_nil ?_
  refine jk_seq ?_
  refine jk_seq ?_
  refine jk_region ?_
  refine zq_loadS ?_
  refine zq_loadS ?_
  refine jk_call hf rfl rfl rdZ rfl rfl ?_
  rintro _ ⟨fb, rfl, hfb⟩
  cases fb with
  | false =>
    refine zq_not ?_
    refine zq_move ?_
    refine jk_pass rfl rfl rfl ?_
    refine jk_pass rfl rfl rfl ?_
    refine zq_pick_t ?_
    refine jk_nil ?_
    refine jk_if_t rfl ?_
    refine jk_seq ?_
    refine jk_region ?_
    focus ((refine jk_call awake53_spec rfl rfl rdZ rfl rfl ?_; rintro _ rfl))
    refine zq_assign ?_
    refine jk_nil ?_
    exact jk_ret_any (res1 rfl rfl) (by (repeat (first | exact rs_nil | (refine rs_cons ?_ ?_; (focus ((repeat (first | exact .here | apply Mem.there | apply Take.there)); first | done | fail))) | exact fun ρ hρ => hρ | (intro ρ hρ; repeat (first | exact hρ | refine List.mem_cons_of_mem _ ?_)))); first | done | fail) selZ ⟨rfl, rfl⟩
  | true =>
  have hv := hfb rfl
  have h := vok hv
  have hdm := h.dm
  unfold okDm at hdm
  have hnq := h.nq
  have hnc := h.nc
  have hvs := h.vs
  have hEl := ea_len qs cs bs hs d h
  have hAl : (arcsG qs cs bs hs d).length = (arcsE qs cs bs hs d).length := by unfold arcsG; rw [List.length_map]
  obtain ⟨N, hN⟩ : ∃ N : Nat, vsN qs d = N := ⟨(vsN qs d).toNat, by omega⟩
  rw [hN] at hG
  refine zq_not ?_
  refine zq_move ?_
  focus ((refine jk_call awake53_spec rfl rfl rdZ rfl rfl ?_; rintro _ rfl))
  refine zq_not ?_
  refine zq_pick_f ?_
  refine jk_nil ?_
  refine jk_if_f rfl ?_
  refine jk_skip ?_
  refine jk_seq ?_
  refine jk_region ?_
  refine zq_loadS ?_
  refine zq_loadS ?_
  refine jk_callM hG rfl rfl rdZ rfl rfl ?_
  rintro _ σg hg
  rw [if_pos hv] at hg
  obtain ⟨ug, rfl, hOg⟩ := hg
  have hAt : ArcsAt σg ug (arcsG qs cs bs hs d) := hOg.at
  obtain ⟨pg, kg, rfl⟩ := hOg.form
  refine jk_freeze (ρ := σg) takeZ ?_
  refine zq_move ?_
  refine zq_extract ?_
  refine zq_extract ?_
  refine zl_allocS ?_; rintro _ _ ⟨b, rfl, rfl⟩
  refine zs_storeS ?_; rintro _ _ ⟨rfl, rfl⟩
  refine zq_assign ?_
  refine jk_nil ?_
  refine jk_seq ?_
  refine jk_region ?_
  refine zq_fld0 ?_
  refine zq_load ?_
  refine zq_fld0 ?_
  refine zq_load ?_
  refine zq_fld0 ?_
  refine zq_load ?_
  refine zq_fld0 ?_
  refine zq_load ?_
  revert b; intro bg
  refine jk_freeze (ρ := sng bg _) takeZ ?_
  have gg0 : rdc (sng bg (.cells #[int (N : Int), .slice pg (arcsG qs cs bs hs d).length kg, int (vtx d d.s d.r), int (vtx d d.d d.e)] 36 (0, 0))) bg 0 = some (int (N : Int)) := by rw [rdc_sng]; rfl
  have gg1 : rdc (sng bg (.cells #[int (N : Int), .slice pg (arcsG qs cs bs hs d).length kg, int (vtx d d.s d.r), int (vtx d d.d d.e)] 36 (0, 0))) bg 1 = some (.slice pg (arcsG qs cs bs hs d).length kg) := by rw [rdc_sng]; rfl
  have gg2 : rdc (sng bg (.cells #[int (N : Int), .slice pg (arcsG qs cs bs hs d).length kg, int (vtx d d.s d.r), int (vtx d d.d d.e)] 36 (0, 0))) bg 2 = some (int (vtx d d.s d.r)) := by rw [rdc_sng]; rfl
  have gg3 : rdc (sng bg (.cells #[int (N : Int), .slice pg (arcsG qs cs bs hs d).length kg, int (vtx d d.s d.r), int (vtx d d.d d.e)] 36 (0, 0))) bg 3 = some (int (vtx d d.d d.e)) := by rw [rdc_sng]; rfl
  have hM := flowMax_spec σg (.slice pg (arcsG qs cs bs hs d).length kg) N (vtx d d.s d.r) (vtx d d.d d.e) (arcsG qs cs bs hs d) hAt (by omega)
  refine jk_callM hM rfl rfl rdZ rfl rfl ?_
  rintro _ σf ⟨fs, F, m, e, rfl, hF, hm⟩
  obtain ⟨he, N', S, T, hN', hS, hT', hf, hval, _⟩ := max_cut h (show MaxN qs cs bs hs d F m e by unfold MaxN; rw [hN]; exact hm)
  subst he
  obtain ⟨pf, kf, rfl, _⟩ := hF.val Eng.encI_len
  refine jk_freeze (ρ := σf) takeZ ?_
  have hsE : shipsE qs cs bs hs d F = 0 := shipsE_flow h hv hN' hS hT' hf
  have hsR : shipsR qs cs bs hs d F = shipsF (arcsE qs cs bs hs d) F := by unfold shipsR; rw [if_pos hsE]
  have hSh := Shipments_spec hT d σf _ F hF
  rw [hsE, hsR] at hSh
  refine zq_move ?_
  refine zq_extract ?_
  refine zq_extract ?_
  refine zq_extract ?_
  refine zq_assign ?_
  refine zq_assign ?_
  refine zq_assign ?_
  refine jk_nil ?_
  refine jk_seq ?_
  refine jk_region ?_
  refine zq_loadS ?_
  refine zq_loadS ?_
  refine zq_move ?_
  refine jk_callM hSh rfl rfl rdZ rfl rfl ?_
  rintro _ σs ⟨us, rfl, hOs⟩
  have hrules := ships_rules h hf.cap
  have hsl := shipsF_len (arcsE qs cs bs hs d) F
  obtain ⟨ps, ks, rfl⟩ := hOs.form
  have hSA : ShAt σs (.slice ps (shipsF (arcsE qs cs bs hs d) F).length ks) (shipsF (arcsE qs cs bs hs d) F) := hOs.at
  obtain ⟨_, _, es, hrs⟩ := hSA.val encX_len
  simp only [Value.slice.injEq] at es
  obtain ⟨rfl, _, rfl⟩ := es
  refine jk_freeze (ρ := σs) takeZ ?_
  have hdest : ∀ n : Nat, n < qs.length → (n : Int) = d.d → gotS cs n d.e (shipsF (arcsE qs cs bs hs d) F) - sentS cs n d.e (shipsF (arcsE qs cs bs hs d) F) = m := fun n hn he => by
    rw [got_stock (d := d) (by omega), dest_value h hN' hS hT' hf hn he, hval]
  have hmid : ∀ (n : Nat) (Q t : Int), qs[n]? = some Q → (n : Int) ≠ d.s → (n : Int) ≠ d.d → d.r ≤ t → t ≤ d.e → 0 ≤ gotS cs n t (shipsF (arcsE qs cs bs hs d) F) - sentS cs n t (shipsF (arcsE qs cs bs hs d) F) ∧ gotS cs n t (shipsF (arcsE qs cs bs hs d) F) - sentS cs n t (shipsF (arcsE qs cs bs hs d) F) ≤ Q := fun n Q t hQ h1 h2 h3 h4 => by
    rw [got_stock (d := d) h1]
    have k1 := mid_stock h hN' hS hT' hf (List.getElem?_eq_some_iff.1 hQ).1 h2 h3 h4
    have k2 := stored_bd (n := (n : Int)) (t := t) h.hd
    refine ⟨k1.1, Int.le_trans k1.2 ?_⟩
    unfold roomT
    rw [if_neg (by omega), Int.toNat_natCast, List.getD_eq_getElem?_getD, hQ, Option.getD_some]
    omega
  have hsm : ∀ x ∈ shipsF (arcsE qs cs bs hs d) F, 0 ≤ x.n ∧ x.n ≤ 1099511627776 := fun x hx => by
    obtain ⟨i, c, _, hc, h1, h2, _⟩ := hrules x hx
    have := h.ct c (List.mem_of_getElem? hc)
    omega
  generalize shipsF (arcsE qs cs bs hs d) F = l at hrs hrules hsl hdest hmid hsm
  refine zq_move ?_
  refine zq_extract ?_
  refine zq_extract ?_
  refine zq_assign ?_
  refine zq_assign ?_
  refine jk_nil ?_
  refine jk_seq ?_
  refine jk_seq ?_
  refine jk_region ?_
  refine zq_move ?_
  refine zq_neF ?_
  refine zq_move ?_
  refine zq_move ?_
  refine zq_neF ?_
  refine zq_pick_f ?_
  refine zq_move ?_
  refine zq_move ?_
  refine zq_neF ?_
  refine zq_pick_f ?_
  refine jk_nil ?_
  refine jk_if_f rfl ?_
  refine jk_skip ?_
  refine jk_seq ?_
  refine jk_seq ?_
  refine jk_region ?_
  refine zq_fld0 ?_
  refine zq_fld0 ?_
  refine zq_load ?_
  refine zq_len ?_
  refine zq_move ?_
  refine jk_nil ?_
  refine jk_block ?_
  refine jk_loop [2, 3, 8, 10, 67] (0 : Nat) (fun n => n ≤ qs.length) (fun n => [(68, int n)]) (fun _ => []) (fun n => qs.length - n) pickZ (by omega) covZ selZ ?_
  rintro n hn
  by_cases hlt : n < qs.length
  rotate_left
  · refine jk_seq ?_
    refine jk_region ?_
    refine zq_ltF ?_
    refine jk_nil ?_
    refine jk_seq ?_
    refine jk_if_f rfl ?_
    refine jk_exit rfl ?_
    refine jk_seq ?_
    refine jk_region ?_
    refine jk_call awake53_spec rfl rfl rdZ rfl rfl ?_
    rintro _ rfl
    refine zq_assign ?_
    refine jk_nil ?_
    exact jk_ret_any (res1 rfl rfl) (by (repeat (first | exact rs_nil | (refine rs_cons ?_ ?_; (focus ((repeat (first | exact .here | apply Mem.there | apply Take.there)); first | done | fail))) | exact fun ρ hρ => hρ | (intro ρ hρ; repeat (first | exact hρ | refine List.mem_cons_of_mem _ ?_)))); first | done | fail) selZ ⟨rfl, rfl⟩
  have hQ := List.getElem?_eq_getElem hlt
  obtain ⟨bo, oo, epq, gq⟩ := hT.rq.int hQ
  have hdn := hdest n hlt
  have hmn := fun t => hmid n qs[n] t hQ
  generalize qs[n] = Q at hQ gq hmn
  subst epq
  refine jk_seq ?_
  refine jk_region ?_
  refine zq_lt ?_
  refine jk_nil ?_
  refine jk_seq ?_
  refine jk_if_t rfl ?_
  refine jk_skip ?_
  refine jk_seq ?_
  refine jk_block ?_
  refine jk_seq ?_
  refine jk_region ?_
  refine zq_move ?_
  refine zq_assign ?_
  refine jk_nil ?_
  refine jk_seq ?_
  refine jk_region ?_
  refine zq_fld0 ?_
  refine zq_load ?_
  refine zq_assign ?_
  refine jk_nil ?_
  refine jk_block ?_
  refine jk_loop [2, 3, 8, 10, 12, 67, 68] d.r (fun t => d.r ≤ t ∧ t ≤ d.e + 1) (fun t => [(13, int t)]) (fun _ => []) (fun t => (d.e + 1 - t).toNat) pickZ (by omega) covZ selZ ?_
  rintro t ⟨ht1, ht2⟩
  by_cases hte : t ≤ d.e
  rotate_left
  · refine jk_seq ?_
    refine jk_seq ?_
    refine jk_region ?_
    refine zq_move ?_
    refine zq_fld0 ?_
    refine zq_load ?_
    refine zq_leF ?_
    refine jk_nil ?_
    refine jk_if_f rfl ?_
    refine jk_exit rfl ?_
    refine jk_blk ?_
    refine jk_region ?_
    refine zq_inc ?_
    refine zq_move ?_
    refine jk_nil ?_
    exact jk_round (n + 1) (by omega) (by omega) covZ selZ
  have hmt := fun h1 h2 => hmn t h1 h2 ht1 hte
  refine jk_seq ?_
  refine jk_seq ?_
  refine jk_region ?_
  refine zq_move ?_
  refine zq_fld0 ?_
  refine zq_load ?_
  refine zq_le ?_
  refine jk_nil ?_
  refine jk_if_t rfl ?_
  refine jk_skip ?_
  refine jk_seq ?_
  refine jk_block ?_
  refine jk_seq ?_
  refine jk_region ?_
  refine zq_assign ?_
  refine zq_assign ?_
  refine jk_nil ?_
  refine jk_seq ?_
  refine jk_seq ?_
  refine jk_region ?_
  refine zq_move ?_
  refine zq_len ?_
  refine zq_move ?_
  refine jk_nil ?_
  refine jk_block ?_
  refine jk_loop [2, 3, 8, 10, 12, 13, 67, 68, 79, 80] (0 : Nat) (fun k => k ≤ l.length) (fun k => [(81, int k), (14, int (gotS cs n t (l.take k))), (15, int (sentS cs n t (l.take k)))]) (fun _ => []) (fun k => l.length - k) pickZ (by omega) covZ selZ ?_
  rintro k hk
  have hgb := gotS_bd (cs := cs) (n := n) (t := t) (l := l.take k) (fun y hy => hsm y (List.mem_of_mem_take hy))
  have hsb := sentS_bd (cs := cs) (n := n) (t := t) (l := l.take k) (fun y hy => hsm y (List.mem_of_mem_take hy))
  rw [List.length_take] at hgb hsb
  by_cases hlk : k < l.length
  rotate_left
  · have hke : k = l.length := by omega
    subst hke
    rw [List.take_length] at hgb hsb ⊢
    by_cases z1 : (n : Int) = d.d
    · by_cases z2 : t = d.e
      · have hd2 := hdn z1
        rw [← z2] at hd2
        refine jk_seq ?_
        refine jk_region ?_
        refine zq_ltF ?_
        refine jk_nil ?_
        refine jk_seq ?_
        refine jk_if_f rfl ?_
        refine jk_exit rfl ?_
        refine jk_seq ?_
        refine jk_seq ?_
        refine jk_region ?_
        refine zq_move ?_
        refine zq_fld0 ?_
        refine zq_load ?_
        refine zq_eq ?_
        refine zq_move ?_
        refine zq_move ?_
        refine zq_fld0 ?_
        refine zq_load ?_
        refine zq_eq ?_
        refine zq_pick_t ?_
        refine zq_move ?_
        refine zq_move ?_
        refine zq_move ?_
        refine zq_sub ?_
        refine zq_move ?_
        refine zq_neF ?_
        refine zq_pick_t ?_
        refine jk_nil ?_
        refine jk_if_f rfl ?_
        refine jk_skip ?_
        refine jk_seq ?_
        refine jk_region ?_
        refine zq_move ?_
        refine zq_fld0 ?_
        refine zq_load ?_
        refine zq_ne ?_
        refine zq_move ?_
        refine zq_move ?_
        refine zq_fld0 ?_
        refine zq_load ?_
        refine zq_neF ?_
        refine zq_pick_t ?_
        refine zq_move ?_
        refine jk_pass rfl rfl rfl ?_
        refine jk_pass rfl rfl rfl ?_
        refine jk_pass rfl rfl rfl ?_
        refine jk_pass rfl rfl rfl ?_
        refine jk_pass rfl rfl rfl ?_
        refine jk_pass rfl rfl rfl ?_
        refine jk_pass rfl rfl rfl ?_
        refine jk_pass rfl rfl rfl ?_
        refine jk_pass rfl rfl rfl ?_
        refine jk_pass rfl rfl rfl ?_
        refine jk_pass rfl rfl rfl ?_
        refine jk_pass rfl rfl rfl ?_
        refine jk_pass rfl rfl rfl ?_
        refine jk_pass rfl rfl rfl ?_
        refine jk_pass rfl rfl rfl ?_
        refine jk_pass rfl rfl rfl ?_
        refine jk_pass rfl rfl rfl ?_
        refine jk_pass rfl rfl rfl ?_
        refine jk_pass rfl rfl rfl ?_
        refine jk_pass rfl rfl rfl ?_
        refine jk_pass rfl rfl rfl ?_
        refine zq_pick_f ?_
        refine jk_nil ?_
        refine jk_if_f rfl ?_
        refine jk_skip ?_
        refine jk_blk ?_
        refine jk_region ?_
        refine zq_move ?_
        refine zq_add ?_
        refine zq_assign ?_
        refine jk_nil ?_
        exact jk_round (t + 1) ⟨by omega, by omega⟩ (by omega) covZ selZ
      · refine jk_seq ?_
        refine jk_region ?_
        refine zq_ltF ?_
        refine jk_nil ?_
        refine jk_seq ?_
        refine jk_if_f rfl ?_
        refine jk_exit rfl ?_
        refine jk_seq ?_
        refine jk_seq ?_
        refine jk_region ?_
        refine zq_move ?_
        refine zq_fld0 ?_
        refine zq_load ?_
        refine zq_eq ?_
        refine zq_move ?_
        refine zq_move ?_
        refine zq_fld0 ?_
        refine zq_load ?_
        refine zq_eqF ?_
        refine zq_pick_t ?_
        refine zq_move ?_
        refine jk_pass rfl rfl rfl ?_
        refine jk_pass rfl rfl rfl ?_
        refine jk_pass rfl rfl rfl ?_
        refine jk_pass rfl rfl rfl ?_
        refine jk_pass rfl rfl rfl ?_
        refine zq_pick_f ?_
        refine jk_nil ?_
        refine jk_if_f rfl ?_
        refine jk_skip ?_
        refine jk_seq ?_
        refine jk_region ?_
        refine zq_move ?_
        refine zq_fld0 ?_
        refine zq_load ?_
        refine zq_ne ?_
        refine zq_move ?_
        refine zq_move ?_
        refine zq_fld0 ?_
        refine zq_load ?_
        refine zq_neF ?_
        refine zq_pick_t ?_
        refine zq_move ?_
        refine jk_pass rfl rfl rfl ?_
        refine jk_pass rfl rfl rfl ?_
        refine jk_pass rfl rfl rfl ?_
        refine jk_pass rfl rfl rfl ?_
        refine jk_pass rfl rfl rfl ?_
        refine jk_pass rfl rfl rfl ?_
        refine jk_pass rfl rfl rfl ?_
        refine jk_pass rfl rfl rfl ?_
        refine jk_pass rfl rfl rfl ?_
        refine jk_pass rfl rfl rfl ?_
        refine jk_pass rfl rfl rfl ?_
        refine jk_pass rfl rfl rfl ?_
        refine jk_pass rfl rfl rfl ?_
        refine jk_pass rfl rfl rfl ?_
        refine jk_pass rfl rfl rfl ?_
        refine jk_pass rfl rfl rfl ?_
        refine jk_pass rfl rfl rfl ?_
        refine jk_pass rfl rfl rfl ?_
        refine jk_pass rfl rfl rfl ?_
        refine jk_pass rfl rfl rfl ?_
        refine jk_pass rfl rfl rfl ?_
        refine zq_pick_f ?_
        refine jk_nil ?_
        refine jk_if_f rfl ?_
        refine jk_skip ?_
        refine jk_blk ?_
        refine jk_region ?_
        refine zq_move ?_
        refine zq_add ?_
        refine zq_assign ?_
        refine jk_nil ?_
        exact jk_round (t + 1) ⟨by omega, by omega⟩ (by omega) covZ selZ
    · by_cases z3 : (n : Int) = d.s
      · refine jk_seq ?_
        refine jk_region ?_
        refine zq_ltF ?_
        refine jk_nil ?_
        refine jk_seq ?_
        refine jk_if_f rfl ?_
        refine jk_exit rfl ?_
        refine jk_seq ?_
        refine jk_seq ?_
        refine jk_region ?_
        refine zq_move ?_
        refine zq_fld0 ?_
        refine zq_load ?_
        refine zq_eqF ?_
        refine zq_move ?_
        refine jk_pass rfl rfl rfl ?_
        refine jk_pass rfl rfl rfl ?_
        refine jk_pass rfl rfl rfl ?_
        refine jk_pass rfl rfl rfl ?_
        refine zq_pick_f ?_
        refine zq_move ?_
        refine jk_pass rfl rfl rfl ?_
        refine jk_pass rfl rfl rfl ?_
        refine jk_pass rfl rfl rfl ?_
        refine jk_pass rfl rfl rfl ?_
        refine jk_pass rfl rfl rfl ?_
        refine zq_pick_f ?_
        refine jk_nil ?_
        refine jk_if_f rfl ?_
        refine jk_skip ?_
        refine jk_seq ?_
        refine jk_region ?_
        refine zq_move ?_
        refine zq_fld0 ?_
        refine zq_load ?_
        refine zq_neF ?_
        refine zq_move ?_
        refine jk_pass rfl rfl rfl ?_
        refine jk_pass rfl rfl rfl ?_
        refine jk_pass rfl rfl rfl ?_
        refine jk_pass rfl rfl rfl ?_
        refine zq_pick_f ?_
        refine zq_move ?_
        refine jk_pass rfl rfl rfl ?_
        refine jk_pass rfl rfl rfl ?_
        refine jk_pass rfl rfl rfl ?_
        refine jk_pass rfl rfl rfl ?_
        refine jk_pass rfl rfl rfl ?_
        refine jk_pass rfl rfl rfl ?_
        refine jk_pass rfl rfl rfl ?_
        refine jk_pass rfl rfl rfl ?_
        refine jk_pass rfl rfl rfl ?_
        refine jk_pass rfl rfl rfl ?_
        refine jk_pass rfl rfl rfl ?_
        refine jk_pass rfl rfl rfl ?_
        refine jk_pass rfl rfl rfl ?_
        refine jk_pass rfl rfl rfl ?_
        refine jk_pass rfl rfl rfl ?_
        refine jk_pass rfl rfl rfl ?_
        refine jk_pass rfl rfl rfl ?_
        refine jk_pass rfl rfl rfl ?_
        refine jk_pass rfl rfl rfl ?_
        refine jk_pass rfl rfl rfl ?_
        refine jk_pass rfl rfl rfl ?_
        refine zq_pick_f ?_
        refine jk_nil ?_
        refine jk_if_f rfl ?_
        refine jk_skip ?_
        refine jk_blk ?_
        refine jk_region ?_
        refine zq_move ?_
        refine zq_add ?_
        refine zq_assign ?_
        refine jk_nil ?_
        exact jk_round (t + 1) ⟨by omega, by omega⟩ (by omega) covZ selZ
      · have hmm := hmt z3 z1
        by_cases z2 : t < d.e
        · refine jk_seq ?_
          refine jk_region ?_
          refine zq_ltF ?_
          refine jk_nil ?_
          refine jk_seq ?_
          refine jk_if_f rfl ?_
          refine jk_exit rfl ?_
          refine jk_seq ?_
          refine jk_seq ?_
          refine jk_region ?_
          refine zq_move ?_
          refine zq_fld0 ?_
          refine zq_load ?_
          refine zq_eqF ?_
          refine zq_move ?_
          refine jk_pass rfl rfl rfl ?_
          refine jk_pass rfl rfl rfl ?_
          refine jk_pass rfl rfl rfl ?_
          refine jk_pass rfl rfl rfl ?_
          refine zq_pick_f ?_
          refine zq_move ?_
          refine jk_pass rfl rfl rfl ?_
          refine jk_pass rfl rfl rfl ?_
          refine jk_pass rfl rfl rfl ?_
          refine jk_pass rfl rfl rfl ?_
          refine jk_pass rfl rfl rfl ?_
          refine zq_pick_f ?_
          refine jk_nil ?_
          refine jk_if_f rfl ?_
          refine jk_skip ?_
          refine jk_seq ?_
          refine jk_region ?_
          refine zq_move ?_
          refine zq_fld0 ?_
          refine zq_load ?_
          refine zq_ne ?_
          refine zq_move ?_
          refine zq_move ?_
          refine zq_fld0 ?_
          refine zq_load ?_
          refine zq_ne ?_
          refine zq_pick_t ?_
          refine zq_move ?_
          refine zq_move ?_
          refine zq_move ?_
          refine zq_gtF ?_
          refine zq_move ?_
          refine zq_move ?_
          refine zq_fld0 ?_
          refine zq_load ?_
          refine zq_lt ?_
          refine zq_move ?_
          refine zq_move ?_
          refine zq_move ?_
          refine zq_sub ?_
          refine zq_fld0 ?_
          refine zq_fld0 ?_
          refine zq_load ?_
          refine zq_move ?_
          refine zq_idx1 ?_
          refine zq_load ?_
          refine zq_gtF ?_
          refine zq_pick_t ?_
          refine zq_pick_f ?_
          refine zq_pick_t ?_
          refine jk_nil ?_
          refine jk_if_f rfl ?_
          refine jk_skip ?_
          refine jk_blk ?_
          refine jk_region ?_
          refine zq_move ?_
          refine zq_add ?_
          refine zq_assign ?_
          refine jk_nil ?_
          exact jk_round (t + 1) ⟨by omega, by omega⟩ (by omega) covZ selZ
        · refine jk_seq ?_
          refine jk_region ?_
          refine zq_ltF ?_
          refine jk_nil ?_
          refine jk_seq ?_
          refine jk_if_f rfl ?_
          refine jk_exit rfl ?_
          refine jk_seq ?_
          refine jk_seq ?_
          refine jk_region ?_
          refine zq_move ?_
          refine zq_fld0 ?_
          refine zq_load ?_
          refine zq_eqF ?_
          refine zq_move ?_
          refine jk_pass rfl rfl rfl ?_
          refine jk_pass rfl rfl rfl ?_
          refine jk_pass rfl rfl rfl ?_
          refine jk_pass rfl rfl rfl ?_
          refine zq_pick_f ?_
          refine zq_move ?_
          refine jk_pass rfl rfl rfl ?_
          refine jk_pass rfl rfl rfl ?_
          refine jk_pass rfl rfl rfl ?_
          refine jk_pass rfl rfl rfl ?_
          refine jk_pass rfl rfl rfl ?_
          refine zq_pick_f ?_
          refine jk_nil ?_
          refine jk_if_f rfl ?_
          refine jk_skip ?_
          refine jk_seq ?_
          refine jk_region ?_
          refine zq_move ?_
          refine zq_fld0 ?_
          refine zq_load ?_
          refine zq_ne ?_
          refine zq_move ?_
          refine zq_move ?_
          refine zq_fld0 ?_
          refine zq_load ?_
          refine zq_ne ?_
          refine zq_pick_t ?_
          refine zq_move ?_
          refine zq_move ?_
          refine zq_move ?_
          refine zq_gtF ?_
          refine zq_move ?_
          refine zq_move ?_
          refine zq_fld0 ?_
          refine zq_load ?_
          refine zq_ltF ?_
          refine zq_move ?_
          refine jk_pass rfl rfl rfl ?_
          refine jk_pass rfl rfl rfl ?_
          refine jk_pass rfl rfl rfl ?_
          refine jk_pass rfl rfl rfl ?_
          refine jk_pass rfl rfl rfl ?_
          refine jk_pass rfl rfl rfl ?_
          refine jk_pass rfl rfl rfl ?_
          refine jk_pass rfl rfl rfl ?_
          refine jk_pass rfl rfl rfl ?_
          refine jk_pass rfl rfl rfl ?_
          refine zq_pick_f ?_
          refine zq_pick_f ?_
          refine zq_pick_t ?_
          refine jk_nil ?_
          refine jk_if_f rfl ?_
          refine jk_skip ?_
          refine jk_blk ?_
          refine jk_region ?_
          refine zq_move ?_
          refine zq_add ?_
          refine zq_assign ?_
          refine jk_nil ?_
          exact jk_round (t + 1) ⟨by omega, by omega⟩ (by omega) covZ selZ
  have hx := List.getElem?_eq_getElem hlk
  obtain ⟨i, c, hxc, hci, r1, r2, r3, r4, r5, r6⟩ := hrules _ (List.getElem_mem hlk)
  have hck := h.ct c (List.mem_of_getElem? hci)
  have hil := (List.getElem?_eq_some_iff.1 hci).1
  have hgn := gotS_snoc cs n t l[k] (l.take k)
  have hsn := sentS_snoc cs n t l[k] (l.take k)
  rw [← List.take_succ_eq_append_getElem hlk] at hgn hsn
  obtain ⟨b5, o5, eps, hrx, x0, x1, x2⟩ := shRow hrs hx
  generalize l[k] = x at hx hxc r1 r2 r3 r4 r5 r6 hgn hsn hrx x0 x1 x2
  obtain ⟨xc, xt, xn⟩ := x
  dsimp only at hxc r1 r2 r3 r4 r5 r6 hrx x0 x1 x2
  subst hxc
  unfold arrOf at hgn
  rw [ctOf_get hci] at hgn hsn
  dsimp only at hgn hsn
  obtain ⟨b4, o4, epc, hrd⟩ := ctRow hT.rc hci
  subst eps epc
  have hgk : (c.t = n ∧ xt + 1 + c.g ≤ t ∧ gotS cs n t (l.take (k + 1)) = gotS cs n t (l.take k) + xn) ∨ (c.t = n ∧ t < xt + 1 + c.g ∧ gotS cs n t (l.take (k + 1)) = gotS cs n t (l.take k)) ∨ (c.t ≠ n ∧ gotS cs n t (l.take (k + 1)) = gotS cs n t (l.take k)) := by
    rw [hgn]; split <;> omega
  have hsk : (c.f = n ∧ xt ≤ t ∧ sentS cs n t (l.take (k + 1)) = sentS cs n t (l.take k) + xn) ∨ (c.f = n ∧ t < xt ∧ sentS cs n t (l.take (k + 1)) = sentS cs n t (l.take k)) ∨ (c.f ≠ n ∧ sentS cs n t (l.take (k + 1)) = sentS cs n t (l.take k)) := by
    rw [hsn]; split <;> omega
  clear hgn hsn
  rcases hgk with ⟨p1, p2, p3⟩ | ⟨p1, p2, p3⟩ | ⟨p1, p3⟩
  · rcases hsk with ⟨q1, q2, q3⟩ | ⟨q1, q2, q3⟩ | ⟨q1, q3⟩
    · refine jk_seq ?_
      refine jk_region ?_
      refine zq_lt ?_
      refine jk_nil ?_
      refine jk_seq ?_
      refine jk_if_t rfl ?_
      refine jk_skip ?_
      refine jk_seq ?_
      refine jk_block ?_
      refine jk_seq ?_
      refine jk_region ?_
      refine zq_idxN ?_
      refine zq_loadS ?_
      refine zl_allocS ?_; rintro _ _ ⟨b, rfl, rfl⟩
      refine zs_storeS ?_; rintro _ _ ⟨rfl, rfl⟩
      refine jk_nil ?_
      refine jk_seq ?_
      refine jk_seq ?_
      refine jk_region ?_
      refine zq_fld0 ?_
      refine zq_load ?_
      refine zq_ltF ?_
      refine zq_move ?_
      refine zq_fld0 ?_
      refine zq_load ?_
      refine zq_fld0 ?_
      refine zq_fld0 ?_
      refine zq_load ?_
      refine zq_len ?_
      refine zq_geF ?_
      refine zq_pick_f ?_
      refine zq_move ?_
      refine zq_fld0 ?_
      refine zq_load ?_
      refine zq_ltF ?_
      refine zq_pick_f ?_
      refine jk_nil ?_
      refine jk_if_f rfl ?_
      refine jk_skip ?_
      refine jk_seq ?_
      refine jk_region ?_
      refine zq_fld0 ?_
      refine zq_fld0 ?_
      refine zq_load ?_
      refine zq_fld0 ?_
      refine zq_load ?_
      refine zq_idxN ?_
      refine zq_loadS ?_
      refine zl_allocS ?_; rintro _ _ ⟨b, rfl, rfl⟩
      refine zs_storeS ?_; rintro _ _ ⟨rfl, rfl⟩
      refine jk_nil ?_
      refine jk_seq ?_
      refine jk_seq ?_
      refine jk_region ?_
      refine zq_fld0 ?_
      refine zq_load ?_
      refine zq_fld0 ?_
      refine zq_load ?_
      refine zq_gtF ?_
      refine zq_move ?_
      refine zq_fld0 ?_
      refine zq_load ?_
      refine zq_fld0 ?_
      refine zq_load ?_
      refine zq_ltF ?_
      refine zq_pick_f ?_
      refine zq_move ?_
      refine zq_fld0 ?_
      refine zq_load ?_
      refine zq_fld0 ?_
      refine zq_load ?_
      refine zq_geF ?_
      refine zq_pick_f ?_
      refine zq_move ?_
      refine zq_fld0 ?_
      refine zq_load ?_
      refine zq_fld0 ?_
      refine zq_load ?_
      refine zq_ltF ?_
      refine zq_pick_f ?_
      refine zq_move ?_
      refine zq_fld0 ?_
      refine zq_load ?_
      refine zq_add ?_
      refine zq_fld0 ?_
      refine zq_load ?_
      refine zq_add ?_
      refine zq_fld0 ?_
      refine zq_load ?_
      refine zq_gtF ?_
      refine zq_pick_f ?_
      refine jk_nil ?_
      refine jk_if_f rfl ?_
      refine jk_skip ?_
      refine jk_seq ?_
      refine jk_seq ?_
      refine jk_region ?_
      refine zq_fld0 ?_
      refine zq_load ?_
      refine zq_move ?_
      refine zq_eq ?_
      refine zq_move ?_
      refine zq_fld0 ?_
      refine zq_load ?_
      refine zq_add ?_
      refine zq_fld0 ?_
      refine zq_load ?_
      refine zq_add ?_
      refine zq_move ?_
      refine zq_le ?_
      refine zq_pick_t ?_
      refine jk_nil ?_
      refine jk_if_t rfl ?_
      refine jk_region ?_
      refine zq_move ?_
      refine zq_fld0 ?_
      refine zq_load ?_
      refine zq_add ?_
      refine zq_assign ?_
      refine jk_nil ?_
      refine jk_seq ?_
      refine jk_region ?_
      refine zq_fld0 ?_
      refine zq_load ?_
      refine zq_move ?_
      refine zq_eq ?_
      refine zq_move ?_
      refine zq_fld0 ?_
      refine zq_load ?_
      refine zq_move ?_
      refine zq_le ?_
      refine zq_pick_t ?_
      refine jk_nil ?_
      refine jk_if_t rfl ?_
      refine jk_region ?_
      refine zq_move ?_
      refine zq_fld0 ?_
      refine zq_load ?_
      refine zq_add ?_
      refine zq_assign ?_
      refine jk_nil ?_
      refine jk_blk ?_
      refine jk_region ?_
      refine zq_inc ?_
      refine zq_move ?_
      refine jk_nil ?_
      refine jk_round (k + 1) (by omega) (by omega) ?_ selZ
      rw [p3, q3]
      exact covZ
    · exact absurd q2 (by omega)
    · refine jk_seq ?_
      refine jk_region ?_
      refine zq_lt ?_
      refine jk_nil ?_
      refine jk_seq ?_
      refine jk_if_t rfl ?_
      refine jk_skip ?_
      refine jk_seq ?_
      refine jk_block ?_
      refine jk_seq ?_
      refine jk_region ?_
      refine zq_idxN ?_
      refine zq_loadS ?_
      refine zl_allocS ?_; rintro _ _ ⟨b, rfl, rfl⟩
      refine zs_storeS ?_; rintro _ _ ⟨rfl, rfl⟩
      refine jk_nil ?_
      refine jk_seq ?_
      refine jk_seq ?_
      refine jk_region ?_
      refine zq_fld0 ?_
      refine zq_load ?_
      refine zq_ltF ?_
      refine zq_move ?_
      refine zq_fld0 ?_
      refine zq_load ?_
      refine zq_fld0 ?_
      refine zq_fld0 ?_
      refine zq_load ?_
      refine zq_len ?_
      refine zq_geF ?_
      refine zq_pick_f ?_
      refine zq_move ?_
      refine zq_fld0 ?_
      refine zq_load ?_
      refine zq_ltF ?_
      refine zq_pick_f ?_
      refine jk_nil ?_
      refine jk_if_f rfl ?_
      refine jk_skip ?_
      refine jk_seq ?_
      refine jk_region ?_
      refine zq_fld0 ?_
      refine zq_fld0 ?_
      refine zq_load ?_
      refine zq_fld0 ?_
      refine zq_load ?_
      refine zq_idxN ?_
      refine zq_loadS ?_
      refine zl_allocS ?_; rintro _ _ ⟨b, rfl, rfl⟩
      refine zs_storeS ?_; rintro _ _ ⟨rfl, rfl⟩
      refine jk_nil ?_
      refine jk_seq ?_
      refine jk_seq ?_
      refine jk_region ?_
      refine zq_fld0 ?_
      refine zq_load ?_
      refine zq_fld0 ?_
      refine zq_load ?_
      refine zq_gtF ?_
      refine zq_move ?_
      refine zq_fld0 ?_
      refine zq_load ?_
      refine zq_fld0 ?_
      refine zq_load ?_
      refine zq_ltF ?_
      refine zq_pick_f ?_
      refine zq_move ?_
      refine zq_fld0 ?_
      refine zq_load ?_
      refine zq_fld0 ?_
      refine zq_load ?_
      refine zq_geF ?_
      refine zq_pick_f ?_
      refine zq_move ?_
      refine zq_fld0 ?_
      refine zq_load ?_
      refine zq_fld0 ?_
      refine zq_load ?_
      refine zq_ltF ?_
      refine zq_pick_f ?_
      refine zq_move ?_
      refine zq_fld0 ?_
      refine zq_load ?_
      refine zq_add ?_
      refine zq_fld0 ?_
      refine zq_load ?_
      refine zq_add ?_
      refine zq_fld0 ?_
      refine zq_load ?_
      refine zq_gtF ?_
      refine zq_pick_f ?_
      refine jk_nil ?_
      refine jk_if_f rfl ?_
      refine jk_skip ?_
      refine jk_seq ?_
      refine jk_seq ?_
      refine jk_region ?_
      refine zq_fld0 ?_
      refine zq_load ?_
      refine zq_move ?_
      refine zq_eq ?_
      refine zq_move ?_
      refine zq_fld0 ?_
      refine zq_load ?_
      refine zq_add ?_
      refine zq_fld0 ?_
      refine zq_load ?_
      refine zq_add ?_
      refine zq_move ?_
      refine zq_le ?_
      refine zq_pick_t ?_
      refine jk_nil ?_
      refine jk_if_t rfl ?_
      refine jk_region ?_
      refine zq_move ?_
      refine zq_fld0 ?_
      refine zq_load ?_
      refine zq_add ?_
      refine zq_assign ?_
      refine jk_nil ?_
      refine jk_seq ?_
      refine jk_region ?_
      refine zq_fld0 ?_
      refine zq_load ?_
      refine zq_move ?_
      refine zq_eqF ?_
      refine zq_move ?_
      refine jk_pass rfl rfl rfl ?_
      refine jk_pass rfl rfl rfl ?_
      refine jk_pass rfl rfl rfl ?_
      refine jk_pass rfl rfl rfl ?_
      refine zq_pick_f ?_
      refine jk_nil ?_
      refine jk_if_f rfl ?_
      refine jk_skip ?_
      refine jk_blk ?_
      refine jk_region ?_
      refine zq_inc ?_
      refine zq_move ?_
      refine jk_nil ?_
      refine jk_round (k + 1) (by omega) (by omega) ?_ selZ
      rw [p3, q3]
      exact covZ
  · rcases hsk with ⟨q1, q2, q3⟩ | ⟨q1, q2, q3⟩ | ⟨q1, q3⟩
    · refine jk_seq ?_
      refine jk_region ?_
      refine zq_lt ?_
      refine jk_nil ?_
      refine jk_seq ?_
      refine jk_if_t rfl ?_
      refine jk_skip ?_
      refine jk_seq ?_
      refine jk_block ?_
      refine jk_seq ?_
      refine jk_region ?_
      refine zq_idxN ?_
      refine zq_loadS ?_
      refine zl_allocS ?_; rintro _ _ ⟨b, rfl, rfl⟩
      refine zs_storeS ?_; rintro _ _ ⟨rfl, rfl⟩
      refine jk_nil ?_
      refine jk_seq ?_
      refine jk_seq ?_
      refine jk_region ?_
      refine zq_fld0 ?_
      refine zq_load ?_
      refine zq_ltF ?_
      refine zq_move ?_
      refine zq_fld0 ?_
      refine zq_load ?_
      refine zq_fld0 ?_
      refine zq_fld0 ?_
      refine zq_load ?_
      refine zq_len ?_
      refine zq_geF ?_
      refine zq_pick_f ?_
      refine zq_move ?_
      refine zq_fld0 ?_
      refine zq_load ?_
      refine zq_ltF ?_
      refine zq_pick_f ?_
      refine jk_nil ?_
      refine jk_if_f rfl ?_
      refine jk_skip ?_
      refine jk_seq ?_
      refine jk_region ?_
      refine zq_fld0 ?_
      refine zq_fld0 ?_
      refine zq_load ?_
      refine zq_fld0 ?_
      refine zq_load ?_
      refine zq_idxN ?_
      refine zq_loadS ?_
      refine zl_allocS ?_; rintro _ _ ⟨b, rfl, rfl⟩
      refine zs_storeS ?_; rintro _ _ ⟨rfl, rfl⟩
      refine jk_nil ?_
      refine jk_seq ?_
      refine jk_seq ?_
      refine jk_region ?_
      refine zq_fld0 ?_
      refine zq_load ?_
      refine zq_fld0 ?_
      refine zq_load ?_
      refine zq_gtF ?_
      refine zq_move ?_
      refine zq_fld0 ?_
      refine zq_load ?_
      refine zq_fld0 ?_
      refine zq_load ?_
      refine zq_ltF ?_
      refine zq_pick_f ?_
      refine zq_move ?_
      refine zq_fld0 ?_
      refine zq_load ?_
      refine zq_fld0 ?_
      refine zq_load ?_
      refine zq_geF ?_
      refine zq_pick_f ?_
      refine zq_move ?_
      refine zq_fld0 ?_
      refine zq_load ?_
      refine zq_fld0 ?_
      refine zq_load ?_
      refine zq_ltF ?_
      refine zq_pick_f ?_
      refine zq_move ?_
      refine zq_fld0 ?_
      refine zq_load ?_
      refine zq_add ?_
      refine zq_fld0 ?_
      refine zq_load ?_
      refine zq_add ?_
      refine zq_fld0 ?_
      refine zq_load ?_
      refine zq_gtF ?_
      refine zq_pick_f ?_
      refine jk_nil ?_
      refine jk_if_f rfl ?_
      refine jk_skip ?_
      refine jk_seq ?_
      refine jk_seq ?_
      refine jk_region ?_
      refine zq_fld0 ?_
      refine zq_load ?_
      refine zq_move ?_
      refine zq_eq ?_
      refine zq_move ?_
      refine zq_fld0 ?_
      refine zq_load ?_
      refine zq_add ?_
      refine zq_fld0 ?_
      refine zq_load ?_
      refine zq_add ?_
      refine zq_move ?_
      refine zq_leF ?_
      refine zq_pick_t ?_
      refine jk_nil ?_
      refine jk_if_f rfl ?_
      refine jk_skip ?_
      refine jk_seq ?_
      refine jk_region ?_
      refine zq_fld0 ?_
      refine zq_load ?_
      refine zq_move ?_
      refine zq_eq ?_
      refine zq_move ?_
      refine zq_fld0 ?_
      refine zq_load ?_
      refine zq_move ?_
      refine zq_le ?_
      refine zq_pick_t ?_
      refine jk_nil ?_
      refine jk_if_t rfl ?_
      refine jk_region ?_
      refine zq_move ?_
      refine zq_fld0 ?_
      refine zq_load ?_
      refine zq_add ?_
      refine zq_assign ?_
      refine jk_nil ?_
      refine jk_blk ?_
      refine jk_region ?_
      refine zq_inc ?_
      refine zq_move ?_
      refine jk_nil ?_
      refine jk_round (k + 1) (by omega) (by omega) ?_ selZ
      rw [p3, q3]
      exact covZ
    · refine jk_seq ?_
      refine jk_region ?_
      refine zq_lt ?_
      refine jk_nil ?_
      refine jk_seq ?_
      refine jk_if_t rfl ?_
      refine jk_skip ?_
      refine jk_seq ?_
      refine jk_block ?_
      refine jk_seq ?_
      refine jk_region ?_
      refine zq_idxN ?_
      refine zq_loadS ?_
      refine zl_allocS ?_; rintro _ _ ⟨b, rfl, rfl⟩
      refine zs_storeS ?_; rintro _ _ ⟨rfl, rfl⟩
      refine jk_nil ?_
      refine jk_seq ?_
      refine jk_seq ?_
      refine jk_region ?_
      refine zq_fld0 ?_
      refine zq_load ?_
      refine zq_ltF ?_
      refine zq_move ?_
      refine zq_fld0 ?_
      refine zq_load ?_
      refine zq_fld0 ?_
      refine zq_fld0 ?_
      refine zq_load ?_
      refine zq_len ?_
      refine zq_geF ?_
      refine zq_pick_f ?_
      refine zq_move ?_
      refine zq_fld0 ?_
      refine zq_load ?_
      refine zq_ltF ?_
      refine zq_pick_f ?_
      refine jk_nil ?_
      refine jk_if_f rfl ?_
      refine jk_skip ?_
      refine jk_seq ?_
      refine jk_region ?_
      refine zq_fld0 ?_
      refine zq_fld0 ?_
      refine zq_load ?_
      refine zq_fld0 ?_
      refine zq_load ?_
      refine zq_idxN ?_
      refine zq_loadS ?_
      refine zl_allocS ?_; rintro _ _ ⟨b, rfl, rfl⟩
      refine zs_storeS ?_; rintro _ _ ⟨rfl, rfl⟩
      refine jk_nil ?_
      refine jk_seq ?_
      refine jk_seq ?_
      refine jk_region ?_
      refine zq_fld0 ?_
      refine zq_load ?_
      refine zq_fld0 ?_
      refine zq_load ?_
      refine zq_gtF ?_
      refine zq_move ?_
      refine zq_fld0 ?_
      refine zq_load ?_
      refine zq_fld0 ?_
      refine zq_load ?_
      refine zq_ltF ?_
      refine zq_pick_f ?_
      refine zq_move ?_
      refine zq_fld0 ?_
      refine zq_load ?_
      refine zq_fld0 ?_
      refine zq_load ?_
      refine zq_geF ?_
      refine zq_pick_f ?_
      refine zq_move ?_
      refine zq_fld0 ?_
      refine zq_load ?_
      refine zq_fld0 ?_
      refine zq_load ?_
      refine zq_ltF ?_
      refine zq_pick_f ?_
      refine zq_move ?_
      refine zq_fld0 ?_
      refine zq_load ?_
      refine zq_add ?_
      refine zq_fld0 ?_
      refine zq_load ?_
      refine zq_add ?_
      refine zq_fld0 ?_
      refine zq_load ?_
      refine zq_gtF ?_
      refine zq_pick_f ?_
      refine jk_nil ?_
      refine jk_if_f rfl ?_
      refine jk_skip ?_
      refine jk_seq ?_
      refine jk_seq ?_
      refine jk_region ?_
      refine zq_fld0 ?_
      refine zq_load ?_
      refine zq_move ?_
      refine zq_eq ?_
      refine zq_move ?_
      refine zq_fld0 ?_
      refine zq_load ?_
      refine zq_add ?_
      refine zq_fld0 ?_
      refine zq_load ?_
      refine zq_add ?_
      refine zq_move ?_
      refine zq_leF ?_
      refine zq_pick_t ?_
      refine jk_nil ?_
      refine jk_if_f rfl ?_
      refine jk_skip ?_
      refine jk_seq ?_
      refine jk_region ?_
      refine zq_fld0 ?_
      refine zq_load ?_
      refine zq_move ?_
      refine zq_eq ?_
      refine zq_move ?_
      refine zq_fld0 ?_
      refine zq_load ?_
      refine zq_move ?_
      refine zq_leF ?_
      refine zq_pick_t ?_
      refine jk_nil ?_
      refine jk_if_f rfl ?_
      refine jk_skip ?_
      refine jk_blk ?_
      refine jk_region ?_
      refine zq_inc ?_
      refine zq_move ?_
      refine jk_nil ?_
      refine jk_round (k + 1) (by omega) (by omega) ?_ selZ
      rw [p3, q3]
      exact covZ
    · refine jk_seq ?_
      refine jk_region ?_
      refine zq_lt ?_
      refine jk_nil ?_
      refine jk_seq ?_
      refine jk_if_t rfl ?_
      refine jk_skip ?_
      refine jk_seq ?_
      refine jk_block ?_
      refine jk_seq ?_
      refine jk_region ?_
      refine zq_idxN ?_
      refine zq_loadS ?_
      refine zl_allocS ?_; rintro _ _ ⟨b, rfl, rfl⟩
      refine zs_storeS ?_; rintro _ _ ⟨rfl, rfl⟩
      refine jk_nil ?_
      refine jk_seq ?_
      refine jk_seq ?_
      refine jk_region ?_
      refine zq_fld0 ?_
      refine zq_load ?_
      refine zq_ltF ?_
      refine zq_move ?_
      refine zq_fld0 ?_
      refine zq_load ?_
      refine zq_fld0 ?_
      refine zq_fld0 ?_
      refine zq_load ?_
      refine zq_len ?_
      refine zq_geF ?_
      refine zq_pick_f ?_
      refine zq_move ?_
      refine zq_fld0 ?_
      refine zq_load ?_
      refine zq_ltF ?_
      refine zq_pick_f ?_
      refine jk_nil ?_
      refine jk_if_f rfl ?_
      refine jk_skip ?_
      refine jk_seq ?_
      refine jk_region ?_
      refine zq_fld0 ?_
      refine zq_fld0 ?_
      refine zq_load ?_
      refine zq_fld0 ?_
      refine zq_load ?_
      refine zq_idxN ?_
      refine zq_loadS ?_
      refine zl_allocS ?_; rintro _ _ ⟨b, rfl, rfl⟩
      refine zs_storeS ?_; rintro _ _ ⟨rfl, rfl⟩
      refine jk_nil ?_
      refine jk_seq ?_
      refine jk_seq ?_
      refine jk_region ?_
      refine zq_fld0 ?_
      refine zq_load ?_
      refine zq_fld0 ?_
      refine zq_load ?_
      refine zq_gtF ?_
      refine zq_move ?_
      refine zq_fld0 ?_
      refine zq_load ?_
      refine zq_fld0 ?_
      refine zq_load ?_
      refine zq_ltF ?_
      refine zq_pick_f ?_
      refine zq_move ?_
      refine zq_fld0 ?_
      refine zq_load ?_
      refine zq_fld0 ?_
      refine zq_load ?_
      refine zq_geF ?_
      refine zq_pick_f ?_
      refine zq_move ?_
      refine zq_fld0 ?_
      refine zq_load ?_
      refine zq_fld0 ?_
      refine zq_load ?_
      refine zq_ltF ?_
      refine zq_pick_f ?_
      refine zq_move ?_
      refine zq_fld0 ?_
      refine zq_load ?_
      refine zq_add ?_
      refine zq_fld0 ?_
      refine zq_load ?_
      refine zq_add ?_
      refine zq_fld0 ?_
      refine zq_load ?_
      refine zq_gtF ?_
      refine zq_pick_f ?_
      refine jk_nil ?_
      refine jk_if_f rfl ?_
      refine jk_skip ?_
      refine jk_seq ?_
      refine jk_seq ?_
      refine jk_region ?_
      refine zq_fld0 ?_
      refine zq_load ?_
      refine zq_move ?_
      refine zq_eq ?_
      refine zq_move ?_
      refine zq_fld0 ?_
      refine zq_load ?_
      refine zq_add ?_
      refine zq_fld0 ?_
      refine zq_load ?_
      refine zq_add ?_
      refine zq_move ?_
      refine zq_leF ?_
      refine zq_pick_t ?_
      refine jk_nil ?_
      refine jk_if_f rfl ?_
      refine jk_skip ?_
      refine jk_seq ?_
      refine jk_region ?_
      refine zq_fld0 ?_
      refine zq_load ?_
      refine zq_move ?_
      refine zq_eqF ?_
      refine zq_move ?_
      refine jk_pass rfl rfl rfl ?_
      refine jk_pass rfl rfl rfl ?_
      refine jk_pass rfl rfl rfl ?_
      refine jk_pass rfl rfl rfl ?_
      refine zq_pick_f ?_
      refine jk_nil ?_
      refine jk_if_f rfl ?_
      refine jk_skip ?_
      refine jk_blk ?_
      refine jk_region ?_
      refine zq_inc ?_
      refine zq_move ?_
      refine jk_nil ?_
      refine jk_round (k + 1) (by omega) (by omega) ?_ selZ
      rw [p3, q3]
      exact covZ
  · rcases hsk with ⟨q1, q2, q3⟩ | ⟨q1, q2, q3⟩ | ⟨q1, q3⟩
    · refine jk_seq ?_
      refine jk_region ?_
      refine zq_lt ?_
      refine jk_nil ?_
      refine jk_seq ?_
      refine jk_if_t rfl ?_
      refine jk_skip ?_
      refine jk_seq ?_
      refine jk_block ?_
      refine jk_seq ?_
      refine jk_region ?_
      refine zq_idxN ?_
      refine zq_loadS ?_
      refine zl_allocS ?_; rintro _ _ ⟨b, rfl, rfl⟩
      refine zs_storeS ?_; rintro _ _ ⟨rfl, rfl⟩
      refine jk_nil ?_
      refine jk_seq ?_
      refine jk_seq ?_
      refine jk_region ?_
      refine zq_fld0 ?_
      refine zq_load ?_
      refine zq_ltF ?_
      refine zq_move ?_
      refine zq_fld0 ?_
      refine zq_load ?_
      refine zq_fld0 ?_
      refine zq_fld0 ?_
      refine zq_load ?_
      refine zq_len ?_
      refine zq_geF ?_
      refine zq_pick_f ?_
      refine zq_move ?_
      refine zq_fld0 ?_
      refine zq_load ?_
      refine zq_ltF ?_
      refine zq_pick_f ?_
      refine jk_nil ?_
      refine jk_if_f rfl ?_
      refine jk_skip ?_
      refine jk_seq ?_
      refine jk_region ?_
      refine zq_fld0 ?_
      refine zq_fld0 ?_
      refine zq_load ?_
      refine zq_fld0 ?_
      refine zq_load ?_
      refine zq_idxN ?_
      refine zq_loadS ?_
      refine zl_allocS ?_; rintro _ _ ⟨b, rfl, rfl⟩
      refine zs_storeS ?_; rintro _ _ ⟨rfl, rfl⟩
      refine jk_nil ?_
      refine jk_seq ?_
      refine jk_seq ?_
      refine jk_region ?_
      refine zq_fld0 ?_
      refine zq_load ?_
      refine zq_fld0 ?_
      refine zq_load ?_
      refine zq_gtF ?_
      refine zq_move ?_
      refine zq_fld0 ?_
      refine zq_load ?_
      refine zq_fld0 ?_
      refine zq_load ?_
      refine zq_ltF ?_
      refine zq_pick_f ?_
      refine zq_move ?_
      refine zq_fld0 ?_
      refine zq_load ?_
      refine zq_fld0 ?_
      refine zq_load ?_
      refine zq_geF ?_
      refine zq_pick_f ?_
      refine zq_move ?_
      refine zq_fld0 ?_
      refine zq_load ?_
      refine zq_fld0 ?_
      refine zq_load ?_
      refine zq_ltF ?_
      refine zq_pick_f ?_
      refine zq_move ?_
      refine zq_fld0 ?_
      refine zq_load ?_
      refine zq_add ?_
      refine zq_fld0 ?_
      refine zq_load ?_
      refine zq_add ?_
      refine zq_fld0 ?_
      refine zq_load ?_
      refine zq_gtF ?_
      refine zq_pick_f ?_
      refine jk_nil ?_
      refine jk_if_f rfl ?_
      refine jk_skip ?_
      refine jk_seq ?_
      refine jk_seq ?_
      refine jk_region ?_
      refine zq_fld0 ?_
      refine zq_load ?_
      refine zq_move ?_
      refine zq_eqF ?_
      refine zq_move ?_
      refine jk_pass rfl rfl rfl ?_
      refine jk_pass rfl rfl rfl ?_
      refine jk_pass rfl rfl rfl ?_
      refine jk_pass rfl rfl rfl ?_
      refine jk_pass rfl rfl rfl ?_
      refine jk_pass rfl rfl rfl ?_
      refine jk_pass rfl rfl rfl ?_
      refine jk_pass rfl rfl rfl ?_
      refine zq_pick_f ?_
      refine jk_nil ?_
      refine jk_if_f rfl ?_
      refine jk_skip ?_
      refine jk_seq ?_
      refine jk_region ?_
      refine zq_fld0 ?_
      refine zq_load ?_
      refine zq_move ?_
      refine zq_eq ?_
      refine zq_move ?_
      refine zq_fld0 ?_
      refine zq_load ?_
      refine zq_move ?_
      refine zq_le ?_
      refine zq_pick_t ?_
      refine jk_nil ?_
      refine jk_if_t rfl ?_
      refine jk_region ?_
      refine zq_move ?_
      refine zq_fld0 ?_
      refine zq_load ?_
      refine zq_add ?_
      refine zq_assign ?_
      refine jk_nil ?_
      refine jk_blk ?_
      refine jk_region ?_
      refine zq_inc ?_
      refine zq_move ?_
      refine jk_nil ?_
      refine jk_round (k + 1) (by omega) (by omega) ?_ selZ
      rw [p3, q3]
      exact covZ
    · refine jk_seq ?_
      refine jk_region ?_
      refine zq_lt ?_
      refine jk_nil ?_
      refine jk_seq ?_
      refine jk_if_t rfl ?_
      refine jk_skip ?_
      refine jk_seq ?_
      refine jk_block ?_
      refine jk_seq ?_
      refine jk_region ?_
      refine zq_idxN ?_
      refine zq_loadS ?_
      refine zl_allocS ?_; rintro _ _ ⟨b, rfl, rfl⟩
      refine zs_storeS ?_; rintro _ _ ⟨rfl, rfl⟩
      refine jk_nil ?_
      refine jk_seq ?_
      refine jk_seq ?_
      refine jk_region ?_
      refine zq_fld0 ?_
      refine zq_load ?_
      refine zq_ltF ?_
      refine zq_move ?_
      refine zq_fld0 ?_
      refine zq_load ?_
      refine zq_fld0 ?_
      refine zq_fld0 ?_
      refine zq_load ?_
      refine zq_len ?_
      refine zq_geF ?_
      refine zq_pick_f ?_
      refine zq_move ?_
      refine zq_fld0 ?_
      refine zq_load ?_
      refine zq_ltF ?_
      refine zq_pick_f ?_
      refine jk_nil ?_
      refine jk_if_f rfl ?_
      refine jk_skip ?_
      refine jk_seq ?_
      refine jk_region ?_
      refine zq_fld0 ?_
      refine zq_fld0 ?_
      refine zq_load ?_
      refine zq_fld0 ?_
      refine zq_load ?_
      refine zq_idxN ?_
      refine zq_loadS ?_
      refine zl_allocS ?_; rintro _ _ ⟨b, rfl, rfl⟩
      refine zs_storeS ?_; rintro _ _ ⟨rfl, rfl⟩
      refine jk_nil ?_
      refine jk_seq ?_
      refine jk_seq ?_
      refine jk_region ?_
      refine zq_fld0 ?_
      refine zq_load ?_
      refine zq_fld0 ?_
      refine zq_load ?_
      refine zq_gtF ?_
      refine zq_move ?_
      refine zq_fld0 ?_
      refine zq_load ?_
      refine zq_fld0 ?_
      refine zq_load ?_
      refine zq_ltF ?_
      refine zq_pick_f ?_
      refine zq_move ?_
      refine zq_fld0 ?_
      refine zq_load ?_
      refine zq_fld0 ?_
      refine zq_load ?_
      refine zq_geF ?_
      refine zq_pick_f ?_
      refine zq_move ?_
      refine zq_fld0 ?_
      refine zq_load ?_
      refine zq_fld0 ?_
      refine zq_load ?_
      refine zq_ltF ?_
      refine zq_pick_f ?_
      refine zq_move ?_
      refine zq_fld0 ?_
      refine zq_load ?_
      refine zq_add ?_
      refine zq_fld0 ?_
      refine zq_load ?_
      refine zq_add ?_
      refine zq_fld0 ?_
      refine zq_load ?_
      refine zq_gtF ?_
      refine zq_pick_f ?_
      refine jk_nil ?_
      refine jk_if_f rfl ?_
      refine jk_skip ?_
      refine jk_seq ?_
      refine jk_seq ?_
      refine jk_region ?_
      refine zq_fld0 ?_
      refine zq_load ?_
      refine zq_move ?_
      refine zq_eqF ?_
      refine zq_move ?_
      refine jk_pass rfl rfl rfl ?_
      refine jk_pass rfl rfl rfl ?_
      refine jk_pass rfl rfl rfl ?_
      refine jk_pass rfl rfl rfl ?_
      refine jk_pass rfl rfl rfl ?_
      refine jk_pass rfl rfl rfl ?_
      refine jk_pass rfl rfl rfl ?_
      refine jk_pass rfl rfl rfl ?_
      refine zq_pick_f ?_
      refine jk_nil ?_
      refine jk_if_f rfl ?_
      refine jk_skip ?_
      refine jk_seq ?_
      refine jk_region ?_
      refine zq_fld0 ?_
      refine zq_load ?_
      refine zq_move ?_
      refine zq_eq ?_
      refine zq_move ?_
      refine zq_fld0 ?_
      refine zq_load ?_
      refine zq_move ?_
      refine zq_leF ?_
      refine zq_pick_t ?_
      refine jk_nil ?_
      refine jk_if_f rfl ?_
      refine jk_skip ?_
      refine jk_blk ?_
      refine jk_region ?_
      refine zq_inc ?_
      refine zq_move ?_
      refine jk_nil ?_
      refine jk_round (k + 1) (by omega) (by omega) ?_ selZ
      rw [p3, q3]
      exact covZ
    · refine jk_seq ?_
      refine jk_region ?_
      refine zq_lt ?_
      refine jk_nil ?_
      refine jk_seq ?_
      refine jk_if_t rfl ?_
      refine jk_skip ?_
      refine jk_seq ?_
      refine jk_block ?_
      refine jk_seq ?_
      refine jk_region ?_
      refine zq_idxN ?_
      refine zq_loadS ?_
      refine zl_allocS ?_; rintro _ _ ⟨b, rfl, rfl⟩
      refine zs_storeS ?_; rintro _ _ ⟨rfl, rfl⟩
      refine jk_nil ?_
      refine jk_seq ?_
      refine jk_seq ?_
      refine jk_region ?_
      refine zq_fld0 ?_
      refine zq_load ?_
      refine zq_ltF ?_
      refine zq_move ?_
      refine zq_fld0 ?_
      refine zq_load ?_
      refine zq_fld0 ?_
      refine zq_fld0 ?_
      refine zq_load ?_
      refine zq_len ?_
      refine zq_geF ?_
      refine zq_pick_f ?_
      refine zq_move ?_
      refine zq_fld0 ?_
      refine zq_load ?_
      refine zq_ltF ?_
      refine zq_pick_f ?_
      refine jk_nil ?_
      refine jk_if_f rfl ?_
      refine jk_skip ?_
      refine jk_seq ?_
      refine jk_region ?_
      refine zq_fld0 ?_
      refine zq_fld0 ?_
      refine zq_load ?_
      refine zq_fld0 ?_
      refine zq_load ?_
      refine zq_idxN ?_
      refine zq_loadS ?_
      refine zl_allocS ?_; rintro _ _ ⟨b, rfl, rfl⟩
      refine zs_storeS ?_; rintro _ _ ⟨rfl, rfl⟩
      refine jk_nil ?_
      refine jk_seq ?_
      refine jk_seq ?_
      refine jk_region ?_
      refine zq_fld0 ?_
      refine zq_load ?_
      refine zq_fld0 ?_
      refine zq_load ?_
      refine zq_gtF ?_
      refine zq_move ?_
      refine zq_fld0 ?_
      refine zq_load ?_
      refine zq_fld0 ?_
      refine zq_load ?_
      refine zq_ltF ?_
      refine zq_pick_f ?_
      refine zq_move ?_
      refine zq_fld0 ?_
      refine zq_load ?_
      refine zq_fld0 ?_
      refine zq_load ?_
      refine zq_geF ?_
      refine zq_pick_f ?_
      refine zq_move ?_
      refine zq_fld0 ?_
      refine zq_load ?_
      refine zq_fld0 ?_
      refine zq_load ?_
      refine zq_ltF ?_
      refine zq_pick_f ?_
      refine zq_move ?_
      refine zq_fld0 ?_
      refine zq_load ?_
      refine zq_add ?_
      refine zq_fld0 ?_
      refine zq_load ?_
      refine zq_add ?_
      refine zq_fld0 ?_
      refine zq_load ?_
      refine zq_gtF ?_
      refine zq_pick_f ?_
      refine jk_nil ?_
      refine jk_if_f rfl ?_
      refine jk_skip ?_
      refine jk_seq ?_
      refine jk_seq ?_
      refine jk_region ?_
      refine zq_fld0 ?_
      refine zq_load ?_
      refine zq_move ?_
      refine zq_eqF ?_
      refine zq_move ?_
      refine jk_pass rfl rfl rfl ?_
      refine jk_pass rfl rfl rfl ?_
      refine jk_pass rfl rfl rfl ?_
      refine jk_pass rfl rfl rfl ?_
      refine jk_pass rfl rfl rfl ?_
      refine jk_pass rfl rfl rfl ?_
      refine jk_pass rfl rfl rfl ?_
      refine jk_pass rfl rfl rfl ?_
      refine zq_pick_f ?_
      refine jk_nil ?_
      refine jk_if_f rfl ?_
      refine jk_skip ?_
      refine jk_seq ?_
      refine jk_region ?_
      refine zq_fld0 ?_
      refine zq_load ?_
      refine zq_move ?_
      refine zq_eqF ?_
      refine zq_move ?_
      refine jk_pass rfl rfl rfl ?_
      refine jk_pass rfl rfl rfl ?_
      refine jk_pass rfl rfl rfl ?_
      refine jk_pass rfl rfl rfl ?_
      refine zq_pick_f ?_
      refine jk_nil ?_
      refine jk_if_f rfl ?_
      refine jk_skip ?_
      refine jk_blk ?_
      refine jk_region ?_
      refine zq_inc ?_
      refine zq_move ?_
      refine jk_nil ?_
      refine jk_round (k + 1) (by omega) (by omega) ?_ selZ
      rw [p3, q3]
      exact covZ
end Go.Proofs.Ythdoegkjifgegaa
/- The rows: each law, for every input. -/
namespace Go.Proofs.Ythdoegkjifgegaa
open Go.Eng Go.Step
set_option maxRecDepth 100000
set_option maxHeartbeats 4000000
open Go.ChangeShapes Go.WideShapes Go.ChangeAt Go.RowKit

set_option maxRecDepth 100000 in
theorem expandedShipments_lifted (os : Os) (started : os.Started) (H : Type) (enc : TypeId × Value → H) :
    ReturnsInHanded {} Try.checked os 4 .any (Rows.expandedShipmentsSpec.pre6 enc Try.prog Try.f4 Rows.expandedShipmentsRow.domain false) (Rows.expandedShipmentsSpec.post enc Try.prog Try.f4 false true false false) := by
  refine returnsInHanded_of_change (C := Try.checked) Try.own started (by kernel_rfl) Try.func4
    (ChangeSpec.witness6 (enc := enc) (C := Try.checked) false ⟨#[], #[.agg #[.slice none 0 0, .slice none 0 0, .slice none 0 0, .slice none 0 0], .agg #[.int .i64 0, .int .i64 0, .int .i64 0, .int .i64 0, .int .i64 0]], []⟩ 8 (by kernel_rfl) (by kernel_rfl) (by kernel_rfl) (by kernel_rfl)) ?_
  intro W base args ds gs before hval0 hW hcnd _
  have hval : ∀ (j : Nat) t v, Try.f4.params[j]? = some t → args[j]? = some v → Value.okWide Try.prog W .any base t v := hval0
  have hW' := hW
  obtain ⟨p, q, hA0, hV, rfl, hfz, hnd⟩ := hW
  have hA : DataW.TrodAll enc Try.prog W 0 (fun _ => true) true Try.f4.params.toList args.toList ds p := hA0
  rw [Try.params4] at hA hval
  obtain ⟨v0, vs0, d0, ds0, p0, q0, hargs, rfl, rfl, h0, r0⟩ := trodAll_cons hA
  obtain ⟨v1, vs1, d1, ds1, p1, q1, rfl, rfl, rfl, h1, r1⟩ := trodAll_cons r0
  obtain ⟨rfl, rfl, rfl⟩ := trodAll_nil r1
  obtain rfl : args = #[v0, v1] := by cases args; simp_all
  obtain ⟨rfl, rfl⟩ := trodVars_none hV
  have lt0 : ∀ x ∈ p0, x.block < W.heap.size := by obtain ⟨m, hm⟩ := h0; exact DataW.trod_lt m _ _ _ hm
  have lt1 : ∀ x ∈ p1, x.block < W.heap.size := by obtain ⟨m, hm⟩ := h1; exact DataW.trod_lt m _ _ _ hm
  have hlaw : Ans Try.prog (fv 4) [v0, v1] [heapPH W] (fun v => v = .bool true) := by
    obtain ⟨pq, pc, pb, ph, kq, kc, kb, kh, qs, cs, bs, hs, rfl, hT⟩ := tables_of (hval 0 _ v0 rfl rfl) (RdT.of h0)
    obtain ⟨d, rfl, id0, id1, id2, id3, id4⟩ := demand_of (hval 1 _ v1 rfl rfl) (RdT.of h1)
    exact (shipments_law hT d).rsub (fun _ h => by simpa using h)
  refine (law_calls Try.func4 rfl rfl hlaw).mono fun e W' ⟨he, bel⟩ => ?_
  subst he
  exact ⟨_, rfl, _, _, _, [], _, [], hW', trodAll_mk1 (shut_bool Try.underlying4 _), (trodAll_cons_mk (Below.trod Try.laidOut (by kernel_rfl) (of_decide_eq_true (by kernel_rfl)) h0 bel lt0) (trodAll_cons_mk (Below.trod Try.laidOut (by kernel_rfl) (of_decide_eq_true (by kernel_rfl)) h1 bel lt1) trodAll_mk0)), rfl, bel.frame _, fun h => by cases h⟩
theorem expandedShipments_holds : Rows.ExpandedShipmentsSaid :=
  OpenClaim.holds_of_wide 4 Try.f4 rfl rfl rfl rfl rfl rfl rfl ⟨rfl, rfl, rfl, rfl, rfl⟩ rfl rfl rfl rfl rfl (by kernel_rfl) Try.func4 (by kernel_rfl)
    (of_decide_eq_true (by kernel_rfl)) (by unfold Func.isWrapper; first | (rw [if_pos (by decide +kernel)]; kernel_rfl) | (rw [if_neg (by decide +kernel)]; exact ⟨rfl, rfl⟩))
    (fun os started H enc _ => expandedShipments_lifted os started H enc)
end Go.Proofs.Ythdoegkjifgegaa
