/- Texts of this proof, one after the other; no conditions. -/
import Derived.Test.YthdoegkjifgegaaGreatWB11
import Derived.Test.YthdoegkjifgegaaGreatWB3
import Derived.Test.YthdoegkjifgegaaGreatWB7
import Derived.Test.YthdoegkjifgegaaGreatWB10
import Derived.Test.YthdoegkjifgegaaGreatWB2
import Derived.Test.YthdoegkjifgegaaGreatWB1
set_option linter.all false
/- Cuts of sets of vertices. -/
namespace Go.Proofs.YthdoegkjifgegaaGreat
open Go.Eng Go.Step
set_option maxRecDepth 100000
set_option maxHeartbeats 4000000

def rowsQ (L : List Sq) : List Value := L.map (fun x => .slice x.1.1 x.2.length x.1.2)
theorem rowsQ_flat : ∀ L : List Sq, L.flatMap encQ = rowsQ L
  | [] => rfl
  | x :: L => by
    rw [List.flatMap_cons, rowsQ_flat L]
    rfl
theorem rowsQ_len (L : List Sq) : (rowsQ L).length = L.length := List.length_map _
theorem rowsQ_set (L : List Sq) (k : Nat) (z : Sq) : (rowsQ L).toArray.setIfInBounds k (.slice z.1.1 z.2.length z.1.2) = (rowsQ (L.set k z)).toArray := by
  apply Array.toList_inj.1
  rw [Array.toList_setIfInBounds]
  unfold rowsQ
  rw [List.map_set]
theorem rowsQ_rep (n : Nat) : List.replicate n (Value.slice none 0 0) = rowsQ (List.replicate n ((none, 0), [])) := by
  unfold rowsQ
  rw [List.map_replicate]
  rfl
theorem exOr_spec (x y : Bool) : Ans Tryz.prog (fv 93) [.bool x, .bool y] [] (fun r => r = .bool (x || y)) := by
  refine spec_in (cap := []) Tryz.func93 rfl rfl Tryz.ntmps93 rfl (by (repeat (first | exact EnvA.nil EnvI.nil | apply EnvA.cons | apply EnvA.nil | exact EnvI.nil | apply EnvI.cons)); first | done | fail) (fun N β => ?_)
  cases x <;> cases y
  all_goals
    repeat' (first
      | (refine zq_move ?_)
      | (refine zq_assign ?_)
      | (refine zq_pick_t ?_)
      | (refine zq_pick_f ?_)
      | (refine jk_seq ?_)
      | (refine jk_region ?_)
      | (refine jk_nil ?_)
      | (refine jk_pass rfl rfl rfl ?_)
      | fail)
    exact jk_ret_any (res1 rfl rfl) (by (repeat (first | exact rs_nil | (refine rs_cons ?_ ?_; (focus ((repeat (first | exact .here | apply Mem.there | apply Take.there)); first | done | fail))) | exact fun ρ hρ => hρ | (intro ρ hρ; repeat (first | exact hρ | refine List.mem_cons_of_mem _ ?_)))); first | done | fail) selZ ⟨rfl, rfl⟩
theorem exUnion_spec (ρ τ : PH) (va vb : Value) (a b : Iv) (ha : SpAt ρ va a) (hb : SpAt τ vb b) (h0a : chkI a = 0) (h0b : chkI b = 0) (hlen : a.length + b.length ≤ 1000) :
    Makes Tryz.prog (fv 48) [va, vb] [ρ, τ] (fun r σ => ∃ u, r = .tuple #[u, int 0] ∧ OwnS 61 2 u (combI (fun x y => x || y) a b).length ((combI (fun x y => x || y) a b).flatMap encS) σ) := by
  have h := ivCombine_spec ρ τ va vb 93 a b (fun x y => x || y) ha hb h0a h0b hlen rfl exOr_spec
  obtain ⟨qa, ca, rfl, _⟩ := ha.val encS_len
  obtain ⟨qb, cb, rfl, _⟩ := hb.val encS_len
  refine spec_in (cap := []) Tryz.func48 rfl rfl Tryz.ntmps48 rfl (by (repeat (first | exact EnvA.nil EnvI.nil | apply EnvA.cons | apply EnvA.nil | exact EnvI.nil | apply EnvI.cons)); first | done | fail) (fun N β => ?_)
  refine jk_seq ?_
  refine jk_region ?_
  refine zq_assign ?_
  refine zq_assign ?_
  refine jk_nil ?_
  refine jk_seq ?_
  refine jk_region ?_
  refine zq_move ?_
  refine zq_move ?_
  refine jk_callM h rfl rfl rdZ rfl rfl ?_
  rintro _ σ ⟨u, rfl, hO⟩
  refine zq_extract ?_
  refine zq_extract ?_
  refine zq_assign ?_
  refine zq_assign ?_
  refine jk_nil ?_
  exact jk_ret_any (res2 rfl rfl rfl) (by (repeat (first | exact rs_nil | (refine rs_cons ?_ ?_; (focus ((repeat (first | exact .here | apply Mem.there | apply Take.there)); first | done | fail))) | exact fun ρ hρ => hρ | (intro ρ hρ; repeat (first | exact hρ | refine List.mem_cons_of_mem _ ?_)))); first | done | fail) selZ ⟨σ, ⟨u, rfl, hO⟩, rfl⟩
set_option maxHeartbeats 32000000 in
theorem Sides_spec {ρ τ σ υ : PH} {pq pc pb ph : Option Addr} {kq kc kb kh : Nat} {qs : List Int} {cs : List Ct} {bs : List Bk} {hs : List Hd} (hT : TbAt ρ τ σ υ pq pc pb ph kq kc kb kh qs cs bs hs) (d : Dm) (ω : PH) (u0 : Value) (side : List Int) (hu : IntsAt ω u0 side) (hsl : side.length ≤ 900) :
    Eng.Spec Tryz.prog (fv 19) [.agg #[.slice pq qs.length kq, .slice pc cs.length kc, .slice pb bs.length kb, .slice ph hs.length kh], .agg #[int d.s, int d.d, int d.v, int d.r, int d.e], u0] [ρ, τ, σ, υ, ω] [] (fun r H' => ∃ (L : List Sq) (u : Value) (σ' χ' : PH), r = .tuple #[u, int (sidesE qs cs bs hs d side)] ∧ H' = [σ', χ'] ∧ cuL L = (if sidesE qs cs bs hs d side = 0 then sidesC d qs.length side else []) ∧ CutL σ' χ' u L) := by
  obtain ⟨pf, kf, rfl, hrf⟩ := hu.val Eng.encI_len
  have hnil : CutL emp emp (.slice none 0 0) [] := ⟨⟨rfl, .inl ⟨rfl, none, 0, rfl⟩⟩, by simp⟩
  refine spec_in (cap := []) Tryz.func19 rfl rfl Tryz.ntmps19 rfl (by (repeat (first | exact EnvA.nil EnvI.nil | apply EnvA.cons | apply EnvA.nil | exact EnvI.nil | apply EnvI.cons)); first | done | fail) (fun N β => ?_)
  refine jk_seq ?_
  refine jk_region ?_
  refine jk_op (l_boxS rfl) rfl rfl rfl ?_
  rintro _ _ ⟨b1, rfl, rfl⟩
  refine jk_freeze (ρ := sng b1 _) takeZ ?_
  have ct : RdN (sng b1 (.cells #[.slice pq qs.length kq, .slice pc cs.length kc, .slice pb bs.length kb, .slice ph hs.length kh] 29 (0, 0))) b1 0 [.slice pq qs.length kq, .slice pc cs.length kc, .slice pb bs.length kb, .slice ph hs.length kh] := rdN_sng (vs := [.slice pq qs.length kq, .slice pc cs.length kc, .slice pb bs.length kb, .slice ph hs.length kh])
  have ct0 : rdc (sng b1 (.cells #[.slice pq qs.length kq, .slice pc cs.length kc, .slice pb bs.length kb, .slice ph hs.length kh] 29 (0, 0))) b1 0 = some (.slice pq qs.length kq) := by rw [rdc_sng]; rfl
  have ct1 : rdc (sng b1 (.cells #[.slice pq qs.length kq, .slice pc cs.length kc, .slice pb bs.length kb, .slice ph hs.length kh] 29 (0, 0))) b1 1 = some (.slice pc cs.length kc) := by rw [rdc_sng]; rfl
  have ct2 : rdc (sng b1 (.cells #[.slice pq qs.length kq, .slice pc cs.length kc, .slice pb bs.length kb, .slice ph hs.length kh] 29 (0, 0))) b1 2 = some (.slice pb bs.length kb) := by rw [rdc_sng]; rfl
  have ct3 : rdc (sng b1 (.cells #[.slice pq qs.length kq, .slice pc cs.length kc, .slice pb bs.length kb, .slice ph hs.length kh] 29 (0, 0))) b1 3 = some (.slice ph hs.length kh) := by rw [rdc_sng]; rfl
  have ctp : RdP (sng b1 (.cells #[.slice pq qs.length kq, .slice pc cs.length kc, .slice pb bs.length kb, .slice ph hs.length kh] 29 (0, 0))) b1 0 [.slice pq qs.length kq, .slice pc cs.length kc] := rdP_sng (xs := [.slice pq qs.length kq, .slice pc cs.length kc, .slice pb bs.length kb, .slice ph hs.length kh]) rfl
  refine jk_op (l_boxS rfl) rfl rfl rfl ?_
  rintro _ _ ⟨b2, rfl, rfl⟩
  refine jk_freeze (ρ := sng b2 _) takeZ ?_
  have cd : RdN (sng b2 (.cells #[int d.s, int d.d, int d.v, int d.r, int d.e] 31 (0, 0))) b2 0 [int d.s, int d.d, int d.v, int d.r, int d.e] := rdN_sng (vs := [int d.s, int d.d, int d.v, int d.r, int d.e])
  have cd0 : rdc (sng b2 (.cells #[int d.s, int d.d, int d.v, int d.r, int d.e] 31 (0, 0))) b2 0 = some (int d.s) := by rw [rdc_sng]; rfl
  have cd1 : rdc (sng b2 (.cells #[int d.s, int d.d, int d.v, int d.r, int d.e] 31 (0, 0))) b2 1 = some (int d.d) := by rw [rdc_sng]; rfl
  have cd2 : rdc (sng b2 (.cells #[int d.s, int d.d, int d.v, int d.r, int d.e] 31 (0, 0))) b2 2 = some (int d.v) := by rw [rdc_sng]; rfl
  have cd3 : rdc (sng b2 (.cells #[int d.s, int d.d, int d.v, int d.r, int d.e] 31 (0, 0))) b2 3 = some (int d.r) := by rw [rdc_sng]; rfl
  have cd4 : rdc (sng b2 (.cells #[int d.s, int d.d, int d.v, int d.r, int d.e] 31 (0, 0))) b2 4 = some (int d.e) := by rw [rdc_sng]; rfl
  refine jk_emp ?_
  refine jk_emp ?_
  refine zq_assign ?_
  refine zq_assign ?_
  refine jk_nil ?_
  refine jk_seq ?_
  refine jk_region ?_
  refine zq_loadS ?_
  refine zq_loadS ?_
  refine jk_callH (build_spec hT d) rfl rfl Takes.nil rdZ rfl rfl ?_
  rintro _ H' (⟨hv, rfl, rfl⟩ | ⟨hv, bw, bm, pl0, χ, M, rfl, rfl, hO, hM⟩)
  · have hE : sidesE qs cs bs hs d side = 1 := by unfold sidesE; rw [if_neg (by simp [hv])]
    rw [hE]
    refine zq_move ?_
    refine zq_extract ?_
    refine zq_extract ?_
    refine zq_assign ?_
    refine zq_assign ?_
    refine jk_nil ?_
    refine jk_seq ?_
    refine jk_seq ?_
    refine jk_region ?_
    refine zq_move ?_
    refine zq_not ?_
    refine jk_nil ?_
    refine jk_if_t rfl ?_
    refine jk_seq ?_
    refine jk_region ?_
    refine zq_assign ?_
    refine zq_assign ?_
    refine jk_nil ?_
    exact jk_ret_any (res2 rfl rfl rfl) (by (repeat (first | exact rs_nil | (refine rs_cons ?_ ?_; (focus ((repeat (first | exact .here | apply Mem.there | apply Take.there)); first | done | fail))) | exact fun ρ hρ => hρ | (intro ρ hρ; repeat (first | exact hρ | refine List.mem_cons_of_mem _ ?_)))); first | done | fail) selZ ⟨[], _, emp, emp, rfl, rfl, rfl, hnil⟩
  have hEv : sidesE qs cs bs hs d side = (Go.Flow.capacitySpec (vsN qs d) (arcsG qs cs bs hs d) side).2 := by unfold sidesE; rw [if_pos hv]
  have h := vok hv
  have h0 := vokB hv
  have hdm := h.dm
  unfold okDm at hdm
  have hnq := h.nq
  obtain ⟨pl, kp, rfl⟩ := hO.form
  have hpl : SlE encS 2 χ (.slice pl (placesA d qs.length).length kp) (placesA d qs.length) := hO.at
  refine jk_freeze (ρ := sng bw _) takeZ ?_
  refine jk_freeze (ρ := sng bm _) takeZ ?_
  refine jk_freeze (ρ := χ) takeZ ?_
  have w0 : rdc (sng bw (.cells #[.slice pq qs.length kq, .slice pc cs.length kc, .slice pb bs.length kb, .slice ph hs.length kh, int d.s, int d.d, int d.v, int d.r, int d.e, .slice pl (placesA d qs.length).length kp, .map (some bm)] 97 (0, 0))) bw 0 = some (.slice pq qs.length kq) := by rw [rdc_sng]; rfl
  have w1 : rdc (sng bw (.cells #[.slice pq qs.length kq, .slice pc cs.length kc, .slice pb bs.length kb, .slice ph hs.length kh, int d.s, int d.d, int d.v, int d.r, int d.e, .slice pl (placesA d qs.length).length kp, .map (some bm)] 97 (0, 0))) bw 1 = some (.slice pc cs.length kc) := by rw [rdc_sng]; rfl
  have w2 : rdc (sng bw (.cells #[.slice pq qs.length kq, .slice pc cs.length kc, .slice pb bs.length kb, .slice ph hs.length kh, int d.s, int d.d, int d.v, int d.r, int d.e, .slice pl (placesA d qs.length).length kp, .map (some bm)] 97 (0, 0))) bw 2 = some (.slice pb bs.length kb) := by rw [rdc_sng]; rfl
  have w3 : rdc (sng bw (.cells #[.slice pq qs.length kq, .slice pc cs.length kc, .slice pb bs.length kb, .slice ph hs.length kh, int d.s, int d.d, int d.v, int d.r, int d.e, .slice pl (placesA d qs.length).length kp, .map (some bm)] 97 (0, 0))) bw 3 = some (.slice ph hs.length kh) := by rw [rdc_sng]; rfl
  have w4 : rdc (sng bw (.cells #[.slice pq qs.length kq, .slice pc cs.length kc, .slice pb bs.length kb, .slice ph hs.length kh, int d.s, int d.d, int d.v, int d.r, int d.e, .slice pl (placesA d qs.length).length kp, .map (some bm)] 97 (0, 0))) bw 4 = some (int d.s) := by rw [rdc_sng]; rfl
  have w5 : rdc (sng bw (.cells #[.slice pq qs.length kq, .slice pc cs.length kc, .slice pb bs.length kb, .slice ph hs.length kh, int d.s, int d.d, int d.v, int d.r, int d.e, .slice pl (placesA d qs.length).length kp, .map (some bm)] 97 (0, 0))) bw 5 = some (int d.d) := by rw [rdc_sng]; rfl
  have w6 : rdc (sng bw (.cells #[.slice pq qs.length kq, .slice pc cs.length kc, .slice pb bs.length kb, .slice ph hs.length kh, int d.s, int d.d, int d.v, int d.r, int d.e, .slice pl (placesA d qs.length).length kp, .map (some bm)] 97 (0, 0))) bw 6 = some (int d.v) := by rw [rdc_sng]; rfl
  have w7 : rdc (sng bw (.cells #[.slice pq qs.length kq, .slice pc cs.length kc, .slice pb bs.length kb, .slice ph hs.length kh, int d.s, int d.d, int d.v, int d.r, int d.e, .slice pl (placesA d qs.length).length kp, .map (some bm)] 97 (0, 0))) bw 7 = some (int d.r) := by rw [rdc_sng]; rfl
  have w8 : rdc (sng bw (.cells #[.slice pq qs.length kq, .slice pc cs.length kc, .slice pb bs.length kb, .slice ph hs.length kh, int d.s, int d.d, int d.v, int d.r, int d.e, .slice pl (placesA d qs.length).length kp, .map (some bm)] 97 (0, 0))) bw 8 = some (int d.e) := by rw [rdc_sng]; rfl
  have w9 : rdc (sng bw (.cells #[.slice pq qs.length kq, .slice pc cs.length kc, .slice pb bs.length kb, .slice ph hs.length kh, int d.s, int d.d, int d.v, int d.r, int d.e, .slice pl (placesA d qs.length).length kp, .map (some bm)] 97 (0, 0))) bw 9 = some (.slice pl (placesA d qs.length).length kp) := by rw [rdc_sng]; rfl
  have w10 : rdc (sng bw (.cells #[.slice pq qs.length kq, .slice pc cs.length kc, .slice pb bs.length kb, .slice ph hs.length kh, int d.s, int d.d, int d.v, int d.r, int d.e, .slice pl (placesA d qs.length).length kp, .map (some bm)] 97 (0, 0))) bw 10 = some (.map (some bm)) := by rw [rdc_sng]; rfl
  have hg := graph_spec hT bw bm kp pl χ M d h h0 hpl hM
  have hEl := ea_len qs cs bs hs d h
  have hAl : (arcsG qs cs bs hs d).length = (arcsE qs cs bs hs d).length := by unfold arcsG; rw [List.length_map]
  refine zq_move ?_
  refine zq_extract ?_
  refine zq_extract ?_
  refine zq_assign ?_
  refine zq_assign ?_
  refine jk_nil ?_
  refine jk_seq ?_
  refine jk_seq ?_
  refine jk_region ?_
  refine zq_move ?_
  refine zq_not ?_
  refine jk_nil ?_
  refine jk_if_f rfl ?_
  refine jk_skip ?_
  refine jk_seq ?_
  refine jk_region ?_
  refine zq_move ?_
  refine jk_callM hg rfl rfl rdZ rfl rfl ?_
  rintro _ σg ⟨ug, rfl, hOg⟩
  have hAt : ArcsAt σg ug (arcsG qs cs bs hs d) := hOg.at
  obtain ⟨pg, kg, rfl⟩ := hOg.form
  refine jk_freeze (ρ := σg) takeZ ?_
  refine zl_allocS ?_; rintro _ _ ⟨b, rfl, rfl⟩
  refine zs_storeS ?_; rintro _ _ ⟨rfl, rfl⟩
  refine jk_nil ?_
  refine jk_seq ?_
  refine jk_seq ?_
  refine jk_region ?_
  refine zq_fld0 ?_
  refine zq_load ?_
  refine zq_fld0 ?_
  refine zq_load ?_
  refine zq_move ?_
  revert b; intro bg
  refine jk_freeze (ρ := sng bg _) takeZ ?_
  have gg0 : rdc (sng bg (.cells #[int (vsN qs d), .slice pg (arcsG qs cs bs hs d).length kg, int (vtx d d.s d.r), int (vtx d d.d d.e)] 36 (0, 0))) bg 0 = some (int (vsN qs d)) := by rw [rdc_sng]; rfl
  have gg1 : rdc (sng bg (.cells #[int (vsN qs d), .slice pg (arcsG qs cs bs hs d).length kg, int (vtx d d.s d.r), int (vtx d d.d d.e)] 36 (0, 0))) bg 1 = some (.slice pg (arcsG qs cs bs hs d).length kg) := by rw [rdc_sng]; rfl
  have gg2 : rdc (sng bg (.cells #[int (vsN qs d), .slice pg (arcsG qs cs bs hs d).length kg, int (vtx d d.s d.r), int (vtx d d.d d.e)] 36 (0, 0))) bg 2 = some (int (vtx d d.s d.r)) := by rw [rdc_sng]; rfl
  have gg3 : rdc (sng bg (.cells #[int (vsN qs d), .slice pg (arcsG qs cs bs hs d).length kg, int (vtx d d.s d.r), int (vtx d d.d d.e)] 36 (0, 0))) bg 3 = some (int (vtx d d.d d.e)) := by rw [rdc_sng]; rfl
  have hcap := flowCapacity_spec σg ω _ _ (vsN qs d) (arcsG qs cs bs hs d) side hAt hu (by omega) (by omega)
  skip
  refine jk_call hcap rfl rfl rdZ rfl rfl ?_
  rintro _ rfl
  rw [← hEv]
  generalize (Go.Flow.capacitySpec (vsN qs d) (arcsG qs cs bs hs d) side).1 = vv
  by_cases hz : sidesE qs cs bs hs d side = 0
  rotate_left
  · rw [if_neg hz]
    refine zq_move ?_
    refine zq_extract ?_
    refine zq_extract ?_
    refine zq_assign ?_
    refine zq_assign ?_
    refine jk_nil ?_
    refine jk_seq ?_
    refine jk_region ?_
    refine zq_move ?_
    refine zq_ne ?_
    refine jk_nil ?_
    refine jk_if_t rfl ?_
    refine jk_seq ?_
    refine jk_region ?_
    refine zq_move ?_
    refine zq_assign ?_
    refine zq_assign ?_
    refine jk_nil ?_
    exact jk_ret_any (res2 rfl rfl rfl) (by (repeat (first | exact rs_nil | (refine rs_cons ?_ ?_; (focus ((repeat (first | exact .here | apply Mem.there | apply Take.there)); first | done | fail))) | exact fun ρ hρ => hρ | (intro ρ hρ; repeat (first | exact hρ | refine List.mem_cons_of_mem _ ?_)))); first | done | fail) selZ ⟨[], _, emp, emp, rfl, rfl, rfl, hnil⟩
  have hin := sidesE_in hv hz
  rw [hz, if_pos rfl]
  have hplen : (((placesA d qs.length).length : Nat) : Int) = vsN qs d := placesA_len (d := d) (by omega) qs.length
  obtain ⟨_, _, ep, hrp⟩ := SlE.val (enc := encS) encS_len hpl
  simp only [Value.slice.injEq] at ep
  obtain ⟨rfl, _, rfl⟩ := ep
  refine zq_move ?_
  refine zq_extract ?_
  refine zq_extract ?_
  refine zq_assign ?_
  refine zq_assign ?_
  refine jk_nil ?_
  refine jk_seq ?_
  refine jk_region ?_
  refine zq_move ?_
  refine zq_neF ?_
  refine jk_nil ?_
  refine jk_if_f rfl ?_
  refine jk_skip ?_
  refine jk_seq ?_
  refine jk_region ?_
  refine zq_fld0 ?_
  refine zq_fld0 ?_
  refine zq_load ?_
  refine zq_len ?_
  refine zl_makeV ?_; rintro _ _ ⟨b, rfl, rfl⟩
  refine zq_assign ?_
  refine jk_nil ?_
  refine jk_seq ?_
  refine jk_seq ?_
  refine jk_region ?_
  refine zq_move ?_
  refine zq_len ?_
  refine zq_move ?_
  refine jk_nil ?_
  refine jk_block ?_
  revert b; intro B
  rw [rowsQ_rep]
  refine jk_loop [3, 8, 13, 44, 45] (X := Nat × List Sq × PH) (0, List.replicate qs.length ((none, 0), []), emp) (fun x => x.1 ≤ side.length ∧ cuL x.2.1 = sidesC d qs.length (side.take x.1) ∧ ∀ z ∈ x.2.1, SpAt x.2.2 (.slice z.1.1 z.2.length z.1.2) z.2 ∧ z.2.length ≤ 1000) (fun x => [(46, int x.1)]) (fun x => [sng B (.cells (rowsQ x.2.1).toArray 59 (0, 0)), x.2.2]) (fun x => side.length - x.1) pickZ ⟨by dsimp only; omega, ?_, fun z hz => ?_⟩ covZ selZ ?_
  · dsimp only
    rw [List.take_zero, sidesC_nil]
    exact List.map_replicate
  · obtain ⟨_, rfl⟩ := List.mem_replicate.1 hz
    exact ⟨⟨rfl, .inl ⟨rfl, _, _, rfl⟩⟩, by simp⟩
  rintro ⟨k, L, κ⟩ ⟨hk, hL, hS⟩
  dsimp only at hk hL hS ⊢
  have hLl : L.length = qs.length := by
    have := congrArg List.length hL
    rwa [List.length_map, sidesC_len] at this
  by_cases hlt : k < side.length
  rotate_left
  · have hke : k = side.length := by omega
    subst hke
    rw [List.take_length] at hL
    refine jk_seq ?_
    refine jk_region ?_
    refine zq_ltF ?_
    refine jk_nil ?_
    refine jk_seq ?_
    refine jk_if_f rfl ?_
    refine jk_exit rfl ?_
    refine jk_seq ?_
    refine jk_region ?_
    refine zq_move ?_
    refine zq_assign ?_
    refine zq_assign ?_
    refine jk_nil ?_
    refine jk_ret_any (res2 rfl rfl rfl) (by (repeat (first | exact rs_nil | (refine rs_cons ?_ ?_; (focus ((repeat (first | exact .here | apply Mem.there | apply Take.there)); first | done | fail))) | exact fun ρ hρ => hρ | (intro ρ hρ; repeat (first | exact hρ | refine List.mem_cons_of_mem _ ?_)))); first | done | fail) selZ ⟨L, .slice (some ⟨B, 0, none⟩) qs.length qs.length, _, κ, rfl, rfl, hL, ?_, fun z hz => ⟨(hS z hz).1, by have := (hS z hz).2; omega⟩⟩
    have := slE_sng (enc := encQ) encQ_len (b := B) (l := L) (t := 59) (fr := (0, 0)) (c := qs.length)
    unfold elems at this
    rw [rowsQ_flat, hLl] at this
    exact this
  have hx := List.getElem?_eq_getElem hlt
  have hvi := hin _ (List.getElem_mem hlt)
  obtain ⟨n, t, hn, ht1, ht2, hkv, hkn⟩ := place_of (d := d) (by omega) (k := side[k].toNat) (N := qs.length) (by rw [Int.toNat_of_nonneg hvi.1]; exact hvi.2)
  rw [Int.toNat_of_nonneg hvi.1] at hkv
  have hp := placesA_get (d := d) (by omega) ht1 ht2 hn
  rw [← hkv] at hp
  have hdv := vtx_div (d := d) (n := n) (t := t) ht1 ht2
  have hdm2 := vtx_mod (d := d) (n := n) (t := t) ht1 ht2
  rw [← hkv] at hdv hdm2
  have hnx := sidesC_next d qs.length hlt hdv
  rw [hdm2, show d.r + (t - d.r) = t by omega, ← sideI_one (sideI_ok d (side.take k) n).1] at hnx
  obtain ⟨b6, o6, epl, hRd6, y0, y1⟩ := spRow hrp hp
  obtain ⟨bo, oo, epf, gf⟩ := hrf.int hx
  have hLn := List.getElem?_eq_getElem (show n < L.length by omega)
  have hSn := hS _ (List.getElem_mem (show n < L.length by omega))
  have hLe : L[n].2 = sideI d (side.take k) n := by
    have e1 : (cuL L)[n]? = some L[n].2 := by rw [List.getElem?_map, hLn]; rfl
    rw [hL] at e1
    unfold sidesC at e1
    rw [List.getElem?_map, List.getElem?_range hn] at e1
    exact (Option.some.inj e1).symm
  have hnorm := (sideI_ok d (side.take k) n).1
  have hslen := (sideI_ok d (side.take k) n).2.2
  have hchk := sides_chk h (side := side.take k) (by rw [List.length_take]; omega) n
  rw [List.length_take] at hslen
  rw [← hLe] at hnorm hslen hchk hnx
  have gB : rdc (sng B (.cells (rowsQ L).toArray 59 (0, 0))) B n = some (.slice L[n].1.1 L[n].2.length L[n].1.2) := by
    rw [rdc_sng]
    simp [rowsQ, hLn]
  generalize hzz : L[n] = z at hLn hSn hLe hnorm hslen hchk hnx gB
  obtain ⟨⟨pz, kz⟩, lz⟩ := z
  dsimp only at hSn hLe hnorm hslen hchk hnx gB
  have hc1 : chkI [(t, t + 1)] = 0 := chkI_of (by simp) (NormI.nil.cons (by dsimp only; omega) (by simp)) (fun x hx => by
    obtain rfl := List.mem_singleton.1 hx
    unfold okSp
    dsimp only
    omega)
  have hun := fun b8 => exUnion_spec κ (sng b8 (.cells #[int t, int (t + 1)] 61 (0, 0))) (.slice pz lz.length kz) (.slice (some ⟨b8, 0, none⟩) 1 1) lz [(t, t + 1)] hSn.1 (slE_sng encS_len) hchk hc1 (by simp only [List.length_singleton]; omega)
  have hcl := (combI_ok (f := fun x y => x || y) rfl hnorm (b := [(t, t + 1)]) (NormI.nil.cons (by dsimp only; omega) (by simp))).2.2
  simp only [List.length_singleton] at hcl
  obtain ⟨v, hvv⟩ := Int.eq_ofNat_of_zero_le hvi.1
  rw [hvv] at gf y0 y1 hRd6
  rw [Int.toNat_natCast] at y0 y1 hRd6
  have hvl : (v : Int) < (((placesA d qs.length).length : Nat) : Int) := by omega
  subst epl
  subst epf
  refine jk_seq ?_
  refine jk_region ?_
  refine zq_lt ?_
  refine jk_nil ?_
  refine jk_seq ?_
  refine jk_if_t rfl ?_
  refine jk_skip ?_
  refine jk_seq ?_
  refine jk_block ?_
  refine jk_seq ?_
  refine jk_region ?_
  refine zq_idx1 ?_
  refine zq_load ?_
  refine zq_assign ?_
  refine jk_nil ?_
  refine jk_seq ?_
  refine jk_region ?_
  refine zq_move ?_
  refine zq_nilCheck ?_
  refine zq_fld0 ?_
  refine zq_load ?_
  refine zq_move ?_
  refine zq_idxN ?_
  refine zq_loadS ?_
  refine zl_allocS ?_; rintro _ _ ⟨b, rfl, rfl⟩
  refine zs_storeS ?_; rintro _ _ ⟨rfl, rfl⟩
  refine jk_nil ?_
  revert b; intro b16
  refine jk_draw (.q 0 (.q 1 (.q 2 (.q 3 (.q 4 (.q 5 (.q 6 (.q 7 (.q 8 (.q 9 (.q 10 (.q 11 (.q 12 (.q 13 (.l 14 .e (.l 15 .e (.q 16 (.q 17 (.p 18 (.q 19 (.l 20 .b .nil))))))))))))))))))))) [] rfl (by kernel_rfl) Sel.nil ?_
  refine zd_move ?_
  refine zd_fld0 ?_
  refine zd_load ?_
  refine zd_move ?_
  refine zd_fld0 ?_
  refine zd_load ?_
  refine zd_idx0 ?_
  refine zd_load ?_
  refine zd_fld0 ?_
  refine zd_load ?_
  refine zd_fld0 ?_
  refine zd_load ?_
  refine zd_add ?_
  refine zd_build ?_
  refine ze_buildSlice ?_; rintro _ _ ⟨b, rfl, rfl⟩
  revert b; intro b8
  refine dj_l (a_callM rfl (hun b8) rfl rfl rdZ rfl rfl ?_)
  rintro _ _ ⟨σi, ⟨ui, rfl, hOi⟩, rfl⟩
  obtain ⟨pi, ci, rfl⟩ := hOi.form
  refine zd_move ?_
  refine zd_extract ?_
  refine zp_extract ?_
  refine zd_idx0 ?_
  refine dj_l ?_
  refine' a_bn rfl _ rfl rfl _ _; rotate_left
  · (apply l_store; exact rfl; exact rfl; exact rfl; exact rfl; exact takeZ; (simp [rowsQ_len]; omega))
  · rintro _ _ ⟨_, rfl⟩ w hw; exact hw.sel Sel.nil
  rintro _ _ ⟨rfl, rfl⟩
  refine dj_end ?_
  refine jk_blk ?_
  refine jk_region ?_
  refine zq_inc ?_
  refine zq_move ?_
  refine jk_nil ?_
  show JK _ _ _ (sng B (.cells ((rowsQ L).toArray.setIfInBounds n (Value.slice pi (combI (fun x y => x || y) lz [(t, t + 1)]).length ci)) 59 (0, 0)) :: _) _ _
  have hset := rowsQ_set L n ((pi, ci), combI (fun x y => x || y) lz [(t, t + 1)])
  dsimp only at hset
  rw [hset]
  refine jk_join (ρ := σi) (σ := κ) takeZ takeZ (fun χ1 s1 s2 => ?_)
  refine jk_round (k + 1, L.set n ((pi, ci), combI (fun x y => x || y) lz [(t, t + 1)]), χ1) ⟨by dsimp only; omega, ?_, fun z hz => ?_⟩ (by dsimp only; omega) covZ selZ
  · dsimp only
    rw [hnx, ← hL]
    exact List.map_set
  · rcases List.mem_or_eq_of_mem_set hz with hz | rfl
    · exact ⟨(hS z hz).1.mono s2, (hS z hz).2⟩
    · exact ⟨SlE.mono (show SpAt σi _ _ from hOi.at) s1, by dsimp only; omega⟩
end Go.Proofs.YthdoegkjifgegaaGreat
/- Sizes, demands, equal cuts. -/
namespace Go.Proofs.YthdoegkjifgegaaGreat
open Go.Eng Go.Step
set_option maxRecDepth 100000
set_option maxHeartbeats 4000000

set_option maxHeartbeats 16000000 in
theorem exSame_spec (ρ τ : PH) (v w : Value) (l : Iv) (hv : SpAt ρ v l) (hw : SpAt τ w l) (hl : l.length ≤ 9223372036854775807) :
    Ans Tryz.prog (fv 51) [v, w] [ρ, τ] (fun r => r = .bool true) := by
  obtain ⟨q, c, rfl, hr⟩ := hv.val encS_len
  obtain ⟨q', c', rfl, hr'⟩ := hw.val encS_len
  refine spec_in (cap := []) Tryz.func51 rfl rfl Tryz.ntmps51 rfl (by (repeat (first | exact EnvA.nil EnvI.nil | apply EnvA.cons | apply EnvA.nil | exact EnvI.nil | apply EnvI.cons)); first | done | fail) (fun N β => ?_)
  refine jk_seq ?_
  refine jk_region ?_
  refine zq_assign ?_
  refine jk_nil ?_
  refine jk_seq ?_
  refine jk_seq ?_
  refine jk_region ?_
  refine zq_move ?_
  refine zq_len ?_
  refine zq_move ?_
  refine zq_len ?_
  refine zq_neF ?_
  refine jk_nil ?_
  refine jk_if_f rfl ?_
  refine jk_skip ?_
  refine jk_seq ?_
  refine jk_seq ?_
  refine jk_region ?_
  refine zq_assign ?_
  refine jk_nil ?_
  refine jk_block ?_
  refine jk_loop [0, 1] (0 : Nat) (fun k => k ≤ l.length) (fun k => [(5, int k)]) (fun _ => []) (fun k => l.length - k) pickZ (by omega) covZ selZ ?_
  rintro k hk
  by_cases hlt : k < l.length
  · have hx := List.getElem?_eq_getElem hlt
    obtain ⟨b1, o1, rfl, hRd1, _⟩ := spRow hr hx
    obtain ⟨b2, o2, rfl, hRd2, _⟩ := spRow hr' hx
    generalize l[k] = x at hRd1 hRd2 hx
    refine jk_seq ?_
    refine jk_seq ?_
    refine jk_region ?_
    refine zq_move ?_
    refine zq_move ?_
    refine zq_len ?_
    refine zq_lt ?_
    refine jk_nil ?_
    refine jk_if_t rfl ?_
    refine jk_skip ?_
    refine jk_seq ?_
    refine jk_block ?_
    refine jk_seq ?_
    refine jk_draw (.q 0 (.q 1 (.q 2 (.q 3 (.q 4 (.q 5 (.q 6 (.q 7 (.q 8 .nil))))))))) [] rfl (by kernel_rfl) Sel.nil ?_
    refine zd_move ?_
    refine zd_move ?_
    refine zd_idxN ?_
    refine zd_loadS ?_
    refine zd_move ?_
    refine zd_move ?_
    refine zd_idxN ?_
    refine zd_loadS ?_
    focus ((refine' dj_q rfl _ rfl rfl rfl rfl _; rotate_left; (apply q_neS [x.1, x.2] [x.1, x.2] (n := 2); exact rfl; exact rfl; kernel_rfl; kernel_rfl; kernel_rfl; exact rfl; exact rfl)))
    refine dj_end ?_
    rw [show (!decide ([x.1, x.2] = [x.1, x.2])) = false by simp]
    skip
    refine jk_if_f rfl ?_
    refine jk_skip ?_
    refine jk_blk ?_
    refine jk_region ?_
    refine zq_move ?_
    refine zq_inc ?_
    refine zq_assign ?_
    refine jk_nil ?_
    exact jk_round (k + 1) (by omega) (by omega) covZ selZ
  · refine jk_seq ?_
    refine jk_seq ?_
    refine jk_region ?_
    refine zq_move ?_
    refine zq_move ?_
    refine zq_len ?_
    refine zq_ltF ?_
    refine jk_nil ?_
    refine jk_if_f rfl ?_
    refine jk_exit rfl ?_
    refine jk_seq ?_
    refine jk_region ?_
    refine zq_assign ?_
    refine jk_nil ?_
    exact jk_ret_any (res1 rfl rfl) (by (repeat (first | exact rs_nil | (refine rs_cons ?_ ?_; (focus ((repeat (first | exact .here | apply Mem.there | apply Take.there)); first | done | fail))) | exact fun ρ hρ => hρ | (intro ρ hρ; repeat (first | exact hρ | refine List.mem_cons_of_mem _ ?_)))); first | done | fail) selZ ⟨rfl, rfl⟩

set_option maxHeartbeats 16000000 in
theorem exSameCut_spec (γ κ γ' κ' : PH) (p p' : Option Addr) (kk kk' : Nat) (La Lb : List Sq) (hc : CutL γ κ (.slice p La.length kk) La) (hc' : CutL γ' κ' (.slice p' Lb.length kk') Lb) (he : cuL La = cuL Lb) (lla : La.length ≤ 1000000) :
    Ans Tryz.prog (fv 22) [.slice p La.length kk, .slice p' Lb.length kk'] [γ, κ, γ', κ'] (fun r => r = .bool true) := by
  have hlen : La.length = Lb.length := by have := congrArg List.length he; simpa using this
  obtain ⟨_, _, e1, hra⟩ := hc.1.val encQ_len
  obtain ⟨_, _, e2, hrb⟩ := hc'.1.val encQ_len
  simp only [Value.slice.injEq] at e1 e2
  obtain ⟨rfl, _, rfl⟩ := e1
  obtain ⟨rfl, _, rfl⟩ := e2
  refine spec_in (cap := []) Tryz.func22 rfl rfl Tryz.ntmps22 rfl (by (repeat (first | exact EnvA.nil EnvI.nil | apply EnvA.cons | apply EnvA.nil | exact EnvI.nil | apply EnvI.cons)); first | done | fail) (fun N β => ?_)
  refine jk_seq ?_
  refine jk_region ?_
  refine zq_assign ?_
  refine jk_nil ?_
  refine jk_seq ?_
  refine jk_seq ?_
  refine jk_region ?_
  refine zq_move ?_
  refine zq_len ?_
  refine zq_move ?_
  refine zq_len ?_
  refine zq_neF ?_
  refine jk_nil ?_
  refine jk_if_f rfl ?_
  refine jk_skip ?_
  refine jk_seq ?_
  refine jk_seq ?_
  refine jk_region ?_
  refine zq_assign ?_
  refine jk_nil ?_
  refine jk_block ?_
  refine jk_loop [0, 1] (0 : Nat) (fun k => k ≤ La.length) (fun k => [(5, int k)]) (fun _ => []) (fun k => La.length - k) pickZ (by omega) covZ selZ ?_
  rintro k hk
  by_cases hlt : k < La.length
  rotate_left
  · refine jk_seq ?_
    refine jk_seq ?_
    refine jk_region ?_
    refine zq_move ?_
    refine zq_move ?_
    refine zq_len ?_
    refine zq_ltF ?_
    refine jk_nil ?_
    refine jk_if_f rfl ?_
    refine jk_exit rfl ?_
    refine jk_seq ?_
    refine jk_region ?_
    refine zq_assign ?_
    refine jk_nil ?_
    exact jk_ret_any (res1 rfl rfl) (by (repeat (first | exact rs_nil | (refine rs_cons ?_ ?_; (focus ((repeat (first | exact .here | apply Mem.there | apply Take.there)); first | done | fail))) | exact fun ρ hρ => hρ | (intro ρ hρ; repeat (first | exact hρ | refine List.mem_cons_of_mem _ ?_)))); first | done | fail) selZ ⟨rfl, rfl⟩
  have hltb : k < Lb.length := by omega
  have hx := List.getElem?_eq_getElem hlt
  have hy := List.getElem?_eq_getElem hltb
  have hexy : La[k].2 = Lb[k].2 := by
    have := congrArg (fun c : Cu => c[k]?) he
    simp only [List.getElem?_map, hx, hy, Option.map_some, Option.some.injEq] at this
    exact this
  have hma := List.getElem_mem hlt
  have hmb := List.getElem_mem hltb
  obtain ⟨b1, o1, rfl, hr1⟩ := hra k _ hx
  obtain ⟨b2, o2, rfl, hr2⟩ := hrb k _ hy
  have g1 : rdc γ b1 (o1 + k) = some (.slice La[k].1.1 La[k].2.length La[k].1.2) := by have := hr1.get0; rwa [Nat.mul_one] at this
  have g2 : rdc γ' b2 (o2 + k) = some (.slice Lb[k].1.1 Lb[k].2.length Lb[k].1.2) := by have := hr2.get0; rwa [Nat.mul_one] at this
  have hs := exSame_spec κ κ' _ _ La[k].2 (hc.2 _ hma).1 (hexy ▸ (hc'.2 _ hmb).1) (hc.2 _ hma).2
  clear hr1 hr2
  rw [hexy] at hs g1
  generalize La[k] = x at hx g1 hs
  generalize Lb[k] = y at hy g2 hs g1
  refine jk_seq ?_
  refine jk_seq ?_
  refine jk_region ?_
  refine zq_move ?_
  refine zq_move ?_
  refine zq_len ?_
  refine zq_lt ?_
  refine jk_nil ?_
  refine jk_if_t rfl ?_
  refine jk_skip ?_
  refine jk_seq ?_
  refine jk_block ?_
  refine jk_seq ?_
  refine jk_draw (.q 0 (.q 1 (.q 2 (.q 3 (.q 4 (.q 5 (.q 6 (.q 7 (.l 8 .e (.q 9 .nil)))))))))) [] rfl (by kernel_rfl) Sel.nil ?_
  refine zd_move ?_
  refine zd_move ?_
  refine zd_idx1 ?_
  refine zd_load ?_
  refine zd_move ?_
  refine zd_move ?_
  refine zd_idx1 ?_
  refine zd_load ?_
  refine dj_l (a_call rfl hs rfl rfl rdZ rfl rfl ?_)
  rintro _ rfl
  refine zd_not ?_
  refine dj_end ?_
  refine jk_if_f rfl ?_
  refine jk_skip ?_
  refine jk_blk ?_
  refine jk_region ?_
  refine zq_move ?_
  refine zq_inc ?_
  refine zq_assign ?_
  refine jk_nil ?_
  exact jk_round (k + 1) (by omega) (by omega) covZ selZ
theorem greatPlan_spec (pq pc : Option Addr) (kq kc nq nc : Nat) : Ans Tryz.prog (fv 83) [.agg #[.slice pq nq kq, .slice pc nc kc]] [] (fun r => r = .bool (decide (6 < nq ∨ 10 < nc))) := by
  refine spec_in (cap := []) Tryz.func83 rfl rfl Tryz.ntmps83 rfl (by (repeat (first | exact EnvA.nil EnvI.nil | apply EnvA.cons | apply EnvA.nil | exact EnvI.nil | apply EnvI.cons)); first | done | fail) (fun N β => ?_)
  refine jk_seq ?_
  refine jk_region ?_
  refine jk_op (l_boxS rfl) rfl rfl rfl ?_
  rintro _ _ ⟨b1, rfl, rfl⟩
  refine jk_freeze (ρ := sng b1 _) takeZ ?_
  have c : RdN (sng b1 (.cells #[.slice pq nq kq, .slice pc nc kc] 25 (0, 0))) b1 0 [.slice pq nq kq, .slice pc nc kc] := rdN_sng (vs := [.slice pq nq kq, .slice pc nc kc])
  have c0 : rdc (sng b1 (.cells #[.slice pq nq kq, .slice pc nc kc] 25 (0, 0))) b1 0 = some (.slice pq nq kq) := by rw [rdc_sng]; rfl
  have c1 : rdc (sng b1 (.cells #[.slice pq nq kq, .slice pc nc kc] 25 (0, 0))) b1 1 = some (.slice pc nc kc) := by rw [rdc_sng]; rfl
  by_cases h1 : 6 < nq
  · rw [decide_eq_true (.inl h1)]
    refine zq_assign ?_
    refine jk_nil ?_
    refine jk_seq ?_
    refine jk_region ?_
    refine zq_fld0 ?_
    refine zq_load ?_
    refine zq_len ?_
    refine zq_gt ?_
    refine zq_move ?_
    refine jk_pass rfl rfl rfl ?_
    refine jk_pass rfl rfl rfl ?_
    refine jk_pass rfl rfl rfl ?_
    refine jk_pass rfl rfl rfl ?_
    refine zq_pick_t ?_
    refine zq_assign ?_
    refine jk_nil ?_
    exact jk_ret_any (res1 rfl rfl) (by (repeat (first | exact rs_nil | (refine rs_cons ?_ ?_; (focus ((repeat (first | exact .here | apply Mem.there | apply Take.there)); first | done | fail))) | exact fun ρ hρ => hρ | (intro ρ hρ; repeat (first | exact hρ | refine List.mem_cons_of_mem _ ?_)))); first | done | fail) selZ ⟨rfl, rfl⟩
  by_cases h2 : 10 < nc
  · rw [decide_eq_true (.inr h2)]
    refine zq_assign ?_
    refine jk_nil ?_
    refine jk_seq ?_
    refine jk_region ?_
    refine zq_fld0 ?_
    refine zq_load ?_
    refine zq_len ?_
    refine zq_gtF ?_
    refine zq_move ?_
    refine zq_fld0 ?_
    refine zq_load ?_
    refine zq_len ?_
    refine zq_gt ?_
    refine zq_pick_f ?_
    refine zq_assign ?_
    refine jk_nil ?_
    exact jk_ret_any (res1 rfl rfl) (by (repeat (first | exact rs_nil | (refine rs_cons ?_ ?_; (focus ((repeat (first | exact .here | apply Mem.there | apply Take.there)); first | done | fail))) | exact fun ρ hρ => hρ | (intro ρ hρ; repeat (first | exact hρ | refine List.mem_cons_of_mem _ ?_)))); first | done | fail) selZ ⟨rfl, rfl⟩
  rw [decide_eq_false (by omega)]
  refine zq_assign ?_
  refine jk_nil ?_
  refine jk_seq ?_
  refine jk_region ?_
  refine zq_fld0 ?_
  refine zq_load ?_
  refine zq_len ?_
  refine zq_gtF ?_
  refine zq_move ?_
  refine zq_fld0 ?_
  refine zq_load ?_
  refine zq_len ?_
  refine zq_gtF ?_
  refine zq_pick_f ?_
  refine zq_assign ?_
  refine jk_nil ?_
  exact jk_ret_any (res1 rfl rfl) (by (repeat (first | exact rs_nil | (refine rs_cons ?_ ?_; (focus ((repeat (first | exact .here | apply Mem.there | apply Take.there)); first | done | fail))) | exact fun ρ hρ => hρ | (intro ρ hρ; repeat (first | exact hρ | refine List.mem_cons_of_mem _ ?_)))); first | done | fail) selZ ⟨rfl, rfl⟩
set_option maxHeartbeats 16000000 in
theorem great29_spec (pq pc pb ph : Option Addr) (kq kc kb kh nq nc nb nh : Nat) : Ans Tryz.prog (fv 37) [.agg #[.slice pq nq kq, .slice pc nc kc, .slice pb nb kb, .slice ph nh kh]] [] (fun r => r = .bool (decide (6 < nq ∨ 10 < nc ∨ 30 < nb ∨ 30 < nh))) := by
  refine spec_in (cap := []) Tryz.func37 rfl rfl Tryz.ntmps37 rfl (by (repeat (first | exact EnvA.nil EnvI.nil | apply EnvA.cons | apply EnvA.nil | exact EnvI.nil | apply EnvI.cons)); first | done | fail) (fun N β => ?_)
  refine jk_seq ?_
  refine jk_region ?_
  refine jk_op (l_boxS rfl) rfl rfl rfl ?_
  rintro _ _ ⟨b1, rfl, rfl⟩
  refine jk_freeze (ρ := sng b1 _) takeZ ?_
  have c : RdN (sng b1 (.cells #[.slice pq nq kq, .slice pc nc kc, .slice pb nb kb, .slice ph nh kh] 29 (0, 0))) b1 0 [.slice pq nq kq, .slice pc nc kc, .slice pb nb kb, .slice ph nh kh] := rdN_sng (vs := [.slice pq nq kq, .slice pc nc kc, .slice pb nb kb, .slice ph nh kh])
  have c0 : rdc (sng b1 (.cells #[.slice pq nq kq, .slice pc nc kc, .slice pb nb kb, .slice ph nh kh] 29 (0, 0))) b1 0 = some (.slice pq nq kq) := by rw [rdc_sng]; rfl
  have c1 : rdc (sng b1 (.cells #[.slice pq nq kq, .slice pc nc kc, .slice pb nb kb, .slice ph nh kh] 29 (0, 0))) b1 1 = some (.slice pc nc kc) := by rw [rdc_sng]; rfl
  have c2 : rdc (sng b1 (.cells #[.slice pq nq kq, .slice pc nc kc, .slice pb nb kb, .slice ph nh kh] 29 (0, 0))) b1 2 = some (.slice pb nb kb) := by rw [rdc_sng]; rfl
  have c3 : rdc (sng b1 (.cells #[.slice pq nq kq, .slice pc nc kc, .slice pb nb kb, .slice ph nh kh] 29 (0, 0))) b1 3 = some (.slice ph nh kh) := by rw [rdc_sng]; rfl
  have ctp : RdP (sng b1 (.cells #[.slice pq nq kq, .slice pc nc kc, .slice pb nb kb, .slice ph nh kh] 29 (0, 0))) b1 0 [.slice pq nq kq, .slice pc nc kc] := rdP_sng (xs := [.slice pq nq kq, .slice pc nc kc, .slice pb nb kb, .slice ph nh kh]) rfl
  refine zq_assign ?_
  refine jk_nil ?_
  refine jk_seq ?_
  refine jk_region ?_
  refine zq_fld0 ?_
  refine zq_loadS ?_
  refine jk_call (greatPlan_spec pq pc kq kc nq nc) rfl rfl rdZ rfl rfl ?_
  rintro _ rfl
  by_cases h1 : 6 < nq ∨ 10 < nc
  · rw [decide_eq_true h1, decide_eq_true (by omega)]
    refine zq_move ?_
    refine jk_pass rfl rfl rfl ?_
    refine jk_pass rfl rfl rfl ?_
    refine jk_pass rfl rfl rfl ?_
    refine jk_pass rfl rfl rfl ?_
    refine zq_pick_t ?_
    refine zq_move ?_
    refine jk_pass rfl rfl rfl ?_
    refine jk_pass rfl rfl rfl ?_
    refine jk_pass rfl rfl rfl ?_
    refine jk_pass rfl rfl rfl ?_
    refine zq_pick_t ?_
    refine zq_assign ?_
    refine jk_nil ?_
    exact jk_ret_any (res1 rfl rfl) (by (repeat (first | exact rs_nil | (refine rs_cons ?_ ?_; (focus ((repeat (first | exact .here | apply Mem.there | apply Take.there)); first | done | fail))) | exact fun ρ hρ => hρ | (intro ρ hρ; repeat (first | exact hρ | refine List.mem_cons_of_mem _ ?_)))); first | done | fail) selZ ⟨rfl, rfl⟩
  rw [decide_eq_false h1]
  by_cases h2 : 30 < nb
  · rw [decide_eq_true (by omega)]
    refine zq_move ?_
    refine zq_fld0 ?_
    refine zq_load ?_
    refine zq_len ?_
    refine zq_gt ?_
    refine zq_pick_f ?_
    refine zq_move ?_
    refine jk_pass rfl rfl rfl ?_
    refine jk_pass rfl rfl rfl ?_
    refine jk_pass rfl rfl rfl ?_
    refine jk_pass rfl rfl rfl ?_
    refine zq_pick_t ?_
    refine zq_assign ?_
    refine jk_nil ?_
    exact jk_ret_any (res1 rfl rfl) (by (repeat (first | exact rs_nil | (refine rs_cons ?_ ?_; (focus ((repeat (first | exact .here | apply Mem.there | apply Take.there)); first | done | fail))) | exact fun ρ hρ => hρ | (intro ρ hρ; repeat (first | exact hρ | refine List.mem_cons_of_mem _ ?_)))); first | done | fail) selZ ⟨rfl, rfl⟩
  by_cases h3 : 30 < nh
  · rw [decide_eq_true (by omega)]
    refine zq_move ?_
    refine zq_fld0 ?_
    refine zq_load ?_
    refine zq_len ?_
    refine zq_gtF ?_
    refine zq_pick_f ?_
    refine zq_move ?_
    refine zq_fld0 ?_
    refine zq_load ?_
    refine zq_len ?_
    refine zq_gt ?_
    refine zq_pick_f ?_
    refine zq_assign ?_
    refine jk_nil ?_
    exact jk_ret_any (res1 rfl rfl) (by (repeat (first | exact rs_nil | (refine rs_cons ?_ ?_; (focus ((repeat (first | exact .here | apply Mem.there | apply Take.there)); first | done | fail))) | exact fun ρ hρ => hρ | (intro ρ hρ; repeat (first | exact hρ | refine List.mem_cons_of_mem _ ?_)))); first | done | fail) selZ ⟨rfl, rfl⟩
  rw [decide_eq_false (by omega)]
  refine zq_move ?_
  refine zq_fld0 ?_
  refine zq_load ?_
  refine zq_len ?_
  refine zq_gtF ?_
  refine zq_pick_f ?_
  refine zq_move ?_
  refine zq_fld0 ?_
  refine zq_load ?_
  refine zq_len ?_
  refine zq_gtF ?_
  refine zq_pick_f ?_
  refine zq_assign ?_
  refine jk_nil ?_
  exact jk_ret_any (res1 rfl rfl) (by (repeat (first | exact rs_nil | (refine rs_cons ?_ ?_; (focus ((repeat (first | exact .here | apply Mem.there | apply Take.there)); first | done | fail))) | exact fun ρ hρ => hρ | (intro ρ hρ; repeat (first | exact hρ | refine List.mem_cons_of_mem _ ?_)))); first | done | fail) selZ ⟨rfl, rfl⟩
set_option maxHeartbeats 16000000 in
theorem great53_spec (pq pc pb ph : Option Addr) (kq kc kb kh nq nc nb nh : Nat) (d : Dm) : Ans Tryz.prog (fv 8) [.agg #[.slice pq nq kq, .slice pc nc kc, .slice pb nb kb, .slice ph nh kh], .agg #[int d.s, int d.d, int d.v, int d.r, int d.e]] [] (fun r => ∃ b, r = .bool b) := by
  refine spec_in (cap := []) Tryz.func8 rfl rfl Tryz.ntmps8 rfl (by (repeat (first | exact EnvA.nil EnvI.nil | apply EnvA.cons | apply EnvA.nil | exact EnvI.nil | apply EnvI.cons)); first | done | fail) (fun N β => ?_)
  refine jk_seq ?_
  refine jk_region ?_
  refine jk_op (l_boxS rfl) rfl rfl rfl ?_
  rintro _ _ ⟨b1, rfl, rfl⟩
  refine jk_freeze (ρ := sng b1 _) takeZ ?_
  have c : RdN (sng b1 (.cells #[.slice pq nq kq, .slice pc nc kc, .slice pb nb kb, .slice ph nh kh] 29 (0, 0))) b1 0 [.slice pq nq kq, .slice pc nc kc, .slice pb nb kb, .slice ph nh kh] := rdN_sng (vs := [.slice pq nq kq, .slice pc nc kc, .slice pb nb kb, .slice ph nh kh])
  have c0 : rdc (sng b1 (.cells #[.slice pq nq kq, .slice pc nc kc, .slice pb nb kb, .slice ph nh kh] 29 (0, 0))) b1 0 = some (.slice pq nq kq) := by rw [rdc_sng]; rfl
  have c1 : rdc (sng b1 (.cells #[.slice pq nq kq, .slice pc nc kc, .slice pb nb kb, .slice ph nh kh] 29 (0, 0))) b1 1 = some (.slice pc nc kc) := by rw [rdc_sng]; rfl
  have c2 : rdc (sng b1 (.cells #[.slice pq nq kq, .slice pc nc kc, .slice pb nb kb, .slice ph nh kh] 29 (0, 0))) b1 2 = some (.slice pb nb kb) := by rw [rdc_sng]; rfl
  have c3 : rdc (sng b1 (.cells #[.slice pq nq kq, .slice pc nc kc, .slice pb nb kb, .slice ph nh kh] 29 (0, 0))) b1 3 = some (.slice ph nh kh) := by rw [rdc_sng]; rfl
  refine jk_op (l_boxS rfl) rfl rfl rfl ?_
  rintro _ _ ⟨b2, rfl, rfl⟩
  refine jk_freeze (ρ := sng b2 _) takeZ ?_
  have cd : RdN (sng b2 (.cells #[int d.s, int d.d, int d.v, int d.r, int d.e] 31 (0, 0))) b2 0 [int d.s, int d.d, int d.v, int d.r, int d.e] := rdN_sng (vs := [int d.s, int d.d, int d.v, int d.r, int d.e])
  have cd0 : rdc (sng b2 (.cells #[int d.s, int d.d, int d.v, int d.r, int d.e] 31 (0, 0))) b2 0 = some (int d.s) := by rw [rdc_sng]; rfl
  have cd1 : rdc (sng b2 (.cells #[int d.s, int d.d, int d.v, int d.r, int d.e] 31 (0, 0))) b2 1 = some (int d.d) := by rw [rdc_sng]; rfl
  have cd2 : rdc (sng b2 (.cells #[int d.s, int d.d, int d.v, int d.r, int d.e] 31 (0, 0))) b2 2 = some (int d.v) := by rw [rdc_sng]; rfl
  have cd3 : rdc (sng b2 (.cells #[int d.s, int d.d, int d.v, int d.r, int d.e] 31 (0, 0))) b2 3 = some (int d.r) := by rw [rdc_sng]; rfl
  have cd4 : rdc (sng b2 (.cells #[int d.s, int d.d, int d.v, int d.r, int d.e] 31 (0, 0))) b2 4 = some (int d.e) := by rw [rdc_sng]; rfl
  refine zq_assign ?_
  refine jk_nil ?_
  refine jk_seq ?_
  refine jk_region ?_
  refine zq_loadS ?_
  refine jk_call (great29_spec pq pc pb ph kq kc kb kh nq nc nb nh) rfl rfl rdZ rfl rfl ?_
  rintro _ rfl
  obtain ⟨w1, hw1⟩ : ∃ w1, w1 = IntKind.i64.wrap (d.r + 24) := ⟨_, rfl⟩
  obtain ⟨w2, hw2⟩ : ∃ w2, w2 = IntKind.i64.wrap (d.r + 100) := ⟨_, rfl⟩
  cases decide (6 < nq ∨ 10 < nc ∨ 30 < nb ∨ 30 < nh) with
  | true =>
    refine zq_move ?_
    refine jk_pass rfl rfl rfl ?_
    refine jk_pass rfl rfl rfl ?_
    refine jk_pass rfl rfl rfl ?_
    refine jk_pass rfl rfl rfl ?_
    refine jk_pass rfl rfl rfl ?_
    refine jk_pass rfl rfl rfl ?_
    refine jk_pass rfl rfl rfl ?_
    refine jk_pass rfl rfl rfl ?_
    refine jk_pass rfl rfl rfl ?_
    refine jk_pass rfl rfl rfl ?_
    refine jk_pass rfl rfl rfl ?_
    refine jk_pass rfl rfl rfl ?_
    refine jk_pass rfl rfl rfl ?_
    refine jk_pass rfl rfl rfl ?_
    refine zq_pick_t ?_
    refine zq_assign ?_
    refine jk_nil ?_
    exact jk_ret_any (res1 rfl rfl) (by (repeat (first | exact rs_nil | (refine rs_cons ?_ ?_; (focus ((repeat (first | exact .here | apply Mem.there | apply Take.there)); first | done | fail))) | exact fun ρ hρ => hρ | (intro ρ hρ; repeat (first | exact hρ | refine List.mem_cons_of_mem _ ?_)))); first | done | fail) selZ ⟨rfl, _, rfl⟩
  | false =>
  by_cases h2 : w1 < d.e
  · by_cases h3 : d.e ≤ w2
    · refine zq_move ?_
      refine zq_fld0 ?_
      refine zq_load ?_
      refine zq_fld0 ?_
      refine zq_load ?_
      focus ((refine jk_q (q_addW rfl rfl) rfl rfl rfl ?_; first | rw [← hw1] | rw [← hw2]))
      refine zq_gt ?_
      refine zq_move ?_
      refine zq_fld0 ?_
      refine zq_load ?_
      refine zq_fld0 ?_
      refine zq_load ?_
      focus ((refine jk_q (q_addW rfl rfl) rfl rfl rfl ?_; first | rw [← hw1] | rw [← hw2]))
      refine zq_le ?_
      refine zq_pick_t ?_
      refine zq_pick_f ?_
      refine zq_assign ?_
      refine jk_nil ?_
      exact jk_ret_any (res1 rfl rfl) (by (repeat (first | exact rs_nil | (refine rs_cons ?_ ?_; (focus ((repeat (first | exact .here | apply Mem.there | apply Take.there)); first | done | fail))) | exact fun ρ hρ => hρ | (intro ρ hρ; repeat (first | exact hρ | refine List.mem_cons_of_mem _ ?_)))); first | done | fail) selZ ⟨rfl, _, rfl⟩
    · refine zq_move ?_
      refine zq_fld0 ?_
      refine zq_load ?_
      refine zq_fld0 ?_
      refine zq_load ?_
      focus ((refine jk_q (q_addW rfl rfl) rfl rfl rfl ?_; first | rw [← hw1] | rw [← hw2]))
      refine zq_gt ?_
      refine zq_move ?_
      refine zq_fld0 ?_
      refine zq_load ?_
      refine zq_fld0 ?_
      refine zq_load ?_
      focus ((refine jk_q (q_addW rfl rfl) rfl rfl rfl ?_; first | rw [← hw1] | rw [← hw2]))
      refine zq_leF ?_
      refine zq_pick_t ?_
      refine zq_pick_f ?_
      refine zq_assign ?_
      refine jk_nil ?_
      exact jk_ret_any (res1 rfl rfl) (by (repeat (first | exact rs_nil | (refine rs_cons ?_ ?_; (focus ((repeat (first | exact .here | apply Mem.there | apply Take.there)); first | done | fail))) | exact fun ρ hρ => hρ | (intro ρ hρ; repeat (first | exact hρ | refine List.mem_cons_of_mem _ ?_)))); first | done | fail) selZ ⟨rfl, _, rfl⟩
  · refine zq_move ?_
    refine zq_fld0 ?_
    refine zq_load ?_
    refine zq_fld0 ?_
    refine zq_load ?_
    focus ((refine jk_q (q_addW rfl rfl) rfl rfl rfl ?_; first | rw [← hw1] | rw [← hw2]))
    refine zq_gtF ?_
    refine zq_move ?_
    refine jk_pass rfl rfl rfl ?_
    refine jk_pass rfl rfl rfl ?_
    refine jk_pass rfl rfl rfl ?_
    refine jk_pass rfl rfl rfl ?_
    refine jk_pass rfl rfl rfl ?_
    refine jk_pass rfl rfl rfl ?_
    refine zq_pick_f ?_
    refine zq_pick_f ?_
    refine zq_assign ?_
    refine jk_nil ?_
    exact jk_ret_any (res1 rfl rfl) (by (repeat (first | exact rs_nil | (refine rs_cons ?_ ?_; (focus ((repeat (first | exact .here | apply Mem.there | apply Take.there)); first | done | fail))) | exact fun ρ hρ => hρ | (intro ρ hρ; repeat (first | exact hρ | refine List.mem_cons_of_mem _ ?_)))); first | done | fail) selZ ⟨rfl, _, rfl⟩
def okDmB (nq : Nat) (d : Dm) : Bool := decide (okDm nq d)
set_option maxHeartbeats 32000000 in
theorem demand53_spec (pq pc : Option Addr) (kq kc nq nc : Nat) (d : Dm) : Ans Tryz.prog (fv 53) [.agg #[.slice pq nq kq, .slice pc nc kc], .agg #[int d.s, int d.d, int d.v, int d.r, int d.e]] [] (fun r => r = .bool (okDmB nq d)) := by
  refine spec_in (cap := []) Tryz.func53 rfl rfl Tryz.ntmps53 rfl (by (repeat (first | exact EnvA.nil EnvI.nil | apply EnvA.cons | apply EnvA.nil | exact EnvI.nil | apply EnvI.cons)); first | done | fail) (fun N β => ?_)
  refine jk_seq ?_
  refine jk_region ?_
  refine jk_op (l_boxS rfl) rfl rfl rfl ?_
  rintro _ _ ⟨b1, rfl, rfl⟩
  refine jk_freeze (ρ := sng b1 _) takeZ ?_
  have c : RdN (sng b1 (.cells #[.slice pq nq kq, .slice pc nc kc] 25 (0, 0))) b1 0 [.slice pq nq kq, .slice pc nc kc] := rdN_sng (vs := [.slice pq nq kq, .slice pc nc kc])
  have c0 : rdc (sng b1 (.cells #[.slice pq nq kq, .slice pc nc kc] 25 (0, 0))) b1 0 = some (.slice pq nq kq) := by rw [rdc_sng]; rfl
  have c1 : rdc (sng b1 (.cells #[.slice pq nq kq, .slice pc nc kc] 25 (0, 0))) b1 1 = some (.slice pc nc kc) := by rw [rdc_sng]; rfl
  refine jk_op (l_boxS rfl) rfl rfl rfl ?_
  rintro _ _ ⟨b2, rfl, rfl⟩
  refine jk_freeze (ρ := sng b2 _) takeZ ?_
  have cd : RdN (sng b2 (.cells #[int d.s, int d.d, int d.v, int d.r, int d.e] 31 (0, 0))) b2 0 [int d.s, int d.d, int d.v, int d.r, int d.e] := rdN_sng (vs := [int d.s, int d.d, int d.v, int d.r, int d.e])
  have cd0 : rdc (sng b2 (.cells #[int d.s, int d.d, int d.v, int d.r, int d.e] 31 (0, 0))) b2 0 = some (int d.s) := by rw [rdc_sng]; rfl
  have cd1 : rdc (sng b2 (.cells #[int d.s, int d.d, int d.v, int d.r, int d.e] 31 (0, 0))) b2 1 = some (int d.d) := by rw [rdc_sng]; rfl
  have cd2 : rdc (sng b2 (.cells #[int d.s, int d.d, int d.v, int d.r, int d.e] 31 (0, 0))) b2 2 = some (int d.v) := by rw [rdc_sng]; rfl
  have cd3 : rdc (sng b2 (.cells #[int d.s, int d.d, int d.v, int d.r, int d.e] 31 (0, 0))) b2 3 = some (int d.r) := by rw [rdc_sng]; rfl
  have cd4 : rdc (sng b2 (.cells #[int d.s, int d.d, int d.v, int d.r, int d.e] 31 (0, 0))) b2 4 = some (int d.e) := by rw [rdc_sng]; rfl
  by_cases c1 : d.s < 0
  · rw [show okDmB nq d = false from decide_eq_false (fun h => by unfold okDm at h; omega)]
    refine zq_assign ?_
    refine jk_nil ?_
    refine jk_seq ?_
    refine jk_region ?_
    refine zq_fld0 ?_
    refine zq_load ?_
    refine zq_len ?_
    refine zq_assign ?_
    refine jk_nil ?_
    refine jk_seq ?_
    refine jk_seq ?_
    refine jk_region ?_
    refine zq_fld0 ?_
    refine zq_load ?_
    refine zq_lt ?_
    refine zq_move ?_
    refine jk_pass rfl rfl rfl ?_
    refine jk_pass rfl rfl rfl ?_
    refine jk_pass rfl rfl rfl ?_
    refine jk_pass rfl rfl rfl ?_
    refine zq_pick_t ?_
    refine zq_move ?_
    refine jk_pass rfl rfl rfl ?_
    refine jk_pass rfl rfl rfl ?_
    refine jk_pass rfl rfl rfl ?_
    refine zq_pick_t ?_
    refine zq_move ?_
    refine jk_pass rfl rfl rfl ?_
    refine jk_pass rfl rfl rfl ?_
    refine jk_pass rfl rfl rfl ?_
    refine jk_pass rfl rfl rfl ?_
    refine zq_pick_t ?_
    refine zq_move ?_
    refine jk_pass rfl rfl rfl ?_
    refine jk_pass rfl rfl rfl ?_
    refine jk_pass rfl rfl rfl ?_
    refine jk_pass rfl rfl rfl ?_
    refine jk_pass rfl rfl rfl ?_
    refine zq_pick_t ?_
    refine zq_move ?_
    refine jk_pass rfl rfl rfl ?_
    refine jk_pass rfl rfl rfl ?_
    refine jk_pass rfl rfl rfl ?_
    refine zq_pick_t ?_
    refine zq_move ?_
    refine jk_pass rfl rfl rfl ?_
    refine jk_pass rfl rfl rfl ?_
    refine jk_pass rfl rfl rfl ?_
    refine zq_pick_t ?_
    refine jk_nil ?_
    refine jk_if_t rfl ?_
    refine jk_seq ?_
    refine jk_region ?_
    refine zq_assign ?_
    refine jk_nil ?_
    exact jk_ret_any (res1 rfl rfl) (by (repeat (first | exact rs_nil | (refine rs_cons ?_ ?_; (focus ((repeat (first | exact .here | apply Mem.there | apply Take.there)); first | done | fail))) | exact fun ρ hρ => hρ | (intro ρ hρ; repeat (first | exact hρ | refine List.mem_cons_of_mem _ ?_)))); first | done | fail) selZ ⟨rfl, rfl⟩
  by_cases c182 : (nq : Int) ≤ d.s
  · rw [show okDmB nq d = false from decide_eq_false (fun h => by unfold okDm at h; omega)]
    refine zq_assign ?_
    refine jk_nil ?_
    refine jk_seq ?_
    refine jk_region ?_
    refine zq_fld0 ?_
    refine zq_load ?_
    refine zq_len ?_
    refine zq_assign ?_
    refine jk_nil ?_
    refine jk_seq ?_
    refine jk_seq ?_
    refine jk_region ?_
    refine zq_fld0 ?_
    refine zq_load ?_
    refine zq_ltF ?_
    refine zq_move ?_
    refine zq_fld0 ?_
    refine zq_load ?_
    refine zq_move ?_
    refine zq_ge ?_
    refine zq_pick_f ?_
    refine zq_move ?_
    refine jk_pass rfl rfl rfl ?_
    refine jk_pass rfl rfl rfl ?_
    refine jk_pass rfl rfl rfl ?_
    refine zq_pick_t ?_
    refine zq_move ?_
    refine jk_pass rfl rfl rfl ?_
    refine jk_pass rfl rfl rfl ?_
    refine jk_pass rfl rfl rfl ?_
    refine jk_pass rfl rfl rfl ?_
    refine zq_pick_t ?_
    refine zq_move ?_
    refine jk_pass rfl rfl rfl ?_
    refine jk_pass rfl rfl rfl ?_
    refine jk_pass rfl rfl rfl ?_
    refine jk_pass rfl rfl rfl ?_
    refine jk_pass rfl rfl rfl ?_
    refine zq_pick_t ?_
    refine zq_move ?_
    refine jk_pass rfl rfl rfl ?_
    refine jk_pass rfl rfl rfl ?_
    refine jk_pass rfl rfl rfl ?_
    refine zq_pick_t ?_
    refine zq_move ?_
    refine jk_pass rfl rfl rfl ?_
    refine jk_pass rfl rfl rfl ?_
    refine jk_pass rfl rfl rfl ?_
    refine zq_pick_t ?_
    refine jk_nil ?_
    refine jk_if_t rfl ?_
    refine jk_seq ?_
    refine jk_region ?_
    refine zq_assign ?_
    refine jk_nil ?_
    exact jk_ret_any (res1 rfl rfl) (by (repeat (first | exact rs_nil | (refine rs_cons ?_ ?_; (focus ((repeat (first | exact .here | apply Mem.there | apply Take.there)); first | done | fail))) | exact fun ρ hρ => hρ | (intro ρ hρ; repeat (first | exact hρ | refine List.mem_cons_of_mem _ ?_)))); first | done | fail) selZ ⟨rfl, rfl⟩
  by_cases c374 : d.d < 0
  · rw [show okDmB nq d = false from decide_eq_false (fun h => by unfold okDm at h; omega)]
    refine zq_assign ?_
    refine jk_nil ?_
    refine jk_seq ?_
    refine jk_region ?_
    refine zq_fld0 ?_
    refine zq_load ?_
    refine zq_len ?_
    refine zq_assign ?_
    refine jk_nil ?_
    refine jk_seq ?_
    refine jk_seq ?_
    refine jk_region ?_
    refine zq_fld0 ?_
    refine zq_load ?_
    refine zq_ltF ?_
    refine zq_move ?_
    refine zq_fld0 ?_
    refine zq_load ?_
    refine zq_move ?_
    refine zq_geF ?_
    refine zq_pick_f ?_
    refine zq_move ?_
    refine zq_fld0 ?_
    refine zq_load ?_
    refine zq_lt ?_
    refine zq_pick_f ?_
    refine zq_move ?_
    refine jk_pass rfl rfl rfl ?_
    refine jk_pass rfl rfl rfl ?_
    refine jk_pass rfl rfl rfl ?_
    refine jk_pass rfl rfl rfl ?_
    refine zq_pick_t ?_
    refine zq_move ?_
    refine jk_pass rfl rfl rfl ?_
    refine jk_pass rfl rfl rfl ?_
    refine jk_pass rfl rfl rfl ?_
    refine jk_pass rfl rfl rfl ?_
    refine jk_pass rfl rfl rfl ?_
    refine zq_pick_t ?_
    refine zq_move ?_
    refine jk_pass rfl rfl rfl ?_
    refine jk_pass rfl rfl rfl ?_
    refine jk_pass rfl rfl rfl ?_
    refine zq_pick_t ?_
    refine zq_move ?_
    refine jk_pass rfl rfl rfl ?_
    refine jk_pass rfl rfl rfl ?_
    refine jk_pass rfl rfl rfl ?_
    refine zq_pick_t ?_
    refine jk_nil ?_
    refine jk_if_t rfl ?_
    refine jk_seq ?_
    refine jk_region ?_
    refine zq_assign ?_
    refine jk_nil ?_
    exact jk_ret_any (res1 rfl rfl) (by (repeat (first | exact rs_nil | (refine rs_cons ?_ ?_; (focus ((repeat (first | exact .here | apply Mem.there | apply Take.there)); first | done | fail))) | exact fun ρ hρ => hρ | (intro ρ hρ; repeat (first | exact hρ | refine List.mem_cons_of_mem _ ?_)))); first | done | fail) selZ ⟨rfl, rfl⟩
  by_cases c557 : (nq : Int) ≤ d.d
  · rw [show okDmB nq d = false from decide_eq_false (fun h => by unfold okDm at h; omega)]
    refine zq_assign ?_
    refine jk_nil ?_
    refine jk_seq ?_
    refine jk_region ?_
    refine zq_fld0 ?_
    refine zq_load ?_
    refine zq_len ?_
    refine zq_assign ?_
    refine jk_nil ?_
    refine jk_seq ?_
    refine jk_seq ?_
    refine jk_region ?_
    refine zq_fld0 ?_
    refine zq_load ?_
    refine zq_ltF ?_
    refine zq_move ?_
    refine zq_fld0 ?_
    refine zq_load ?_
    refine zq_move ?_
    refine zq_geF ?_
    refine zq_pick_f ?_
    refine zq_move ?_
    refine zq_fld0 ?_
    refine zq_load ?_
    refine zq_ltF ?_
    refine zq_pick_f ?_
    refine zq_move ?_
    refine zq_fld0 ?_
    refine zq_load ?_
    refine zq_move ?_
    refine zq_ge ?_
    refine zq_pick_f ?_
    refine zq_move ?_
    refine jk_pass rfl rfl rfl ?_
    refine jk_pass rfl rfl rfl ?_
    refine jk_pass rfl rfl rfl ?_
    refine jk_pass rfl rfl rfl ?_
    refine jk_pass rfl rfl rfl ?_
    refine zq_pick_t ?_
    refine zq_move ?_
    refine jk_pass rfl rfl rfl ?_
    refine jk_pass rfl rfl rfl ?_
    refine jk_pass rfl rfl rfl ?_
    refine zq_pick_t ?_
    refine zq_move ?_
    refine jk_pass rfl rfl rfl ?_
    refine jk_pass rfl rfl rfl ?_
    refine jk_pass rfl rfl rfl ?_
    refine zq_pick_t ?_
    refine jk_nil ?_
    refine jk_if_t rfl ?_
    refine jk_seq ?_
    refine jk_region ?_
    refine zq_assign ?_
    refine jk_nil ?_
    exact jk_ret_any (res1 rfl rfl) (by (repeat (first | exact rs_nil | (refine rs_cons ?_ ?_; (focus ((repeat (first | exact .here | apply Mem.there | apply Take.there)); first | done | fail))) | exact fun ρ hρ => hρ | (intro ρ hρ; repeat (first | exact hρ | refine List.mem_cons_of_mem _ ?_)))); first | done | fail) selZ ⟨rfl, rfl⟩
  by_cases c749 : d.s = d.d
  · rw [show okDmB nq d = false from decide_eq_false (fun h => by unfold okDm at h; omega)]
    refine zq_assign ?_
    refine jk_nil ?_
    refine jk_seq ?_
    refine jk_region ?_
    refine zq_fld0 ?_
    refine zq_load ?_
    refine zq_len ?_
    refine zq_assign ?_
    refine jk_nil ?_
    refine jk_seq ?_
    refine jk_seq ?_
    refine jk_region ?_
    refine zq_fld0 ?_
    refine zq_load ?_
    refine zq_ltF ?_
    refine zq_move ?_
    refine zq_fld0 ?_
    refine zq_load ?_
    refine zq_move ?_
    refine zq_geF ?_
    refine zq_pick_f ?_
    refine zq_move ?_
    refine zq_fld0 ?_
    refine zq_load ?_
    refine zq_ltF ?_
    refine zq_pick_f ?_
    refine zq_move ?_
    refine zq_fld0 ?_
    refine zq_load ?_
    refine zq_move ?_
    refine zq_geF ?_
    refine zq_pick_f ?_
    refine zq_move ?_
    refine zq_fld0 ?_
    refine zq_load ?_
    refine zq_fld0 ?_
    refine zq_load ?_
    refine zq_eq ?_
    refine zq_pick_f ?_
    refine zq_move ?_
    refine jk_pass rfl rfl rfl ?_
    refine jk_pass rfl rfl rfl ?_
    refine jk_pass rfl rfl rfl ?_
    refine zq_pick_t ?_
    refine zq_move ?_
    refine jk_pass rfl rfl rfl ?_
    refine jk_pass rfl rfl rfl ?_
    refine jk_pass rfl rfl rfl ?_
    refine zq_pick_t ?_
    refine jk_nil ?_
    refine jk_if_t rfl ?_
    refine jk_seq ?_
    refine jk_region ?_
    refine zq_assign ?_
    refine jk_nil ?_
    exact jk_ret_any (res1 rfl rfl) (by (repeat (first | exact rs_nil | (refine rs_cons ?_ ?_; (focus ((repeat (first | exact .here | apply Mem.there | apply Take.there)); first | done | fail))) | exact fun ρ hρ => hρ | (intro ρ hρ; repeat (first | exact hρ | refine List.mem_cons_of_mem _ ?_)))); first | done | fail) selZ ⟨rfl, rfl⟩
  by_cases c934 : d.v < 1
  · rw [show okDmB nq d = false from decide_eq_false (fun h => by unfold okDm at h; omega)]
    refine zq_assign ?_
    refine jk_nil ?_
    refine jk_seq ?_
    refine jk_region ?_
    refine zq_fld0 ?_
    refine zq_load ?_
    refine zq_len ?_
    refine zq_assign ?_
    refine jk_nil ?_
    refine jk_seq ?_
    refine jk_seq ?_
    refine jk_region ?_
    refine zq_fld0 ?_
    refine zq_load ?_
    refine zq_ltF ?_
    refine zq_move ?_
    refine zq_fld0 ?_
    refine zq_load ?_
    refine zq_move ?_
    refine zq_geF ?_
    refine zq_pick_f ?_
    refine zq_move ?_
    refine zq_fld0 ?_
    refine zq_load ?_
    refine zq_ltF ?_
    refine zq_pick_f ?_
    refine zq_move ?_
    refine zq_fld0 ?_
    refine zq_load ?_
    refine zq_move ?_
    refine zq_geF ?_
    refine zq_pick_f ?_
    refine zq_move ?_
    refine zq_fld0 ?_
    refine zq_load ?_
    refine zq_fld0 ?_
    refine zq_load ?_
    refine zq_eqF ?_
    refine zq_pick_f ?_
    refine zq_move ?_
    refine zq_fld0 ?_
    refine zq_load ?_
    refine zq_lt ?_
    refine zq_pick_f ?_
    refine zq_move ?_
    refine jk_pass rfl rfl rfl ?_
    refine jk_pass rfl rfl rfl ?_
    refine jk_pass rfl rfl rfl ?_
    refine zq_pick_t ?_
    refine jk_nil ?_
    refine jk_if_t rfl ?_
    refine jk_seq ?_
    refine jk_region ?_
    refine zq_assign ?_
    refine jk_nil ?_
    exact jk_ret_any (res1 rfl rfl) (by (repeat (first | exact rs_nil | (refine rs_cons ?_ ?_; (focus ((repeat (first | exact .here | apply Mem.there | apply Take.there)); first | done | fail))) | exact fun ρ hρ => hρ | (intro ρ hρ; repeat (first | exact hρ | refine List.mem_cons_of_mem _ ?_)))); first | done | fail) selZ ⟨rfl, rfl⟩
  by_cases c1117 : 1099511627776 < d.v
  · rw [show okDmB nq d = false from decide_eq_false (fun h => by unfold okDm at h; omega)]
    refine zq_assign ?_
    refine jk_nil ?_
    refine jk_seq ?_
    refine jk_region ?_
    refine zq_fld0 ?_
    refine zq_load ?_
    refine zq_len ?_
    refine zq_assign ?_
    refine jk_nil ?_
    refine jk_seq ?_
    refine jk_seq ?_
    refine jk_region ?_
    refine zq_fld0 ?_
    refine zq_load ?_
    refine zq_ltF ?_
    refine zq_move ?_
    refine zq_fld0 ?_
    refine zq_load ?_
    refine zq_move ?_
    refine zq_geF ?_
    refine zq_pick_f ?_
    refine zq_move ?_
    refine zq_fld0 ?_
    refine zq_load ?_
    refine zq_ltF ?_
    refine zq_pick_f ?_
    refine zq_move ?_
    refine zq_fld0 ?_
    refine zq_load ?_
    refine zq_move ?_
    refine zq_geF ?_
    refine zq_pick_f ?_
    refine zq_move ?_
    refine zq_fld0 ?_
    refine zq_load ?_
    refine zq_fld0 ?_
    refine zq_load ?_
    refine zq_eqF ?_
    refine zq_pick_f ?_
    refine zq_move ?_
    refine zq_fld0 ?_
    refine zq_load ?_
    refine zq_ltF ?_
    refine zq_pick_f ?_
    refine zq_move ?_
    refine zq_fld0 ?_
    refine zq_load ?_
    refine zq_gt ?_
    refine zq_pick_f ?_
    refine jk_nil ?_
    refine jk_if_t rfl ?_
    refine jk_seq ?_
    refine jk_region ?_
    refine zq_assign ?_
    refine jk_nil ?_
    exact jk_ret_any (res1 rfl rfl) (by (repeat (first | exact rs_nil | (refine rs_cons ?_ ?_; (focus ((repeat (first | exact .here | apply Mem.there | apply Take.there)); first | done | fail))) | exact fun ρ hρ => hρ | (intro ρ hρ; repeat (first | exact hρ | refine List.mem_cons_of_mem _ ?_)))); first | done | fail) selZ ⟨rfl, rfl⟩
  by_cases c1313 : d.r < 0
  · rw [show okDmB nq d = false from decide_eq_false (fun h => by unfold okDm at h; omega)]
    refine zq_assign ?_
    refine jk_nil ?_
    refine jk_seq ?_
    refine jk_region ?_
    refine zq_fld0 ?_
    refine zq_load ?_
    refine zq_len ?_
    refine zq_assign ?_
    refine jk_nil ?_
    refine jk_seq ?_
    refine jk_seq ?_
    refine jk_region ?_
    refine zq_fld0 ?_
    refine zq_load ?_
    refine zq_ltF ?_
    refine zq_move ?_
    refine zq_fld0 ?_
    refine zq_load ?_
    refine zq_move ?_
    refine zq_geF ?_
    refine zq_pick_f ?_
    refine zq_move ?_
    refine zq_fld0 ?_
    refine zq_load ?_
    refine zq_ltF ?_
    refine zq_pick_f ?_
    refine zq_move ?_
    refine zq_fld0 ?_
    refine zq_load ?_
    refine zq_move ?_
    refine zq_geF ?_
    refine zq_pick_f ?_
    refine zq_move ?_
    refine zq_fld0 ?_
    refine zq_load ?_
    refine zq_fld0 ?_
    refine zq_load ?_
    refine zq_eqF ?_
    refine zq_pick_f ?_
    refine zq_move ?_
    refine zq_fld0 ?_
    refine zq_load ?_
    refine zq_ltF ?_
    refine zq_pick_f ?_
    refine zq_move ?_
    refine zq_fld0 ?_
    refine zq_load ?_
    refine zq_gtF ?_
    refine zq_pick_f ?_
    refine jk_nil ?_
    refine jk_if_f rfl ?_
    refine jk_skip ?_
    refine jk_seq ?_
    refine jk_region ?_
    refine zq_fld0 ?_
    refine zq_load ?_
    refine zq_geF ?_
    refine zq_move ?_
    refine jk_pass rfl rfl rfl ?_
    refine jk_pass rfl rfl rfl ?_
    refine jk_pass rfl rfl rfl ?_
    refine jk_pass rfl rfl rfl ?_
    refine jk_pass rfl rfl rfl ?_
    refine zq_pick_f ?_
    refine zq_move ?_
    refine jk_pass rfl rfl rfl ?_
    refine jk_pass rfl rfl rfl ?_
    refine jk_pass rfl rfl rfl ?_
    refine zq_pick_f ?_
    refine zq_move ?_
    refine jk_pass rfl rfl rfl ?_
    refine jk_pass rfl rfl rfl ?_
    refine jk_pass rfl rfl rfl ?_
    refine jk_pass rfl rfl rfl ?_
    refine jk_pass rfl rfl rfl ?_
    refine jk_pass rfl rfl rfl ?_
    refine zq_pick_f ?_
    refine zq_assign ?_
    refine jk_nil ?_
    exact jk_ret_any (res1 rfl rfl) (by (repeat (first | exact rs_nil | (refine rs_cons ?_ ?_; (focus ((repeat (first | exact .here | apply Mem.there | apply Take.there)); first | done | fail))) | exact fun ρ hρ => hρ | (intro ρ hρ; repeat (first | exact hρ | refine List.mem_cons_of_mem _ ?_)))); first | done | fail) selZ ⟨rfl, rfl⟩
  by_cases c1497 : d.e ≤ d.r
  · rw [show okDmB nq d = false from decide_eq_false (fun h => by unfold okDm at h; omega)]
    refine zq_assign ?_
    refine jk_nil ?_
    refine jk_seq ?_
    refine jk_region ?_
    refine zq_fld0 ?_
    refine zq_load ?_
    refine zq_len ?_
    refine zq_assign ?_
    refine jk_nil ?_
    refine jk_seq ?_
    refine jk_seq ?_
    refine jk_region ?_
    refine zq_fld0 ?_
    refine zq_load ?_
    refine zq_ltF ?_
    refine zq_move ?_
    refine zq_fld0 ?_
    refine zq_load ?_
    refine zq_move ?_
    refine zq_geF ?_
    refine zq_pick_f ?_
    refine zq_move ?_
    refine zq_fld0 ?_
    refine zq_load ?_
    refine zq_ltF ?_
    refine zq_pick_f ?_
    refine zq_move ?_
    refine zq_fld0 ?_
    refine zq_load ?_
    refine zq_move ?_
    refine zq_geF ?_
    refine zq_pick_f ?_
    refine zq_move ?_
    refine zq_fld0 ?_
    refine zq_load ?_
    refine zq_fld0 ?_
    refine zq_load ?_
    refine zq_eqF ?_
    refine zq_pick_f ?_
    refine zq_move ?_
    refine zq_fld0 ?_
    refine zq_load ?_
    refine zq_ltF ?_
    refine zq_pick_f ?_
    refine zq_move ?_
    refine zq_fld0 ?_
    refine zq_load ?_
    refine zq_gtF ?_
    refine zq_pick_f ?_
    refine jk_nil ?_
    refine jk_if_f rfl ?_
    refine jk_skip ?_
    refine jk_seq ?_
    refine jk_region ?_
    refine zq_fld0 ?_
    refine zq_load ?_
    refine zq_ge ?_
    refine zq_move ?_
    refine zq_fld0 ?_
    refine zq_load ?_
    refine zq_fld0 ?_
    refine zq_load ?_
    refine zq_ltF ?_
    refine zq_pick_t ?_
    refine zq_move ?_
    refine jk_pass rfl rfl rfl ?_
    refine jk_pass rfl rfl rfl ?_
    refine jk_pass rfl rfl rfl ?_
    refine zq_pick_f ?_
    refine zq_move ?_
    refine jk_pass rfl rfl rfl ?_
    refine jk_pass rfl rfl rfl ?_
    refine jk_pass rfl rfl rfl ?_
    refine jk_pass rfl rfl rfl ?_
    refine jk_pass rfl rfl rfl ?_
    refine jk_pass rfl rfl rfl ?_
    refine zq_pick_f ?_
    refine zq_assign ?_
    refine jk_nil ?_
    exact jk_ret_any (res1 rfl rfl) (by (repeat (first | exact rs_nil | (refine rs_cons ?_ ?_; (focus ((repeat (first | exact .here | apply Mem.there | apply Take.there)); first | done | fail))) | exact fun ρ hρ => hρ | (intro ρ hρ; repeat (first | exact hρ | refine List.mem_cons_of_mem _ ?_)))); first | done | fail) selZ ⟨rfl, rfl⟩
  by_cases c1683 : 1099511627776 < d.e
  · rw [show okDmB nq d = false from decide_eq_false (fun h => by unfold okDm at h; omega)]
    refine zq_assign ?_
    refine jk_nil ?_
    refine jk_seq ?_
    refine jk_region ?_
    refine zq_fld0 ?_
    refine zq_load ?_
    refine zq_len ?_
    refine zq_assign ?_
    refine jk_nil ?_
    refine jk_seq ?_
    refine jk_seq ?_
    refine jk_region ?_
    refine zq_fld0 ?_
    refine zq_load ?_
    refine zq_ltF ?_
    refine zq_move ?_
    refine zq_fld0 ?_
    refine zq_load ?_
    refine zq_move ?_
    refine zq_geF ?_
    refine zq_pick_f ?_
    refine zq_move ?_
    refine zq_fld0 ?_
    refine zq_load ?_
    refine zq_ltF ?_
    refine zq_pick_f ?_
    refine zq_move ?_
    refine zq_fld0 ?_
    refine zq_load ?_
    refine zq_move ?_
    refine zq_geF ?_
    refine zq_pick_f ?_
    refine zq_move ?_
    refine zq_fld0 ?_
    refine zq_load ?_
    refine zq_fld0 ?_
    refine zq_load ?_
    refine zq_eqF ?_
    refine zq_pick_f ?_
    refine zq_move ?_
    refine zq_fld0 ?_
    refine zq_load ?_
    refine zq_ltF ?_
    refine zq_pick_f ?_
    refine zq_move ?_
    refine zq_fld0 ?_
    refine zq_load ?_
    refine zq_gtF ?_
    refine zq_pick_f ?_
    refine jk_nil ?_
    refine jk_if_f rfl ?_
    refine jk_skip ?_
    refine jk_seq ?_
    refine jk_region ?_
    refine zq_fld0 ?_
    refine zq_load ?_
    refine zq_ge ?_
    refine zq_move ?_
    refine zq_fld0 ?_
    refine zq_load ?_
    refine zq_fld0 ?_
    refine zq_load ?_
    refine zq_lt ?_
    refine zq_pick_t ?_
    refine zq_move ?_
    refine zq_fld0 ?_
    refine zq_load ?_
    refine zq_leF ?_
    refine zq_pick_t ?_
    refine zq_move ?_
    refine jk_pass rfl rfl rfl ?_
    refine jk_pass rfl rfl rfl ?_
    refine jk_pass rfl rfl rfl ?_
    refine jk_pass rfl rfl rfl ?_
    refine jk_pass rfl rfl rfl ?_
    refine jk_pass rfl rfl rfl ?_
    refine zq_pick_f ?_
    refine zq_assign ?_
    refine jk_nil ?_
    exact jk_ret_any (res1 rfl rfl) (by (repeat (first | exact rs_nil | (refine rs_cons ?_ ?_; (focus ((repeat (first | exact .here | apply Mem.there | apply Take.there)); first | done | fail))) | exact fun ρ hρ => hρ | (intro ρ hρ; repeat (first | exact hρ | refine List.mem_cons_of_mem _ ?_)))); first | done | fail) selZ ⟨rfl, rfl⟩
  by_cases c1879 : 100 < d.e - d.r
  · rw [show okDmB nq d = false from decide_eq_false (fun h => by unfold okDm at h; omega)]
    refine zq_assign ?_
    refine jk_nil ?_
    refine jk_seq ?_
    refine jk_region ?_
    refine zq_fld0 ?_
    refine zq_load ?_
    refine zq_len ?_
    refine zq_assign ?_
    refine jk_nil ?_
    refine jk_seq ?_
    refine jk_seq ?_
    refine jk_region ?_
    refine zq_fld0 ?_
    refine zq_load ?_
    refine zq_ltF ?_
    refine zq_move ?_
    refine zq_fld0 ?_
    refine zq_load ?_
    refine zq_move ?_
    refine zq_geF ?_
    refine zq_pick_f ?_
    refine zq_move ?_
    refine zq_fld0 ?_
    refine zq_load ?_
    refine zq_ltF ?_
    refine zq_pick_f ?_
    refine zq_move ?_
    refine zq_fld0 ?_
    refine zq_load ?_
    refine zq_move ?_
    refine zq_geF ?_
    refine zq_pick_f ?_
    refine zq_move ?_
    refine zq_fld0 ?_
    refine zq_load ?_
    refine zq_fld0 ?_
    refine zq_load ?_
    refine zq_eqF ?_
    refine zq_pick_f ?_
    refine zq_move ?_
    refine zq_fld0 ?_
    refine zq_load ?_
    refine zq_ltF ?_
    refine zq_pick_f ?_
    refine zq_move ?_
    refine zq_fld0 ?_
    refine zq_load ?_
    refine zq_gtF ?_
    refine zq_pick_f ?_
    refine jk_nil ?_
    refine jk_if_f rfl ?_
    refine jk_skip ?_
    refine jk_seq ?_
    refine jk_region ?_
    refine zq_fld0 ?_
    refine zq_load ?_
    refine zq_ge ?_
    refine zq_move ?_
    refine zq_fld0 ?_
    refine zq_load ?_
    refine zq_fld0 ?_
    refine zq_load ?_
    refine zq_lt ?_
    refine zq_pick_t ?_
    refine zq_move ?_
    refine zq_fld0 ?_
    refine zq_load ?_
    refine zq_le ?_
    refine zq_pick_t ?_
    refine zq_move ?_
    refine zq_fld0 ?_
    refine zq_load ?_
    refine zq_fld0 ?_
    refine zq_load ?_
    refine zq_sub ?_
    refine zq_leF ?_
    refine zq_pick_t ?_
    refine zq_assign ?_
    refine jk_nil ?_
    exact jk_ret_any (res1 rfl rfl) (by (repeat (first | exact rs_nil | (refine rs_cons ?_ ?_; (focus ((repeat (first | exact .here | apply Mem.there | apply Take.there)); first | done | fail))) | exact fun ρ hρ => hρ | (intro ρ hρ; repeat (first | exact hρ | refine List.mem_cons_of_mem _ ?_)))); first | done | fail) selZ ⟨rfl, rfl⟩
  rw [show okDmB nq d = true from decide_eq_true (by unfold okDm; omega)]
  refine zq_assign ?_
  refine jk_nil ?_
  refine jk_seq ?_
  refine jk_region ?_
  refine zq_fld0 ?_
  refine zq_load ?_
  refine zq_len ?_
  refine zq_assign ?_
  refine jk_nil ?_
  refine jk_seq ?_
  refine jk_seq ?_
  refine jk_region ?_
  refine zq_fld0 ?_
  refine zq_load ?_
  refine zq_ltF ?_
  refine zq_move ?_
  refine zq_fld0 ?_
  refine zq_load ?_
  refine zq_move ?_
  refine zq_geF ?_
  refine zq_pick_f ?_
  refine zq_move ?_
  refine zq_fld0 ?_
  refine zq_load ?_
  refine zq_ltF ?_
  refine zq_pick_f ?_
  refine zq_move ?_
  refine zq_fld0 ?_
  refine zq_load ?_
  refine zq_move ?_
  refine zq_geF ?_
  refine zq_pick_f ?_
  refine zq_move ?_
  refine zq_fld0 ?_
  refine zq_load ?_
  refine zq_fld0 ?_
  refine zq_load ?_
  refine zq_eqF ?_
  refine zq_pick_f ?_
  refine zq_move ?_
  refine zq_fld0 ?_
  refine zq_load ?_
  refine zq_ltF ?_
  refine zq_pick_f ?_
  refine zq_move ?_
  refine zq_fld0 ?_
  refine zq_load ?_
  refine zq_gtF ?_
  refine zq_pick_f ?_
  refine jk_nil ?_
  refine jk_if_f rfl ?_
  refine jk_skip ?_
  refine jk_seq ?_
  refine jk_region ?_
  refine zq_fld0 ?_
  refine zq_load ?_
  refine zq_ge ?_
  refine zq_move ?_
  refine zq_fld0 ?_
  refine zq_load ?_
  refine zq_fld0 ?_
  refine zq_load ?_
  refine zq_lt ?_
  refine zq_pick_t ?_
  refine zq_move ?_
  refine zq_fld0 ?_
  refine zq_load ?_
  refine zq_le ?_
  refine zq_pick_t ?_
  refine zq_move ?_
  refine zq_fld0 ?_
  refine zq_load ?_
  refine zq_fld0 ?_
  refine zq_load ?_
  refine zq_sub ?_
  refine zq_le ?_
  refine zq_pick_t ?_
  refine zq_assign ?_
  refine jk_nil ?_
  exact jk_ret_any (res1 rfl rfl) (by (repeat (first | exact rs_nil | (refine rs_cons ?_ ?_; (focus ((repeat (first | exact .here | apply Mem.there | apply Take.there)); first | done | fail))) | exact fun ρ hρ => hρ | (intro ρ hρ; repeat (first | exact hρ | refine List.mem_cons_of_mem _ ?_)))); first | done | fail) selZ ⟨rfl, rfl⟩
end Go.Proofs.YthdoegkjifgegaaGreat
/- Links, rooms, and the iterator that yields the links with room. -/
namespace Go.Proofs.YthdoegkjifgegaaGreat
open Go.Eng Go.Flow
set_option maxRecDepth 100000
set_option maxHeartbeats 4000000

def encL (x : Lk) : List Value := [int x.k, int x.f, int x.t]
theorem encL_len (x : Lk) : (encL x).length = 3 := rfl
theorem lkRow {ρ : PH} {p : Option Addr} {l : List Lk} (h : RowsE encL 3 ρ p l) {i : Nat} {x : Lk} (hx : l[i]? = some x) :
    ∃ b o, p = some ⟨b, o, none⟩ ∧ RdN ρ b (o + i * 3) [int x.k, int x.f, int x.t] := by
  obtain ⟨b, o, e, hr⟩ := h i x hx
  exact ⟨b, o, e, hr⟩
/-- the elements that the iterator hands on -/
def openL (rm : Nat → Int) (l : List Lk) : List Lk := l.filter (fun x => decide (0 < rm x.k))
theorem openL_snoc (rm : Nat → Int) (l : List Lk) (x : Lk) : openL rm (l ++ [x]) = openL rm l ++ (if 0 < rm x.k then [x] else []) := by
  unfold openL
  rw [List.filter_append]
  by_cases h : 0 < rm x.k <;> simp [h]
theorem openL_take {rm : Nat → Int} {l : List Lk} {k : Nat} (h : k < l.length) (hp : 0 < rm l[k].k) : (openL rm l)[(openL rm (l.take k)).length]? = some l[k] := by
  have e : l = l.take k ++ (l[k] :: l.drop (k + 1)) := by
    rw [← List.drop_eq_getElem_cons h, List.take_append_drop]
  conv => lhs; rw [e]
  unfold openL
  rw [List.filter_append, List.getElem?_append_right (by simp)]
  have : List.filter (fun x => decide (0 < rm x.k)) (l[k] :: l.drop (k + 1)) = l[k] :: List.filter (fun x => decide (0 < rm x.k)) (l.drop (k + 1)) := by
    rw [List.filter_cons, if_pos (by simpa using hp)]
  rw [this]
  have hl : (List.take k (List.take k l ++ l[k] :: List.drop (k + 1) l)) = List.take k l := by rw [← e]
  rw [hl]
  simp

theorem open_spec (g l : Value) (hl1 : l.oneCell' = true) (hg1 : g.oneCell' = true) :
    Eng.Spec Tryz.prog (fv 56) [g, l] [] [] (fun v H' => ∃ bl bg, v = .func (.func 101) #[] #[.pointer (some ⟨bl, 0, none⟩), .pointer (some ⟨bg, 0, none⟩)] ∧
      H' = [sng bl (.cells #[l] 122 (0, 0)), sng bg (.cells #[g] 115 (0, 0))]) := by
  refine spec_in (cap := []) Tryz.func56 rfl rfl Tryz.ntmps56 rfl (by (repeat (first | exact EnvA.nil EnvI.nil | apply EnvA.cons | apply EnvA.nil | exact EnvI.nil | apply EnvI.cons)); first | done | fail) (fun N β => ?_)
  refine jk_seq ?_
  refine jk_region ?_
  refine jk_op (l_box1 rfl hg1) rfl rfl rfl ?_
  rintro _ _ ⟨bg, rfl, rfl⟩
  refine jk_op (l_box1 rfl hl1) rfl rfl rfl ?_
  rintro _ _ ⟨bl, rfl, rfl⟩
  refine zq_assign ?_
  refine jk_nil ?_
  refine jk_seq ?_
  refine jk_region ?_
  refine zq_makeFunc ?_
  refine zq_assign ?_
  refine jk_nil ?_
  exact jk_ret_any (res1 rfl rfl) (by (repeat (first | exact rs_nil | (refine rs_cons ?_ ?_; (focus ((repeat (first | exact .here | apply Mem.there | apply Take.there)); first | done | fail))) | exact fun ρ hρ => hρ | (intro ρ hρ; repeat (first | exact hρ | refine List.mem_cons_of_mem _ ?_)))); first | done | fail) selZ ⟨bl, bg, rfl, rfl⟩

theorem open_iter (γ : PH) (gb bl bg : Nat) (lv room : Value) (ls : List Lk) (rm : Nat → Int) (Rr : List PH) (hls : SlE encL 3 γ lv ls) (hlen : ls.length ≤ 1000000) (hroom : rdc γ gb 2 = some room)
    (hrm : ∀ x ∈ ls, Ans Tryz.prog room [int x.k] Rr (fun v => v = int (rm x.k))) :
    Iter Tryz.prog (.func (.func 101) #[] #[.pointer (some ⟨bl, 0, none⟩), .pointer (some ⟨bg, 0, none⟩)])
      ([sng bl (.cells #[lv] 122 (0, 0)), sng bg (.cells #[.pointer (some ⟨gb, 0, none⟩)] 115 (0, 0)), γ] ++ Rr) ((openL rm ls).map (fun x => [.agg (encL x).toArray])) := by
  intro y S Own Inv Stop Ry hy hyl σ0 h0
  obtain ⟨yl, rfl⟩ := hyl
  obtain ⟨p, c, rfl, hr⟩ := hls.val encL_len
  have c1 : rdc (sng bl (.cells #[.slice p ls.length c] 122 (0, 0))) bl 0 = some (.slice p ls.length c) := by rw [rdc_sng]; rfl
  have c2 : rdc (sng bg (.cells #[.pointer (some ⟨gb, 0, none⟩)] 115 (0, 0))) bg 0 = some (.pointer (some ⟨gb, 0, none⟩)) := by rw [rdc_sng]; rfl
  simp only [List.cons_append, List.nil_append]
  refine spec_in (cap := [.pointer (some ⟨bl, 0, none⟩), .pointer (some ⟨bg, 0, none⟩)]) Tryz.func101 rfl rfl Tryz.ntmps101 rfl (by (repeat (first | exact EnvA.nil EnvI.nil | apply EnvA.cons | apply EnvA.nil | exact EnvI.nil | apply EnvI.cons)); first | done | fail) (fun N β => ?_)
  refine jk_seq ?_
  refine jk_region ?_
  refine zq_load ?_
  refine zq_len ?_
  refine zq_move ?_
  refine jk_nil ?_
  refine jk_block ?_
  refine jk_loop [0, 1, 2, 6, 7] ((0, σ0) : Nat × S) (fun x => x.1 ≤ ls.length ∧ Inv (openL rm (ls.take x.1)).length x.2) (fun x => [(8, int x.1)]) (fun x => Own x.2) (fun x => ls.length - x.1) pickZ ⟨by simp, by simpa [openL] using h0⟩ covZ Sel.refl ?_
  rintro ⟨k, σ⟩ ⟨hk, hI⟩
  simp only at hk hI
  by_cases hlt : k < ls.length
  · obtain ⟨b', o, rfl, hA⟩ := lkRow hr (List.getElem?_eq_getElem hlt)
    have hrk := hrm ls[k] (List.getElem_mem hlt)
    have hsn := openL_snoc rm (ls.take k) ls[k]
    rw [← take_snoc' hlt] at hsn
    refine jk_seq ?_
    refine jk_region ?_
    refine zq_lt ?_
    refine jk_nil ?_
    refine jk_seq ?_
    refine jk_if_t rfl ?_
    refine jk_skip ?_
    refine jk_seq ?_
    refine jk_block ?_
    refine jk_seq ?_
    refine jk_region ?_
    refine zq_idxN ?_
    refine zq_loadS ?_
    refine zl_allocS ?_; rintro _ _ ⟨b, rfl, rfl⟩
    refine zs_storeS ?_; rintro _ _ ⟨rfl, rfl⟩
    refine jk_nil ?_
    refine jk_seq ?_
    by_cases hp : 0 < rm ls[k].k
    · have hget := openL_take hlt hp
      have hyk := hy (openL rm (ls.take k)).length σ [.agg (encL ls[k]).toArray] (by rw [List.getElem?_map, hget]; rfl) hI
      rw [if_pos hp] at hsn
      refine jk_draw (.q 0 (.q 1 (.q 2 (.q 3 (.q 4 (.q 5 (.l 6 .e (.q 7 (.q 8 (.q 9 (.q 10 (.l 11 .b (.q 12 (.q 13 .nil)))))))))))))) [] rfl (by kernel_rfl) Sel.nil ?_
      refine zd_load ?_
      refine zd_nilCheck ?_
      refine zd_fld0 ?_
      refine zd_load ?_
      refine zd_fld0 ?_
      refine zd_load ?_
      refine dj_l (a_call rfl hrk rfl rfl (fun τ hτ => .inl (by simp [hτ])) rfl rfl ?_)
      rintro _ rfl
      refine zd_gt ?_
      refine zd_move ?_
      refine zd_move ?_
      refine zd_loadS ?_
      refine dj_l (a_callH rfl hyk rfl rfl (Takes.skip Takes.all) (fun τ hτ => .inl (by simp [hτ])) rfl rfl (fun _ _ _ w hw => hw.sel Sel.nil) ?_)
      rintro v H' ⟨σ', rfl, ⟨rfl, hI'⟩ | ⟨rfl, hS⟩⟩
      · refine zd_not ?_
        refine zd_pick_t ?_
        refine dj_end ?_
        refine jk_if_f rfl ?_
        refine jk_skip ?_
        refine jk_blk ?_
        refine jk_region ?_
        refine zq_inc ?_
        refine zq_move ?_
        refine jk_nil ?_
        refine jk_round (k + 1, σ') ⟨by simp only; omega, ?_⟩ (by simp only; omega) covZ Sel.left
        simp only
        rw [hsn]
        simpa using hI'
      · refine zd_not ?_
        refine zd_pick_t ?_
        refine dj_end ?_
        refine jk_if_t rfl ?_
        exact jk_ret_any (res0 rfl) (fun _ h => h) Sel.left ⟨σ', rfl, .inr hS⟩
    · rw [if_neg hp, List.append_nil] at hsn
      refine jk_draw (.q 0 (.q 1 (.q 2 (.q 3 (.q 4 (.q 5 (.l 6 .e (.q 7 (.q 8 (.q 9 (.q 10 (.q 11 (.q 12 (.q 13 .nil)))))))))))))) [] rfl (by kernel_rfl) Sel.nil ?_
      refine zd_load ?_
      refine zd_nilCheck ?_
      refine zd_fld0 ?_
      refine zd_load ?_
      refine zd_fld0 ?_
      refine zd_load ?_
      refine dj_l (a_call rfl hrk rfl rfl (fun τ hτ => .inl (by simp [hτ])) rfl rfl ?_)
      rintro _ rfl
      refine zd_gtF ?_
      refine zd_move ?_
      refine dj_pass rfl rfl rfl rfl rfl ?_
      refine dj_pass rfl rfl rfl rfl rfl ?_
      refine dj_pass rfl rfl rfl rfl rfl ?_
      refine dj_pass rfl rfl rfl rfl rfl ?_
      refine zd_pick_f ?_
      refine dj_end ?_
      refine jk_if_f rfl ?_
      refine jk_skip ?_
      refine jk_blk ?_
      refine jk_region ?_
      refine zq_inc ?_
      refine zq_move ?_
      refine jk_nil ?_
      refine jk_round (k + 1, σ) ⟨by simp only; omega, ?_⟩ (by simp only; omega) covZ (Sel.skip Sel.refl)
      simp only
      rw [hsn]; exact hI
  · refine jk_seq ?_
    refine jk_region ?_
    refine zq_ltF ?_
    refine jk_nil ?_
    refine jk_seq ?_
    refine jk_if_f rfl ?_
    refine jk_exit rfl ?_
    refine jk_end_any (res0 rfl) (fun _ h => h) Sel.refl ⟨σ, rfl, .inl ?_⟩
    rw [List.take_of_length_le (by omega)] at hI
    simpa using hI
end Go.Proofs.YthdoegkjifgegaaGreat
/- Distances by a queue. -/
namespace Go.Proofs.YthdoegkjifgegaaGreat
open Go.Eng Go.Flow
set_option maxRecDepth 100000
set_option maxHeartbeats 4000000

theorem next_spec (bq : Nat) (qv : Value) (x : Value) (k : Nat) (xs : List Value) (ρq : PH) (hq : OwnO 3 1 qv (k + 1) (x :: xs) ρq) :
    Eng.Spec Tryz.prog (.func (.func 149) #[] #[.pointer (some ⟨bq, 0, none⟩)]) [] [] [sng bq (.cells #[qv] 22 (0, 0)), ρq]
      (fun v H' => v = x ∧ ∃ qv', OwnO 3 1 qv' k xs ρq ∧ qv'.oneCell' = true ∧ H' = [sng bq (.cells #[qv'] 22 (0, 0)), ρq]) := by
  obtain ⟨b, o, cap, rfl, h0, h1⟩ := hq.head
  refine spec_in (cap := [.pointer (some ⟨bq, 0, none⟩)]) Tryz.func149 rfl rfl Tryz.ntmps149 rfl (by (repeat (first | exact EnvA.nil EnvI.nil | apply EnvA.cons | apply EnvA.nil | exact EnvI.nil | apply EnvI.cons)); first | done | fail) (fun N β => ?_)
  refine jk_seq ?_
  refine jk_region ?_
  refine zq_assign ?_
  refine jk_nil ?_
  refine jk_seq ?_
  refine jk_region ?_
  refine zq_load ?_
  refine zq_idxZ ?_
  refine zq_load ?_
  refine zq_assign ?_
  refine jk_nil ?_
  refine jk_seq ?_
  refine jk_region ?_
  refine zq_load ?_
  focus ((refine' jk_q _ rfl rfl rfl _; rotate_left; (apply q_sliceLo (i := 1); exact rfl; exact rfl; exact rfl; exact rfl; omega)))
  refine zs_storeL ?_; rintro _ _ ⟨rfl, rfl⟩
  refine jk_nil ?_
  refine jk_seq ?_
  refine jk_region ?_
  refine zq_move ?_
  refine zq_assign ?_
  refine jk_nil ?_
  exact jk_ret_any (res1 rfl rfl) (by (repeat (first | exact rs_nil | (refine rs_cons ?_ ?_; (focus ((repeat (first | exact .here | apply Mem.there | apply Take.there)); first | done | fail))) | exact fun ρ hρ => hρ | (intro ρ hρ; repeat (first | exact hρ | refine List.mem_cons_of_mem _ ?_)))); first | done | fail) selZ ⟨rfl, _, h1, rfl, rfl⟩

/-- a graph in memory -/
structure GAt (γ : PH) (gb n : Nat) (outs ins : Nat → List Lk) (room : Value) : Prop where
  o : ∃ ob c, rdc γ gb 0 = some (.slice (some ⟨ob, 0, none⟩) n c) ∧ ∀ v, v < n → ∃ lv, rdc γ ob v = some lv ∧ SlE encL 3 γ lv (outs v)
  i : ∃ ib c, rdc γ gb 1 = some (.slice (some ⟨ib, 0, none⟩) n c) ∧ ∀ v, v < n → ∃ lv, rdc γ ib v = some lv ∧ SlE encL 3 γ lv (ins v)
  r : rdc γ gb 2 = some room
/-- what is known of its lists -/
structure GOk (n : Nat) (outs ins : Nat → List Lk) : Prop where
  n1 : n ≤ 2000
  len : ∀ v, (outs v).length ≤ 40000 ∧ (ins v).length ≤ 40000
  inT : ∀ v x, v < n → x ∈ ins v → x.t = v ∧ x.f < n ∧ x.k ≤ 40000
  outF : ∀ v x, v < n → x ∈ outs v → x.f = v ∧ x.t < n ∧ x.k ≤ 40000
  same : ∀ x : Lk, x.f < n → x.t < n → (x ∈ outs x.f ↔ x ∈ ins x.t)
def opens (n : Nat) (ins : Nat → List Lk) (rm : Nat → Int) (x : Lk) : Prop := x.t < n ∧ x ∈ ins x.t ∧ 0 < rm x.k
theorem opens_lt {n : Nat} {outs ins : Nat → List Lk} {rm : Nat → Int} (h : GOk n outs ins) (x : Lk) (hx : opens n ins rm x) : x.f < n ∧ x.t < n := ⟨(h.inT x.t x hx.1 hx.2.1).2.1, hx.1⟩
def qInts (q : List Nat) : List Value := q.map (fun (v : Nat) => int (v : Int))
theorem fillL (n k : Nat) (h : k < n) : (List.replicate k (-1 : Int) ++ List.replicate (n - k) 0).set k (-1) = List.replicate (k + 1) (-1) ++ List.replicate (n - (k + 1)) 0 := by
  rw [List.set_append_right _ _ (by simp)]
  simp only [List.length_replicate, Nat.sub_self]
  obtain ⟨m, hm⟩ : ∃ m, n - k = m + 1 := ⟨n - k - 1, by omega⟩
  rw [hm, List.replicate_succ, List.set_cons_zero, show n - (k + 1) = m from by omega, List.replicate_succ', List.append_assoc]
  rfl
theorem SlE.one {α : Type} {enc : α → List Value} {s : Nat} {ρ : PH} {v : Value} {l : List α} (h : SlE enc s ρ v l) : v.oneCell' = true := by
  obtain ⟨b, c, rfl⟩ := SlAt.cap h
  rfl
set_option maxHeartbeats 2000000 in
theorem distances_spec (γ : PH) (gb n t : Nat) (outs ins : Nat → List Lk) (room : Value) (rm : Nat → Int) (Rr : List PH) (hG : GAt γ gb n outs ins room) (hO : GOk n outs ins) (ht : t < n)
    (hrm : ∀ v x, v < n → x ∈ ins v → Ans Tryz.prog room [int x.k] Rr (fun v => v = int (rm x.k))) :
    Makes Tryz.prog (fv 130) [.pointer (some ⟨gb, 0, none⟩), int t] (γ :: Rr) (fun v ρ => ∃ b D, v = .slice (some ⟨b, 0, none⟩) n n ∧ ρ = sng b (.cells (ints D) 3 (0, 0)) ∧ IsDist n t (opens n ins rm) D) := by
  have hn := hO.n1
  obtain ⟨ob, oc, ho, _⟩ := hG.o
  obtain ⟨ib, ic, hi, hil⟩ := hG.i
  refine spec_in (cap := []) Tryz.func130 rfl rfl Tryz.ntmps130 rfl (by (repeat (first | exact EnvA.nil EnvI.nil | apply EnvA.cons | apply EnvA.nil | exact EnvI.nil | apply EnvI.cons)); first | done | fail) (fun N β => ?_)
  refine jk_emp ?_
  refine jk_seq ?_
  refine jk_region ?_
  refine zq_assign ?_
  refine jk_nil ?_
  refine jk_seq ?_
  refine jk_region ?_
  refine zq_move ?_
  refine zq_nilCheck ?_
  refine zq_fld0 ?_
  refine zq_load ?_
  refine zq_len ?_
  refine zl_makeI ?_; rintro _ _ ⟨b, rfl, rfl⟩
  refine zl_alloc1 ?_; rintro _ _ ⟨b, rfl, rfl⟩
  refine zs_storeL ?_; rintro _ _ ⟨rfl, rfl⟩
  refine jk_nil ?_
  refine jk_seq ?_
  refine jk_seq ?_
  refine jk_region ?_
  refine zq_load ?_
  refine zq_len ?_
  refine zq_move ?_
  refine jk_nil ?_
  refine jk_block ?_
  rename_i bd
  revert b; intro bo
  rw [show List.replicate n (0 : Int) = List.replicate 0 (-1) ++ List.replicate (n - 0) 0 from by simp]
  refine jk_loop [0, 1, 5, 17, 18] (0 : Nat) (fun k => k ≤ n) (fun k => [(19, int k)]) (fun k => [sng bo (.cells #[.slice (some ⟨bd, 0, none⟩) n n] 22 (0, 0)), sng bd (.cells (ints (List.replicate k (-1) ++ List.replicate (n - k) 0)) 3 (0, 0)), emp]) (fun k => n - k) pickZ (by omega) covZ selZ ?_
  intro k hk
  have hfl : (List.replicate k (-1 : Int) ++ List.replicate (n - k) 0).length = n := by simp; omega
  by_cases hlt : k < n
  · have hf := fillL n k hlt
    refine jk_seq ?_
    refine jk_region ?_
    refine zq_lt ?_
    refine jk_nil ?_
    refine jk_seq ?_
    refine jk_if_t rfl ?_
    refine jk_skip ?_
    refine jk_seq ?_
    refine jk_block ?_
    refine jk_seq ?_
    refine jk_region ?_
    refine zq_move ?_
    refine zq_assign ?_
    refine jk_nil ?_
    refine jk_region ?_
    refine zq_load ?_
    refine zq_move ?_
    refine zq_idx0 ?_
    refine zs_storeI ?_; rintro _ _ ⟨rfl, rfl⟩
    refine jk_nil ?_
    refine jk_blk ?_
    refine jk_region ?_
    refine zq_inc ?_
    refine zq_move ?_
    refine jk_nil ?_
    refine jk_round (k + 1) (by omega) (by omega) covZ ?_
    rw [← hf]
    exact selZ
  obtain rfl : k = n := by omega
  rw [Nat.sub_self, List.replicate_zero, List.append_nil] at hfl ⊢
  refine jk_seq ?_
  refine jk_region ?_
  refine zq_ltF ?_
  refine jk_nil ?_
  refine jk_seq ?_
  refine jk_if_f rfl ?_
  refine jk_exit rfl ?_
  refine jk_seq ?_
  refine jk_region ?_
  refine zq_load ?_
  refine zq_move ?_
  refine zq_idx0 ?_
  refine zs_storeI ?_; rintro _ _ ⟨rfl, rfl⟩
  refine jk_nil ?_
  refine jk_seq ?_
  refine jk_region ?_
  refine zq_move ?_
  refine zl_buildSlice ?_; rintro _ _ ⟨b, rfl, rfl⟩
  refine zl_alloc1 ?_; rintro _ _ ⟨b, rfl, rfl⟩
  refine zs_storeL ?_; rintro _ _ ⟨rfl, rfl⟩
  refine jk_nil ?_
  refine jk_seq ?_
  refine jk_region ?_
  refine zq_makeFunc ?_
  refine zq_assign ?_
  refine jk_nil ?_
  refine jk_seq ?_
  refine jk_block ?_
  rename_i bi
  revert b; intro bq
  have hq0 : OwnO 3 1 (.slice (some ⟨bi, 0, none⟩) 1 1) 1 [int t] (sng bi (.cells [int (t : Int)].toArray 3 (0, 0))) := OwnS.ownO (n := 1) rfl (by simp [maxLen])
  refine jk_loopD [0, 1, 5, 7, 8] ((((List.replicate k (-1)).set t 0, [t]), (.slice (some ⟨bi, 0, none⟩) 1 1, sng bi (.cells [int (t : Int)].toArray 3 (0, 0)))), ([], emp)) (X := ((List Int × List Nat) × (Value × PH)) × (List Nat × PH))
    (fun x => x.2.1.map mk) (fun x => BInv k t (opens k ins rm) x.1.1.1 x.1.1.2 ∧ OwnO 3 1 x.1.2.1 x.1.1.2.length (qInts x.1.1.2) x.1.2.2 ∧ x.1.1.2.length + unl x.1.1.1 ≤ k ∧ (∀ u, u < k → x.1.1.1.getD u 0 + unl x.1.1.1 ≤ (k : Int)) ∧ MkIn x.2.2 x.2.1)
    (fun _ => []) (fun x => [sng bo (.cells #[.slice (some ⟨bd, 0, none⟩) k k] 22 (0, 0)), sng bd (.cells (ints x.1.1.1) 3 (0, 0)), sng bq (.cells #[x.1.2.1] 22 (0, 0)), x.1.2.2, x.2.2]) (fun x => 2 * unl x.1.1.1 + x.1.1.2.length)
    pickZ rfl ⟨BInv.start ht, hq0, by have := unl_start ht; simp only [List.length_singleton]; omega, fun u hu => by have := unl_start ht; dsimp only; rw [getD_set (by rw [List.length_replicate]; exact ht), getD_rep hu]; split <;> omega, MkIn.nil⟩ covZ selZ ?_
  rintro ⟨⟨⟨D, q⟩, ⟨qv, ρq⟩⟩, ⟨ms, μ⟩⟩ ⟨hB, hQ, hql, hub, hM⟩
  dsimp only at hB hQ hql hub hM ⊢
  cases q with
  | nil =>
    have hQ' : OwnO 3 1 qv 0 [] ρq := hQ
    obtain ⟨_, b1, o1, cap1, cur1, rfl, rfl, _⟩ := hQ'
    have hdist := hB.dist (opens_lt hO)
    refine jk_seq ?_
    refine jk_seq ?_
    refine jk_region ?_
    refine zq_load ?_
    refine zq_len ?_
    refine zq_gtF ?_
    refine jk_nil ?_
    refine jk_if_f rfl ?_
    refine jk_exit rfl ?_
    refine jk_seq ?_
    refine jk_region ?_
    refine zq_load ?_
    refine zq_assign ?_
    refine jk_nil ?_
    exact jk_retMu hM takeZ (res1 rfl rfl) (by (repeat (first | exact rs_nil | (refine rs_cons ?_ ?_; (focus ((repeat (first | exact .here | apply Mem.there | apply Take.there)); first | done | fail))) | exact fun ρ hρ => hρ | (intro ρ hρ; repeat (first | exact hρ | refine List.mem_cons_of_mem _ ?_)))); first | done | fail) selZ ⟨_, ⟨bd, D, rfl, rfl, hdist⟩, rfl⟩
  | cons v q =>
    have hQ' : OwnO 3 1 qv (q.length + 1) (int v :: qInts q) ρq := hQ
    have hV0 := hB.take
    have hvn := hV0.vn
    obtain ⟨lv, hlv, hls⟩ := hil v hvn
    have hnx := next_spec bq qv (int v) q.length (qInts q) ρq hQ'
    obtain ⟨b1, o1, cap1, rfl, _, _⟩ := hQ'.head
    simp only [List.length_cons] at hql
    refine jk_seq ?_
    refine jk_seq ?_
    refine jk_region ?_
    refine zq_load ?_
    refine zq_len ?_
    refine zq_gt ?_
    refine jk_nil ?_
    refine jk_if_t rfl ?_
    refine jk_skip ?_
    refine jk_block ?_
    refine jk_seq ?_
    refine jk_region ?_
    refine zq_move ?_
    refine jk_callH hnx rfl rfl (by (repeat (first | exact Takes.nil | (apply Takes.cons; exact (by (repeat (first | exact .here | apply Take.there)); first | done | fail)))); first | done | fail) rdZ rfl rfl ?_
    rintro _ _ ⟨rfl, qv1, hQ1, hq1, rfl⟩
    simp only [List.cons_append, List.nil_append]
    refine zl_alloc1 ?_; rintro _ _ ⟨b, rfl, rfl⟩
    refine zs_storeL ?_; rintro _ _ ⟨rfl, rfl⟩
    refine jk_nil ?_
    refine jk_seq ?_
    revert b; intro b9
    refine jk_draw (.q 0 (.q 1 (.q 2 (.q 3 (.q 4 (.q 5 (.q 6 (.q 7 (.l 8 .e .nil))))))))) [] rfl (by kernel_rfl) selZ ?_
    refine zd_move ?_
    refine zd_move ?_
    refine zd_nilCheck ?_
    refine zd_fld0 ?_
    refine zd_load ?_
    refine zd_load ?_
    refine zd_idx0 ?_
    refine zd_load ?_
    refine dj_l (a_callM rfl (open_spec _ _ (SlE.one hls) rfl) rfl rfl rdZ rfl rfl ?_)
    rintro _ _ ⟨bl, bg, rfl, rfl⟩
    simp only [List.cons_append, List.nil_append]
    refine dj_end ?_
    refine jk_freeze (ρ := sng bl _) takeZ ?_
    refine jk_freeze (ρ := sng bg _) takeZ ?_
    refine jk_freeze (ρ := sng b9 _) takeZ ?_
    have hvl : rdc (sng b9 (.cells #[int (v : Int)] 3 (0, 0))) b9 0 = some (int v) := by rw [rdc_sng]; rfl
    refine jk_block ?_
    refine jk_range (gf := 101) (cap := [.pointer (some ⟨bl, 0, none⟩), .pointer (some ⟨bg, 0, none⟩)]) (ps := [46]) (X := (List Int × List Nat) × (Value × PH)) rfl Tryz.func101 rfl rfl
      (open_iter γ gb bl bg lv room (ins v) rm Rr hls (by have := (hO.len v).2; omega) hG.r (fun x hx => hrm v x hvn hx)) ?_
      (fun i x => VInv k t (opens k ins rm) x.1.1 v x.1.2 ((openL rm (ins v)).take i) ∧ OwnO 3 1 x.2.1 x.1.2.length (qInts x.1.2) x.2.2 ∧ x.1.2.length + unl x.1.1 + 1 ≤ k ∧ (∀ u, u < k → x.1.1.getD u 0 + unl x.1.1 ≤ (k : Int)) ∧ 2 * unl x.1.1 + x.1.2.length ≤ 2 * unl D + q.length)
      (fun x => [sng bo (.cells #[.slice (some ⟨bd, 0, none⟩) k k] 22 (0, 0)), sng bd (.cells (ints x.1.1) 3 (0, 0)), sng bq (.cells #[x.2.1] 22 (0, 0)), x.2.2])
      (fun _ _ => False) ((D, q), (qv1, ρq)) rfl (by (repeat (first | exact Takes.nil | (apply Takes.cons; exact (by (repeat (first | exact .here | apply Take.there)); first | done | fail)))); first | done | fail) ⟨by simpa using hV0, hQ1, by simp only; omega, hub, by simp only; omega⟩ ?_ ?_ ?_
    · intro σ hσ
      simp only [List.cons_append, List.nil_append, List.mem_cons] at hσ ⊢
      rcases hσ with h | h | h | h <;> simp [h]
    · rintro l r i ⟨⟨D1, q1⟩, ⟨qv2, ρ2⟩⟩ vs hvs ⟨hV, hQ2, hlq, hub2, hms⟩ hps has hbd hst hpe hfr
      dsimp only at hV hQ2 hlq hub2 hms ⊢
      obtain ⟨st, pe, fnn, tm, prm, asg, bdy, df⟩ := r
      simp only at hps has hbd hst hpe hfr
      subst hps has hbd hst hpe
      rw [List.getElem?_map] at hvs
      obtain ⟨x, hx, rfl⟩ := Option.map_eq_some_iff.1 hvs
      have hlt : i < (openL rm (ins v)).length := (List.getElem?_eq_some_iff.1 hx).1
      have hxe : (openL rm (ins v))[i] = x := (List.getElem?_eq_some_iff.1 hx).2
      have hxm : x ∈ openL rm (ins v) := List.mem_of_getElem? hx
      have hxi : x ∈ ins v ∧ 0 < rm x.k := by unfold openL at hxm; simpa using hxm
      obtain ⟨hxt, hxf, hxk⟩ := hO.inT v x hvn hxi.1
      have htk : (openL rm (ins v)).take (i + 1) = (openL rm (ins v)).take i ++ [x] := by rw [take_snoc' hlt, hxe]
      have hDl : D1.length = k := hV.len
      have hv0 := hV.v0
      have hvub := hub2 v hvn
      refine yield_spec hfr rfl (by intro p hp; simp at hp; omega) (by (repeat (first | exact PutI.nil | apply PutI.cons)); first | done | fail) (fun N' β' => ?_)
      unfold encL
      refine jk_region ?_
      refine zl_allocS ?_; rintro _ _ ⟨b, rfl, rfl⟩
      refine zs_storeS ?_; rintro _ _ ⟨rfl, rfl⟩
      refine jk_nil ?_
      refine jk_switch rfl rfl ?_
      refine jk_begin takeZ rfl ?_
      by_cases hneg : D1.getD x.f 0 < 0
      · have hE : opens k ins rm x := ⟨by omega, by rw [hxt]; exact hxi.1, hxi.2⟩
        have hp := hV.push hE hxf hxt hneg
        have hu := unl_set (D := D1) (i := x.f) (x := D1.getD v 0 + 1) (by omega) hneg (by omega)
        refine jk_block ?_
        refine jk_seq ?_
        refine jk_region ?_
        refine zq_load ?_
        refine zq_fld0 ?_
        refine zq_load ?_
        refine zq_idx0 ?_
        refine zq_load ?_
        refine zq_lt ?_
        refine jk_nil ?_
        refine jk_if_t rfl ?_
        refine jk_seq ?_
        refine jk_draw (.q 0 (.q 1 (.q 2 (.q 3 (.q 4 (.q 5 (.q 6 (.q 7 (.q 8 (.l 9 .b .nil)))))))))) [] rfl (by kernel_rfl) selZ ?_
        refine zd_load ?_
        refine zd_fld0 ?_
        refine zd_load ?_
        refine zd_load ?_
        refine zd_load ?_
        refine zd_idx0 ?_
        refine zd_load ?_
        refine zd_add ?_
        refine zd_idx0 ?_
        refine zn_storeI ?_; rintro _ _ ⟨rfl, rfl⟩
        refine dj_end ?_
        refine jk_region ?_
        refine zq_load ?_
        refine zq_fld0 ?_
        refine zq_load ?_
        refine zl_buildSlice ?_; rintro _ _ ⟨b, rfl, rfl⟩
        refine' jk_op (l_appendO (by_ := 8) (s := 1) (news := [int (x.f : Int)]) rfl rfl rfl rfl rfl rfl rfl hQ2 takeZ (cells_own memZ) rfl (by (repeat (first | exact (fun v hv => absurd hv List.not_mem_nil) | (refine List.forall_mem_cons.2 ⟨?_, ?_⟩; (focus (first | exact rfl | assumption))))); first | done | fail) (by simp only [maxLen]; omega) (by omega)) rfl rfl rfl _
        rintro q9 _ ⟨ρ3, hQ3, rfl⟩
        have hq9 : q9.oneCell' = true := by obtain ⟨_, _, _, _, _, rfl, _⟩ := hQ3; rfl
        have hQ4 : OwnO 3 1 q9 (q1 ++ [x.f]).length (qInts (q1 ++ [x.f])) ρ3 := by
          have : qInts (q1 ++ [x.f]) = qInts q1 ++ [int (x.f : Int)] := by simp [qInts]
          rw [this, List.length_append]
          exact hQ3
        refine zs_storeL ?_; rintro _ _ ⟨rfl, rfl⟩
        refine jk_nil ?_
        refine jk_blk ?_
        refine jk_roundEnd takeZ (by (repeat (first | exact rs_nil | (refine rs_cons ?_ ?_; (focus ((repeat (first | exact .here | apply Mem.there | apply Take.there)); first | done | fail))) | exact fun ρ hρ => hρ | (intro ρ hρ; repeat (first | exact hρ | refine List.mem_cons_of_mem _ ?_)))); first | done | fail) selZ ⟨((D1.set x.f (D1.getD v 0 + 1), q1 ++ [x.f]), (q9, ρ3)), .inl ⟨rfl, ⟨?_, hQ4, ?_, ?_, ?_⟩, rfl⟩⟩
        · dsimp only
          rw [htk]
          exact hp
        · dsimp only
          rw [List.length_append, List.length_singleton]; omega
        · intro u hu'
          dsimp only
          have := hub2 u hu'
          rw [getD_set (by omega)]
          split <;> omega
        · dsimp only
          rw [List.length_append, List.length_singleton]; omega
      · refine jk_block ?_
        refine jk_seq ?_
        refine jk_region ?_
        refine zq_load ?_
        refine zq_fld0 ?_
        refine zq_load ?_
        refine zq_idx0 ?_
        refine zq_load ?_
        refine zq_ltF ?_
        refine jk_nil ?_
        refine jk_if_f rfl ?_
        refine jk_skip ?_
        refine jk_blk ?_
        refine jk_roundEnd takeZ (by (repeat (first | exact rs_nil | (refine rs_cons ?_ ?_; (focus ((repeat (first | exact .here | apply Mem.there | apply Take.there)); first | done | fail))) | exact fun ρ hρ => hρ | (intro ρ hρ; repeat (first | exact hρ | refine List.mem_cons_of_mem _ ?_)))); first | done | fail) selZ ⟨((D1, q1), (qv2, ρ2)), .inl ⟨rfl, ⟨?_, hQ2, hlq, hub2, hms⟩, rfl⟩⟩
        simp only
        rw [htk]
        exact hV.seen (by omega)
    · rintro b2 ⟨⟨D1, q1⟩, ⟨qv2, ρ2⟩⟩ ⟨hV, hQ2, hlq, hub2, hms⟩
      dsimp only at hV hQ2 hlq hub2 hms ⊢
      simp only [List.cons_append, List.nil_append]
      refine jk_rdrop (R' := β :: γ :: Rr) (by intro σ hσ; simp at hσ ⊢; rcases hσ with h | h | h <;> simp [h]) ?_
      refine jk_markJoin (b := b2) takeZ (μ := μ) takeZ hM ?_
      intro μ2 hM2
      refine jk_blk ?_
      refine jk_blk ?_
      refine jk_roundD (((D1, q1), (qv2, ρ2)), (b2 :: ms, μ2)) rfl ⟨hV.done (opens_lt hO) (fun x hx hxt => ?_), hQ2, by simp only; omega, hub2, hM2⟩ (by simp only [List.length_cons]; omega) covZ selZ
      have hmem : x ∈ openL rm (ins v) := by
        unfold openL
        rw [List.mem_filter]
        have := hx.2.1
        rw [hxt] at this
        exact ⟨this, by simpa using hx.2.2⟩
      simpa [List.length_map] using hmem
    · rintro _ _ _ h; exact h.elim
end Go.Proofs.YthdoegkjifgegaaGreat
