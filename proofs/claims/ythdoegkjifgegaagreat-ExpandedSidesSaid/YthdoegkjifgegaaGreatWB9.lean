/- Texts of this proof, one after the other; no conditions. -/
import Derived.Test.YthdoegkjifgegaaGreatWB8
import Derived.Test.YthdoegkjifgegaaGreatWB3
import Derived.Test.YthdoegkjifgegaaGreatWB7
set_option linter.all false
/- The graph, and the numbers of its places. -/
namespace Go.Proofs.YthdoegkjifgegaaGreat
open Go.Eng Go.Step
set_option maxRecDepth 100000
set_option maxHeartbeats 4000000

theorem ea_len (qs : List Int) (cs : List Ct) (bs : List Bk) (hs : List Hd) (d : Dm) (h : VOk qs cs bs hs d) : (arcsE qs cs bs hs d).length ≤ 1000000 := by
 have := h.len
 omega
set_option maxHeartbeats 32000000 in
theorem graph_spec {ρ τ σ υ : PH} {pq pc pb ph : Option Addr} {kq kc kb kh : Nat} {qs : List Int} {cs : List Ct} {bs : List Bk} {hs : List Hd} (hT : TbAt ρ τ σ υ pq pc pb ph kq kc kb kh qs cs bs hs) (bw bm kp : Nat) (pl : Option Addr) (χ : PH) (M : List (List Int × Value)) (d : Dm) (h : VOk qs cs bs hs d) (h0 : chkB qs cs bs = 0) (hpl : SlE encS 2 χ (.slice pl (placesA d qs.length).length kp) (placesA d qs.length)) (hM : NumAt d qs.length d.r M) :
  Makes Tryz.prog (fv 40) [.pointer (some ⟨bw, 0, none⟩)] [sng bw (.cells #[.slice pq qs.length kq, .slice pc cs.length kc, .slice pb bs.length kb, .slice ph hs.length kh, int d.s, int d.d, int d.v, int d.r, int d.e, .slice pl (placesA d qs.length).length kp, .map (some bm)] 97 (0, 0)), sng bm (mapS M), χ, ρ, τ, σ, υ] (fun r χ' => ∃ u, r = .agg #[int (vsN qs d), u, int (vtx d d.s d.r), int (vtx d d.d d.e)] ∧ OwnS 66 3 u (arcsG qs cs bs hs d).length ((arcsG qs cs bs hs d).flatMap encA) χ') := by
 have hdm := h.dm
 unfold okDm at hdm
 have hnq := h.nq
 have hMl := hM.1
 have hl1 := numAt_get hM (n := d.s) (t := d.r) (by omega) (by omega) (by omega) (by omega)
 have hl2 := numAt_get hM (n := d.d) (t := d.e) (by omega) (by omega) (by omega) (by omega)
 have hit := fun c1 => arcs_iter hT bw bm c1 kp pl χ M d h h0 hpl hM
 have hEl := ea_len qs cs bs hs d h
 have hplen : (((placesA d qs.length).length : Nat) : Int) = vsN qs d := placesA_len (d := d) (by omega) qs.length
 have hone : ∀ z n (xs : List Value) (χ : PH), OwnS 66 3 z n xs χ → z.oneCell' = true := fun z n xs χ h => by obtain ⟨_, _, rfl⟩ := h.form; rfl
 have w0 : rdc (sng bw (.cells #[.slice pq qs.length kq, .slice pc cs.length kc, .slice pb bs.length kb, .slice ph hs.length kh, int d.s, int d.d, int d.v, int d.r, int d.e, .slice pl (placesA d qs.length).length kp, .map (some bm)] 97 (0, 0))) bw 0 = some (.slice pq qs.length kq) := by rw [rdc_sng]; rfl
 have w1 : rdc (sng bw (.cells #[.slice pq qs.length kq, .slice pc cs.length kc, .slice pb bs.length kb, .slice ph hs.length kh, int d.s, int d.d, int d.v, int d.r, int d.e, .slice pl (placesA d qs.length).length kp, .map (some bm)] 97 (0, 0))) bw 1 = some (.slice pc cs.length kc) := by rw [rdc_sng]; rfl
 have w2 : rdc (sng bw (.cells #[.slice pq qs.length kq, .slice pc cs.length kc, .slice pb bs.length kb, .slice ph hs.length kh, int d.s, int d.d, int d.v, int d.r, int d.e, .slice pl (placesA d qs.length).length kp, .map (some bm)] 97 (0, 0))) bw 2 = some (.slice pb bs.length kb) := by rw [rdc_sng]; rfl
 have w3 : rdc (sng bw (.cells #[.slice pq qs.length kq, .slice pc cs.length kc, .slice pb bs.length kb, .slice ph hs.length kh, int d.s, int d.d, int d.v, int d.r, int d.e, .slice pl (placesA d qs.length).length kp, .map (some bm)] 97 (0, 0))) bw 3 = some (.slice ph hs.length kh) := by rw [rdc_sng]; rfl
 have w4 : rdc (sng bw (.cells #[.slice pq qs.length kq, .slice pc cs.length kc, .slice pb bs.length kb, .slice ph hs.length kh, int d.s, int d.d, int d.v, int d.r, int d.e, .slice pl (placesA d qs.length).length kp, .map (some bm)] 97 (0, 0))) bw 4 = some (int d.s) := by rw [rdc_sng]; rfl
 have w5 : rdc (sng bw (.cells #[.slice pq qs.length kq, .slice pc cs.length kc, .slice pb bs.length kb, .slice ph hs.length kh, int d.s, int d.d, int d.v, int d.r, int d.e, .slice pl (placesA d qs.length).length kp, .map (some bm)] 97 (0, 0))) bw 5 = some (int d.d) := by rw [rdc_sng]; rfl
 have w6 : rdc (sng bw (.cells #[.slice pq qs.length kq, .slice pc cs.length kc, .slice pb bs.length kb, .slice ph hs.length kh, int d.s, int d.d, int d.v, int d.r, int d.e, .slice pl (placesA d qs.length).length kp, .map (some bm)] 97 (0, 0))) bw 6 = some (int d.v) := by rw [rdc_sng]; rfl
 have w7 : rdc (sng bw (.cells #[.slice pq qs.length kq, .slice pc cs.length kc, .slice pb bs.length kb, .slice ph hs.length kh, int d.s, int d.d, int d.v, int d.r, int d.e, .slice pl (placesA d qs.length).length kp, .map (some bm)] 97 (0, 0))) bw 7 = some (int d.r) := by rw [rdc_sng]; rfl
 have w8 : rdc (sng bw (.cells #[.slice pq qs.length kq, .slice pc cs.length kc, .slice pb bs.length kb, .slice ph hs.length kh, int d.s, int d.d, int d.v, int d.r, int d.e, .slice pl (placesA d qs.length).length kp, .map (some bm)] 97 (0, 0))) bw 8 = some (int d.e) := by rw [rdc_sng]; rfl
 have w9 : rdc (sng bw (.cells #[.slice pq qs.length kq, .slice pc cs.length kc, .slice pb bs.length kb, .slice ph hs.length kh, int d.s, int d.d, int d.v, int d.r, int d.e, .slice pl (placesA d qs.length).length kp, .map (some bm)] 97 (0, 0))) bw 9 = some (.slice pl (placesA d qs.length).length kp) := by rw [rdc_sng]; rfl
 have w10 : rdc (sng bw (.cells #[.slice pq qs.length kq, .slice pc cs.length kc, .slice pb bs.length kb, .slice ph hs.length kh, int d.s, int d.d, int d.v, int d.r, int d.e, .slice pl (placesA d qs.length).length kp, .map (some bm)] 97 (0, 0))) bw 10 = some (.map (some bm)) := by rw [rdc_sng]; rfl
 have wp : RdP (sng bw (.cells #[.slice pq qs.length kq, .slice pc cs.length kc, .slice pb bs.length kb, .slice ph hs.length kh, int d.s, int d.d, int d.v, int d.r, int d.e, .slice pl (placesA d qs.length).length kp, .map (some bm)] 97 (0, 0))) bw 0 [.slice pq qs.length kq, .slice pc cs.length kc] := rdP_sng (xs := [.slice pq qs.length kq, .slice pc cs.length kc, .slice pb bs.length kb, .slice ph hs.length kh, int d.s, int d.d, int d.v, int d.r, int d.e, .slice pl (placesA d qs.length).length kp, .map (some bm)]) rfl
 refine spec_in (cap := []) Tryz.func40 rfl rfl Tryz.ntmps40 rfl envZ (fun N β => ?_)
 refine CG ?_
 refine AC ?_
 refine AA ?_
 refine A5 ?_; rintro _ _ ⟨b, rfl, rfl⟩
 refine AE ?_
 refine AC ?_
 revert b; intro b2
 refine EZ (X := Nat) [0, 2] (fun _ => True) (fun x => [(3, .pointer (some ⟨x, 0, none⟩))]) (fun x => [sng x (.cells #[int (vsN qs d), .slice none 0 0, int (vtx d d.s d.r), int (vtx d d.d d.e)] 36 (0, 0)), sng b2 (.cells #[int 0, .slice none 0 0, int 0, int 0] 36 (0, 0)), emp]) pickZ ?_ ?_
 ·refine AZ (.q 0 (.q 1 (.q 2 (.q 3 (.q 4 (.q 5 (.q 6 (.q 7 (.q 8 (.q 9 (.q 10 (.q 11 (.q 12 (.q 13 (.q 14 (.q 15 (.q 16 (.q 17 (.q 18 (.q 19 (.q 20 (.q 21 (.q 22 (.q 23 (.q 24 (.q 25 (.q 26 (.q 27 (.q 28 (.q 29 (.q 30 (.q 31 (.q 32 (.q 33 (.q 34 (.q 35 (.q 36 (.q 37 (.l 38 .e (.l 39 .b .nil)))))))))))))))))))))))))))))))))))))))) [] rfl (by kernel_rfl) Sel.nil ?_
  repeat' (first
   | (refine AK ?_)
   | (refine AQ ?_)
   | (refine AX ?_)
   | (refine BV ?_)
   | (refine BX ?_)
   | (refine C3 ?_)
   | (refine A2 ?_)
   | (refine B9 ?_)
   | (focus ((refine' CX rfl _ rfl rfl rfl rfl _; rotate_left; (focus (first | exact CU 2 [d.s, d.r] rfl rfl rfl ⟨by kernel_rfl, by kernel_rfl⟩ rfl hMl rfl hl1 (mapAtS_rd memZ) | exact CU 2 [d.d, d.e] rfl rfl rfl ⟨by kernel_rfl, by kernel_rfl⟩ rfl hMl rfl hl2 (mapAtS_rd memZ))))))
   | (focus ((refine CF ?_; refine' FJ rfl _ rfl rfl _ _; rotate_left; (focus (apply C5; exact rfl; exact rfl; exact takeZ; exact (by (repeat (first | exact (fun v hv => absurd hv List.not_mem_nil) | (refine List.forall_mem_cons.2 ⟨?_, ?_⟩; (focus (first | exact rfl | assumption))))); first | done | fail); exact rfl; exact rfl)); (focus (rintro _ _ ⟨_, rfl⟩ w hw; exact hw.sel Sel.nil)); rintro _ _ ⟨rfl, rfl⟩)))
   | (refine A4 ?_)
   | (refine DB ?_; rintro _ _ ⟨b, rfl, rfl⟩)
   | fail)
  all_goals (rw [hplen]; refine DU _ trivial covZ selZ)
 rintro b3 _
 refine AC ?_
 refine AC ?_
 refine AA ?_
 refine AB ?_
 refine BK (arcs_spec bw) rfl rfl Takes.nil (fun τ hτ => by simp at hτ) rfl rfl ?_
 rintro _ _ ⟨c1, rfl, rfl⟩
 refine AS (ρ := sng c1 _) takeZ ?_
 refine AE ?_
 refine AP ?_
 refine DF (gf := 89) (cap := [.pointer (some ⟨c1, 0, none⟩)]) (ps := [45]) (X := Value × PH) rfl Tryz.func89 rfl rfl
  (hit c1) ?_
  (fun i x => OwnS 66 3 x.1 ((arcsE qs cs bs hs d).take i).length (((arcsE qs cs bs hs d).take i).flatMap (fun e => encA e.a)) x.2)
  (fun x => [sng b3 (.cells #[int (vsN qs d), x.1, int (vtx d d.s d.r), int (vtx d d.d d.e)] 36 (0, 0)), sng b2 (.cells #[int 0, .slice none 0 0, int 0, int 0] 36 (0, 0)), x.2]) (fun _ _ => False) (.slice none 0 0, emp) rfl takesZ (OwnS.nil _ _) ?_ ?_ ?_
 ·intro σ' hσ
  simp only [List.mem_cons, List.not_mem_nil, or_false] at hσ ⊢
  rcases hσ with h | h | h | h | h | h | h | h <;> simp [h]
 ·rintro lo r i ⟨u, σ1⟩ vs hvs hO hps has hbd hst hpe hfr
  obtain ⟨st, pe, fnn, tm, prm, asg, bdy, df⟩ := r
  simp only at hps has hbd hst hpe hfr
  subst hps has hbd hst hpe
  rw [List.getElem?_map] at hvs
  obtain ⟨x, hx, rfl⟩ := Option.map_eq_some_iff.1 hvs
  dsimp only at hO
  have hti : ((arcsE qs cs bs hs d).take (i + 1)) = (arcsE qs cs bs hs d).take i ++ [x] := by
   rw [List.take_add_one, hx]; rfl
  have hil : ((arcsE qs cs bs hs d).take i).length ≤ 1000000 := by rw [List.length_take]; omega
  simp only [hti]
  generalize (arcsE qs cs bs hs d).take i = O at hO hil
  have hu1 := hone _ _ _ _ hO
  refine yield_spec hfr rfl (by intro p hp; simp at hp; omega) putiZ (fun N' β' => ?_)
  dsimp only
  refine AA ?_
  refine A5 ?_; rintro _ _ ⟨b, rfl, rfl⟩
  refine A3 ?_; rintro _ _ ⟨rfl, rfl⟩
  refine AE ?_
  refine C0 rfl rfl ?_
  refine DE takeZ rfl ?_
  revert b; intro bx
  refine AS (ρ := sng bx _) takeZ ?_
  have px : RdP (sng bx (.cells #[int x.a.f, int x.a.t, int x.a.c, int x.c, int x.t] 105 (0, 0))) bx 0 [int x.a.f, int x.a.t, int x.a.c] := rdP_sng (xs := [int x.a.f, int x.a.t, int x.a.c, int x.c, int x.t]) rfl
  refine AP ?_
  refine AA ?_
  refine AH ?_
  refine AF ?_
  refine AH ?_
  refine AT ?_
  refine BA ?_; rintro _ _ ⟨b, rfl, rfl⟩
  refine BJ (BS (by_ := 24) (s := 3) (news := [int x.a.f, int x.a.t, int x.a.c]) rfl rfl rfl rfl rfl rfl rfl hO takeZ (cells_own memZ) rfl (by (repeat (first | exact (fun v hv => absurd hv List.not_mem_nil) | (refine List.forall_mem_cons.2 ⟨?_, ?_⟩; (focus (first | exact rfl | assumption))))); first | done | fail) (by omega) (by simp only [maxLen]; omega) (by omega)) rfl rfl rfl ?_
  rintro u1 _ ⟨σ2, hO1, rfl⟩
  have hu2 := hone _ _ _ _ hO1
  refine AH ?_
  refine BM ?_; rintro _ _ ⟨rfl, rfl⟩
  refine AE ?_
  refine A0 ?_
  refine B4 takeZ rsubZ selZ ⟨(u1, σ2), .inl ⟨rfl, ?_, rfl⟩⟩
  dsimp only
  rw [List.length_append, List.flatMap_append]
  exact hO1
 ·rintro b9 ⟨u, σ1⟩ hO
  rw [List.length_map, List.take_length] at hO
  dsimp only at hO
  have hO2 : OwnS 66 3 u (arcsG qs cs bs hs d).length ((arcsG qs cs bs hs d).flatMap encA) σ1 := by
   unfold arcsG
   rw [List.length_map, List.flatMap_map]
   exact hO
  have hu1 := hone _ _ _ _ hO2
  refine A0 ?_
  refine AC ?_
  refine AA ?_
  refine AT ?_
  refine A3 ?_; rintro _ _ ⟨rfl, rfl⟩
  refine AE ?_
  refine EV (v := .agg #[int (vsN qs d), u, int (vtx d d.s d.r), int (vtx d d.d d.e)]) (Marks.cons (.there .here) .nil) ?_ rsubZ ?_ ⟨σ1, ⟨u, rfl, hO2⟩, rfl⟩
  ·exact resS1 (b1 := b2) (T := 36) (v1 := [int (vsN qs d), u, int (vtx d d.s d.r), int (vtx d d.d d.e)]) rfl rfl rfl rfl (cells_own memZ)
  ·exact selZ
 ·rintro _ _ _ h; exact h.elim
set_option maxHeartbeats 16000000 in
theorem Graph_spec {ρ τ σ υ : PH} {pq pc pb ph : Option Addr} {kq kc kb kh : Nat} {qs : List Int} {cs : List Ct} {bs : List Bk} {hs : List Hd} (hT : TbAt ρ τ σ υ pq pc pb ph kq kc kb kh qs cs bs hs) (d : Dm) :
  Makes Tryz.prog (fv 10) [.agg #[.slice pq qs.length kq, .slice pc cs.length kc, .slice pb bs.length kb, .slice ph hs.length kh], .agg #[int d.s, int d.d, int d.v, int d.r, int d.e]] [ρ, τ, σ, υ] (fun r χ' => if validT qs cs bs hs d = true then ∃ u, r = .tuple #[.agg #[int (vsN qs d), u, int (vtx d d.s d.r), int (vtx d d.d d.e)], int 0] ∧ OwnS 66 3 u (arcsG qs cs bs hs d).length ((arcsG qs cs bs hs d).flatMap encA) χ' else r = .tuple #[.agg #[int 0, .slice none 0 0, int 0, int 0], int 1] ∧ χ' = emp) := by
 refine spec_in (cap := []) Tryz.func10 rfl rfl Tryz.ntmps10 rfl envZ (fun N β => ?_)
 refine AC ?_
 refine AA ?_
 refine BJ (BN rfl) rfl rfl rfl ?_
 rintro _ _ ⟨b1, rfl, rfl⟩
 refine AS (ρ := sng b1 _) takeZ ?_
 have ct : RdN (sng b1 (.cells #[.slice pq qs.length kq, .slice pc cs.length kc, .slice pb bs.length kb, .slice ph hs.length kh] 29 (0, 0))) b1 0 [.slice pq qs.length kq, .slice pc cs.length kc, .slice pb bs.length kb, .slice ph hs.length kh] := rdN_sng (vs := [.slice pq qs.length kq, .slice pc cs.length kc, .slice pb bs.length kb, .slice ph hs.length kh])
 have ct0 : rdc (sng b1 (.cells #[.slice pq qs.length kq, .slice pc cs.length kc, .slice pb bs.length kb, .slice ph hs.length kh] 29 (0, 0))) b1 0 = some (.slice pq qs.length kq) := by rw [rdc_sng]; rfl
 have ct1 : rdc (sng b1 (.cells #[.slice pq qs.length kq, .slice pc cs.length kc, .slice pb bs.length kb, .slice ph hs.length kh] 29 (0, 0))) b1 1 = some (.slice pc cs.length kc) := by rw [rdc_sng]; rfl
 have ct2 : rdc (sng b1 (.cells #[.slice pq qs.length kq, .slice pc cs.length kc, .slice pb bs.length kb, .slice ph hs.length kh] 29 (0, 0))) b1 2 = some (.slice pb bs.length kb) := by rw [rdc_sng]; rfl
 have ct3 : rdc (sng b1 (.cells #[.slice pq qs.length kq, .slice pc cs.length kc, .slice pb bs.length kb, .slice ph hs.length kh] 29 (0, 0))) b1 3 = some (.slice ph hs.length kh) := by rw [rdc_sng]; rfl
 have ctp : RdP (sng b1 (.cells #[.slice pq qs.length kq, .slice pc cs.length kc, .slice pb bs.length kb, .slice ph hs.length kh] 29 (0, 0))) b1 0 [.slice pq qs.length kq, .slice pc cs.length kc] := rdP_sng (xs := [.slice pq qs.length kq, .slice pc cs.length kc, .slice pb bs.length kb, .slice ph hs.length kh]) rfl
 refine BJ (BN rfl) rfl rfl rfl ?_
 rintro _ _ ⟨b2, rfl, rfl⟩
 refine AS (ρ := sng b2 _) takeZ ?_
 have cd : RdN (sng b2 (.cells #[int d.s, int d.d, int d.v, int d.r, int d.e] 31 (0, 0))) b2 0 [int d.s, int d.d, int d.v, int d.r, int d.e] := rdN_sng (vs := [int d.s, int d.d, int d.v, int d.r, int d.e])
 have cd0 : rdc (sng b2 (.cells #[int d.s, int d.d, int d.v, int d.r, int d.e] 31 (0, 0))) b2 0 = some (int d.s) := by rw [rdc_sng]; rfl
 have cd1 : rdc (sng b2 (.cells #[int d.s, int d.d, int d.v, int d.r, int d.e] 31 (0, 0))) b2 1 = some (int d.d) := by rw [rdc_sng]; rfl
 have cd2 : rdc (sng b2 (.cells #[int d.s, int d.d, int d.v, int d.r, int d.e] 31 (0, 0))) b2 2 = some (int d.v) := by rw [rdc_sng]; rfl
 have cd3 : rdc (sng b2 (.cells #[int d.s, int d.d, int d.v, int d.r, int d.e] 31 (0, 0))) b2 3 = some (int d.r) := by rw [rdc_sng]; rfl
 have cd4 : rdc (sng b2 (.cells #[int d.s, int d.d, int d.v, int d.r, int d.e] 31 (0, 0))) b2 4 = some (int d.e) := by rw [rdc_sng]; rfl
 refine CG ?_
 refine A5 ?_; rintro _ _ ⟨b, rfl, rfl⟩
 refine AD ?_
 refine AE ?_
 refine AC ?_
 refine AA ?_
 refine AT ?_
 refine AT ?_
 revert b; intro b4
 refine BK (build_spec hT d) rfl rfl Takes.nil rdZ rfl rfl ?_
 rintro _ H' (⟨hv, rfl, rfl⟩ | ⟨hv, bw, bm, pl0, χ, M, rfl, rfl, hO, hM⟩)
 ·refine AB ?_
  refine AR ?_
  refine AR ?_
  refine AD ?_
  refine AD ?_
  refine AE ?_
  refine AC ?_
  refine AC ?_
  refine AA ?_
  refine AB ?_
  refine BE ?_
  refine AE ?_
  refine AO rfl ?_
  refine AC ?_
  refine AA ?_
  refine B6 ?_
  refine A3 ?_; rintro _ _ ⟨rfl, rfl⟩
  refine AD ?_
  refine AE ?_
  exact AI (resSE (b1 := b4) (T := 36) (v1 := [int 0, .slice none 0 0, int 0, int 0]) rfl rfl rfl rfl rfl (cells_own memZ)) rsubZ selZ ⟨emp, by dsimp only; rw [if_neg (by simp [hv])]; exact ⟨rfl, rfl⟩, rfl⟩
 have h := vok hv
 have h0 := vokB hv
 have hdm := h.dm
 unfold okDm at hdm
 have hnq := h.nq
 obtain ⟨pl, kp, rfl⟩ := hO.form
 have hpl : SlE encS 2 χ (.slice pl (placesA d qs.length).length kp) (placesA d qs.length) := hO.at
 refine AS (ρ := sng bw _) takeZ ?_
 refine AS (ρ := sng bm _) takeZ ?_
 refine AS (ρ := χ) takeZ ?_
 have w0 : rdc (sng bw (.cells #[.slice pq qs.length kq, .slice pc cs.length kc, .slice pb bs.length kb, .slice ph hs.length kh, int d.s, int d.d, int d.v, int d.r, int d.e, .slice pl (placesA d qs.length).length kp, .map (some bm)] 97 (0, 0))) bw 0 = some (.slice pq qs.length kq) := by rw [rdc_sng]; rfl
 have w1 : rdc (sng bw (.cells #[.slice pq qs.length kq, .slice pc cs.length kc, .slice pb bs.length kb, .slice ph hs.length kh, int d.s, int d.d, int d.v, int d.r, int d.e, .slice pl (placesA d qs.length).length kp, .map (some bm)] 97 (0, 0))) bw 1 = some (.slice pc cs.length kc) := by rw [rdc_sng]; rfl
 have w2 : rdc (sng bw (.cells #[.slice pq qs.length kq, .slice pc cs.length kc, .slice pb bs.length kb, .slice ph hs.length kh, int d.s, int d.d, int d.v, int d.r, int d.e, .slice pl (placesA d qs.length).length kp, .map (some bm)] 97 (0, 0))) bw 2 = some (.slice pb bs.length kb) := by rw [rdc_sng]; rfl
 have w3 : rdc (sng bw (.cells #[.slice pq qs.length kq, .slice pc cs.length kc, .slice pb bs.length kb, .slice ph hs.length kh, int d.s, int d.d, int d.v, int d.r, int d.e, .slice pl (placesA d qs.length).length kp, .map (some bm)] 97 (0, 0))) bw 3 = some (.slice ph hs.length kh) := by rw [rdc_sng]; rfl
 have w4 : rdc (sng bw (.cells #[.slice pq qs.length kq, .slice pc cs.length kc, .slice pb bs.length kb, .slice ph hs.length kh, int d.s, int d.d, int d.v, int d.r, int d.e, .slice pl (placesA d qs.length).length kp, .map (some bm)] 97 (0, 0))) bw 4 = some (int d.s) := by rw [rdc_sng]; rfl
 have w5 : rdc (sng bw (.cells #[.slice pq qs.length kq, .slice pc cs.length kc, .slice pb bs.length kb, .slice ph hs.length kh, int d.s, int d.d, int d.v, int d.r, int d.e, .slice pl (placesA d qs.length).length kp, .map (some bm)] 97 (0, 0))) bw 5 = some (int d.d) := by rw [rdc_sng]; rfl
 have w6 : rdc (sng bw (.cells #[.slice pq qs.length kq, .slice pc cs.length kc, .slice pb bs.length kb, .slice ph hs.length kh, int d.s, int d.d, int d.v, int d.r, int d.e, .slice pl (placesA d qs.length).length kp, .map (some bm)] 97 (0, 0))) bw 6 = some (int d.v) := by rw [rdc_sng]; rfl
 have w7 : rdc (sng bw (.cells #[.slice pq qs.length kq, .slice pc cs.length kc, .slice pb bs.length kb, .slice ph hs.length kh, int d.s, int d.d, int d.v, int d.r, int d.e, .slice pl (placesA d qs.length).length kp, .map (some bm)] 97 (0, 0))) bw 7 = some (int d.r) := by rw [rdc_sng]; rfl
 have w8 : rdc (sng bw (.cells #[.slice pq qs.length kq, .slice pc cs.length kc, .slice pb bs.length kb, .slice ph hs.length kh, int d.s, int d.d, int d.v, int d.r, int d.e, .slice pl (placesA d qs.length).length kp, .map (some bm)] 97 (0, 0))) bw 8 = some (int d.e) := by rw [rdc_sng]; rfl
 have w9 : rdc (sng bw (.cells #[.slice pq qs.length kq, .slice pc cs.length kc, .slice pb bs.length kb, .slice ph hs.length kh, int d.s, int d.d, int d.v, int d.r, int d.e, .slice pl (placesA d qs.length).length kp, .map (some bm)] 97 (0, 0))) bw 9 = some (.slice pl (placesA d qs.length).length kp) := by rw [rdc_sng]; rfl
 have w10 : rdc (sng bw (.cells #[.slice pq qs.length kq, .slice pc cs.length kc, .slice pb bs.length kb, .slice ph hs.length kh, int d.s, int d.d, int d.v, int d.r, int d.e, .slice pl (placesA d qs.length).length kp, .map (some bm)] 97 (0, 0))) bw 10 = some (.map (some bm)) := by rw [rdc_sng]; rfl
 have hg := graph_spec hT bw bm kp pl χ M d h h0 hpl hM
 refine AB ?_
 refine AR ?_
 refine AR ?_
 refine AD ?_
 refine AD ?_
 refine AE ?_
 refine AC ?_
 refine AC ?_
 refine AA ?_
 refine AB ?_
 refine BE ?_
 refine AE ?_
 refine AN rfl ?_
 refine AL ?_
 refine AC ?_
 refine AA ?_
 refine AB ?_
 refine BY hg rfl rfl rdZ rfl rfl ?_
 rintro _ σ1 ⟨u, rfl, hO1⟩
 have hu1 : u.oneCell' = true := by obtain ⟨_, _, rfl⟩ := hO1.form; rfl
 refine A3 ?_; rintro _ _ ⟨rfl, rfl⟩
 refine AD ?_
 refine AE ?_
 exact AI (resSE (b1 := b4) (T := 36) (v1 := [int (vsN qs d), u, int (vtx d d.s d.r), int (vtx d d.d d.e)]) rfl rfl rfl rfl rfl (cells_own memZ)) rsubZ selZ ⟨σ1, by dsimp only; rw [if_pos hv]; exact ⟨u, rfl, hO1⟩, rfl⟩
def vertexR (qs : List Int) (cs : List Ct) (bs : List Bk) (hs : List Hd) (d : Dm) (n t : Int) : Int × Int :=
 if validT qs cs bs hs d = true then (if (0 ≤ n ∧ n < qs.length) ∧ d.r ≤ t ∧ t ≤ d.e then (vtx d n t, 0) else (0, 2)) else (0, 1)
def placeR (qs : List Int) (cs : List Ct) (bs : List Bk) (hs : List Hd) (d : Dm) (v : Int) : Int × Int × Int :=
 if validT qs cs bs hs d = true then (if 0 ≤ v ∧ v < vsN qs d then (v / wd d, d.r + v % wd d, 0) else (0, 0, 2)) else (0, 0, 1)
set_option maxHeartbeats 16000000 in
theorem Vertex_spec {ρ τ σ υ : PH} {pq pc pb ph : Option Addr} {kq kc kb kh : Nat} {qs : List Int} {cs : List Ct} {bs : List Bk} {hs : List Hd} (hT : TbAt ρ τ σ υ pq pc pb ph kq kc kb kh qs cs bs hs) (d : Dm) (n t : Int) :
  Ans Tryz.prog (fv 12) [.agg #[.slice pq qs.length kq, .slice pc cs.length kc, .slice pb bs.length kb, .slice ph hs.length kh], .agg #[int d.s, int d.d, int d.v, int d.r, int d.e], int n, int t] [ρ, τ, σ, υ] (fun r => r = .tuple #[int (vertexR qs cs bs hs d n t).1, int (vertexR qs cs bs hs d n t).2]) := by
 unfold vertexR
 refine spec_in (cap := []) Tryz.func12 rfl rfl Tryz.ntmps12 rfl envZ (fun N β => ?_)
 refine AC ?_
 refine AA ?_
 refine BJ (BN rfl) rfl rfl rfl ?_
 rintro _ _ ⟨b1, rfl, rfl⟩
 refine AS (ρ := sng b1 _) takeZ ?_
 have ct : RdN (sng b1 (.cells #[.slice pq qs.length kq, .slice pc cs.length kc, .slice pb bs.length kb, .slice ph hs.length kh] 29 (0, 0))) b1 0 [.slice pq qs.length kq, .slice pc cs.length kc, .slice pb bs.length kb, .slice ph hs.length kh] := rdN_sng (vs := [.slice pq qs.length kq, .slice pc cs.length kc, .slice pb bs.length kb, .slice ph hs.length kh])
 have ct0 : rdc (sng b1 (.cells #[.slice pq qs.length kq, .slice pc cs.length kc, .slice pb bs.length kb, .slice ph hs.length kh] 29 (0, 0))) b1 0 = some (.slice pq qs.length kq) := by rw [rdc_sng]; rfl
 have ct1 : rdc (sng b1 (.cells #[.slice pq qs.length kq, .slice pc cs.length kc, .slice pb bs.length kb, .slice ph hs.length kh] 29 (0, 0))) b1 1 = some (.slice pc cs.length kc) := by rw [rdc_sng]; rfl
 have ct2 : rdc (sng b1 (.cells #[.slice pq qs.length kq, .slice pc cs.length kc, .slice pb bs.length kb, .slice ph hs.length kh] 29 (0, 0))) b1 2 = some (.slice pb bs.length kb) := by rw [rdc_sng]; rfl
 have ct3 : rdc (sng b1 (.cells #[.slice pq qs.length kq, .slice pc cs.length kc, .slice pb bs.length kb, .slice ph hs.length kh] 29 (0, 0))) b1 3 = some (.slice ph hs.length kh) := by rw [rdc_sng]; rfl
 have ctp : RdP (sng b1 (.cells #[.slice pq qs.length kq, .slice pc cs.length kc, .slice pb bs.length kb, .slice ph hs.length kh] 29 (0, 0))) b1 0 [.slice pq qs.length kq, .slice pc cs.length kc] := rdP_sng (xs := [.slice pq qs.length kq, .slice pc cs.length kc, .slice pb bs.length kb, .slice ph hs.length kh]) rfl
 refine BJ (BN rfl) rfl rfl rfl ?_
 rintro _ _ ⟨b2, rfl, rfl⟩
 refine AS (ρ := sng b2 _) takeZ ?_
 have cd : RdN (sng b2 (.cells #[int d.s, int d.d, int d.v, int d.r, int d.e] 31 (0, 0))) b2 0 [int d.s, int d.d, int d.v, int d.r, int d.e] := rdN_sng (vs := [int d.s, int d.d, int d.v, int d.r, int d.e])
 have cd0 : rdc (sng b2 (.cells #[int d.s, int d.d, int d.v, int d.r, int d.e] 31 (0, 0))) b2 0 = some (int d.s) := by rw [rdc_sng]; rfl
 have cd1 : rdc (sng b2 (.cells #[int d.s, int d.d, int d.v, int d.r, int d.e] 31 (0, 0))) b2 1 = some (int d.d) := by rw [rdc_sng]; rfl
 have cd2 : rdc (sng b2 (.cells #[int d.s, int d.d, int d.v, int d.r, int d.e] 31 (0, 0))) b2 2 = some (int d.v) := by rw [rdc_sng]; rfl
 have cd3 : rdc (sng b2 (.cells #[int d.s, int d.d, int d.v, int d.r, int d.e] 31 (0, 0))) b2 3 = some (int d.r) := by rw [rdc_sng]; rfl
 have cd4 : rdc (sng b2 (.cells #[int d.s, int d.d, int d.v, int d.r, int d.e] 31 (0, 0))) b2 4 = some (int d.e) := by rw [rdc_sng]; rfl
 refine AD ?_
 refine AD ?_
 refine AE ?_
 refine AC ?_
 refine AA ?_
 refine AT ?_
 refine AT ?_
 refine BK (build_spec hT d) rfl rfl Takes.nil rdZ rfl rfl ?_
 rintro _ H' (⟨hv, rfl, rfl⟩ | ⟨hv, bw, bm, pl0, χ, M, rfl, rfl, hO, hM⟩)
 ·rw [if_neg (by simp [hv])]
  refine AB ?_
  refine AR ?_
  refine AR ?_
  refine AD ?_
  refine AD ?_
  refine AE ?_
  refine AC ?_
  refine AC ?_
  refine AA ?_
  refine AB ?_
  refine BE ?_
  refine AE ?_
  refine AO rfl ?_
  refine AC ?_
  refine AA ?_
  refine AD ?_
  refine AD ?_
  refine AE ?_
  exact AI (res2 rfl rfl rfl) rsubZ selZ ⟨rfl, rfl⟩
 rw [if_pos hv]
 have h := vok hv
 have h0 := vokB hv
 have hdm := h.dm
 unfold okDm at hdm
 have hnq := h.nq
 obtain ⟨pl, kp, rfl⟩ := hO.form
 have hpl : SlE encS 2 χ (.slice pl (placesA d qs.length).length kp) (placesA d qs.length) := hO.at
 refine AS (ρ := sng bw _) takeZ ?_
 refine AS (ρ := sng bm _) takeZ ?_
 refine AS (ρ := χ) takeZ ?_
 have w0 : rdc (sng bw (.cells #[.slice pq qs.length kq, .slice pc cs.length kc, .slice pb bs.length kb, .slice ph hs.length kh, int d.s, int d.d, int d.v, int d.r, int d.e, .slice pl (placesA d qs.length).length kp, .map (some bm)] 97 (0, 0))) bw 0 = some (.slice pq qs.length kq) := by rw [rdc_sng]; rfl
 have w1 : rdc (sng bw (.cells #[.slice pq qs.length kq, .slice pc cs.length kc, .slice pb bs.length kb, .slice ph hs.length kh, int d.s, int d.d, int d.v, int d.r, int d.e, .slice pl (placesA d qs.length).length kp, .map (some bm)] 97 (0, 0))) bw 1 = some (.slice pc cs.length kc) := by rw [rdc_sng]; rfl
 have w2 : rdc (sng bw (.cells #[.slice pq qs.length kq, .slice pc cs.length kc, .slice pb bs.length kb, .slice ph hs.length kh, int d.s, int d.d, int d.v, int d.r, int d.e, .slice pl (placesA d qs.length).length kp, .map (some bm)] 97 (0, 0))) bw 2 = some (.slice pb bs.length kb) := by rw [rdc_sng]; rfl
 have w3 : rdc (sng bw (.cells #[.slice pq qs.length kq, .slice pc cs.length kc, .slice pb bs.length kb, .slice ph hs.length kh, int d.s, int d.d, int d.v, int d.r, int d.e, .slice pl (placesA d qs.length).length kp, .map (some bm)] 97 (0, 0))) bw 3 = some (.slice ph hs.length kh) := by rw [rdc_sng]; rfl
 have w4 : rdc (sng bw (.cells #[.slice pq qs.length kq, .slice pc cs.length kc, .slice pb bs.length kb, .slice ph hs.length kh, int d.s, int d.d, int d.v, int d.r, int d.e, .slice pl (placesA d qs.length).length kp, .map (some bm)] 97 (0, 0))) bw 4 = some (int d.s) := by rw [rdc_sng]; rfl
 have w5 : rdc (sng bw (.cells #[.slice pq qs.length kq, .slice pc cs.length kc, .slice pb bs.length kb, .slice ph hs.length kh, int d.s, int d.d, int d.v, int d.r, int d.e, .slice pl (placesA d qs.length).length kp, .map (some bm)] 97 (0, 0))) bw 5 = some (int d.d) := by rw [rdc_sng]; rfl
 have w6 : rdc (sng bw (.cells #[.slice pq qs.length kq, .slice pc cs.length kc, .slice pb bs.length kb, .slice ph hs.length kh, int d.s, int d.d, int d.v, int d.r, int d.e, .slice pl (placesA d qs.length).length kp, .map (some bm)] 97 (0, 0))) bw 6 = some (int d.v) := by rw [rdc_sng]; rfl
 have w7 : rdc (sng bw (.cells #[.slice pq qs.length kq, .slice pc cs.length kc, .slice pb bs.length kb, .slice ph hs.length kh, int d.s, int d.d, int d.v, int d.r, int d.e, .slice pl (placesA d qs.length).length kp, .map (some bm)] 97 (0, 0))) bw 7 = some (int d.r) := by rw [rdc_sng]; rfl
 have w8 : rdc (sng bw (.cells #[.slice pq qs.length kq, .slice pc cs.length kc, .slice pb bs.length kb, .slice ph hs.length kh, int d.s, int d.d, int d.v, int d.r, int d.e, .slice pl (placesA d qs.length).length kp, .map (some bm)] 97 (0, 0))) bw 8 = some (int d.e) := by rw [rdc_sng]; rfl
 have w9 : rdc (sng bw (.cells #[.slice pq qs.length kq, .slice pc cs.length kc, .slice pb bs.length kb, .slice ph hs.length kh, int d.s, int d.d, int d.v, int d.r, int d.e, .slice pl (placesA d qs.length).length kp, .map (some bm)] 97 (0, 0))) bw 9 = some (.slice pl (placesA d qs.length).length kp) := by rw [rdc_sng]; rfl
 have w10 : rdc (sng bw (.cells #[.slice pq qs.length kq, .slice pc cs.length kc, .slice pb bs.length kb, .slice ph hs.length kh, int d.s, int d.d, int d.v, int d.r, int d.e, .slice pl (placesA d qs.length).length kp, .map (some bm)] 97 (0, 0))) bw 10 = some (.map (some bm)) := by rw [rdc_sng]; rfl
 have hMl := hM.1
 have hMg := hM.2 n t
 by_cases hc : (0 ≤ n ∧ n < qs.length) ∧ d.r ≤ t ∧ t ≤ d.e
 ·rw [if_pos (by omega)] at hMg
  rw [if_pos hc]
  refine AB ?_
  refine AR ?_
  refine AR ?_
  refine AD ?_
  refine AD ?_
  refine AE ?_
  refine AC ?_
  refine AC ?_
  refine AA ?_
  refine AB ?_
  refine BE ?_
  refine AE ?_
  refine AN rfl ?_
  refine AL ?_
  refine AC ?_
  refine AA ?_
  refine AB ?_
  refine BL ?_
  refine AH ?_
  refine AF ?_
  refine AB ?_
  refine AB ?_
  refine B6 ?_
  focus ((refine CL (D7 2 [n, t] rfl rfl rfl ⟨by kernel_rfl, by kernel_rfl⟩ rfl hMl rfl (mapAtS_rd memZ)) rfl rfl rfl ?_; rw [hMg]))
  refine AB ?_
  refine AR ?_
  refine AR ?_
  refine AD ?_
  refine AD ?_
  refine AE ?_
  refine AC ?_
  refine AC ?_
  refine AA ?_
  refine AB ?_
  refine BE ?_
  refine AE ?_
  refine AN rfl ?_
  refine AL ?_
  refine AC ?_
  refine AA ?_
  refine AB ?_
  refine AD ?_
  refine AD ?_
  refine AE ?_
  exact AI (res2 rfl rfl rfl) rsubZ selZ ⟨rfl, rfl⟩
 ·rw [if_neg (by omega)] at hMg
  rw [if_neg hc]
  refine AB ?_
  refine AR ?_
  refine AR ?_
  refine AD ?_
  refine AD ?_
  refine AE ?_
  refine AC ?_
  refine AC ?_
  refine AA ?_
  refine AB ?_
  refine BE ?_
  refine AE ?_
  refine AN rfl ?_
  refine AL ?_
  refine AC ?_
  refine AA ?_
  refine AB ?_
  refine BL ?_
  refine AH ?_
  refine AF ?_
  refine AB ?_
  refine AB ?_
  refine B6 ?_
  focus ((refine CL (D7 2 [n, t] rfl rfl rfl ⟨by kernel_rfl, by kernel_rfl⟩ rfl hMl rfl (mapAtS_rd memZ)) rfl rfl rfl ?_; rw [hMg]))
  refine AB ?_
  refine AR ?_
  refine AR ?_
  refine AD ?_
  refine AD ?_
  refine AE ?_
  refine AC ?_
  refine AC ?_
  refine AA ?_
  refine AB ?_
  refine BE ?_
  refine AE ?_
  refine AO rfl ?_
  refine AC ?_
  refine AA ?_
  refine AD ?_
  refine AD ?_
  refine AE ?_
  exact AI (res2 rfl rfl rfl) rsubZ selZ ⟨rfl, rfl⟩
set_option maxHeartbeats 16000000 in
theorem Place_spec {ρ τ σ υ : PH} {pq pc pb ph : Option Addr} {kq kc kb kh : Nat} {qs : List Int} {cs : List Ct} {bs : List Bk} {hs : List Hd} (hT : TbAt ρ τ σ υ pq pc pb ph kq kc kb kh qs cs bs hs) (d : Dm) (v : Int) :
  Ans Tryz.prog (fv 14) [.agg #[.slice pq qs.length kq, .slice pc cs.length kc, .slice pb bs.length kb, .slice ph hs.length kh], .agg #[int d.s, int d.d, int d.v, int d.r, int d.e], int v] [ρ, τ, σ, υ] (fun r => r = .tuple #[int (placeR qs cs bs hs d v).1, int (placeR qs cs bs hs d v).2.1, int (placeR qs cs bs hs d v).2.2]) := by
 unfold placeR
 refine spec_in (cap := []) Tryz.func14 rfl rfl Tryz.ntmps14 rfl envZ (fun N β => ?_)
 refine AC ?_
 refine AA ?_
 refine BJ (BN rfl) rfl rfl rfl ?_
 rintro _ _ ⟨b1, rfl, rfl⟩
 refine AS (ρ := sng b1 _) takeZ ?_
 have ct : RdN (sng b1 (.cells #[.slice pq qs.length kq, .slice pc cs.length kc, .slice pb bs.length kb, .slice ph hs.length kh] 29 (0, 0))) b1 0 [.slice pq qs.length kq, .slice pc cs.length kc, .slice pb bs.length kb, .slice ph hs.length kh] := rdN_sng (vs := [.slice pq qs.length kq, .slice pc cs.length kc, .slice pb bs.length kb, .slice ph hs.length kh])
 have ct0 : rdc (sng b1 (.cells #[.slice pq qs.length kq, .slice pc cs.length kc, .slice pb bs.length kb, .slice ph hs.length kh] 29 (0, 0))) b1 0 = some (.slice pq qs.length kq) := by rw [rdc_sng]; rfl
 have ct1 : rdc (sng b1 (.cells #[.slice pq qs.length kq, .slice pc cs.length kc, .slice pb bs.length kb, .slice ph hs.length kh] 29 (0, 0))) b1 1 = some (.slice pc cs.length kc) := by rw [rdc_sng]; rfl
 have ct2 : rdc (sng b1 (.cells #[.slice pq qs.length kq, .slice pc cs.length kc, .slice pb bs.length kb, .slice ph hs.length kh] 29 (0, 0))) b1 2 = some (.slice pb bs.length kb) := by rw [rdc_sng]; rfl
 have ct3 : rdc (sng b1 (.cells #[.slice pq qs.length kq, .slice pc cs.length kc, .slice pb bs.length kb, .slice ph hs.length kh] 29 (0, 0))) b1 3 = some (.slice ph hs.length kh) := by rw [rdc_sng]; rfl
 have ctp : RdP (sng b1 (.cells #[.slice pq qs.length kq, .slice pc cs.length kc, .slice pb bs.length kb, .slice ph hs.length kh] 29 (0, 0))) b1 0 [.slice pq qs.length kq, .slice pc cs.length kc] := rdP_sng (xs := [.slice pq qs.length kq, .slice pc cs.length kc, .slice pb bs.length kb, .slice ph hs.length kh]) rfl
 refine BJ (BN rfl) rfl rfl rfl ?_
 rintro _ _ ⟨b2, rfl, rfl⟩
 refine AS (ρ := sng b2 _) takeZ ?_
 have cd : RdN (sng b2 (.cells #[int d.s, int d.d, int d.v, int d.r, int d.e] 31 (0, 0))) b2 0 [int d.s, int d.d, int d.v, int d.r, int d.e] := rdN_sng (vs := [int d.s, int d.d, int d.v, int d.r, int d.e])
 have cd0 : rdc (sng b2 (.cells #[int d.s, int d.d, int d.v, int d.r, int d.e] 31 (0, 0))) b2 0 = some (int d.s) := by rw [rdc_sng]; rfl
 have cd1 : rdc (sng b2 (.cells #[int d.s, int d.d, int d.v, int d.r, int d.e] 31 (0, 0))) b2 1 = some (int d.d) := by rw [rdc_sng]; rfl
 have cd2 : rdc (sng b2 (.cells #[int d.s, int d.d, int d.v, int d.r, int d.e] 31 (0, 0))) b2 2 = some (int d.v) := by rw [rdc_sng]; rfl
 have cd3 : rdc (sng b2 (.cells #[int d.s, int d.d, int d.v, int d.r, int d.e] 31 (0, 0))) b2 3 = some (int d.r) := by rw [rdc_sng]; rfl
 have cd4 : rdc (sng b2 (.cells #[int d.s, int d.d, int d.v, int d.r, int d.e] 31 (0, 0))) b2 4 = some (int d.e) := by rw [rdc_sng]; rfl
 refine AD ?_
 refine AD ?_
 refine AD ?_
 refine AE ?_
 refine AC ?_
 refine AA ?_
 refine AT ?_
 refine AT ?_
 refine BK (build_spec hT d) rfl rfl Takes.nil rdZ rfl rfl ?_
 rintro _ H' (⟨hv, rfl, rfl⟩ | ⟨hv, bw, bm, pl0, χ, M, rfl, rfl, hO, hM⟩)
 ·rw [if_neg (by simp [hv])]
  refine AB ?_
  refine AR ?_
  refine AR ?_
  refine AD ?_
  refine AD ?_
  refine AE ?_
  refine AC ?_
  refine AC ?_
  refine AA ?_
  refine AB ?_
  refine BE ?_
  refine AE ?_
  refine AO rfl ?_
  refine AC ?_
  refine AA ?_
  refine AD ?_
  refine AD ?_
  refine AD ?_
  refine AE ?_
  exact AI (res3 rfl rfl rfl rfl) rsubZ selZ ⟨rfl, rfl⟩
 rw [if_pos hv]
 have h := vok hv
 have h0 := vokB hv
 have hdm := h.dm
 unfold okDm at hdm
 have hnq := h.nq
 obtain ⟨pl, kp, rfl⟩ := hO.form
 have hpl : SlE encS 2 χ (.slice pl (placesA d qs.length).length kp) (placesA d qs.length) := hO.at
 refine AS (ρ := sng bw _) takeZ ?_
 refine AS (ρ := sng bm _) takeZ ?_
 refine AS (ρ := χ) takeZ ?_
 have w0 : rdc (sng bw (.cells #[.slice pq qs.length kq, .slice pc cs.length kc, .slice pb bs.length kb, .slice ph hs.length kh, int d.s, int d.d, int d.v, int d.r, int d.e, .slice pl (placesA d qs.length).length kp, .map (some bm)] 97 (0, 0))) bw 0 = some (.slice pq qs.length kq) := by rw [rdc_sng]; rfl
 have w1 : rdc (sng bw (.cells #[.slice pq qs.length kq, .slice pc cs.length kc, .slice pb bs.length kb, .slice ph hs.length kh, int d.s, int d.d, int d.v, int d.r, int d.e, .slice pl (placesA d qs.length).length kp, .map (some bm)] 97 (0, 0))) bw 1 = some (.slice pc cs.length kc) := by rw [rdc_sng]; rfl
 have w2 : rdc (sng bw (.cells #[.slice pq qs.length kq, .slice pc cs.length kc, .slice pb bs.length kb, .slice ph hs.length kh, int d.s, int d.d, int d.v, int d.r, int d.e, .slice pl (placesA d qs.length).length kp, .map (some bm)] 97 (0, 0))) bw 2 = some (.slice pb bs.length kb) := by rw [rdc_sng]; rfl
 have w3 : rdc (sng bw (.cells #[.slice pq qs.length kq, .slice pc cs.length kc, .slice pb bs.length kb, .slice ph hs.length kh, int d.s, int d.d, int d.v, int d.r, int d.e, .slice pl (placesA d qs.length).length kp, .map (some bm)] 97 (0, 0))) bw 3 = some (.slice ph hs.length kh) := by rw [rdc_sng]; rfl
 have w4 : rdc (sng bw (.cells #[.slice pq qs.length kq, .slice pc cs.length kc, .slice pb bs.length kb, .slice ph hs.length kh, int d.s, int d.d, int d.v, int d.r, int d.e, .slice pl (placesA d qs.length).length kp, .map (some bm)] 97 (0, 0))) bw 4 = some (int d.s) := by rw [rdc_sng]; rfl
 have w5 : rdc (sng bw (.cells #[.slice pq qs.length kq, .slice pc cs.length kc, .slice pb bs.length kb, .slice ph hs.length kh, int d.s, int d.d, int d.v, int d.r, int d.e, .slice pl (placesA d qs.length).length kp, .map (some bm)] 97 (0, 0))) bw 5 = some (int d.d) := by rw [rdc_sng]; rfl
 have w6 : rdc (sng bw (.cells #[.slice pq qs.length kq, .slice pc cs.length kc, .slice pb bs.length kb, .slice ph hs.length kh, int d.s, int d.d, int d.v, int d.r, int d.e, .slice pl (placesA d qs.length).length kp, .map (some bm)] 97 (0, 0))) bw 6 = some (int d.v) := by rw [rdc_sng]; rfl
 have w7 : rdc (sng bw (.cells #[.slice pq qs.length kq, .slice pc cs.length kc, .slice pb bs.length kb, .slice ph hs.length kh, int d.s, int d.d, int d.v, int d.r, int d.e, .slice pl (placesA d qs.length).length kp, .map (some bm)] 97 (0, 0))) bw 7 = some (int d.r) := by rw [rdc_sng]; rfl
 have w8 : rdc (sng bw (.cells #[.slice pq qs.length kq, .slice pc cs.length kc, .slice pb bs.length kb, .slice ph hs.length kh, int d.s, int d.d, int d.v, int d.r, int d.e, .slice pl (placesA d qs.length).length kp, .map (some bm)] 97 (0, 0))) bw 8 = some (int d.e) := by rw [rdc_sng]; rfl
 have w9 : rdc (sng bw (.cells #[.slice pq qs.length kq, .slice pc cs.length kc, .slice pb bs.length kb, .slice ph hs.length kh, int d.s, int d.d, int d.v, int d.r, int d.e, .slice pl (placesA d qs.length).length kp, .map (some bm)] 97 (0, 0))) bw 9 = some (.slice pl (placesA d qs.length).length kp) := by rw [rdc_sng]; rfl
 have w10 : rdc (sng bw (.cells #[.slice pq qs.length kq, .slice pc cs.length kc, .slice pb bs.length kb, .slice ph hs.length kh, int d.s, int d.d, int d.v, int d.r, int d.e, .slice pl (placesA d qs.length).length kp, .map (some bm)] 97 (0, 0))) bw 10 = some (.map (some bm)) := by rw [rdc_sng]; rfl
 have hplen : (((placesA d qs.length).length : Nat) : Int) = vsN qs d := placesA_len (d := d) (by omega) qs.length
 by_cases hc : 0 ≤ v ∧ v < vsN qs d
 rotate_left
 ·rw [if_neg hc]
  by_cases hn : v < 0
  ·refine AB ?_
   refine AR ?_
   refine AR ?_
   refine AD ?_
   refine AD ?_
   refine AE ?_
   refine AC ?_
   refine AC ?_
   refine AA ?_
   refine AB ?_
   refine BE ?_
   refine AE ?_
   refine AN rfl ?_
   refine AL ?_
   refine AC ?_
   refine AC ?_
   refine AA ?_
   refine AB ?_
   refine BB ?_
   refine AB ?_
   refine AG rfl rfl rfl ?_
   refine AG rfl rfl rfl ?_
   refine AG rfl rfl rfl ?_
   refine AG rfl rfl rfl ?_
   refine AG rfl rfl rfl ?_
   refine AG rfl rfl rfl ?_
   refine AG rfl rfl rfl ?_
   refine AM ?_
   refine AE ?_
   refine AO rfl ?_
   refine AC ?_
   refine AA ?_
   refine AD ?_
   refine AD ?_
   refine AD ?_
   refine AE ?_
   exact AI (res3 rfl rfl rfl rfl) rsubZ selZ ⟨rfl, rfl⟩
  ·refine AB ?_
   refine AR ?_
   refine AR ?_
   refine AD ?_
   refine AD ?_
   refine AE ?_
   refine AC ?_
   refine AC ?_
   refine AA ?_
   refine AB ?_
   refine BE ?_
   refine AE ?_
   refine AN rfl ?_
   refine AL ?_
   refine AC ?_
   refine AC ?_
   refine AA ?_
   refine AB ?_
   refine AY ?_
   refine AB ?_
   refine AB ?_
   refine AB ?_
   refine BL ?_
   refine AH ?_
   refine AF ?_
   refine AU ?_
   refine CD ?_
   refine AJ ?_
   refine AE ?_
   refine AO rfl ?_
   refine AC ?_
   refine AA ?_
   refine AD ?_
   refine AD ?_
   refine AD ?_
   refine AE ?_
   exact AI (res3 rfl rfl rfl rfl) rsubZ selZ ⟨rfl, rfl⟩
 rw [if_pos hc]
 obtain ⟨n, t, hn, ht1, ht2, hkv, hkn⟩ := place_of (d := d) (by omega) (k := v.toNat) (N := qs.length) (by rw [Int.toNat_of_nonneg hc.1]; exact hc.2)
 rw [Int.toNat_of_nonneg hc.1] at hkv
 have hx := placesA_get (d := d) (by omega) ht1 ht2 hn
 obtain ⟨_, _, ep, hrp⟩ := hpl.val encS_len
 simp only [Value.slice.injEq] at ep
 obtain ⟨rfl, _, rfl⟩ := ep
 rw [← hkv] at hx
 obtain ⟨b6, o6, rfl, hRd6, y0, y1⟩ := spRow hrp hx
 have hdv := vtx_div (d := d) (n := n) (t := t) ht1 ht2
 have hdm2 := vtx_mod (d := d) (n := n) (t := t) ht1 ht2
 rw [← hkv] at hdv hdm2
 rw [hdv, hdm2, show d.r + (t - d.r) = t by omega]
 obtain ⟨k, rfl⟩ := Int.eq_ofNat_of_zero_le hc.1
 refine AB ?_
 refine AR ?_
 refine AR ?_
 refine AD ?_
 refine AD ?_
 refine AE ?_
 refine AC ?_
 refine AC ?_
 refine AA ?_
 refine AB ?_
 refine BE ?_
 refine AE ?_
 refine AN rfl ?_
 refine AL ?_
 refine AC ?_
 refine AC ?_
 refine AA ?_
 refine AB ?_
 refine AY ?_
 refine AB ?_
 refine AB ?_
 refine AB ?_
 refine BL ?_
 refine AH ?_
 refine AF ?_
 refine AU ?_
 refine BF ?_
 refine AJ ?_
 refine AE ?_
 refine AN rfl ?_
 refine AL ?_
 refine AC ?_
 refine AA ?_
 refine AB ?_
 refine BL ?_
 refine AH ?_
 refine AF ?_
 refine AB ?_
 refine A8 ?_
 refine AT ?_
 refine A5 ?_; rintro _ _ ⟨b, rfl, rfl⟩
 refine A3 ?_; rintro _ _ ⟨rfl, rfl⟩
 refine AE ?_
 refine AC ?_
 refine AZ (.q 0 (.q 1 (.q 2 (.q 3 (.q 4 (.q 5 (.q 6 .nil))))))) [] rfl (by kernel_rfl) Sel.nil ?_
 refine AX ?_
 refine AQ ?_
 refine AX ?_
 refine AQ ?_
 refine BP ?_
 refine BP ?_
 refine BP ?_
 refine A4 ?_
 skip
 exact AI (res3 rfl rfl rfl rfl) rsubZ selZ ⟨rfl, rfl⟩
end Go.Proofs.YthdoegkjifgegaaGreat
/- Values of flows, capacities of cuts, equal lists: what the functions answer. -/
namespace Go.Proofs.YthdoegkjifgegaaGreat
open Go.Eng Go.Flow
set_option maxRecDepth 100000
set_option maxHeartbeats 4000000

theorem value_spec (ρ σ : PH) (v u : Value) (s : Int) (l : List Arc) (fl : List Int) (hv : ArcsAt ρ v l) (hu : IntsAt σ u fl) (hl : l.length ≤ 20000) (hfl : fl.length = l.length) (hs : small fl) :
  Ans Tryz.prog (fv 82) [v, u, int s] [ρ, σ] (fun r => r = int (fval s l fl)) := by
 obtain ⟨q, c, rfl, hr⟩ := hv.val encA_len
 obtain ⟨q2, c2, rfl, hr2⟩ := hu.val Eng.encI_len
 refine spec_in (cap := []) Tryz.func82 rfl rfl Tryz.ntmps82 rfl envZ (fun N β => ?_)
 refine AC ?_
 refine AA ?_
 refine AD ?_
 refine AE ?_
 refine AC ?_
 refine AA ?_
 refine AD ?_
 refine AE ?_
 refine AC ?_
 refine AC ?_
 refine AA ?_
 refine AB ?_
 refine AU ?_
 refine AB ?_
 refine AE ?_
 refine AP ?_
 refine BC [0, 1, 2, 10, 11] ((0, 0) : Nat × Int) (fun x => x.1 ≤ l.length ∧ x.2 = fval s (l.take x.1) (fl.take x.1)) (fun x => [(7, int x.2), (12, int x.1)]) (fun _ => []) (fun x => l.length - x.1) pickZ ⟨by simp, by simp [fval]⟩ covZ selZ ?_
 rintro ⟨k, y⟩ ⟨hk, hy⟩
 simp only at hk hy
 by_cases hlt : k < l.length
 ·have hx := List.getElem?_eq_getElem hlt
  obtain ⟨b, o, rfl, hA, h0, h1, h2⟩ := arcRow hr hx
  have hx2 := List.getElem?_eq_getElem (show k < fl.length by omega)
  obtain ⟨b2, o2, rfl, g0⟩ := hr2.int hx2
  have hbd := fval_bd s (l.take k) (fl.take k) (small_take hs k)
  have hlen : (fl.take k).length = k := by simp; omega
  rw [← hy, hlen] at hbd
  have hx3 := hs fl[k] (List.getElem_mem _)
  have hstep : fval s (l.take (k + 1)) (fl.take (k + 1)) = y + ((if l[k].f = s then fl[k] else 0) - (if l[k].t = s then fl[k] else 0)) := by
   rw [take_snoc' hlt, take_snoc' (show k < fl.length by omega), fval_snoc _ _ _ _ _ (by simp; omega), hy]
  repeat' (first
   | (refine AB ?_)
   | (refine AD ?_)
   | (refine AF ?_)
   | (refine AH ?_)
   | (refine BQ ?_)
   | (refine A8 ?_)
   | (refine A9 ?_)
   | (refine BB ?_)
   | (refine CH ?_)
   | (refine C8 ?_)
   | (refine AT ?_)
   | (refine AC ?_)
   | (refine AA ?_)
   | (refine AE ?_)
   | (refine AP ?_)
   | (refine A0 ?_)
   | (refine AL ?_)
   | (refine AO rfl ?_)
   | (refine AN rfl ?_)
   | (refine A5 ?_; rintro _ _ ⟨b, rfl, rfl⟩)
   | (refine A3 ?_; rintro _ _ ⟨rfl, rfl⟩)
   | (focus ((refine BZ rfl rfl (cmp_eq _ _) rfl rfl (fun h => ?_) (fun h => ?_))))
   | fail)
  all_goals refine AW (k + 1, _) ⟨by simp only; omega, ?_⟩ (by simp only; omega) covZ selZ
  all_goals simp only
  all_goals rw [hstep]
  all_goals (repeat (first | rw [if_pos (by assumption)] | rw [if_neg (by assumption)]))
  all_goals omega
 ·refine AC ?_
  refine AA ?_
  refine AY ?_
  refine AE ?_
  refine AC ?_
  refine AN rfl ?_
  refine A7 rfl ?_
  refine AC ?_
  refine AA ?_
  refine AB ?_
  refine AD ?_
  refine AE ?_
  refine AI (res1 rfl rfl) rsubZ selZ ⟨rfl, ?_⟩
  rw [hy, List.take_of_length_le (by omega), List.take_of_length_le (by omega)]

theorem capacity_spec (ρ : PH) (v : Value) (n b cp : Nat) (T : TypeId) (l : List Arc) (m : List Bool) (hv : ArcsAt ρ v l) (hl : l.length ≤ 20000) (hok : ∀ a ∈ l, okArc n a = true) (hm : m.length = n) :
  Ans Tryz.prog (fv 57) [v, .slice (some ⟨b, 0, none⟩) n cp] [ρ, sng b (.cells (bools m) T (0, 0))] (fun r => r = int (capOf (fun j => m.getD j false) l)) := by
 obtain ⟨q, c, rfl, hr⟩ := hv.val encA_len
 refine spec_in (cap := []) Tryz.func57 rfl rfl Tryz.ntmps57 rfl envZ (fun N β => ?_)
 refine AC ?_
 refine AA ?_
 refine AD ?_
 refine AE ?_
 refine AC ?_
 refine AA ?_
 refine AD ?_
 refine AE ?_
 refine AC ?_
 refine AC ?_
 refine AA ?_
 refine AB ?_
 refine AU ?_
 refine AB ?_
 refine AE ?_
 refine AP ?_
 refine BC [0, 1, 8, 9] ((0, 0) : Nat × Int) (fun x => x.1 ≤ l.length ∧ x.2 = capOf (fun j => m.getD j false) (l.take x.1)) (fun x => [(5, int x.2), (10, int x.1)]) (fun _ => []) (fun x => l.length - x.1) pickZ ⟨by simp, by simp [capOf]⟩ covZ selZ ?_
 rintro ⟨k, y⟩ ⟨hk, hy⟩
 simp only at hk hy
 by_cases hlt : k < l.length
 ·have hx := List.getElem?_eq_getElem hlt
  obtain ⟨b', o, rfl, hA, h0, h1, h2⟩ := arcRow hr hx
  have hbd := capOf_bd n (fun j => m.getD j false) (l.take k) (fun a ha => hok a (List.mem_of_mem_take ha))
  have hlen : (l.take k).length = k := by simp; omega
  rw [← hy, hlen] at hbd
  obtain ⟨g1, g2, g3, g4, g5, g6, g7⟩ := okArc_iff.1 (hok l[k] (List.getElem_mem hlt))
  have hstep : capOf (fun j => m.getD j false) (l.take (k + 1)) = y + (if m.getD l[k].f.toNat false = true ∧ m.getD l[k].t.toNat false = false then l[k].c else 0) := by
   rw [take_snoc' hlt, capOf_snoc, hy]
  obtain ⟨f, hf⟩ := Int.eq_ofNat_of_zero_le g1
  obtain ⟨t, ht⟩ := Int.eq_ofNat_of_zero_le g3
  rw [hf, ht] at hA hstep
  rw [hf] at g2
  rw [ht] at g4
  have e1 : m[f]? = some (m.getD f false) := by
   have : f < m.length := by omega
   simp [this]
  have e2 : m[t]? = some (m.getD t false) := by
   have : t < m.length := by omega
   simp [this]
  simp only [Int.toNat_natCast] at hstep
  cases c1 : m.getD f false with
  | false =>
   rw [c1] at e1
   rw [if_neg (by rw [c1]; simp), Int.add_zero] at hstep
   refine AC ?_
   refine AA ?_
   refine BB ?_
   refine AE ?_
   refine AC ?_
   refine AO rfl ?_
   refine AL ?_
   refine AC ?_
   refine AP ?_
   refine AC ?_
   refine AA ?_
   refine A8 ?_
   refine AT ?_
   refine A5 ?_; rintro _ _ ⟨b, rfl, rfl⟩
   refine A3 ?_; rintro _ _ ⟨rfl, rfl⟩
   refine AE ?_
   refine AC ?_
   refine AA ?_
   refine AB ?_
   refine AH ?_
   refine AF ?_
   refine BW ?_
   refine AF ?_
   refine AB ?_
   refine AG rfl rfl rfl ?_
   refine AG rfl rfl rfl ?_
   refine AG rfl rfl rfl ?_
   refine AG rfl rfl rfl ?_
   refine AG rfl rfl rfl ?_
   refine AG rfl rfl rfl ?_
   refine AJ ?_
   refine AE ?_
   refine AN rfl ?_
   refine AL ?_
   refine A0 ?_
   refine AA ?_
   refine A9 ?_
   refine AB ?_
   refine AE ?_
   exact AW (k + 1, _) ⟨by simp only; omega, hstep.symm⟩ (by simp only; omega) covZ selZ
  | true =>
   rw [c1] at e1
   cases c2 : m.getD t false with
   | false =>
    rw [c2] at e2
    rw [if_pos ⟨c1, c2⟩] at hstep
    refine AC ?_
    refine AA ?_
    refine BB ?_
    refine AE ?_
    refine AC ?_
    refine AO rfl ?_
    refine AL ?_
    refine AC ?_
    refine AP ?_
    refine AC ?_
    refine AA ?_
    refine A8 ?_
    refine AT ?_
    refine A5 ?_; rintro _ _ ⟨b, rfl, rfl⟩
    refine A3 ?_; rintro _ _ ⟨rfl, rfl⟩
    refine AE ?_
    refine AC ?_
    refine AA ?_
    refine AB ?_
    refine AH ?_
    refine AF ?_
    refine BW ?_
    refine AF ?_
    refine AB ?_
    refine AB ?_
    refine AH ?_
    refine AF ?_
    refine BW ?_
    refine AF ?_
    refine BE ?_
    refine AM ?_
    refine AE ?_
    refine AO rfl ?_
    refine AA ?_
    refine AB ?_
    refine AH ?_
    refine AF ?_
    refine CH ?_
    refine AD ?_
    refine AE ?_
    refine A0 ?_
    refine AA ?_
    refine A9 ?_
    refine AB ?_
    refine AE ?_
    exact AW (k + 1, _) ⟨by simp only; omega, hstep.symm⟩ (by simp only; omega) covZ selZ
   | true =>
    rw [c2] at e2
    rw [if_neg (by rw [c2]; simp), Int.add_zero] at hstep
    refine AC ?_
    refine AA ?_
    refine BB ?_
    refine AE ?_
    refine AC ?_
    refine AO rfl ?_
    refine AL ?_
    refine AC ?_
    refine AP ?_
    refine AC ?_
    refine AA ?_
    refine A8 ?_
    refine AT ?_
    refine A5 ?_; rintro _ _ ⟨b, rfl, rfl⟩
    refine A3 ?_; rintro _ _ ⟨rfl, rfl⟩
    refine AE ?_
    refine AC ?_
    refine AA ?_
    refine AB ?_
    refine AH ?_
    refine AF ?_
    refine BW ?_
    refine AF ?_
    refine AB ?_
    refine AB ?_
    refine AH ?_
    refine AF ?_
    refine BW ?_
    refine AF ?_
    refine BE ?_
    refine AM ?_
    refine AE ?_
    refine AN rfl ?_
    refine AL ?_
    refine A0 ?_
    refine AA ?_
    refine A9 ?_
    refine AB ?_
    refine AE ?_
    exact AW (k + 1, _) ⟨by simp only; omega, hstep.symm⟩ (by simp only; omega) covZ selZ
 ·refine AC ?_
  refine AA ?_
  refine AY ?_
  refine AE ?_
  refine AC ?_
  refine AN rfl ?_
  refine A7 rfl ?_
  refine AC ?_
  refine AA ?_
  refine AB ?_
  refine AD ?_
  refine AE ?_
  refine AI (res1 rfl rfl) rsubZ selZ ⟨rfl, ?_⟩
  rw [hy, List.take_of_length_le (by omega)]

end Go.Proofs.YthdoegkjifgegaaGreat
/- Capacity and Value, of the program and of the reference. -/
namespace Go.Proofs.YthdoegkjifgegaaGreat
open Go.Eng Go.Flow
set_option maxRecDepth 100000
set_option maxHeartbeats 4000000

theorem capFun_eq (n : Nat) (side : List Int) (l : List Arc) (hok : ∀ a ∈ l, okArc n a = true) : capOf (fun j => (marksOf n side).getD j false) l = capOf (fun j => decide ((j : Int) ∈ side)) l := by
 induction l with
 | nil => rfl
 | cons a l ih =>
  obtain ⟨g1, g2, g3, g4, g5, g6, g7⟩ := okArc_iff.1 (hok a (by simp))
  simp only [capOf]
  rw [ih (fun b hb => hok b (by simp [hb]))]
  have e1 : (marksOf n side).getD a.f.toNat false = decide ((a.f.toNat : Int) ∈ side) := by
   rw [List.getD_eq_getElem?_getD, marksOf_get (by omega)]; rfl
  have e2 : (marksOf n side).getD a.t.toNat false = decide ((a.t.toNat : Int) ∈ side) := by
   rw [List.getD_eq_getElem?_getD, marksOf_get (by omega)]; rfl
  simp only [e1, e2]

theorem flowCapacity_spec (ρ σ : PH) (v u : Value) (n : Int) (l : List Arc) (side : List Int) (hv : ArcsAt ρ v l) (hu : IntsAt σ u side) (hl : l.length ≤ 1000000) (hm : side.length ≤ 1000000) :
  Ans Tryz.prog (fv 47) [int n, v, u] [ρ, σ] (fun r => r = .tuple #[int (capacitySpec n l side).1, int (capacitySpec n l side).2]) := by
 obtain ⟨q2, c2, rfl, hr2⟩ := hu.val Eng.encI_len
 refine spec_in (cap := []) Tryz.func47 rfl rfl Tryz.ntmps47 rfl envZ (fun N β => ?_)
 refine AC ?_
 refine AA ?_
 refine AD ?_
 refine AD ?_
 refine AE ?_
 refine AC ?_
 refine AC ?_
 refine AA ?_
 refine AB ?_
 refine AB ?_
 focus ((refine A6 (check_spec ρ v n l hv hl) rfl rfl rdZ rfl rfl ?_; rintro _ rfl))
 refine AD ?_
 refine AE ?_
 refine AC ?_
 refine AA ?_
 refine AB ?_
 by_cases hc : chk n l = 0
 rotate_left
 ·refine CK ?_
  refine AE ?_
  refine AO rfl ?_
  refine AC ?_
  refine AA ?_
  refine AB ?_
  refine AD ?_
  refine AD ?_
  refine AE ?_
  refine AI (res2 rfl rfl rfl) rsubZ selZ ⟨rfl, ?_⟩
  unfold capacitySpec; rw [if_pos hc]
 obtain ⟨a1, a2, a3, hok⟩ := chk_ok hc
 obtain ⟨n, rfl⟩ := Int.eq_ofNat_of_zero_le a1
 refine BI ?_
 refine AE ?_
 refine AN rfl ?_
 refine AL ?_
 refine AC ?_
 refine AA ?_
 refine AB ?_
 refine E5 ?_; rintro _ _ ⟨b, rfl, rfl⟩
 refine AD ?_
 refine AE ?_
 refine AC ?_
 refine AC ?_
 refine AA ?_
 refine AB ?_
 refine AU ?_
 refine AB ?_
 refine AE ?_
 refine AP ?_
 rw [← marksOf_nil]
 refine BC [0, 1, 2, 9, 20, 21] (0 : Nat) (fun k => k ≤ side.length ∧ sideChk n none side = sideChk n (prevAt side k) (side.drop k)) (fun k => [(22, int k)]) (fun k => [sng b (.cells (bools (marksOf n (side.take k))) 4 (0, 0))]) (fun k => side.length - k) pickZ ⟨by omega, by simp [prevAt]⟩ covZ selZ ?_
 rintro k ⟨hk, hy⟩
 have hml := marksOf_len n (side.take k)
 by_cases hlt : k < side.length
 ·obtain ⟨b2, o2, rfl, g1⟩ := hr2.int (List.getElem?_eq_getElem hlt)
  have g2 : 1 ≤ k → rdc σ b2 (o2 + (k - 1)) = some (int side[k - 1]) := fun h => by
   obtain ⟨b3, o3, e, g⟩ := hr2.int (List.getElem?_eq_getElem (show k - 1 < side.length by omega))
   simp only [Option.some.injEq, Addr.mk.injEq, and_true] at e
   rw [e.1, e.2]; exact g
  have hin : 0 ≤ side[k] ∧ side[k] < (n : Int) ∨ side[k] < 0 ∨ (n : Int) ≤ side[k] := by omega
  rcases hin with hin | hin
  ·have hpv : k = 0 ∨ (1 ≤ k ∧ side[k] ≤ side[k - 1]) ∨ (1 ≤ k ∧ side[k - 1] < side[k]) := by omega
   have hpa : 1 ≤ k → prevAt side k = some side[k - 1] := fun h => by
    obtain ⟨j, rfl⟩ : ∃ j, k = j + 1 := ⟨k - 1, by omega⟩
    simp [prevAt]
   obtain ⟨x, hx⟩ := Int.eq_ofNat_of_zero_le hin.1
   rcases hpv with rfl | ⟨h1, h2⟩ | ⟨h1, h2⟩
   ·have hst := sideChk_step (n := n) hlt hin.1 hin.2 (by simp [prevAt])
    rw [hx] at g1 hin
    refine AC ?_
    refine AA ?_
    refine BB ?_
    refine AE ?_
    refine AC ?_
    refine AO rfl ?_
    refine AL ?_
    refine AC ?_
    refine AP ?_
    refine AC ?_
    refine AA ?_
    refine AB ?_
    refine BQ ?_
    refine AF ?_
    refine AD ?_
    refine AD ?_
    refine AE ?_
    refine AC ?_
    refine AC ?_
    refine AA ?_
    refine AB ?_
    refine AB ?_
    focus ((refine A6 (inside_spec _ _) rfl rfl rdZ rfl rfl ?_; rintro v (⟨rfl, h⟩ | ⟨rfl, h⟩); rotate_left; (focus (exfalso; omega))))
    refine BE ?_
    refine AE ?_
    refine AN rfl ?_
    refine AL ?_
    refine AC ?_
    refine AC ?_
    refine AA ?_
    refine AB ?_
    refine BU ?_
    refine AB ?_
    refine AG rfl rfl rfl ?_
    refine AG rfl rfl rfl ?_
    refine AG rfl rfl rfl ?_
    refine AG rfl rfl rfl ?_
    refine AG rfl rfl rfl ?_
    refine AG rfl rfl rfl ?_
    refine AG rfl rfl rfl ?_
    refine AJ ?_
    refine AE ?_
    refine AN rfl ?_
    refine AL ?_
    refine AA ?_
    refine AB ?_
    refine AB ?_
    refine BW ?_
    refine DM ?_; rintro _ _ ⟨rfl, rfl⟩
    refine AE ?_
    refine A0 ?_
    refine AA ?_
    refine A9 ?_
    refine AB ?_
    refine AE ?_
    refine AW 1 ⟨by omega, by rw [hy, hst]⟩ (by omega) covZ ?_
    rw [take_snoc' hlt, hx, marksOf_snoc]
    exact selZ
   ·have hst := sideChk_nine (n := n) hlt hin.1 hin.2 (hpa h1) h2
    have hcs : capacitySpec n l side = (0, 9) := by
     unfold capacitySpec
     rw [if_neg (by rw [hc]; simp), hy, hst, if_pos (by simp)]
    have g3 := g2 h1
    rw [hx] at g1 hin h2
    refine AC ?_
    refine AA ?_
    refine BB ?_
    refine AE ?_
    refine AC ?_
    refine AO rfl ?_
    refine AL ?_
    refine AC ?_
    refine AP ?_
    refine AC ?_
    refine AA ?_
    refine AB ?_
    refine BQ ?_
    refine AF ?_
    refine AD ?_
    refine AD ?_
    refine AE ?_
    refine AC ?_
    refine AC ?_
    refine AA ?_
    refine AB ?_
    refine AB ?_
    focus ((refine A6 (inside_spec _ _) rfl rfl rdZ rfl rfl ?_; rintro v (⟨rfl, h⟩ | ⟨rfl, h⟩); rotate_left; (focus (exfalso; omega))))
    refine BE ?_
    refine AE ?_
    refine AN rfl ?_
    refine AL ?_
    refine AC ?_
    refine AC ?_
    refine AA ?_
    refine AB ?_
    refine CP ?_
    refine AB ?_
    refine AB ?_
    refine AB ?_
    refine AB ?_
    refine DR ?_
    refine BQ ?_
    refine AF ?_
    refine CQ ?_
    refine AM ?_
    refine AE ?_
    refine AO rfl ?_
    refine AC ?_
    refine AA ?_
    refine AD ?_
    refine AD ?_
    refine AE ?_
    exact AI (res2 rfl rfl rfl) rsubZ selZ ⟨rfl, by rw [hcs]⟩
   ·have hst := sideChk_step (n := n) hlt hin.1 hin.2 (fun p hp => by rw [hpa h1] at hp; simp at hp; omega)
    have g3 := g2 h1
    rw [hx] at g1 hin h2
    refine AC ?_
    refine AA ?_
    refine BB ?_
    refine AE ?_
    refine AC ?_
    refine AO rfl ?_
    refine AL ?_
    refine AC ?_
    refine AP ?_
    refine AC ?_
    refine AA ?_
    refine AB ?_
    refine BQ ?_
    refine AF ?_
    refine AD ?_
    refine AD ?_
    refine AE ?_
    refine AC ?_
    refine AC ?_
    refine AA ?_
    refine AB ?_
    refine AB ?_
    focus ((refine A6 (inside_spec _ _) rfl rfl rdZ rfl rfl ?_; rintro v (⟨rfl, h⟩ | ⟨rfl, h⟩); rotate_left; (focus (exfalso; omega))))
    refine BE ?_
    refine AE ?_
    refine AN rfl ?_
    refine AL ?_
    refine AC ?_
    refine AC ?_
    refine AA ?_
    refine AB ?_
    refine CP ?_
    refine AB ?_
    refine AB ?_
    refine AB ?_
    refine AB ?_
    refine DR ?_
    refine BQ ?_
    refine AF ?_
    refine CR ?_
    refine AM ?_
    refine AE ?_
    refine AN rfl ?_
    refine AL ?_
    refine AA ?_
    refine AB ?_
    refine AB ?_
    refine BW ?_
    refine DM ?_; rintro _ _ ⟨rfl, rfl⟩
    refine AE ?_
    refine A0 ?_
    refine AA ?_
    refine A9 ?_
    refine AB ?_
    refine AE ?_
    refine AW (k + 1) ⟨by omega, by rw [hy, hst]⟩ (by omega) covZ ?_
    rw [take_snoc' hlt, hx, marksOf_snoc]
    exact selZ
  ·have hst := sideChk_two (n := n) (prevAt side k) hlt hin
   have hcs : capacitySpec n l side = (0, 2) := by
    unfold capacitySpec
    rw [if_neg (by rw [hc]; simp), hy, hst, if_pos (by simp)]
   refine AC ?_
   refine AA ?_
   refine BB ?_
   refine AE ?_
   refine AC ?_
   refine AO rfl ?_
   refine AL ?_
   refine AC ?_
   refine AP ?_
   refine AC ?_
   refine AA ?_
   refine AB ?_
   refine BQ ?_
   refine AF ?_
   refine AD ?_
   refine AD ?_
   refine AE ?_
   refine AC ?_
   refine AC ?_
   refine AA ?_
   refine AB ?_
   refine AB ?_
   focus ((refine A6 (inside_spec _ _) rfl rfl rdZ rfl rfl ?_; rintro v (⟨rfl, h⟩ | ⟨rfl, h⟩); (focus (exfalso; omega))))
   refine BE ?_
   refine AE ?_
   refine AO rfl ?_
   refine AC ?_
   refine AA ?_
   refine AD ?_
   refine AD ?_
   refine AE ?_
   exact AI (res2 rfl rfl rfl) rsubZ selZ ⟨rfl, by rw [hcs]⟩
 ·obtain rfl : k = side.length := by omega
  rw [List.take_length] at hml
  rw [List.take_length]
  refine AC ?_
  refine AA ?_
  refine AY ?_
  refine AE ?_
  refine AC ?_
  refine AN rfl ?_
  refine A7 rfl ?_
  refine AC ?_
  refine AA ?_
  refine AB ?_
  refine AB ?_
  focus ((refine A6 (capacity_spec ρ v n b n 4 l (marksOf n side) hv (by omega) hok hml) rfl rfl rdZ rfl rfl ?_; rintro _ rfl))
  refine AD ?_
  refine AD ?_
  refine AE ?_
  refine AI (res2 rfl rfl rfl) rsubZ selZ ⟨rfl, ?_⟩
  unfold capacitySpec
  rw [if_neg (by rw [hc]; simp), hy, List.drop_length]
  rw [if_neg (by simp [sideChk]), capFun_eq n side l hok]

theorem refCapacity_spec (ρ σ : PH) (v u : Value) (n : Int) (l : List Arc) (side : List Int) (hv : ArcsAt ρ v l) (hu : IntsAt σ u side) (hl : l.length ≤ 1000000) (hm : side.length ≤ 1000000) :
  Ans Tryz.prog (fv 49) [int n, v, u] [ρ, σ] (fun r => r = .tuple #[int (capacitySpec n l side).1, int (capacitySpec n l side).2]) := by
 obtain ⟨q, c, rfl, hr⟩ := hv.val encA_len
 obtain ⟨q2, c2, rfl, hr2⟩ := hu.val Eng.encI_len
 refine spec_in (cap := []) Tryz.func49 rfl rfl Tryz.ntmps49 rfl envZ (fun N β => ?_)
 refine AC ?_
 refine AA ?_
 refine AD ?_
 refine AD ?_
 refine AE ?_
 refine AC ?_
 refine AC ?_
 refine AA ?_
 refine AB ?_
 refine AB ?_
 focus ((refine A6 (refCheck_spec ρ _ n l hv hl) rfl rfl rdZ rfl rfl ?_; rintro _ rfl))
 refine AD ?_
 refine AE ?_
 refine AC ?_
 refine AA ?_
 refine AB ?_
 by_cases hc : chk n l = 0
 rotate_left
 ·refine CK ?_
  refine AE ?_
  refine AO rfl ?_
  refine AC ?_
  refine AA ?_
  refine AB ?_
  refine AD ?_
  refine AD ?_
  refine AE ?_
  refine AI (res2 rfl rfl rfl) rsubZ selZ ⟨rfl, ?_⟩
  unfold capacitySpec; rw [if_pos hc]
 obtain ⟨a1, a2, a3, hok⟩ := chk_ok hc
 obtain ⟨n, rfl⟩ := Int.eq_ofNat_of_zero_le a1
 refine BI ?_
 refine AE ?_
 refine AN rfl ?_
 refine AL ?_
 refine AC ?_
 refine AA ?_
 refine AB ?_
 refine E5 ?_; rintro _ _ ⟨b, rfl, rfl⟩
 refine AD ?_
 refine AE ?_
 refine AC ?_
 refine AC ?_
 refine AA ?_
 refine AD ?_
 refine AE ?_
 refine AP ?_
 rw [← marksOf_nil]
 refine BC [0, 1, 2, 9] (0 : Nat) (fun k => k ≤ side.length ∧ sideChk n none side = sideChk n (prevAt side k) (side.drop k)) (fun k => [(10, int k)]) (fun k => [sng b (.cells (bools (marksOf n (side.take k))) 4 (0, 0))]) (fun k => side.length - k) pickZ ⟨by omega, by simp [prevAt]⟩ covZ selZ ?_
 rintro k ⟨hk, hy⟩
 have hml := marksOf_len n (side.take k)
 by_cases hlt : k < side.length
 ·obtain ⟨b2, o2, rfl, g1⟩ := hr2.int (List.getElem?_eq_getElem hlt)
  have g2 : 1 ≤ k → rdc σ b2 (o2 + (k - 1)) = some (int side[k - 1]) := fun h => by
   obtain ⟨b3, o3, e, g⟩ := hr2.int (List.getElem?_eq_getElem (show k - 1 < side.length by omega))
   simp only [Option.some.injEq, Addr.mk.injEq, and_true] at e
   rw [e.1, e.2]; exact g
  have hin : 0 ≤ side[k] ∧ side[k] < (n : Int) ∨ side[k] < 0 ∨ (0 ≤ side[k] ∧ (n : Int) ≤ side[k]) := by omega
  rcases hin with hin | hin
  ·have hpv : k = 0 ∨ (1 ≤ k ∧ side[k] ≤ side[k - 1]) ∨ (1 ≤ k ∧ side[k - 1] < side[k]) := by omega
   have hpa : 1 ≤ k → prevAt side k = some side[k - 1] := fun h => by
    obtain ⟨j, rfl⟩ : ∃ j, k = j + 1 := ⟨k - 1, by omega⟩
    simp [prevAt]
   obtain ⟨x, hx⟩ := Int.eq_ofNat_of_zero_le hin.1
   rcases hpv with rfl | ⟨h1, h2⟩ | ⟨h1, h2⟩
   ·have hst := sideChk_step (n := n) hlt hin.1 hin.2 (by simp [prevAt])
    rw [hx] at g1 hin
    refine AC ?_
    refine AC ?_
    refine AA ?_
    refine AB ?_
    refine AB ?_
    refine AU ?_
    refine BB ?_
    refine AE ?_
    refine AO rfl ?_
    refine AL ?_
    refine AC ?_
    refine AP ?_
    refine AC ?_
    refine AC ?_
    refine AA ?_
    refine AB ?_
    refine AB ?_
    refine BQ ?_
    refine AF ?_
    refine AY ?_
    refine AB ?_
    refine AB ?_
    refine AB ?_
    refine BQ ?_
    refine AF ?_
    refine AB ?_
    refine BF ?_
    refine AJ ?_
    refine AE ?_
    refine AN rfl ?_
    refine AL ?_
    refine AC ?_
    refine AC ?_
    refine AZ (.q 0 (.q 1 (.q 2 (.q 3 (.q 4 (.q 5 (.q 6 (.q 7 (.q 8 (.q 9 (.q 10 (.q 11 (.q 12 (.q 13 .nil)))))))))))))) [] rfl (by kernel_rfl) selZ ?_
    refine AK ?_
    refine DA ?_
    refine AK ?_
    refine AV rfl rfl rfl rfl rfl ?_
    refine AV rfl rfl rfl rfl rfl ?_
    refine AV rfl rfl rfl rfl rfl ?_
    refine AV rfl rfl rfl rfl rfl ?_
    refine AV rfl rfl rfl rfl rfl ?_
    refine AV rfl rfl rfl rfl rfl ?_
    refine AV rfl rfl rfl rfl rfl ?_
    refine AV rfl rfl rfl rfl rfl ?_
    refine AV rfl rfl rfl rfl rfl ?_
    refine AV rfl rfl rfl rfl rfl ?_
    refine BT ?_
    refine A4 ?_
    refine AN rfl ?_
    refine AL ?_
    refine AA ?_
    refine AB ?_
    refine AB ?_
    refine AB ?_
    refine BQ ?_
    refine AF ?_
    refine BW ?_
    refine DM ?_; rintro _ _ ⟨rfl, rfl⟩
    refine AE ?_
    refine A0 ?_
    refine AA ?_
    refine AB ?_
    refine A9 ?_
    refine AD ?_
    refine AE ?_
    refine AW 1 ⟨by omega, by rw [hy, hst]⟩ (by omega) covZ ?_
    rw [take_snoc' hlt, hx, marksOf_snoc]
    exact selZ
   ·have hst := sideChk_nine (n := n) hlt hin.1 hin.2 (hpa h1) h2
    have hcs : capacitySpec n l side = (0, 9) := by
     unfold capacitySpec
     rw [if_neg (by rw [hc]; simp), hy, hst, if_pos (by simp)]
    have g3 := g2 h1
    rw [hx] at g1 hin h2
    refine AC ?_
    refine AC ?_
    refine AA ?_
    refine AB ?_
    refine AB ?_
    refine AU ?_
    refine BB ?_
    refine AE ?_
    refine AO rfl ?_
    refine AL ?_
    refine AC ?_
    refine AP ?_
    refine AC ?_
    refine AC ?_
    refine AA ?_
    refine AB ?_
    refine AB ?_
    refine BQ ?_
    refine AF ?_
    refine AY ?_
    refine AB ?_
    refine AB ?_
    refine AB ?_
    refine BQ ?_
    refine AF ?_
    refine AB ?_
    refine BF ?_
    refine AJ ?_
    refine AE ?_
    refine AN rfl ?_
    refine AL ?_
    refine AC ?_
    refine AC ?_
    refine AZ (.q 0 (.q 1 (.q 2 (.q 3 (.q 4 (.q 5 (.q 6 (.q 7 (.q 8 (.q 9 (.q 10 (.q 11 (.q 12 (.q 13 .nil)))))))))))))) [] rfl (by kernel_rfl) selZ ?_
    refine AK ?_
    refine DK ?_
    refine AK ?_
    refine AK ?_
    refine AK ?_
    refine B7 ?_
    refine AQ ?_
    refine AK ?_
    refine AK ?_
    refine BO ?_
    refine B7 ?_
    refine AQ ?_
    refine E8 ?_
    refine BR ?_
    refine A4 ?_
    refine AO rfl ?_
    refine AC ?_
    refine AA ?_
    refine AD ?_
    refine AD ?_
    refine AE ?_
    exact AI (res2 rfl rfl rfl) rsubZ selZ ⟨rfl, by rw [hcs]⟩
   ·have hst := sideChk_step (n := n) hlt hin.1 hin.2 (fun p hp => by rw [hpa h1] at hp; simp at hp; omega)
    have g3 := g2 h1
    rw [hx] at g1 hin h2
    refine AC ?_
    refine AC ?_
    refine AA ?_
    refine AB ?_
    refine AB ?_
    refine AU ?_
    refine BB ?_
    refine AE ?_
    refine AO rfl ?_
    refine AL ?_
    refine AC ?_
    refine AP ?_
    refine AC ?_
    refine AC ?_
    refine AA ?_
    refine AB ?_
    refine AB ?_
    refine BQ ?_
    refine AF ?_
    refine AY ?_
    refine AB ?_
    refine AB ?_
    refine AB ?_
    refine BQ ?_
    refine AF ?_
    refine AB ?_
    refine BF ?_
    refine AJ ?_
    refine AE ?_
    refine AN rfl ?_
    refine AL ?_
    refine AC ?_
    refine AC ?_
    refine AZ (.q 0 (.q 1 (.q 2 (.q 3 (.q 4 (.q 5 (.q 6 (.q 7 (.q 8 (.q 9 (.q 10 (.q 11 (.q 12 (.q 13 .nil)))))))))))))) [] rfl (by kernel_rfl) selZ ?_
    refine AK ?_
    refine DK ?_
    refine AK ?_
    refine AK ?_
    refine AK ?_
    refine B7 ?_
    refine AQ ?_
    refine AK ?_
    refine AK ?_
    refine BO ?_
    refine B7 ?_
    refine AQ ?_
    refine D6 ?_
    refine BR ?_
    refine A4 ?_
    refine AN rfl ?_
    refine AL ?_
    refine AA ?_
    refine AB ?_
    refine AB ?_
    refine AB ?_
    refine BQ ?_
    refine AF ?_
    refine BW ?_
    refine DM ?_; rintro _ _ ⟨rfl, rfl⟩
    refine AE ?_
    refine A0 ?_
    refine AA ?_
    refine AB ?_
    refine A9 ?_
    refine AD ?_
    refine AE ?_
    refine AW (k + 1) ⟨by omega, by rw [hy, hst]⟩ (by omega) covZ ?_
    rw [take_snoc' hlt, hx, marksOf_snoc]
    exact selZ
  ·have hst := sideChk_two (n := n) (prevAt side k) hlt (by omega)
   have hcs : capacitySpec n l side = (0, 2) := by
    unfold capacitySpec
    rw [if_neg (by rw [hc]; simp), hy, hst, if_pos (by simp)]
   rcases hin with hin | hin
   all_goals
    repeat' (first
     | (refine AB ?_)
     | (refine AD ?_)
     | (refine AF ?_)
     | (refine BQ ?_)
     | (refine AM ?_)
     | (refine AJ ?_)
     | (refine AU ?_)
     | (refine BB ?_)
     | (refine AY ?_)
     | (refine CD ?_)
     | (refine AC ?_)
     | (refine AA ?_)
     | (refine AE ?_)
     | (refine AP ?_)
     | (refine AL ?_)
     | (refine AO rfl ?_)
     | (refine AG rfl rfl rfl ?_)
     | fail)
    exact AI (res2 rfl rfl rfl) rsubZ selZ ⟨rfl, by rw [hcs]⟩
 obtain rfl : k = side.length := by omega
 rw [List.take_length] at hml
 rw [List.take_length]
 have hchk0 : sideChk n none side = 0 := by rw [hy, List.drop_length]; rfl
 refine AC ?_
 refine AC ?_
 refine AA ?_
 refine AB ?_
 refine AB ?_
 refine AU ?_
 refine AY ?_
 refine AE ?_
 refine AN rfl ?_
 refine A7 rfl ?_
 refine AC ?_
 refine AA ?_
 refine AD ?_
 refine AE ?_
 refine AC ?_
 refine AC ?_
 refine AA ?_
 refine AD ?_
 refine AE ?_
 refine AP ?_
 refine BC [0, 1, 2, 9] ((0, 0) : Nat × Int) (fun x => x.1 ≤ l.length ∧ x.2 = capOf (fun j => (marksOf n side).getD j false) (l.take x.1)) (fun x => [(11, int x.2), (12, int x.1)]) (fun _ => [sng b (.cells (bools (marksOf n side)) 4 (0, 0))]) (fun x => l.length - x.1) pickZ ⟨by simp, by simp [capOf]⟩ covZ selZ ?_
 rintro ⟨k, y⟩ ⟨hk, hy⟩
 simp only at hk hy
 by_cases hlt : k < l.length
 ·have hx := List.getElem?_eq_getElem hlt
  obtain ⟨b', o, rfl, hA, h0, h1, h2⟩ := arcRow hr hx
  have hbd := capOf_bd n (fun j => (marksOf n side).getD j false) (l.take k) (fun a ha => hok a (List.mem_of_mem_take ha))
  have hlen : (l.take k).length = k := by simp; omega
  rw [← hy, hlen] at hbd
  obtain ⟨g1, g2, g3, g4, g5, g6, g7⟩ := okArc_iff.1 (hok l[k] (List.getElem_mem hlt))
  have hstep : capOf (fun j => (marksOf n side).getD j false) (l.take (k + 1)) = y + (if (marksOf n side).getD l[k].f.toNat false = true ∧ (marksOf n side).getD l[k].t.toNat false = false then l[k].c else 0) := by
   rw [take_snoc' hlt, capOf_snoc, hy]
  obtain ⟨f, hf⟩ := Int.eq_ofNat_of_zero_le g1
  obtain ⟨t, ht⟩ := Int.eq_ofNat_of_zero_le g3
  rw [hf, ht] at hstep
  rw [hf] at g2 h0
  rw [ht] at g4 h1
  have e1 : (marksOf n side)[f]? = some ((marksOf n side).getD f false) := by
   have : f < (marksOf n side).length := by omega
   simp [this]
  have e2 : (marksOf n side)[t]? = some ((marksOf n side).getD t false) := by
   have : t < (marksOf n side).length := by omega
   simp [this]
  simp only [Int.toNat_natCast] at hstep
  cases c1 : (marksOf n side).getD f false with
  | false =>
   rw [c1] at e1
   rw [if_neg (by rw [c1]; simp), Int.add_zero] at hstep
   refine AC ?_
   refine AC ?_
   refine AA ?_
   refine AB ?_
   refine AB ?_
   refine AU ?_
   refine BB ?_
   refine AE ?_
   refine AO rfl ?_
   refine AL ?_
   refine AC ?_
   refine AP ?_
   refine AC ?_
   refine AA ?_
   refine AB ?_
   refine AB ?_
   refine AB ?_
   refine A8 ?_
   refine CO ?_
   refine AF ?_
   refine BW ?_
   refine AF ?_
   refine AB ?_
   refine AG rfl rfl rfl ?_
   refine AG rfl rfl rfl ?_
   refine AG rfl rfl rfl ?_
   refine AG rfl rfl rfl ?_
   refine AG rfl rfl rfl ?_
   refine AG rfl rfl rfl ?_
   refine AG rfl rfl rfl ?_
   refine AG rfl rfl rfl ?_
   refine AG rfl rfl rfl ?_
   refine AJ ?_
   refine AE ?_
   refine AN rfl ?_
   refine AL ?_
   refine A0 ?_
   refine AA ?_
   refine AB ?_
   refine A9 ?_
   refine AD ?_
   refine AE ?_
   exact AW (k + 1, _) ⟨by simp only; omega, hstep.symm⟩ (by simp only; omega) covZ selZ
  | true =>
   rw [c1] at e1
   cases c2 : (marksOf n side).getD t false with
   | false =>
    rw [c2] at e2
    rw [if_pos ⟨c1, c2⟩] at hstep
    refine AC ?_
    refine AC ?_
    refine AA ?_
    refine AB ?_
    refine AB ?_
    refine AU ?_
    refine BB ?_
    refine AE ?_
    refine AO rfl ?_
    refine AL ?_
    refine AC ?_
    refine AP ?_
    refine AC ?_
    refine AA ?_
    refine AB ?_
    refine AB ?_
    refine AB ?_
    refine A8 ?_
    refine CO ?_
    refine AF ?_
    refine BW ?_
    refine AF ?_
    refine AB ?_
    refine AB ?_
    refine AB ?_
    refine AB ?_
    refine A8 ?_
    refine CM ?_
    refine AF ?_
    refine BW ?_
    refine AF ?_
    refine BE ?_
    refine AM ?_
    refine AE ?_
    refine AO rfl ?_
    refine AA ?_
    refine AB ?_
    refine AB ?_
    refine AB ?_
    refine A8 ?_
    refine CM ?_
    refine AF ?_
    refine CH ?_
    refine AD ?_
    refine AE ?_
    refine A0 ?_
    refine AA ?_
    refine AB ?_
    refine A9 ?_
    refine AD ?_
    refine AE ?_
    exact AW (k + 1, _) ⟨by simp only; omega, hstep.symm⟩ (by simp only; omega) covZ selZ
   | true =>
    rw [c2] at e2
    rw [if_neg (by rw [c2]; simp), Int.add_zero] at hstep
    refine AC ?_
    refine AC ?_
    refine AA ?_
    refine AB ?_
    refine AB ?_
    refine AU ?_
    refine BB ?_
    refine AE ?_
    refine AO rfl ?_
    refine AL ?_
    refine AC ?_
    refine AP ?_
    refine AC ?_
    refine AA ?_
    refine AB ?_
    refine AB ?_
    refine AB ?_
    refine A8 ?_
    refine CO ?_
    refine AF ?_
    refine BW ?_
    refine AF ?_
    refine AB ?_
    refine AB ?_
    refine AB ?_
    refine AB ?_
    refine A8 ?_
    refine CM ?_
    refine AF ?_
    refine BW ?_
    refine AF ?_
    refine BE ?_
    refine AM ?_
    refine AE ?_
    refine AN rfl ?_
    refine AL ?_
    refine A0 ?_
    refine AA ?_
    refine AB ?_
    refine A9 ?_
    refine AD ?_
    refine AE ?_
    exact AW (k + 1, _) ⟨by simp only; omega, hstep.symm⟩ (by simp only; omega) covZ selZ
 ·refine AC ?_
  refine AC ?_
  refine AA ?_
  refine AB ?_
  refine AB ?_
  refine AU ?_
  refine AY ?_
  refine AE ?_
  refine AN rfl ?_
  refine A7 rfl ?_
  refine AC ?_
  refine AA ?_
  refine AB ?_
  refine AD ?_
  refine AD ?_
  refine AE ?_
  refine AI (res2 rfl rfl rfl) rsubZ selZ ⟨rfl, ?_⟩
  rw [hy, List.take_of_length_le (by omega)]
  unfold capacitySpec
  rw [if_neg (by rw [hc]; simp), if_neg (by rw [hchk0]; simp), capFun_eq n side l hok]
end Go.Proofs.YthdoegkjifgegaaGreat
/- Value, of the program and of the reference. -/
namespace Go.Proofs.YthdoegkjifgegaaGreat
open Go.Eng Go.Flow
set_option maxRecDepth 100000
set_option maxHeartbeats 4000000

theorem balanced_of {n : Nat} {l : List Arc} {fl : List Int} {s t : Int} (h : ∀ v : Nat, v < n → (v : Int) = s ∨ (v : Int) = t ∨ fval v l fl = 0) : balanced n l fl s t = true := by
 unfold balanced
 rw [List.all_eq_true]
 intro v hv
 rw [decide_eq_true_eq]
 exact h v (by simpa using hv)
theorem balanced_not {n : Nat} {l : List Arc} {fl : List Int} {s t : Int} {v : Nat} (hv : v < n) (h1 : (v : Int) ≠ s) (h2 : (v : Int) ≠ t) (h3 : fval v l fl ≠ 0) : balanced n l fl s t = false := by
 cases h : balanced n l fl s t with
 | false => rfl
 | true =>
  unfold balanced at h
  rw [List.all_eq_true] at h
  have := h v (by simpa using hv)
  rw [decide_eq_true_eq] at this
  exact absurd this (by simp [h1, h2, h3])
theorem inCap_take_false {l : List Arc} {fl : List Int} {k : Nat} (hk : k < l.length) (hfl : fl.length = l.length) (h : ¬ (0 ≤ fl[k] ∧ fl[k] ≤ l[k].c)) : inCap l fl = false := by
 cases hc : inCap l fl with
 | false => rfl
 | true => exact absurd (inCap_get l fl hc k l[k] fl[k] (List.getElem?_eq_getElem hk) (List.getElem?_eq_getElem (by omega))) h

theorem flowValue_spec (ρ σ : PH) (v u : Value) (n s t : Int) (l : List Arc) (fl : List Int) (hv : ArcsAt ρ v l) (hu : IntsAt σ u fl) (hl : l.length ≤ 1000000) :
    Ans Tryz.prog (fv 44) [int n, v, u, int s, int t] [ρ, σ] (fun r => r = .tuple #[int (valueSpec n l fl s t).1, int (valueSpec n l fl s t).2]) := by
  obtain ⟨q, c, rfl, hr⟩ := hv.val encA_len
  obtain ⟨q2, c2, rfl, hr2⟩ := hu.val Eng.encI_len
  refine spec_in (cap := []) Tryz.func44 rfl rfl Tryz.ntmps44 rfl envZ (fun N β => ?_)
  refine AC ?_
  refine AA ?_
  refine AD ?_
  refine AD ?_
  refine AE ?_
  refine AC ?_
  refine AC ?_
  refine AA ?_
  refine AB ?_
  refine AB ?_
  focus ((refine A6 (check_spec ρ _ n l hv hl) rfl rfl rdZ rfl rfl ?_; rintro _ rfl))
  refine AD ?_
  refine AE ?_
  refine AC ?_
  refine AA ?_
  refine AB ?_
  by_cases hc : chk n l = 0
  rotate_left
  · refine CK ?_
    refine AE ?_
    refine AO rfl ?_
    refine AC ?_
    refine AA ?_
    refine AB ?_
    refine AD ?_
    refine AD ?_
    refine AE ?_
    refine AI (res2 rfl rfl rfl) rsubZ selZ ⟨rfl, ?_⟩
    unfold valueSpec; rw [if_pos hc]
  obtain ⟨a1, a2, a3, hok⟩ := chk_ok hc
  obtain ⟨n, rfl⟩ := Int.eq_ofNat_of_zero_le a1
  by_cases he : okEnds n s t = true
  rotate_left
  · have he' : okEnds n s t = false := by simpa using he
    refine BI ?_
    refine AE ?_
    refine AN rfl ?_
    refine AL ?_
    refine AC ?_
    refine AC ?_
    refine AA ?_
    refine AB ?_
    refine AB ?_
    refine AB ?_
    focus ((refine A6 (ends_spec n s t) rfl rfl rdZ rfl rfl ?_; rintro _ rfl; rw [he', if_neg (by simp)]))
    refine AD ?_
    refine AE ?_
    refine AC ?_
    refine AA ?_
    refine AB ?_
    refine CK ?_
    refine AE ?_
    refine AO rfl ?_
    refine AC ?_
    refine AA ?_
    refine AB ?_
    refine AD ?_
    refine AD ?_
    refine AE ?_
    refine AI (res2 rfl rfl rfl) rsubZ selZ ⟨rfl, ?_⟩
    unfold valueSpec; rw [if_neg (by rw [hc]; simp), if_pos he']
  obtain ⟨s1, s2, t1, t2, st⟩ := okEnds_iff.1 he
  refine BI ?_
  refine AE ?_
  refine AN rfl ?_
  refine AL ?_
  refine AC ?_
  refine AC ?_
  refine AA ?_
  refine AB ?_
  refine AB ?_
  refine AB ?_
  focus ((refine A6 (ends_spec n s t) rfl rfl rdZ rfl rfl ?_; rintro _ rfl; rw [he, if_pos rfl]))
  refine AD ?_
  refine AE ?_
  refine AC ?_
  refine AA ?_
  refine AB ?_
  refine BI ?_
  refine AE ?_
  refine AN rfl ?_
  refine AL ?_
  refine AC ?_
  refine AC ?_
  refine AA ?_
  refine AB ?_
  refine AU ?_
  refine AB ?_
  refine AU ?_
  by_cases hfl : fl.length = l.length
  rotate_left
  · refine CK ?_
    refine AE ?_
    refine AO rfl ?_
    refine AC ?_
    refine AA ?_
    refine AD ?_
    refine AD ?_
    refine AE ?_
    refine AI (res2 rfl rfl rfl) rsubZ selZ ⟨rfl, ?_⟩
    unfold valueSpec; rw [if_neg (by rw [hc]; simp), if_neg (by rw [he]; simp), if_pos hfl]
  refine BI ?_
  refine AE ?_
  refine AN rfl ?_
  refine AL ?_
  refine AC ?_
  refine AA ?_
  refine AB ?_
  refine DT ?_; rintro _ _ ⟨b, rfl, rfl⟩
  refine AD ?_
  refine AE ?_
  refine AC ?_
  refine AC ?_
  refine AA ?_
  refine AB ?_
  refine AU ?_
  refine AB ?_
  refine AE ?_
  refine AP ?_
  rw [show List.replicate n (0 : Int) = negL (netL n [] []) from by rw [netL_nil]; simp [negL]]
  refine BC [0, 1, 2, 3, 4, 14, 39, 40] (0 : Nat) (fun k => k ≤ l.length ∧ inCap (l.take k) (fl.take k) = true) (fun k => [(41, int k)]) (fun k => [sng b (.cells (ints (negL (netL n (l.take k) (fl.take k)))) 3 (0, 0))]) (fun k => l.length - k) pickZ ⟨by omega, by simp [inCap]⟩ covZ selZ ?_
  rintro k ⟨hk, hy⟩
  by_cases hlt : k < l.length
  · have hltf : k < fl.length := by omega
    obtain ⟨b', o, rfl, hA, h0, h1, h2⟩ := arcRow hr (List.getElem?_eq_getElem hlt)
    obtain ⟨b2, o2, rfl, f0⟩ := hr2.int (List.getElem?_eq_getElem hltf)
    obtain ⟨g1, g2, g3, g4, g5, g6, g7⟩ := okArc_iff.1 (hok l[k] (List.getElem_mem hlt))
    by_cases hin : 0 ≤ fl[k] ∧ fl[k] ≤ l[k].c
    rotate_left
    · have hvs : valueSpec n l fl s t = (0, 2) := by
        unfold valueSpec
        rw [if_neg (by rw [hc]; simp), if_neg (by rw [he]; simp), if_neg (by simpa using hfl), if_pos (inCap_take_false hlt hfl hin)]
      rcases (show fl[k] < 0 ∨ (0 ≤ fl[k] ∧ l[k].c < fl[k]) by omega) with hin' | hin'
      all_goals
        refine AC ?_
        refine AA ?_
        refine BB ?_
        refine AE ?_
        refine AC ?_
        refine AO rfl ?_
        refine AL ?_
        refine AC ?_
        refine AP ?_
        refine AC ?_
        refine AA ?_
        refine AB ?_
        refine A8 ?_
        refine AT ?_
        refine A5 ?_; rintro _ _ ⟨b, rfl, rfl⟩
        refine AD ?_
        refine A3 ?_; rintro _ _ ⟨rfl, rfl⟩
        refine AE ?_
        refine AC ?_
        refine AC ?_
        refine AZ (.q 0 (.q 1 (.q 2 (.q 3 (.q 4 (.q 5 (.q 6 (.q 7 (.q 8 (.q 9 (.q 10 (.q 11 (.q 12 (.q 13 .nil)))))))))))))) [] rfl (by kernel_rfl) selZ ?_
        repeat' (first
          | (refine AK ?_)
          | (refine AQ ?_)
          | (refine AX ?_)
          | (refine B7 ?_)
          | (refine BR ?_)
          | (refine BT ?_)
          | (refine DS ?_)
          | (refine C4 ?_)
          | (refine DK ?_)
          | (refine AV rfl rfl rfl rfl rfl ?_)
          | (refine A4 ?_)
          | fail)
        refine AO rfl ?_
        refine AC ?_
        refine AA ?_
        refine AD ?_
        refine AD ?_
        refine AE ?_
        exact AI (res2 rfl rfl rfl) rsubZ selZ ⟨rfl, by rw [hvs]⟩
    obtain ⟨f, hf⟩ := Int.eq_ofNat_of_zero_le g1
    obtain ⟨t', ht⟩ := Int.eq_ofNat_of_zero_le g3
    rw [hf, ht] at hA g5
    rw [hf] at g2
    rw [ht] at g4
    have hst : (l.take k).length = (fl.take k).length := by simp; omega
    have hlen : (fl.take k).length = k := by simp; omega
    have hnet := netL_snoc (n := n) (l := l.take k) (fl := fl.take k) (a := l[k]) (x := fl[k]) hst hf ht (by omega)
    rw [← take_snoc' hlt, ← take_snoc' hltf] at hnet
    have hsm : small (fl.take k) := inCap_small _ _ hst hy (fun a ha => hok a (List.mem_of_mem_take ha))
    have b1 := fval_bd f (l.take k) (fl.take k) hsm
    have b2' := fval_bd t' (l.take k) (fl.take k) hsm
    rw [hlen] at b1 b2'
    generalize hE : negL (netL n (l.take k) (fl.take k)) = E
    have hEl : E.length = n := by rw [← hE, negL_len, netL_len]
    have e1 : E.getD f 0 = -(fval f (l.take k) (fl.take k)) := by rw [← hE, negL_get (by rw [netL_len]; omega), netL_get (by omega)]
    have e2 : E.getD t' 0 = -(fval t' (l.take k) (fl.take k)) := by rw [← hE, negL_get (by rw [netL_len]; omega), netL_get (by omega)]
    have e3 : (E.set f (E.getD f 0 - fl[k])).getD t' 0 = E.getD t' 0 := by
      rw [List.getD_eq_getElem?_getD, List.getElem?_set_ne (by omega), ← List.getD_eq_getElem?_getD]
    have e4 : (E.set f (E.getD f 0 - fl[k])).length = n := by simp [hEl]
    refine AC ?_
    refine AA ?_
    refine BB ?_
    refine AE ?_
    refine AC ?_
    refine AO rfl ?_
    refine AL ?_
    refine AC ?_
    refine AP ?_
    refine AC ?_
    refine AA ?_
    refine AB ?_
    refine A8 ?_
    refine AT ?_
    refine A5 ?_; rintro _ _ ⟨b, rfl, rfl⟩
    refine AD ?_
    refine A3 ?_; rintro _ _ ⟨rfl, rfl⟩
    refine AE ?_
    refine AC ?_
    refine AC ?_
    refine AZ (.q 0 (.q 1 (.q 2 (.q 3 (.q 4 (.q 5 (.q 6 (.q 7 (.q 8 (.q 9 (.q 10 (.q 11 (.q 12 (.q 13 .nil)))))))))))))) [] rfl (by kernel_rfl) selZ ?_
    refine AK ?_
    refine AK ?_
    refine B7 ?_
    refine AQ ?_
    refine C4 ?_
    refine AK ?_
    refine AK ?_
    refine AK ?_
    refine B7 ?_
    refine AQ ?_
    refine AX ?_
    refine AQ ?_
    refine DA ?_
    refine BT ?_
    refine A4 ?_
    refine AN rfl ?_
    refine AL ?_
    refine AC ?_
    refine AZ (.q 0 (.q 1 (.q 2 (.q 3 (.q 4 (.q 5 (.q 6 (.q 7 (.q 8 (.q 9 (.q 10 (.l 11 .b .nil)))))))))))) [] rfl (by kernel_rfl) selZ ?_
    refine AK ?_
    refine AX ?_
    refine AQ ?_
    refine CB ?_
    refine AQ ?_
    refine AK ?_
    refine AK ?_
    refine B7 ?_
    refine AQ ?_
    refine D4 ?_
    refine CB ?_
    refine DC ?_; rintro _ _ ⟨rfl, rfl⟩
    refine A4 ?_
    skip
    refine AZ (.q 0 (.q 1 (.q 2 (.q 3 (.q 4 (.q 5 (.q 6 (.q 7 (.q 8 (.q 9 (.q 10 (.l 11 .b .nil)))))))))))) [] rfl (by kernel_rfl) selZ ?_
    refine AK ?_
    refine AX ?_
    refine AQ ?_
    refine CB ?_
    refine AQ ?_
    refine AK ?_
    refine AK ?_
    refine B7 ?_
    refine AQ ?_
    refine CS ?_
    refine CB ?_
    refine DC ?_; rintro _ _ ⟨rfl, rfl⟩
    refine A4 ?_
    refine A0 ?_
    refine AA ?_
    refine A9 ?_
    refine AB ?_
    refine AE ?_
    refine AW (k + 1) ⟨by omega, ?_⟩ (by omega) covZ ?_
    · rw [take_snoc' hlt, take_snoc' hltf, inCap_snoc _ _ _ _ hst, hy]
      simp; omega
    · rw [hnet, negL_set, negL_set, hE]
      rw [show -(fval f (l.take k) (fl.take k) + fl[k]) = E.getD f 0 - fl[k] from by omega]
      rw [show -(fval t' (l.take k) (fl.take k) - fl[k]) = (E.set f (E.getD f 0 - fl[k])).getD t' 0 + fl[k] from by rw [e3]; omega]
      exact selZ
  obtain rfl : k = l.length := by omega
  rw [List.take_length, List.take_of_length_le (by omega)] at hy
  rw [List.take_length, List.take_of_length_le (by omega)]
  have hsm : small fl := inCap_small _ _ hfl.symm hy hok
  generalize hE : negL (netL n l fl) = E
  have hEl : E.length = n := by rw [← hE, negL_len, netL_len]
  refine AC ?_
  refine AA ?_
  refine AY ?_
  refine AE ?_
  refine AC ?_
  refine AN rfl ?_
  refine A7 rfl ?_
  refine AC ?_
  refine AC ?_
  refine AA ?_
  refine AB ?_
  refine AU ?_
  refine AB ?_
  refine AE ?_
  refine AP ?_
  refine BC [1, 2, 3, 4, 83, 84] (0 : Nat) (fun k => k ≤ n ∧ ∀ v : Nat, v < k → (v : Int) = s ∨ (v : Int) = t ∨ fval v l fl = 0) (fun k => [(85, int k)]) (fun _ => [sng b (.cells (ints E) 3 (0, 0))]) (fun k => n - k) pickZ ⟨by omega, by simp⟩ covZ selZ ?_
  rintro k ⟨hk, hz⟩
  by_cases hlt : k < n
  · have e1 : E.getD k 0 = -(fval k l fl) := by rw [← hE, negL_get (by rw [netL_len]; omega), netL_get (by omega)]
    repeat' (first
      | (refine AB ?_)
      | (refine AD ?_)
      | (refine AF ?_)
      | (refine BW ?_)
      | (refine AM ?_)
      | (refine AJ ?_)
      | (refine A9 ?_)
      | (refine BB ?_)
      | (refine AC ?_)
      | (refine AA ?_)
      | (refine AE ?_)
      | (refine AP ?_)
      | (refine A0 ?_)
      | (refine AL ?_)
      | (refine AO rfl ?_)
      | (refine AN rfl ?_)
      | (refine AG rfl rfl rfl ?_)
      | (focus ((refine BZ rfl rfl (cmp_ne _ _) rfl rfl (fun h => ?_) (fun h => ?_))))
      | fail)
    all_goals first
      | (refine AW (k + 1) ⟨by omega, fun v hv => ?_⟩ (by omega) covZ selZ
         rcases Nat.lt_or_ge v k with hv' | hv'
         · exact hz v hv'
         · obtain rfl : v = k := by omega
           omega)
      | (refine AI (res2 rfl rfl rfl) rsubZ selZ ⟨rfl, ?_⟩
         have hb := balanced_not (l := l) (fl := fl) (s := s) (t := t) hlt (by omega) (by omega) (by omega)
         unfold valueSpec
         rw [if_neg (by rw [hc]; simp), if_neg (by rw [he]; simp), if_neg (by simpa using hfl), if_neg (by rw [hy]; simp), Int.toNat_natCast, if_pos hb])
  · refine AC ?_
    refine AA ?_
    refine AY ?_
    refine AE ?_
    refine AC ?_
    refine AN rfl ?_
    refine A7 rfl ?_
    refine AC ?_
    refine AA ?_
    refine AB ?_
    refine AB ?_
    refine AB ?_
    focus ((refine A6 (value_spec ρ σ _ _ s l fl hv hu a3 hfl hsm) rfl rfl rdZ rfl rfl ?_; rintro _ rfl))
    refine AD ?_
    refine AD ?_
    refine AE ?_
    refine AI (res2 rfl rfl rfl) rsubZ selZ ⟨rfl, ?_⟩
    have hb := balanced_of (n := n) (l := l) (fl := fl) (s := s) (t := t) (fun v hv => hz v (by omega))
    unfold valueSpec
    rw [if_neg (by rw [hc]; simp), if_neg (by rw [he]; simp), if_neg (by simpa using hfl), if_neg (by rw [hy]; simp), Int.toNat_natCast, if_neg (by rw [hb]; simp)]

theorem refValue_spec (ρ σ : PH) (v u : Value) (n s t : Int) (l : List Arc) (fl : List Int) (hv : ArcsAt ρ v l) (hu : IntsAt σ u fl) (hl : l.length ≤ 1000000) :
    Ans Tryz.prog (fv 46) [int n, v, u, int s, int t] [ρ, σ] (fun r => r = .tuple #[int (valueSpec n l fl s t).1, int (valueSpec n l fl s t).2]) := by
  obtain ⟨q, c, rfl, hr⟩ := hv.val encA_len
  obtain ⟨q2, c2, rfl, hr2⟩ := hu.val Eng.encI_len
  refine spec_in (cap := []) Tryz.func46 rfl rfl Tryz.ntmps46 rfl envZ (fun N β => ?_)
  refine AC ?_
  refine AA ?_
  refine AD ?_
  refine AD ?_
  refine AE ?_
  refine AC ?_
  refine AC ?_
  refine AA ?_
  refine AB ?_
  refine AB ?_
  refine AB ?_
  refine AB ?_
  focus ((refine A6 (refEnds_spec ρ _ n s t l hv hl) rfl rfl rdZ rfl rfl ?_; rintro _ rfl))
  refine AD ?_
  refine AE ?_
  refine AC ?_
  refine AA ?_
  refine AB ?_
  by_cases hc : chk n l = 0
  rotate_left
  · rw [if_pos hc]
    refine CK ?_
    refine AE ?_
    refine AO rfl ?_
    refine AC ?_
    refine AA ?_
    refine AB ?_
    refine AD ?_
    refine AD ?_
    refine AE ?_
    refine AI (res2 rfl rfl rfl) rsubZ selZ ⟨rfl, ?_⟩
    unfold valueSpec; rw [if_pos hc]
  rw [if_neg (by rw [hc]; simp)]
  obtain ⟨a1, a2, a3, hok⟩ := chk_ok hc
  obtain ⟨n, rfl⟩ := Int.eq_ofNat_of_zero_le a1
  by_cases he : okEnds n s t = true
  rotate_left
  · have he' : okEnds n s t = false := by simpa using he
    rw [if_neg he]
    refine CK ?_
    refine AE ?_
    refine AO rfl ?_
    refine AC ?_
    refine AA ?_
    refine AB ?_
    refine AD ?_
    refine AD ?_
    refine AE ?_
    refine AI (res2 rfl rfl rfl) rsubZ selZ ⟨rfl, ?_⟩
    unfold valueSpec; rw [if_neg (by rw [hc]; simp), if_pos he']
  rw [if_pos he]
  obtain ⟨s1, s2, t1, t2, st⟩ := okEnds_iff.1 he
  by_cases hfl : fl.length = l.length
  rotate_left
  · refine BI ?_
    refine AE ?_
    refine AN rfl ?_
    refine AL ?_
    refine AC ?_
    refine AC ?_
    refine AA ?_
    refine AB ?_
    refine AU ?_
    refine AB ?_
    refine AU ?_
    refine CK ?_
    refine AE ?_
    refine AO rfl ?_
    refine AC ?_
    refine AA ?_
    refine AD ?_
    refine AD ?_
    refine AE ?_
    refine AI (res2 rfl rfl rfl) rsubZ selZ ⟨rfl, ?_⟩
    unfold valueSpec; rw [if_neg (by rw [hc]; simp), if_neg (by rw [he]; simp), if_pos hfl]
  refine BI ?_
  refine AE ?_
  refine AN rfl ?_
  refine AL ?_
  refine AC ?_
  refine AC ?_
  refine AA ?_
  refine AB ?_
  refine AU ?_
  refine AB ?_
  refine AU ?_
  refine BI ?_
  refine AE ?_
  refine AN rfl ?_
  refine AL ?_
  refine AC ?_
  refine AC ?_
  refine AA ?_
  refine AD ?_
  refine AE ?_
  refine AP ?_
  refine BC [0, 1, 2, 3, 4] (0 : Nat) (fun k => k ≤ l.length ∧ inCap (l.take k) (fl.take k) = true) (fun k => [(13, int k)]) (fun k => []) (fun k => l.length - k) pickZ ⟨by omega, by simp [inCap]⟩ covZ selZ ?_
  rintro k ⟨hk, hy⟩
  by_cases hlt : k < l.length
  · have hltf : k < fl.length := by omega
    obtain ⟨b', o, rfl, hA, h0, h1, h2⟩ := arcRow hr (List.getElem?_eq_getElem hlt)
    obtain ⟨b2, o2, rfl, f0⟩ := hr2.int (List.getElem?_eq_getElem hltf)
    have hst : (l.take k).length = (fl.take k).length := by simp; omega
    by_cases hin : 0 ≤ fl[k] ∧ fl[k] ≤ l[k].c
    rotate_left
    · have hvs : valueSpec n l fl s t = (0, 2) := by
        unfold valueSpec
        rw [if_neg (by rw [hc]; simp), if_neg (by rw [he]; simp), if_neg (by simpa using hfl), if_pos (inCap_take_false hlt hfl hin)]
      rcases (show fl[k] < 0 ∨ (0 ≤ fl[k] ∧ l[k].c < fl[k]) by omega) with hin' | hin'
      all_goals
        refine AC ?_
        refine AC ?_
        refine AA ?_
        refine AB ?_
        refine AB ?_
        refine AU ?_
        refine BB ?_
        refine AE ?_
        refine AO rfl ?_
        refine AL ?_
        refine AC ?_
        refine AP ?_
        refine AC ?_
        refine AZ (.q 0 (.q 1 (.q 2 (.q 3 (.q 4 (.q 5 (.q 6 (.q 7 (.q 8 (.q 9 (.q 10 (.q 11 (.q 12 (.q 13 (.q 14 (.q 15 (.q 16 .nil))))))))))))))))) [] rfl (by kernel_rfl) selZ ?_
        repeat' (first
          | (refine AK ?_)
          | (refine AQ ?_)
          | (refine BX ?_)
          | (refine B7 ?_)
          | (refine BD ?_)
          | (refine BR ?_)
          | (refine BT ?_)
          | (refine DS ?_)
          | (refine C4 ?_)
          | (refine DK ?_)
          | (refine AV rfl rfl rfl rfl rfl ?_)
          | (refine A4 ?_)
          | fail)
        refine AO rfl ?_
        refine AC ?_
        refine AA ?_
        refine AD ?_
        refine AD ?_
        refine AE ?_
        exact AI (res2 rfl rfl rfl) rsubZ selZ ⟨rfl, by rw [hvs]⟩
    refine AC ?_
    refine AC ?_
    refine AA ?_
    refine AB ?_
    refine AB ?_
    refine AU ?_
    refine BB ?_
    refine AE ?_
    refine AO rfl ?_
    refine AL ?_
    refine AC ?_
    refine AP ?_
    refine AC ?_
    refine AZ (.q 0 (.q 1 (.q 2 (.q 3 (.q 4 (.q 5 (.q 6 (.q 7 (.q 8 (.q 9 (.q 10 (.q 11 (.q 12 (.q 13 (.q 14 (.q 15 (.q 16 .nil))))))))))))))))) [] rfl (by kernel_rfl) selZ ?_
    refine AK ?_
    refine AK ?_
    refine B7 ?_
    refine AQ ?_
    refine C4 ?_
    refine AK ?_
    refine AK ?_
    refine AK ?_
    refine B7 ?_
    refine AQ ?_
    refine AK ?_
    refine AK ?_
    refine BD ?_
    refine BX ?_
    refine AQ ?_
    refine DA ?_
    refine BT ?_
    refine A4 ?_
    refine AN rfl ?_
    refine AL ?_
    refine A0 ?_
    refine AA ?_
    refine AB ?_
    refine A9 ?_
    refine AD ?_
    refine AE ?_
    refine AW (k + 1) ⟨by omega, ?_⟩ (by omega) covZ selZ
    rw [take_snoc' hlt, take_snoc' hltf, inCap_snoc _ _ _ _ hst, hy]
    simp; omega
  obtain rfl : k = l.length := by omega
  rw [List.take_length, List.take_of_length_le (by omega)] at hy
  have hsm : small fl := inCap_small _ _ hfl.symm hy hok
  refine AC ?_
  refine AC ?_
  refine AA ?_
  refine AB ?_
  refine AB ?_
  refine AU ?_
  refine AY ?_
  refine AE ?_
  refine AN rfl ?_
  refine A7 rfl ?_
  refine AC ?_
  refine AA ?_
  refine AB ?_
  refine DT ?_; rintro _ _ ⟨b, rfl, rfl⟩
  refine AD ?_
  refine AE ?_
  refine AC ?_
  refine AC ?_
  refine AA ?_
  refine AD ?_
  refine AE ?_
  refine AP ?_
  rw [show List.replicate n (0 : Int) = netL n [] [] from by rw [netL_nil]]
  refine BC [0, 1, 2, 3, 4, 14] (0 : Nat) (fun k => k ≤ l.length) (fun k => [(15, int k)]) (fun k => [sng b (.cells (ints (netL n (l.take k) (fl.take k))) 3 (0, 0))]) (fun k => l.length - k) pickZ (by omega) covZ selZ ?_
  rintro k hk
  by_cases hlt : k < l.length
  · have hltf : k < fl.length := by omega
    obtain ⟨b', o, rfl, hA, h0, h1, h2⟩ := arcRow hr (List.getElem?_eq_getElem hlt)
    obtain ⟨b2, o2, rfl, f0⟩ := hr2.int (List.getElem?_eq_getElem hltf)
    obtain ⟨g1, g2, g3, g4, g5, g6, g7⟩ := okArc_iff.1 (hok l[k] (List.getElem_mem hlt))
    obtain ⟨f, hf⟩ := Int.eq_ofNat_of_zero_le g1
    obtain ⟨t', ht⟩ := Int.eq_ofNat_of_zero_le g3
    rw [hf] at g2 h0 g5
    rw [ht] at g4 h1 g5
    have hx3 := hsm fl[k] (List.getElem_mem _)
    have hst : (l.take k).length = (fl.take k).length := by simp; omega
    have hlen : (fl.take k).length = k := by simp; omega
    have hnet := netL_snoc (n := n) (l := l.take k) (fl := fl.take k) (a := l[k]) (x := fl[k]) hst hf ht (by omega)
    rw [← take_snoc' hlt, ← take_snoc' hltf] at hnet
    have b1 := fval_bd f (l.take k) (fl.take k) (small_take hsm k)
    have b2' := fval_bd t' (l.take k) (fl.take k) (small_take hsm k)
    rw [hlen] at b1 b2'
    generalize hE : netL n (l.take k) (fl.take k) = E
    have hEl : E.length = n := by rw [← hE, netL_len]
    have e1 : E.getD f 0 = (fval f (l.take k) (fl.take k)) := by rw [← hE, netL_get (by omega)]
    have e2 : E.getD t' 0 = (fval t' (l.take k) (fl.take k)) := by rw [← hE, netL_get (by omega)]
    have e3 : (E.set f (E.getD f 0 + fl[k])).getD t' 0 = E.getD t' 0 := by
      rw [List.getD_eq_getElem?_getD, List.getElem?_set_ne (by omega), ← List.getD_eq_getElem?_getD]
    have e4 : (E.set f (E.getD f 0 + fl[k])).length = n := by simp [hEl]
    refine AC ?_
    refine AC ?_
    refine AA ?_
    refine AB ?_
    refine AB ?_
    refine AU ?_
    refine BB ?_
    refine AE ?_
    refine AO rfl ?_
    refine AL ?_
    refine AC ?_
    refine AP ?_
    refine AC ?_
    refine AZ (.q 0 (.q 1 (.q 2 (.q 3 (.q 4 (.q 5 (.q 6 (.q 7 (.q 8 (.q 9 (.q 10 (.q 11 (.q 12 (.q 13 (.l 14 .b .nil))))))))))))))) [] rfl (by kernel_rfl) selZ ?_
    refine AK ?_
    refine AK ?_
    refine AK ?_
    refine BD ?_
    refine BV ?_
    refine AQ ?_
    refine CB ?_
    refine AQ ?_
    refine AK ?_
    refine AK ?_
    refine B7 ?_
    refine AQ ?_
    refine CS ?_
    refine CB ?_
    refine DC ?_; rintro _ _ ⟨rfl, rfl⟩
    refine A4 ?_
    skip
    refine AZ (.q 0 (.q 1 (.q 2 (.q 3 (.q 4 (.q 5 (.q 6 (.q 7 (.q 8 (.q 9 (.q 10 (.q 11 (.q 12 (.q 13 (.l 14 .b .nil))))))))))))))) [] rfl (by kernel_rfl) selZ ?_
    refine AK ?_
    refine AK ?_
    refine AK ?_
    refine BD ?_
    refine BX ?_
    refine AQ ?_
    refine CB ?_
    refine AQ ?_
    refine AK ?_
    refine AK ?_
    refine B7 ?_
    refine AQ ?_
    refine D4 ?_
    refine CB ?_
    refine DC ?_; rintro _ _ ⟨rfl, rfl⟩
    refine A4 ?_
    refine A0 ?_
    refine AA ?_
    refine AB ?_
    refine A9 ?_
    refine AD ?_
    refine AE ?_
    refine AW (k + 1) (by omega) (by omega) covZ ?_
    rw [hnet, hE]
    rw [show fval f (l.take k) (fl.take k) + fl[k] = E.getD f 0 + fl[k] from by omega]
    rw [show fval t' (l.take k) (fl.take k) - fl[k] = (E.set f (E.getD f 0 + fl[k])).getD t' 0 - fl[k] from by rw [e3]; omega]
    exact selZ
  obtain rfl : k = l.length := by omega
  rw [List.take_length, List.take_of_length_le (by omega)]
  generalize hE : netL n l fl = E
  have hEl : E.length = n := by rw [← hE, netL_len]
  refine AC ?_
  refine AC ?_
  refine AA ?_
  refine AB ?_
  refine AB ?_
  refine AU ?_
  refine AY ?_
  refine AE ?_
  refine AN rfl ?_
  refine A7 rfl ?_
  refine AC ?_
  refine AC ?_
  refine AA ?_
  refine AD ?_
  refine AE ?_
  refine AP ?_
  refine BC [0, 1, 2, 3, 4, 14] (0 : Nat) (fun k => k ≤ n ∧ ∀ v : Nat, v < k → (v : Int) = s ∨ (v : Int) = t ∨ fval v l fl = 0) (fun k => [(16, int k)]) (fun _ => [sng b (.cells (ints E) 3 (0, 0))]) (fun k => n - k) pickZ ⟨by omega, by simp⟩ covZ selZ ?_
  rintro k ⟨hk, hz⟩
  by_cases hlt : k < n
  · have e1 : E.getD k 0 = (fval k l fl) := by rw [← hE, netL_get (by omega)]
    repeat' (first
      | (refine AB ?_)
      | (refine AD ?_)
      | (refine AF ?_)
      | (refine BW ?_)
      | (refine AM ?_)
      | (refine AJ ?_)
      | (refine A9 ?_)
      | (refine BB ?_)
      | (refine AC ?_)
      | (refine AA ?_)
      | (refine AE ?_)
      | (refine AP ?_)
      | (refine A0 ?_)
      | (refine AL ?_)
      | (refine AO rfl ?_)
      | (refine AN rfl ?_)
      | (refine AG rfl rfl rfl ?_)
      | (focus ((refine BZ rfl rfl (cmp_ne _ _) rfl rfl (fun h => ?_) (fun h => ?_))))
      | fail)
    all_goals first
      | (refine AW (k + 1) ⟨by omega, fun v hv => ?_⟩ (by omega) covZ selZ
         rcases Nat.lt_or_ge v k with hv' | hv'
         · exact hz v hv'
         · obtain rfl : v = k := by omega
           omega)
      | (refine AI (res2 rfl rfl rfl) rsubZ selZ ⟨rfl, ?_⟩
         have hb := balanced_not (l := l) (fl := fl) (s := s) (t := t) hlt (by omega) (by omega) (by omega)
         unfold valueSpec
         rw [if_neg (by rw [hc]; simp), if_neg (by rw [he]; simp), if_neg (by simpa using hfl), if_neg (by rw [hy]; simp), Int.toNat_natCast, if_pos hb])
  · obtain ⟨s', rfl⟩ := Int.eq_ofNat_of_zero_le s1
    have e1 : E.getD s' 0 = (fval s' l fl) := by rw [← hE, netL_get (by omega)]
    refine AC ?_
    refine AC ?_
    refine AA ?_
    refine AB ?_
    refine AB ?_
    refine AY ?_
    refine AE ?_
    refine AN rfl ?_
    refine A7 rfl ?_
    refine AC ?_
    refine AA ?_
    refine AB ?_
    refine AB ?_
    refine BW ?_
    refine AF ?_
    refine AD ?_
    refine AD ?_
    refine AE ?_
    refine AI (res2 rfl rfl rfl) rsubZ selZ ⟨rfl, ?_⟩
    have hb := balanced_of (n := n) (l := l) (fl := fl) (s := s') (t := t) (fun v hv => hz v (by omega))
    unfold valueSpec
    rw [if_neg (by rw [hc]; simp), if_neg (by rw [he]; simp), if_neg (by simpa using hfl), if_neg (by rw [hy]; simp), Int.toNat_natCast, if_neg (by rw [hb]; simp), e1]
end Go.Proofs.YthdoegkjifgegaaGreat
/- Flows of time-expanded networks, and stocks. No program in sight. No conditions. -/
namespace Go.Step
open Go.Flow (Flw fval netB netB_eq inCap sumTo sumTo_zero sumTo_one okArc_iff)
def shipsF : List EA → List Int → List Sh
  | x :: L, y :: fl => (if 0 ≤ x.c ∧ 0 < y then [⟨x.c, x.t, y⟩] else []) ++ shipsF L fl
  | _, _ => []
section
variable {qs : List Int} {cs : List Ct} {bs : List Bk} {hs : List Hd} {d : Dm}
def bq (d : Dm) (P : Int → Int → Bool) (v : Nat) : Bool := P ((v : Int) / wd d) (d.r + (v : Int) % wd d)
theorem bq_vtx {d : Dm} {P : Int → Int → Bool} {n t : Int} (h0 : 0 ≤ n) (h1 : d.r ≤ t) (h2 : t ≤ d.e) : bq d P (vtx d n t).toNat = P n t := by
  have hp : 0 ≤ vtx d n t := by
    unfold vtx
    have := Int.mul_nonneg h0 (show 0 ≤ wd d by unfold wd; omega)
    omega
  unfold bq
  rw [Int.toNat_of_nonneg hp, vtx_div h1 h2, vtx_mod h1 h2]
  congr 1
  omega
end
end Go.Step
/- The paths of a flow; greater capacities; arcs turned round. No program in sight. No conditions. -/
namespace Go.Flow
def plFrom : Nat → List Arc → List Lk
  | _, [] => []
  | i, a :: l => ⟨i, a.f.toNat, a.t.toNat⟩ :: plFrom (i + 1) l
def plinks (l : List Arc) : List Lk := plFrom 0 l
theorem plFrom_get : ∀ (l : List Arc) (i j : Nat), (plFrom i l)[j]? = (l[j]?).map (fun a => (⟨i + j, a.f.toNat, a.t.toNat⟩ : Lk))
  | [], i, j => by simp [plFrom]
  | b :: l, i, j => by
    cases j with
    | zero => simp [plFrom]
    | succ j =>
      simp only [plFrom, List.getElem?_cons_succ]
      rw [plFrom_get l (i + 1) j, show i + 1 + j = i + (j + 1) from by omega]
theorem plinks_get (l : List Arc) (j : Nat) : (plinks l)[j]? = (l[j]?).map (fun a => (⟨j, a.f.toNat, a.t.toNat⟩ : Lk)) := by
  unfold plinks; rw [plFrom_get]; simp
theorem plinks_iff {l : List Arc} {x : Lk} : x ∈ plinks l ↔ ∃ j a, l[j]? = some a ∧ x = ⟨j, a.f.toNat, a.t.toNat⟩ := by
  rw [List.mem_iff_getElem?]
  constructor
  · rintro ⟨j, hj⟩
    rw [plinks_get, Option.map_eq_some_iff] at hj
    obtain ⟨a, ha, rfl⟩ := hj
    exact ⟨j, a, ha, rfl⟩
  · rintro ⟨j, a, ha, rfl⟩
    exact ⟨j, by rw [plinks_get, ha]; rfl⟩
theorem pl_lt {n : Nat} {l : List Arc} (hok : ∀ a ∈ l, okArc n a = true) : ∀ x ∈ plinks l, x.f < n ∧ x.t < n := fun x hx => by
  obtain ⟨j, a, ha, rfl⟩ := plinks_iff.1 hx
  have := okArc_iff.1 (hok a (List.mem_of_getElem? ha))
  dsimp only; omega
def rmP (rest : List Int) (k : Nat) : Int := rest.getD k 0
def subP (room : Int) (rest : List Int) (x : Lk) : List Int := rest.set x.k (rest.getD x.k 0 - room)
def subAll (room : Int) (rest : List Int) (p : List Lk) : List Int := p.foldl (subP room) rest
abbrev pE (l : List Arc) (fl : List Int) : Lk → Prop := opn (plinks l) (rmP fl)
abbrev pP (l : List Arc) (fl : List Int) (D : List Int) (s : Nat) : List Lk := pathD (nxt (plinks l) (rmP fl) D) D s
abbrev pRoom (l : List Arc) (fl : List Int) (D : List Int) (s : Nat) : Int := leastR (rmP fl) (pP l fl D s)
abbrev pNext (l : List Arc) (fl : List Int) (D : List Int) (s : Nat) : List Int := subAll (pRoom l fl D s) fl (pP l fl D s)
section
variable {n s t : Nat} {l : List Arc}
end
inductive RunP (n : Nat) (l : List Arc) (s t : Nat) : List Int → List (List Lk × Int) → List Int → Prop
  | done {fl D : List Int} : IsDist n t (pE l fl) D → D.getD s 0 < 0 → RunP n l s t fl [] fl
  | step {fl D r : List Int} {ps : List (List Lk × Int)} : IsDist n t (pE l fl) D → 0 ≤ D.getD s 0 → RunP n l s t (pNext l fl D s) ps r → RunP n l s t fl ((pP l fl D s, pRoom l fl D s) :: ps) r
theorem RunP.uniq {n s t : Nat} {l : List Arc} (hok : ∀ a ∈ l, okArc n a = true) {fl F G : List Int} {ps qs : List (List Lk × Int)} (h1 : RunP n l s t fl ps F) (h2 : RunP n l s t fl qs G) : ps = qs ∧ F = G := by
  have hE : ∀ fl x, pE l fl x → x.f < n ∧ x.t < n := fun fl x hx => pl_lt hok x hx.1
  induction h1 generalizing G qs with
  | done hD hn =>
    cases h2 with
    | done => exact ⟨rfl, rfl⟩
    | step hD2 h0 _ => rw [hD.uniq (hE _) hD2] at hn; omega
  | step hD h0 _ ih =>
    cases h2 with
    | done hD2 hn => rw [hD.uniq (hE _) hD2] at h0; omega
    | step hD2 _ hr =>
      have e := hD.uniq (hE _) hD2
      subst e
      obtain ⟨e1, e2⟩ := ih hr
      exact ⟨by rw [e1], e2⟩
section
variable {n s t : Nat} {l : List Arc}
end
/-! ### a greater capacity -/
/-! ### arcs turned round, arcs in the opposite order -/
def turnA (a : Arc) : Arc := ⟨a.t, a.f, a.c⟩
theorem fval_turn (v : Int) : ∀ (l : List Arc) (fl : List Int), fval v (l.map turnA) fl = - fval v l fl
  | [], _ => by simp [fval]
  | _ :: _, [] => by simp [fval]
  | a :: l, x :: fl => by
    simp only [List.map_cons, fval, fval_turn v l fl, turnA]
    split <;> split <;> omega
theorem inCap_turn : ∀ (l : List Arc) (fl : List Int), inCap (l.map turnA) fl = inCap l fl
  | [], _ => by simp [inCap]
  | _ :: _, [] => by simp [inCap]
  | a :: l, x :: fl => by simp only [List.map_cons, inCap, inCap_turn l fl, turnA]
theorem netB_all : ∀ (l : List Arc) (fl : List Int), netB (fun _ => true) l fl = 0
  | [], _ => by simp [netB]
  | _ :: _, [] => by simp [netB]
  | a :: l, x :: fl => by simp only [netB, if_true]; rw [netB_all l fl]; omega
theorem sumTo_two {g : Nat → Int} {j k : Nat} (hjk : j ≠ k) : ∀ n, j < n → k < n → (∀ v, v < n → v ≠ j → v ≠ k → g v = 0) → sumTo g n = g j + g k
  | 0, h, _, _ => by omega
  | n + 1, h, h2, e => by
    simp only [sumTo]
    by_cases e1 : k = n
    · rw [sumTo_one (k := j) n (by omega) (fun v hv hne => e v (by omega) hne (by omega)), e1]
    · by_cases e2 : j = n
      · rw [sumTo_one (k := k) n (by omega) (fun v hv hne => e v (by omega) (by omega) hne), e2]; omega
      · rw [sumTo_two hjk n (by omega) (by omega) (fun v hv g1 g2 => e v (by omega) g1 g2), e n (by omega) (by omega) (by omega)]; omega
theorem Flw.ends {n s t : Nat} {l : List Arc} {fl : List Int} (hok : ∀ a ∈ l, okArc n a = true) (hs : s < n) (ht : t < n) (hst : s ≠ t) (hf : Flw n l s t fl) : fval t l fl = - fval s l fl := by
  have h := netB_eq (n := n) (fun _ => true) l fl hok
  rw [netB_all] at h
  rw [sumTo_two hst n hs ht (fun v hv g1 g2 => by simp only [if_true]; exact hf.bal v hv g1 g2)] at h
  simp only [if_true] at h
  omega
theorem Flw.turn {n s t : Nat} {l : List Arc} {fl : List Int} (hf : Flw n l s t fl) : Flw n (l.map turnA) t s fl :=
  ⟨by simp [hf.len], by rw [inCap_turn]; exact hf.cap, fun v hv g1 g2 => by rw [fval_turn, hf.bal v hv g2 g1]; rfl⟩
/-! ### differences of flows -/
end Go.Flow
/- The shipments of a flow can be made, and bring its value. No program in sight. No conditions. -/
namespace Go.Step
open Go.Flow (Flw fval inCap okArc okArc_iff)
section
variable {qs : List Int} {cs : List Ct} {bs : List Bk} {hs : List Hd} {d : Dm}
end
end Go.Step
/- The cut of a set of vertices. No program in sight. No conditions. -/
namespace Go.Step
def singI (d : Dm) (n : Int) (side : List Int) : Iv := (side.filter (fun v => decide (v / wd d = n))).map (fun v => (d.r + v % wd d, d.r + v % wd d + 1))
def sideI (d : Dm) (side : List Int) (n : Int) : Iv := insAll [] (singI d n side)
theorem singI_next (d : Dm) (n : Int) {side : List Int} {k : Nat} (h : k < side.length) : singI d n (side.take (k + 1)) = singI d n (side.take k) ++ (if side[k] / wd d = n then [(d.r + side[k] % wd d, d.r + side[k] % wd d + 1)] else []) := by
  unfold singI
  rw [List.take_succ_eq_append_getElem h, List.filter_append, List.map_append]
  congr 1
  by_cases hc : side[k] / wd d = n
  · simp [hc]
  · simp [hc]
theorem sideI_next (d : Dm) (n : Int) {side : List Int} {k : Nat} (h : k < side.length) : sideI d (side.take (k + 1)) n = if side[k] / wd d = n then insI (sideI d (side.take k) n) (d.r + side[k] % wd d, d.r + side[k] % wd d + 1) else sideI d (side.take k) n := by
  unfold sideI
  rw [singI_next d n h]
  unfold insAll
  rw [List.foldl_append]
  split <;> rfl
theorem singI_ok (d : Dm) (n : Int) (side : List Int) : ∀ x ∈ singI d n side, x.2 = x.1 + 1 := fun x hx => by
  unfold singI at hx
  obtain ⟨v, _, rfl⟩ := List.mem_map.1 hx
  rfl
theorem mem_singI {d : Dm} {n t : Int} {side : List Int} : memI (singI d n side) t = true ↔ ∃ v ∈ side, v / wd d = n ∧ d.r + v % wd d = t := by
  rw [memI_iff]
  unfold singI
  constructor
  · rintro ⟨x, hx, h1, h2⟩
    obtain ⟨v, hv, rfl⟩ := List.mem_map.1 hx
    obtain ⟨h3, h4⟩ := List.mem_filter.1 hv
    exact ⟨v, h3, of_decide_eq_true h4, by dsimp only at h1 h2; omega⟩
  · rintro ⟨v, hv, h1, h2⟩
    exact ⟨_, List.mem_map.2 ⟨v, List.mem_filter.2 ⟨hv, decide_eq_true h1⟩, rfl⟩, by dsimp only; omega, by dsimp only; omega⟩
theorem sideI_ok (d : Dm) (side : List Int) (n : Int) : NormI (sideI d side n) ∧ (∀ t, memI (sideI d side n) t = true ↔ ∃ v ∈ side, v / wd d = n ∧ d.r + v % wd d = t) ∧ (sideI d side n).length ≤ side.length := by
  obtain ⟨h1, h2, h3⟩ := insAll_ok (a := []) (b := singI d n side) NormI.nil (fun x hx => by have := singI_ok d n side x hx; omega)
  refine ⟨h1, fun t => ?_, ?_⟩
  · unfold sideI
    rw [h2, show memI [] t = false from rfl, Bool.false_or]
    exact mem_singI
  · have : (singI d n side).length ≤ side.length := by
      unfold singI
      rw [List.length_map]
      exact List.length_filter_le _ _
    unfold sideI
    simp at h3
    omega
theorem sideI_in {d : Dm} (hw : d.r ≤ d.e) (side : List Int) (n : Int) : ∀ x ∈ sideI d side n, d.r ≤ x.1 ∧ x.2 ≤ d.e + 1 := norm_in (sideI_ok d side n).1 (fun t ht => by
  obtain ⟨v, _, _, h⟩ := ((sideI_ok d side n).2.1 t).1 ht
  have a := Int.emod_nonneg v (show wd d ≠ 0 by unfold wd; omega)
  have b := Int.emod_lt_of_pos v (show 0 < wd d by unfold wd; omega)
  unfold wd at *
  omega)
def sidesC (d : Dm) (nq : Nat) (side : List Int) : Cu := (List.range nq).map (fun n : Nat => sideI d side n)
section
variable {qs : List Int} {cs : List Ct} {bs : List Bk} {hs : List Hd} {d : Dm}
theorem capB_congr (h : VOk qs cs bs hs d) {B C : Int → Int → Bool} (hB : ∀ n t : Int, 0 ≤ n → n < (qs.length : Int) → d.r ≤ t → t ≤ d.e → B n t = C n t) : capB qs cs bs hs d B = capB qs cs bs hs d C := by
  unfold capB
  congr 1
  · refine sumT_congr (fun k hk => ?_)
    rw [← lsum_rngI, ← lsum_rngI]
    refine lsum_congr (fun t ht => ?_)
    rw [mem_rngI] at ht
    unfold waitB
    rw [hB _ t (by omega) (by omega) (by omega) (by omega), hB _ (t + 1) (by omega) (by omega) (by omega) (by omega)]
  · refine sumT_congr (fun k hk => ?_)
    rw [← lsum_rngI, ← lsum_rngI]
    refine lsum_congr (fun t ht => ?_)
    rw [mem_rngI] at ht
    unfold conB
    rw [Int.zero_add, Int.toNat_natCast, List.getElem?_eq_getElem hk]
    have k1 := h.ct _ (List.getElem_mem hk)
    generalize cs[k] = x at k1
    dsimp only
    by_cases hx : t + 1 + x.g ≤ d.e
    · rw [hB _ t k1.1.1 k1.1.2 (by omega) (by omega), hB _ (t + 1 + x.g) k1.2.1.1 k1.2.1.2 (by omega) hx]
    · rw [if_neg (fun h2 => hx h2.2.2.1), if_neg (fun h2 => hx h2.2.2.1)]
end
end Go.Step
