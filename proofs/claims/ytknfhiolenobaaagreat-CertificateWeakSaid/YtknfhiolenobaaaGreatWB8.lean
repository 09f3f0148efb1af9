/- Texts of this proof, one after the other; no conditions. -/
import Derived.Test.YtknfhiolenobaaaGreatWB7
import Derived.Test.YtknfhiolenobaaaGreatWB2
import Derived.Test.YtknfhiolenobaaaGreatWB6
import Derived.Test.YtknfhiolenobaaaGreatWB5
import Derived.Test.YtknfhiolenobaaaGreatWB1
set_option linter.all false
/- The graph, and the numbers of its places. -/
namespace Go.Proofs.YtknfhiolenobaaaGreat
open Go.Eng Go.Step
set_option maxRecDepth 100000
set_option maxHeartbeats 4000000

theorem ea_len (qs : List Int) (cs : List Ct) (bs : List Bk) (hs : List Hd) (d : Dm) (h : VOk qs cs bs hs d) : (arcsE qs cs bs hs d).length ≤ 1000000 := by
 have := h.len
 omega
set_option maxHeartbeats 32000000 in
theorem graph_spec {ρ τ σ υ : PH} {pq pc pb ph : Option Addr} {kq kc kb kh : Nat} {qs : List Int} {cs : List Ct} {bs : List Bk} {hs : List Hd} (hT : TbAt ρ τ σ υ pq pc pb ph kq kc kb kh qs cs bs hs) (bw bm kp : Nat) (pl : Option Addr) (χ : PH) (M : List (List Int × Value)) (d : Dm) (h : VOk qs cs bs hs d) (h0 : chkB qs cs bs = 0) (hpl : SlE encS 2 χ (.slice pl (placesA d qs.length).length kp) (placesA d qs.length)) (hM : NumAt d qs.length d.r M) :
  Makes Tryz.prog (fv 34) [.pointer (some ⟨bw, 0, none⟩)] [sng bw (.cells #[.slice pq qs.length kq, .slice pc cs.length kc, .slice pb bs.length kb, .slice ph hs.length kh, int d.s, int d.d, int d.v, int d.r, int d.e, .slice pl (placesA d qs.length).length kp, .map (some bm)] 113 (0, 0)), sng bm (mapS M), χ, ρ, τ, σ, υ] (fun r χ' => ∃ u, r = .agg #[int (vsN qs d), u, int (vtx d d.s d.r), int (vtx d d.d d.e)] ∧ OwnS 105 3 u (arcsG qs cs bs hs d).length ((arcsG qs cs bs hs d).flatMap encA) χ') := by
 have hdm := h.dm
 unfold okDm at hdm
 have hnq := h.nq
 have hMl := hM.1
 have hl1 := numAt_get hM (n := d.s) (t := d.r) (by omega) (by omega) (by omega) (by omega)
 have hl2 := numAt_get hM (n := d.d) (t := d.e) (by omega) (by omega) (by omega) (by omega)
 have hit := fun c1 => arcs_iter hT bw bm c1 kp pl χ M d h h0 hpl hM
 have hEl := ea_len qs cs bs hs d h
 have hplen : (((placesA d qs.length).length : Nat) : Int) = vsN qs d := placesA_len (d := d) (by omega) qs.length
 have hone : ∀ z n (xs : List Value) (χ : PH), OwnS 105 3 z n xs χ → z.oneCell' = true := fun z n xs χ h => by obtain ⟨_, _, rfl⟩ := h.form; rfl
 have w0 : rdc (sng bw (.cells #[.slice pq qs.length kq, .slice pc cs.length kc, .slice pb bs.length kb, .slice ph hs.length kh, int d.s, int d.d, int d.v, int d.r, int d.e, .slice pl (placesA d qs.length).length kp, .map (some bm)] 113 (0, 0))) bw 0 = some (.slice pq qs.length kq) := by rw [rdc_sng]; rfl
 have w1 : rdc (sng bw (.cells #[.slice pq qs.length kq, .slice pc cs.length kc, .slice pb bs.length kb, .slice ph hs.length kh, int d.s, int d.d, int d.v, int d.r, int d.e, .slice pl (placesA d qs.length).length kp, .map (some bm)] 113 (0, 0))) bw 1 = some (.slice pc cs.length kc) := by rw [rdc_sng]; rfl
 have w2 : rdc (sng bw (.cells #[.slice pq qs.length kq, .slice pc cs.length kc, .slice pb bs.length kb, .slice ph hs.length kh, int d.s, int d.d, int d.v, int d.r, int d.e, .slice pl (placesA d qs.length).length kp, .map (some bm)] 113 (0, 0))) bw 2 = some (.slice pb bs.length kb) := by rw [rdc_sng]; rfl
 have w3 : rdc (sng bw (.cells #[.slice pq qs.length kq, .slice pc cs.length kc, .slice pb bs.length kb, .slice ph hs.length kh, int d.s, int d.d, int d.v, int d.r, int d.e, .slice pl (placesA d qs.length).length kp, .map (some bm)] 113 (0, 0))) bw 3 = some (.slice ph hs.length kh) := by rw [rdc_sng]; rfl
 have w4 : rdc (sng bw (.cells #[.slice pq qs.length kq, .slice pc cs.length kc, .slice pb bs.length kb, .slice ph hs.length kh, int d.s, int d.d, int d.v, int d.r, int d.e, .slice pl (placesA d qs.length).length kp, .map (some bm)] 113 (0, 0))) bw 4 = some (int d.s) := by rw [rdc_sng]; rfl
 have w5 : rdc (sng bw (.cells #[.slice pq qs.length kq, .slice pc cs.length kc, .slice pb bs.length kb, .slice ph hs.length kh, int d.s, int d.d, int d.v, int d.r, int d.e, .slice pl (placesA d qs.length).length kp, .map (some bm)] 113 (0, 0))) bw 5 = some (int d.d) := by rw [rdc_sng]; rfl
 have w6 : rdc (sng bw (.cells #[.slice pq qs.length kq, .slice pc cs.length kc, .slice pb bs.length kb, .slice ph hs.length kh, int d.s, int d.d, int d.v, int d.r, int d.e, .slice pl (placesA d qs.length).length kp, .map (some bm)] 113 (0, 0))) bw 6 = some (int d.v) := by rw [rdc_sng]; rfl
 have w7 : rdc (sng bw (.cells #[.slice pq qs.length kq, .slice pc cs.length kc, .slice pb bs.length kb, .slice ph hs.length kh, int d.s, int d.d, int d.v, int d.r, int d.e, .slice pl (placesA d qs.length).length kp, .map (some bm)] 113 (0, 0))) bw 7 = some (int d.r) := by rw [rdc_sng]; rfl
 have w8 : rdc (sng bw (.cells #[.slice pq qs.length kq, .slice pc cs.length kc, .slice pb bs.length kb, .slice ph hs.length kh, int d.s, int d.d, int d.v, int d.r, int d.e, .slice pl (placesA d qs.length).length kp, .map (some bm)] 113 (0, 0))) bw 8 = some (int d.e) := by rw [rdc_sng]; rfl
 have w9 : rdc (sng bw (.cells #[.slice pq qs.length kq, .slice pc cs.length kc, .slice pb bs.length kb, .slice ph hs.length kh, int d.s, int d.d, int d.v, int d.r, int d.e, .slice pl (placesA d qs.length).length kp, .map (some bm)] 113 (0, 0))) bw 9 = some (.slice pl (placesA d qs.length).length kp) := by rw [rdc_sng]; rfl
 have w10 : rdc (sng bw (.cells #[.slice pq qs.length kq, .slice pc cs.length kc, .slice pb bs.length kb, .slice ph hs.length kh, int d.s, int d.d, int d.v, int d.r, int d.e, .slice pl (placesA d qs.length).length kp, .map (some bm)] 113 (0, 0))) bw 10 = some (.map (some bm)) := by rw [rdc_sng]; rfl
 have wp : RdP (sng bw (.cells #[.slice pq qs.length kq, .slice pc cs.length kc, .slice pb bs.length kb, .slice ph hs.length kh, int d.s, int d.d, int d.v, int d.r, int d.e, .slice pl (placesA d qs.length).length kp, .map (some bm)] 113 (0, 0))) bw 0 [.slice pq qs.length kq, .slice pc cs.length kc] := rdP_sng (xs := [.slice pq qs.length kq, .slice pc cs.length kc, .slice pb bs.length kb, .slice ph hs.length kh, int d.s, int d.d, int d.v, int d.r, int d.e, .slice pl (placesA d qs.length).length kp, .map (some bm)]) rfl
 refine spec_in (cap := []) Tryz.func34 rfl rfl Tryz.ntmps34 rfl envZ (fun N β => ?_)
 refine DG ?_
 refine AC ?_
 refine AA ?_
 refine AW ?_; rintro _ _ ⟨b, rfl, rfl⟩
 refine AF ?_
 refine AC ?_
 revert b; intro b2
 refine GP (X := Nat) [0, 2] (fun _ => True) (fun x => [(3, .pointer (some ⟨x, 0, none⟩))]) (fun x => [sng x (.cells #[int (vsN qs d), .slice none 0 0, int (vtx d d.s d.r), int (vtx d d.d d.e)] 49 (0, 0)), sng b2 (.cells #[int 0, .slice none 0 0, int 0, int 0] 49 (0, 0)), emp]) pickZ ?_ ?_
 ·refine BM (.q 0 (.q 1 (.q 2 (.q 3 (.q 4 (.q 5 (.q 6 (.q 7 (.q 8 (.q 9 (.q 10 (.q 11 (.q 12 (.q 13 (.q 14 (.q 15 (.q 16 (.q 17 (.q 18 (.q 19 (.q 20 (.q 21 (.q 22 (.q 23 (.q 24 (.q 25 (.q 26 (.q 27 (.q 28 (.q 29 (.q 30 (.q 31 (.q 32 (.q 33 (.q 34 (.q 35 (.q 36 (.q 37 (.l 38 .e (.l 39 .b .nil)))))))))))))))))))))))))))))))))))))))) [] rfl (by kernel_rfl) Sel.nil ?_
  repeat' (first
   | (refine AX ?_)
   | (refine AR ?_)
   | (refine AY ?_)
   | (refine DR ?_)
   | (refine DL ?_)
   | (refine D7 ?_)
   | (refine BD ?_)
   | (refine DQ ?_)
   | (focus ((refine' DS rfl _ rfl rfl rfl rfl _; rotate_left; (focus (first | exact DH 2 [d.s, d.r] rfl rfl rfl ⟨by kernel_rfl, by kernel_rfl⟩ rfl hMl rfl hl1 (mapAtS_rd memZ) | exact DH 2 [d.d, d.e] rfl rfl rfl ⟨by kernel_rfl, by kernel_rfl⟩ rfl hMl rfl hl2 (mapAtS_rd memZ))))))
   | (focus ((refine DK ?_; refine' FU rfl _ rfl rfl _ _; rotate_left; (focus (apply DY; exact rfl; exact rfl; exact takeZ; exact (by (repeat (first | exact (fun v hv => absurd hv List.not_mem_nil) | (refine List.forall_mem_cons.2 ⟨?_, ?_⟩; (focus (first | exact rfl | assumption))))); first | done | fail); exact rfl; exact rfl)); (focus (rintro _ _ ⟨_, rfl⟩ w hw; exact hw.sel Sel.nil)); rintro _ _ ⟨rfl, rfl⟩)))
   | (refine BJ ?_)
   | (refine D4 ?_; rintro _ _ ⟨b, rfl, rfl⟩)
   | fail)
  all_goals (rw [hplen]; refine FL _ trivial covZ selZ)
 rintro b3 _
 refine AC ?_
 refine AC ?_
 refine AA ?_
 refine AB ?_
 refine B5 (arcs_spec bw) rfl rfl Takes.nil (fun τ hτ => by simp at hτ) rfl rfl ?_
 rintro _ _ ⟨c1, rfl, rfl⟩
 refine AV (ρ := sng c1 _) takeZ ?_
 refine AF ?_
 refine AQ ?_
 refine D0 (gf := 62) (cap := [.pointer (some ⟨c1, 0, none⟩)]) (ps := [45]) (X := Value × PH) rfl Tryz.func62 rfl rfl
  (hit c1) ?_
  (fun i x => OwnS 105 3 x.1 ((arcsE qs cs bs hs d).take i).length (((arcsE qs cs bs hs d).take i).flatMap (fun e => encA e.a)) x.2)
  (fun x => [sng b3 (.cells #[int (vsN qs d), x.1, int (vtx d d.s d.r), int (vtx d d.d d.e)] 49 (0, 0)), sng b2 (.cells #[int 0, .slice none 0 0, int 0, int 0] 49 (0, 0)), x.2]) (fun _ _ => False) (.slice none 0 0, emp) rfl takesZ (OwnS.nil _ _) ?_ ?_ ?_
 ·intro σ' hσ
  simp only [List.mem_cons, List.not_mem_nil, or_false] at hσ ⊢
  rcases hσ with h | h | h | h | h | h | h | h <;> simp [h]
 ·rintro lo r i ⟨u, σ1⟩ vs hvs hO hps has hbd hst hpe hfr
  obtain ⟨st, pe, fnn, tm, prm, asg, bdy, df⟩ := r
  simp only at hps has hbd hst hpe hfr
  subst hps has hbd hst hpe
  rw [List.getElem?_map] at hvs
  obtain ⟨x, hx, rfl⟩ := Option.map_eq_some_iff.1 hvs
  dsimp only at hO
  have hti : ((arcsE qs cs bs hs d).take (i + 1)) = (arcsE qs cs bs hs d).take i ++ [x] := by
   rw [List.take_add_one, hx]; rfl
  have hil : ((arcsE qs cs bs hs d).take i).length ≤ 1000000 := by rw [List.length_take]; omega
  simp only [hti]
  generalize (arcsE qs cs bs hs d).take i = O at hO hil
  have hu1 := hone _ _ _ _ hO
  refine yield_spec hfr rfl (by intro p hp; simp at hp; omega) putiZ (fun N' β' => ?_)
  dsimp only
  refine AA ?_
  refine AW ?_; rintro _ _ ⟨b, rfl, rfl⟩
  refine AU ?_; rintro _ _ ⟨rfl, rfl⟩
  refine AF ?_
  refine DU rfl rfl ?_
  refine DZ takeZ rfl ?_
  revert b; intro bx
  refine AV (ρ := sng bx _) takeZ ?_
  have px : RdP (sng bx (.cells #[int x.a.f, int x.a.t, int x.a.c, int x.c, int x.t] 107 (0, 0))) bx 0 [int x.a.f, int x.a.t, int x.a.c] := rdP_sng (xs := [int x.a.f, int x.a.t, int x.a.c, int x.c, int x.t]) rfl
  refine AQ ?_
  refine AA ?_
  refine AH ?_
  refine AG ?_
  refine AH ?_
  refine AM ?_
  refine A5 ?_; rintro _ _ ⟨b, rfl, rfl⟩
  refine BT (DM (by_ := 24) (s := 3) (news := [int x.a.f, int x.a.t, int x.a.c]) rfl rfl rfl rfl rfl rfl rfl hO takeZ (cells_own memZ) rfl (by (repeat (first | exact (fun v hv => absurd hv List.not_mem_nil) | (refine List.forall_mem_cons.2 ⟨?_, ?_⟩; (focus (first | exact rfl | assumption))))); first | done | fail) (by omega) (by simp only [maxLen]; omega) (by omega)) rfl rfl rfl ?_
  rintro u1 _ ⟨σ2, hO1, rfl⟩
  have hu2 := hone _ _ _ _ hO1
  refine AH ?_
  refine BB ?_; rintro _ _ ⟨rfl, rfl⟩
  refine AF ?_
  refine A7 ?_
  refine C7 takeZ rsubZ selZ ⟨(u1, σ2), .inl ⟨rfl, ?_, rfl⟩⟩
  dsimp only
  rw [List.length_append, List.flatMap_append]
  exact hO1
 ·rintro b9 ⟨u, σ1⟩ hO
  rw [List.length_map, List.take_length] at hO
  dsimp only at hO
  have hO2 : OwnS 105 3 u (arcsG qs cs bs hs d).length ((arcsG qs cs bs hs d).flatMap encA) σ1 := by
   unfold arcsG
   rw [List.length_map, List.flatMap_map]
   exact hO
  have hu1 := hone _ _ _ _ hO2
  refine A7 ?_
  refine AC ?_
  refine AA ?_
  refine AM ?_
  refine AU ?_; rintro _ _ ⟨rfl, rfl⟩
  refine AF ?_
  refine FV (v := .agg #[int (vsN qs d), u, int (vtx d d.s d.r), int (vtx d d.d d.e)]) (Marks.cons (.there .here) .nil) ?_ rsubZ ?_ ⟨σ1, ⟨u, rfl, hO2⟩, rfl⟩
  ·exact resS1 (b1 := b2) (T := 49) (v1 := [int (vsN qs d), u, int (vtx d d.s d.r), int (vtx d d.d d.e)]) rfl rfl rfl rfl (cells_own memZ)
  ·exact selZ
 ·rintro _ _ _ h; exact h.elim
set_option maxHeartbeats 16000000 in
theorem Graph_spec {ρ τ σ υ : PH} {pq pc pb ph : Option Addr} {kq kc kb kh : Nat} {qs : List Int} {cs : List Ct} {bs : List Bk} {hs : List Hd} (hT : TbAt ρ τ σ υ pq pc pb ph kq kc kb kh qs cs bs hs) (d : Dm) :
  Makes Tryz.prog (fv 13) [.agg #[.slice pq qs.length kq, .slice pc cs.length kc, .slice pb bs.length kb, .slice ph hs.length kh], .agg #[int d.s, int d.d, int d.v, int d.r, int d.e]] [ρ, τ, σ, υ] (fun r χ' => if validT qs cs bs hs d = true then ∃ u, r = .tuple #[.agg #[int (vsN qs d), u, int (vtx d d.s d.r), int (vtx d d.d d.e)], int 0] ∧ OwnS 105 3 u (arcsG qs cs bs hs d).length ((arcsG qs cs bs hs d).flatMap encA) χ' else r = .tuple #[.agg #[int 0, .slice none 0 0, int 0, int 0], int 1] ∧ χ' = emp) := by
 refine spec_in (cap := []) Tryz.func13 rfl rfl Tryz.ntmps13 rfl envZ (fun N β => ?_)
 refine AC ?_
 refine AA ?_
 refine BT (BV rfl) rfl rfl rfl ?_
 rintro _ _ ⟨b1, rfl, rfl⟩
 refine AV (ρ := sng b1 _) takeZ ?_
 have ct : RdN (sng b1 (.cells #[.slice pq qs.length kq, .slice pc cs.length kc, .slice pb bs.length kb, .slice ph hs.length kh] 29 (0, 0))) b1 0 [.slice pq qs.length kq, .slice pc cs.length kc, .slice pb bs.length kb, .slice ph hs.length kh] := rdN_sng (vs := [.slice pq qs.length kq, .slice pc cs.length kc, .slice pb bs.length kb, .slice ph hs.length kh])
 have ct0 : rdc (sng b1 (.cells #[.slice pq qs.length kq, .slice pc cs.length kc, .slice pb bs.length kb, .slice ph hs.length kh] 29 (0, 0))) b1 0 = some (.slice pq qs.length kq) := by rw [rdc_sng]; rfl
 have ct1 : rdc (sng b1 (.cells #[.slice pq qs.length kq, .slice pc cs.length kc, .slice pb bs.length kb, .slice ph hs.length kh] 29 (0, 0))) b1 1 = some (.slice pc cs.length kc) := by rw [rdc_sng]; rfl
 have ct2 : rdc (sng b1 (.cells #[.slice pq qs.length kq, .slice pc cs.length kc, .slice pb bs.length kb, .slice ph hs.length kh] 29 (0, 0))) b1 2 = some (.slice pb bs.length kb) := by rw [rdc_sng]; rfl
 have ct3 : rdc (sng b1 (.cells #[.slice pq qs.length kq, .slice pc cs.length kc, .slice pb bs.length kb, .slice ph hs.length kh] 29 (0, 0))) b1 3 = some (.slice ph hs.length kh) := by rw [rdc_sng]; rfl
 have ctp : RdP (sng b1 (.cells #[.slice pq qs.length kq, .slice pc cs.length kc, .slice pb bs.length kb, .slice ph hs.length kh] 29 (0, 0))) b1 0 [.slice pq qs.length kq, .slice pc cs.length kc] := rdP_sng (xs := [.slice pq qs.length kq, .slice pc cs.length kc, .slice pb bs.length kb, .slice ph hs.length kh]) rfl
 refine BT (BV rfl) rfl rfl rfl ?_
 rintro _ _ ⟨b2, rfl, rfl⟩
 refine AV (ρ := sng b2 _) takeZ ?_
 have cd : RdN (sng b2 (.cells #[int d.s, int d.d, int d.v, int d.r, int d.e] 31 (0, 0))) b2 0 [int d.s, int d.d, int d.v, int d.r, int d.e] := rdN_sng (vs := [int d.s, int d.d, int d.v, int d.r, int d.e])
 have cd0 : rdc (sng b2 (.cells #[int d.s, int d.d, int d.v, int d.r, int d.e] 31 (0, 0))) b2 0 = some (int d.s) := by rw [rdc_sng]; rfl
 have cd1 : rdc (sng b2 (.cells #[int d.s, int d.d, int d.v, int d.r, int d.e] 31 (0, 0))) b2 1 = some (int d.d) := by rw [rdc_sng]; rfl
 have cd2 : rdc (sng b2 (.cells #[int d.s, int d.d, int d.v, int d.r, int d.e] 31 (0, 0))) b2 2 = some (int d.v) := by rw [rdc_sng]; rfl
 have cd3 : rdc (sng b2 (.cells #[int d.s, int d.d, int d.v, int d.r, int d.e] 31 (0, 0))) b2 3 = some (int d.r) := by rw [rdc_sng]; rfl
 have cd4 : rdc (sng b2 (.cells #[int d.s, int d.d, int d.v, int d.r, int d.e] 31 (0, 0))) b2 4 = some (int d.e) := by rw [rdc_sng]; rfl
 refine DG ?_
 refine AW ?_; rintro _ _ ⟨b, rfl, rfl⟩
 refine AD ?_
 refine AF ?_
 refine AC ?_
 refine AA ?_
 refine AM ?_
 refine AM ?_
 revert b; intro b4
 refine B5 (build_spec hT d) rfl rfl Takes.nil rdZ rfl rfl ?_
 rintro _ H' (⟨hv, rfl, rfl⟩ | ⟨hv, bw, bm, pl0, χ, M, rfl, rfl, hO, hM⟩)
 ·refine AB ?_
  refine AP ?_
  refine AP ?_
  refine AD ?_
  refine AD ?_
  refine AF ?_
  refine AC ?_
  refine AC ?_
  refine AA ?_
  refine AB ?_
  refine BG ?_
  refine AF ?_
  refine AO rfl ?_
  refine AC ?_
  refine AA ?_
  refine BO ?_
  refine AU ?_; rintro _ _ ⟨rfl, rfl⟩
  refine AD ?_
  refine AF ?_
  exact AJ (resSE (b1 := b4) (T := 49) (v1 := [int 0, .slice none 0 0, int 0, int 0]) rfl rfl rfl rfl rfl (cells_own memZ)) rsubZ selZ ⟨emp, by dsimp only; rw [if_neg (by simp [hv])]; exact ⟨rfl, rfl⟩, rfl⟩
 have h := vok hv
 have h0 := vokB hv
 have hdm := h.dm
 unfold okDm at hdm
 have hnq := h.nq
 obtain ⟨pl, kp, rfl⟩ := hO.form
 have hpl : SlE encS 2 χ (.slice pl (placesA d qs.length).length kp) (placesA d qs.length) := hO.at
 refine AV (ρ := sng bw _) takeZ ?_
 refine AV (ρ := sng bm _) takeZ ?_
 refine AV (ρ := χ) takeZ ?_
 have w0 : rdc (sng bw (.cells #[.slice pq qs.length kq, .slice pc cs.length kc, .slice pb bs.length kb, .slice ph hs.length kh, int d.s, int d.d, int d.v, int d.r, int d.e, .slice pl (placesA d qs.length).length kp, .map (some bm)] 113 (0, 0))) bw 0 = some (.slice pq qs.length kq) := by rw [rdc_sng]; rfl
 have w1 : rdc (sng bw (.cells #[.slice pq qs.length kq, .slice pc cs.length kc, .slice pb bs.length kb, .slice ph hs.length kh, int d.s, int d.d, int d.v, int d.r, int d.e, .slice pl (placesA d qs.length).length kp, .map (some bm)] 113 (0, 0))) bw 1 = some (.slice pc cs.length kc) := by rw [rdc_sng]; rfl
 have w2 : rdc (sng bw (.cells #[.slice pq qs.length kq, .slice pc cs.length kc, .slice pb bs.length kb, .slice ph hs.length kh, int d.s, int d.d, int d.v, int d.r, int d.e, .slice pl (placesA d qs.length).length kp, .map (some bm)] 113 (0, 0))) bw 2 = some (.slice pb bs.length kb) := by rw [rdc_sng]; rfl
 have w3 : rdc (sng bw (.cells #[.slice pq qs.length kq, .slice pc cs.length kc, .slice pb bs.length kb, .slice ph hs.length kh, int d.s, int d.d, int d.v, int d.r, int d.e, .slice pl (placesA d qs.length).length kp, .map (some bm)] 113 (0, 0))) bw 3 = some (.slice ph hs.length kh) := by rw [rdc_sng]; rfl
 have w4 : rdc (sng bw (.cells #[.slice pq qs.length kq, .slice pc cs.length kc, .slice pb bs.length kb, .slice ph hs.length kh, int d.s, int d.d, int d.v, int d.r, int d.e, .slice pl (placesA d qs.length).length kp, .map (some bm)] 113 (0, 0))) bw 4 = some (int d.s) := by rw [rdc_sng]; rfl
 have w5 : rdc (sng bw (.cells #[.slice pq qs.length kq, .slice pc cs.length kc, .slice pb bs.length kb, .slice ph hs.length kh, int d.s, int d.d, int d.v, int d.r, int d.e, .slice pl (placesA d qs.length).length kp, .map (some bm)] 113 (0, 0))) bw 5 = some (int d.d) := by rw [rdc_sng]; rfl
 have w6 : rdc (sng bw (.cells #[.slice pq qs.length kq, .slice pc cs.length kc, .slice pb bs.length kb, .slice ph hs.length kh, int d.s, int d.d, int d.v, int d.r, int d.e, .slice pl (placesA d qs.length).length kp, .map (some bm)] 113 (0, 0))) bw 6 = some (int d.v) := by rw [rdc_sng]; rfl
 have w7 : rdc (sng bw (.cells #[.slice pq qs.length kq, .slice pc cs.length kc, .slice pb bs.length kb, .slice ph hs.length kh, int d.s, int d.d, int d.v, int d.r, int d.e, .slice pl (placesA d qs.length).length kp, .map (some bm)] 113 (0, 0))) bw 7 = some (int d.r) := by rw [rdc_sng]; rfl
 have w8 : rdc (sng bw (.cells #[.slice pq qs.length kq, .slice pc cs.length kc, .slice pb bs.length kb, .slice ph hs.length kh, int d.s, int d.d, int d.v, int d.r, int d.e, .slice pl (placesA d qs.length).length kp, .map (some bm)] 113 (0, 0))) bw 8 = some (int d.e) := by rw [rdc_sng]; rfl
 have w9 : rdc (sng bw (.cells #[.slice pq qs.length kq, .slice pc cs.length kc, .slice pb bs.length kb, .slice ph hs.length kh, int d.s, int d.d, int d.v, int d.r, int d.e, .slice pl (placesA d qs.length).length kp, .map (some bm)] 113 (0, 0))) bw 9 = some (.slice pl (placesA d qs.length).length kp) := by rw [rdc_sng]; rfl
 have w10 : rdc (sng bw (.cells #[.slice pq qs.length kq, .slice pc cs.length kc, .slice pb bs.length kb, .slice ph hs.length kh, int d.s, int d.d, int d.v, int d.r, int d.e, .slice pl (placesA d qs.length).length kp, .map (some bm)] 113 (0, 0))) bw 10 = some (.map (some bm)) := by rw [rdc_sng]; rfl
 have hg := graph_spec hT bw bm kp pl χ M d h h0 hpl hM
 refine AB ?_
 refine AP ?_
 refine AP ?_
 refine AD ?_
 refine AD ?_
 refine AF ?_
 refine AC ?_
 refine AC ?_
 refine AA ?_
 refine AB ?_
 refine BG ?_
 refine AF ?_
 refine AN rfl ?_
 refine AL ?_
 refine AC ?_
 refine AA ?_
 refine AB ?_
 refine DP hg rfl rfl rdZ rfl rfl ?_
 rintro _ σ1 ⟨u, rfl, hO1⟩
 have hu1 : u.oneCell' = true := by obtain ⟨_, _, rfl⟩ := hO1.form; rfl
 refine AU ?_; rintro _ _ ⟨rfl, rfl⟩
 refine AD ?_
 refine AF ?_
 exact AJ (resSE (b1 := b4) (T := 49) (v1 := [int (vsN qs d), u, int (vtx d d.s d.r), int (vtx d d.d d.e)]) rfl rfl rfl rfl rfl (cells_own memZ)) rsubZ selZ ⟨σ1, by dsimp only; rw [if_pos hv]; exact ⟨u, rfl, hO1⟩, rfl⟩
end Go.Proofs.YtknfhiolenobaaaGreat
/- Values of flows, capacities of cuts, equal lists: what the functions answer. -/
namespace Go.Proofs.YtknfhiolenobaaaGreat
open Go.Eng Go.Flow
set_option maxRecDepth 100000
set_option maxHeartbeats 4000000

theorem value_spec (ρ σ : PH) (v u : Value) (s : Int) (l : List Arc) (fl : List Int) (hv : ArcsAt ρ v l) (hu : IntsAt σ u fl) (hl : l.length ≤ 20000) (hfl : fl.length = l.length) (hs : small fl) :
  Ans Tryz.prog (fv 38) [v, u, int s] [ρ, σ] (fun r => r = int (fval s l fl)) := by
 obtain ⟨q, c, rfl, hr⟩ := hv.val encA_len
 obtain ⟨q2, c2, rfl, hr2⟩ := hu.val Eng.encI_len
 refine spec_in (cap := []) Tryz.func38 rfl rfl Tryz.ntmps38 rfl envZ (fun N β => ?_)
 refine AC ?_
 refine AA ?_
 refine AD ?_
 refine AF ?_
 refine AC ?_
 refine AA ?_
 refine AD ?_
 refine AF ?_
 refine AC ?_
 refine AC ?_
 refine AA ?_
 refine AB ?_
 refine A0 ?_
 refine AB ?_
 refine AF ?_
 refine AQ ?_
 refine BN [0, 1, 2, 10, 11] ((0, 0) : Nat × Int) (fun x => x.1 ≤ l.length ∧ x.2 = fval s (l.take x.1) (fl.take x.1)) (fun x => [(7, int x.2), (12, int x.1)]) (fun _ => []) (fun x => l.length - x.1) pickZ ⟨by simp, by simp [fval]⟩ covZ selZ ?_
 rintro ⟨k, y⟩ ⟨hk, hy⟩
 simp only at hk hy
 by_cases hlt : k < l.length
 ·have hx := List.getElem?_eq_getElem hlt
  obtain ⟨b, o, rfl, hA, h0, h1, h2⟩ := arcRow hr hx
  have hx2 := List.getElem?_eq_getElem (show k < fl.length by omega)
  obtain ⟨b2, o2, rfl, g0⟩ := hr2.int hx2
  have hbd := fval_bd s (l.take k) (fl.take k) (small_take hs k)
  have hlen : (fl.take k).length = k := by simp; omega
  rw [← hy, hlen] at hbd
  have hx3 := hs fl[k] (List.getElem_mem _)
  have hstep : fval s (l.take (k + 1)) (fl.take (k + 1)) = y + ((if l[k].f = s then fl[k] else 0) - (if l[k].t = s then fl[k] else 0)) := by
   rw [take_snoc' hlt, take_snoc' (show k < fl.length by omega), fval_snoc _ _ _ _ _ (by simp; omega), hy]
  repeat' (first
   | (refine AB ?_)
   | (refine AD ?_)
   | (refine AG ?_)
   | (refine AH ?_)
   | (refine BS ?_)
   | (refine BC ?_)
   | (refine BA ?_)
   | (refine BF ?_)
   | (refine B8 ?_)
   | (refine CG ?_)
   | (refine AM ?_)
   | (refine AC ?_)
   | (refine AA ?_)
   | (refine AF ?_)
   | (refine AQ ?_)
   | (refine A7 ?_)
   | (refine AL ?_)
   | (refine AO rfl ?_)
   | (refine AN rfl ?_)
   | (refine AW ?_; rintro _ _ ⟨b, rfl, rfl⟩)
   | (refine AU ?_; rintro _ _ ⟨rfl, rfl⟩)
   | (focus ((refine DN rfl rfl (cmp_eq _ _) rfl rfl (fun h => ?_) (fun h => ?_))))
   | fail)
  all_goals refine A4 (k + 1, _) ⟨by simp only; omega, ?_⟩ (by simp only; omega) covZ selZ
  all_goals simp only
  all_goals rw [hstep]
  all_goals (repeat (first | rw [if_pos (by assumption)] | rw [if_neg (by assumption)]))
  all_goals omega
 ·refine AC ?_
  refine AA ?_
  refine AZ ?_
  refine AF ?_
  refine AC ?_
  refine AN rfl ?_
  refine A8 rfl ?_
  refine AC ?_
  refine AA ?_
  refine AB ?_
  refine AD ?_
  refine AF ?_
  refine AJ (res1 rfl rfl) rsubZ selZ ⟨rfl, ?_⟩
  rw [hy, List.take_of_length_le (by omega), List.take_of_length_le (by omega)]

end Go.Proofs.YtknfhiolenobaaaGreat
/- Capacity and Value, of the program and of the reference. -/
namespace Go.Proofs.YtknfhiolenobaaaGreat
open Go.Eng Go.Flow
set_option maxRecDepth 100000
set_option maxHeartbeats 4000000

end Go.Proofs.YtknfhiolenobaaaGreat
/- Value, of the program and of the reference. -/
namespace Go.Proofs.YtknfhiolenobaaaGreat
open Go.Eng Go.Flow
set_option maxRecDepth 100000
set_option maxHeartbeats 4000000

end Go.Proofs.YtknfhiolenobaaaGreat
/- Flows of time-expanded networks, and stocks. No program in sight. No conditions. -/
namespace Go.Step
open Go.Flow (Flw fval netB netB_eq inCap sumTo sumTo_zero sumTo_one okArc_iff)
def shipsF : List EA → List Int → List Sh
  | x :: L, y :: fl => (if 0 ≤ x.c ∧ 0 < y then [⟨x.c, x.t, y⟩] else []) ++ shipsF L fl
  | _, _ => []
section
variable {qs : List Int} {cs : List Ct} {bs : List Bk} {hs : List Hd} {d : Dm}
def bq (d : Dm) (P : Int → Int → Bool) (v : Nat) : Bool := P ((v : Int) / wd d) (d.r + (v : Int) % wd d)
theorem bq_vtx {d : Dm} {P : Int → Int → Bool} {n t : Int} (h0 : 0 ≤ n) (h1 : d.r ≤ t) (h2 : t ≤ d.e) : bq d P (vtx d n t).toNat = P n t := by
  have hp : 0 ≤ vtx d n t := by
    unfold vtx
    have := Int.mul_nonneg h0 (show 0 ≤ wd d by unfold wd; omega)
    omega
  unfold bq
  rw [Int.toNat_of_nonneg hp, vtx_div h1 h2, vtx_mod h1 h2]
  congr 1
  omega
end
end Go.Step
/- The paths of a flow; greater capacities; arcs turned round. No program in sight. No conditions. -/
namespace Go.Flow
def plFrom : Nat → List Arc → List Lk
  | _, [] => []
  | i, a :: l => ⟨i, a.f.toNat, a.t.toNat⟩ :: plFrom (i + 1) l
def plinks (l : List Arc) : List Lk := plFrom 0 l
theorem plFrom_get : ∀ (l : List Arc) (i j : Nat), (plFrom i l)[j]? = (l[j]?).map (fun a => (⟨i + j, a.f.toNat, a.t.toNat⟩ : Lk))
  | [], i, j => by simp [plFrom]
  | b :: l, i, j => by
    cases j with
    | zero => simp [plFrom]
    | succ j =>
      simp only [plFrom, List.getElem?_cons_succ]
      rw [plFrom_get l (i + 1) j, show i + 1 + j = i + (j + 1) from by omega]
theorem plinks_get (l : List Arc) (j : Nat) : (plinks l)[j]? = (l[j]?).map (fun a => (⟨j, a.f.toNat, a.t.toNat⟩ : Lk)) := by
  unfold plinks; rw [plFrom_get]; simp
theorem plinks_iff {l : List Arc} {x : Lk} : x ∈ plinks l ↔ ∃ j a, l[j]? = some a ∧ x = ⟨j, a.f.toNat, a.t.toNat⟩ := by
  rw [List.mem_iff_getElem?]
  constructor
  · rintro ⟨j, hj⟩
    rw [plinks_get, Option.map_eq_some_iff] at hj
    obtain ⟨a, ha, rfl⟩ := hj
    exact ⟨j, a, ha, rfl⟩
  · rintro ⟨j, a, ha, rfl⟩
    exact ⟨j, by rw [plinks_get, ha]; rfl⟩
theorem pl_lt {n : Nat} {l : List Arc} (hok : ∀ a ∈ l, okArc n a = true) : ∀ x ∈ plinks l, x.f < n ∧ x.t < n := fun x hx => by
  obtain ⟨j, a, ha, rfl⟩ := plinks_iff.1 hx
  have := okArc_iff.1 (hok a (List.mem_of_getElem? ha))
  dsimp only; omega
theorem pl_k {l : List Arc} {x : Lk} (hx : x ∈ plinks l) : x.k < l.length := by
  obtain ⟨j, a, ha, rfl⟩ := plinks_iff.1 hx
  exact (List.getElem?_eq_some_iff.1 ha).1
def rmP (rest : List Int) (k : Nat) : Int := rest.getD k 0
def subP (room : Int) (rest : List Int) (x : Lk) : List Int := rest.set x.k (rest.getD x.k 0 - room)
def subAll (room : Int) (rest : List Int) (p : List Lk) : List Int := p.foldl (subP room) rest
theorem subP_len (room : Int) (rest : List Int) (x : Lk) : (subP room rest x).length = rest.length := by simp [subP]
theorem subAll_len (room : Int) : ∀ (p : List Lk) (rest : List Int), (subAll room rest p).length = rest.length
  | [], rest => rfl
  | x :: p, rest => by
    have := subAll_len room p (subP room rest x)
    rw [subP_len] at this
    exact this
theorem subP_ok {n : Nat} {l : List Arc} {fl : List Int} {x : Lk} {room : Int} (hok : ∀ a ∈ l, okArc n a = true) (hl : l.length = fl.length) (hc : inCap l fl = true) (hx : x ∈ plinks l) (h0 : 0 ≤ room) (hr : room ≤ rmP fl x.k) :
    inCap l (subP room fl x) = true ∧ (∀ v : Nat, fval v l (subP room fl x) = fval v l fl - ((if x.f = v then room else 0) - (if x.t = v then room else 0))) ∧ ∀ k, k ≠ x.k → rmP (subP room fl x) k = rmP fl k := by
  obtain ⟨j, a, ha, rfl⟩ := plinks_iff.1 hx
  have hjl : j < l.length := (List.getElem?_eq_some_iff.1 ha).1
  have hfj : fl[j]? = some (fl.getD j 0) := by simp [List.getD_eq_getElem?_getD, show j < fl.length by omega]
  have hin := inCap_get l fl hc j a _ ha hfj
  obtain ⟨g1, g2, g3, g4, g5, g6, g7⟩ := okArc_iff.1 (hok a (List.mem_of_getElem? ha))
  unfold rmP at hr
  dsimp only at hr
  refine ⟨?_, ?_, fun k hk => ?_⟩
  · unfold subP
    exact inCap_set l fl j a _ ha hc (by dsimp only; omega) (by dsimp only; omega)
  · intro v
    unfold subP
    dsimp only
    rw [fval_set v l fl j a _ ha hl]
    have e1 : (a.f = (v : Int)) ↔ (a.f.toNat = v) := by omega
    have e2 : (a.t = (v : Int)) ↔ (a.t.toNat = v) := by omega
    simp only [e1, e2]
    split <;> split <;> omega
  · unfold rmP subP
    exact getD_set' (Ne.symm hk)
theorem subAll_ok {n : Nat} {l : List Arc} {room : Int} (hok : ∀ a ∈ l, okArc n a = true) (h0 : 0 ≤ room) {E : Lk → Prop} (hE : ∀ x, E x → x ∈ plinks l) {u w : Nat} {p : List Lk} (hp : Chn E u p w) :
    ∀ (fl : List Int), l.length = fl.length → inCap l fl = true → p.Pairwise (fun x y => x.k ≠ y.k) → (∀ x ∈ p, room ≤ rmP fl x.k) →
    inCap l (subAll room fl p) = true ∧ ∀ v : Nat, fval v l (subAll room fl p) = fval v l fl - ((if u = v then room else 0) - (if w = v then room else 0)) := by
  induction hp with
  | nil => intro fl _ hc _ _; exact ⟨hc, fun v => by simp [subAll]⟩
  | @cons x u p w hf hx _ ih =>
    intro fl hl hc hpw hr
    rw [List.pairwise_cons] at hpw
    obtain ⟨s1, s2, s3⟩ := subP_ok hok hl hc (hE x hx) h0 (hr x (by simp))
    obtain ⟨r1, r2⟩ := ih (subP room fl x) (by rw [subP_len]; exact hl) s1 hpw.2 (fun y hy => by rw [s3 y.k (Ne.symm (hpw.1 y hy))]; exact hr y (by simp [hy]))
    refine ⟨r1, fun v => ?_⟩
    have := r2 v
    rw [s2 v] at this
    show fval v l (subAll room (subP room fl x) p) = _
    rw [this, hf]
    split <;> split <;> split <;> omega
abbrev pE (l : List Arc) (fl : List Int) : Lk → Prop := opn (plinks l) (rmP fl)
abbrev pP (l : List Arc) (fl : List Int) (D : List Int) (s : Nat) : List Lk := pathD (nxt (plinks l) (rmP fl) D) D s
abbrev pRoom (l : List Arc) (fl : List Int) (D : List Int) (s : Nat) : Int := leastR (rmP fl) (pP l fl D s)
abbrev pNext (l : List Arc) (fl : List Int) (D : List Int) (s : Nat) : List Int := subAll (pRoom l fl D s) fl (pP l fl D s)
section
variable {n s t : Nat} {l : List Arc}
theorem pP_arcs (hok : ∀ a ∈ l, okArc n a = true) (hs : s < n) {fl D : List Int} (hD : IsDist n t (pE l fl) D) (h0 : 0 ≤ D.getD s 0) : (pP l fl D s).Pairwise (fun x y => x.k ≠ y.k) := by
  obtain ⟨k, hk⟩ := Int.eq_ofNat_of_zero_le h0
  have hp := path_sorted (pl_lt hok) hD k s hs hk
  have hc := (path_chn (pl_lt hok) hD k s hs hk).all
  refine List.Pairwise.imp_of_mem (fun {x y} hx hy hxy e => ?_) hp
  obtain ⟨i, a, ha, rfl⟩ := plinks_iff.1 (hc x hx).1.1
  obtain ⟨j, b, hb, rfl⟩ := plinks_iff.1 (hc y hy).1.1
  dsimp only at e hxy
  subst e
  rw [ha] at hb
  obtain rfl := Option.some.inj hb
  omega
theorem pNext_ok (hok : ∀ a ∈ l, okArc n a = true) (hs : s < n) (hst : s ≠ t) {fl D : List Int} (hf : Flw n l s t fl) (hD : IsDist n t (pE l fl) D) (h0 : 0 ≤ D.getD s 0) :
    Flw n l s t (pNext l fl D s) ∧ 0 < pRoom l fl D s ∧ fval s l (pNext l fl D s) = fval s l fl - pRoom l fl D s := by
  obtain ⟨k, hk⟩ := Int.eq_ofNat_of_zero_le h0
  have hch := path_chn (pl_lt hok) hD k s hs hk
  have hpos : 0 < pRoom l fl D s := leastR_pos _ _ _ (by omega) (fun x hx => (hch.all x hx).1.2)
  obtain ⟨r1, r2⟩ := subAll_ok hok (Int.le_of_lt hpos) (E := fun x => pE l fl x ∧ D.getD x.t 0 = D.getD x.f 0 - 1 ∧ D.getD x.f 0 ≤ k) (fun x hx => hx.1.1) hch fl hf.len hf.cap (pP_arcs hok hs hD h0) (fun x hx => (leastR_le _ _ _).2 x hx)
  refine ⟨⟨by rw [subAll_len]; exact hf.len, r1, fun v hv h1 h2 => ?_⟩, hpos, ?_⟩
  · rw [r2 v, if_neg (Ne.symm h1), if_neg (Ne.symm h2), hf.bal v hv h1 h2]; rfl
  · rw [r2 s, if_pos rfl, if_neg (Ne.symm hst)]; omega
end
inductive RunP (n : Nat) (l : List Arc) (s t : Nat) : List Int → List (List Lk × Int) → List Int → Prop
  | done {fl D : List Int} : IsDist n t (pE l fl) D → D.getD s 0 < 0 → RunP n l s t fl [] fl
  | step {fl D r : List Int} {ps : List (List Lk × Int)} : IsDist n t (pE l fl) D → 0 ≤ D.getD s 0 → RunP n l s t (pNext l fl D s) ps r → RunP n l s t fl ((pP l fl D s, pRoom l fl D s) :: ps) r
theorem RunP.uniq {n s t : Nat} {l : List Arc} (hok : ∀ a ∈ l, okArc n a = true) {fl F G : List Int} {ps qs : List (List Lk × Int)} (h1 : RunP n l s t fl ps F) (h2 : RunP n l s t fl qs G) : ps = qs ∧ F = G := by
  have hE : ∀ fl x, pE l fl x → x.f < n ∧ x.t < n := fun fl x hx => pl_lt hok x hx.1
  induction h1 generalizing G qs with
  | done hD hn =>
    cases h2 with
    | done => exact ⟨rfl, rfl⟩
    | step hD2 h0 _ => rw [hD.uniq (hE _) hD2] at hn; omega
  | step hD h0 _ ih =>
    cases h2 with
    | done hD2 hn => rw [hD.uniq (hE _) hD2] at h0; omega
    | step hD2 _ hr =>
      have e := hD.uniq (hE _) hD2
      subst e
      obtain ⟨e1, e2⟩ := ih hr
      exact ⟨by rw [e1], e2⟩
section
variable {n s t : Nat} {l : List Arc}
end
/-! ### a greater capacity -/
/-! ### arcs turned round, arcs in the opposite order -/
def turnA (a : Arc) : Arc := ⟨a.t, a.f, a.c⟩
theorem fval_turn (v : Int) : ∀ (l : List Arc) (fl : List Int), fval v (l.map turnA) fl = - fval v l fl
  | [], _ => by simp [fval]
  | _ :: _, [] => by simp [fval]
  | a :: l, x :: fl => by
    simp only [List.map_cons, fval, fval_turn v l fl, turnA]
    split <;> split <;> omega
theorem inCap_turn : ∀ (l : List Arc) (fl : List Int), inCap (l.map turnA) fl = inCap l fl
  | [], _ => by simp [inCap]
  | _ :: _, [] => by simp [inCap]
  | a :: l, x :: fl => by simp only [List.map_cons, inCap, inCap_turn l fl, turnA]
theorem netB_all : ∀ (l : List Arc) (fl : List Int), netB (fun _ => true) l fl = 0
  | [], _ => by simp [netB]
  | _ :: _, [] => by simp [netB]
  | a :: l, x :: fl => by simp only [netB, if_true]; rw [netB_all l fl]; omega
theorem sumTo_two {g : Nat → Int} {j k : Nat} (hjk : j ≠ k) : ∀ n, j < n → k < n → (∀ v, v < n → v ≠ j → v ≠ k → g v = 0) → sumTo g n = g j + g k
  | 0, h, _, _ => by omega
  | n + 1, h, h2, e => by
    simp only [sumTo]
    by_cases e1 : k = n
    · rw [sumTo_one (k := j) n (by omega) (fun v hv hne => e v (by omega) hne (by omega)), e1]
    · by_cases e2 : j = n
      · rw [sumTo_one (k := k) n (by omega) (fun v hv hne => e v (by omega) (by omega) hne), e2]; omega
      · rw [sumTo_two hjk n (by omega) (by omega) (fun v hv g1 g2 => e v (by omega) g1 g2), e n (by omega) (by omega) (by omega)]; omega
theorem Flw.ends {n s t : Nat} {l : List Arc} {fl : List Int} (hok : ∀ a ∈ l, okArc n a = true) (hs : s < n) (ht : t < n) (hst : s ≠ t) (hf : Flw n l s t fl) : fval t l fl = - fval s l fl := by
  have h := netB_eq (n := n) (fun _ => true) l fl hok
  rw [netB_all] at h
  rw [sumTo_two hst n hs ht (fun v hv g1 g2 => by simp only [if_true]; exact hf.bal v hv g1 g2)] at h
  simp only [if_true] at h
  omega
theorem Flw.turn {n s t : Nat} {l : List Arc} {fl : List Int} (hf : Flw n l s t fl) : Flw n (l.map turnA) t s fl :=
  ⟨by simp [hf.len], by rw [inCap_turn]; exact hf.cap, fun v hv g1 g2 => by rw [fval_turn, hf.bal v hv g2 g1]; rfl⟩
/-! ### differences of flows -/
end Go.Flow
/- The shipments of a flow can be made, and bring its value. No program in sight. No conditions. -/
namespace Go.Step
open Go.Flow (Flw fval inCap okArc okArc_iff)
section
variable {qs : List Int} {cs : List Ct} {bs : List Bk} {hs : List Hd} {d : Dm}
end
end Go.Step
/- The cut of a set of vertices. No program in sight. No conditions. -/
namespace Go.Step
def singI (d : Dm) (n : Int) (side : List Int) : Iv := (side.filter (fun v => decide (v / wd d = n))).map (fun v => (d.r + v % wd d, d.r + v % wd d + 1))
def sideI (d : Dm) (side : List Int) (n : Int) : Iv := insAll [] (singI d n side)
def sidesC (d : Dm) (nq : Nat) (side : List Int) : Cu := (List.range nq).map (fun n : Nat => sideI d side n)
section
variable {qs : List Int} {cs : List Ct} {bs : List Bk} {hs : List Hd} {d : Dm}
theorem capB_congr (h : VOk qs cs bs hs d) {B C : Int → Int → Bool} (hB : ∀ n t : Int, 0 ≤ n → n < (qs.length : Int) → d.r ≤ t → t ≤ d.e → B n t = C n t) : capB qs cs bs hs d B = capB qs cs bs hs d C := by
  unfold capB
  congr 1
  · refine sumT_congr (fun k hk => ?_)
    rw [← lsum_rngI, ← lsum_rngI]
    refine lsum_congr (fun t ht => ?_)
    rw [mem_rngI] at ht
    unfold waitB
    rw [hB _ t (by omega) (by omega) (by omega) (by omega), hB _ (t + 1) (by omega) (by omega) (by omega) (by omega)]
  · refine sumT_congr (fun k hk => ?_)
    rw [← lsum_rngI, ← lsum_rngI]
    refine lsum_congr (fun t ht => ?_)
    rw [mem_rngI] at ht
    unfold conB
    rw [Int.zero_add, Int.toNat_natCast, List.getElem?_eq_getElem hk]
    have k1 := h.ct _ (List.getElem_mem hk)
    generalize cs[k] = x at k1
    dsimp only
    by_cases hx : t + 1 + x.g ≤ d.e
    · rw [hB _ t k1.1.1 k1.1.2 (by omega) (by omega), hB _ (t + 1 + x.g) k1.2.1.1 k1.2.1.2 (by omega) hx]
    · rw [if_neg (fun h2 => hx h2.2.2.1), if_neg (fun h2 => hx h2.2.2.1)]
end
end Go.Step
/- The shipments of a flow, one after the other; what Shipments answers. No program in sight. No conditions. -/
namespace Go.Step
open Go.Flow
variable {qs : List Int} {cs : List Ct} {bs : List Bk} {hs : List Hd} {d : Dm}
end Go.Step
/- Shipments. -/
namespace Go.Proofs.YtknfhiolenobaaaGreat
open Go.Eng Go.Step
set_option maxRecDepth 100000
set_option maxHeartbeats 4000000

end Go.Proofs.YtknfhiolenobaaaGreat
/- Slices of sets. -/
namespace Go.Proofs.YtknfhiolenobaaaGreat
open Go.Eng Go.Step
set_option maxRecDepth 100000
set_option maxHeartbeats 4000000

abbrev Sq := (Option Addr × Nat) × List (Int × Int)
def encQ (x : Sq) : List Value := [.slice x.1.1 x.2.length x.1.2]
theorem encQ_len (x : Sq) : (encQ x).length = 1 := rfl
abbrev cuL (L : List Sq) : Cu := L.map (fun x => x.2)
def CutL (γ κ : PH) (v : Value) (L : List Sq) : Prop := SlE encQ 1 γ v L ∧ ∀ x ∈ L, SpAt κ (.slice x.1.1 x.2.length x.1.2) x.2 ∧ x.2.length ≤ 9223372036854775807
theorem CutL.row {γ κ : PH} {p : Option Addr} {n kk : Nat} {L : List Sq} (h : CutL γ κ (.slice p n kk) L) : CutRow γ κ p (cuL L) := fun i l hl => by
 rw [List.getElem?_map] at hl
 obtain ⟨x, hx, rfl⟩ := Option.map_eq_some_iff.1 hl
 obtain ⟨q, k, e, hr⟩ := h.1.val encQ_len
 simp only [Value.slice.injEq] at e
 obtain ⟨b, o, e2, hrd⟩ := hr i x hx
 obtain ⟨h1, h2⟩ := h.2 x (List.mem_of_getElem? hx)
 refine ⟨b, o, x.1.1, x.1.2, by rw [e.1, e2], ?_, h1, h2⟩
 have := hrd 0 _ rfl
 rwa [Nat.mul_one, Nat.add_zero] at this
end Go.Proofs.YtknfhiolenobaaaGreat
/- The ends of two sets, in their order. -/
namespace Go.Proofs.YtknfhiolenobaaaGreat
open Go.Eng Go.Step
set_option maxRecDepth 100000
set_option maxHeartbeats 4000000

end Go.Proofs.YtknfhiolenobaaaGreat
/- The ends of two sets, in their order: an iterator. -/
namespace Go.Proofs.YtknfhiolenobaaaGreat
open Go.Eng Go.Step
set_option maxRecDepth 100000
set_option maxHeartbeats 4000000

end Go.Proofs.YtknfhiolenobaaaGreat
/- Sets combined. -/
namespace Go.Proofs.YtknfhiolenobaaaGreat
open Go.Eng Go.Step
set_option maxRecDepth 100000
set_option maxHeartbeats 4000000

end Go.Proofs.YtknfhiolenobaaaGreat
/- How many ticks a set has; the sets of a set of vertices have as many as it has. No program in sight. No conditions. -/
namespace Go.Step
open Go.Flow (sideChk capacitySpec)
variable {qs : List Int} {cs : List Ct} {bs : List Bk} {hs : List Hd} {d : Dm}
end Go.Step
/- The sides of a cut are short. No program in sight. No conditions. -/
namespace Go.Step
section
variable {qs : List Int} {cs : List Ct} {bs : List Bk} {hs : List Hd} {d : Dm}
end
end Go.Step
/- Cuts of sets of vertices. -/
namespace Go.Proofs.YtknfhiolenobaaaGreat
open Go.Eng Go.Step
set_option maxRecDepth 100000
set_option maxHeartbeats 4000000

end Go.Proofs.YtknfhiolenobaaaGreat
/- Sizes, demands, equal cuts. -/
namespace Go.Proofs.YtknfhiolenobaaaGreat
open Go.Eng Go.Step
set_option maxRecDepth 100000
set_option maxHeartbeats 4000000

end Go.Proofs.YtknfhiolenobaaaGreat
/- Links, rooms, and the iterator that yields the links with room. -/
namespace Go.Proofs.YtknfhiolenobaaaGreat
open Go.Eng Go.Flow
set_option maxRecDepth 100000
set_option maxHeartbeats 4000000

def encL (x : Lk) : List Value := [int x.k, int x.f, int x.t]
theorem encL_len (x : Lk) : (encL x).length = 3 := rfl
theorem lkRow {ρ : PH} {p : Option Addr} {l : List Lk} (h : RowsE encL 3 ρ p l) {i : Nat} {x : Lk} (hx : l[i]? = some x) :
  ∃ b o, p = some ⟨b, o, none⟩ ∧ RdN ρ b (o + i * 3) [int x.k, int x.f, int x.t] := by
 obtain ⟨b, o, e, hr⟩ := h i x hx
 exact ⟨b, o, e, hr⟩
def openL (rm : Nat → Int) (l : List Lk) : List Lk := l.filter (fun x => decide (0 < rm x.k))
theorem openL_snoc (rm : Nat → Int) (l : List Lk) (x : Lk) : openL rm (l ++ [x]) = openL rm l ++ (if 0 < rm x.k then [x] else []) := by
 unfold openL
 rw [List.filter_append]
 by_cases h : 0 < rm x.k <;> simp [h]
theorem openL_take {rm : Nat → Int} {l : List Lk} {k : Nat} (h : k < l.length) (hp : 0 < rm l[k].k) : (openL rm l)[(openL rm (l.take k)).length]? = some l[k] := by
 have e : l = l.take k ++ (l[k] :: l.drop (k + 1)) := by
  rw [← List.drop_eq_getElem_cons h, List.take_append_drop]
 conv => lhs; rw [e]
 unfold openL
 rw [List.filter_append, List.getElem?_append_right (by simp)]
 have : List.filter (fun x => decide (0 < rm x.k)) (l[k] :: l.drop (k + 1)) = l[k] :: List.filter (fun x => decide (0 < rm x.k)) (l.drop (k + 1)) := by
  rw [List.filter_cons, if_pos (by simpa using hp)]
 rw [this]
 have hl : (List.take k (List.take k l ++ l[k] :: List.drop (k + 1) l)) = List.take k l := by rw [← e]
 rw [hl]
 simp

theorem open_spec (g l : Value) (hl1 : l.oneCell' = true) (hg1 : g.oneCell' = true) :
  Eng.Spec Tryz.prog (fv 67) [g, l] [] [] (fun v H' => ∃ bl bg, v = .func (.func 84) #[] #[.pointer (some ⟨bl, 0, none⟩), .pointer (some ⟨bg, 0, none⟩)] ∧
   H' = [sng bl (.cells #[l] 152 (0, 0)), sng bg (.cells #[g] 96 (0, 0))]) := by
 refine spec_in (cap := []) Tryz.func67 rfl rfl Tryz.ntmps67 rfl envZ (fun N β => ?_)
 refine AC ?_
 refine AA ?_
 refine BT (DW rfl hg1) rfl rfl rfl ?_
 rintro _ _ ⟨bg, rfl, rfl⟩
 refine BT (DW rfl hl1) rfl rfl rfl ?_
 rintro _ _ ⟨bl, rfl, rfl⟩
 refine AD ?_
 refine AF ?_
 refine AC ?_
 refine AA ?_
 refine A9 ?_
 refine AD ?_
 refine AF ?_
 exact AJ (res1 rfl rfl) rsubZ selZ ⟨bl, bg, rfl, rfl⟩

theorem open_iter (γ : PH) (gb bl bg : Nat) (lv room : Value) (ls : List Lk) (rm : Nat → Int) (Rr : List PH) (hls : SlE encL 3 γ lv ls) (hlen : ls.length ≤ 1000000) (hroom : rdc γ gb 2 = some room)
  (hrm : ∀ x ∈ ls, Ans Tryz.prog room [int x.k] Rr (fun v => v = int (rm x.k))) :
  Iter Tryz.prog (.func (.func 84) #[] #[.pointer (some ⟨bl, 0, none⟩), .pointer (some ⟨bg, 0, none⟩)])
   ([sng bl (.cells #[lv] 152 (0, 0)), sng bg (.cells #[.pointer (some ⟨gb, 0, none⟩)] 96 (0, 0)), γ] ++ Rr) ((openL rm ls).map (fun x => [.agg (encL x).toArray])) := by
 intro y S Own Inv Stop Ry hy hyl σ0 h0
 obtain ⟨yl, rfl⟩ := hyl
 obtain ⟨p, c, rfl, hr⟩ := hls.val encL_len
 have c1 : rdc (sng bl (.cells #[.slice p ls.length c] 152 (0, 0))) bl 0 = some (.slice p ls.length c) := by rw [rdc_sng]; rfl
 have c2 : rdc (sng bg (.cells #[.pointer (some ⟨gb, 0, none⟩)] 96 (0, 0))) bg 0 = some (.pointer (some ⟨gb, 0, none⟩)) := by rw [rdc_sng]; rfl
 simp only [List.cons_append, List.nil_append]
 refine spec_in (cap := [.pointer (some ⟨bl, 0, none⟩), .pointer (some ⟨bg, 0, none⟩)]) Tryz.func84 rfl rfl Tryz.ntmps84 rfl envZ (fun N β => ?_)
 refine AC ?_
 refine AA ?_
 refine AG ?_
 refine A0 ?_
 refine AB ?_
 refine AF ?_
 refine AQ ?_
 refine BN [0, 1, 2, 6, 7] ((0, σ0) : Nat × S) (fun x => x.1 ≤ ls.length ∧ Inv (openL rm (ls.take x.1)).length x.2) (fun x => [(8, int x.1)]) (fun x => Own x.2) (fun x => ls.length - x.1) pickZ ⟨by simp, by simpa [openL] using h0⟩ covZ Sel.refl ?_
 rintro ⟨k, σ⟩ ⟨hk, hI⟩
 simp only at hk hI
 by_cases hlt : k < ls.length
 ·obtain ⟨b', o, rfl, hA⟩ := lkRow hr (List.getElem?_eq_getElem hlt)
  have hrk := hrm ls[k] (List.getElem_mem hlt)
  have hsn := openL_snoc rm (ls.take k) ls[k]
  rw [← take_snoc' hlt] at hsn
  refine AC ?_
  refine AA ?_
  refine BF ?_
  refine AF ?_
  refine AC ?_
  refine AO rfl ?_
  refine AL ?_
  refine AC ?_
  refine AQ ?_
  refine AC ?_
  refine AA ?_
  refine BC ?_
  refine AM ?_
  refine AW ?_; rintro _ _ ⟨b, rfl, rfl⟩
  refine AU ?_; rintro _ _ ⟨rfl, rfl⟩
  refine AF ?_
  refine AC ?_
  by_cases hp : 0 < rm ls[k].k
  ·have hget := openL_take hlt hp
   have hyk := hy (openL rm (ls.take k)).length σ [.agg (encL ls[k]).toArray] (by rw [List.getElem?_map, hget]; rfl) hI
   rw [if_pos hp] at hsn
   refine BM (.q 0 (.q 1 (.q 2 (.q 3 (.q 4 (.q 5 (.l 6 .e (.q 7 (.q 8 (.q 9 (.q 10 (.l 11 .b (.q 12 (.q 13 .nil)))))))))))))) [] rfl (by kernel_rfl) Sel.nil ?_
   refine AR ?_
   refine BD ?_
   refine AY ?_
   refine AR ?_
   refine AY ?_
   refine AR ?_
   refine DK (CZ rfl hrk rfl rfl (fun τ hτ => .inl (by simp [hτ])) rfl rfl ?_)
   rintro _ rfl
   refine EH ?_
   refine AX ?_
   refine AX ?_
   refine CQ ?_
   refine DK (EO rfl hyk rfl rfl (Takes.skip Takes.all) (fun τ hτ => .inl (by simp [hτ])) rfl rfl (fun _ _ _ w hw => hw.sel Sel.nil) ?_)
   rintro v H' ⟨σ', rfl, ⟨rfl, hI'⟩ | ⟨rfl, hS⟩⟩
   ·refine D8 ?_
    refine B0 ?_
    refine BJ ?_
    refine AN rfl ?_
    refine AL ?_
    refine A7 ?_
    refine AA ?_
    refine BA ?_
    refine AB ?_
    refine AF ?_
    refine A4 (k + 1, σ') ⟨by simp only; omega, ?_⟩ (by simp only; omega) covZ Sel.left
    simp only
    rw [hsn]
    simpa using hI'
   ·refine D8 ?_
    refine B0 ?_
    refine BJ ?_
    refine AO rfl ?_
    exact AJ (res0 rfl) (fun _ h => h) Sel.left ⟨σ', rfl, .inr hS⟩
  ·rw [if_neg hp, List.append_nil] at hsn
   refine BM (.q 0 (.q 1 (.q 2 (.q 3 (.q 4 (.q 5 (.l 6 .e (.q 7 (.q 8 (.q 9 (.q 10 (.q 11 (.q 12 (.q 13 .nil)))))))))))))) [] rfl (by kernel_rfl) Sel.nil ?_
   refine AR ?_
   refine BD ?_
   refine AY ?_
   refine AR ?_
   refine AY ?_
   refine AR ?_
   refine DK (CZ rfl hrk rfl rfl (fun τ hτ => .inl (by simp [hτ])) rfl rfl ?_)
   rintro _ rfl
   refine EF ?_
   refine AX ?_
   refine AS rfl rfl rfl rfl rfl ?_
   refine AS rfl rfl rfl rfl rfl ?_
   refine AS rfl rfl rfl rfl rfl ?_
   refine AS rfl rfl rfl rfl rfl ?_
   refine B6 ?_
   refine BJ ?_
   refine AN rfl ?_
   refine AL ?_
   refine A7 ?_
   refine AA ?_
   refine BA ?_
   refine AB ?_
   refine AF ?_
   refine A4 (k + 1, σ) ⟨by simp only; omega, ?_⟩ (by simp only; omega) covZ (Sel.skip Sel.refl)
   simp only
   rw [hsn]; exact hI
 ·refine AC ?_
  refine AA ?_
  refine AZ ?_
  refine AF ?_
  refine AC ?_
  refine AN rfl ?_
  refine A8 rfl ?_
  refine CR (res0 rfl) (fun _ h => h) Sel.refl ⟨σ, rfl, .inl ?_⟩
  rw [List.take_of_length_le (by omega)] at hI
  simpa using hI
end Go.Proofs.YtknfhiolenobaaaGreat
/- Distances by a queue. -/
namespace Go.Proofs.YtknfhiolenobaaaGreat
open Go.Eng Go.Flow
set_option maxRecDepth 100000
set_option maxHeartbeats 4000000

theorem next_spec (bq : Nat) (qv : Value) (x : Value) (k : Nat) (xs : List Value) (ρq : PH) (hq : OwnO 3 1 qv (k + 1) (x :: xs) ρq) :
  Eng.Spec Tryz.prog (.func (.func 95) #[] #[.pointer (some ⟨bq, 0, none⟩)]) [] [] [sng bq (.cells #[qv] 22 (0, 0)), ρq]
   (fun v H' => v = x ∧ ∃ qv', OwnO 3 1 qv' k xs ρq ∧ qv'.oneCell' = true ∧ H' = [sng bq (.cells #[qv'] 22 (0, 0)), ρq]) := by
 obtain ⟨b, o, cap, rfl, h0, h1⟩ := hq.head
 refine spec_in (cap := [.pointer (some ⟨bq, 0, none⟩)]) Tryz.func95 rfl rfl Tryz.ntmps95 rfl envZ (fun N β => ?_)
 refine AC ?_
 refine AA ?_
 refine AD ?_
 refine AF ?_
 refine AC ?_
 refine AA ?_
 refine AG ?_
 refine CT ?_
 refine AG ?_
 refine AD ?_
 refine AF ?_
 refine AC ?_
 refine AA ?_
 refine AG ?_
 focus ((refine' CV _ rfl rfl rfl _; rotate_left; (apply FT (i := 1); exact rfl; exact rfl; exact rfl; exact rfl; omega)))
 refine BB ?_; rintro _ _ ⟨rfl, rfl⟩
 refine AF ?_
 refine AC ?_
 refine AA ?_
 refine AB ?_
 refine AD ?_
 refine AF ?_
 exact AJ (res1 rfl rfl) rsubZ selZ ⟨rfl, _, h1, rfl, rfl⟩

structure GAt (γ : PH) (gb n : Nat) (outs ins : Nat → List Lk) (room : Value) : Prop where
 o : ∃ ob c, rdc γ gb 0 = some (.slice (some ⟨ob, 0, none⟩) n c) ∧ ∀ v, v < n → ∃ lv, rdc γ ob v = some lv ∧ SlE encL 3 γ lv (outs v)
 i : ∃ ib c, rdc γ gb 1 = some (.slice (some ⟨ib, 0, none⟩) n c) ∧ ∀ v, v < n → ∃ lv, rdc γ ib v = some lv ∧ SlE encL 3 γ lv (ins v)
 r : rdc γ gb 2 = some room
structure GOk (n : Nat) (outs ins : Nat → List Lk) : Prop where
 n1 : n ≤ 2000
 len : ∀ v, (outs v).length ≤ 40000 ∧ (ins v).length ≤ 40000
 inT : ∀ v x, v < n → x ∈ ins v → x.t = v ∧ x.f < n ∧ x.k ≤ 40000
 outF : ∀ v x, v < n → x ∈ outs v → x.f = v ∧ x.t < n ∧ x.k ≤ 40000
 same : ∀ x : Lk, x.f < n → x.t < n → (x ∈ outs x.f ↔ x ∈ ins x.t)
def opens (n : Nat) (ins : Nat → List Lk) (rm : Nat → Int) (x : Lk) : Prop := x.t < n ∧ x ∈ ins x.t ∧ 0 < rm x.k
theorem opens_lt {n : Nat} {outs ins : Nat → List Lk} {rm : Nat → Int} (h : GOk n outs ins) (x : Lk) (hx : opens n ins rm x) : x.f < n ∧ x.t < n := ⟨(h.inT x.t x hx.1 hx.2.1).2.1, hx.1⟩
def qInts (q : List Nat) : List Value := q.map (fun (v : Nat) => int (v : Int))
theorem fillL (n k : Nat) (h : k < n) : (List.replicate k (-1 : Int) ++ List.replicate (n - k) 0).set k (-1) = List.replicate (k + 1) (-1) ++ List.replicate (n - (k + 1)) 0 := by
 rw [List.set_append_right _ _ (by simp)]
 simp only [List.length_replicate, Nat.sub_self]
 obtain ⟨m, hm⟩ : ∃ m, n - k = m + 1 := ⟨n - k - 1, by omega⟩
 rw [hm, List.replicate_succ, List.set_cons_zero, show n - (k + 1) = m from by omega, List.replicate_succ', List.append_assoc]
 rfl
theorem SlE.one {α : Type} {enc : α → List Value} {s : Nat} {ρ : PH} {v : Value} {l : List α} (h : SlE enc s ρ v l) : v.oneCell' = true := by
 obtain ⟨b, c, rfl⟩ := SlAt.cap h
 rfl
set_option maxHeartbeats 2000000 in
theorem distances_spec (γ : PH) (gb n t : Nat) (outs ins : Nat → List Lk) (room : Value) (rm : Nat → Int) (Rr : List PH) (hG : GAt γ gb n outs ins room) (hO : GOk n outs ins) (ht : t < n)
  (hrm : ∀ v x, v < n → x ∈ ins v → Ans Tryz.prog room [int x.k] Rr (fun v => v = int (rm x.k))) :
  Makes Tryz.prog (fv 80) [.pointer (some ⟨gb, 0, none⟩), int t] (γ :: Rr) (fun v ρ => ∃ b D, v = .slice (some ⟨b, 0, none⟩) n n ∧ ρ = sng b (.cells (ints D) 3 (0, 0)) ∧ IsDist n t (opens n ins rm) D) := by
 have hn := hO.n1
 obtain ⟨ob, oc, ho, _⟩ := hG.o
 obtain ⟨ib, ic, hi, hil⟩ := hG.i
 refine spec_in (cap := []) Tryz.func80 rfl rfl Tryz.ntmps80 rfl envZ (fun N β => ?_)
 refine DG ?_
 refine AC ?_
 refine AA ?_
 refine AD ?_
 refine AF ?_
 refine AC ?_
 refine AA ?_
 refine AB ?_
 refine BK ?_
 refine AH ?_
 refine AG ?_
 refine A0 ?_
 refine CB ?_; rintro _ _ ⟨b, rfl, rfl⟩
 refine BE ?_; rintro _ _ ⟨b, rfl, rfl⟩
 refine BB ?_; rintro _ _ ⟨rfl, rfl⟩
 refine AF ?_
 refine AC ?_
 refine AC ?_
 refine AA ?_
 refine AG ?_
 refine A0 ?_
 refine AB ?_
 refine AF ?_
 refine AQ ?_
 rename_i bd
 revert b; intro bo
 rw [show List.replicate n (0 : Int) = List.replicate 0 (-1) ++ List.replicate (n - 0) 0 from by simp]
 refine BN [0, 1, 5, 17, 18] (0 : Nat) (fun k => k ≤ n) (fun k => [(19, int k)]) (fun k => [sng bo (.cells #[.slice (some ⟨bd, 0, none⟩) n n] 22 (0, 0)), sng bd (.cells (ints (List.replicate k (-1) ++ List.replicate (n - k) 0)) 3 (0, 0)), emp]) (fun k => n - k) pickZ (by omega) covZ selZ ?_
 intro k hk
 have hfl : (List.replicate k (-1 : Int) ++ List.replicate (n - k) 0).length = n := by simp; omega
 by_cases hlt : k < n
 ·have hf := fillL n k hlt
  refine AC ?_
  refine AA ?_
  refine BF ?_
  refine AF ?_
  refine AC ?_
  refine AO rfl ?_
  refine AL ?_
  refine AC ?_
  refine AQ ?_
  refine AC ?_
  refine AA ?_
  refine AB ?_
  refine AD ?_
  refine AF ?_
  refine AA ?_
  refine AG ?_
  refine AB ?_
  refine BU ?_
  refine BW ?_; rintro _ _ ⟨rfl, rfl⟩
  refine AF ?_
  refine A7 ?_
  refine AA ?_
  refine BA ?_
  refine AB ?_
  refine AF ?_
  refine A4 (k + 1) (by omega) (by omega) covZ ?_
  rw [← hf]
  exact selZ
 obtain rfl : k = n := by omega
 rw [Nat.sub_self, List.replicate_zero, List.append_nil] at hfl ⊢
 refine AC ?_
 refine AA ?_
 refine AZ ?_
 refine AF ?_
 refine AC ?_
 refine AN rfl ?_
 refine A8 rfl ?_
 refine AC ?_
 refine AA ?_
 refine AG ?_
 refine AB ?_
 refine BU ?_
 refine BW ?_; rintro _ _ ⟨rfl, rfl⟩
 refine AF ?_
 refine AC ?_
 refine AA ?_
 refine AB ?_
 refine A5 ?_; rintro _ _ ⟨b, rfl, rfl⟩
 refine BE ?_; rintro _ _ ⟨b, rfl, rfl⟩
 refine BB ?_; rintro _ _ ⟨rfl, rfl⟩
 refine AF ?_
 refine AC ?_
 refine AA ?_
 refine A9 ?_
 refine AD ?_
 refine AF ?_
 refine AC ?_
 refine AQ ?_
 rename_i bi
 revert b; intro bq
 have hq0 : OwnO 3 1 (.slice (some ⟨bi, 0, none⟩) 1 1) 1 [int t] (sng bi (.cells [int (t : Int)].toArray 3 (0, 0))) := OwnS.ownO (n := 1) rfl (by simp [maxLen])
 refine ES [0, 1, 5, 7, 8] ((((List.replicate k (-1)).set t 0, [t]), (.slice (some ⟨bi, 0, none⟩) 1 1, sng bi (.cells [int (t : Int)].toArray 3 (0, 0)))), ([], emp)) (X := ((List Int × List Nat) × (Value × PH)) × (List Nat × PH))
  (fun x => x.2.1.map mk) (fun x => BInv k t (opens k ins rm) x.1.1.1 x.1.1.2 ∧ OwnO 3 1 x.1.2.1 x.1.1.2.length (qInts x.1.1.2) x.1.2.2 ∧ x.1.1.2.length + unl x.1.1.1 ≤ k ∧ (∀ u, u < k → x.1.1.1.getD u 0 + unl x.1.1.1 ≤ (k : Int)) ∧ MkIn x.2.2 x.2.1)
  (fun _ => []) (fun x => [sng bo (.cells #[.slice (some ⟨bd, 0, none⟩) k k] 22 (0, 0)), sng bd (.cells (ints x.1.1.1) 3 (0, 0)), sng bq (.cells #[x.1.2.1] 22 (0, 0)), x.1.2.2, x.2.2]) (fun x => 2 * unl x.1.1.1 + x.1.1.2.length)
  pickZ rfl ⟨BInv.start ht, hq0, by have := unl_start ht; simp only [List.length_singleton]; omega, fun u hu => by have := unl_start ht; dsimp only; rw [getD_set (by rw [List.length_replicate]; exact ht), getD_rep hu]; split <;> omega, MkIn.nil⟩ covZ selZ ?_
 rintro ⟨⟨⟨D, q⟩, ⟨qv, ρq⟩⟩, ⟨ms, μ⟩⟩ ⟨hB, hQ, hql, hub, hM⟩
 dsimp only at hB hQ hql hub hM ⊢
 cases q with
 | nil =>
  have hQ' : OwnO 3 1 qv 0 [] ρq := hQ
  obtain ⟨_, b1, o1, cap1, cur1, rfl, rfl, _⟩ := hQ'
  have hdist := hB.dist (opens_lt hO)
  refine AC ?_
  refine AC ?_
  refine AA ?_
  refine AG ?_
  refine A0 ?_
  refine BL ?_
  refine AF ?_
  refine AN rfl ?_
  refine A8 rfl ?_
  refine AC ?_
  refine AA ?_
  refine AG ?_
  refine AD ?_
  refine AF ?_
  exact EQ hM takeZ (res1 rfl rfl) rsubZ selZ ⟨_, ⟨bd, D, rfl, rfl, hdist⟩, rfl⟩
 | cons v q =>
  have hQ' : OwnO 3 1 qv (q.length + 1) (int v :: qInts q) ρq := hQ
  have hV0 := hB.take
  have hvn := hV0.vn
  obtain ⟨lv, hlv, hls⟩ := hil v hvn
  have hnx := next_spec bq qv (int v) q.length (qInts q) ρq hQ'
  obtain ⟨b1, o1, cap1, rfl, _, _⟩ := hQ'.head
  simp only [List.length_cons] at hql
  refine AC ?_
  refine AC ?_
  refine AA ?_
  refine AG ?_
  refine A0 ?_
  refine CM ?_
  refine AF ?_
  refine AO rfl ?_
  refine AL ?_
  refine AQ ?_
  refine AC ?_
  refine AA ?_
  refine AB ?_
  refine B5 hnx rfl rfl takesZ rdZ rfl rfl ?_
  rintro _ _ ⟨rfl, qv1, hQ1, hq1, rfl⟩
  simp only [List.cons_append, List.nil_append]
  refine BE ?_; rintro _ _ ⟨b, rfl, rfl⟩
  refine BB ?_; rintro _ _ ⟨rfl, rfl⟩
  refine AF ?_
  refine AC ?_
  revert b; intro b9
  refine BM (.q 0 (.q 1 (.q 2 (.q 3 (.q 4 (.q 5 (.q 6 (.q 7 (.l 8 .e .nil))))))))) [] rfl (by kernel_rfl) selZ ?_
  refine AX ?_
  refine AX ?_
  refine BD ?_
  refine AY ?_
  refine AR ?_
  refine AR ?_
  refine CX ?_
  refine AR ?_
  refine DK (EP rfl (open_spec _ _ (SlE.one hls) rfl) rfl rfl rdZ rfl rfl ?_)
  rintro _ _ ⟨bl, bg, rfl, rfl⟩
  simp only [List.cons_append, List.nil_append]
  refine BJ ?_
  refine AV (ρ := sng bl _) takeZ ?_
  refine AV (ρ := sng bg _) takeZ ?_
  refine AV (ρ := sng b9 _) takeZ ?_
  have hvl : rdc (sng b9 (.cells #[int (v : Int)] 3 (0, 0))) b9 0 = some (int v) := by rw [rdc_sng]; rfl
  refine AQ ?_
  refine D0 (gf := 84) (cap := [.pointer (some ⟨bl, 0, none⟩), .pointer (some ⟨bg, 0, none⟩)]) (ps := [46]) (X := (List Int × List Nat) × (Value × PH)) rfl Tryz.func84 rfl rfl
   (open_iter γ gb bl bg lv room (ins v) rm Rr hls (by have := (hO.len v).2; omega) hG.r (fun x hx => hrm v x hvn hx)) ?_
   (fun i x => VInv k t (opens k ins rm) x.1.1 v x.1.2 ((openL rm (ins v)).take i) ∧ OwnO 3 1 x.2.1 x.1.2.length (qInts x.1.2) x.2.2 ∧ x.1.2.length + unl x.1.1 + 1 ≤ k ∧ (∀ u, u < k → x.1.1.getD u 0 + unl x.1.1 ≤ (k : Int)) ∧ 2 * unl x.1.1 + x.1.2.length ≤ 2 * unl D + q.length)
   (fun x => [sng bo (.cells #[.slice (some ⟨bd, 0, none⟩) k k] 22 (0, 0)), sng bd (.cells (ints x.1.1) 3 (0, 0)), sng bq (.cells #[x.2.1] 22 (0, 0)), x.2.2])
   (fun _ _ => False) ((D, q), (qv1, ρq)) rfl takesZ ⟨by simpa using hV0, hQ1, by simp only; omega, hub, by simp only; omega⟩ ?_ ?_ ?_
  ·intro σ hσ
   simp only [List.cons_append, List.nil_append, List.mem_cons] at hσ ⊢
   rcases hσ with h | h | h | h <;> simp [h]
  ·rintro l r i ⟨⟨D1, q1⟩, ⟨qv2, ρ2⟩⟩ vs hvs ⟨hV, hQ2, hlq, hub2, hms⟩ hps has hbd hst hpe hfr
   dsimp only at hV hQ2 hlq hub2 hms ⊢
   obtain ⟨st, pe, fnn, tm, prm, asg, bdy, df⟩ := r
   simp only at hps has hbd hst hpe hfr
   subst hps has hbd hst hpe
   rw [List.getElem?_map] at hvs
   obtain ⟨x, hx, rfl⟩ := Option.map_eq_some_iff.1 hvs
   have hlt : i < (openL rm (ins v)).length := (List.getElem?_eq_some_iff.1 hx).1
   have hxe : (openL rm (ins v))[i] = x := (List.getElem?_eq_some_iff.1 hx).2
   have hxm : x ∈ openL rm (ins v) := List.mem_of_getElem? hx
   have hxi : x ∈ ins v ∧ 0 < rm x.k := by unfold openL at hxm; simpa using hxm
   obtain ⟨hxt, hxf, hxk⟩ := hO.inT v x hvn hxi.1
   have htk : (openL rm (ins v)).take (i + 1) = (openL rm (ins v)).take i ++ [x] := by rw [take_snoc' hlt, hxe]
   have hDl : D1.length = k := hV.len
   have hv0 := hV.v0
   have hvub := hub2 v hvn
   refine yield_spec hfr rfl (by intro p hp; simp at hp; omega) putiZ (fun N' β' => ?_)
   unfold encL
   refine AA ?_
   refine AW ?_; rintro _ _ ⟨b, rfl, rfl⟩
   refine AU ?_; rintro _ _ ⟨rfl, rfl⟩
   refine AF ?_
   refine DU rfl rfl ?_
   refine DZ takeZ rfl ?_
   by_cases hneg : D1.getD x.f 0 < 0
   ·have hE : opens k ins rm x := ⟨by omega, by rw [hxt]; exact hxi.1, hxi.2⟩
    have hp := hV.push hE hxf hxt hneg
    have hu := unl_set (D := D1) (i := x.f) (x := D1.getD v 0 + 1) (by omega) hneg (by omega)
    refine AQ ?_
    refine AC ?_
    refine AA ?_
    refine AG ?_
    refine AH ?_
    refine AG ?_
    refine BU ?_
    refine AG ?_
    refine BF ?_
    refine AF ?_
    refine AO rfl ?_
    refine AC ?_
    refine BM (.q 0 (.q 1 (.q 2 (.q 3 (.q 4 (.q 5 (.q 6 (.q 7 (.q 8 (.l 9 .b .nil)))))))))) [] rfl (by kernel_rfl) selZ ?_
    refine AR ?_
    refine AY ?_
    refine AR ?_
    refine AR ?_
    refine AR ?_
    refine CX ?_
    refine AR ?_
    refine DV ?_
    refine CX ?_
    refine GC ?_; rintro _ _ ⟨rfl, rfl⟩
    refine BJ ?_
    refine AA ?_
    refine AG ?_
    refine AH ?_
    refine AG ?_
    refine A5 ?_; rintro _ _ ⟨b, rfl, rfl⟩
    refine' BT (FZ (by_ := 8) (s := 1) (news := [int (x.f : Int)]) rfl rfl rfl rfl rfl rfl rfl hQ2 takeZ (cells_own memZ) rfl (by (repeat (first | exact (fun v hv => absurd hv List.not_mem_nil) | (refine List.forall_mem_cons.2 ⟨?_, ?_⟩; (focus (first | exact rfl | assumption))))); first | done | fail) (by simp only [maxLen]; omega) (by omega)) rfl rfl rfl _
    rintro q9 _ ⟨ρ3, hQ3, rfl⟩
    have hq9 : q9.oneCell' = true := by obtain ⟨_, _, _, _, _, rfl, _⟩ := hQ3; rfl
    have hQ4 : OwnO 3 1 q9 (q1 ++ [x.f]).length (qInts (q1 ++ [x.f])) ρ3 := by
     have : qInts (q1 ++ [x.f]) = qInts q1 ++ [int (x.f : Int)] := by simp [qInts]
     rw [this, List.length_append]
     exact hQ3
    refine BB ?_; rintro _ _ ⟨rfl, rfl⟩
    refine AF ?_
    refine A7 ?_
    refine C7 takeZ rsubZ selZ ⟨((D1.set x.f (D1.getD v 0 + 1), q1 ++ [x.f]), (q9, ρ3)), .inl ⟨rfl, ⟨?_, hQ4, ?_, ?_, ?_⟩, rfl⟩⟩
    ·dsimp only
     rw [htk]
     exact hp
    ·dsimp only
     rw [List.length_append, List.length_singleton]; omega
    ·intro u hu'
     dsimp only
     have := hub2 u hu'
     rw [getD_set (by omega)]
     split <;> omega
    ·dsimp only
     rw [List.length_append, List.length_singleton]; omega
   ·refine AQ ?_
    refine AC ?_
    refine AA ?_
    refine AG ?_
    refine AH ?_
    refine AG ?_
    refine BU ?_
    refine AG ?_
    refine AZ ?_
    refine AF ?_
    refine AN rfl ?_
    refine AL ?_
    refine A7 ?_
    refine C7 takeZ rsubZ selZ ⟨((D1, q1), (qv2, ρ2)), .inl ⟨rfl, ⟨?_, hQ2, hlq, hub2, hms⟩, rfl⟩⟩
    simp only
    rw [htk]
    exact hV.seen (by omega)
  ·rintro b2 ⟨⟨D1, q1⟩, ⟨qv2, ρ2⟩⟩ ⟨hV, hQ2, hlq, hub2, hms⟩
   dsimp only at hV hQ2 hlq hub2 hms ⊢
   simp only [List.cons_append, List.nil_append]
   refine ER (R' := β :: γ :: Rr) (by intro σ hσ; simp at hσ ⊢; rcases hσ with h | h | h <;> simp [h]) ?_
   refine DT (b := b2) takeZ (μ := μ) takeZ hM ?_
   intro μ2 hM2
   refine A7 ?_
   refine A7 ?_
   refine ED (((D1, q1), (qv2, ρ2)), (b2 :: ms, μ2)) rfl ⟨hV.done (opens_lt hO) (fun x hx hxt => ?_), hQ2, by simp only; omega, hub2, hM2⟩ (by simp only [List.length_cons]; omega) covZ selZ
   have hmem : x ∈ openL rm (ins v) := by
    unfold openL
    rw [List.mem_filter]
    have := hx.2.1
    rw [hxt] at this
    exact ⟨this, by simpa using hx.2.2⟩
   simpa [List.length_map] using hmem
  ·rintro _ _ _ h; exact h.elim
end Go.Proofs.YtknfhiolenobaaaGreat
/- The first shortest path, and the least room on it. -/
namespace Go.Proofs.YtknfhiolenobaaaGreat
open Go.Eng Go.Flow
set_option maxRecDepth 100000
set_option maxHeartbeats 4000000

def ksOf (p : List Lk) : List Int := p.map (fun (x : Lk) => (x.k : Int))
def nxO (outs : Nat → List Lk) (rm : Nat → Int) (D : List Int) (v : Nat) : Option Lk := (openL rm (outs v)).find? (near D v)
theorem nxO_some {n t : Nat} {outs ins : Nat → List Lk} {rm : Nat → Int} {D : List Int} (hO : GOk n outs ins) (hD : IsDist n t (opens n ins rm) D) {v : Nat} (hv : v < n) (hd : 0 < D.getD v 0) :
  ∃ x, nxO outs rm D v = some x ∧ x.f = v ∧ x.t < n ∧ x.k ≤ 40000 ∧ D.getD x.t 0 = D.getD v 0 - 1 ∧ opens n ins rm x := by
 obtain ⟨y, hy, hyf, hyt⟩ := hD.step v hv hd
 have hyn := opens_lt hO y hy
 have hyo : y ∈ outs v := by
  have := (hO.same y hyn.1 hyn.2).2 hy.2.1
  rwa [hyf] at this
 have hmem : y ∈ openL rm (outs v) := by
  unfold openL
  rw [List.mem_filter]
  exact ⟨hyo, by simpa using hy.2.2⟩
 cases e : nxO outs rm D v with
 | none =>
  unfold nxO at e
  rw [List.find?_eq_none] at e
  exact absurd (by unfold near; rw [hyt]; simp) (e y hmem)
 | some x =>
  have hm := List.mem_of_find?_eq_some e
  have hp := List.find?_some e
  unfold openL at hm
  rw [List.mem_filter] at hm
  obtain ⟨h1, h2, h3⟩ := hO.outF v x hv hm.1
  refine ⟨x, rfl, h1, h2, h3, by simpa [near] using hp, h2, (hO.same x (by omega) h2).1 (by rw [h1]; exact hm.1), by simpa using hm.2⟩
set_option maxHeartbeats 2000000 in
theorem path_spec (γ : PH) (gb n s t : Nat) (outs ins : Nat → List Lk) (room : Value) (rm : Nat → Int) (Rr : List PH) (hG : GAt γ gb n outs ins room) (hO : GOk n outs ins) (hs : s < n) (ht : t < n)
  (hrm : ∀ v x, v < n → x ∈ ins v → Ans Tryz.prog room [int x.k] Rr (fun v => v = int (rm x.k))) :
  Makes Tryz.prog (fv 60) [.pointer (some ⟨gb, 0, none⟩), int s, int t] (γ :: Rr) (fun v ρ => ∃ D pv, IsDist n t (opens n ins rm) D ∧ v = .tuple #[pv, .bool (decide (0 ≤ D.getD s 0))] ∧
   OwnS 3 1 pv (pathD (nxO outs rm D) D s).length ((ksOf (pathD (nxO outs rm D) D s)).map int) ρ) := by
 have hn := hO.n1
 obtain ⟨ob, oc, ho, hol⟩ := hG.o
 refine spec_in (cap := []) Tryz.func60 rfl rfl Tryz.ntmps60 rfl envZ (fun N β => ?_)
 refine DG ?_
 refine AC ?_
 refine AA ?_
 refine AD ?_
 refine AD ?_
 refine AF ?_
 refine AC ?_
 refine AA ?_
 refine AB ?_
 refine AB ?_
 refine DP (distances_spec γ gb n t outs ins room rm Rr hG hO ht hrm) rfl rfl rdZ rfl rfl ?_
 rintro _ ρD ⟨bD, D, rfl, rfl, hD⟩
 have hDl := hD.len
 refine BE ?_; rintro _ _ ⟨b, rfl, rfl⟩
 refine BB ?_; rintro _ _ ⟨rfl, rfl⟩
 refine AF ?_
 refine AC ?_
 refine AC ?_
 refine AA ?_
 refine AG ?_
 refine AB ?_
 refine BU ?_
 refine AG ?_
 revert b; intro b8
 by_cases hneg : D.getD s 0 < 0
 ·refine BF ?_
  refine AF ?_
  refine AO rfl ?_
  refine AC ?_
  refine AA ?_
  refine AD ?_
  refine AD ?_
  refine AF ?_
  refine AJ (res2 rfl rfl rfl) rsubZ selZ ⟨emp, ⟨D, .slice none 0 0, hD, ?_, ?_⟩, rfl⟩
  ·rw [show decide (0 ≤ D.getD s 0) = false from decide_eq_false (by omega)]
  ·rw [pathD_end (by omega)]
   exact OwnS.nil _ _
 refine AZ ?_
 refine AF ?_
 refine AN rfl ?_
 refine AL ?_
 refine AC ?_
 refine AA ?_
 refine BE ?_; rintro _ _ ⟨b, rfl, rfl⟩
 refine AF ?_
 refine AC ?_
 refine AC ?_
 refine AA ?_
 refine AB ?_
 refine BE ?_; rintro _ _ ⟨b, rfl, rfl⟩
 refine BB ?_; rintro _ _ ⟨rfl, rfl⟩
 refine AF ?_
 refine AQ ?_
 rename_i b9
 revert b; intro b10
 refine AV (ρ := sng b8 _) takeZ ?_
 refine AV (ρ := sng bD _) takeZ ?_
 have c8 : rdc (sng b8 (.cells #[.slice (some ⟨bD, 0, none⟩) n n] 22 (0, 0))) b8 0 = some (.slice (some ⟨bD, 0, none⟩) n n) := by rw [rdc_sng]; rfl
 have hub := hD.lt (opens_lt hO) ht hs
 refine DG ?_
 refine ES [0, 1, 2, 8, 9] (((([] : List Lk), s), ((.slice none 0 0, emp), b10)), ([], emp)) (X := ((List Lk × Nat) × ((Value × PH) × Nat)) × (List Nat × PH))
  (fun x => x.2.1.map mk) (fun x => x.1.1.2 < n ∧ 0 ≤ D.getD x.1.1.2 0 ∧ pathD (nxO outs rm D) D s = x.1.1.1 ++ pathD (nxO outs rm D) D x.1.1.2 ∧ OwnS 3 1 x.1.2.1.1 x.1.1.1.length ((ksOf x.1.1.1).map int) x.1.2.1.2 ∧ x.1.1.1.length + (D.getD x.1.1.2 0).toNat ≤ n ∧ MkIn x.2.2 x.2.1)
  (fun x => [(10, .pointer (some ⟨x.1.2.2, 0, none⟩))]) (fun x => [sng x.1.2.2 (.cells #[int (x.1.1.2 : Int)] 3 (0, 0)), sng b9 (.cells #[x.1.2.1.1] 22 (0, 0)), x.1.2.1.2, x.2.2]) (fun x => (D.getD x.1.1.2 0).toNat)
  pickZ rfl ⟨hs, by dsimp only; omega, rfl, OwnS.nil _ _, by dsimp only [List.length_nil]; omega, MkIn.nil⟩ covZ selZ ?_
 rintro ⟨⟨⟨pre, v⟩, ⟨⟨pv, ρp⟩, bv⟩⟩, ⟨ms, μ⟩⟩ ⟨hv, hd0, hpre, hP, hln, hM⟩
 dsimp only at hv hd0 hpre hP hln hM ⊢
 by_cases hvt : v = t
 ·refine AC ?_
  refine AC ?_
  refine AA ?_
  refine AG ?_
  refine AB ?_
  refine A6 ?_
  refine AF ?_
  refine AN rfl ?_
  refine A8 rfl ?_
  refine AC ?_
  refine AA ?_
  refine AG ?_
  refine AD ?_
  refine AD ?_
  refine AF ?_
  refine EQ hM takeZ (res2 rfl rfl rfl) rsubZ selZ ⟨ρp, ⟨D, pv, hD, ?_, ?_⟩, rfl⟩
  ·rw [show decide (0 ≤ D.getD s 0) = true from decide_eq_true (by omega)]
   rfl
  ·rw [hpre, pathD_end (by rw [hvt, hD.at0]; omega), List.append_nil]
   exact hP
 ·have hdv : 0 < D.getD v 0 := by
   by_cases h0 : D.getD v 0 = 0
   ·exact absurd (hD.zero v hv h0) hvt
   ·omega
  obtain ⟨x0, hx0, hx0f, hx0t, hx0k, hx0d, _⟩ := nxO_some hO hD hv hdv
  obtain ⟨lv, hlv, hls⟩ := hol v hv
  refine AC ?_
  refine AC ?_
  refine AA ?_
  refine AG ?_
  refine AB ?_
  refine CC ?_
  refine AF ?_
  refine AO rfl ?_
  refine AL ?_
  refine AC ?_
  refine AQ ?_
  refine AC ?_
  refine BM (.q 0 (.q 1 (.q 2 (.q 3 (.q 4 (.q 5 (.q 6 (.q 7 (.l 8 .e .nil))))))))) [] rfl (by kernel_rfl) selZ ?_
  refine AX ?_
  refine AX ?_
  refine BD ?_
  refine AY ?_
  refine AR ?_
  refine AR ?_
  refine CX ?_
  refine AR ?_
  refine DK (EP rfl (open_spec _ _ (SlE.one hls) rfl) rfl rfl rdZ rfl rfl ?_)
  rintro _ _ ⟨bl, bg, rfl, rfl⟩
  simp only [List.cons_append, List.nil_append]
  refine BJ ?_
  refine AV (ρ := sng bl _) takeZ ?_
  refine AV (ρ := sng bg _) takeZ ?_
  refine AQ ?_
  refine D0 (gf := 84) (cap := [.pointer (some ⟨bl, 0, none⟩), .pointer (some ⟨bg, 0, none⟩)]) (ps := [33]) (X := (Value × PH) × Nat) rfl Tryz.func84 rfl rfl
   (open_iter γ gb bl bg lv room (outs v) rm Rr hls (by have := (hO.len v).1; omega) hG.r (fun x hx => by
    obtain ⟨h1, h2, _⟩ := hO.outF v x hv hx
    exact hrm x.t x h2 ((hO.same x (by omega) h2).1 (by rw [h1]; exact hx)))) ?_
   (fun i x => x = ((pv, ρp), v) ∧ ∀ y ∈ (openL rm (outs v)).take i, near D v y = false)
   (fun x => [sng bv (.cells #[int (x.2 : Int)] 3 (0, 0)), sng b9 (.cells #[x.1.1] 22 (0, 0)), x.1.2])
   (fun c x => c = .exit 2 ∧ x.2 = x0.t ∧ OwnS 3 1 x.1.1 (pre ++ [x0]).length ((ksOf (pre ++ [x0])).map int) x.1.2) ((pv, ρp), v) rfl takesZ ⟨rfl, by simp⟩ ?_ ?_ ?_
  ·intro σ hσ
   simp only [List.cons_append, List.nil_append, List.mem_cons] at hσ ⊢
   rcases hσ with h | h | h | h <;> simp [h]
  ·rintro l r i x' vs hvs ⟨rfl, hno⟩ hps has hbd hst hpe hfr
   dsimp only at hno ⊢
   obtain ⟨st, pe, fnn, tm, prm, asg, bdy, df⟩ := r
   simp only at hps has hbd hst hpe hfr
   subst hps has hbd hst hpe
   rw [List.getElem?_map] at hvs
   obtain ⟨x, hx, rfl⟩ := Option.map_eq_some_iff.1 hvs
   have hlt : i < (openL rm (outs v)).length := (List.getElem?_eq_some_iff.1 hx).1
   have hxe : (openL rm (outs v))[i] = x := (List.getElem?_eq_some_iff.1 hx).2
   have hxm : x ∈ openL rm (outs v) := List.mem_of_getElem? hx
   have hxi : x ∈ outs v ∧ 0 < rm x.k := by unfold openL at hxm; simpa using hxm
   obtain ⟨hxf, hxt, hxk⟩ := hO.outF v x hv hxi.1
   have htk : (openL rm (outs v)).take (i + 1) = (openL rm (outs v)).take i ++ [x] := by rw [take_snoc' hlt, hxe]
   have hvub := hD.lt (opens_lt hO) ht hv
   have hxlo := hD.low x.t hxt
   have hxub := hD.lt (opens_lt hO) ht hxt
   refine yield_spec hfr rfl (by intro p hp; simp at hp; omega) putiZ (fun N' β' => ?_)
   unfold encL
   refine AA ?_
   refine AW ?_; rintro _ _ ⟨b, rfl, rfl⟩
   refine AU ?_; rintro _ _ ⟨rfl, rfl⟩
   refine AF ?_
   refine DU rfl rfl ?_
   refine DZ takeZ rfl ?_
   refine AQ ?_
   refine AC ?_
   refine BM (.q 0 (.q 1 (.q 2 (.q 3 (.q 4 (.q 5 (.q 6 (.q 7 (.q 8 (.q 9 (.q 10 .nil))))))))))) [] rfl (by kernel_rfl) selZ ?_
   by_cases hnr : D.getD x.t 0 = D.getD v 0 - 1
   ·have hfx : nxO outs rm D v = some x := find_of_take hx (by unfold near; rw [hnr]; simp) hno
    obtain rfl : x0 = x := by rw [hfx] at hx0; exact (Option.some.inj hx0).symm
    refine AR ?_
    refine AY ?_
    refine AR ?_
    refine CX ?_
    refine AR ?_
    refine AR ?_
    refine AR ?_
    refine CX ?_
    refine AR ?_
    refine FH ?_
    refine FK ?_
    refine BJ ?_
    refine AO rfl ?_
    refine AC ?_
    have hpv : pv.oneCell' = true := SlE.one (ownInts (e := 3) (l := ksOf pre) (ρ := ρp) (by rw [show (ksOf pre).length = pre.length from by simp [ksOf]]; exact hP))
    refine BM (.q 0 (.q 1 (.q 2 (.p 5 (.p 6 (.l 3 .e (.l 4 .b (.l 7 .b (.l 8 .b .nil))))))))) [sng b (.cells #[int (x0.k : Int), int (x0.f : Int), int (x0.t : Int)] 158 (0, 0))] rfl (by kernel_rfl) selZ ?_
    refine AR ?_
    refine AY ?_
    refine AR ?_
    refine F7 ?_
    refine F6 ?_
    refine CY ?_; rintro _ _ ⟨b, rfl, rfl⟩
    refine DK ?_
    refine' a_b rfl _ rfl rfl rfl _ _
    rotate_left
    ·exact DM (by_ := 8) (s := 1) (news := [int (x0.k : Int)]) rfl rfl rfl rfl rfl rfl rfl hP takeZ (cells_own memZ) rfl (by (repeat (first | exact (fun v hv => absurd hv List.not_mem_nil) | (refine List.forall_mem_cons.2 ⟨?_, ?_⟩; (focus (first | exact rfl | assumption))))); first | done | fail) (by omega) (by simp only [maxLen]; omega) (by omega)
    ·rintro _ _ ⟨_, _, rfl⟩ w hw; exact hw.sel selZ
    rintro q9 _ ⟨ρ3, hQ3, rfl⟩
    have hQ4 : OwnS 3 1 q9 (pre ++ [x0]).length ((ksOf (pre ++ [x0])).map int) ρ3 := by
     have : (ksOf (pre ++ [x0])).map int = (ksOf pre).map int ++ [int (x0.k : Int)] := by simp [ksOf]
     rw [this, List.length_append]
     exact hQ3
    have hq9 : q9.oneCell' = true := SlE.one (ownInts (e := 3) (l := ksOf (pre ++ [x0])) (ρ := ρ3) (by rw [show (ksOf (pre ++ [x0])).length = (pre ++ [x0]).length from by simp [ksOf]]; exact hQ4))
    refine EG ?_; rintro _ _ ⟨rfl, rfl⟩
    refine EG ?_; rintro _ _ ⟨rfl, rfl⟩
    refine BJ ?_
    skip
    exact EW rfl takeZ rsubZ selZ ⟨((q9, ρ3), x0.t), .inr ⟨rfl, .exit 2, ⟨rfl, rfl, hQ4⟩, rfl⟩⟩
   ·refine AR ?_
    refine AY ?_
    refine AR ?_
    refine CX ?_
    refine AR ?_
    refine AR ?_
    refine AR ?_
    refine CX ?_
    refine AR ?_
    refine FH ?_
    refine EK ?_
    refine BJ ?_
    refine AN rfl ?_
    refine AL ?_
    refine A7 ?_
    refine C7 takeZ rsubZ selZ ⟨((pv, ρp), v), .inl ⟨rfl, ⟨rfl, ?_⟩, rfl⟩⟩
    rw [htk]
    intro y hy
    rcases List.mem_append.1 hy with hy | hy
    ·exact hno y hy
    ·rw [List.mem_singleton.1 hy]
     exact decide_eq_false hnr
  ·rintro b2 x' ⟨rfl, hno⟩
   exfalso
   have hm := List.mem_of_find?_eq_some hx0
   have hp := List.find?_some hx0
   rw [hno x0 (by simpa [List.length_map] using hm)] at hp
   simp at hp
  ·rintro b2 c ⟨⟨pv2, ρ2⟩, v2⟩ ⟨rfl, hv2, hP2⟩
   dsimp only at hv2 hP2 ⊢
   subst hv2
   simp only [List.cons_append, List.nil_append]
   refine ER (R' := sng bD (.cells (ints D) 3 (0, 0)) :: sng b8 (.cells #[.slice (some ⟨bD, 0, none⟩) n n] 22 (0, 0)) :: β :: γ :: Rr) (by intro σ hσ; simp at hσ ⊢; rcases hσ with h | h | h | h | h <;> simp [h]) ?_
   refine DT (b := b2) takeZ (μ := μ) takeZ hM ?_
   intro μ2 hM2
   refine A8 rfl ?_
   refine A7 ?_
   refine AC ?_
   refine AA ?_
   refine AG ?_
   refine AF ?_
   refine AA ?_
   refine BE ?_; rintro _ _ ⟨b, rfl, rfl⟩
   refine BB ?_; rintro _ _ ⟨rfl, rfl⟩
   refine AF ?_
   refine ED (((pre ++ [x0], x0.t), ((pv2, ρ2), b)), (b2 :: ms, μ2)) rfl ⟨hx0t, by dsimp only; omega, ?_, hP2, ?_, hM2⟩ (by dsimp only; omega) covZ selZ
   ·dsimp only
    rw [hpre, pathD_step hx0 hdv hx0d, List.append_assoc]; rfl
   ·dsimp only
    rw [List.length_append, List.length_singleton]; omega
end Go.Proofs.YtknfhiolenobaaaGreat
/- The least room on a path; graphs: new, a link added; the room of a residual arc. -/
namespace Go.Proofs.YtknfhiolenobaaaGreat
open Go.Eng Go.Flow
set_option maxRecDepth 100000
set_option maxHeartbeats 4000000

theorem least_spec (γ ρ : PH) (gb : Nat) (room pv : Value) (rm : Nat → Int) (Rr : List PH) (p : List Lk) (hG : rdc γ gb 2 = some room) (hp : IntsAt ρ pv (ksOf p)) (hl : p.length ≤ 100000)
  (hrm : ∀ x ∈ p, Ans Tryz.prog room [int x.k] Rr (fun v => v = int (rm x.k))) :
  Ans Tryz.prog (fv 61) [.pointer (some ⟨gb, 0, none⟩), pv] (γ :: ρ :: Rr) (fun v => v = int (leastR rm p)) := by
 obtain ⟨q, c, rfl, hr⟩ := hp.val Eng.encI_len
 have hkl : (ksOf p).length = p.length := by simp [ksOf]
 refine spec_in (cap := []) Tryz.func61 rfl rfl Tryz.ntmps61 rfl envZ (fun N β => ?_)
 refine AC ?_
 refine AA ?_
 refine AD ?_
 refine AF ?_
 refine AC ?_
 refine AA ?_
 refine AD ?_
 refine AF ?_
 refine AC ?_
 refine AC ?_
 refine AA ?_
 refine AB ?_
 refine A0 ?_
 refine AB ?_
 refine AF ?_
 refine AQ ?_
 refine BN [0, 1, 8, 9] ((0, 1099511627776) : Nat × Int) (fun x => x.1 ≤ p.length ∧ x.2 = leastR rm (p.take x.1)) (fun x => [(5, int x.2), (10, int x.1)]) (fun _ => []) (fun x => p.length - x.1) pickZ ⟨by simp, by simp [leastR]⟩ covZ selZ ?_
 rintro ⟨k, y⟩ ⟨hk, hy⟩
 simp only at hk hy
 by_cases hlt : k < p.length
 ·have hx : (ksOf p)[k]? = some (p[k].k : Int) := by simp [ksOf, hlt]
  obtain ⟨b, o, rfl, h0⟩ := hr.int hx
  have hcall := hrm p[k] (List.getElem_mem hlt)
  refine AC ?_
  refine AA ?_
  refine BF ?_
  refine AF ?_
  refine AC ?_
  refine AO rfl ?_
  refine AL ?_
  refine AC ?_
  refine AQ ?_
  refine AC ?_
  refine AA ?_
  refine BS ?_
  refine AG ?_
  refine AD ?_
  refine AF ?_
  refine AA ?_
  refine AB ?_
  refine AB ?_
  refine BK ?_
  refine AH ?_
  refine AG ?_
  refine AB ?_
  focus ((refine AT hcall rfl rfl (fun τ hτ => .inl (by simp [hτ])) rfl rfl ?_; rintro v rfl))
  refine C4 ?_
  refine AD ?_
  refine AF ?_
  refine A7 ?_
  refine AA ?_
  refine BA ?_
  refine AB ?_
  refine AF ?_
  refine A4 (k + 1, _) ⟨by simp only; omega, ?_⟩ (by simp only; omega) covZ selZ
  simp only
  rw [take_snoc' hlt, leastR_snoc, ← hy]
 ·refine AC ?_
  refine AA ?_
  refine AZ ?_
  refine AF ?_
  refine AC ?_
  refine AN rfl ?_
  refine A8 rfl ?_
  refine AC ?_
  refine AA ?_
  refine AB ?_
  refine AD ?_
  refine AF ?_
  refine AJ (res1 rfl rfl) rsubZ selZ ⟨rfl, ?_⟩
  rw [hy, List.take_of_length_le (by omega)]

abbrev gHead (gb ob ib n : Nat) (room : Value) : PH := sng gb (.cells #[.slice (some ⟨ob, 0, none⟩) n n, .slice (some ⟨ib, 0, none⟩) n n, room] 156 (0, 0))
abbrev gRow (b : Nat) (vs : List Value) : PH := sng b (.cells vs.toArray 152 (0, 0))
theorem newGraph_spec (n : Nat) (f : Nat) (cap : List Value) (hn : n ≤ 2000) :
  Eng.Spec Tryz.prog (fv 69) [int n, .func (.func f) #[] cap.toArray] [] [] (fun v H' => ∃ gb ob ib, v = .pointer (some ⟨gb, 0, none⟩) ∧
   H' = [gHead gb ob ib n (.func (.func f) #[] cap.toArray), gRow ob (List.replicate n (.slice none 0 0)), gRow ib (List.replicate n (.slice none 0 0))]) := by
 refine spec_in (cap := []) Tryz.func69 rfl rfl Tryz.ntmps69 rfl envZ (fun N β => ?_)
 refine AC ?_
 refine AA ?_
 refine AD ?_
 refine AF ?_
 refine AC ?_
 refine BM (.q 0 (.q 2 (.q 4 (.l2 1 .e (.l 3 .e (.q 5 (.l 6 .e (.q 7 .nil)))) 3 .e (.l 1 .e (.q 5 (.l 6 .e (.q 7 .nil)))))))) [] rfl (by kernel_rfl) selZ ?_
 repeat' (first
  | (refine AX ?_)
  | (refine C5 ?_)
  | (refine DQ ?_)
  | (refine BJ ?_)
  | (refine GZ ?_ ?_)
  | (refine GK ?_; rintro _ _ ⟨b, rfl, rfl⟩)
  | (refine G6 ?_; rintro _ _ ⟨b, rfl, rfl⟩)
  | (refine GJ ?_; rintro _ _ ⟨b, rfl, rfl⟩)
  | fail)
 repeat' (first
  | fail)
 all_goals exact AJ (res1 rfl rfl) rsubZ selZ ⟨_, _, _, rfl, rfl⟩
theorem OwnS.one {e : TypeId} {size : Nat} {v : Value} {n : Nat} {xs : List Value} {ρ : PH} (h : OwnS e size v n xs ρ) : v.oneCell' = true := by
 obtain ⟨b, c, rfl⟩ := h.at.cap
 rfl
set_option maxHeartbeats 4000000 in
theorem add_spec (gb ob ib n k f t : Nat) (room : Value) (ov iv : List Value) (lo li : List Lk) (ρo ρi : PH) (hov : ov.length = n) (hiv : iv.length = n) (hf : f < n) (ht : t < n)
  (ho : ∃ u, ov[f]? = some u ∧ OwnS 158 3 u lo.length (lo.flatMap encL) ρo) (hi : ∃ u, iv[t]? = some u ∧ OwnS 158 3 u li.length (li.flatMap encL) ρi) (hlo : lo.length ≤ 40000) (hli : li.length ≤ 40000) :
  Eng.Spec Tryz.prog (fv 71) [.pointer (some ⟨gb, 0, none⟩), int k, int f, int t] [] [gHead gb ob ib n room, gRow ob ov, gRow ib iv, ρo, ρi] (fun v H' => v = .tuple #[] ∧ ∃ q1 q2 ρ1 ρ2,
   OwnS 158 3 q1 (lo ++ [(⟨k, f, t⟩ : Lk)]).length ((lo ++ [(⟨k, f, t⟩ : Lk)]).flatMap encL) ρ1 ∧ OwnS 158 3 q2 (li ++ [(⟨k, f, t⟩ : Lk)]).length ((li ++ [(⟨k, f, t⟩ : Lk)]).flatMap encL) ρ2 ∧
   H' = [gHead gb ob ib n room, gRow ob (ov.set f q1), gRow ib (iv.set t q2), ρ1, ρ2]) := by
 obtain ⟨uo, huo, hO⟩ := ho
 obtain ⟨ui, hui, hI⟩ := hi
 have co : rdc (gRow ob ov) ob f = some uo := by rw [rdc_sng]; simpa using huo
 have ci : rdc (gRow ib iv) ib t = some ui := by rw [rdc_sng]; simpa using hui
 refine spec_in (cap := []) Tryz.func71 rfl rfl Tryz.ntmps71 rfl envZ (fun N β => ?_)
 refine AC ?_
 refine AA ?_
 refine AB ?_
 refine AB ?_
 refine AB ?_
 refine BO ?_
 refine AW ?_; rintro _ _ ⟨b, rfl, rfl⟩
 refine AU ?_; rintro _ _ ⟨rfl, rfl⟩
 refine AF ?_
 refine BM (.p 0 (.p 1 (.p 2 (.p 3 (.p 4 (.p 5 (.p 6 (.p 7 (.p 8 (.p 9 (.q 10 (.q 11 (.q 12 (.q 13 (.q 14 (.q 15 (.q 16 (.q 17 (.p 20 (.p 21 (.p 22 (.p 23 (.p 24 (.p 25 (.p 26 (.p 27 (.l2 18 .e (.l2 19 .b (.l 28 .e (.l 29 .b (.q 30 (.l 31 .b (.q 32 (.l 33 .b .nil)))))) 28 .e (.l 19 .b (.l 29 .b (.q 30 (.l 31 .b (.q 32 (.l 33 .b .nil))))))) 28 .e (.l 18 .e (.l 19 .b (.l 29 .b (.q 30 (.l 31 .b (.q 32 (.l 33 .b .nil)))))))))))))))))))))))))))))))))) [gHead gb ob ib n room, gRow ib iv, sng b (.cells #[int (k : Int), int (f : Int), int (t : Int)] 158 (0, 0))] rfl (by kernel_rfl) selZ ?_
 repeat' (first
  | (refine AX ?_)
  | (refine AR ?_)
  | (refine AY ?_)
  | (refine CX ?_)
  | (refine BD ?_)
  | (refine CQ ?_)
  | (refine F5 ?_)
  | (refine F6 ?_)
  | (refine F7 ?_)
  | (refine G4 ?_)
  | (refine FA ?_)
  | (refine GI ?_)
  | (refine GZ ?_ ?_)
  | (refine CY ?_; rintro _ _ ⟨b, rfl, rfl⟩)
  | (refine ET ?_; rintro _ _ ⟨b, rfl, rfl⟩)
  | fail)
 all_goals (try refine DK ?_)
 all_goals (refine' a_b rfl _ rfl rfl rfl _ _; rotate_left; (focus (exact DM (by_ := 24) (s := 3) (news := [int (k : Int), int (f : Int), int (t : Int)]) rfl rfl rfl rfl rfl rfl rfl hO takeZ (cells_own memZ) rfl (by (repeat (first | exact (fun v hv => absurd hv List.not_mem_nil) | (refine List.forall_mem_cons.2 ⟨?_, ?_⟩; (focus (first | exact rfl | assumption))))); first | done | fail) (by omega) (by simp only [maxLen]; omega) (by omega))); (focus (rintro _ _ ⟨_, _, rfl⟩ w hw; exact hw.sel selZ)); rintro q1 _ ⟨ρ1, hQ1, rfl⟩)
 repeat' (first
  | (refine CY ?_; rintro _ _ ⟨b, rfl, rfl⟩)
  | fail)
 all_goals (refine DK ?_; refine' a_b rfl _ rfl rfl rfl _ _; rotate_left; (focus (exact DM (by_ := 24) (s := 3) (news := [int (k : Int), int (f : Int), int (t : Int)]) rfl rfl rfl rfl rfl rfl rfl hI takeZ (cells_own memZ) rfl (by (repeat (first | exact (fun v hv => absurd hv List.not_mem_nil) | (refine List.forall_mem_cons.2 ⟨?_, ?_⟩; (focus (first | exact rfl | assumption))))); first | done | fail) (by omega) (by simp only [maxLen]; omega) (by omega))); (focus (rintro _ _ ⟨_, _, rfl⟩ w hw; exact hw.sel selZ)); rintro q2 _ ⟨ρ2, hQ2, rfl⟩)
 all_goals have h1 : q1.oneCell' = true := OwnS.one hQ1
 all_goals have h2 : q2.oneCell' = true := OwnS.one hQ2
 repeat' (first
  | (refine CX ?_)
  | (refine GM ?_; rintro _ _ ⟨rfl, rfl⟩)
  | fail)
 all_goals (refine DK ?_; refine' a_full rfl _ rfl (.inr ⟨rfl, rfl⟩) (by kernel_rfl) (Hf' := []) _ _; rotate_left; (focus (apply DX; exact rfl; exact rfl; exact h2; exact rfl; exact takeZ; (simp; omega))); (focus (rintro _ _ ⟨_, rfl⟩ w hw; exact hw.sel selZ)); rintro _ _ ⟨rfl, rfl⟩)
 repeat' (first
  | (refine BJ ?_)
  | fail)
 repeat' (first
  | fail)
 all_goals have e1 : sng ob (.cells (ov.toArray.setIfInBounds f q1) 152 (0, 0)) = gRow ob (ov.set f q1) := by simp [gRow]
 all_goals have e2 : sng ib (.cells (iv.toArray.setIfInBounds t q2) 152 (0, 0)) = gRow ib (iv.set t q2) := by simp [gRow]
 all_goals rw [e1, e2]
 all_goals refine CR (H' := [gHead gb ob ib n room, gRow ob (ov.set f q1), gRow ib (iv.set t q2), ρ1, ρ2]) (res0 rfl) rsubZ selZ ⟨rfl, q1, q2, ρ1, ρ2, ?_, ?_, rfl⟩
 all_goals first
  | (rw [List.flatMap_append, List.length_append]; exact hQ1)
  | (rw [List.flatMap_append, List.length_append]; exact hQ2)

end Go.Proofs.YtknfhiolenobaaaGreat
/- The rooms of residual arcs; residual graphs. -/
namespace Go.Proofs.YtknfhiolenobaaaGreat
open Go.Eng Go.Flow
set_option maxRecDepth 100000
set_option maxHeartbeats 4000000

theorem residual1_spec (ρ : PH) (v : Value) (b1 b2 bf m c k : Nat) (T1 T2 T3 : TypeId) (l : List Arc) (fl : List Int) (hv : ArcsAt ρ v l) (hfl : fl.length = l.length) (hm : m = l.length) (hk : k < 2 * l.length) (hl : l.length ≤ 20000)
  (hc : inCap l fl = true) (hok : ∀ a ∈ l, 0 ≤ a.c ∧ a.c ≤ 1099511627776) :
  Ans Tryz.prog (.func (.func 79) #[] #[.pointer (some ⟨b1, 0, none⟩), .pointer (some ⟨b2, 0, none⟩)]) [int k] [ρ, sng b1 (.cells #[v] T1 (0, 0)), sng b2 (.cells #[.slice (some ⟨bf, 0, none⟩) m c] T2 (0, 0)), sng bf (.cells (ints fl) T3 (0, 0))]
   (fun r => r = int (rmR l fl k)) := by
 obtain ⟨q, c', rfl, hr⟩ := hv.val encA_len
 subst hm
 have c1 : rdc (sng b1 (.cells #[.slice q l.length c'] T1 (0, 0))) b1 0 = some (.slice q l.length c') := by rw [rdc_sng]; rfl
 have c2 : rdc (sng b2 (.cells #[.slice (some ⟨bf, 0, none⟩) l.length c] T2 (0, 0))) b2 0 = some (.slice (some ⟨bf, 0, none⟩) l.length c) := by rw [rdc_sng]; rfl
 have hlt : k / 2 < l.length := by omega
 have hx := List.getElem?_eq_getElem hlt
 obtain ⟨b, o, rfl, hA, h0, h1, h2⟩ := arcRow hr hx
 have hfx : fl.getD (k / 2) 0 = fl[k / 2] := by simp [List.getD_eq_getElem?_getD, show k / 2 < fl.length by omega]
 have hfy := inCap_get l fl hc (k / 2) l[k / 2] fl[k / 2] hx (List.getElem?_eq_getElem (by omega))
 have hcy := hok l[k / 2] (List.getElem_mem hlt)
 have hdef : l.getD (k / 2) default = l[k / 2] := by simp [List.getD_eq_getElem?_getD, hlt]
 have e2 : ((k : Int) / 2) = ((k / 2 : Nat) : Int) := by omega
 have e3 : ((k : Int) % 2) = ((k % 2 : Nat) : Int) := by omega
 refine spec_in (cap := [.pointer (some ⟨b1, 0, none⟩), .pointer (some ⟨b2, 0, none⟩)]) Tryz.func79 rfl rfl Tryz.ntmps79 rfl envZ (fun N β => ?_)
 by_cases hp : k % 2 = 0
 ·refine AC ?_
  refine AA ?_
  refine AD ?_
  refine AF ?_
  refine AC ?_
  refine AC ?_
  refine AA ?_
  refine AB ?_
  refine C0 ?_
  refine B7 ?_
  refine AF ?_
  refine AO rfl ?_
  refine AC ?_
  refine BM (.q 0 (.q 1 (.q 2 (.q 3 (.q 4 (.q 5 (.q 6 (.q 7 (.q 8 (.q 9 (.q 10 (.q 11 (.q 12 .nil))))))))))))) [] rfl (by kernel_rfl) selZ ?_
  refine AR ?_
  refine AX ?_
  refine GA ?_
  refine C9 ?_
  refine DL ?_
  refine AR ?_
  refine AR ?_
  refine AX ?_
  refine GA ?_
  refine CX ?_
  refine AR ?_
  refine FH ?_
  refine C5 ?_
  refine BJ ?_
  skip
  refine AJ (res1 rfl rfl) rsubZ selZ ⟨rfl, ?_⟩
  unfold rmR
  rw [if_pos hp, hdef]
 ·refine AC ?_
  refine AA ?_
  refine AD ?_
  refine AF ?_
  refine AC ?_
  refine AC ?_
  refine AA ?_
  refine AB ?_
  refine C0 ?_
  refine BH ?_
  refine AF ?_
  refine AN rfl ?_
  refine AL ?_
  refine AC ?_
  refine AA ?_
  refine AG ?_
  refine AB ?_
  refine CO ?_
  refine BU ?_
  refine AG ?_
  refine AD ?_
  refine AF ?_
  refine AJ (res1 rfl rfl) rsubZ selZ ⟨rfl, ?_⟩
  unfold rmR
  rw [if_neg hp]
end Go.Proofs.YtknfhiolenobaaaGreat
/- A graph that is built link by link; the residual graph. -/
namespace Go.Proofs.YtknfhiolenobaaaGreat
open Go.Eng Go.Flow
set_option maxRecDepth 100000
set_option maxHeartbeats 4000000

def RowOK (n : Nat) (vs : List Value) (cs : List PH) (lf : Nat → List Lk) : Prop :=
 vs.length = n ∧ cs.length = n ∧ ∀ v, v < n → ∃ u ρ, vs[v]? = some u ∧ cs[v]? = some ρ ∧ OwnS 158 3 u (lf v).length ((lf v).flatMap encL) ρ
theorem RowOK.set {n : Nat} {vs : List Value} {cs : List PH} {lf lf' : Nat → List Lk} (h : RowOK n vs cs lf) {f : Nat} {u : Value} {ρ : PH} (hu : OwnS 158 3 u (lf' f).length ((lf' f).flatMap encL) ρ) (he : ∀ v, v ≠ f → lf' v = lf v) :
  RowOK n (vs.set f u) (cs.set f ρ) lf' := by
 obtain ⟨h1, h2, h3⟩ := h
 refine ⟨by simp [h1], by simp [h2], fun v hv => ?_⟩
 by_cases e : v = f
 ·subst e
  exact ⟨u, ρ, by simp [h1, hv], by simp [h2, hv], hu⟩
 ·obtain ⟨u', ρ', g1, g2, g3⟩ := h3 v hv
  rw [← he v e] at g3
  exact ⟨u', ρ', by rw [List.getElem?_set_ne (Ne.symm e)]; exact g1, by rw [List.getElem?_set_ne (Ne.symm e)]; exact g2, g3⟩
def GBl (gb ob ib n : Nat) (room : Value) (ls : List Lk) (H : List PH) : Prop :=
 ∃ ov iv oc ic, RowOK n ov oc (outsOf ls) ∧ RowOK n iv ic (insOf ls) ∧ H = gHead gb ob ib n room :: gRow ob ov :: gRow ib iv :: (oc ++ ic)
theorem add_bl {gb ob ib n : Nat} {room : Value} {ls : List Lk} {H : List PH} (h : GBl gb ob ib n room ls H) (k f t : Nat) (hf : f < n) (ht : t < n) (hl : ls.length ≤ 40000) :
  Eng.Spec Tryz.prog (fv 71) [.pointer (some ⟨gb, 0, none⟩), int k, int f, int t] [] H (fun v H' => v = .tuple #[] ∧ GBl gb ob ib n room (ls ++ [(⟨k, f, t⟩ : Lk)]) H') := by
 obtain ⟨ov, iv, oc, ic, ho, hi, rfl⟩ := h
 obtain ⟨uo, ρo, a1, a2, a3⟩ := ho.2.2 f hf
 obtain ⟨ui, ρi, c1, c2, c3⟩ := hi.2.2 t ht
 have hs := add_spec gb ob ib n k f t room ov iv (outsOf ls f) (insOf ls t) ρo ρi ho.1 hi.1 hf ht ⟨uo, a1, a3⟩ ⟨ui, c1, c3⟩ (filter_le _ _ hl) (filter_le _ _ hl)
 refine Spec.perm ?_ (hs.frame (oc.eraseIdx f ++ ic.eraseIdx t)) ?_
 ·simp only [List.cons_append, List.nil_append]
  refine ((List.Perm.trans ?_ ((erase_get_perm a2).append (erase_get_perm c2)).symm).cons _).cons _ |>.cons _
  simp only [List.cons_append]
  exact (List.perm_middle.symm).cons _
 ·rintro v H1 ⟨H2, rfl, rfl, q1, q2, ρ1, ρ2, hq1, hq2, rfl⟩
  refine ⟨gHead gb ob ib n room :: gRow ob (ov.set f q1) :: gRow ib (iv.set t q2) :: (oc.set f ρ1 ++ ic.set t ρ2), ?_, rfl, ov.set f q1, iv.set t q2, oc.set f ρ1, ic.set t ρ2, ?_, ?_, rfl⟩
  ·simp only [List.cons_append, List.nil_append]
   refine ((List.Perm.trans ?_ ((erase_set_perm ρ1 (by rw [ho.2.1]; exact hf)).append (erase_set_perm ρ2 (by rw [hi.2.1]; exact ht))).symm).cons _).cons _ |>.cons _
   simp only [List.cons_append]
   exact (List.perm_middle.symm).cons _
  ·refine ho.set (lf' := outsOf (ls ++ [(⟨k, f, t⟩ : Lk)])) ?_ (fun v hv => by rw [outsOf_snoc, if_neg (Ne.symm hv), List.append_nil])
   rw [outsOf_snoc, if_pos rfl]; exact hq1
  ·refine hi.set (lf' := insOf (ls ++ [(⟨k, f, t⟩ : Lk)])) ?_ (fun v hv => by rw [insOf_snoc, if_neg (Ne.symm hv), List.append_nil])
   rw [insOf_snoc, if_pos rfl]; exact hq2
theorem GBl.at {gb ob ib n : Nat} {room : Value} {ls : List Lk} {H : List PH} (h : GBl gb ob ib n room ls H) {γ : PH} (hs : ∀ ρ ∈ H, PH.sub ρ γ) : GAt γ gb n (outsOf ls) (insOf ls) room := by
 obtain ⟨ov, iv, oc, ic, ho, hi, rfl⟩ := h
 have hh := hs (gHead gb ob ib n room) (by simp)
 have hr1 := hs (gRow ob ov) (by simp)
 have hr2 := hs (gRow ib iv) (by simp)
 refine ⟨⟨ob, n, hh.rdc (by rw [rdc_sng]; rfl), fun v hv => ?_⟩, ⟨ib, n, hh.rdc (by rw [rdc_sng]; rfl), fun v hv => ?_⟩, hh.rdc (by rw [rdc_sng]; rfl)⟩
 ·obtain ⟨u, ρ, g1, g2, g3⟩ := ho.2.2 v hv
  refine ⟨u, hr1.rdc (by rw [rdc_sng]; simpa using g1), (hs ρ ?_).slE g3.at⟩
  have := List.mem_of_getElem? g2
  simp [this]
 ·obtain ⟨u, ρ, g1, g2, g3⟩ := hi.2.2 v hv
  refine ⟨u, hr2.rdc (by rw [rdc_sng]; simpa using g1), (hs ρ ?_).slE g3.at⟩
  have := List.mem_of_getElem? g2
  simp [this]
theorem GOk_of {n : Nat} {ls : List Lk} (hn : n ≤ 2000) (hl : ls.length ≤ 40000) (hx : ∀ x ∈ ls, x.f < n ∧ x.t < n ∧ x.k ≤ 40000) : GOk n (outsOf ls) (insOf ls) where
 n1 := hn
 len := fun _ => ⟨filter_le _ _ hl, filter_le _ _ hl⟩
 inT := fun v x _ hm => by
  unfold insOf at hm; rw [List.mem_filter] at hm
  have := hx x hm.1
  exact ⟨by simpa using hm.2, this.1, this.2.2⟩
 outF := fun v x _ hm => by
  unfold outsOf at hm; rw [List.mem_filter] at hm
  have := hx x hm.1
  exact ⟨by simpa using hm.2, this.2.1, this.2.2⟩
 same := fun x _ _ => by unfold insOf outsOf; simp
theorem GBl_new (gb ob ib n : Nat) (room : Value) : GBl gb ob ib n room [] (gHead gb ob ib n room :: gRow ob (List.replicate n (.slice none 0 0)) :: gRow ib (List.replicate n (.slice none 0 0)) :: (List.replicate n emp ++ List.replicate n emp)) := by
 have h : ∀ lf : Nat → List Lk, (∀ v, lf v = []) → RowOK n (List.replicate n (.slice none 0 0)) (List.replicate n emp) lf := fun lf hl => by
  refine ⟨by simp, by simp, fun v hv => ⟨.slice none 0 0, emp, by simp [hv], by simp [hv], ?_⟩⟩
  rw [hl v]
  exact OwnS.nil _ _
 exact ⟨_, _, _, _, h _ (fun _ => rfl), h _ (fun _ => rfl), rfl⟩

abbrev roomR (b1 b2 : Nat) : Value := .func (.func 79) #[] #[.pointer (some ⟨b1, 0, none⟩), .pointer (some ⟨b2, 0, none⟩)]
set_option maxHeartbeats 2000000 in
theorem residual_spec (ρ : PH) (v fs : Value) (n : Nat) (l : List Arc) (hv : ArcsAt ρ v l) (hfs : fs.oneCell' = true) (hn : n ≤ 2000) (hl : l.length ≤ 20000) (hok : ∀ a ∈ l, okArc n a = true) :
  Eng.Spec Tryz.prog (fv 59) [int n, v, fs] [ρ] [] (fun r H' => ∃ gb b1 b2 γ, r = .pointer (some ⟨gb, 0, none⟩) ∧ GAt γ gb n (outsOf (rlinks l)) (insOf (rlinks l)) (roomR b1 b2) ∧
   H' = [γ, sng b1 (.cells #[v] 47 (0, 0)), sng b2 (.cells #[fs] 22 (0, 0))]) := by
 have hv1 := SlE.one hv
 obtain ⟨q, c, rfl, hr⟩ := hv.val encA_len
 refine spec_in (cap := []) Tryz.func59 rfl rfl Tryz.ntmps59 rfl envZ (fun N β => ?_)
 refine AC ?_
 refine AA ?_
 refine BT (DW rfl rfl) rfl rfl rfl ?_
 rintro _ _ ⟨b1, rfl, rfl⟩
 refine BT (DW rfl hfs) rfl rfl rfl ?_
 rintro _ _ ⟨b2, rfl, rfl⟩
 refine AD ?_
 refine AF ?_
 refine AC ?_
 refine AA ?_
 refine AB ?_
 refine A9 ?_
 refine B5 (newGraph_spec n 79 [.pointer (some ⟨b1, 0, none⟩), .pointer (some ⟨b2, 0, none⟩)] hn) rfl rfl takesZ rdZ rfl rfl ?_
 rintro _ _ ⟨gb, ob, ib, rfl, rfl⟩
 simp only [List.cons_append, List.nil_append]
 have hG0 := GBl_new gb ob ib n (roomR b1 b2)
 refine F3 (n + n) ?_
 simp only [List.cons_append, List.nil_append]
 refine AD ?_
 refine AF ?_
 refine AC ?_
 refine AC ?_
 refine AA ?_
 refine AG ?_
 refine A0 ?_
 refine AB ?_
 refine AF ?_
 refine AQ ?_
 refine BN [0, 4, 5, 7, 13, 14] (X := Nat × List PH) (0, _) (fun x => x.1 ≤ l.length ∧ GBl gb ob ib n (roomR b1 b2) (rlinks (l.take x.1)) x.2) (fun x => [(15, int x.1)])
  (fun x => sng b1 (.cells #[.slice q l.length c] 47 (0, 0)) :: sng b2 (.cells #[fs] 22 (0, 0)) :: x.2) (fun x => l.length - x.1) pickZ ⟨by simp, hG0⟩ covZ ?_ ?_
 ·refine Sel.cons takeZ (Sel.cons takeZ (Sel.cons takeZ (Sel.cons takeZ (Sel.cons takeZ ?_))))
  rw [List.replicate_append_replicate]
  exact Sel.refl
 rintro ⟨k, Hg⟩ ⟨hk, hG⟩
 dsimp only at hk hG ⊢
 by_cases hlt : k < l.length
 ·have hx := List.getElem?_eq_getElem hlt
  obtain ⟨b', o, rfl, hA, h0, h1, h2⟩ := arcRow hr hx
  obtain ⟨g1, g2, g3, g4, g5, g6, g7⟩ := okArc_iff.1 (hok l[k] (List.getElem_mem hlt))
  obtain ⟨f, hf⟩ := Int.eq_ofNat_of_zero_le g1
  obtain ⟨t, ht⟩ := Int.eq_ofNat_of_zero_le g3
  have hlr := rlinks_len (l.take k)
  have hlk : (l.take k).length = k := by simp; omega
  have hsn := rlinks_snoc (l.take k) l[k]
  rw [← take_snoc' hlt, hlk, hf, ht] at hsn
  simp only [Int.toNat_natCast] at hsn
  rw [hf, ht] at hA
  have a1 := add_bl hG (2 * k) f t (by omega) (by omega) (by omega)
  refine AC ?_
  refine AA ?_
  refine BF ?_
  refine AF ?_
  refine AC ?_
  refine AO rfl ?_
  refine AL ?_
  refine AC ?_
  refine AQ ?_
  refine AC ?_
  refine AA ?_
  refine AB ?_
  refine BC ?_
  refine AM ?_
  refine AW ?_; rintro _ _ ⟨b, rfl, rfl⟩
  refine AD ?_
  refine AU ?_; rintro _ _ ⟨rfl, rfl⟩
  refine AF ?_
  refine AC ?_
  refine AA ?_
  refine AB ?_
  refine AB ?_
  refine C6 ?_
  refine AH ?_
  refine AG ?_
  refine AH ?_
  refine AG ?_
  refine B5 a1 rfl rfl (Takes.skips [_, _, _] Takes.all) rdZ rfl rfl ?_
  rintro _ H1 ⟨rfl, hG1⟩
  refine DI (H' := sng b (.cells #[int (f : Int), int (t : Int), int l[k].c] 105 (0, 0)) :: sng b1 (.cells #[.slice (some ⟨b', o, none⟩) l.length c] 47 (0, 0)) :: sng b2 (.cells #[fs] 22 (0, 0)) :: H1) (by simpa using List.perm_append_comm (l₁ := H1) (l₂ := [_, _, _])) ?_
  have a2 := add_bl hG1 (2 * k + 1) t f (by omega) (by omega) (by rw [List.length_append]; simp only [List.length_singleton]; omega)
  refine AF ?_
  refine AA ?_
  refine AB ?_
  refine AB ?_
  refine C6 ?_
  refine B8 ?_
  refine AH ?_
  refine AG ?_
  refine AH ?_
  refine AG ?_
  refine B5 a2 rfl rfl (Takes.skips [_, _, _] Takes.all) rdZ rfl rfl ?_
  rintro _ H2 ⟨rfl, hG2⟩
  refine DI (H' := sng b (.cells #[int (f : Int), int (t : Int), int l[k].c] 105 (0, 0)) :: sng b1 (.cells #[.slice (some ⟨b', o, none⟩) l.length c] 47 (0, 0)) :: sng b2 (.cells #[fs] 22 (0, 0)) :: H2) (by simpa using List.perm_append_comm (l₁ := H2) (l₂ := [_, _, _])) ?_
  refine AF ?_
  refine A7 ?_
  refine AA ?_
  refine BA ?_
  refine AB ?_
  refine AF ?_
  refine A4 (k + 1, H2) ⟨by dsimp only; omega, ?_⟩ (by dsimp only; omega) covZ (Sel.cons takeZ (Sel.cons takeZ (Sel.skip Sel.refl)))
  dsimp only
  rw [hsn]
  simpa using hG2
 ·rw [List.take_of_length_le (by omega)] at hG
  refine AC ?_
  refine AA ?_
  refine AZ ?_
  refine AF ?_
  refine AC ?_
  refine AN rfl ?_
  refine A8 rfl ?_
  refine AC ?_
  refine AA ?_
  refine AB ?_
  refine AD ?_
  refine AF ?_
  refine DI (H' := Hg ++ [sng b1 (.cells #[.slice q l.length c] 47 (0, 0)), sng b2 (.cells #[fs] 22 (0, 0))]) (by simpa using List.perm_append_comm (l₂ := Hg) (l₁ := [_, _])) ?_
  refine EI (fun γ hγ => ?_)
  exact AJ (res1 rfl rfl) rsubZ selZ ⟨gb, b1, b2, γ, rfl, hG.at hγ, rfl⟩
end Go.Proofs.YtknfhiolenobaaaGreat
/- The maximum flow: paths as long as there are any. -/
namespace Go.Proofs.YtknfhiolenobaaaGreat
open Go.Eng Go.Flow
set_option maxRecDepth 100000
set_option maxHeartbeats 4000000

theorem opens_opn {n : Nat} {ls : List Lk} (hls : ∀ x ∈ ls, x.f < n ∧ x.t < n) (rm : Nat → Int) : opens n (insOf ls) rm = opn ls rm := opens_eq hls rm
theorem nxO_nxt (ls : List Lk) (rm : Nat → Int) (D : List Int) : nxO (outsOf ls) rm D = nxt ls rm D := nxt_eq ls rm D
def MaxLeft (n : Nat) (l : List Arc) (s t : Nat) (v fs gv : Value) (F : List Int) (H : List PH) : Prop :=
 ∃ bf gb b1 b2 γ, fs = .slice (some ⟨bf, 0, none⟩) l.length l.length ∧ gv = .pointer (some ⟨gb, 0, none⟩) ∧ GAt γ gb n (outsOf (rlinks l)) (insOf (rlinks l)) (roomR b1 b2) ∧ RunR n l s t (List.replicate l.length 0) F ∧
  H = [sng bf (.cells (ints F) 3 (0, 0)), γ, sng b1 (.cells #[v] 47 (0, 0)), sng b2 (.cells #[.slice (some ⟨bf, 0, none⟩) l.length l.length] 22 (0, 0))]
set_option maxHeartbeats 4000000 in
theorem maximum_spec (ρ : PH) (v : Value) (n : Nat) (l : List Arc) (s t : Nat) (hv : ArcsAt ρ v l) (hn : n ≤ 2000) (hl : l.length ≤ 20000) (hok : ∀ a ∈ l, okArc n a = true) (hs : s < n) (ht : t < n) (hst : s ≠ t) :
  Eng.Spec Tryz.prog (fv 37) [int n, v, int s, int t] [ρ] [] (fun r H' => ∃ fs gv F, r = .tuple #[fs, gv] ∧ MaxLeft n l s t v fs gv F H') := by
 have hv1 := SlE.one hv
 have hrl := rl_lt hok
 have hGok : GOk n (outsOf (rlinks l)) (insOf (rlinks l)) := GOk_of hn (by rw [rlinks_len]; omega) (fun x hx => by have := rlinks_mem hok hx; omega)
 have hcap : ∀ a ∈ l, 0 ≤ a.c ∧ a.c ≤ 1099511627776 := fun a ha => by have := okArc_iff.1 (hok a ha); omega
 obtain ⟨q, c, rfl, hr⟩ := hv.val encA_len
 refine spec_in (cap := []) Tryz.func37 rfl rfl Tryz.ntmps37 rfl envZ (fun N β => ?_)
 refine AC ?_
 refine AA ?_
 refine AD ?_
 refine AD ?_
 refine AF ?_
 refine AC ?_
 refine AA ?_
 refine AB ?_
 refine A0 ?_
 refine CB ?_; rintro _ _ ⟨b, rfl, rfl⟩
 refine AD ?_
 refine AF ?_
 refine AC ?_
 refine AA ?_
 refine AB ?_
 refine AB ?_
 refine AB ?_
 revert b; intro bf
 refine B5 (residual_spec ρ _ (.slice (some ⟨bf, 0, none⟩) l.length l.length) n l hv rfl hn hl hok) rfl rfl takesZ rdZ rfl rfl ?_
 rintro _ _ ⟨gb, b1, b2, γ, rfl, hG, rfl⟩
 simp only [List.cons_append, List.nil_append]
 refine AD ?_
 refine AF ?_
 refine AQ ?_
 refine BN [0, 1, 2, 3, 10, 11] (List.replicate l.length (0 : Int)) (fun fl => Flw n l s t fl ∧ ∀ F, RunR n l s t fl F → RunR n l s t (List.replicate l.length 0) F) (fun _ => [])
  (fun fl => [sng bf (.cells (ints fl) 3 (0, 0)), γ, sng b1 (.cells #[.slice q l.length c] 47 (0, 0)), sng b2 (.cells #[.slice (some ⟨bf, 0, none⟩) l.length l.length] 22 (0, 0))])
  (fun fl => (1099511627776 * (2 * (l.length : Int)) - fval s l fl).toNat) pickZ ⟨flw_zeros hok, fun _ h => h⟩ covZ selZ ?_
 rintro fl ⟨hF, hrun⟩
 have hrm : ∀ v x, v < n → x ∈ insOf (rlinks l) v → Ans Tryz.prog (roomR b1 b2) [int x.k] [ρ, sng b1 (.cells #[.slice q l.length c] 47 (0, 0)), sng b2 (.cells #[.slice (some ⟨bf, 0, none⟩) l.length l.length] 22 (0, 0)), sng bf (.cells (ints fl) 3 (0, 0))] (fun r => r = int (rmR l fl x.k)) := fun v x _ hx => by
  have hm : x ∈ rlinks l := by unfold insOf at hx; exact (List.mem_filter.1 hx).1
  exact residual1_spec ρ _ b1 b2 bf l.length l.length x.k _ _ _ l fl hv hF.len.symm rfl (rlinks_mem hok hm).2.2 hl hF.cap hcap
 refine AQ ?_
 refine AC ?_
 refine AA ?_
 refine AB ?_
 refine AB ?_
 refine AB ?_
 refine DP (path_spec γ gb n s t (outsOf (rlinks l)) (insOf (rlinks l)) (roomR b1 b2) (rmR l fl) _ hG hGok hs ht hrm) rfl rfl rdZ rfl rfl ?_
 rintro _ ρp ⟨D, pv, hD, rfl, hP⟩
 rw [opens_opn hrl] at hD
 rw [nxO_nxt] at hP
 by_cases h0 : 0 ≤ D.getD s 0
 rotate_left
 ·rw [decide_eq_false h0]
  refine AB ?_
  refine AP ?_
  refine AP ?_
  refine AD ?_
  refine AD ?_
  refine AF ?_
  refine AC ?_
  refine AC ?_
  refine AA ?_
  refine AB ?_
  refine BG ?_
  refine AF ?_
  refine AO rfl ?_
  refine AC ?_
  refine AA ?_
  refine AB ?_
  refine AB ?_
  refine AD ?_
  refine AD ?_
  refine AF ?_
  exact AJ (res2 rfl rfl rfl) rsubZ selZ ⟨_, _, fl, rfl, bf, gb, b1, b2, γ, rfl, rfl, hG, hrun fl (.done hD (by omega)), rfl⟩
 rw [decide_eq_true h0]
 obtain ⟨hN1, hN2, hN3⟩ := rNext_ok hok hs hst hF hD h0
 obtain ⟨k0, hk0⟩ := Int.eq_ofNat_of_zero_le h0
 have hDn := hD.lt (fun x hx => hrl x hx.1) ht hs
 have hPl : (rP l fl D s).length = k0 := path_len hrl hD k0 s hs hk0
 have hPm : ∀ x ∈ rP l fl D s, x ∈ rlinks l := fun x hx => ((path_chn hrl hD k0 s hs hk0).all x hx).1.1
 have hroom : leastR (rmR l fl) (rP l fl D s) ≤ 1099511627776 := (leastR_le _ _ _).1
 have hIn : IntsAt ρp pv (ksOf (rP l fl D s)) := ownInts (e := 3) (by rw [show (ksOf (rP l fl D s)).length = (rP l fl D s).length from by simp [ksOf]]; exact hP)
 have hlst := least_spec γ ρp gb (roomR b1 b2) pv (rmR l fl) _ (rP l fl D s) hG.r hIn (by omega) (fun x hx => hrm x.t x (hrl x (hPm x hx)).2 (by unfold insOf; rw [List.mem_filter]; exact ⟨hPm x hx, by simp⟩))
 obtain ⟨q2, c2, rfl, hr2⟩ := hIn.val Eng.encI_len
 have hkl : (ksOf (rP l fl D s)).length = (rP l fl D s).length := by simp [ksOf]
 have hmu := fval_bd s l (rNext l fl D s) (inCap_small l _ hN1.len hN1.cap hok)
 rw [← hN1.len] at hmu
 refine AB ?_
 refine AP ?_
 refine AP ?_
 refine AD ?_
 refine AD ?_
 refine AF ?_
 refine AC ?_
 refine AC ?_
 refine AA ?_
 refine AB ?_
 refine BG ?_
 refine AF ?_
 refine AN rfl ?_
 refine AL ?_
 refine AC ?_
 refine AA ?_
 refine AB ?_
 refine AB ?_
 refine AT hlst rfl rfl rdZ rfl rfl ?_
 rintro _ rfl
 refine AD ?_
 refine AF ?_
 refine AC ?_
 refine AA ?_
 refine AB ?_
 refine A0 ?_
 refine AB ?_
 refine AF ?_
 refine AQ ?_
 refine BN [0, 1, 2, 3, 10, 11, 14, 38, 39] (0 : Nat) (fun i => i ≤ (rP l fl D s).length) (fun i => [(40, int i)])
  (fun i => [sng bf (.cells (ints (augAll (leastR (rmR l fl) (rP l fl D s)) fl ((rP l fl D s).take i))) 3 (0, 0)), γ, sng b1 (.cells #[.slice q l.length c] 47 (0, 0)), sng b2 (.cells #[.slice (some ⟨bf, 0, none⟩) l.length l.length] 22 (0, 0)), ρp])
  (fun i => (rP l fl D s).length - i) pickZ (by omega) covZ selZ ?_
 intro i hi
 by_cases hlt : i < (rP l fl D s).length
 ·have hx : (ksOf (rP l fl D s))[i]? = some ((rP l fl D s)[i].k : Int) := by simp [ksOf, hlt]
  obtain ⟨b, o, rfl, g0⟩ := hr2.int hx
  have hxm := hPm _ (List.getElem_mem hlt)
  have hxk := (rlinks_mem hok hxm).2.2
  have hal : (augAll (leastR (rmR l fl) (rP l fl D s)) fl ((rP l fl D s).take i)).length = l.length := by rw [augAll_len]; exact hF.len.symm
  have hic := inCap_get l _ (rTake_cap hok hs hF hD h0 i) ((rP l fl D s)[i].k / 2) (l[(rP l fl D s)[i].k / 2]'(by omega)) ((augAll (leastR (rmR l fl) (rP l fl D s)) fl ((rP l fl D s).take i)).getD ((rP l fl D s)[i].k / 2) 0) (List.getElem?_eq_getElem (by omega)) (by rw [List.getD_eq_getElem?_getD, List.getElem?_eq_getElem (by omega)]; rfl)
  have hcc := hcap _ (List.getElem_mem (show (rP l fl D s)[i].k / 2 < l.length by omega))
  have hsn := augAll_snoc (leastR (rmR l fl) (rP l fl D s)) fl ((rP l fl D s).take i) (rP l fl D s)[i]
  rw [← take_snoc' hlt] at hsn
  unfold augR at hsn
  by_cases hp : (rP l fl D s)[i].k % 2 = 0
  ·rw [if_pos hp] at hsn
   refine AC ?_
   refine AA ?_
   refine BF ?_
   refine AF ?_
   refine AC ?_
   refine AO rfl ?_
   refine AL ?_
   refine AC ?_
   refine AQ ?_
   refine AC ?_
   refine AA ?_
   refine BS ?_
   refine AG ?_
   refine AD ?_
   refine AF ?_
   refine AC ?_
   refine AA ?_
   refine AB ?_
   refine C0 ?_
   refine B7 ?_
   refine AF ?_
   refine AO rfl ?_
   refine AA ?_
   refine AB ?_
   refine AB ?_
   refine CO ?_
   refine BU ?_
   refine AG ?_
   refine AB ?_
   refine B8 ?_
   refine BU ?_
   refine BW ?_; rintro _ _ ⟨rfl, rfl⟩
   refine AF ?_
   refine A7 ?_
   refine AA ?_
   refine BA ?_
   refine AB ?_
   refine AF ?_
   refine A4 (i + 1) (by omega) (by omega) covZ ?_
   rw [hsn]
   exact selZ
  ·rw [if_neg hp] at hsn
   refine AC ?_
   refine AA ?_
   refine BF ?_
   refine AF ?_
   refine AC ?_
   refine AO rfl ?_
   refine AL ?_
   refine AC ?_
   refine AQ ?_
   refine AC ?_
   refine AA ?_
   refine BS ?_
   refine AG ?_
   refine AD ?_
   refine AF ?_
   refine AC ?_
   refine AA ?_
   refine AB ?_
   refine C0 ?_
   refine BH ?_
   refine AF ?_
   refine AN rfl ?_
   refine AA ?_
   refine AB ?_
   refine AB ?_
   refine CO ?_
   refine BU ?_
   refine AG ?_
   refine AB ?_
   refine CG ?_
   refine BU ?_
   refine BW ?_; rintro _ _ ⟨rfl, rfl⟩
   refine AF ?_
   refine A7 ?_
   refine AA ?_
   refine BA ?_
   refine AB ?_
   refine AF ?_
   refine A4 (i + 1) (by omega) (by omega) covZ ?_
   rw [hsn]
   exact selZ
 ·refine AC ?_
  refine AA ?_
  refine AZ ?_
  refine AF ?_
  refine AC ?_
  refine AN rfl ?_
  refine A8 rfl ?_
  refine A7 ?_
  refine A4 (rNext l fl D s) ⟨hN1, fun F hR => hrun F (.step hD h0 hR)⟩ (by omega) covZ ?_
  rw [List.take_of_length_le (by omega)]
  exact selZ
end Go.Proofs.YtknfhiolenobaaaGreat
