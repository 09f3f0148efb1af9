/- Texts of this proof, one after the other; no conditions. -/
import Derived.Test.YtknfhiolenobaaaGreatWB6
import Derived.Test.YtknfhiolenobaaaGreatWB1
import Derived.Test.YtknfhiolenobaaaGreatWB8
import Derived.Test.YtknfhiolenobaaaGreatWB3
import Derived.Test.YtknfhiolenobaaaGreatWB7
set_option linter.all false
/- Answers checked; results that are structs in memory; sums that wrap. No program in sight. No conditions. -/
namespace Go.Step
def checkR (qs : List Int) (cs : List Ct) (bs : List Bk) (hs : List Hd) (d : Dm) (acc : Bool) (vol : Int) (l : List Sh) (c : Cu) : Int :=
  if acc then (if (flowR qs cs bs hs d l).2 ≠ 0 then (flowR qs cs bs hs d l).2 else if (flowR qs cs bs hs d l).1 ≠ d.v ∨ vol ≠ d.v ∨ 0 < c.length then 26 else 0)
  else (if (capR qs cs bs hs d c).2 ≠ 0 then (capR qs cs bs hs d c).2 else if (capR qs cs bs hs d c).1 ≠ vol ∨ d.v ≤ (capR qs cs bs hs d c).1 ∨ 0 < l.length then 26 else 0)
end Go.Step
namespace Go.Eng
open Go.IntWalk
variable {R H : List PH} {L : Env}
theorem resS2 {fn : Func} {N : Bs} {M : Nat} {P : Program} {t u b1 b2 : Nat} {T U : TypeId} {v1 v2 : List Value} (hr : fn.results = #[.cell t T, .cell u U]) (ht : look L t = some (.pointer (some ⟨b1, 0, none⟩))) (hu : look L u = some (.pointer (some ⟨b2, 0, none⟩))) (a1 : aggP P T = some true) (a2 : aggP P U = some true)
    (n1 : szP P T = some v1.length) (n2 : szP P U = some v2.length) (c1 : Cells N R H b1 0 v1) (c2 : Cells N R H b2 0 v2) : ∀ a w, Frm M L a → Sat N R H w → (results fn a.tmps).run P w = .ok (.tuple #[.agg v1.toArray, .agg v2.toArray]) w := by
  intro a w hf hs
  have e1 : a.tmps[t]?.getD undef = .pointer (some ⟨b1, 0, none⟩) := by simpa using hf.get t _ ht
  have e2 : a.tmps[u]?.getD undef = .pointer (some ⟨b2, 0, none⟩) := by simpa using hf.get u _ hu
  have l1 := run_loadCells_list (P := P) (w := w) ⟨b1, 0, none⟩ v1 (fun j v hv => by rw [Addr.add_lit]; exact c1 w hs j v hv)
  have l2 := run_loadCells_list (P := P) (w := w) ⟨b2, 0, none⟩ v2 (fun j v hv => by rw [Addr.add_lit]; exact c2 w hs j v hv)
  simp [results, hr, e1, e2, loadVar, run_isAgg a1, run_isAgg a2, run_sizeOf n1, run_sizeOf n2, l1, l2, asAddr]
theorem Flat.agg7 {a b c d e f g : Value} {vs cs : List Value} (h : Flat vs cs) : Flat (.agg #[a, b, c, d, e, f, g] :: vs) (a :: b :: c :: d :: e :: f :: g :: cs) := Flat.agg (ws := [a, b, c, d, e, f, g]) h
theorem EK {C : Cx} {x y : Operand} {dst : Option Tmp} {ty : TypeId} {pos : String} {aft : Array Edge} {g : Option (Nat × Bool)} {xT yT : TypeId} {m n : Int} (h1 : evalE L x = some (.int .i64 m)) (h2 : evalE L y = some (.int .i64 n)) : Quiet C R H L ⟨dst, .binOp .add xT x y yT, ty, pos, aft, g⟩ (.int .i64 (IntKind.i64.wrap (m + n))) :=
  E2 (C := C) (R := R) (H := H) (dst := dst) (ty := ty) (pos := pos) (aft := aft) (g := g) (xT := xT) (yT := yT) (.inl ⟨rfl, rfl⟩) h1 h2
end Go.Eng
/- Results that lie in memory: one struct, or a struct and an error. -/
namespace Go.Eng
variable {L : Env} {R H : List PH}
theorem resS1 {fn : Func} {N : Bs} {M : Nat} {P : Program} {t b1 : Nat} {T : TypeId} {v1 : List Value} (hr : fn.results = #[.cell t T]) (ht : look L t = some (.pointer (some ⟨b1, 0, none⟩))) (a1 : aggP P T = some true)
    (n1 : szP P T = some v1.length) (c1 : Cells N R H b1 0 v1) : ∀ a w, Frm M L a → Sat N R H w → (results fn a.tmps).run P w = .ok (.agg v1.toArray) w := by
  intro a w hf hs
  have e1 : a.tmps[t]?.getD undef = .pointer (some ⟨b1, 0, none⟩) := by simpa using hf.get t _ ht
  have l1 := run_loadCells_list (P := P) (w := w) ⟨b1, 0, none⟩ v1 (fun j v hv => by rw [Addr.add_lit]; exact c1 w hs j v hv)
  simp [results, hr, e1, loadVar, run_isAgg a1, run_sizeOf n1, l1, asAddr]
theorem resSE {fn : Func} {N : Bs} {M : Nat} {P : Program} {t u b1 : Nat} {T : TypeId} {v1 : List Value} {v2 : Value} (hr : fn.results = #[.cell t T, .tmp u]) (ht : look L t = some (.pointer (some ⟨b1, 0, none⟩))) (hu : look L u = some v2) (a1 : aggP P T = some true)
    (n1 : szP P T = some v1.length) (c1 : Cells N R H b1 0 v1) : ∀ a w, Frm M L a → Sat N R H w → (results fn a.tmps).run P w = .ok (.tuple #[.agg v1.toArray, v2]) w := by
  intro a w hf hs
  have e1 : a.tmps[t]?.getD undef = .pointer (some ⟨b1, 0, none⟩) := by simpa using hf.get t _ ht
  have e2 : a.tmps[u]?.getD undef = v2 := by simpa using hf.get u _ hu
  have l1 := run_loadCells_list (P := P) (w := w) ⟨b1, 0, none⟩ v1 (fun j v hv => by rw [Addr.add_lit]; exact c1 w hs j v hv)
  simp [results, hr, e1, e2, loadVar, run_isAgg a1, run_sizeOf n1, l1, asAddr]
end Go.Eng
/- The graph, and the numbers of its places. -/
namespace Go.Proofs.YtknfhiolenobaaaGreat
open Go.Eng Go.Step
set_option maxRecDepth 100000
set_option maxHeartbeats 4000000

theorem ea_len (qs : List Int) (cs : List Ct) (bs : List Bk) (hs : List Hd) (d : Dm) (h : VOk qs cs bs hs d) : (arcsE qs cs bs hs d).length ≤ 1000000 := by
 have := h.len
 omega
set_option maxHeartbeats 32000000 in
theorem graph_spec {ρ τ σ υ : PH} {pq pc pb ph : Option Addr} {kq kc kb kh : Nat} {qs : List Int} {cs : List Ct} {bs : List Bk} {hs : List Hd} (hT : TbAt ρ τ σ υ pq pc pb ph kq kc kb kh qs cs bs hs) (bw bm kp : Nat) (pl : Option Addr) (χ : PH) (M : List (List Int × Value)) (d : Dm) (h : VOk qs cs bs hs d) (h0 : chkB qs cs bs = 0) (hpl : SlE encS 2 χ (.slice pl (placesA d qs.length).length kp) (placesA d qs.length)) (hM : NumAt d qs.length d.r M) :
  Makes Tryz.prog (fv 34) [.pointer (some ⟨bw, 0, none⟩)] [sng bw (.cells #[.slice pq qs.length kq, .slice pc cs.length kc, .slice pb bs.length kb, .slice ph hs.length kh, int d.s, int d.d, int d.v, int d.r, int d.e, .slice pl (placesA d qs.length).length kp, .map (some bm)] 113 (0, 0)), sng bm (mapS M), χ, ρ, τ, σ, υ] (fun r χ' => ∃ u, r = .agg #[int (vsN qs d), u, int (vtx d d.s d.r), int (vtx d d.d d.e)] ∧ OwnS 105 3 u (arcsG qs cs bs hs d).length ((arcsG qs cs bs hs d).flatMap encA) χ') := by
 have hdm := h.dm
 unfold okDm at hdm
 have hnq := h.nq
 have hMl := hM.1
 have hl1 := numAt_get hM (n := d.s) (t := d.r) (by omega) (by omega) (by omega) (by omega)
 have hl2 := numAt_get hM (n := d.d) (t := d.e) (by omega) (by omega) (by omega) (by omega)
 have hit := fun c1 => arcs_iter hT bw bm c1 kp pl χ M d h h0 hpl hM
 have hEl := ea_len qs cs bs hs d h
 have hplen : (((placesA d qs.length).length : Nat) : Int) = vsN qs d := placesA_len (d := d) (by omega) qs.length
 have hone : ∀ z n (xs : List Value) (χ : PH), OwnS 105 3 z n xs χ → z.oneCell' = true := fun z n xs χ h => by obtain ⟨_, _, rfl⟩ := h.form; rfl
 have w0 : rdc (sng bw (.cells #[.slice pq qs.length kq, .slice pc cs.length kc, .slice pb bs.length kb, .slice ph hs.length kh, int d.s, int d.d, int d.v, int d.r, int d.e, .slice pl (placesA d qs.length).length kp, .map (some bm)] 113 (0, 0))) bw 0 = some (.slice pq qs.length kq) := by rw [rdc_sng]; rfl
 have w1 : rdc (sng bw (.cells #[.slice pq qs.length kq, .slice pc cs.length kc, .slice pb bs.length kb, .slice ph hs.length kh, int d.s, int d.d, int d.v, int d.r, int d.e, .slice pl (placesA d qs.length).length kp, .map (some bm)] 113 (0, 0))) bw 1 = some (.slice pc cs.length kc) := by rw [rdc_sng]; rfl
 have w2 : rdc (sng bw (.cells #[.slice pq qs.length kq, .slice pc cs.length kc, .slice pb bs.length kb, .slice ph hs.length kh, int d.s, int d.d, int d.v, int d.r, int d.e, .slice pl (placesA d qs.length).length kp, .map (some bm)] 113 (0, 0))) bw 2 = some (.slice pb bs.length kb) := by rw [rdc_sng]; rfl
 have w3 : rdc (sng bw (.cells #[.slice pq qs.length kq, .slice pc cs.length kc, .slice pb bs.length kb, .slice ph hs.length kh, int d.s, int d.d, int d.v, int d.r, int d.e, .slice pl (placesA d qs.length).length kp, .map (some bm)] 113 (0, 0))) bw 3 = some (.slice ph hs.length kh) := by rw [rdc_sng]; rfl
 have w4 : rdc (sng bw (.cells #[.slice pq qs.length kq, .slice pc cs.length kc, .slice pb bs.length kb, .slice ph hs.length kh, int d.s, int d.d, int d.v, int d.r, int d.e, .slice pl (placesA d qs.length).length kp, .map (some bm)] 113 (0, 0))) bw 4 = some (int d.s) := by rw [rdc_sng]; rfl
 have w5 : rdc (sng bw (.cells #[.slice pq qs.length kq, .slice pc cs.length kc, .slice pb bs.length kb, .slice ph hs.length kh, int d.s, int d.d, int d.v, int d.r, int d.e, .slice pl (placesA d qs.length).length kp, .map (some bm)] 113 (0, 0))) bw 5 = some (int d.d) := by rw [rdc_sng]; rfl
 have w6 : rdc (sng bw (.cells #[.slice pq qs.length kq, .slice pc cs.length kc, .slice pb bs.length kb, .slice ph hs.length kh, int d.s, int d.d, int d.v, int d.r, int d.e, .slice pl (placesA d qs.length).length kp, .map (some bm)] 113 (0, 0))) bw 6 = some (int d.v) := by rw [rdc_sng]; rfl
 have w7 : rdc (sng bw (.cells #[.slice pq qs.length kq, .slice pc cs.length kc, .slice pb bs.length kb, .slice ph hs.length kh, int d.s, int d.d, int d.v, int d.r, int d.e, .slice pl (placesA d qs.length).length kp, .map (some bm)] 113 (0, 0))) bw 7 = some (int d.r) := by rw [rdc_sng]; rfl
 have w8 : rdc (sng bw (.cells #[.slice pq qs.length kq, .slice pc cs.length kc, .slice pb bs.length kb, .slice ph hs.length kh, int d.s, int d.d, int d.v, int d.r, int d.e, .slice pl (placesA d qs.length).length kp, .map (some bm)] 113 (0, 0))) bw 8 = some (int d.e) := by rw [rdc_sng]; rfl
 have w9 : rdc (sng bw (.cells #[.slice pq qs.length kq, .slice pc cs.length kc, .slice pb bs.length kb, .slice ph hs.length kh, int d.s, int d.d, int d.v, int d.r, int d.e, .slice pl (placesA d qs.length).length kp, .map (some bm)] 113 (0, 0))) bw 9 = some (.slice pl (placesA d qs.length).length kp) := by rw [rdc_sng]; rfl
 have w10 : rdc (sng bw (.cells #[.slice pq qs.length kq, .slice pc cs.length kc, .slice pb bs.length kb, .slice ph hs.length kh, int d.s, int d.d, int d.v, int d.r, int d.e, .slice pl (placesA d qs.length).length kp, .map (some bm)] 113 (0, 0))) bw 10 = some (.map (some bm)) := by rw [rdc_sng]; rfl
 have wp : RdP (sng bw (.cells #[.slice pq qs.length kq, .slice pc cs.length kc, .slice pb bs.length kb, .slice ph hs.length kh, int d.s, int d.d, int d.v, int d.r, int d.e, .slice pl (placesA d qs.length).length kp, .map (some bm)] 113 (0, 0))) bw 0 [.slice pq qs.length kq, .slice pc cs.length kc] := rdP_sng (xs := [.slice pq qs.length kq, .slice pc cs.length kc, .slice pb bs.length kb, .slice ph hs.length kh, int d.s, int d.d, int d.v, int d.r, int d.e, .slice pl (placesA d qs.length).length kp, .map (some bm)]) rfl
 refine spec_in (cap := []) Tryz.func34 rfl rfl Tryz.ntmps34 rfl envZ (fun N β => ?_)
 refine C6 ?_
 refine AC ?_
 refine AA ?_
 refine AX ?_; rintro _ _ ⟨b, rfl, rfl⟩
 refine AE ?_
 refine AC ?_
 revert b; intro b2
 refine FX (X := Nat) [0, 2] (fun _ => True) (fun x => [(3, .pointer (some ⟨x, 0, none⟩))]) (fun x => [sng x (.cells #[int (vsN qs d), .slice none 0 0, int (vtx d d.s d.r), int (vtx d d.d d.e)] 49 (0, 0)), sng b2 (.cells #[int 0, .slice none 0 0, int 0, int 0] 49 (0, 0)), emp]) pickZ ?_ ?_
 ·refine BB (.q 0 (.q 1 (.q 2 (.q 3 (.q 4 (.q 5 (.q 6 (.q 7 (.q 8 (.q 9 (.q 10 (.q 11 (.q 12 (.q 13 (.q 14 (.q 15 (.q 16 (.q 17 (.q 18 (.q 19 (.q 20 (.q 21 (.q 22 (.q 23 (.q 24 (.q 25 (.q 26 (.q 27 (.q 28 (.q 29 (.q 30 (.q 31 (.q 32 (.q 33 (.q 34 (.q 35 (.q 36 (.q 37 (.l 38 .e (.l 39 .b .nil)))))))))))))))))))))))))))))))))))))))) [] rfl (by kernel_rfl) Sel.nil ?_
  repeat' (first
   | (refine AR ?_)
   | (refine AQ ?_)
   | (refine AV ?_)
   | (refine DQ ?_)
   | (refine DL ?_)
   | (refine D7 ?_)
   | (refine A4 ?_)
   | (refine DC ?_)
   | (focus ((refine' DS rfl _ rfl rfl rfl rfl _; rotate_left; (focus (first | exact DM 2 [d.s, d.r] rfl rfl rfl ⟨by kernel_rfl, by kernel_rfl⟩ rfl hMl rfl hl1 (mapAtS_rd memZ) | exact DM 2 [d.d, d.e] rfl rfl rfl ⟨by kernel_rfl, by kernel_rfl⟩ rfl hMl rfl hl2 (mapAtS_rd memZ))))))
   | (focus ((refine DE ?_; refine' FW rfl _ rfl rfl _ _; rotate_left; (focus (apply D9; exact rfl; exact rfl; exact takeZ; exact (by (repeat (first | exact (fun v hv => absurd hv List.not_mem_nil) | (refine List.forall_mem_cons.2 ⟨?_, ?_⟩; (focus (first | exact rfl | assumption))))); first | done | fail); exact rfl; exact rfl)); (focus (rintro _ _ ⟨_, rfl⟩ w hw; exact hw.sel Sel.nil)); rintro _ _ ⟨rfl, rfl⟩)))
   | (refine BD ?_)
   | (refine EC ?_; rintro _ _ ⟨b, rfl, rfl⟩)
   | fail)
  all_goals (rw [hplen]; refine EY _ trivial covZ selZ)
 rintro b3 _
 refine AC ?_
 refine AC ?_
 refine AA ?_
 refine AB ?_
 refine BL (arcs_spec bw) rfl rfl Takes.nil (fun τ hτ => by simp at hτ) rfl rfl ?_
 rintro _ _ ⟨c1, rfl, rfl⟩
 refine AT (ρ := sng c1 _) takeZ ?_
 refine AE ?_
 refine AO ?_
 refine DY (gf := 62) (cap := [.pointer (some ⟨c1, 0, none⟩)]) (ps := [45]) (X := Value × PH) rfl Tryz.func62 rfl rfl
  (hit c1) ?_
  (fun i x => OwnS 105 3 x.1 ((arcsE qs cs bs hs d).take i).length (((arcsE qs cs bs hs d).take i).flatMap (fun e => encA e.a)) x.2)
  (fun x => [sng b3 (.cells #[int (vsN qs d), x.1, int (vtx d d.s d.r), int (vtx d d.d d.e)] 49 (0, 0)), sng b2 (.cells #[int 0, .slice none 0 0, int 0, int 0] 49 (0, 0)), x.2]) (fun _ _ => False) (.slice none 0 0, emp) rfl takesZ (OwnS.nil _ _) ?_ ?_ ?_
 ·intro σ' hσ
  simp only [List.mem_cons, List.not_mem_nil, or_false] at hσ ⊢
  rcases hσ with h | h | h | h | h | h | h | h <;> simp [h]
 ·rintro lo r i ⟨u, σ1⟩ vs hvs hO hps has hbd hst hpe hfr
  obtain ⟨st, pe, fnn, tm, prm, asg, bdy, df⟩ := r
  simp only at hps has hbd hst hpe hfr
  subst hps has hbd hst hpe
  rw [List.getElem?_map] at hvs
  obtain ⟨x, hx, rfl⟩ := Option.map_eq_some_iff.1 hvs
  dsimp only at hO
  have hti : ((arcsE qs cs bs hs d).take (i + 1)) = (arcsE qs cs bs hs d).take i ++ [x] := by
   rw [List.take_add_one, hx]; rfl
  have hil : ((arcsE qs cs bs hs d).take i).length ≤ 1000000 := by rw [List.length_take]; omega
  simp only [hti]
  generalize (arcsE qs cs bs hs d).take i = O at hO hil
  have hu1 := hone _ _ _ _ hO
  refine yield_spec hfr rfl (by intro p hp; simp at hp; omega) putiZ (fun N' β' => ?_)
  dsimp only
  refine AA ?_
  refine AX ?_; rintro _ _ ⟨b, rfl, rfl⟩
  refine AW ?_; rintro _ _ ⟨rfl, rfl⟩
  refine AE ?_
  refine DP rfl rfl ?_
  refine DX takeZ rfl ?_
  revert b; intro bx
  refine AT (ρ := sng bx _) takeZ ?_
  have px : RdP (sng bx (.cells #[int x.a.f, int x.a.t, int x.a.c, int x.c, int x.t] 107 (0, 0))) bx 0 [int x.a.f, int x.a.t, int x.a.c] := rdP_sng (xs := [int x.a.f, int x.a.t, int x.a.c, int x.c, int x.t]) rfl
  refine AO ?_
  refine AA ?_
  refine AH ?_
  refine AG ?_
  refine AH ?_
  refine AS ?_
  refine A5 ?_; rintro _ _ ⟨b, rfl, rfl⟩
  refine BS (DA (by_ := 24) (s := 3) (news := [int x.a.f, int x.a.t, int x.a.c]) rfl rfl rfl rfl rfl rfl rfl hO takeZ (cells_own memZ) rfl (by (repeat (first | exact (fun v hv => absurd hv List.not_mem_nil) | (refine List.forall_mem_cons.2 ⟨?_, ?_⟩; (focus (first | exact rfl | assumption))))); first | done | fail) (by omega) (by simp only [maxLen]; omega) (by omega)) rfl rfl rfl ?_
  rintro u1 _ ⟨σ2, hO1, rfl⟩
  have hu2 := hone _ _ _ _ hO1
  refine AH ?_
  refine A6 ?_; rintro _ _ ⟨rfl, rfl⟩
  refine AE ?_
  refine A2 ?_
  refine B5 takeZ rsubZ selZ ⟨(u1, σ2), .inl ⟨rfl, ?_, rfl⟩⟩
  dsimp only
  rw [List.length_append, List.flatMap_append]
  exact hO1
 ·rintro b9 ⟨u, σ1⟩ hO
  rw [List.length_map, List.take_length] at hO
  dsimp only at hO
  have hO2 : OwnS 105 3 u (arcsG qs cs bs hs d).length ((arcsG qs cs bs hs d).flatMap encA) σ1 := by
   unfold arcsG
   rw [List.length_map, List.flatMap_map]
   exact hO
  have hu1 := hone _ _ _ _ hO2
  refine A2 ?_
  refine AC ?_
  refine AA ?_
  refine AS ?_
  refine AW ?_; rintro _ _ ⟨rfl, rfl⟩
  refine AE ?_
  refine E5 (v := .agg #[int (vsN qs d), u, int (vtx d d.s d.r), int (vtx d d.d d.e)]) (Marks.cons (.there .here) .nil) ?_ rsubZ ?_ ⟨σ1, ⟨u, rfl, hO2⟩, rfl⟩
  ·exact resS1 (b1 := b2) (T := 49) (v1 := [int (vsN qs d), u, int (vtx d d.s d.r), int (vtx d d.d d.e)]) rfl rfl rfl rfl (cells_own memZ)
  ·exact selZ
 ·rintro _ _ _ h; exact h.elim
set_option maxHeartbeats 16000000 in
theorem Graph_spec {ρ τ σ υ : PH} {pq pc pb ph : Option Addr} {kq kc kb kh : Nat} {qs : List Int} {cs : List Ct} {bs : List Bk} {hs : List Hd} (hT : TbAt ρ τ σ υ pq pc pb ph kq kc kb kh qs cs bs hs) (d : Dm) :
  Makes Tryz.prog (fv 13) [.agg #[.slice pq qs.length kq, .slice pc cs.length kc, .slice pb bs.length kb, .slice ph hs.length kh], .agg #[int d.s, int d.d, int d.v, int d.r, int d.e]] [ρ, τ, σ, υ] (fun r χ' => if validT qs cs bs hs d = true then ∃ u, r = .tuple #[.agg #[int (vsN qs d), u, int (vtx d d.s d.r), int (vtx d d.d d.e)], int 0] ∧ OwnS 105 3 u (arcsG qs cs bs hs d).length ((arcsG qs cs bs hs d).flatMap encA) χ' else r = .tuple #[.agg #[int 0, .slice none 0 0, int 0, int 0], int 1] ∧ χ' = emp) := by
 refine spec_in (cap := []) Tryz.func13 rfl rfl Tryz.ntmps13 rfl envZ (fun N β => ?_)
 refine AC ?_
 refine AA ?_
 refine BS (BV rfl) rfl rfl rfl ?_
 rintro _ _ ⟨b1, rfl, rfl⟩
 refine AT (ρ := sng b1 _) takeZ ?_
 have ct : RdN (sng b1 (.cells #[.slice pq qs.length kq, .slice pc cs.length kc, .slice pb bs.length kb, .slice ph hs.length kh] 29 (0, 0))) b1 0 [.slice pq qs.length kq, .slice pc cs.length kc, .slice pb bs.length kb, .slice ph hs.length kh] := rdN_sng (vs := [.slice pq qs.length kq, .slice pc cs.length kc, .slice pb bs.length kb, .slice ph hs.length kh])
 have ct0 : rdc (sng b1 (.cells #[.slice pq qs.length kq, .slice pc cs.length kc, .slice pb bs.length kb, .slice ph hs.length kh] 29 (0, 0))) b1 0 = some (.slice pq qs.length kq) := by rw [rdc_sng]; rfl
 have ct1 : rdc (sng b1 (.cells #[.slice pq qs.length kq, .slice pc cs.length kc, .slice pb bs.length kb, .slice ph hs.length kh] 29 (0, 0))) b1 1 = some (.slice pc cs.length kc) := by rw [rdc_sng]; rfl
 have ct2 : rdc (sng b1 (.cells #[.slice pq qs.length kq, .slice pc cs.length kc, .slice pb bs.length kb, .slice ph hs.length kh] 29 (0, 0))) b1 2 = some (.slice pb bs.length kb) := by rw [rdc_sng]; rfl
 have ct3 : rdc (sng b1 (.cells #[.slice pq qs.length kq, .slice pc cs.length kc, .slice pb bs.length kb, .slice ph hs.length kh] 29 (0, 0))) b1 3 = some (.slice ph hs.length kh) := by rw [rdc_sng]; rfl
 have ctp : RdP (sng b1 (.cells #[.slice pq qs.length kq, .slice pc cs.length kc, .slice pb bs.length kb, .slice ph hs.length kh] 29 (0, 0))) b1 0 [.slice pq qs.length kq, .slice pc cs.length kc] := rdP_sng (xs := [.slice pq qs.length kq, .slice pc cs.length kc, .slice pb bs.length kb, .slice ph hs.length kh]) rfl
 refine BS (BV rfl) rfl rfl rfl ?_
 rintro _ _ ⟨b2, rfl, rfl⟩
 refine AT (ρ := sng b2 _) takeZ ?_
 have cd : RdN (sng b2 (.cells #[int d.s, int d.d, int d.v, int d.r, int d.e] 31 (0, 0))) b2 0 [int d.s, int d.d, int d.v, int d.r, int d.e] := rdN_sng (vs := [int d.s, int d.d, int d.v, int d.r, int d.e])
 have cd0 : rdc (sng b2 (.cells #[int d.s, int d.d, int d.v, int d.r, int d.e] 31 (0, 0))) b2 0 = some (int d.s) := by rw [rdc_sng]; rfl
 have cd1 : rdc (sng b2 (.cells #[int d.s, int d.d, int d.v, int d.r, int d.e] 31 (0, 0))) b2 1 = some (int d.d) := by rw [rdc_sng]; rfl
 have cd2 : rdc (sng b2 (.cells #[int d.s, int d.d, int d.v, int d.r, int d.e] 31 (0, 0))) b2 2 = some (int d.v) := by rw [rdc_sng]; rfl
 have cd3 : rdc (sng b2 (.cells #[int d.s, int d.d, int d.v, int d.r, int d.e] 31 (0, 0))) b2 3 = some (int d.r) := by rw [rdc_sng]; rfl
 have cd4 : rdc (sng b2 (.cells #[int d.s, int d.d, int d.v, int d.r, int d.e] 31 (0, 0))) b2 4 = some (int d.e) := by rw [rdc_sng]; rfl
 refine C6 ?_
 refine AX ?_; rintro _ _ ⟨b, rfl, rfl⟩
 refine AD ?_
 refine AE ?_
 refine AC ?_
 refine AA ?_
 refine AS ?_
 refine AS ?_
 revert b; intro b4
 refine BL (build_spec hT d) rfl rfl Takes.nil rdZ rfl rfl ?_
 rintro _ H' (⟨hv, rfl, rfl⟩ | ⟨hv, bw, bm, pl0, χ, M, rfl, rfl, hO, hM⟩)
 ·refine AB ?_
  refine AP ?_
  refine AP ?_
  refine AD ?_
  refine AD ?_
  refine AE ?_
  refine AC ?_
  refine AC ?_
  refine AA ?_
  refine AB ?_
  refine A8 ?_
  refine AE ?_
  refine AM rfl ?_
  refine AC ?_
  refine AA ?_
  refine BN ?_
  refine AW ?_; rintro _ _ ⟨rfl, rfl⟩
  refine AD ?_
  refine AE ?_
  exact AI (resSE (b1 := b4) (T := 49) (v1 := [int 0, .slice none 0 0, int 0, int 0]) rfl rfl rfl rfl rfl (cells_own memZ)) rsubZ selZ ⟨emp, by dsimp only; rw [if_neg (by simp [hv])]; exact ⟨rfl, rfl⟩, rfl⟩
 have h := vok hv
 have h0 := vokB hv
 have hdm := h.dm
 unfold okDm at hdm
 have hnq := h.nq
 obtain ⟨pl, kp, rfl⟩ := hO.form
 have hpl : SlE encS 2 χ (.slice pl (placesA d qs.length).length kp) (placesA d qs.length) := hO.at
 refine AT (ρ := sng bw _) takeZ ?_
 refine AT (ρ := sng bm _) takeZ ?_
 refine AT (ρ := χ) takeZ ?_
 have w0 : rdc (sng bw (.cells #[.slice pq qs.length kq, .slice pc cs.length kc, .slice pb bs.length kb, .slice ph hs.length kh, int d.s, int d.d, int d.v, int d.r, int d.e, .slice pl (placesA d qs.length).length kp, .map (some bm)] 113 (0, 0))) bw 0 = some (.slice pq qs.length kq) := by rw [rdc_sng]; rfl
 have w1 : rdc (sng bw (.cells #[.slice pq qs.length kq, .slice pc cs.length kc, .slice pb bs.length kb, .slice ph hs.length kh, int d.s, int d.d, int d.v, int d.r, int d.e, .slice pl (placesA d qs.length).length kp, .map (some bm)] 113 (0, 0))) bw 1 = some (.slice pc cs.length kc) := by rw [rdc_sng]; rfl
 have w2 : rdc (sng bw (.cells #[.slice pq qs.length kq, .slice pc cs.length kc, .slice pb bs.length kb, .slice ph hs.length kh, int d.s, int d.d, int d.v, int d.r, int d.e, .slice pl (placesA d qs.length).length kp, .map (some bm)] 113 (0, 0))) bw 2 = some (.slice pb bs.length kb) := by rw [rdc_sng]; rfl
 have w3 : rdc (sng bw (.cells #[.slice pq qs.length kq, .slice pc cs.length kc, .slice pb bs.length kb, .slice ph hs.length kh, int d.s, int d.d, int d.v, int d.r, int d.e, .slice pl (placesA d qs.length).length kp, .map (some bm)] 113 (0, 0))) bw 3 = some (.slice ph hs.length kh) := by rw [rdc_sng]; rfl
 have w4 : rdc (sng bw (.cells #[.slice pq qs.length kq, .slice pc cs.length kc, .slice pb bs.length kb, .slice ph hs.length kh, int d.s, int d.d, int d.v, int d.r, int d.e, .slice pl (placesA d qs.length).length kp, .map (some bm)] 113 (0, 0))) bw 4 = some (int d.s) := by rw [rdc_sng]; rfl
 have w5 : rdc (sng bw (.cells #[.slice pq qs.length kq, .slice pc cs.length kc, .slice pb bs.length kb, .slice ph hs.length kh, int d.s, int d.d, int d.v, int d.r, int d.e, .slice pl (placesA d qs.length).length kp, .map (some bm)] 113 (0, 0))) bw 5 = some (int d.d) := by rw [rdc_sng]; rfl
 have w6 : rdc (sng bw (.cells #[.slice pq qs.length kq, .slice pc cs.length kc, .slice pb bs.length kb, .slice ph hs.length kh, int d.s, int d.d, int d.v, int d.r, int d.e, .slice pl (placesA d qs.length).length kp, .map (some bm)] 113 (0, 0))) bw 6 = some (int d.v) := by rw [rdc_sng]; rfl
 have w7 : rdc (sng bw (.cells #[.slice pq qs.length kq, .slice pc cs.length kc, .slice pb bs.length kb, .slice ph hs.length kh, int d.s, int d.d, int d.v, int d.r, int d.e, .slice pl (placesA d qs.length).length kp, .map (some bm)] 113 (0, 0))) bw 7 = some (int d.r) := by rw [rdc_sng]; rfl
 have w8 : rdc (sng bw (.cells #[.slice pq qs.length kq, .slice pc cs.length kc, .slice pb bs.length kb, .slice ph hs.length kh, int d.s, int d.d, int d.v, int d.r, int d.e, .slice pl (placesA d qs.length).length kp, .map (some bm)] 113 (0, 0))) bw 8 = some (int d.e) := by rw [rdc_sng]; rfl
 have w9 : rdc (sng bw (.cells #[.slice pq qs.length kq, .slice pc cs.length kc, .slice pb bs.length kb, .slice ph hs.length kh, int d.s, int d.d, int d.v, int d.r, int d.e, .slice pl (placesA d qs.length).length kp, .map (some bm)] 113 (0, 0))) bw 9 = some (.slice pl (placesA d qs.length).length kp) := by rw [rdc_sng]; rfl
 have w10 : rdc (sng bw (.cells #[.slice pq qs.length kq, .slice pc cs.length kc, .slice pb bs.length kb, .slice ph hs.length kh, int d.s, int d.d, int d.v, int d.r, int d.e, .slice pl (placesA d qs.length).length kp, .map (some bm)] 113 (0, 0))) bw 10 = some (.map (some bm)) := by rw [rdc_sng]; rfl
 have hg := graph_spec hT bw bm kp pl χ M d h h0 hpl hM
 refine AB ?_
 refine AP ?_
 refine AP ?_
 refine AD ?_
 refine AD ?_
 refine AE ?_
 refine AC ?_
 refine AC ?_
 refine AA ?_
 refine AB ?_
 refine A8 ?_
 refine AE ?_
 refine AN rfl ?_
 refine AL ?_
 refine AC ?_
 refine AA ?_
 refine AB ?_
 refine C9 hg rfl rfl rdZ rfl rfl ?_
 rintro _ σ1 ⟨u, rfl, hO1⟩
 have hu1 : u.oneCell' = true := by obtain ⟨_, _, rfl⟩ := hO1.form; rfl
 refine AW ?_; rintro _ _ ⟨rfl, rfl⟩
 refine AD ?_
 refine AE ?_
 exact AI (resSE (b1 := b4) (T := 49) (v1 := [int (vsN qs d), u, int (vtx d d.s d.r), int (vtx d d.d d.e)]) rfl rfl rfl rfl rfl (cells_own memZ)) rsubZ selZ ⟨σ1, by dsimp only; rw [if_pos hv]; exact ⟨u, rfl, hO1⟩, rfl⟩
end Go.Proofs.YtknfhiolenobaaaGreat
/- Values of flows, capacities of cuts, equal lists: what the functions answer. -/
namespace Go.Proofs.YtknfhiolenobaaaGreat
open Go.Eng Go.Flow
set_option maxRecDepth 100000
set_option maxHeartbeats 4000000

theorem value_spec (ρ σ : PH) (v u : Value) (s : Int) (l : List Arc) (fl : List Int) (hv : ArcsAt ρ v l) (hu : IntsAt σ u fl) (hl : l.length ≤ 20000) (hfl : fl.length = l.length) (hs : small fl) :
  Ans Tryz.prog (fv 38) [v, u, int s] [ρ, σ] (fun r => r = int (fval s l fl)) := by
 obtain ⟨q, c, rfl, hr⟩ := hv.val encA_len
 obtain ⟨q2, c2, rfl, hr2⟩ := hu.val Eng.encI_len
 refine spec_in (cap := []) Tryz.func38 rfl rfl Tryz.ntmps38 rfl envZ (fun N β => ?_)
 refine AC ?_
 refine AA ?_
 refine AD ?_
 refine AE ?_
 refine AC ?_
 refine AA ?_
 refine AD ?_
 refine AE ?_
 refine AC ?_
 refine AC ?_
 refine AA ?_
 refine AB ?_
 refine A3 ?_
 refine AB ?_
 refine AE ?_
 refine AO ?_
 refine BI [0, 1, 2, 10, 11] ((0, 0) : Nat × Int) (fun x => x.1 ≤ l.length ∧ x.2 = fval s (l.take x.1) (fl.take x.1)) (fun x => [(7, int x.2), (12, int x.1)]) (fun _ => []) (fun x => l.length - x.1) pickZ ⟨by simp, by simp [fval]⟩ covZ selZ ?_
 rintro ⟨k, y⟩ ⟨hk, hy⟩
 simp only at hk hy
 by_cases hlt : k < l.length
 ·have hx := List.getElem?_eq_getElem hlt
  obtain ⟨b, o, rfl, hA, h0, h1, h2⟩ := arcRow hr hx
  have hx2 := List.getElem?_eq_getElem (show k < fl.length by omega)
  obtain ⟨b2, o2, rfl, g0⟩ := hr2.int hx2
  have hbd := fval_bd s (l.take k) (fl.take k) (small_take hs k)
  have hlen : (fl.take k).length = k := by simp; omega
  rw [← hy, hlen] at hbd
  have hx3 := hs fl[k] (List.getElem_mem _)
  have hstep : fval s (l.take (k + 1)) (fl.take (k + 1)) = y + ((if l[k].f = s then fl[k] else 0) - (if l[k].t = s then fl[k] else 0)) := by
   rw [take_snoc' hlt, take_snoc' (show k < fl.length by omega), fval_snoc _ _ _ _ _ (by simp; omega), hy]
  repeat' (first
   | (refine AB ?_)
   | (refine AD ?_)
   | (refine AG ?_)
   | (refine AH ?_)
   | (refine BK ?_)
   | (refine BF ?_)
   | (refine BA ?_)
   | (refine BH ?_)
   | (refine B4 ?_)
   | (refine CJ ?_)
   | (refine AS ?_)
   | (refine AC ?_)
   | (refine AA ?_)
   | (refine AE ?_)
   | (refine AO ?_)
   | (refine A2 ?_)
   | (refine AL ?_)
   | (refine AM rfl ?_)
   | (refine AN rfl ?_)
   | (refine AX ?_; rintro _ _ ⟨b, rfl, rfl⟩)
   | (refine AW ?_; rintro _ _ ⟨rfl, rfl⟩)
   | (focus ((refine DN rfl rfl (cmp_eq _ _) rfl rfl (fun h => ?_) (fun h => ?_))))
   | fail)
  all_goals refine AY (k + 1, _) ⟨by simp only; omega, ?_⟩ (by simp only; omega) covZ selZ
  all_goals simp only
  all_goals rw [hstep]
  all_goals (repeat (first | rw [if_pos (by assumption)] | rw [if_neg (by assumption)]))
  all_goals omega
 ·refine AC ?_
  refine AA ?_
  refine A0 ?_
  refine AE ?_
  refine AC ?_
  refine AN rfl ?_
  refine A7 rfl ?_
  refine AC ?_
  refine AA ?_
  refine AB ?_
  refine AD ?_
  refine AE ?_
  refine AI (res1 rfl rfl) rsubZ selZ ⟨rfl, ?_⟩
  rw [hy, List.take_of_length_le (by omega), List.take_of_length_le (by omega)]

theorem capacity_spec (ρ : PH) (v : Value) (n b cp : Nat) (T : TypeId) (l : List Arc) (m : List Bool) (hv : ArcsAt ρ v l) (hl : l.length ≤ 20000) (hok : ∀ a ∈ l, okArc n a = true) (hm : m.length = n) :
  Ans Tryz.prog (fv 43) [v, .slice (some ⟨b, 0, none⟩) n cp] [ρ, sng b (.cells (bools m) T (0, 0))] (fun r => r = int (capOf (fun j => m.getD j false) l)) := by
 obtain ⟨q, c, rfl, hr⟩ := hv.val encA_len
 refine spec_in (cap := []) Tryz.func43 rfl rfl Tryz.ntmps43 rfl envZ (fun N β => ?_)
 refine AC ?_
 refine AA ?_
 refine AD ?_
 refine AE ?_
 refine AC ?_
 refine AA ?_
 refine AD ?_
 refine AE ?_
 refine AC ?_
 refine AC ?_
 refine AA ?_
 refine AB ?_
 refine A3 ?_
 refine AB ?_
 refine AE ?_
 refine AO ?_
 refine BI [0, 1, 8, 9] ((0, 0) : Nat × Int) (fun x => x.1 ≤ l.length ∧ x.2 = capOf (fun j => m.getD j false) (l.take x.1)) (fun x => [(5, int x.2), (10, int x.1)]) (fun _ => []) (fun x => l.length - x.1) pickZ ⟨by simp, by simp [capOf]⟩ covZ selZ ?_
 rintro ⟨k, y⟩ ⟨hk, hy⟩
 simp only at hk hy
 by_cases hlt : k < l.length
 ·have hx := List.getElem?_eq_getElem hlt
  obtain ⟨b', o, rfl, hA, h0, h1, h2⟩ := arcRow hr hx
  have hbd := capOf_bd n (fun j => m.getD j false) (l.take k) (fun a ha => hok a (List.mem_of_mem_take ha))
  have hlen : (l.take k).length = k := by simp; omega
  rw [← hy, hlen] at hbd
  obtain ⟨g1, g2, g3, g4, g5, g6, g7⟩ := okArc_iff.1 (hok l[k] (List.getElem_mem hlt))
  have hstep : capOf (fun j => m.getD j false) (l.take (k + 1)) = y + (if m.getD l[k].f.toNat false = true ∧ m.getD l[k].t.toNat false = false then l[k].c else 0) := by
   rw [take_snoc' hlt, capOf_snoc, hy]
  obtain ⟨f, hf⟩ := Int.eq_ofNat_of_zero_le g1
  obtain ⟨t, ht⟩ := Int.eq_ofNat_of_zero_le g3
  rw [hf, ht] at hA hstep
  rw [hf] at g2
  rw [ht] at g4
  have e1 : m[f]? = some (m.getD f false) := by
   have : f < m.length := by omega
   simp [this]
  have e2 : m[t]? = some (m.getD t false) := by
   have : t < m.length := by omega
   simp [this]
  simp only [Int.toNat_natCast] at hstep
  cases c1 : m.getD f false with
  | false =>
   rw [c1] at e1
   rw [if_neg (by rw [c1]; simp), Int.add_zero] at hstep
   refine AC ?_
   refine AA ?_
   refine BH ?_
   refine AE ?_
   refine AC ?_
   refine AM rfl ?_
   refine AL ?_
   refine AC ?_
   refine AO ?_
   refine AC ?_
   refine AA ?_
   refine BF ?_
   refine AS ?_
   refine AX ?_; rintro _ _ ⟨b, rfl, rfl⟩
   refine AW ?_; rintro _ _ ⟨rfl, rfl⟩
   refine AE ?_
   refine AC ?_
   refine AA ?_
   refine AB ?_
   refine AH ?_
   refine AG ?_
   refine BM ?_
   refine AG ?_
   refine AB ?_
   refine AF rfl rfl rfl ?_
   refine AF rfl rfl rfl ?_
   refine AF rfl rfl rfl ?_
   refine AF rfl rfl rfl ?_
   refine AF rfl rfl rfl ?_
   refine AF rfl rfl rfl ?_
   refine AJ ?_
   refine AE ?_
   refine AN rfl ?_
   refine AL ?_
   refine A2 ?_
   refine AA ?_
   refine BA ?_
   refine AB ?_
   refine AE ?_
   exact AY (k + 1, _) ⟨by simp only; omega, hstep.symm⟩ (by simp only; omega) covZ selZ
  | true =>
   rw [c1] at e1
   cases c2 : m.getD t false with
   | false =>
    rw [c2] at e2
    rw [if_pos ⟨c1, c2⟩] at hstep
    refine AC ?_
    refine AA ?_
    refine BH ?_
    refine AE ?_
    refine AC ?_
    refine AM rfl ?_
    refine AL ?_
    refine AC ?_
    refine AO ?_
    refine AC ?_
    refine AA ?_
    refine BF ?_
    refine AS ?_
    refine AX ?_; rintro _ _ ⟨b, rfl, rfl⟩
    refine AW ?_; rintro _ _ ⟨rfl, rfl⟩
    refine AE ?_
    refine AC ?_
    refine AA ?_
    refine AB ?_
    refine AH ?_
    refine AG ?_
    refine BM ?_
    refine AG ?_
    refine AB ?_
    refine AB ?_
    refine AH ?_
    refine AG ?_
    refine BM ?_
    refine AG ?_
    refine A8 ?_
    refine AK ?_
    refine AE ?_
    refine AM rfl ?_
    refine AA ?_
    refine AB ?_
    refine AH ?_
    refine AG ?_
    refine B4 ?_
    refine AD ?_
    refine AE ?_
    refine A2 ?_
    refine AA ?_
    refine BA ?_
    refine AB ?_
    refine AE ?_
    exact AY (k + 1, _) ⟨by simp only; omega, hstep.symm⟩ (by simp only; omega) covZ selZ
   | true =>
    rw [c2] at e2
    rw [if_neg (by rw [c2]; simp), Int.add_zero] at hstep
    refine AC ?_
    refine AA ?_
    refine BH ?_
    refine AE ?_
    refine AC ?_
    refine AM rfl ?_
    refine AL ?_
    refine AC ?_
    refine AO ?_
    refine AC ?_
    refine AA ?_
    refine BF ?_
    refine AS ?_
    refine AX ?_; rintro _ _ ⟨b, rfl, rfl⟩
    refine AW ?_; rintro _ _ ⟨rfl, rfl⟩
    refine AE ?_
    refine AC ?_
    refine AA ?_
    refine AB ?_
    refine AH ?_
    refine AG ?_
    refine BM ?_
    refine AG ?_
    refine AB ?_
    refine AB ?_
    refine AH ?_
    refine AG ?_
    refine BM ?_
    refine AG ?_
    refine A8 ?_
    refine AK ?_
    refine AE ?_
    refine AN rfl ?_
    refine AL ?_
    refine A2 ?_
    refine AA ?_
    refine BA ?_
    refine AB ?_
    refine AE ?_
    exact AY (k + 1, _) ⟨by simp only; omega, hstep.symm⟩ (by simp only; omega) covZ selZ
 ·refine AC ?_
  refine AA ?_
  refine A0 ?_
  refine AE ?_
  refine AC ?_
  refine AN rfl ?_
  refine A7 rfl ?_
  refine AC ?_
  refine AA ?_
  refine AB ?_
  refine AD ?_
  refine AE ?_
  refine AI (res1 rfl rfl) rsubZ selZ ⟨rfl, ?_⟩
  rw [hy, List.take_of_length_le (by omega)]

end Go.Proofs.YtknfhiolenobaaaGreat
/- Capacity and Value, of the program and of the reference. -/
namespace Go.Proofs.YtknfhiolenobaaaGreat
open Go.Eng Go.Flow
set_option maxRecDepth 100000
set_option maxHeartbeats 4000000

theorem capFun_eq (n : Nat) (side : List Int) (l : List Arc) (hok : ∀ a ∈ l, okArc n a = true) : capOf (fun j => (marksOf n side).getD j false) l = capOf (fun j => decide ((j : Int) ∈ side)) l := by
 induction l with
 | nil => rfl
 | cons a l ih =>
  obtain ⟨g1, g2, g3, g4, g5, g6, g7⟩ := okArc_iff.1 (hok a (by simp))
  simp only [capOf]
  rw [ih (fun b hb => hok b (by simp [hb]))]
  have e1 : (marksOf n side).getD a.f.toNat false = decide ((a.f.toNat : Int) ∈ side) := by
   rw [List.getD_eq_getElem?_getD, marksOf_get (by omega)]; rfl
  have e2 : (marksOf n side).getD a.t.toNat false = decide ((a.t.toNat : Int) ∈ side) := by
   rw [List.getD_eq_getElem?_getD, marksOf_get (by omega)]; rfl
  simp only [e1, e2]

theorem flowCapacity_spec (ρ σ : PH) (v u : Value) (n : Int) (l : List Arc) (side : List Int) (hv : ArcsAt ρ v l) (hu : IntsAt σ u side) (hl : l.length ≤ 1000000) (hm : side.length ≤ 1000000) :
  Ans Tryz.prog (fv 17) [int n, v, u] [ρ, σ] (fun r => r = .tuple #[int (capacitySpec n l side).1, int (capacitySpec n l side).2]) := by
 obtain ⟨q2, c2, rfl, hr2⟩ := hu.val Eng.encI_len
 refine spec_in (cap := []) Tryz.func17 rfl rfl Tryz.ntmps17 rfl envZ (fun N β => ?_)
 refine AC ?_
 refine AA ?_
 refine AD ?_
 refine AD ?_
 refine AE ?_
 refine AC ?_
 refine AC ?_
 refine AA ?_
 refine AB ?_
 refine AB ?_
 focus ((refine AZ (check_spec ρ v n l hv hl) rfl rfl rdZ rfl rfl ?_; rintro _ rfl))
 refine AD ?_
 refine AE ?_
 refine AC ?_
 refine AA ?_
 refine AB ?_
 by_cases hc : chk n l = 0
 rotate_left
 ·refine B9 ?_
  refine AE ?_
  refine AM rfl ?_
  refine AC ?_
  refine AA ?_
  refine AB ?_
  refine AD ?_
  refine AD ?_
  refine AE ?_
  refine AI (res2 rfl rfl rfl) rsubZ selZ ⟨rfl, ?_⟩
  unfold capacitySpec; rw [if_pos hc]
 obtain ⟨a1, a2, a3, hok⟩ := chk_ok hc
 obtain ⟨n, rfl⟩ := Int.eq_ofNat_of_zero_le a1
 refine A9 ?_
 refine AE ?_
 refine AN rfl ?_
 refine AL ?_
 refine AC ?_
 refine AA ?_
 refine AB ?_
 refine CG ?_; rintro _ _ ⟨b, rfl, rfl⟩
 refine AD ?_
 refine AE ?_
 refine AC ?_
 refine AC ?_
 refine AA ?_
 refine AB ?_
 refine A3 ?_
 refine AB ?_
 refine AE ?_
 refine AO ?_
 rw [← marksOf_nil]
 refine BI [0, 1, 2, 9, 20, 21] (0 : Nat) (fun k => k ≤ side.length ∧ sideChk n none side = sideChk n (prevAt side k) (side.drop k)) (fun k => [(22, int k)]) (fun k => [sng b (.cells (bools (marksOf n (side.take k))) 4 (0, 0))]) (fun k => side.length - k) pickZ ⟨by omega, by simp [prevAt]⟩ covZ selZ ?_
 rintro k ⟨hk, hy⟩
 have hml := marksOf_len n (side.take k)
 by_cases hlt : k < side.length
 ·obtain ⟨b2, o2, rfl, g1⟩ := hr2.int (List.getElem?_eq_getElem hlt)
  have g2 : 1 ≤ k → rdc σ b2 (o2 + (k - 1)) = some (int side[k - 1]) := fun h => by
   obtain ⟨b3, o3, e, g⟩ := hr2.int (List.getElem?_eq_getElem (show k - 1 < side.length by omega))
   simp only [Option.some.injEq, Addr.mk.injEq, and_true] at e
   rw [e.1, e.2]; exact g
  have hin : 0 ≤ side[k] ∧ side[k] < (n : Int) ∨ side[k] < 0 ∨ (n : Int) ≤ side[k] := by omega
  rcases hin with hin | hin
  ·have hpv : k = 0 ∨ (1 ≤ k ∧ side[k] ≤ side[k - 1]) ∨ (1 ≤ k ∧ side[k - 1] < side[k]) := by omega
   have hpa : 1 ≤ k → prevAt side k = some side[k - 1] := fun h => by
    obtain ⟨j, rfl⟩ : ∃ j, k = j + 1 := ⟨k - 1, by omega⟩
    simp [prevAt]
   obtain ⟨x, hx⟩ := Int.eq_ofNat_of_zero_le hin.1
   rcases hpv with rfl | ⟨h1, h2⟩ | ⟨h1, h2⟩
   ·have hst := sideChk_step (n := n) hlt hin.1 hin.2 (by simp [prevAt])
    rw [hx] at g1 hin
    refine AC ?_
    refine AA ?_
    refine BH ?_
    refine AE ?_
    refine AC ?_
    refine AM rfl ?_
    refine AL ?_
    refine AC ?_
    refine AO ?_
    refine AC ?_
    refine AA ?_
    refine AB ?_
    refine BK ?_
    refine AG ?_
    refine AD ?_
    refine AD ?_
    refine AE ?_
    refine AC ?_
    refine AC ?_
    refine AA ?_
    refine AB ?_
    refine AB ?_
    focus ((refine AZ (inside_spec _ _) rfl rfl rdZ rfl rfl ?_; rintro v (⟨rfl, h⟩ | ⟨rfl, h⟩); rotate_left; (focus (exfalso; omega))))
    refine A8 ?_
    refine AE ?_
    refine AN rfl ?_
    refine AL ?_
    refine AC ?_
    refine AC ?_
    refine AA ?_
    refine AB ?_
    refine BR ?_
    refine AB ?_
    refine AF rfl rfl rfl ?_
    refine AF rfl rfl rfl ?_
    refine AF rfl rfl rfl ?_
    refine AF rfl rfl rfl ?_
    refine AF rfl rfl rfl ?_
    refine AF rfl rfl rfl ?_
    refine AF rfl rfl rfl ?_
    refine AJ ?_
    refine AE ?_
    refine AN rfl ?_
    refine AL ?_
    refine AA ?_
    refine AB ?_
    refine AB ?_
    refine BM ?_
    refine B0 ?_; rintro _ _ ⟨rfl, rfl⟩
    refine AE ?_
    refine A2 ?_
    refine AA ?_
    refine BA ?_
    refine AB ?_
    refine AE ?_
    refine AY 1 ⟨by omega, by rw [hy, hst]⟩ (by omega) covZ ?_
    rw [take_snoc' hlt, hx, marksOf_snoc]
    exact selZ
   ·have hst := sideChk_nine (n := n) hlt hin.1 hin.2 (hpa h1) h2
    have hcs : capacitySpec n l side = (0, 9) := by
     unfold capacitySpec
     rw [if_neg (by rw [hc]; simp), hy, hst, if_pos (by simp)]
    have g3 := g2 h1
    rw [hx] at g1 hin h2
    refine AC ?_
    refine AA ?_
    refine BH ?_
    refine AE ?_
    refine AC ?_
    refine AM rfl ?_
    refine AL ?_
    refine AC ?_
    refine AO ?_
    refine AC ?_
    refine AA ?_
    refine AB ?_
    refine BK ?_
    refine AG ?_
    refine AD ?_
    refine AD ?_
    refine AE ?_
    refine AC ?_
    refine AC ?_
    refine AA ?_
    refine AB ?_
    refine AB ?_
    focus ((refine AZ (inside_spec _ _) rfl rfl rdZ rfl rfl ?_; rintro v (⟨rfl, h⟩ | ⟨rfl, h⟩); rotate_left; (focus (exfalso; omega))))
    refine A8 ?_
    refine AE ?_
    refine AN rfl ?_
    refine AL ?_
    refine AC ?_
    refine AC ?_
    refine AA ?_
    refine AB ?_
    refine CI ?_
    refine AB ?_
    refine AB ?_
    refine AB ?_
    refine AB ?_
    refine BT ?_
    refine BK ?_
    refine AG ?_
    refine CZ ?_
    refine AK ?_
    refine AE ?_
    refine AM rfl ?_
    refine AC ?_
    refine AA ?_
    refine AD ?_
    refine AD ?_
    refine AE ?_
    exact AI (res2 rfl rfl rfl) rsubZ selZ ⟨rfl, by rw [hcs]⟩
   ·have hst := sideChk_step (n := n) hlt hin.1 hin.2 (fun p hp => by rw [hpa h1] at hp; simp at hp; omega)
    have g3 := g2 h1
    rw [hx] at g1 hin h2
    refine AC ?_
    refine AA ?_
    refine BH ?_
    refine AE ?_
    refine AC ?_
    refine AM rfl ?_
    refine AL ?_
    refine AC ?_
    refine AO ?_
    refine AC ?_
    refine AA ?_
    refine AB ?_
    refine BK ?_
    refine AG ?_
    refine AD ?_
    refine AD ?_
    refine AE ?_
    refine AC ?_
    refine AC ?_
    refine AA ?_
    refine AB ?_
    refine AB ?_
    focus ((refine AZ (inside_spec _ _) rfl rfl rdZ rfl rfl ?_; rintro v (⟨rfl, h⟩ | ⟨rfl, h⟩); rotate_left; (focus (exfalso; omega))))
    refine A8 ?_
    refine AE ?_
    refine AN rfl ?_
    refine AL ?_
    refine AC ?_
    refine AC ?_
    refine AA ?_
    refine AB ?_
    refine CI ?_
    refine AB ?_
    refine AB ?_
    refine AB ?_
    refine AB ?_
    refine BT ?_
    refine BK ?_
    refine AG ?_
    refine CO ?_
    refine AK ?_
    refine AE ?_
    refine AN rfl ?_
    refine AL ?_
    refine AA ?_
    refine AB ?_
    refine AB ?_
    refine BM ?_
    refine B0 ?_; rintro _ _ ⟨rfl, rfl⟩
    refine AE ?_
    refine A2 ?_
    refine AA ?_
    refine BA ?_
    refine AB ?_
    refine AE ?_
    refine AY (k + 1) ⟨by omega, by rw [hy, hst]⟩ (by omega) covZ ?_
    rw [take_snoc' hlt, hx, marksOf_snoc]
    exact selZ
  ·have hst := sideChk_two (n := n) (prevAt side k) hlt hin
   have hcs : capacitySpec n l side = (0, 2) := by
    unfold capacitySpec
    rw [if_neg (by rw [hc]; simp), hy, hst, if_pos (by simp)]
   refine AC ?_
   refine AA ?_
   refine BH ?_
   refine AE ?_
   refine AC ?_
   refine AM rfl ?_
   refine AL ?_
   refine AC ?_
   refine AO ?_
   refine AC ?_
   refine AA ?_
   refine AB ?_
   refine BK ?_
   refine AG ?_
   refine AD ?_
   refine AD ?_
   refine AE ?_
   refine AC ?_
   refine AC ?_
   refine AA ?_
   refine AB ?_
   refine AB ?_
   focus ((refine AZ (inside_spec _ _) rfl rfl rdZ rfl rfl ?_; rintro v (⟨rfl, h⟩ | ⟨rfl, h⟩); (focus (exfalso; omega))))
   refine A8 ?_
   refine AE ?_
   refine AM rfl ?_
   refine AC ?_
   refine AA ?_
   refine AD ?_
   refine AD ?_
   refine AE ?_
   exact AI (res2 rfl rfl rfl) rsubZ selZ ⟨rfl, by rw [hcs]⟩
 ·obtain rfl : k = side.length := by omega
  rw [List.take_length] at hml
  rw [List.take_length]
  refine AC ?_
  refine AA ?_
  refine A0 ?_
  refine AE ?_
  refine AC ?_
  refine AN rfl ?_
  refine A7 rfl ?_
  refine AC ?_
  refine AA ?_
  refine AB ?_
  refine AB ?_
  focus ((refine AZ (capacity_spec ρ v n b n 4 l (marksOf n side) hv (by omega) hok hml) rfl rfl rdZ rfl rfl ?_; rintro _ rfl))
  refine AD ?_
  refine AD ?_
  refine AE ?_
  refine AI (res2 rfl rfl rfl) rsubZ selZ ⟨rfl, ?_⟩
  unfold capacitySpec
  rw [if_neg (by rw [hc]; simp), hy, List.drop_length]
  rw [if_neg (by simp [sideChk]), capFun_eq n side l hok]

end Go.Proofs.YtknfhiolenobaaaGreat
/- Value, of the program and of the reference. -/
namespace Go.Proofs.YtknfhiolenobaaaGreat
open Go.Eng Go.Flow
set_option maxRecDepth 100000
set_option maxHeartbeats 4000000

theorem balanced_of {n : Nat} {l : List Arc} {fl : List Int} {s t : Int} (h : ∀ v : Nat, v < n → (v : Int) = s ∨ (v : Int) = t ∨ fval v l fl = 0) : balanced n l fl s t = true := by
 unfold balanced
 rw [List.all_eq_true]
 intro v hv
 rw [decide_eq_true_eq]
 exact h v (by simpa using hv)
theorem balanced_not {n : Nat} {l : List Arc} {fl : List Int} {s t : Int} {v : Nat} (hv : v < n) (h1 : (v : Int) ≠ s) (h2 : (v : Int) ≠ t) (h3 : fval v l fl ≠ 0) : balanced n l fl s t = false := by
 cases h : balanced n l fl s t with
 | false => rfl
 | true =>
  unfold balanced at h
  rw [List.all_eq_true] at h
  have := h v (by simpa using hv)
  rw [decide_eq_true_eq] at this
  exact absurd this (by simp [h1, h2, h3])
theorem inCap_take_false {l : List Arc} {fl : List Int} {k : Nat} (hk : k < l.length) (hfl : fl.length = l.length) (h : ¬ (0 ≤ fl[k] ∧ fl[k] ≤ l[k].c)) : inCap l fl = false := by
 cases hc : inCap l fl with
 | false => rfl
 | true => exact absurd (inCap_get l fl hc k l[k] fl[k] (List.getElem?_eq_getElem hk) (List.getElem?_eq_getElem (by omega))) h

theorem flowValue_spec (ρ σ : PH) (v u : Value) (n s t : Int) (l : List Arc) (fl : List Int) (hv : ArcsAt ρ v l) (hu : IntsAt σ u fl) (hl : l.length ≤ 1000000) :
    Ans Tryz.prog (fv 39) [int n, v, u, int s, int t] [ρ, σ] (fun r => r = .tuple #[int (valueSpec n l fl s t).1, int (valueSpec n l fl s t).2]) := by
  obtain ⟨q, c, rfl, hr⟩ := hv.val encA_len
  obtain ⟨q2, c2, rfl, hr2⟩ := hu.val Eng.encI_len
  refine spec_in (cap := []) Tryz.func39 rfl rfl Tryz.ntmps39 rfl envZ (fun N β => ?_)
  refine AC ?_
  refine AA ?_
  refine AD ?_
  refine AD ?_
  refine AE ?_
  refine AC ?_
  refine AC ?_
  refine AA ?_
  refine AB ?_
  refine AB ?_
  focus ((refine AZ (check_spec ρ _ n l hv hl) rfl rfl rdZ rfl rfl ?_; rintro _ rfl))
  refine AD ?_
  refine AE ?_
  refine AC ?_
  refine AA ?_
  refine AB ?_
  by_cases hc : chk n l = 0
  rotate_left
  · refine B9 ?_
    refine AE ?_
    refine AM rfl ?_
    refine AC ?_
    refine AA ?_
    refine AB ?_
    refine AD ?_
    refine AD ?_
    refine AE ?_
    refine AI (res2 rfl rfl rfl) rsubZ selZ ⟨rfl, ?_⟩
    unfold valueSpec; rw [if_pos hc]
  obtain ⟨a1, a2, a3, hok⟩ := chk_ok hc
  obtain ⟨n, rfl⟩ := Int.eq_ofNat_of_zero_le a1
  by_cases he : okEnds n s t = true
  rotate_left
  · have he' : okEnds n s t = false := by simpa using he
    refine A9 ?_
    refine AE ?_
    refine AN rfl ?_
    refine AL ?_
    refine AC ?_
    refine AC ?_
    refine AA ?_
    refine AB ?_
    refine AB ?_
    refine AB ?_
    focus ((refine AZ (ends_spec n s t) rfl rfl rdZ rfl rfl ?_; rintro _ rfl; rw [he', if_neg (by simp)]))
    refine AD ?_
    refine AE ?_
    refine AC ?_
    refine AA ?_
    refine AB ?_
    refine B9 ?_
    refine AE ?_
    refine AM rfl ?_
    refine AC ?_
    refine AA ?_
    refine AB ?_
    refine AD ?_
    refine AD ?_
    refine AE ?_
    refine AI (res2 rfl rfl rfl) rsubZ selZ ⟨rfl, ?_⟩
    unfold valueSpec; rw [if_neg (by rw [hc]; simp), if_pos he']
  obtain ⟨s1, s2, t1, t2, st⟩ := okEnds_iff.1 he
  refine A9 ?_
  refine AE ?_
  refine AN rfl ?_
  refine AL ?_
  refine AC ?_
  refine AC ?_
  refine AA ?_
  refine AB ?_
  refine AB ?_
  refine AB ?_
  focus ((refine AZ (ends_spec n s t) rfl rfl rdZ rfl rfl ?_; rintro _ rfl; rw [he, if_pos rfl]))
  refine AD ?_
  refine AE ?_
  refine AC ?_
  refine AA ?_
  refine AB ?_
  refine A9 ?_
  refine AE ?_
  refine AN rfl ?_
  refine AL ?_
  refine AC ?_
  refine AC ?_
  refine AA ?_
  refine AB ?_
  refine A3 ?_
  refine AB ?_
  refine A3 ?_
  by_cases hfl : fl.length = l.length
  rotate_left
  · refine B9 ?_
    refine AE ?_
    refine AM rfl ?_
    refine AC ?_
    refine AA ?_
    refine AD ?_
    refine AD ?_
    refine AE ?_
    refine AI (res2 rfl rfl rfl) rsubZ selZ ⟨rfl, ?_⟩
    unfold valueSpec; rw [if_neg (by rw [hc]; simp), if_neg (by rw [he]; simp), if_pos hfl]
  refine A9 ?_
  refine AE ?_
  refine AN rfl ?_
  refine AL ?_
  refine AC ?_
  refine AA ?_
  refine AB ?_
  refine CA ?_; rintro _ _ ⟨b, rfl, rfl⟩
  refine AD ?_
  refine AE ?_
  refine AC ?_
  refine AC ?_
  refine AA ?_
  refine AB ?_
  refine A3 ?_
  refine AB ?_
  refine AE ?_
  refine AO ?_
  rw [show List.replicate n (0 : Int) = negL (netL n [] []) from by rw [netL_nil]; simp [negL]]
  refine BI [0, 1, 2, 3, 4, 14, 39, 40] (0 : Nat) (fun k => k ≤ l.length ∧ inCap (l.take k) (fl.take k) = true) (fun k => [(41, int k)]) (fun k => [sng b (.cells (ints (negL (netL n (l.take k) (fl.take k)))) 3 (0, 0))]) (fun k => l.length - k) pickZ ⟨by omega, by simp [inCap]⟩ covZ selZ ?_
  rintro k ⟨hk, hy⟩
  by_cases hlt : k < l.length
  · have hltf : k < fl.length := by omega
    obtain ⟨b', o, rfl, hA, h0, h1, h2⟩ := arcRow hr (List.getElem?_eq_getElem hlt)
    obtain ⟨b2, o2, rfl, f0⟩ := hr2.int (List.getElem?_eq_getElem hltf)
    obtain ⟨g1, g2, g3, g4, g5, g6, g7⟩ := okArc_iff.1 (hok l[k] (List.getElem_mem hlt))
    by_cases hin : 0 ≤ fl[k] ∧ fl[k] ≤ l[k].c
    rotate_left
    · have hvs : valueSpec n l fl s t = (0, 2) := by
        unfold valueSpec
        rw [if_neg (by rw [hc]; simp), if_neg (by rw [he]; simp), if_neg (by simpa using hfl), if_pos (inCap_take_false hlt hfl hin)]
      rcases (show fl[k] < 0 ∨ (0 ≤ fl[k] ∧ l[k].c < fl[k]) by omega) with hin' | hin'
      all_goals
        refine AC ?_
        refine AA ?_
        refine BH ?_
        refine AE ?_
        refine AC ?_
        refine AM rfl ?_
        refine AL ?_
        refine AC ?_
        refine AO ?_
        refine AC ?_
        refine AA ?_
        refine AB ?_
        refine BF ?_
        refine AS ?_
        refine AX ?_; rintro _ _ ⟨b, rfl, rfl⟩
        refine AD ?_
        refine AW ?_; rintro _ _ ⟨rfl, rfl⟩
        refine AE ?_
        refine AC ?_
        refine AC ?_
        refine BB (.q 0 (.q 1 (.q 2 (.q 3 (.q 4 (.q 5 (.q 6 (.q 7 (.q 8 (.q 9 (.q 10 (.q 11 (.q 12 (.q 13 .nil)))))))))))))) [] rfl (by kernel_rfl) selZ ?_
        repeat' (first
          | (refine AR ?_)
          | (refine AQ ?_)
          | (refine AV ?_)
          | (refine D0 ?_)
          | (refine BU ?_)
          | (refine BQ ?_)
          | (refine FV ?_)
          | (refine ER ?_)
          | (refine ES ?_)
          | (refine AU rfl rfl rfl rfl rfl ?_)
          | (refine BD ?_)
          | fail)
        refine AM rfl ?_
        refine AC ?_
        refine AA ?_
        refine AD ?_
        refine AD ?_
        refine AE ?_
        exact AI (res2 rfl rfl rfl) rsubZ selZ ⟨rfl, by rw [hvs]⟩
    obtain ⟨f, hf⟩ := Int.eq_ofNat_of_zero_le g1
    obtain ⟨t', ht⟩ := Int.eq_ofNat_of_zero_le g3
    rw [hf, ht] at hA g5
    rw [hf] at g2
    rw [ht] at g4
    have hst : (l.take k).length = (fl.take k).length := by simp; omega
    have hlen : (fl.take k).length = k := by simp; omega
    have hnet := netL_snoc (n := n) (l := l.take k) (fl := fl.take k) (a := l[k]) (x := fl[k]) hst hf ht (by omega)
    rw [← take_snoc' hlt, ← take_snoc' hltf] at hnet
    have hsm : small (fl.take k) := inCap_small _ _ hst hy (fun a ha => hok a (List.mem_of_mem_take ha))
    have b1 := fval_bd f (l.take k) (fl.take k) hsm
    have b2' := fval_bd t' (l.take k) (fl.take k) hsm
    rw [hlen] at b1 b2'
    generalize hE : negL (netL n (l.take k) (fl.take k)) = E
    have hEl : E.length = n := by rw [← hE, negL_len, netL_len]
    have e1 : E.getD f 0 = -(fval f (l.take k) (fl.take k)) := by rw [← hE, negL_get (by rw [netL_len]; omega), netL_get (by omega)]
    have e2 : E.getD t' 0 = -(fval t' (l.take k) (fl.take k)) := by rw [← hE, negL_get (by rw [netL_len]; omega), netL_get (by omega)]
    have e3 : (E.set f (E.getD f 0 - fl[k])).getD t' 0 = E.getD t' 0 := by
      rw [List.getD_eq_getElem?_getD, List.getElem?_set_ne (by omega), ← List.getD_eq_getElem?_getD]
    have e4 : (E.set f (E.getD f 0 - fl[k])).length = n := by simp [hEl]
    refine AC ?_
    refine AA ?_
    refine BH ?_
    refine AE ?_
    refine AC ?_
    refine AM rfl ?_
    refine AL ?_
    refine AC ?_
    refine AO ?_
    refine AC ?_
    refine AA ?_
    refine AB ?_
    refine BF ?_
    refine AS ?_
    refine AX ?_; rintro _ _ ⟨b, rfl, rfl⟩
    refine AD ?_
    refine AW ?_; rintro _ _ ⟨rfl, rfl⟩
    refine AE ?_
    refine AC ?_
    refine AC ?_
    refine BB (.q 0 (.q 1 (.q 2 (.q 3 (.q 4 (.q 5 (.q 6 (.q 7 (.q 8 (.q 9 (.q 10 (.q 11 (.q 12 (.q 13 .nil)))))))))))))) [] rfl (by kernel_rfl) selZ ?_
    refine AR ?_
    refine AR ?_
    refine D0 ?_
    refine AQ ?_
    refine ER ?_
    refine AR ?_
    refine AR ?_
    refine AR ?_
    refine D0 ?_
    refine AQ ?_
    refine AV ?_
    refine AQ ?_
    refine EI ?_
    refine BQ ?_
    refine BD ?_
    refine AN rfl ?_
    refine AL ?_
    refine AC ?_
    refine BB (.q 0 (.q 1 (.q 2 (.q 3 (.q 4 (.q 5 (.q 6 (.q 7 (.q 8 (.q 9 (.q 10 (.l 11 .b .nil)))))))))))) [] rfl (by kernel_rfl) selZ ?_
    refine AR ?_
    refine AV ?_
    refine AQ ?_
    refine CF ?_
    refine AQ ?_
    refine AR ?_
    refine AR ?_
    refine D0 ?_
    refine AQ ?_
    refine FE ?_
    refine CF ?_
    refine ET ?_; rintro _ _ ⟨rfl, rfl⟩
    refine BD ?_
    skip
    refine BB (.q 0 (.q 1 (.q 2 (.q 3 (.q 4 (.q 5 (.q 6 (.q 7 (.q 8 (.q 9 (.q 10 (.l 11 .b .nil)))))))))))) [] rfl (by kernel_rfl) selZ ?_
    refine AR ?_
    refine AV ?_
    refine AQ ?_
    refine CF ?_
    refine AQ ?_
    refine AR ?_
    refine AR ?_
    refine D0 ?_
    refine AQ ?_
    refine DV ?_
    refine CF ?_
    refine ET ?_; rintro _ _ ⟨rfl, rfl⟩
    refine BD ?_
    refine A2 ?_
    refine AA ?_
    refine BA ?_
    refine AB ?_
    refine AE ?_
    refine AY (k + 1) ⟨by omega, ?_⟩ (by omega) covZ ?_
    · rw [take_snoc' hlt, take_snoc' hltf, inCap_snoc _ _ _ _ hst, hy]
      simp; omega
    · rw [hnet, negL_set, negL_set, hE]
      rw [show -(fval f (l.take k) (fl.take k) + fl[k]) = E.getD f 0 - fl[k] from by omega]
      rw [show -(fval t' (l.take k) (fl.take k) - fl[k]) = (E.set f (E.getD f 0 - fl[k])).getD t' 0 + fl[k] from by rw [e3]; omega]
      exact selZ
  obtain rfl : k = l.length := by omega
  rw [List.take_length, List.take_of_length_le (by omega)] at hy
  rw [List.take_length, List.take_of_length_le (by omega)]
  have hsm : small fl := inCap_small _ _ hfl.symm hy hok
  generalize hE : negL (netL n l fl) = E
  have hEl : E.length = n := by rw [← hE, negL_len, netL_len]
  refine AC ?_
  refine AA ?_
  refine A0 ?_
  refine AE ?_
  refine AC ?_
  refine AN rfl ?_
  refine A7 rfl ?_
  refine AC ?_
  refine AC ?_
  refine AA ?_
  refine AB ?_
  refine A3 ?_
  refine AB ?_
  refine AE ?_
  refine AO ?_
  refine BI [1, 2, 3, 4, 83, 84] (0 : Nat) (fun k => k ≤ n ∧ ∀ v : Nat, v < k → (v : Int) = s ∨ (v : Int) = t ∨ fval v l fl = 0) (fun k => [(85, int k)]) (fun _ => [sng b (.cells (ints E) 3 (0, 0))]) (fun k => n - k) pickZ ⟨by omega, by simp⟩ covZ selZ ?_
  rintro k ⟨hk, hz⟩
  by_cases hlt : k < n
  · have e1 : E.getD k 0 = -(fval k l fl) := by rw [← hE, negL_get (by rw [netL_len]; omega), netL_get (by omega)]
    repeat' (first
      | (refine AB ?_)
      | (refine AD ?_)
      | (refine AG ?_)
      | (refine BM ?_)
      | (refine AK ?_)
      | (refine AJ ?_)
      | (refine BA ?_)
      | (refine BH ?_)
      | (refine AC ?_)
      | (refine AA ?_)
      | (refine AE ?_)
      | (refine AO ?_)
      | (refine A2 ?_)
      | (refine AL ?_)
      | (refine AM rfl ?_)
      | (refine AN rfl ?_)
      | (refine AF rfl rfl rfl ?_)
      | (focus ((refine DN rfl rfl (cmp_ne _ _) rfl rfl (fun h => ?_) (fun h => ?_))))
      | fail)
    all_goals first
      | (refine AY (k + 1) ⟨by omega, fun v hv => ?_⟩ (by omega) covZ selZ
         rcases Nat.lt_or_ge v k with hv' | hv'
         · exact hz v hv'
         · obtain rfl : v = k := by omega
           omega)
      | (refine AI (res2 rfl rfl rfl) rsubZ selZ ⟨rfl, ?_⟩
         have hb := balanced_not (l := l) (fl := fl) (s := s) (t := t) hlt (by omega) (by omega) (by omega)
         unfold valueSpec
         rw [if_neg (by rw [hc]; simp), if_neg (by rw [he]; simp), if_neg (by simpa using hfl), if_neg (by rw [hy]; simp), Int.toNat_natCast, if_pos hb])
  · refine AC ?_
    refine AA ?_
    refine A0 ?_
    refine AE ?_
    refine AC ?_
    refine AN rfl ?_
    refine A7 rfl ?_
    refine AC ?_
    refine AA ?_
    refine AB ?_
    refine AB ?_
    refine AB ?_
    focus ((refine AZ (value_spec ρ σ _ _ s l fl hv hu a3 hfl hsm) rfl rfl rdZ rfl rfl ?_; rintro _ rfl))
    refine AD ?_
    refine AD ?_
    refine AE ?_
    refine AI (res2 rfl rfl rfl) rsubZ selZ ⟨rfl, ?_⟩
    have hb := balanced_of (n := n) (l := l) (fl := fl) (s := s) (t := t) (fun v hv => hz v (by omega))
    unfold valueSpec
    rw [if_neg (by rw [hc]; simp), if_neg (by rw [he]; simp), if_neg (by simpa using hfl), if_neg (by rw [hy]; simp), Int.toNat_natCast, if_neg (by rw [hb]; simp)]

end Go.Proofs.YtknfhiolenobaaaGreat
/- Flows of time-expanded networks, and stocks. No program in sight. No conditions. -/
namespace Go.Step
open Go.Flow (Flw fval netB netB_eq inCap sumTo sumTo_zero sumTo_one okArc_iff)
def zsum (f : EA → Int → Int) : List EA → List Int → Int
  | x :: L, y :: fl => f x y + zsum f L fl
  | _, _ => 0
theorem zsum_congr {f g : EA → Int → Int} : ∀ {L : List EA} {fl : List Int}, (∀ x ∈ L, ∀ y ∈ fl, f x y = g x y) → zsum f L fl = zsum g L fl
  | [], _, _ => by simp [zsum]
  | _ :: _, [], _ => by simp [zsum]
  | x :: L, y :: fl, h => by
    simp only [zsum]
    rw [h x (by simp) y (by simp), zsum_congr (fun a ha b hb => h a (by simp [ha]) b (by simp [hb]))]
theorem zsum_sub (f g : EA → Int → Int) : ∀ (L : List EA) (fl : List Int), zsum (fun x y => f x y - g x y) L fl = zsum f L fl - zsum g L fl
  | [], _ => by simp [zsum]
  | _ :: _, [] => by simp [zsum]
  | x :: L, y :: fl => by simp only [zsum]; rw [zsum_sub f g L fl]; omega
theorem netB_zsum (B : Nat → Bool) : ∀ (L : List EA) (fl : List Int), netB B (L.map (fun x => x.a)) fl = zsum (fun x y => (if B x.a.f.toNat = true then y else 0) - (if B x.a.t.toNat = true then y else 0)) L fl
  | [], _ => by simp [zsum, netB]
  | _ :: _, [] => by simp [zsum, netB]
  | x :: L, y :: fl => by simp only [List.map_cons, zsum, netB]; rw [netB_zsum B L fl]
theorem zsum_le {f : EA → Int → Int} {g : EA → Int} : ∀ {L : List EA} {fl : List Int}, inCap (L.map (fun x => x.a)) fl = true → (∀ x ∈ L, ∀ y, 0 ≤ y → y ≤ x.a.c → 0 ≤ f x y ∧ f x y ≤ g x) → (∀ x ∈ L, 0 ≤ g x) → 0 ≤ zsum f L fl ∧ zsum f L fl ≤ lsum g L
  | [], _, _, _, _ => by simp [zsum, lsum]
  | x :: L, [], _, _, hg => by
    have : ∀ (L : List EA), (∀ x ∈ L, 0 ≤ g x) → 0 ≤ lsum g L := by
      intro L
      induction L with
      | nil => intro _; simp [lsum]
      | cons x L ih => intro h; have := h x (by simp); have := ih (fun y hy => h y (by simp [hy])); simp only [lsum]; omega
    simp only [zsum]
    exact ⟨Int.le_refl _, this _ hg⟩
  | x :: L, y :: fl, hc, h, hg => by
    simp only [List.map_cons, inCap, Bool.and_eq_true, decide_eq_true_eq] at hc
    have ih := zsum_le hc.2 (fun a ha => h a (by simp [ha])) (fun a ha => hg a (by simp [ha]))
    have := h x (by simp) y hc.1.1 hc.1.2
    simp only [zsum, lsum]
    omega
def shipsF : List EA → List Int → List Sh
  | x :: L, y :: fl => (if 0 ≤ x.c ∧ 0 < y then [⟨x.c, x.t, y⟩] else []) ++ shipsF L fl
  | _, _ => []
theorem stk1_zero (cs : List Ct) (d : Dm) (n t : Int) (c u : Int) : stk1 cs d n t ⟨c, u, 0⟩ = 0 := by
  unfold stk1
  split <;> simp
theorem stock_ships (cs : List Ct) (d : Dm) (n t : Int) : ∀ {L : List EA} {fl : List Int}, (∀ y ∈ fl, 0 ≤ y) → stock cs d n t (shipsF L fl) = zsum (fun x y => if 0 ≤ x.c then stk1 cs d n t ⟨x.c, x.t, y⟩ else 0) L fl
  | [], _, _ => by simp [zsum, shipsF, stock]
  | _ :: _, [], _ => by simp [zsum, shipsF, stock]
  | x :: L, y :: fl, h => by
    have ih := stock_ships cs d n t (L := L) (fl := fl) (fun z hz => h z (by simp [hz]))
    have hy := h y (by simp)
    simp only [zsum, shipsF]
    rw [stock_append, ih]
    congr 1
    by_cases hx : 0 ≤ x.c
    · rw [if_pos hx]
      by_cases h0 : 0 < y
      · rw [if_pos ⟨hx, h0⟩]; simp [stock]
      · obtain rfl : y = 0 := by omega
        rw [if_neg (fun h => h0 h.2), stk1_zero]; rfl
    · rw [if_neg hx, if_neg (fun h => hx h.1)]; rfl
def waitF (d : Dm) (n t : Int) (L : List EA) (fl : List Int) : Int := zsum (fun x y => if x.c = -1 ∧ x.a.f = vtx d n t then y else 0) L fl
section
variable {qs : List Int} {cs : List Ct} {bs : List Bk} {hs : List Hd} {d : Dm}
theorem inCap_nonneg : ∀ {l : List Arc} {fl : List Int}, inCap l fl = true → l.length = fl.length → ∀ y ∈ fl, 0 ≤ y
  | [], [], _, _, y, hy => by simp at hy
  | [], _ :: _, _, h, _, _ => by simp at h
  | _ :: _, [], _, h, _, _ => by simp at h
  | a :: l, x :: fl, hc, hl, y, hy => by
    simp only [inCap, Bool.and_eq_true, decide_eq_true_eq] at hc
    rcases List.mem_cons.1 hy with rfl | hy
    · exact hc.1.1
    · exact inCap_nonneg hc.2 (by simpa using hl) y hy
def bq (d : Dm) (P : Int → Int → Bool) (v : Nat) : Bool := P ((v : Int) / wd d) (d.r + (v : Int) % wd d)
theorem bq_vtx {d : Dm} {P : Int → Int → Bool} {n t : Int} (h0 : 0 ≤ n) (h1 : d.r ≤ t) (h2 : t ≤ d.e) : bq d P (vtx d n t).toNat = P n t := by
  have hp : 0 ≤ vtx d n t := by
    unfold vtx
    have := Int.mul_nonneg h0 (show 0 ≤ wd d by unfold wd; omega)
    omega
  unfold bq
  rw [Int.toNat_of_nonneg hp, vtx_div h1 h2, vtx_mod h1 h2]
  congr 1
  omega
theorem ctOf_get {cs : List Ct} {i : Nat} {c : Ct} (h : cs[i]? = some c) (t n : Int) : ctOf cs ⟨i, t, n⟩ = c := by
  unfold ctOf
  rw [Int.toNat_natCast, List.getD_eq_getElem?_getD, h]; rfl
theorem net_P (h : VOk qs cs bs hs d) (P : Int → Int → Bool) (F : EA → Int → Int) (fl : List Int)
    (hw : ∀ (n : Nat) (t y : Int), n < qs.length → d.r ≤ t → t < d.e → F ⟨⟨vtx d n t, vtx d n (t + 1), roomT qs hs d n t⟩, -1, t⟩ y = (if P n t = true then y else 0) - (if P n (t + 1) = true then y else 0))
    (hc : ∀ (i : Nat) (c : Ct) (t y : Int), cs[i]? = some c → d.r ≤ t → t + 1 + c.g ≤ d.e → F (conE d c i t) y = (if P c.f t = true then y else 0) - (if P c.t (t + 1 + c.g) = true then y else 0)) :
    netB (bq d P) (arcsG qs cs bs hs d) fl = zsum F (arcsE qs cs bs hs d) fl := by
  unfold arcsG
  rw [netB_zsum]
  refine zsum_congr (fun x hx y _ => ?_)
  cases h.arc.1 hx with
  | @wait n t h1 h2 h3 =>
    rw [hw n t y h1 h2 h3, bq_vtx (by omega) h2 (by omega), bq_vtx (by omega) (by omega) (by omega)]
  | @con i c t hc' h1 h2 h3 h4 h5 =>
    have k := h.ct c (List.mem_of_getElem? hc')
    rw [hc i c t y hc' h1 h4]
    unfold conE
    dsimp only
    rw [bq_vtx k.1.1 h1 (by omega), bq_vtx k.2.1.1 (by omega) h4]
theorem stock_wait (h : VOk qs cs bs hs d) {fl : List Int} {N S T : Nat} (hN : vsN qs d = N) (hS : vtx d d.s d.r = S) (hT : vtx d d.d d.e = T) (hf : Flw N (arcsG qs cs bs hs d) S T fl) {n : Nat} {t : Int} (h1 : d.r ≤ t) (h2 : t ≤ d.e) :
    stock cs d n t (shipsF (arcsE qs cs bs hs d) fl) = waitF d n t (arcsE qs cs bs hs d) fl + (if (n : Int) = d.d ∧ t = d.e then -(fval T (arcsG qs cs bs hs d) fl) else 0) := by
  have hpos := inCap_nonneg hf.cap hf.len
  rw [stock_ships cs d n t hpos]
  have hdm := h.dm
  unfold okDm at hdm
  have hok := h.ok
  rw [hN] at hok
  have hvd : ∀ v : Nat, v < N → (0 ≤ (v : Int) / wd d) ∧ d.r ≤ d.r + (v : Int) % wd d ∧ d.r + (v : Int) % wd d ≤ d.e ∧ vtx d ((v : Int) / wd d) (d.r + (v : Int) % wd d) = v := fun v hv => by
    have hw := h.wd
    have := vtx_of (d := d) (v := (v : Int)) (N := qs.length) (by omega) (by omega) (by rw [show (qs.length : Int) * wd d = vsN qs d from rfl, hN]; omega)
    exact ⟨this.1.1, this.2.1.1, this.2.1.2, this.2.2⟩
  have hTN : T < N := by
    have := (Go.Flow.okEnds_iff.1 h.ends)
    rw [hN, hT] at this
    omega
  have hSe : ((S : Nat) : Int) / wd d = d.s ∧ d.r + ((S : Nat) : Int) % wd d = d.r := by
    rw [← hS, vtx_div (by omega) (by omega), vtx_mod (by omega) (by omega)]
    omega
  have hTe : ((T : Nat) : Int) / wd d = d.d ∧ d.r + ((T : Nat) : Int) % wd d = d.e := by
    rw [← hT, vtx_div (by omega) (by omega), vtx_mod (by omega) (by omega)]
    omega
  have hvi : ∀ (m : Nat) (u : Int), d.r ≤ u → u ≤ d.e → (vtx d m u = vtx d n t ↔ m = n ∧ u = t) := fun m u h3 h4 => ⟨fun e => by have := vtx_inj h3 h4 h1 h2 e; omega, fun ⟨e1, e2⟩ => by rw [e1, e2]⟩
  by_cases hs : (n : Int) = d.s
  · -- the source: what leaves later
    have hnet := net_P h (fun m u => decide (m = n ∧ t < u)) (fun x y => (if 0 ≤ x.c then stk1 cs d n t ⟨x.c, x.t, y⟩ else 0) - (if x.c = -1 ∧ x.a.f = vtx d n t then y else 0)) fl (fun m u y h3 h4 h5 => by
      dsimp only
      rw [if_neg (show ¬ (0 : Int) ≤ -1 by omega)]
      simp only [hvi m u h4 (by omega), true_and, decide_eq_true_eq, Int.natCast_inj]
      by_cases e : m = n
      · subst e
        simp only [true_and]
        split <;> split <;> split <;> omega
      · simp [e]) (fun i c u y hc h3 h4 => by
      unfold conE
      dsimp only
      rw [if_pos (show (0 : Int) ≤ (i : Int) by omega), if_neg (show ¬ ((i : Int) = -1 ∧ vtx d c.f u = vtx d n t) by omega), Int.sub_zero]
      unfold stk1 arrOf
      rw [ctOf_get hc, if_pos hs]
      simp only [decide_eq_true_eq])
    rw [zsum_sub, ← netB_eq (n := N) (bq d _) _ fl hok, sumTo_zero N (fun v hv => ?_)] at hnet
    · rw [if_neg (by omega)]
      unfold waitF
      omega
    · split
      · rename_i hb
        unfold bq at hb
        rw [decide_eq_true_eq] at hb
        obtain ⟨_, _, _, _⟩ := hvd v hv
        refine hf.bal v hv (fun e => ?_) (fun e => ?_)
        · subst e
          rw [hSe.2] at hb
          omega
        · subst e
          rw [hTe.1] at hb
          omega
      · rfl
  · have hnet := net_P h (fun m u => decide (m = n ∧ u ≤ t)) (fun x y => (if x.c = -1 ∧ x.a.f = vtx d n t then y else 0) - (if 0 ≤ x.c then stk1 cs d n t ⟨x.c, x.t, y⟩ else 0)) fl (fun m u y h3 h4 h5 => by
      dsimp only
      rw [if_neg (show ¬ (0 : Int) ≤ -1 by omega)]
      simp only [hvi m u h4 (by omega), true_and, decide_eq_true_eq, Int.natCast_inj]
      by_cases e : m = n
      · subst e
        simp only [true_and]
        split <;> split <;> split <;> omega
      · simp [e]) (fun i c u y hc h3 h4 => by
      unfold conE
      dsimp only
      rw [if_pos (show (0 : Int) ≤ (i : Int) by omega), if_neg (show ¬ ((i : Int) = -1 ∧ vtx d c.f u = vtx d n t) by omega), Int.zero_sub]
      unfold stk1 arrOf
      rw [ctOf_get hc, if_neg hs]
      simp only [decide_eq_true_eq]
      omega)
    rw [zsum_sub, ← netB_eq (n := N) (bq d _) _ fl hok] at hnet
    by_cases he : (n : Int) = d.d ∧ t = d.e
    · rw [if_pos he]
      rw [sumTo_one (k := T) N hTN (fun v hv hne => ?_)] at hnet
      · unfold bq at hnet
        rw [hTe.1, hTe.2, if_pos (by rw [decide_eq_true_eq]; omega)] at hnet
        unfold waitF
        omega
      · split
        · rename_i hb
          unfold bq at hb
          rw [decide_eq_true_eq] at hb
          refine hf.bal v hv (fun e => ?_) hne
          subst e
          rw [hSe.1] at hb
          omega
        · rfl
    · rw [if_neg he]
      rw [sumTo_zero N (fun v hv => ?_)] at hnet
      · unfold waitF
        omega
      · split
        · rename_i hb
          unfold bq at hb
          rw [decide_eq_true_eq] at hb
          refine hf.bal v hv (fun e => ?_) (fun e => ?_)
          · subst e
            rw [hSe.1] at hb
            omega
          · subst e
            rw [hTe.1, hTe.2] at hb
            omega
        · rfl
theorem wait_room (h : VOk qs cs bs hs d) {fl : List Int} (hc : inCap (arcsG qs cs bs hs d) fl = true) {n : Nat} (hn : n < qs.length) {t : Int} (h1 : d.r ≤ t) (h2 : t ≤ d.e) :
    0 ≤ waitF d n t (arcsE qs cs bs hs d) fl ∧ waitF d n t (arcsE qs cs bs hs d) fl ≤ (if t < d.e then roomT qs hs d n t else 0) := by
  have hg : ∀ x ∈ arcsE qs cs bs hs d, 0 ≤ (if x.c = -1 ∧ x.a.f = vtx d n t then x.a.c else 0) := fun x hx => by
    have := okArc_iff.1 (h.ok x.a (List.mem_map.2 ⟨x, hx, rfl⟩))
    split <;> omega
  have hz := zsum_le (f := fun x y => if x.c = -1 ∧ x.a.f = vtx d n t then y else 0) (g := fun x => if x.c = -1 ∧ x.a.f = vtx d n t then x.a.c else 0) (L := arcsE qs cs bs hs d) (fl := fl) hc (fun x _ y h3 h4 => by
    split <;> omega) hg
  have hs : lsum (fun x : EA => if x.c = -1 ∧ x.a.f = vtx d n t then x.a.c else 0) (arcsE qs cs bs hs d) = if t < d.e then roomT qs hs d n t else 0 := by
    unfold arcsE
    rw [lsum_append, lsum_waitA]
    have hcon : lsum (fun x : EA => if x.c = -1 ∧ x.a.f = vtx d n t then x.a.c else 0) (conA cs bs d cs.length) = 0 := by
      rw [lsum_congr (g := fun _ => 0) (fun x hx => by
        obtain ⟨i, _, c, u, _, _, _, _, rfl⟩ := mem_conA.1 hx
        unfold conE
        dsimp only
        rw [if_neg (by omega)])]
      exact lsum_zero _
    rw [hcon, Int.add_zero]
    have hone : ∀ (g : Int → Int) (m : Nat), (∀ k : Nat, k < m → k ≠ n → g (0 + k) = 0) → n < m → sumT g 0 m = g n := by
      intro g m
      induction m with
      | zero => intro _ h; omega
      | succ m ih =>
        intro h3 h4
        show sumT g 0 m + g (0 + m) = _
        by_cases e : n = m
        · subst e
          have : sumT g 0 n = 0 := by
            have h5 := sumT_congr (f := g) (g := fun _ => 0) (a := 0) (m := n) (fun k hk => h3 k (by omega) (by omega))
            rw [h5]
            have : ∀ m : Nat, sumT (fun _ => 0) 0 m = 0 := by
              intro m
              induction m with
              | zero => rfl
              | succ m ih => show sumT _ 0 m + 0 = 0; rw [ih]; rfl
            exact this n
          rw [this, Int.zero_add, Int.zero_add]
        · rw [ih (fun k hk => h3 k (by omega)) (by omega), h3 m (by omega) (by omega), Int.add_zero]
    rw [hone _ qs.length (fun k hk hne => ?_) hn]
    · rw [← lsum_rngI]
      by_cases ht : t < d.e
      · rw [if_pos ht]
        have e : rngI d.r d.e = rngI d.r t ++ (t :: rngI (t + 1) d.e) := by
          refine asc_ext (rngI_asc _ _) ?_ (fun u => ?_)
          · rw [List.pairwise_append]
            refine ⟨rngI_asc _ _, List.pairwise_cons.2 ⟨fun b hb => by rw [mem_rngI] at hb; omega, rngI_asc _ _⟩, fun a ha b hb => ?_⟩
            rw [mem_rngI] at ha
            rcases List.mem_cons.1 hb with rfl | hb
            · omega
            · rw [mem_rngI] at hb; omega
          · rw [List.mem_append, List.mem_cons, mem_rngI, mem_rngI, mem_rngI]
            omega
        rw [e, lsum_append]
        show lsum _ _ + (_ + lsum _ _) = _
        rw [lsum_congr (g := fun _ => 0) (l := rngI d.r t) (fun u hu => ?_), lsum_congr (g := fun _ => 0) (l := rngI (t + 1) d.e) (fun u hu => ?_), lsum_zero, lsum_zero]
        · dsimp only
          rw [if_pos ⟨rfl, rfl⟩]; omega
        · rw [mem_rngI] at hu
          dsimp only
          rw [if_neg (fun h3 => ?_)]
          have := vtx_inj (by omega) (by omega) h1 h2 h3.2
          omega
        · rw [mem_rngI] at hu
          dsimp only
          rw [if_neg (fun h3 => ?_)]
          have := vtx_inj (by omega) (by omega) h1 h2 h3.2
          omega
      · rw [if_neg ht]
        rw [lsum_congr (g := fun _ => 0) (fun u hu => ?_), lsum_zero]
        rw [mem_rngI] at hu
        dsimp only
        rw [if_neg (fun h3 => ?_)]
        have := vtx_inj (by omega) (by omega) h1 h2 h3.2
        omega
    · rw [← lsum_rngI, lsum_congr (g := fun _ => 0) (fun u hu => ?_), lsum_zero]
      rw [mem_rngI] at hu
      dsimp only
      rw [if_neg (fun h3 => ?_)]
      have := vtx_inj (by omega) (by omega) h1 h2 h3.2
      omega
  rw [hs] at hz
  exact hz
end
end Go.Step
/- The paths of a flow; greater capacities; arcs turned round. No program in sight. No conditions. -/
namespace Go.Flow
def plFrom : Nat → List Arc → List Lk
  | _, [] => []
  | i, a :: l => ⟨i, a.f.toNat, a.t.toNat⟩ :: plFrom (i + 1) l
def plinks (l : List Arc) : List Lk := plFrom 0 l
theorem plFrom_get : ∀ (l : List Arc) (i j : Nat), (plFrom i l)[j]? = (l[j]?).map (fun a => (⟨i + j, a.f.toNat, a.t.toNat⟩ : Lk))
  | [], i, j => by simp [plFrom]
  | b :: l, i, j => by
    cases j with
    | zero => simp [plFrom]
    | succ j =>
      simp only [plFrom, List.getElem?_cons_succ]
      rw [plFrom_get l (i + 1) j, show i + 1 + j = i + (j + 1) from by omega]
theorem plinks_get (l : List Arc) (j : Nat) : (plinks l)[j]? = (l[j]?).map (fun a => (⟨j, a.f.toNat, a.t.toNat⟩ : Lk)) := by
  unfold plinks; rw [plFrom_get]; simp
theorem plinks_iff {l : List Arc} {x : Lk} : x ∈ plinks l ↔ ∃ j a, l[j]? = some a ∧ x = ⟨j, a.f.toNat, a.t.toNat⟩ := by
  rw [List.mem_iff_getElem?]
  constructor
  · rintro ⟨j, hj⟩
    rw [plinks_get, Option.map_eq_some_iff] at hj
    obtain ⟨a, ha, rfl⟩ := hj
    exact ⟨j, a, ha, rfl⟩
  · rintro ⟨j, a, ha, rfl⟩
    exact ⟨j, by rw [plinks_get, ha]; rfl⟩
theorem pl_lt {n : Nat} {l : List Arc} (hok : ∀ a ∈ l, okArc n a = true) : ∀ x ∈ plinks l, x.f < n ∧ x.t < n := fun x hx => by
  obtain ⟨j, a, ha, rfl⟩ := plinks_iff.1 hx
  have := okArc_iff.1 (hok a (List.mem_of_getElem? ha))
  dsimp only; omega
theorem pl_k {l : List Arc} {x : Lk} (hx : x ∈ plinks l) : x.k < l.length := by
  obtain ⟨j, a, ha, rfl⟩ := plinks_iff.1 hx
  exact (List.getElem?_eq_some_iff.1 ha).1
def rmP (rest : List Int) (k : Nat) : Int := rest.getD k 0
def subP (room : Int) (rest : List Int) (x : Lk) : List Int := rest.set x.k (rest.getD x.k 0 - room)
def subAll (room : Int) (rest : List Int) (p : List Lk) : List Int := p.foldl (subP room) rest
theorem subP_len (room : Int) (rest : List Int) (x : Lk) : (subP room rest x).length = rest.length := by simp [subP]
theorem subAll_len (room : Int) : ∀ (p : List Lk) (rest : List Int), (subAll room rest p).length = rest.length
  | [], rest => rfl
  | x :: p, rest => by
    have := subAll_len room p (subP room rest x)
    rw [subP_len] at this
    exact this
theorem subP_ok {n : Nat} {l : List Arc} {fl : List Int} {x : Lk} {room : Int} (hok : ∀ a ∈ l, okArc n a = true) (hl : l.length = fl.length) (hc : inCap l fl = true) (hx : x ∈ plinks l) (h0 : 0 ≤ room) (hr : room ≤ rmP fl x.k) :
    inCap l (subP room fl x) = true ∧ (∀ v : Nat, fval v l (subP room fl x) = fval v l fl - ((if x.f = v then room else 0) - (if x.t = v then room else 0))) ∧ ∀ k, k ≠ x.k → rmP (subP room fl x) k = rmP fl k := by
  obtain ⟨j, a, ha, rfl⟩ := plinks_iff.1 hx
  have hjl : j < l.length := (List.getElem?_eq_some_iff.1 ha).1
  have hfj : fl[j]? = some (fl.getD j 0) := by simp [List.getD_eq_getElem?_getD, show j < fl.length by omega]
  have hin := inCap_get l fl hc j a _ ha hfj
  obtain ⟨g1, g2, g3, g4, g5, g6, g7⟩ := okArc_iff.1 (hok a (List.mem_of_getElem? ha))
  unfold rmP at hr
  dsimp only at hr
  refine ⟨?_, ?_, fun k hk => ?_⟩
  · unfold subP
    exact inCap_set l fl j a _ ha hc (by dsimp only; omega) (by dsimp only; omega)
  · intro v
    unfold subP
    dsimp only
    rw [fval_set v l fl j a _ ha hl]
    have e1 : (a.f = (v : Int)) ↔ (a.f.toNat = v) := by omega
    have e2 : (a.t = (v : Int)) ↔ (a.t.toNat = v) := by omega
    simp only [e1, e2]
    split <;> split <;> omega
  · unfold rmP subP
    exact getD_set' (Ne.symm hk)
theorem subAll_ok {n : Nat} {l : List Arc} {room : Int} (hok : ∀ a ∈ l, okArc n a = true) (h0 : 0 ≤ room) {E : Lk → Prop} (hE : ∀ x, E x → x ∈ plinks l) {u w : Nat} {p : List Lk} (hp : Chn E u p w) :
    ∀ (fl : List Int), l.length = fl.length → inCap l fl = true → p.Pairwise (fun x y => x.k ≠ y.k) → (∀ x ∈ p, room ≤ rmP fl x.k) →
    inCap l (subAll room fl p) = true ∧ ∀ v : Nat, fval v l (subAll room fl p) = fval v l fl - ((if u = v then room else 0) - (if w = v then room else 0)) := by
  induction hp with
  | nil => intro fl _ hc _ _; exact ⟨hc, fun v => by simp [subAll]⟩
  | @cons x u p w hf hx _ ih =>
    intro fl hl hc hpw hr
    rw [List.pairwise_cons] at hpw
    obtain ⟨s1, s2, s3⟩ := subP_ok hok hl hc (hE x hx) h0 (hr x (by simp))
    obtain ⟨r1, r2⟩ := ih (subP room fl x) (by rw [subP_len]; exact hl) s1 hpw.2 (fun y hy => by rw [s3 y.k (Ne.symm (hpw.1 y hy))]; exact hr y (by simp [hy]))
    refine ⟨r1, fun v => ?_⟩
    have := r2 v
    rw [s2 v] at this
    show fval v l (subAll room (subP room fl x) p) = _
    rw [this, hf]
    split <;> split <;> split <;> omega
abbrev pE (l : List Arc) (fl : List Int) : Lk → Prop := opn (plinks l) (rmP fl)
abbrev pP (l : List Arc) (fl : List Int) (D : List Int) (s : Nat) : List Lk := pathD (nxt (plinks l) (rmP fl) D) D s
abbrev pRoom (l : List Arc) (fl : List Int) (D : List Int) (s : Nat) : Int := leastR (rmP fl) (pP l fl D s)
abbrev pNext (l : List Arc) (fl : List Int) (D : List Int) (s : Nat) : List Int := subAll (pRoom l fl D s) fl (pP l fl D s)
section
variable {n s t : Nat} {l : List Arc}
theorem pP_arcs (hok : ∀ a ∈ l, okArc n a = true) (hs : s < n) {fl D : List Int} (hD : IsDist n t (pE l fl) D) (h0 : 0 ≤ D.getD s 0) : (pP l fl D s).Pairwise (fun x y => x.k ≠ y.k) := by
  obtain ⟨k, hk⟩ := Int.eq_ofNat_of_zero_le h0
  have hp := path_sorted (pl_lt hok) hD k s hs hk
  have hc := (path_chn (pl_lt hok) hD k s hs hk).all
  refine List.Pairwise.imp_of_mem (fun {x y} hx hy hxy e => ?_) hp
  obtain ⟨i, a, ha, rfl⟩ := plinks_iff.1 (hc x hx).1.1
  obtain ⟨j, b, hb, rfl⟩ := plinks_iff.1 (hc y hy).1.1
  dsimp only at e hxy
  subst e
  rw [ha] at hb
  obtain rfl := Option.some.inj hb
  omega
theorem pNext_ok (hok : ∀ a ∈ l, okArc n a = true) (hs : s < n) (hst : s ≠ t) {fl D : List Int} (hf : Flw n l s t fl) (hD : IsDist n t (pE l fl) D) (h0 : 0 ≤ D.getD s 0) :
    Flw n l s t (pNext l fl D s) ∧ 0 < pRoom l fl D s ∧ fval s l (pNext l fl D s) = fval s l fl - pRoom l fl D s := by
  obtain ⟨k, hk⟩ := Int.eq_ofNat_of_zero_le h0
  have hch := path_chn (pl_lt hok) hD k s hs hk
  have hpos : 0 < pRoom l fl D s := leastR_pos _ _ _ (by omega) (fun x hx => (hch.all x hx).1.2)
  obtain ⟨r1, r2⟩ := subAll_ok hok (Int.le_of_lt hpos) (E := fun x => pE l fl x ∧ D.getD x.t 0 = D.getD x.f 0 - 1 ∧ D.getD x.f 0 ≤ k) (fun x hx => hx.1.1) hch fl hf.len hf.cap (pP_arcs hok hs hD h0) (fun x hx => (leastR_le _ _ _).2 x hx)
  refine ⟨⟨by rw [subAll_len]; exact hf.len, r1, fun v hv h1 h2 => ?_⟩, hpos, ?_⟩
  · rw [r2 v, if_neg (Ne.symm h1), if_neg (Ne.symm h2), hf.bal v hv h1 h2]; rfl
  · rw [r2 s, if_pos rfl, if_neg (Ne.symm hst)]; omega
end
inductive RunP (n : Nat) (l : List Arc) (s t : Nat) : List Int → List (List Lk × Int) → List Int → Prop
  | done {fl D : List Int} : IsDist n t (pE l fl) D → D.getD s 0 < 0 → RunP n l s t fl [] fl
  | step {fl D r : List Int} {ps : List (List Lk × Int)} : IsDist n t (pE l fl) D → 0 ≤ D.getD s 0 → RunP n l s t (pNext l fl D s) ps r → RunP n l s t fl ((pP l fl D s, pRoom l fl D s) :: ps) r
theorem RunP.uniq {n s t : Nat} {l : List Arc} (hok : ∀ a ∈ l, okArc n a = true) {fl F G : List Int} {ps qs : List (List Lk × Int)} (h1 : RunP n l s t fl ps F) (h2 : RunP n l s t fl qs G) : ps = qs ∧ F = G := by
  have hE : ∀ fl x, pE l fl x → x.f < n ∧ x.t < n := fun fl x hx => pl_lt hok x hx.1
  induction h1 generalizing G qs with
  | done hD hn =>
    cases h2 with
    | done => exact ⟨rfl, rfl⟩
    | step hD2 h0 _ => rw [hD.uniq (hE _) hD2] at hn; omega
  | step hD h0 _ ih =>
    cases h2 with
    | done hD2 hn => rw [hD.uniq (hE _) hD2] at h0; omega
    | step hD2 _ hr =>
      have e := hD.uniq (hE _) hD2
      subst e
      obtain ⟨e1, e2⟩ := ih hr
      exact ⟨by rw [e1], e2⟩
section
variable {n s t : Nat} {l : List Arc}
end
/-! ### a greater capacity -/
/-! ### arcs turned round, arcs in the opposite order -/
def turnA (a : Arc) : Arc := ⟨a.t, a.f, a.c⟩
theorem fval_turn (v : Int) : ∀ (l : List Arc) (fl : List Int), fval v (l.map turnA) fl = - fval v l fl
  | [], _ => by simp [fval]
  | _ :: _, [] => by simp [fval]
  | a :: l, x :: fl => by
    simp only [List.map_cons, fval, fval_turn v l fl, turnA]
    split <;> split <;> omega
theorem inCap_turn : ∀ (l : List Arc) (fl : List Int), inCap (l.map turnA) fl = inCap l fl
  | [], _ => by simp [inCap]
  | _ :: _, [] => by simp [inCap]
  | a :: l, x :: fl => by simp only [List.map_cons, inCap, inCap_turn l fl, turnA]
theorem netB_all : ∀ (l : List Arc) (fl : List Int), netB (fun _ => true) l fl = 0
  | [], _ => by simp [netB]
  | _ :: _, [] => by simp [netB]
  | a :: l, x :: fl => by simp only [netB, if_true]; rw [netB_all l fl]; omega
theorem sumTo_two {g : Nat → Int} {j k : Nat} (hjk : j ≠ k) : ∀ n, j < n → k < n → (∀ v, v < n → v ≠ j → v ≠ k → g v = 0) → sumTo g n = g j + g k
  | 0, h, _, _ => by omega
  | n + 1, h, h2, e => by
    simp only [sumTo]
    by_cases e1 : k = n
    · rw [sumTo_one (k := j) n (by omega) (fun v hv hne => e v (by omega) hne (by omega)), e1]
    · by_cases e2 : j = n
      · rw [sumTo_one (k := k) n (by omega) (fun v hv hne => e v (by omega) (by omega) hne), e2]; omega
      · rw [sumTo_two hjk n (by omega) (by omega) (fun v hv g1 g2 => e v (by omega) g1 g2), e n (by omega) (by omega) (by omega)]; omega
theorem Flw.ends {n s t : Nat} {l : List Arc} {fl : List Int} (hok : ∀ a ∈ l, okArc n a = true) (hs : s < n) (ht : t < n) (hst : s ≠ t) (hf : Flw n l s t fl) : fval t l fl = - fval s l fl := by
  have h := netB_eq (n := n) (fun _ => true) l fl hok
  rw [netB_all] at h
  rw [sumTo_two hst n hs ht (fun v hv g1 g2 => by simp only [if_true]; exact hf.bal v hv g1 g2)] at h
  simp only [if_true] at h
  omega
theorem Flw.turn {n s t : Nat} {l : List Arc} {fl : List Int} (hf : Flw n l s t fl) : Flw n (l.map turnA) t s fl :=
  ⟨by simp [hf.len], by rw [inCap_turn]; exact hf.cap, fun v hv g1 g2 => by rw [fval_turn, hf.bal v hv g2 g1]; rfl⟩
/-! ### differences of flows -/
end Go.Flow
/- The shipments of a flow can be made, and bring its value. No program in sight. No conditions. -/
namespace Go.Step
open Go.Flow (Flw fval inCap okArc okArc_iff)
theorem mem_shipsF : ∀ {L : List EA} {fl : List Int} {s : Sh}, inCap (L.map (fun x => x.a)) fl = true → s ∈ shipsF L fl → ∃ x ∈ L, 0 ≤ x.c ∧ s.c = x.c ∧ s.t = x.t ∧ 0 < s.n ∧ s.n ≤ x.a.c
  | [], fl, s, _, h => by simp [shipsF] at h
  | _ :: _, [], s, _, h => by simp [shipsF] at h
  | x :: L, y :: fl, s, hc, h => by
    simp only [List.map_cons, inCap, Bool.and_eq_true, decide_eq_true_eq] at hc
    unfold shipsF at h
    rcases List.mem_append.1 h with h | h
    · split at h
      · rename_i h1
        rw [List.mem_singleton.1 h]
        exact ⟨x, by simp, h1.1, rfl, rfl, h1.2, hc.1.2⟩
      · simp at h
    · obtain ⟨z, hz, r⟩ := mem_shipsF hc.2 h
      exact ⟨z, by simp [hz], r⟩
theorem shipsF_apart : ∀ {L : List EA} (fl : List Int), L.Pairwise (fun x y => 0 ≤ x.c → 0 ≤ y.c → ¬ (x.c = y.c ∧ x.t = y.t)) → (shipsF L fl).Pairwise (fun x y => ¬ (x.c = y.c ∧ x.t = y.t))
  | [], fl, _ => by simp [shipsF]
  | x :: L, [], _ => by simp [shipsF]
  | x :: L, y :: fl, h => by
    obtain ⟨h1, h2⟩ := List.pairwise_cons.1 h
    have ih := shipsF_apart fl h2
    unfold shipsF
    rw [List.pairwise_append]
    refine ⟨?_, ih, fun a ha b hb => ?_⟩
    · split
      · exact List.pairwise_singleton _ _
      · exact .nil
    · split at ha
      · rename_i hx
        rw [List.mem_singleton.1 ha]
        have : ∀ {L : List EA} {fl : List Int} {s : Sh}, s ∈ shipsF L fl → ∃ x ∈ L, 0 ≤ x.c ∧ s.c = x.c ∧ s.t = x.t := by
          intro L
          induction L with
          | nil => intro fl s h; simp [shipsF] at h
          | cons x L ih =>
            intro fl s h
            cases fl with
            | nil => simp [shipsF] at h
            | cons y fl =>
              unfold shipsF at h
              rcases List.mem_append.1 h with h | h
              · split at h
                · rename_i h1
                  rw [List.mem_singleton.1 h]
                  exact ⟨x, by simp, h1.1, rfl, rfl⟩
                · simp at h
              · obtain ⟨z, hz, r⟩ := ih h
                exact ⟨z, by simp [hz], r⟩
        obtain ⟨z, hz, k1, k2, k3⟩ := this hb
        have := h1 z hz hx.1 k1
        dsimp only
        rw [k2, k3]
        exact this
      · simp at ha
section
variable {qs : List Int} {cs : List Ct} {bs : List Bk} {hs : List Hd} {d : Dm}
theorem conN_asc (h : VOk qs cs bs hs d) (i : Nat) : (conN cs bs d i).Pairwise (fun x y => x.c = (i : Int) ∧ y.c = (i : Int) ∧ x.t < y.t) := by
  unfold conN
  cases e : cs[i]? with
  | none => exact .nil
  | some c =>
    simp only
    rw [List.pairwise_map]
    exact (tickL_asc (h.free e).1).imp (fun {x y} hxy => ⟨rfl, rfl, hxy⟩)
theorem arcs_apart (h : VOk qs cs bs hs d) : (arcsE qs cs bs hs d).Pairwise (fun x y => 0 ≤ x.c → 0 ≤ y.c → ¬ (x.c = y.c ∧ x.t = y.t)) := by
  unfold arcsE
  rw [List.pairwise_append]
  refine ⟨?_, ?_, fun a ha b _ h1 _ => ?_⟩
  · rw [List.pairwise_iff_forall_sublist]
    intro a b hab h1 _
    have ha : a ∈ waitA qs hs d qs.length := hab.subset (by simp)
    obtain ⟨n, _, t, _, _, rfl⟩ := mem_waitA.1 ha
    dsimp only at h1
    omega
  · have : ∀ m, (conA cs bs d m).Pairwise (fun x y => 0 ≤ x.c → 0 ≤ y.c → ¬ (x.c = y.c ∧ x.t = y.t)) := by
      intro m
      induction m with
      | zero => exact .nil
      | succ m ih =>
        unfold conA
        rw [List.pairwise_append]
        refine ⟨ih, (conN_asc h m).imp (fun {x y} hxy _ _ => by omega), fun a ha b hb _ _ => ?_⟩
        obtain ⟨i, hi, c, t, _, _, _, _, rfl⟩ := mem_conA.1 ha
        unfold conN at hb
        split at hb
        · simp at hb
        · obtain ⟨u, _, rfl⟩ := List.mem_map.1 hb
          unfold conE
          dsimp only
          omega
    exact this _
  · obtain ⟨n, _, t, _, _, rfl⟩ := mem_waitA.1 ha
    dsimp only at h1
    omega
theorem ships_flow (h : VOk qs cs bs hs d) (hv : validT qs cs bs hs d = true) {fl : List Int} {N S T : Nat} (hN : vsN qs d = N) (hS : vtx d d.s d.r = S) (hT : vtx d d.d d.e = T) (hf : Flw N (arcsG qs cs bs hs d) S T fl) (hp : 0 ≤ fval S (arcsG qs cs bs hs d) fl) :
    flowR qs cs bs hs d (shipsF (arcsE qs cs bs hs d) fl) = (fval S (arcsG qs cs bs hs d) fl, 0) := by
  have hok := h.ok
  rw [hN] at hok
  have hends := Go.Flow.okEnds_iff.1 h.ends
  rw [hN, hS, hT] at hends
  have hval := hf.ends hok (by omega) (by omega) (by omega)
  have hdm := h.dm
  unfold okDm at hdm
  have hst := fun n t h1 h2 => stock_wait h hN hS hT hf (n := n) (t := t) h1 h2
  rw [hval] at hst
  have hwt := fun n hn t h1 h2 => wait_room h hf.cap (n := n) hn (t := t) h1 h2
  have hE : firstE (shipE cs bs d (shipsF (arcsE qs cs bs hs d) fl)) (shipsF (arcsE qs cs bs hs d) fl).length = 0 := firstE_all (fun k hk => by
    have hx := List.getElem?_eq_getElem hk
    have hm := List.getElem_mem hk
    obtain ⟨x, hxm, k1, k2, k3, k4, k5⟩ := mem_shipsF (by exact hf.cap) hm
    have hs1 : ship1 cs bs d (shipsF (arcsE qs cs bs hs d) fl)[k] = 0 := by
      generalize (shipsF (arcsE qs cs bs hs d) fl)[k] = s at k2 k3 k4 k5
      cases h.arc.1 hxm with
      | wait => dsimp only at k1; omega
      | @con i c t hc h1 h2 h3 h4 h5 =>
        unfold conE at k2 k3 k5
        dsimp only at k2 k3 k5
        have hlt := (List.getElem?_eq_some_iff.1 hc).1
        unfold ship1
        rw [k2, k3, Int.toNat_natCast, hc, if_neg (by omega)]
        simp only
        rw [if_neg (by omega), if_neg (by omega), if_neg (by rw [h5]; simp)]
    rw [shipE_at hx, if_neg (fun h => h hs1), if_neg]
    rw [List.any_eq_true]
    rintro ⟨y, hy, he⟩
    unfold sameSl at he
    rw [decide_eq_true_eq] at he
    have hpw := shipsF_apart fl (arcs_apart h)
    obtain ⟨j, hj, rfl⟩ := List.getElem_of_mem hy
    rw [List.length_take] at hj
    rw [List.getElem_take] at he
    have := List.pairwise_iff_getElem.1 hpw j k (by omega) hk (by omega)
    omega)
  have hcf : conflB qs.length cs d (shipsF (arcsE qs cs bs hs d) fl) = false := by
    unfold conflB
    rw [anyT_none]
    intro n hn
    rw [anyT_none]
    intro k hk
    unfold confAt
    rw [decide_eq_false_iff_not, Int.zero_add, hst n (d.r + k) (by omega) (by omega)]
    have hw := hwt n hn (d.r + k) (by omega) (by omega)
    rintro (h1 | ⟨h1, h2, h3, h4⟩)
    · split at h1 <;> omega
    · rw [if_neg (show ¬ d.r + (k : Int) < d.e by omega)] at hw
      rw [if_neg (show ¬ ((n : Int) = d.d ∧ d.r + (k : Int) = d.e) by omega)] at h4
      omega
  have hfu : fullB qs cs hs d (shipsF (arcsE qs cs bs hs d) fl) = false := by
    unfold fullB
    rw [anyT_none]
    intro n hn
    rw [anyT_none]
    intro k hk
    unfold fullAt
    rw [decide_eq_false_iff_not, Int.zero_add, hst n (d.r + k) (by omega) (by omega), if_neg (show ¬ ((n : Int) = d.d ∧ d.r + (k : Int) = d.e) by omega)]
    have hw := hwt n hn (d.r + k) (by omega) (by omega)
    rw [if_pos (show d.r + (k : Int) < d.e by omega)] at hw
    omega
  unfold flowR
  rw [if_neg (by rw [hv]; simp), if_neg (fun h => h hE), if_neg (by rw [hcf]; simp), if_neg (by rw [hfu]; simp)]
  congr 1
  obtain ⟨dd, hdd⟩ : ∃ n : Nat, d.d = n := ⟨d.d.toNat, by omega⟩
  have hs2 := hst dd d.e (by omega) (by omega)
  have hw := hwt dd (by omega) d.e (by omega) (by omega)
  rw [if_neg (by omega)] at hw
  rw [if_pos ⟨hdd.symm, rfl⟩] at hs2
  rw [hdd, hs2]
  omega
end
end Go.Step
/- The cut of a set of vertices. No program in sight. No conditions. -/
namespace Go.Step
def singI (d : Dm) (n : Int) (side : List Int) : Iv := (side.filter (fun v => decide (v / wd d = n))).map (fun v => (d.r + v % wd d, d.r + v % wd d + 1))
def sideI (d : Dm) (side : List Int) (n : Int) : Iv := insAll [] (singI d n side)
theorem singI_next (d : Dm) (n : Int) {side : List Int} {k : Nat} (h : k < side.length) : singI d n (side.take (k + 1)) = singI d n (side.take k) ++ (if side[k] / wd d = n then [(d.r + side[k] % wd d, d.r + side[k] % wd d + 1)] else []) := by
  unfold singI
  rw [List.take_succ_eq_append_getElem h, List.filter_append, List.map_append]
  congr 1
  by_cases hc : side[k] / wd d = n
  · simp [hc]
  · simp [hc]
theorem sideI_next (d : Dm) (n : Int) {side : List Int} {k : Nat} (h : k < side.length) : sideI d (side.take (k + 1)) n = if side[k] / wd d = n then insI (sideI d (side.take k) n) (d.r + side[k] % wd d, d.r + side[k] % wd d + 1) else sideI d (side.take k) n := by
  unfold sideI
  rw [singI_next d n h]
  unfold insAll
  rw [List.foldl_append]
  split <;> rfl
theorem singI_ok (d : Dm) (n : Int) (side : List Int) : ∀ x ∈ singI d n side, x.2 = x.1 + 1 := fun x hx => by
  unfold singI at hx
  obtain ⟨v, _, rfl⟩ := List.mem_map.1 hx
  rfl
theorem mem_singI {d : Dm} {n t : Int} {side : List Int} : memI (singI d n side) t = true ↔ ∃ v ∈ side, v / wd d = n ∧ d.r + v % wd d = t := by
  rw [memI_iff]
  unfold singI
  constructor
  · rintro ⟨x, hx, h1, h2⟩
    obtain ⟨v, hv, rfl⟩ := List.mem_map.1 hx
    obtain ⟨h3, h4⟩ := List.mem_filter.1 hv
    exact ⟨v, h3, of_decide_eq_true h4, by dsimp only at h1 h2; omega⟩
  · rintro ⟨v, hv, h1, h2⟩
    exact ⟨_, List.mem_map.2 ⟨v, List.mem_filter.2 ⟨hv, decide_eq_true h1⟩, rfl⟩, by dsimp only; omega, by dsimp only; omega⟩
theorem sideI_ok (d : Dm) (side : List Int) (n : Int) : NormI (sideI d side n) ∧ (∀ t, memI (sideI d side n) t = true ↔ ∃ v ∈ side, v / wd d = n ∧ d.r + v % wd d = t) ∧ (sideI d side n).length ≤ side.length := by
  obtain ⟨h1, h2, h3⟩ := insAll_ok (a := []) (b := singI d n side) NormI.nil (fun x hx => by have := singI_ok d n side x hx; omega)
  refine ⟨h1, fun t => ?_, ?_⟩
  · unfold sideI
    rw [h2, show memI [] t = false from rfl, Bool.false_or]
    exact mem_singI
  · have : (singI d n side).length ≤ side.length := by
      unfold singI
      rw [List.length_map]
      exact List.length_filter_le _ _
    unfold sideI
    simp at h3
    omega
theorem sideI_mem {d : Dm} {side : List Int} {n t : Int} (h1 : d.r ≤ t) (h2 : t ≤ d.e) : memI (sideI d side n) t = true ↔ vtx d n t ∈ side := by
  rw [(sideI_ok d side n).2.1]
  constructor
  · rintro ⟨v, hv, h3, h4⟩
    have : vtx d n t = v := by
      unfold vtx
      rw [← h3, ← h4, Int.mul_comm]
      have := Int.mul_ediv_add_emod v (wd d)
      omega
    rw [this]; exact hv
  · intro hv
    exact ⟨_, hv, vtx_div h1 h2, by rw [vtx_mod h1 h2]; omega⟩
theorem sideI_in {d : Dm} (hw : d.r ≤ d.e) (side : List Int) (n : Int) : ∀ x ∈ sideI d side n, d.r ≤ x.1 ∧ x.2 ≤ d.e + 1 := norm_in (sideI_ok d side n).1 (fun t ht => by
  obtain ⟨v, _, _, h⟩ := ((sideI_ok d side n).2.1 t).1 ht
  have a := Int.emod_nonneg v (show wd d ≠ 0 by unfold wd; omega)
  have b := Int.emod_lt_of_pos v (show 0 < wd d by unfold wd; omega)
  unfold wd at *
  omega)
def sidesC (d : Dm) (nq : Nat) (side : List Int) : Cu := (List.range nq).map (fun n : Nat => sideI d side n)
theorem sidesC_at (d : Dm) {nq n : Nat} (side : List Int) (h : n < nq) : cuAt (sidesC d nq side) n = sideI d side n := by
  unfold cuAt sidesC
  rw [Int.toNat_natCast, List.getD_eq_getElem?_getD, List.getElem?_map, List.getElem?_range h]
  rfl
section
variable {qs : List Int} {cs : List Ct} {bs : List Bk} {hs : List Hd} {d : Dm}
theorem capB_congr (h : VOk qs cs bs hs d) {B C : Int → Int → Bool} (hB : ∀ n t : Int, 0 ≤ n → n < (qs.length : Int) → d.r ≤ t → t ≤ d.e → B n t = C n t) : capB qs cs bs hs d B = capB qs cs bs hs d C := by
  unfold capB
  congr 1
  · refine sumT_congr (fun k hk => ?_)
    rw [← lsum_rngI, ← lsum_rngI]
    refine lsum_congr (fun t ht => ?_)
    rw [mem_rngI] at ht
    unfold waitB
    rw [hB _ t (by omega) (by omega) (by omega) (by omega), hB _ (t + 1) (by omega) (by omega) (by omega) (by omega)]
  · refine sumT_congr (fun k hk => ?_)
    rw [← lsum_rngI, ← lsum_rngI]
    refine lsum_congr (fun t ht => ?_)
    rw [mem_rngI] at ht
    unfold conB
    rw [Int.zero_add, Int.toNat_natCast, List.getElem?_eq_getElem hk]
    have k1 := h.ct _ (List.getElem_mem hk)
    generalize cs[k] = x at k1
    dsimp only
    by_cases hx : t + 1 + x.g ≤ d.e
    · rw [hB _ t k1.1.1 k1.1.2 (by omega) (by omega), hB _ (t + 1 + x.g) k1.2.1.1 k1.2.1.2 (by omega) hx]
    · rw [if_neg (fun h2 => hx h2.2.2.1), if_neg (fun h2 => hx h2.2.2.1)]
end
end Go.Step
/- The shipments of a flow, one after the other; what Shipments answers. No program in sight. No conditions. -/
namespace Go.Step
open Go.Flow
variable {qs : List Int} {cs : List Ct} {bs : List Bk} {hs : List Hd} {d : Dm}
theorem shipsF_append : ∀ {A B : List EA} {f g : List Int}, A.length = f.length → shipsF (A ++ B) (f ++ g) = shipsF A f ++ shipsF B g
  | [], _, [], _, _ => rfl
  | [], _, _ :: _, _, h => by simp at h
  | _ :: _, _, [], _, h => by simp at h
  | x :: A, B, y :: f, g, h => by
    simp only [List.cons_append, shipsF]
    rw [shipsF_append (by simpa using h), List.append_assoc]
theorem shipsF_next {L : List EA} {fl : List Int} (h : fl.length = L.length) {i : Nat} {x : EA} {y : Int} (hx : L[i]? = some x) (hy : fl[i]? = some y) :
    shipsF (L.take (i + 1)) (fl.take (i + 1)) = shipsF (L.take i) (fl.take i) ++ (if 0 ≤ x.c ∧ 0 < y then [⟨x.c, x.t, y⟩] else []) := by
  rw [List.take_add_one, List.take_add_one, hx, hy]
  rw [shipsF_append (by rw [List.length_take, List.length_take, h])]
  simp [shipsF]
theorem shipsF_len : ∀ (L : List EA) (fl : List Int), (shipsF L fl).length ≤ L.length
  | [], _ => by simp [shipsF]
  | _ :: _, [] => by simp [shipsF]
  | x :: L, y :: fl => by
    have := shipsF_len L fl
    simp only [shipsF, List.length_append, List.length_cons]
    split <;> simp <;> omega
def shipsE (qs : List Int) (cs : List Ct) (bs : List Bk) (hs : List Hd) (d : Dm) (fl : List Int) : Int :=
  if validT qs cs bs hs d = true then (valueSpec (vsN qs d) (arcsG qs cs bs hs d) fl (vtx d d.s d.r) (vtx d d.d d.e)).2 else 1
def shipsR (qs : List Int) (cs : List Ct) (bs : List Bk) (hs : List Hd) (d : Dm) (fl : List Int) : List Sh :=
  if shipsE qs cs bs hs d fl = 0 then shipsF (arcsE qs cs bs hs d) fl else []
theorem shipsE_len {fl : List Int} (hv : validT qs cs bs hs d = true) (h : shipsE qs cs bs hs d fl = 0) : fl.length = (arcsE qs cs bs hs d).length := by
  unfold shipsE at h
  rw [if_pos hv] at h
  unfold valueSpec at h
  split at h
  · rename_i hc; exact absurd h hc
  split at h
  · simp at h
  split at h
  · simp at h
  · rename_i hl
    have : (arcsG qs cs bs hs d).length = (arcsE qs cs bs hs d).length := by unfold arcsG; rw [List.length_map]
    have hl' : fl.length = (arcsG qs cs bs hs d).length := by
      apply Classical.byContradiction
      intro hne
      exact hl hne
    omega
def sidesE (qs : List Int) (cs : List Ct) (bs : List Bk) (hs : List Hd) (d : Dm) (side : List Int) : Int :=
  if validT qs cs bs hs d = true then (capacitySpec (vsN qs d) (arcsG qs cs bs hs d) side).2 else 1
theorem sideChk_in {n : Int} : ∀ {l : List Int} {p : Option Int}, sideChk n p l = 0 → ∀ v ∈ l, 0 ≤ v ∧ v < n
  | [], _, _ => by simp
  | v :: l, p, h => by
    unfold sideChk at h
    split at h
    · simp at h
    rename_i hv
    have h0 : sideChk n (some v) l = 0 := by
      split at h
      · split at h
        · simp at h
        · exact h
      · simpa using h
    intro u hu
    rcases List.mem_cons.1 hu with rfl | hu
    · omega
    · exact sideChk_in h0 u hu
theorem sidesE_in {side : List Int} (hv : validT qs cs bs hs d = true) (h : sidesE qs cs bs hs d side = 0) : ∀ v ∈ side, 0 ≤ v ∧ v < vsN qs d := by
  unfold sidesE at h
  rw [if_pos hv] at h
  unfold capacitySpec at h
  split at h
  · rename_i hc; exact absurd h hc
  split at h
  · rename_i hc; exact absurd h hc
  · rename_i hc
    exact sideChk_in (p := none) (by omega)
theorem sideI_one {a : Iv} (ha : NormI a) (t : Int) : combI (fun x y => x || y) a [(t, t + 1)] = insI a (t, t + 1) := by
  have h := unionI_eq (a := a) (b := [(t, t + 1)]) ha (NormI.nil.cons (by dsimp only; omega) (by simp))
  exact h.symm
theorem sidesC_nil (d : Dm) (nq : Nat) : sidesC d nq [] = List.replicate nq [] := by
  unfold sidesC
  apply List.ext_getElem?
  intro i
  rw [List.getElem?_map, List.getElem?_replicate]
  by_cases h : i < nq
  · rw [List.getElem?_range h, if_pos h]; rfl
  · rw [List.getElem?_eq_none (by simp; omega), if_neg h]; rfl
theorem sidesC_next (d : Dm) (nq : Nat) {side : List Int} {k : Nat} (h : k < side.length) {n : Nat} (hn : side[k] / wd d = n) :
    sidesC d nq (side.take (k + 1)) = (sidesC d nq (side.take k)).set n (insI (sideI d (side.take k) n) (d.r + side[k] % wd d, d.r + side[k] % wd d + 1)) := by
  unfold sidesC
  apply List.ext_getElem?
  intro i
  rw [List.getElem?_set, List.getElem?_map, List.getElem?_map, List.length_map, List.length_range]
  by_cases hi : i < nq
  · rw [List.getElem?_range hi]
    simp only [Option.map_some]
    rw [sideI_next d _ h]
    by_cases he : n = i
    · subst he
      rw [if_pos hn, if_pos rfl, if_pos hi]
    · rw [if_neg (by omega), if_neg he]
  · rw [List.getElem?_eq_none (by simp; omega)]
    by_cases he : n = i
    · rw [if_pos he, if_neg (by omega)]; rfl
    · rw [if_neg he]; rfl
theorem sidesC_len (d : Dm) (nq : Nat) (side : List Int) : (sidesC d nq side).length = nq := by simp [sidesC]
end Go.Step
