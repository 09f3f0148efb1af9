/- Texts of this proof, one after the other; no conditions. -/
import Derived.Test.YthdoegkjifgegaaGreatWB11
import Derived.Test.YthdoegkjifgegaaGreatWB3
import Derived.Test.YthdoegkjifgegaaGreatWB9
import Derived.Test.YthdoegkjifgegaaGreatWB10
import Derived.Test.YthdoegkjifgegaaGreatWB8
import Derived.Test.YthdoegkjifgegaaGreatWB6
import Derived.Test.YthdoegkjifgegaaGreatWB7
import Derived.Test.YthdoegkjifgegaaGreatWB2
import Derived.Test.YthdoegkjifgegaaGreatWB5
set_option linter.all false
/- Max and Cut of the program. -/
namespace Go.Proofs.YthdoegkjifgegaaGreat
open Go.Eng Go.Flow
set_option maxRecDepth 100000
set_option maxHeartbeats 4000000

theorem flowMax_spec (ρ : PH) (v : Value) (n s t : Int) (l : List Arc) (hv : ArcsAt ρ v l) (hl : l.length ≤ 1000000) :
  Makes Tryz.prog (fv 36) [int n, v, int s, int t] [ρ] (fun r σ => ∃ fs F m e, r = .tuple #[fs, int m, int e] ∧ IntsAt σ fs F ∧ MaxOK n l s t F m e) := by
 have hnil : IntsAt emp (.slice none 0 0) [] := ⟨rfl, .inl ⟨rfl, none, 0, rfl⟩⟩
 refine spec_in (cap := []) Tryz.func36 rfl rfl Tryz.ntmps36 rfl envZ (fun N β => ?_)
 refine AC ?_
 refine AA ?_
 refine AD ?_
 refine AD ?_
 refine AD ?_
 refine AE ?_
 refine AC ?_
 refine AC ?_
 refine AA ?_
 refine AB ?_
 refine AB ?_
 focus ((refine A6 (check_spec ρ v n l hv hl) rfl rfl rdZ rfl rfl ?_; rintro _ rfl))
 refine AD ?_
 refine AE ?_
 refine AC ?_
 refine AA ?_
 refine AB ?_
 by_cases hc : chk n l = 0
 rotate_left
 ·refine CK ?_
  refine AE ?_
  refine AO rfl ?_
  refine AC ?_
  refine AA ?_
  refine AB ?_
  refine AD ?_
  refine AD ?_
  refine AD ?_
  refine AE ?_
  refine CG ?_
  exact AI (res3 rfl rfl rfl rfl) rsubZ selZ ⟨emp, ⟨_, [], 0, _, rfl, hnil, .inl ⟨by unfold maxErr; rw [if_pos hc]; exact hc, by unfold maxErr; rw [if_pos hc], rfl, rfl⟩⟩, rfl⟩
 refine BI ?_
 refine AE ?_
 refine AN rfl ?_
 refine AL ?_
 refine AC ?_
 refine AC ?_
 refine AA ?_
 refine AB ?_
 refine AB ?_
 refine AB ?_
 focus ((refine A6 (ends_spec _ _ _) rfl rfl rdZ rfl rfl ?_; rintro _ rfl))
 refine AD ?_
 refine AE ?_
 refine AC ?_
 refine AA ?_
 refine AB ?_
 have hme : maxErr n l s t = if okEnds n s t = true then 0 else 2 := by unfold maxErr; rw [if_neg (by rw [hc]; simp)]
 cases he : okEnds n s t with
 | false =>
  rw [he] at hme
  simp only [Bool.false_eq_true, if_false] at hme ⊢
  refine CK ?_
  refine AE ?_
  refine AO rfl ?_
  refine AC ?_
  refine AA ?_
  refine AB ?_
  refine AD ?_
  refine AD ?_
  refine AD ?_
  refine AE ?_
  refine CG ?_
  exact AI (res3 rfl rfl rfl rfl) rsubZ selZ ⟨emp, ⟨_, [], 0, _, rfl, hnil, .inl ⟨by rw [hme]; simp, by rw [hme], rfl, rfl⟩⟩, rfl⟩
 | true =>
  rw [he] at hme
  simp only [if_true] at hme ⊢
  obtain ⟨n', s', t', g⟩ := maxErr_good hme
  obtain ⟨rfl, rfl, rfl⟩ := And.intro g.en (And.intro g.es g.et)
  refine BI ?_
  refine AE ?_
  refine AN rfl ?_
  refine AL ?_
  refine AC ?_
  refine AA ?_
  refine AB ?_
  refine AB ?_
  refine AB ?_
  refine AB ?_
  refine BK (maximum_spec ρ v n' l s' t' hv g.n2 g.l2 g.ok g.sn g.tn g.ne) rfl rfl takesZ rdZ rfl rfl ?_
  rintro _ _ ⟨_, _, F, rfl, bf, gb, b1, b2, γ, rfl, rfl, _, hR, rfl⟩
  have hF := (hR.flw g.ok g.sn g.ne (flw_zeros g.ok)).1
  have hIn : IntsAt (sng bf (.cells (ints F) 3 (0, 0))) (.slice (some ⟨bf, 0, none⟩) l.length l.length) F := by rw [hF.len]; exact intsAt_sng
  simp only [List.cons_append, List.nil_append]
  refine AB ?_
  refine AR ?_
  refine AR ?_
  refine AD ?_
  refine AD ?_
  refine AE ?_
  refine AC ?_
  refine AA ?_
  refine AB ?_
  refine AB ?_
  refine AB ?_
  refine AB ?_
  refine A6 (value_spec ρ _ v _ s' l F hv hIn g.l2 hF.len.symm (inCap_small l F hF.len hF.cap g.ok)) rfl rfl rdZ rfl rfl ?_
  rintro _ rfl
  refine AD ?_
  refine AD ?_
  refine AD ?_
  refine AE ?_
  exact AI (res3 rfl rfl rfl rfl) rsubZ selZ ⟨_, ⟨_, F, _, _, rfl, hIn, .inr ⟨hme, rfl, hR, rfl⟩⟩, rfl⟩

end Go.Proofs.YthdoegkjifgegaaGreat
/- Maximum flows of time-expanded networks: least cuts, and less of what is there. No program in sight. No conditions. -/
namespace Go.Step
open Go.Flow (Flw fval okArc okArc_iff okEnds_iff capOf MaxOK maxErr RunR run_cut exists_reach)
section
variable {qs : List Int} {cs : List Ct} {bs : List Bk} {hs : List Hd} {d : Dm}
def MaxN (qs : List Int) (cs : List Ct) (bs : List Bk) (hs : List Hd) (d : Dm) (F : List Int) (m e : Int) : Prop := MaxOK (vsN qs d) (arcsG qs cs bs hs d) (vtx d d.s d.r) (vtx d d.d d.e) F m e
theorem max_err (h : VOk qs cs bs hs d) : maxErr (vsN qs d) (arcsG qs cs bs hs d) (vtx d d.s d.r) (vtx d d.d d.e) = 0 := by
  unfold maxErr
  rw [h.chk, h.ends]
  rfl
theorem max_cut (h : VOk qs cs bs hs d) {F : List Int} {m e : Int} (hm : MaxN qs cs bs hs d F m e) : e = 0 ∧ ∃ N S T : Nat, vsN qs d = N ∧ vtx d d.s d.r = S ∧ vtx d d.d d.e = T ∧ Flw N (arcsG qs cs bs hs d) S T F ∧ m = fval S (arcsG qs cs bs hs d) F ∧
    ∃ P : Int → Int → Bool, P d.s d.r = true ∧ P d.d d.e = false ∧ m = capB qs cs bs hs d P := by
  have hends := okEnds_iff.1 h.ends
  obtain ⟨N, hN⟩ : ∃ N : Nat, vsN qs d = N := ⟨(vsN qs d).toNat, by omega⟩
  obtain ⟨S, hS⟩ : ∃ N : Nat, vtx d d.s d.r = N := ⟨(vtx d d.s d.r).toNat, by omega⟩
  obtain ⟨T, hT⟩ : ∃ N : Nat, vtx d d.d d.e = N := ⟨(vtx d d.d d.e).toNat, by omega⟩
  have hok := h.ok
  unfold MaxN at hm
  have he := max_err h
  rw [hN] at hok
  rw [hN, hS, hT] at hm hends he
  rcases hm with ⟨a1, _⟩ | ⟨_, a2, a3, a4⟩
  · exact absurd he a1
  simp only [Int.toNat_natCast] at a3
  obtain ⟨B, hB⟩ := exists_reach N (Go.Flow.rE (arcsG qs cs bs hs d) F) S
  obtain ⟨f1, f2, f3, f4⟩ := run_cut hok (by omega) (by omega) (by omega) a3 hB
  refine ⟨a2, N, S, T, hN, hS, hT, f1, a4, fun n t => B (vtx d n t).toNat, by show B (vtx d d.s d.r).toNat = true; rw [hS]; exact f2, by show B (vtx d d.d d.e).toNat = false; rw [hT]; exact f3, ?_⟩
  rw [a4, f4, capB_eq h]
theorem flow_le_cap (h : VOk qs cs bs hs d) {fl : List Int} {N S T : Nat} (hN : vsN qs d = N) (hS : vtx d d.s d.r = S) (hT : vtx d d.d d.e = T) (hf : Flw N (arcsG qs cs bs hs d) S T fl) {P : Int → Int → Bool} (h1 : P d.s d.r = true) (h2 : P d.d d.e = false) : fval S (arcsG qs cs bs hs d) fl ≤ capB qs cs bs hs d P := by
  have hdm := h.dm
  unfold okDm at hdm
  have hok := h.ok
  have hends := okEnds_iff.1 h.ends
  rw [hN] at hok
  have b1 : bq d P S = true := by
    have := bq_vtx (d := d) (P := P) (n := d.s) (t := d.r) hdm.1.1 (by omega) (by omega)
    rw [hS, Int.toNat_natCast] at this
    rw [this]; exact h1
  have b2 : bq d P T = false := by
    have := bq_vtx (d := d) (P := P) (n := d.d) (t := d.e) hdm.2.1.1 (by omega) (by omega)
    rw [hT, Int.toNat_natCast] at this
    rw [this]; exact h2
  have := hf.le_cap hok (by omega) b1 b2
  rw [capB_eq h] at this
  rwa [capB_congr h (C := P) (fun n t g0 g1 g2 g3 => bq_vtx g0 g2 g3)] at this
end
end Go.Step
/- The chapter's example: its network, its maximum flows, their shipments, a cut. No program in sight. No conditions. -/
namespace Go.Step
open Go.Flow (Flw fval okArc capOf MaxOK inCap)
def eQ : List Int := [0, 1, 0]
def eC : List Ct := [⟨0, 1, 0, 2, 3, 1, 0⟩, ⟨1, 2, 3, 5, 3, 1, 0⟩]
def eD : Dm := ⟨0, 2, 4, 0, 6⟩
def eF : List Int := [3, 0, 0, 0, 0, 0, 0, 0, 1, 1, 0, 0, 0, 0, 0, 0, 0, 3, 1, 3, 3, 1]
abbrev eK : Int := 1099511627776
def eA : List EA := [⟨⟨0, 1, eK⟩, -1, 0⟩, ⟨⟨1, 2, eK⟩, -1, 1⟩, ⟨⟨2, 3, eK⟩, -1, 2⟩, ⟨⟨3, 4, eK⟩, -1, 3⟩, ⟨⟨4, 5, eK⟩, -1, 4⟩, ⟨⟨5, 6, eK⟩, -1, 5⟩,
  ⟨⟨7, 8, 1⟩, -1, 0⟩, ⟨⟨8, 9, 1⟩, -1, 1⟩, ⟨⟨9, 10, 1⟩, -1, 2⟩, ⟨⟨10, 11, 1⟩, -1, 3⟩, ⟨⟨11, 12, 1⟩, -1, 4⟩, ⟨⟨12, 13, 1⟩, -1, 5⟩,
  ⟨⟨14, 15, eK⟩, -1, 0⟩, ⟨⟨15, 16, eK⟩, -1, 1⟩, ⟨⟨16, 17, eK⟩, -1, 2⟩, ⟨⟨17, 18, eK⟩, -1, 3⟩, ⟨⟨18, 19, eK⟩, -1, 4⟩, ⟨⟨19, 20, eK⟩, -1, 5⟩,
  ⟨⟨0, 9, 3⟩, 0, 0⟩, ⟨⟨1, 10, 3⟩, 0, 1⟩, ⟨⟨10, 19, 3⟩, 1, 3⟩, ⟨⟨11, 20, 3⟩, 1, 4⟩]
theorem eValid : validT eQ eC [] [] eD = true := by decide +kernel
theorem eArcs : arcsE eQ eC [] [] eD = eA := by decide +kernel
theorem eVs : vsN eQ eD = 21 := by decide +kernel
theorem eS : vtx eD eD.s eD.r = 0 := by decide +kernel
theorem eT : vtx eD eD.d eD.e = 20 := by decide +kernel
theorem eG : arcsG eQ eC [] [] eD = eA.map (fun x => x.a) := by unfold arcsG; rw [eArcs]
theorem eFlow : Flw 21 (arcsG eQ eC [] [] eD) 0 20 eF := by
  rw [eG]
  exact ⟨by decide +kernel, by decide +kernel, by decide +kernel⟩
def eP (n t : Int) : Bool := decide (n = 0 ∨ (n = 1 ∧ t = 2))
theorem eCap : capB eQ eC [] [] eD eP = 4 := by
  decide +kernel
theorem eMax (hok : VOk eQ eC [] [] eD) {F : List Int} {m e : Int} (hm : MaxN eQ eC [] [] eD F m e) : e = 0 ∧ m = 4 ∧ Flw 21 (arcsG eQ eC [] [] eD) 0 20 F ∧ fval 0 (arcsG eQ eC [] [] eD) F = 4 := by
  obtain ⟨h0, N, S, T, hN, hS, hT, hf, hv, P, p1, p2, hc⟩ := max_cut hok hm
  rw [eVs] at hN
  rw [eS] at hS
  rw [eT] at hT
  obtain rfl : N = 21 := by omega
  obtain rfl : S = 0 := by omega
  obtain rfl : T = 20 := by omega
  have a : fval 0 (arcsG eQ eC [] [] eD) F ≤ capB eQ eC [] [] eD eP := flow_le_cap hok eVs eS eT hf (P := eP) (by decide) (by decide)
  have b : fval 0 (arcsG eQ eC [] [] eD) eF ≤ capB eQ eC [] [] eD P := flow_le_cap hok eVs eS eT eFlow p1 p2
  have c : fval 0 (arcsG eQ eC [] [] eD) eF = 4 := by rw [eG]; decide +kernel
  have hv' : m = fval 0 (arcsG eQ eC [] [] eD) F := hv
  rw [eCap] at a
  exact ⟨h0, by omega, hf, by omega⟩
theorem eValue {F : List Int} (hok : VOk eQ eC [] [] eD) (hf : Flw 21 (arcsG eQ eC [] [] eD) 0 20 F) : shipsE eQ eC [] [] eD F = 0 := by
  unfold shipsE
  rw [if_pos eValid, eVs, eS, eT]
  have h1 := hok.chk
  have h2 := hok.ends
  rw [eVs] at h1 h2
  rw [eS, eT] at h2
  unfold Go.Flow.valueSpec
  rw [if_neg (fun h => h h1), if_neg (by rw [h2]; simp), if_neg (fun h => h hf.len.symm), if_neg (by rw [hf.cap]; simp), if_neg]
  have hb : Go.Flow.balanced (21 : Int).toNat (arcsG eQ eC [] [] eD) F 0 20 = true := by
    unfold Go.Flow.balanced
    rw [List.all_eq_true]
    intro v hv
    rw [decide_eq_true_eq]
    have hv' : v < 21 := by simpa using hv
    by_cases c1 : v = 0
    · exact .inl (by omega)
    · by_cases c2 : v = 20
      · exact .inr (.inl (by omega))
      · exact .inr (.inr (hf.bal v hv' c1 c2))
  rw [hb]
  simp
set_option maxHeartbeats 8000000 in
theorem eShips {F : List Int} (hf : Flw 21 (arcsG eQ eC [] [] eD) 0 20 F) (hv : fval 0 (arcsG eQ eC [] [] eD) F = 4) : (shipsF eA F).length = 4 := by
  rw [eG] at hf hv
  have hl := hf.len
  have hc := hf.cap
  have e0 := hf.bal 1 (by omega) (by omega) (by omega)
  have e7 := hf.bal 7 (by omega) (by omega) (by omega)
  have e8 := hf.bal 8 (by omega) (by omega) (by omega)
  have e9 := hf.bal 9 (by omega) (by omega) (by omega)
  have e10 := hf.bal 10 (by omega) (by omega) (by omega)
  have e11 := hf.bal 11 (by omega) (by omega) (by omega)
  have e12 := hf.bal 12 (by omega) (by omega) (by omega)
  have e13 := hf.bal 13 (by omega) (by omega) (by omega)
  have e2 := hf.bal 2 (by omega) (by omega) (by omega)
  have e3 := hf.bal 3 (by omega) (by omega) (by omega)
  have e4 := hf.bal 4 (by omega) (by omega) (by omega)
  have e5 := hf.bal 5 (by omega) (by omega) (by omega)
  have e6 := hf.bal 6 (by omega) (by omega) (by omega)
  clear hf
  match F, hl with
  | [a0, a1, a2, a3, a4, a5, a6, a7, a8, a9, a10, a11, a12, a13, a14, a15, a16, a17, a18, a19, a20, a21], _ =>
    simp [eA, fval] at hv e0 e7 e8 e9 e10 e11 e12 e13 e2 e3 e4 e5 e6
    simp [eA, inCap] at hc
    simp only [eA, shipsF]
    rw [if_pos (show (0 : Int) ≤ 0 ∧ 0 < a18 by omega), if_pos (show (0 : Int) ≤ 0 ∧ 0 < a19 by omega), if_pos (show (0 : Int) ≤ 1 ∧ 0 < a20 by omega), if_pos (show (0 : Int) ≤ 1 ∧ 0 < a21 by omega)]
    simp
theorem eSides0 : sidesE eQ eC [] [] eD [0, 7, 8] = 0 := by decide +kernel
theorem eSides : sidesC eD 3 [0, 7, 8] = [[(0, 1)], [(0, 2)], []] := by decide +kernel
end Go.Step
/- The example is awake. -/
namespace Go.Proofs.YthdoegkjifgegaaGreat
open Go.Eng Go.Step
set_option maxRecDepth 100000
set_option maxHeartbeats 4000000

theorem example53_spec : Eng.Spec Tryz.prog (fv 38) [] [] [] (fun r H' => ∃ bq bc, r = .tuple #[.agg #[.slice (some ⟨bq, 0, none⟩) 3 3, .slice (some ⟨bc, 0, none⟩) 2 2, .slice none 0 0, .slice none 0 0], .agg #[int 0, int 2, int 4, int 0, int 6]] ∧ H' = [sng bq (.cells #[int 0, int 1, int 0] 3 (0, 0)), sng bc (.cells #[int 0, int 1, int 0, int 2, int 3, int 1, int 0, int 1, int 2, int 3, int 5, int 3, int 1, int 0] 70 (0, 0))]) := by
 refine spec_in (cap := []) Tryz.func38 rfl rfl Tryz.ntmps38 rfl envZ (fun N β => ?_)
 refine AC ?_
 refine AA ?_
 refine A5 ?_; rintro _ _ ⟨b, rfl, rfl⟩
 refine A5 ?_; rintro _ _ ⟨b, rfl, rfl⟩
 refine AE ?_
 refine AC ?_
 refine AA ?_
 refine BA ?_; rintro _ _ ⟨b, rfl, rfl⟩
 refine B6 ?_
 refine B6 ?_
 focus ((refine' BJ _ rfl rfl rfl _; rotate_left; (focus (apply CY; exact rfl; exact rfl; exact rfl; exact rfl; exact rfl; exact (by (repeat (first | exact (fun v hv => absurd hv List.not_mem_nil) | (refine List.forall_mem_cons.2 ⟨?_, ?_⟩; (focus (first | exact rfl | assumption))))); first | done | fail); exact Flat.agg7 (Flat.agg7 Flat.nil); exact rfl)); rintro _ _ ⟨b, rfl, rfl⟩))
 refine B6 ?_
 refine A5 ?_; rintro _ _ ⟨b, rfl, rfl⟩
 refine A3 ?_; rintro _ _ ⟨rfl, rfl⟩
 refine AE ?_
 refine AC ?_
 refine AA ?_
 refine AT ?_
 revert b; intro bp
 revert b; intro bc
 revert b; intro bq
 revert b; intro bd
 revert b; intro bt
 refine CL (CZ (out := [.slice (some ⟨bq, 0, none⟩) 3 3, .slice (some ⟨bc, 0, none⟩) 2 2, .slice none 0 0, .slice none 0 0]) rfl rfl rfl rfl rfl) rfl rfl rfl ?_
 refine B6 ?_
 refine A3 ?_; rintro _ _ ⟨rfl, rfl⟩
 refine A3 ?_; rintro _ _ ⟨rfl, rfl⟩
 refine AE ?_
 exact AI (resS2 (b1 := bt) (b2 := bd) (T := 29) (U := 31) (v1 := [.slice (some ⟨bq, 0, none⟩) 3 3, .slice (some ⟨bc, 0, none⟩) 2 2, .slice none 0 0, .slice none 0 0]) (v2 := [int 0, int 2, int 4, int 0, int 6]) rfl rfl rfl rfl rfl rfl rfl (cells_own memZ) (cells_own memZ)) rsubZ selZ ⟨bq, bc, rfl, rfl⟩
set_option maxHeartbeats 32000000 in
theorem awake53_spec : Ans Tryz.prog (fv 9) [] [] (fun r => r = .bool true) := by
 have hlen : (arcsG eQ eC [] [] eD).length = 22 := by rw [eG]; rfl
 have hok := vok eValid
 refine spec_in (cap := []) Tryz.func9 rfl rfl Tryz.ntmps9 rfl envZ (fun N β => ?_)
 refine CG ?_
 refine AC ?_
 refine AA ?_
 refine AD ?_
 refine AE ?_
 refine AC ?_
 refine AA ?_
 refine BK example53_spec rfl rfl Takes.nil rdZ rfl rfl ?_
 rintro _ _ ⟨bq, bc, rfl, rfl⟩
 refine AS (ρ := sng bq (.cells #[int 0, int 1, int 0] 3 (0, 0))) takeZ ?_
 refine AS (ρ := sng bc (.cells #[int 0, int 1, int 0, int 2, int 3, int 1, int 0, int 1, int 2, int 3, int 5, int 3, int 1, int 0] 70 (0, 0))) takeZ ?_
 refine AS (ρ := emp) takeZ ?_
 refine AB ?_
 refine AR ?_
 refine AR ?_
 refine A5 ?_; rintro _ _ ⟨b, rfl, rfl⟩
 refine A5 ?_; rintro _ _ ⟨b, rfl, rfl⟩
 refine A3 ?_; rintro _ _ ⟨rfl, rfl⟩
 refine A3 ?_; rintro _ _ ⟨rfl, rfl⟩
 refine AE ?_
 refine AC ?_
 refine AA ?_
 refine AT ?_
 refine AT ?_
 revert b; intro bd
 revert b; intro bt
 refine AS (ρ := sng bd _) takeZ ?_
 refine AS (ρ := sng bt _) takeZ ?_
 have ct : RdN (sng bt (.cells #[.slice (some ⟨bq, 0, none⟩) 3 3, .slice (some ⟨bc, 0, none⟩) 2 2, .slice none 0 0, .slice none 0 0] 29 (0, 0))) bt 0 [.slice (some ⟨bq, 0, none⟩) 3 3, .slice (some ⟨bc, 0, none⟩) 2 2, .slice none 0 0, .slice none 0 0] := rdN_sng (vs := [.slice (some ⟨bq, 0, none⟩) 3 3, .slice (some ⟨bc, 0, none⟩) 2 2, .slice none 0 0, .slice none 0 0])
 have cd : RdN (sng bd (.cells #[int 0, int 2, int 4, int 0, int 6] 31 (0, 0))) bd 0 [int 0, int 2, int 4, int 0, int 6] := rdN_sng (vs := [int 0, int 2, int 4, int 0, int 6])
 have hT : TbAt (sng bq (.cells #[int 0, int 1, int 0] 3 (0, 0))) (sng bc (.cells #[int 0, int 1, int 0, int 2, int 3, int 1, int 0, int 1, int 2, int 3, int 5, int 3, int 1, int 0] 70 (0, 0))) emp emp (some ⟨bq, 0, none⟩) (some ⟨bc, 0, none⟩) none none 3 2 0 0 eQ eC [] [] :=
  ⟨slE_sng (l := eQ) Eng.encI_len, slE_sng (l := eC) encC_len, by decide, by decide, by decide, ⟨rfl, .inl ⟨rfl, none, 0, rfl⟩⟩, by decide, ⟨rfl, .inl ⟨rfl, none, 0, rfl⟩⟩, by decide⟩
 have hG := Graph_spec hT eD
 rw [eVs, eS, eT] at hG
 skip
 refine BY hG rfl rfl rdZ rfl rfl ?_
 rintro _ σg hg
 rw [if_pos eValid] at hg
 obtain ⟨u, rfl, hOg⟩ := hg
 rw [hlen] at hOg
 have hAt : ArcsAt σg u (arcsG eQ eC [] [] eD) := by
  have := hOg.at
  rw [← hlen] at this
  exact this
 obtain ⟨pg, kg, rfl⟩ := hOg.form
 refine AS (ρ := σg) takeZ ?_
 refine AB ?_
 refine AR ?_
 refine AR ?_
 refine A5 ?_; rintro _ _ ⟨b, rfl, rfl⟩
 refine A3 ?_; rintro _ _ ⟨rfl, rfl⟩
 refine AD ?_
 refine AE ?_
 refine AC ?_
 refine AA ?_
 refine AH ?_
 refine AF ?_
 refine AH ?_
 refine AF ?_
 refine AH ?_
 refine AF ?_
 refine AH ?_
 refine AF ?_
 revert b; intro bg
 refine AS (ρ := sng bg _) takeZ ?_
 have gg0 : rdc (sng bg (.cells #[int 21, .slice pg 22 kg, int 0, int 20] 36 (0, 0))) bg 0 = some (int 21) := by rw [rdc_sng]; rfl
 have gg1 : rdc (sng bg (.cells #[int 21, .slice pg 22 kg, int 0, int 20] 36 (0, 0))) bg 1 = some (.slice pg 22 kg) := by rw [rdc_sng]; rfl
 have gg2 : rdc (sng bg (.cells #[int 21, .slice pg 22 kg, int 0, int 20] 36 (0, 0))) bg 2 = some (int 0) := by rw [rdc_sng]; rfl
 have gg3 : rdc (sng bg (.cells #[int 21, .slice pg 22 kg, int 0, int 20] 36 (0, 0))) bg 3 = some (int 20) := by rw [rdc_sng]; rfl
 skip
 have hM := flowMax_spec σg (.slice pg 22 kg) 21 0 20 (arcsG eQ eC [] [] eD) hAt (by omega)
 refine BY hM rfl rfl rdZ rfl rfl ?_
 rintro _ σf ⟨fs, F, m, e, rfl, hF, hm⟩
 obtain ⟨he, hm4, hfl, hfv⟩ := eMax hok (show MaxN eQ eC [] [] eD F m e by unfold MaxN; rw [eVs, eS, eT]; exact hm)
 subst he hm4
 obtain ⟨pf, kf, rfl, _⟩ := hF.val Eng.encI_len
 refine AS (ρ := σf) takeZ ?_
 have hsE := eValue hok hfl
 have hsR : shipsR eQ eC [] [] eD F = shipsF eA F := by unfold shipsR; rw [if_pos hsE, eArcs]
 have hsl := eShips hfl hfv
 have hS := Shipments_spec hT eD σf _ F hF
 rw [hsE, hsR] at hS
 refine AB ?_
 refine AR ?_
 refine AR ?_
 refine AR ?_
 refine AD ?_
 refine AD ?_
 refine AD ?_
 refine AE ?_
 refine AC ?_
 refine AA ?_
 refine AT ?_
 refine AT ?_
 refine AB ?_
 refine BY hS rfl rfl rdZ rfl rfl ?_
 rintro _ σs ⟨us, rfl, hOs⟩
 rw [hsl] at hOs
 obtain ⟨ps, ks, rfl⟩ := hOs.form
 clear hOs
 have hV := Vertex_spec hT eD 1 3
 rw [show vertexR eQ eC [] [] eD 1 3 = (10, 0) by unfold vertexR; rw [if_pos eValid]; decide] at hV
 dsimp only at hV
 refine AB ?_
 refine AR ?_
 refine AR ?_
 refine AD ?_
 refine AD ?_
 refine AE ?_
 refine AC ?_
 refine AA ?_
 refine AT ?_
 refine AT ?_
 refine A6 hV rfl rfl rdZ rfl rfl ?_
 rintro _ rfl
 have hP := Place_spec hT eD 10
 rw [show placeR eQ eC [] [] eD 10 = (1, 3, 0) by unfold placeR; rw [if_pos eValid]; decide] at hP
 dsimp only at hP
 refine AB ?_
 refine AR ?_
 refine AR ?_
 refine AD ?_
 refine AD ?_
 refine AE ?_
 refine AC ?_
 refine AA ?_
 refine AT ?_
 refine AT ?_
 refine AB ?_
 refine A6 hP rfl rfl rdZ rfl rfl ?_
 rintro _ rfl
 refine AB ?_
 refine AR ?_
 refine AR ?_
 refine AR ?_
 refine AD ?_
 refine AD ?_
 refine AD ?_
 refine AE ?_
 refine AC ?_
 refine AA ?_
 refine AT ?_
 refine AT ?_
 refine BA ?_; rintro _ _ ⟨b, rfl, rfl⟩
 revert b; intro bz
 have hD := Sides_spec hT eD (sng bz (.cells #[int 0, int 7, int 8] 3 (0, 0))) (.slice (some ⟨bz, 0, none⟩) 3 3) [0, 7, 8] (slE_sng (l := [(0 : Int), 7, 8]) Eng.encI_len) (by decide)
 rw [eSides0, if_pos rfl, show eQ.length = 3 from rfl, eSides] at hD
 refine BK hD rfl rfl Takes.nil rdZ rfl rfl ?_
 rintro _ _ ⟨L, w, σ1, χ1, rfl, rfl, hL, hCL⟩
 have hLl : L.length = 3 := by
  have := congrArg List.length hL
  rwa [List.length_map] at this
 obtain ⟨q, k, rfl, _⟩ := hCL.1.val encQ_len
 refine AS (ρ := σ1) takeZ ?_
 refine AS (ρ := χ1) takeZ ?_
 refine AB ?_
 refine AR ?_
 refine AR ?_
 refine AD ?_
 refine AD ?_
 refine AE ?_
 refine AC ?_
 refine AA ?_
 refine AB ?_
 refine CJ ?_
 refine AB ?_
 refine AB ?_
 refine CJ ?_
 refine AM ?_
 refine AB ?_
 refine AB ?_
 refine CJ ?_
 refine AM ?_
 refine AB ?_
 refine AB ?_
 refine CJ ?_
 refine AM ?_
 refine AB ?_
 refine AB ?_
 refine CJ ?_
 refine AM ?_
 refine AB ?_
 refine AB ?_
 refine CJ ?_
 refine AM ?_
 refine AD ?_
 refine AE ?_
 refine AC ?_
 refine AA ?_
 refine AB ?_
 refine AB ?_
 refine AH ?_
 refine AF ?_
 refine CJ ?_
 refine AM ?_
 refine AB ?_
 refine AH ?_
 refine AF ?_
 refine AU ?_
 refine CJ ?_
 refine AM ?_
 refine AB ?_
 refine AH ?_
 refine AF ?_
 refine CJ ?_
 refine AM ?_
 refine AB ?_
 refine AH ?_
 refine AF ?_
 refine CJ ?_
 refine AM ?_
 refine AB ?_
 refine AB ?_
 refine CJ ?_
 refine AM ?_
 refine AB ?_
 refine AB ?_
 refine CJ ?_
 refine AM ?_
 refine AB ?_
 refine AB ?_
 refine CJ ?_
 refine AM ?_
 refine AB ?_
 refine AB ?_
 refine CJ ?_
 refine AM ?_
 refine AB ?_
 refine AB ?_
 refine AU ?_
 refine CJ ?_
 refine AM ?_
 refine AD ?_
 refine AE ?_
 refine AC ?_
 refine AA ?_
 refine AB ?_
 refine AB ?_
 refine AB ?_
 refine B6 ?_
 refine BA ?_; rintro _ _ ⟨b, rfl, rfl⟩
 refine B6 ?_
 refine BA ?_; rintro _ _ ⟨b, rfl, rfl⟩
 refine BA ?_; rintro _ _ ⟨b, rfl, rfl⟩
 refine BA ?_; rintro _ _ ⟨b, rfl, rfl⟩
 revert b; intro bk
 revert b; intro be
 revert b; intro bx2
 revert b; intro bx1
 refine DW (ρ := sng bx1 (.cells #[int 0, int 1] 61 (0, 0))) (σ := sng bx2 (.cells #[int 0, int 2] 61 (0, 0))) takeZ takeZ (fun κ s1 s2 => ?_)
 have hx1 : SpAt κ (.slice (some ⟨bx1, 0, none⟩) 1 1) [(0, 1)] := SlE.mono (slE_sng (l := [((0 : Int), (1 : Int))]) encS_len) s1
 have hx2 : SpAt κ (.slice (some ⟨bx2, 0, none⟩) 1 1) [(0, 2)] := SlE.mono (slE_sng (l := [((0 : Int), (2 : Int))]) encS_len) s2
 have hC2 : CutL (sng bk (.cells #[.slice (some ⟨bx1, 0, none⟩) 1 1, .slice (some ⟨bx2, 0, none⟩) 1 1, .slice (some ⟨be, 0, none⟩) 0 0] 59 (0, 0))) κ (.slice (some ⟨bk, 0, none⟩) 3 3) [((some ⟨bx1, 0, none⟩, 1), [(0, 1)]), ((some ⟨bx2, 0, none⟩, 1), [(0, 2)]), ((some ⟨be, 0, none⟩, 0), [])] := by
  refine ⟨slE_sng (l := [((some ⟨bx1, 0, none⟩, 1), [(0, 1)]), ((some ⟨bx2, 0, none⟩, 1), [(0, 2)]), ((some ⟨be, 0, none⟩, 0), [])]) encQ_len, fun z hz => ?_⟩
  simp only [List.mem_cons, List.not_mem_nil, or_false] at hz
  rcases hz with rfl | rfl | rfl
  ·exact ⟨hx1, by simp⟩
  ·exact ⟨hx2, by simp⟩
  ·exact ⟨⟨rfl, .inl ⟨rfl, _, _, rfl⟩⟩, by simp⟩
 have hsc := exSameCut_spec σ1 χ1 _ κ q (some ⟨bk, 0, none⟩) k 3 L _ hCL hC2 hL (by omega)
 refine A6 hsc rfl rfl rdZ rfl rfl ?_
 rintro _ rfl
 refine AM ?_
 refine AD ?_
 refine AE ?_
 exact AI (res1 rfl rfl) rsubZ selZ ⟨rfl, rfl⟩
end Go.Proofs.YthdoegkjifgegaaGreat
/- Joins and meets of cuts. -/
namespace Go.Proofs.YthdoegkjifgegaaGreat
open Go.Eng Go.Step
set_option maxRecDepth 100000
set_option maxHeartbeats 4000000

end Go.Proofs.YthdoegkjifgegaaGreat
/- Sets of the document: one more span, union. -/
namespace Go.Proofs.YthdoegkjifgegaaGreat
open Go.Eng Go.Step
set_option maxRecDepth 100000
set_option maxHeartbeats 4000000

theorem one_S (x : Int × Int) : ∀ u ∈ encS x, u.oneCell' = true := by
 intro u hu
 simp only [encS, List.mem_cons, List.not_mem_nil, or_false] at hu
 rcases hu with rfl | rfl <;> rfl
theorem ones_S (l : Iv) : ∀ u ∈ l.flatMap encS, u.oneCell' = true := by
 intro u hu
 rw [List.mem_flatMap] at hu
 obtain ⟨a, _, hu⟩ := hu
 exact one_S a u hu
set_option maxHeartbeats 32000000 in
theorem refIvInsert_spec (ρ : PH) (v : Value) (l : Iv) (x : Int × Int) (hv : SpAt ρ v l) (hcap : CapOK v) (hl : l.length ≤ 1000000) :
  Makes Tryz.prog (fv 96) [v, .agg #[int x.1, int x.2]] [ρ] (fun r σ => OwnS 61 2 r (insI l x).length ((insI l x).flatMap encS) σ) := by
 have hv2 := hv
 obtain ⟨q, c, rfl, hr⟩ := hv.val encS_len
 refine spec_in (cap := []) Tryz.func96 rfl rfl Tryz.ntmps96 rfl envZ (fun N β => ?_)
 refine AC ?_
 refine AA ?_
 refine BJ (BN rfl) rfl rfl rfl ?_
 rintro _ _ ⟨b3, rfl, rfl⟩
 refine AD ?_
 refine AE ?_
 refine AC ?_
 refine AA ?_
 refine BA ?_; rintro _ _ ⟨b, rfl, rfl⟩
 refine AD ?_
 refine AE ?_
 refine AC ?_
 refine AA ?_
 refine AD ?_
 refine AE ?_
 refine AC ?_
 refine AP ?_
 revert b; intro bo
 refine BC [0, 3] (X := Nat × (Value × PH)) (0, (.slice (some ⟨bo, 0, none⟩) 0 0, sng bo (.cells #[] 61 (0, 0)))) (fun z => z.1 ≤ l.length ∧ (∀ y ∈ l.take z.1, y.2 < x.1) ∧ OwnS 61 2 z.2.1 z.1 ((l.take z.1).flatMap encS) z.2.2) (fun z => [(6, int z.1), (5, z.2.1)]) (fun z => [z.2.2, sng b3 (.cells #[int x.1, int x.2] 61 (0, 0))]) (fun z => l.length - z.1) pickZ ⟨by dsimp only; omega, by simp, OwnS.empty⟩ covZ selZ ?_
 rintro ⟨k, u, σ⟩ ⟨hk, hwhile, hO⟩
 dsimp only at hk hwhile hO ⊢
 have hit := insI_take (x := x) hk hwhile
 by_cases hlt : k < l.length
 ·have hx := List.getElem?_eq_getElem hlt
  have htk := List.take_succ_eq_append_getElem hlt
  have hdk := List.drop_eq_getElem_cons hlt
  obtain ⟨b1, o1, rfl, hRd1, g0, g1⟩ := spRow hr hx
  generalize l[k] = w at hRd1 g0 g1 hx htk hdk
  by_cases hc : w.2 < x.1
  ·refine AC ?_
   refine AC ?_
   refine AZ (.q 0 (.q 1 (.q 2 (.q 3 (.q 4 (.q 5 (.q 6 (.q 7 (.q 8 (.q 9 (.q 10 (.q 11 (.q 12 (.q 13 .nil)))))))))))))) [] rfl (by kernel_rfl) Sel.nil ?_
   refine AK ?_
   refine AK ?_
   refine C3 ?_
   refine DS ?_
   refine AK ?_
   refine AK ?_
   refine AK ?_
   refine BD ?_
   refine BX ?_
   refine AQ ?_
   refine AX ?_
   refine AQ ?_
   refine DS ?_
   refine BR ?_
   refine A4 ?_
   refine AO rfl ?_
   refine AL ?_
   refine AP ?_
   refine AC ?_
   refine AA ?_
   refine AB ?_
   refine AB ?_
   refine AB ?_
   refine A8 ?_
   refine AT ?_
   refine BA ?_; rintro _ _ ⟨b, rfl, rfl⟩
   refine BJ (BS (by_ := 16) (s := 2) (news := [int w.1, int w.2]) rfl rfl rfl rfl rfl rfl rfl hO takeZ (cells_own memZ) rfl (by (repeat (first | exact (fun v hv => absurd hv List.not_mem_nil) | (refine List.forall_mem_cons.2 ⟨?_, ?_⟩; (focus (first | exact rfl | assumption))))); first | done | fail) (by omega) (by simp only [maxLen]; omega) (by omega)) rfl rfl rfl ?_
   rintro u1 _ ⟨σ1, hO1, rfl⟩
   refine AD ?_
   refine AE ?_
   refine AA ?_
   refine AB ?_
   refine A9 ?_
   refine AD ?_
   refine AE ?_
   refine A0 ?_
   refine AW (k + 1, (u1, σ1)) ⟨by dsimp only; omega, ?_, ?_⟩ (by dsimp only; omega) covZ selZ
   ·dsimp only
    rw [htk]
    intro y hy
    rcases List.mem_append.1 hy with hy | hy
    ·exact hwhile y hy
    ·simp only [List.mem_singleton] at hy; subst hy; exact hc
   ·dsimp only
    rw [htk, List.flatMap_append]
    exact hO1
  ·have hfin : insI l x = l.take k ++ absI (l.drop k) x := by
    rw [hit]
    congr 1
    rw [hdk]
    show (if w.2 < x.1 then _ else _) = _
    rw [if_neg hc]
   refine AC ?_
   refine AC ?_
   refine AZ (.q 0 (.q 1 (.q 2 (.q 3 (.q 4 (.q 5 (.q 6 (.q 7 (.q 8 (.q 9 (.q 10 (.q 11 (.q 12 (.q 13 .nil)))))))))))))) [] rfl (by kernel_rfl) Sel.nil ?_
   refine AK ?_
   refine AK ?_
   refine C3 ?_
   refine DS ?_
   refine AK ?_
   refine AK ?_
   refine AK ?_
   refine BD ?_
   refine BX ?_
   refine AQ ?_
   refine AX ?_
   refine AQ ?_
   refine C4 ?_
   refine BR ?_
   refine A4 ?_
   refine AN rfl ?_
   refine A7 rfl ?_
   refine AC ?_
   refine AP ?_
   clear hwhile
   refine BC [0, 3, 5] (X := Nat × (Int × Int)) (k, x) (fun z => k ≤ z.1 ∧ z.1 ≤ l.length ∧ absI (l.drop k) x = absI (l.drop z.1) z.2) (fun z => [(6, int z.1)]) (fun z => [σ, sng b3 (.cells #[int z.2.1, int z.2.2] 61 (0, 0))]) (fun z => l.length - z.1) pickZ ⟨by dsimp only; omega, hk, rfl⟩ covZ selZ ?_
   rintro ⟨j, z⟩ ⟨hkj, hj, hA⟩
   dsimp only at hkj hj hA ⊢
   have hends : (∀ y, l[j]? = some y → z.2 < y.1) → insI l x = l.take k ++ z :: l.drop j := fun hst => by
    rw [hfin, hA]
    by_cases hjl : j < l.length
    ·rw [List.drop_eq_getElem_cons hjl]
     have := hst _ (List.getElem?_eq_getElem hjl)
     unfold absI
     rw [if_neg (by omega)]
    ·rw [List.drop_eq_nil_of_le (by omega)]; rfl
   by_cases hjl : j < l.length
   ·have hy := List.getElem?_eq_getElem hjl
    have hdr := List.drop_eq_getElem_cons hjl
    obtain ⟨b6, o6, e6, hRd6, y0, y1⟩ := spRow hr hy
    simp only [Option.some.injEq, Addr.mk.injEq, and_true] at e6
    obtain ⟨rfl, rfl⟩ := e6
    generalize l[j] = y at hy hRd6 y0 y1 hdr
    by_cases hc2 : y.1 ≤ z.2
    ·have hA2 : absI (l.drop j) z = absI (l.drop (j + 1)) (min z.1 y.1, max z.2 y.2) := by
      rw [hdr]
      show (if y.1 ≤ z.2 then _ else _) = _
      rw [if_pos hc2]
     refine AC ?_
     refine AC ?_
     refine AZ (.q 0 (.q 1 (.q 2 (.q 3 (.q 4 (.q 5 (.q 6 (.q 7 (.q 8 (.q 9 (.q 10 (.q 11 (.q 12 (.q 13 .nil)))))))))))))) [] rfl (by kernel_rfl) Sel.nil ?_
     refine AK ?_
     refine AK ?_
     refine C3 ?_
     refine DS ?_
     refine AK ?_
     refine AK ?_
     refine AK ?_
     refine BD ?_
     refine BV ?_
     refine AQ ?_
     refine AX ?_
     refine AQ ?_
     refine E8 ?_
     refine BR ?_
     refine A4 ?_
     refine AO rfl ?_
     refine AL ?_
     refine AP ?_
     refine AC ?_
     refine AZ (.q 0 (.q 1 (.q 2 (.q 3 (.q 4 (.q 5 (.q 6 (.q 7 (.q 8 (.q 9 (.q 10 (.q 11 (.q 12 (.q 13 (.q 14 (.q 15 (.q 16 (.l 17 .b .nil)))))))))))))))))) [] rfl (by kernel_rfl) Sel.nil ?_
     refine AX ?_
     refine AQ ?_
     refine AK ?_
     refine AK ?_
     refine BD ?_
     refine BV ?_
     refine AQ ?_
     refine zd_min ?_
     refine AX ?_
     refine AQ ?_
     refine AK ?_
     refine AK ?_
     refine BD ?_
     refine BX ?_
     refine AQ ?_
     refine GE ?_
     refine B9 ?_
     focus ((refine CF ?_; refine' FJ rfl _ rfl rfl _ _; rotate_left; (focus (apply C5; exact rfl; exact rfl; exact takeZ; exact (by (repeat (first | exact (fun v hv => absurd hv List.not_mem_nil) | (refine List.forall_mem_cons.2 ⟨?_, ?_⟩; (focus (first | exact rfl | assumption))))); first | done | fail); exact rfl; exact rfl)); (focus (rintro _ _ ⟨_, rfl⟩ w hw; exact hw.sel selZ)); rintro _ _ ⟨rfl, rfl⟩))
     refine A4 ?_
     refine AA ?_
     refine AB ?_
     refine A9 ?_
     refine AD ?_
     refine AE ?_
     refine A0 ?_
     exact AW (j + 1, (min z.1 y.1, max z.2 y.2)) ⟨by dsimp only; omega, by dsimp only; omega, by dsimp only; rw [hA, hA2]⟩ (by dsimp only; omega) covZ selZ
    ·have hE := hends (fun y' hy' => by rw [hy] at hy'; obtain rfl := Option.some.inj hy'; omega)
     refine AC ?_
     refine AC ?_
     refine AZ (.q 0 (.q 1 (.q 2 (.q 3 (.q 4 (.q 5 (.q 6 (.q 7 (.q 8 (.q 9 (.q 10 (.q 11 (.q 12 (.q 13 .nil)))))))))))))) [] rfl (by kernel_rfl) Sel.nil ?_
     refine AK ?_
     refine AK ?_
     refine C3 ?_
     refine DS ?_
     refine AK ?_
     refine AK ?_
     refine AK ?_
     refine BD ?_
     refine BV ?_
     refine AQ ?_
     refine AX ?_
     refine AQ ?_
     refine D6 ?_
     refine BR ?_
     refine A4 ?_
     refine AN rfl ?_
     refine A7 rfl ?_
     refine AC ?_
     refine AZ (.q 0 (.q 1 (.p 4 (.p 5 (.p 6 (.l 2 .e (.l 3 .b (.l 7 .b (.q 8 .nil))))))))) [] rfl (by kernel_rfl) Sel.nil ?_
     refine AK ?_
     refine BG ?_
     refine C9 ?_
     refine C9 ?_
     refine EF ?_
     refine BH ?_; rintro _ _ ⟨b, rfl, rfl⟩
     refine CF (a_b rfl (BS (by_ := 16) (s := 2) (news := [int z.1, int z.2]) rfl rfl rfl rfl rfl rfl rfl hO takeZ (cells_own memZ) rfl (by (repeat (first | exact (fun v hv => absurd hv List.not_mem_nil) | (refine List.forall_mem_cons.2 ⟨?_, ?_⟩; (focus (first | exact rfl | assumption))))); first | done | fail) (by omega) (by simp only [maxLen]; omega) (by omega)) rfl rfl rfl (fun _ _ _ w hw => hw.sel Sel.nil) ?_)
     rintro u1 _ ⟨σ1, hO1, rfl⟩
     refine CF (a_b rfl (D3 (by_ := 16) (s := 2) (σ := ρ) (w0 := .slice (cutP (some ⟨b1, o1, none⟩) c j 2) (l.length - j) (c - j)) (news := (l.drop j).flatMap encS) (m := (l.drop j).length) rfl rfl rfl rfl rfl rfl rfl hO1 takeZ (slE_lo encS_len hv2 hcap.le hj rfl) (fun b o h => cellsR h memZ) (ones_S _) (by rw [List.length_drop]; simp only [maxLen]; omega) (by rw [List.length_drop]; omega)) rfl rfl rfl (fun _ _ _ w hw => hw.sel Sel.nil) ?_)
     rintro u2 _ ⟨σ2, hO2, rfl⟩
     refine BP ?_
     refine A4 ?_
     skip
     refine AI (res1 rfl rfl) rsubZ selZ ⟨σ2, ?_, rfl⟩
     rw [hE]
     have e : k + 1 + (l.drop j).length = (l.take k ++ z :: l.drop j).length := by rw [List.length_append, List.length_take, List.length_cons]; omega
     rw [e] at hO2
     rw [List.flatMap_append, List.flatMap_cons, ← List.append_assoc]
     exact hO2
   ·have hE := hends (fun y' hy' => by rw [List.getElem?_eq_none (by omega)] at hy'; simp at hy')
    refine AC ?_
    refine AC ?_
    refine AZ (.q 0 (.q 1 (.q 2 (.q 3 (.q 4 (.q 5 (.q 6 (.q 7 (.q 8 (.q 9 (.q 10 (.q 11 (.q 12 (.q 13 .nil)))))))))))))) [] rfl (by kernel_rfl) Sel.nil ?_
    refine AK ?_
    refine AK ?_
    refine C3 ?_
    refine C4 ?_
    refine AK ?_
    refine AV rfl rfl rfl rfl rfl ?_
    refine AV rfl rfl rfl rfl rfl ?_
    refine AV rfl rfl rfl rfl rfl ?_
    refine AV rfl rfl rfl rfl rfl ?_
    refine AV rfl rfl rfl rfl rfl ?_
    refine AV rfl rfl rfl rfl rfl ?_
    refine AV rfl rfl rfl rfl rfl ?_
    refine AV rfl rfl rfl rfl rfl ?_
    refine BT ?_
    refine A4 ?_
    refine AN rfl ?_
    refine A7 rfl ?_
    refine AC ?_
    refine AZ (.q 0 (.q 1 (.p 4 (.p 5 (.p 6 (.l 2 .e (.l 3 .b (.l 7 .b (.q 8 .nil))))))))) [] rfl (by kernel_rfl) Sel.nil ?_
    refine AK ?_
    refine BG ?_
    refine C9 ?_
    refine C9 ?_
    refine EF ?_
    refine BH ?_; rintro _ _ ⟨b, rfl, rfl⟩
    refine CF (a_b rfl (BS (by_ := 16) (s := 2) (news := [int z.1, int z.2]) rfl rfl rfl rfl rfl rfl rfl hO takeZ (cells_own memZ) rfl (by (repeat (first | exact (fun v hv => absurd hv List.not_mem_nil) | (refine List.forall_mem_cons.2 ⟨?_, ?_⟩; (focus (first | exact rfl | assumption))))); first | done | fail) (by omega) (by simp only [maxLen]; omega) (by omega)) rfl rfl rfl (fun _ _ _ w hw => hw.sel Sel.nil) ?_)
    rintro u1 _ ⟨σ1, hO1, rfl⟩
    refine CF (a_b rfl (D3 (by_ := 16) (s := 2) (σ := ρ) (w0 := .slice (cutP (some ⟨b1, o1, none⟩) c j 2) (l.length - j) (c - j)) (news := (l.drop j).flatMap encS) (m := (l.drop j).length) rfl rfl rfl rfl rfl rfl rfl hO1 takeZ (slE_lo encS_len hv2 hcap.le hj rfl) (fun b o h => cellsR h memZ) (ones_S _) (by rw [List.length_drop]; simp only [maxLen]; omega) (by rw [List.length_drop]; omega)) rfl rfl rfl (fun _ _ _ w hw => hw.sel Sel.nil) ?_)
    rintro u2 _ ⟨σ2, hO2, rfl⟩
    refine BP ?_
    refine A4 ?_
    skip
    refine AI (res1 rfl rfl) rsubZ selZ ⟨σ2, ?_, rfl⟩
    rw [hE]
    have e : k + 1 + (l.drop j).length = (l.take k ++ z :: l.drop j).length := by rw [List.length_append, List.length_take, List.length_cons]; omega
    rw [e] at hO2
    rw [List.flatMap_append, List.flatMap_cons, ← List.append_assoc]
    exact hO2
 ·have hfin : insI l x = l.take k ++ absI (l.drop k) x := by
   rw [hit, List.drop_eq_nil_of_le (by omega)]
   rfl
  refine AC ?_
  refine AC ?_
  refine AZ (.q 0 (.q 1 (.q 2 (.q 3 (.q 4 (.q 5 (.q 6 (.q 7 (.q 8 (.q 9 (.q 10 (.q 11 (.q 12 (.q 13 .nil)))))))))))))) [] rfl (by kernel_rfl) Sel.nil ?_
  refine AK ?_
  refine AK ?_
  refine C3 ?_
  refine C4 ?_
  refine AK ?_
  refine AV rfl rfl rfl rfl rfl ?_
  refine AV rfl rfl rfl rfl rfl ?_
  refine AV rfl rfl rfl rfl rfl ?_
  refine AV rfl rfl rfl rfl rfl ?_
  refine AV rfl rfl rfl rfl rfl ?_
  refine AV rfl rfl rfl rfl rfl ?_
  refine AV rfl rfl rfl rfl rfl ?_
  refine AV rfl rfl rfl rfl rfl ?_
  refine BT ?_
  refine A4 ?_
  refine AN rfl ?_
  refine A7 rfl ?_
  refine AC ?_
  refine AP ?_
  clear hwhile
  refine BC [0, 3, 5] (X := Nat × (Int × Int)) (k, x) (fun z => k ≤ z.1 ∧ z.1 ≤ l.length ∧ absI (l.drop k) x = absI (l.drop z.1) z.2) (fun z => [(6, int z.1)]) (fun z => [σ, sng b3 (.cells #[int z.2.1, int z.2.2] 61 (0, 0))]) (fun z => l.length - z.1) pickZ ⟨by dsimp only; omega, hk, rfl⟩ covZ selZ ?_
  rintro ⟨j, z⟩ ⟨hkj, hj, hA⟩
  dsimp only at hkj hj hA ⊢
  have hends : (∀ y, l[j]? = some y → z.2 < y.1) → insI l x = l.take k ++ z :: l.drop j := fun hst => by
   rw [hfin, hA]
   by_cases hjl : j < l.length
   ·rw [List.drop_eq_getElem_cons hjl]
    have := hst _ (List.getElem?_eq_getElem hjl)
    unfold absI
    rw [if_neg (by omega)]
   ·rw [List.drop_eq_nil_of_le (by omega)]; rfl
  by_cases hjl : j < l.length
  ·exact absurd hjl (by omega)
  ·have hE := hends (fun y' hy' => by rw [List.getElem?_eq_none (by omega)] at hy'; simp at hy')
   refine AC ?_
   refine AC ?_
   refine AZ (.q 0 (.q 1 (.q 2 (.q 3 (.q 4 (.q 5 (.q 6 (.q 7 (.q 8 (.q 9 (.q 10 (.q 11 (.q 12 (.q 13 .nil)))))))))))))) [] rfl (by kernel_rfl) Sel.nil ?_
   refine AK ?_
   refine AK ?_
   refine C3 ?_
   refine C4 ?_
   refine AK ?_
   refine AV rfl rfl rfl rfl rfl ?_
   refine AV rfl rfl rfl rfl rfl ?_
   refine AV rfl rfl rfl rfl rfl ?_
   refine AV rfl rfl rfl rfl rfl ?_
   refine AV rfl rfl rfl rfl rfl ?_
   refine AV rfl rfl rfl rfl rfl ?_
   refine AV rfl rfl rfl rfl rfl ?_
   refine AV rfl rfl rfl rfl rfl ?_
   refine BT ?_
   refine A4 ?_
   refine AN rfl ?_
   refine A7 rfl ?_
   refine AC ?_
   refine AZ (.q 0 (.q 1 (.p 4 (.p 5 (.p 6 (.l 2 .e (.l 3 .b (.l 7 .b (.q 8 .nil))))))))) [] rfl (by kernel_rfl) Sel.nil ?_
   refine AK ?_
   refine BG ?_
   refine C9 ?_
   refine C9 ?_
   refine EF ?_
   refine BH ?_; rintro _ _ ⟨b, rfl, rfl⟩
   refine CF (a_b rfl (BS (by_ := 16) (s := 2) (news := [int z.1, int z.2]) rfl rfl rfl rfl rfl rfl rfl hO takeZ (cells_own memZ) rfl (by (repeat (first | exact (fun v hv => absurd hv List.not_mem_nil) | (refine List.forall_mem_cons.2 ⟨?_, ?_⟩; (focus (first | exact rfl | assumption))))); first | done | fail) (by omega) (by simp only [maxLen]; omega) (by omega)) rfl rfl rfl (fun _ _ _ w hw => hw.sel Sel.nil) ?_)
   rintro u1 _ ⟨σ1, hO1, rfl⟩
   refine CF (a_b rfl (D3 (by_ := 16) (s := 2) (σ := ρ) (w0 := .slice (cutP (q) c j 2) (l.length - j) (c - j)) (news := (l.drop j).flatMap encS) (m := (l.drop j).length) rfl rfl rfl rfl rfl rfl rfl hO1 takeZ (slE_lo encS_len hv2 hcap.le hj rfl) (fun b o h => cellsR h memZ) (ones_S _) (by rw [List.length_drop]; simp only [maxLen]; omega) (by rw [List.length_drop]; omega)) rfl rfl rfl (fun _ _ _ w hw => hw.sel Sel.nil) ?_)
   rintro u2 _ ⟨σ2, hO2, rfl⟩
   refine BP ?_
   refine A4 ?_
   skip
   refine AI (res1 rfl rfl) rsubZ selZ ⟨σ2, ?_, rfl⟩
   rw [hE]
   have e : k + 1 + (l.drop j).length = (l.take k ++ z :: l.drop j).length := by rw [List.length_append, List.length_take, List.length_cons]; omega
   rw [e] at hO2
   rw [List.flatMap_append, List.flatMap_cons, ← List.append_assoc]
   exact hO2
end Go.Proofs.YthdoegkjifgegaaGreat
/- Sets of the document: intersection, equality. -/
namespace Go.Proofs.YthdoegkjifgegaaGreat
open Go.Eng Go.Step
set_option maxRecDepth 100000
set_option maxHeartbeats 4000000

end Go.Proofs.YthdoegkjifgegaaGreat
/- Joins and meets of the document. -/
namespace Go.Proofs.YthdoegkjifgegaaGreat
open Go.Eng Go.Step
set_option maxRecDepth 100000
set_option maxHeartbeats 4000000

end Go.Proofs.YthdoegkjifgegaaGreat
/- The arcs of the network, as the document lists them. No program in sight. No conditions. -/
namespace Go.Step
def waitT (qs : List Int) (hs : List Hd) (d : Dm) (n t : Int) : List EA := (rngI d.r t).map (fun u => ⟨⟨vtx d n u, vtx d n (u + 1), roomT qs hs d n u⟩, -1, u⟩)
theorem waitT_nil (qs : List Int) (hs : List Hd) (d : Dm) (n : Int) : waitT qs hs d n d.r = [] := by
  unfold waitT
  rw [rngI_nil (Int.le_refl _)]
  rfl
theorem waitT_snoc {qs : List Int} {hs : List Hd} {d : Dm} {n t : Int} (h : d.r ≤ t) : waitT qs hs d n (t + 1) = waitT qs hs d n t ++ [⟨⟨vtx d n t, vtx d n (t + 1), roomT qs hs d n t⟩, -1, t⟩] := by
  unfold waitT
  rw [rngI_snoc h, List.map_append]
  rfl
theorem waitT_end (qs : List Int) (hs : List Hd) (d : Dm) (n : Int) : waitT qs hs d n d.e = waitN qs hs d n := rfl
theorem waitT_len (qs : List Int) (hs : List Hd) (d : Dm) (n t : Int) : (waitT qs hs d n t).length = (t - d.r).toNat := by unfold waitT; rw [List.length_map, rngI_len]
def conT (d : Dm) (c : Ct) (i : Int) (G : List (Int × Int)) (t : Int) : List EA := ((rngI (max c.s d.r) t).filter (fun u => memI G u)).map (conE d c i)
theorem conT_nil (d : Dm) (c : Ct) (i : Int) (G : List (Int × Int)) : conT d c i G (max c.s d.r) = [] := by
  unfold conT
  rw [rngI_nil (Int.le_refl _)]
  rfl
theorem conT_snoc {d : Dm} {c : Ct} {i : Int} {G : List (Int × Int)} {t : Int} (h : max c.s d.r ≤ t) : conT d c i G (t + 1) = conT d c i G t ++ (if memI G t = true then [conE d c i t] else []) := by
  unfold conT
  rw [rngI_snoc h, List.filter_append, List.map_append]
  congr 1
  by_cases hm : memI G t = true
  · rw [if_pos hm, List.filter_cons_of_pos hm]; rfl
  · rw [if_neg hm, List.filter_cons_of_neg hm]; rfl
theorem conT_len (d : Dm) (c : Ct) (i : Int) (G : List (Int × Int)) (t : Int) : (conT d c i G t).length ≤ (t - max c.s d.r).toNat := by
  unfold conT
  rw [List.length_map]
  exact Nat.le_trans (List.length_filter_le _ _) (Nat.le_of_eq (rngI_len _ _))
section
variable {qs : List Int} {cs : List Ct} {bs : List Bk} {hs : List Hd} {d : Dm}
theorem conT_end (h : VOk qs cs bs hs d) {i : Nat} {c : Ct} (hc : cs[i]? = some c) {t : Int} (ht : ¬ (t < c.e ∧ t + 1 + c.g ≤ d.e)) (h2 : ∀ u, max c.s d.r ≤ u → u < t → u < c.e ∧ u + 1 + c.g ≤ d.e) : conT d c i (freeC cs bs i) t = conN cs bs d i := by
  obtain ⟨n1, _, n3⟩ := h.free hc
  have k := h.ct c (List.mem_of_getElem? hc)
  unfold conN
  rw [hc]
  show _ = (tickL d.r d.e c.g (freeC cs bs i)).map (conE d c i)
  unfold conT
  congr 1
  refine asc_ext ((rngI_asc _ _).filter _) (tickL_asc n1) (fun u => ?_)
  rw [mem_tickL, List.mem_filter, mem_rngI]
  constructor
  · rintro ⟨⟨a1, a2⟩, a3⟩
    have := h2 u a1 a2
    exact ⟨a3, by omega, by omega⟩
  · rintro ⟨a1, a2, a3⟩
    have a4 := a1
    rw [n3, Bool.and_eq_true, decide_eq_true_eq] at a4
    refine ⟨⟨by omega, ?_⟩, a1⟩
    by_cases hu : u < t
    · exact hu
    · exact absurd (by omega) ht
theorem VOk.waitA_le (h : VOk qs cs bs hs d) {m : Nat} (hm : m ≤ qs.length) : (waitA qs hs d m).length ≤ 1600 := by
  have h1 := waitA_len qs hs d m
  have h2 := h.nq
  have h3 := h.dm.2.2.2.2
  have h4 : (d.e - d.r).toNat ≤ 100 := by omega
  have := Nat.mul_le_mul (show m ≤ 16 by omega) h4
  omega
theorem VOk.conA_le (h : VOk qs cs bs hs d) {m : Nat} (hm : m ≤ cs.length) : (conA cs bs d m).length ≤ 6400 := by
  have h1 := h.conA_len m
  have h2 := h.nc
  have h3 := h.dm.2.2.2.2
  have h4 : (d.e - d.r).toNat ≤ 100 := by omega
  have := Nat.mul_le_mul (show m ≤ 64 by omega) h4
  omega
theorem VOk.free_chk (h : VOk qs cs bs hs d) {i : Nat} {c : Ct} (hc : cs[i]? = some c) : chkI (freeC cs bs i) = 0 ∧ (freeC cs bs i).length ≤ 513 := by
  obtain ⟨n1, n2, _⟩ := h.free hc
  have hl : (freeC cs bs i).length ≤ 513 := by
    have hf : freeC cs bs i = gapsP c.e c.s (busyL bs i) := by unfold freeC; rw [hc]
    rw [hf]
    have a := gapsP_len c.e (busyL bs i) c.s
    have b := busyL_len bs i
    have := h.nb
    omega
  have k := h.ct c (List.mem_of_getElem? hc)
  refine ⟨chkI_of (by omega) n1 (fun x hx => ?_), hl⟩
  have a := n1.1 x hx
  have b := n2 x hx
  exact ⟨a, by omega, by omega⟩
end
end Go.Step
/- The document's arcs. -/
namespace Go.Proofs.YthdoegkjifgegaaGreat
open Go.Eng Go.Step
set_option maxRecDepth 100000
set_option maxHeartbeats 4000000

theorem refCheck53_spec {ρ τ σ υ : PH} {pq pc pb ph : Option Addr} {kq kc kb kh : Nat} {qs : List Int} {cs : List Ct} {bs : List Bk} {hs : List Hd} (hT : TbAt ρ τ σ υ pq pc pb ph kq kc kb kh qs cs bs hs) (d : Dm) : Ans Tryz.prog (fv 41) [.agg #[.slice pq qs.length kq, .slice pc cs.length kc, .slice pb bs.length kb, .slice ph hs.length kh], .agg #[int d.s, int d.d, int d.v, int d.r, int d.e]] [ρ, τ, σ, υ] (fun r => r = .bool (validT qs cs bs hs d)) := by
 have hct := refChkTab_spec hT
 have hd := demand53_spec pq pc kq kc qs.length cs.length d
 refine spec_in (cap := []) Tryz.func41 rfl rfl Tryz.ntmps41 rfl envZ (fun N β => ?_)
 refine AC ?_
 refine AA ?_
 refine BJ (BN rfl) rfl rfl rfl ?_
 rintro _ _ ⟨b1, rfl, rfl⟩
 refine AS (ρ := sng b1 _) takeZ ?_
 have ct : RdN (sng b1 (.cells #[.slice pq qs.length kq, .slice pc cs.length kc, .slice pb bs.length kb, .slice ph hs.length kh] 29 (0, 0))) b1 0 [.slice pq qs.length kq, .slice pc cs.length kc, .slice pb bs.length kb, .slice ph hs.length kh] := rdN_sng (vs := [.slice pq qs.length kq, .slice pc cs.length kc, .slice pb bs.length kb, .slice ph hs.length kh])
 have ct0 : rdc (sng b1 (.cells #[.slice pq qs.length kq, .slice pc cs.length kc, .slice pb bs.length kb, .slice ph hs.length kh] 29 (0, 0))) b1 0 = some (.slice pq qs.length kq) := by rw [rdc_sng]; rfl
 have ct1 : rdc (sng b1 (.cells #[.slice pq qs.length kq, .slice pc cs.length kc, .slice pb bs.length kb, .slice ph hs.length kh] 29 (0, 0))) b1 1 = some (.slice pc cs.length kc) := by rw [rdc_sng]; rfl
 have ct2 : rdc (sng b1 (.cells #[.slice pq qs.length kq, .slice pc cs.length kc, .slice pb bs.length kb, .slice ph hs.length kh] 29 (0, 0))) b1 2 = some (.slice pb bs.length kb) := by rw [rdc_sng]; rfl
 have ct3 : rdc (sng b1 (.cells #[.slice pq qs.length kq, .slice pc cs.length kc, .slice pb bs.length kb, .slice ph hs.length kh] 29 (0, 0))) b1 3 = some (.slice ph hs.length kh) := by rw [rdc_sng]; rfl
 have ctp : RdP (sng b1 (.cells #[.slice pq qs.length kq, .slice pc cs.length kc, .slice pb bs.length kb, .slice ph hs.length kh] 29 (0, 0))) b1 0 [.slice pq qs.length kq, .slice pc cs.length kc] := rdP_sng (xs := [.slice pq qs.length kq, .slice pc cs.length kc, .slice pb bs.length kb, .slice ph hs.length kh]) rfl
 refine BJ (BN rfl) rfl rfl rfl ?_
 rintro _ _ ⟨b2, rfl, rfl⟩
 refine AS (ρ := sng b2 _) takeZ ?_
 have cd : RdN (sng b2 (.cells #[int d.s, int d.d, int d.v, int d.r, int d.e] 31 (0, 0))) b2 0 [int d.s, int d.d, int d.v, int d.r, int d.e] := rdN_sng (vs := [int d.s, int d.d, int d.v, int d.r, int d.e])
 have cd0 : rdc (sng b2 (.cells #[int d.s, int d.d, int d.v, int d.r, int d.e] 31 (0, 0))) b2 0 = some (int d.s) := by rw [rdc_sng]; rfl
 have cd1 : rdc (sng b2 (.cells #[int d.s, int d.d, int d.v, int d.r, int d.e] 31 (0, 0))) b2 1 = some (int d.d) := by rw [rdc_sng]; rfl
 have cd2 : rdc (sng b2 (.cells #[int d.s, int d.d, int d.v, int d.r, int d.e] 31 (0, 0))) b2 2 = some (int d.v) := by rw [rdc_sng]; rfl
 have cd3 : rdc (sng b2 (.cells #[int d.s, int d.d, int d.v, int d.r, int d.e] 31 (0, 0))) b2 3 = some (int d.r) := by rw [rdc_sng]; rfl
 have cd4 : rdc (sng b2 (.cells #[int d.s, int d.d, int d.v, int d.r, int d.e] 31 (0, 0))) b2 4 = some (int d.e) := by rw [rdc_sng]; rfl
 refine AD ?_
 refine AE ?_
 refine AC ?_
 refine AA ?_
 refine AT ?_
 refine A6 hct rfl rfl rdZ rfl rfl ?_
 rintro _ rfl
 by_cases hz : chkT qs cs bs hs = 0
 ·rw [hz]
  refine CJ ?_
  refine AB ?_
  refine AH ?_
  refine AT ?_
  refine AT ?_
  refine A6 hd rfl rfl rdZ rfl rfl ?_
  rintro _ rfl
  have hV : validT qs cs bs hs d = okDmB qs.length d := by unfold validT okDmB; simp [hz]
  rw [hV]
  cases okDmB qs.length d with
  | true =>
   refine AM ?_
   refine AD ?_
   refine AE ?_
   exact AI (res1 rfl rfl) rsubZ selZ ⟨rfl, rfl⟩
  | false =>
   refine AM ?_
   refine AD ?_
   refine AE ?_
   exact AI (res1 rfl rfl) rsubZ selZ ⟨rfl, rfl⟩
 ·have hV : validT qs cs bs hs d = false := decide_eq_false (fun h => hz h.1)
  rw [hV]
  refine CE ?_
  refine AB ?_
  refine AG rfl rfl rfl ?_
  refine AG rfl rfl rfl ?_
  refine AG rfl rfl rfl ?_
  refine AG rfl rfl rfl ?_
  refine AJ ?_
  refine AD ?_
  refine AE ?_
  exact AI (res1 rfl rfl) rsubZ selZ ⟨rfl, rfl⟩
theorem refVtx_spec (d : Dm) (n t : Int) (hr : 0 ≤ d.r ∧ d.r ≤ d.e ∧ d.e ≤ 1099511627776 ∧ d.e - d.r ≤ 100) (hn : 0 ≤ n ∧ n ≤ 1000) (ht : 0 ≤ t ∧ t ≤ 2199023255552) : Ans Tryz.prog (fv 42) [.agg #[int d.s, int d.d, int d.v, int d.r, int d.e], int n, int t] [] (fun r => r = int (vtx d n t)) := by
 have hv : vtx d n t = n * (d.e - d.r + 1) + t - d.r := by unfold vtx wd; omega
 have hm : 0 ≤ n * (d.e - d.r + 1) ∧ n * (d.e - d.r + 1) ≤ 1000 * 101 := ⟨Int.mul_nonneg hn.1 (by omega), Int.mul_le_mul hn.2 (by omega) (by omega) (by omega)⟩
 rw [hv]
 refine spec_in (cap := []) Tryz.func42 rfl rfl Tryz.ntmps42 rfl envZ (fun N β => ?_)
 refine AC ?_
 refine AA ?_
 refine BJ (BN rfl) rfl rfl rfl ?_
 rintro _ _ ⟨b2, rfl, rfl⟩
 refine AS (ρ := sng b2 _) takeZ ?_
 have cd : RdN (sng b2 (.cells #[int d.s, int d.d, int d.v, int d.r, int d.e] 31 (0, 0))) b2 0 [int d.s, int d.d, int d.v, int d.r, int d.e] := rdN_sng (vs := [int d.s, int d.d, int d.v, int d.r, int d.e])
 have cd0 : rdc (sng b2 (.cells #[int d.s, int d.d, int d.v, int d.r, int d.e] 31 (0, 0))) b2 0 = some (int d.s) := by rw [rdc_sng]; rfl
 have cd1 : rdc (sng b2 (.cells #[int d.s, int d.d, int d.v, int d.r, int d.e] 31 (0, 0))) b2 1 = some (int d.d) := by rw [rdc_sng]; rfl
 have cd2 : rdc (sng b2 (.cells #[int d.s, int d.d, int d.v, int d.r, int d.e] 31 (0, 0))) b2 2 = some (int d.v) := by rw [rdc_sng]; rfl
 have cd3 : rdc (sng b2 (.cells #[int d.s, int d.d, int d.v, int d.r, int d.e] 31 (0, 0))) b2 3 = some (int d.r) := by rw [rdc_sng]; rfl
 have cd4 : rdc (sng b2 (.cells #[int d.s, int d.d, int d.v, int d.r, int d.e] 31 (0, 0))) b2 4 = some (int d.e) := by rw [rdc_sng]; rfl
 refine AD ?_
 refine AE ?_
 refine AC ?_
 refine AA ?_
 refine AB ?_
 refine AH ?_
 refine AF ?_
 refine AH ?_
 refine AF ?_
 refine C8 ?_
 refine CH ?_
 refine EN ?_
 refine AB ?_
 refine CH ?_
 refine AH ?_
 refine AF ?_
 refine C8 ?_
 refine AD ?_
 refine AE ?_
 exact AI (res1 rfl rfl) rsubZ selZ ⟨rfl, rfl⟩
set_option maxHeartbeats 32000000 in
theorem refGaps_spec {ρ τ σ υ : PH} {pq pc pb ph : Option Addr} {kq kc kb kh : Nat} {qs : List Int} {cs : List Ct} {bs : List Bk} {hs : List Hd} (hT : TbAt ρ τ σ υ pq pc pb ph kq kc kb kh qs cs bs hs) (i : Nat) (x : Ct) (hx : cs[i]? = some x) (hbl : bs.length ≤ 512) :
  Makes Tryz.prog (fv 87) [.agg #[.slice pq qs.length kq, .slice pc cs.length kc], .slice pb bs.length kb, int (i : Int)] [ρ, τ, σ] (fun r χ => OwnS 61 2 r (freeC cs bs i).length ((freeC cs bs i).flatMap encS) χ) := by
 have hbusy := refBusy_spec σ _ bs i hT.hb (by omega)
 have hbll := busyL_len bs i
 have hfc : freeC cs bs i = gapsP x.e x.s (busyL bs i) := by unfold freeC; rw [hx]
 have hgl := gapsP_len x.e (busyL bs i) x.s
 rw [hfc]
 have hi := (List.getElem?_eq_some_iff.1 hx).1
 obtain ⟨bq, oq, e4, hrd⟩ := ctRow hT.rc hx
 have q2 : rdc τ bq (oq + i * 7 + 2) = some (int x.s) := hrd.get (j := 2) rfl
 have q3 : rdc τ bq (oq + i * 7 + 3) = some (int x.e) := hrd.get (j := 3) rfl
 refine spec_in (cap := []) Tryz.func87 rfl rfl Tryz.ntmps87 rfl envZ (fun N β => ?_)
 refine AC ?_
 refine AA ?_
 refine BJ (BN rfl) rfl rfl rfl ?_
 rintro _ _ ⟨b3, rfl, rfl⟩
 refine AS (ρ := sng b3 _) takeZ ?_
 have c : RdN (sng b3 (.cells #[.slice pq qs.length kq, .slice pc cs.length kc] 25 (0, 0))) b3 0 [.slice pq qs.length kq, .slice pc cs.length kc] := rdN_sng (vs := [.slice pq qs.length kq, .slice pc cs.length kc])
 have c0 : rdc (sng b3 (.cells #[.slice pq qs.length kq, .slice pc cs.length kc] 25 (0, 0))) b3 0 = some (.slice pq qs.length kq) := by rw [rdc_sng]; rfl
 have c1 : rdc (sng b3 (.cells #[.slice pq qs.length kq, .slice pc cs.length kc] 25 (0, 0))) b3 1 = some (.slice pc cs.length kc) := by rw [rdc_sng]; rfl
 refine CG ?_
 subst e4
 refine AD ?_
 refine AE ?_
 refine AC ?_
 refine AA ?_
 refine AD ?_
 refine AE ?_
 refine AC ?_
 refine AA ?_
 refine AH ?_
 refine AF ?_
 refine AB ?_
 refine A8 ?_
 refine CM ?_
 refine AF ?_
 refine AD ?_
 refine AE ?_
 refine AC ?_
 refine AA ?_
 refine AB ?_
 refine AB ?_
 refine BY hbusy rfl rfl rdZ rfl rfl ?_
 rintro w χb hOb
 have hSb := hOb.at
 obtain ⟨pw, kw, rfl⟩ := hOb.form
 obtain ⟨_, _, ew, hrw⟩ := SlE.val (enc := encS) encS_len (show SlE encS 2 χb _ (busyL bs i) from hSb)
 simp only [Value.slice.injEq] at ew
 obtain ⟨rfl, _, rfl⟩ := ew
 refine AS (ρ := χb) takeZ ?_
 generalize busyL bs i = L at hbll hOb hSb hrw hgl
 refine AD ?_
 refine AE ?_
 refine AC ?_
 refine AC ?_
 refine AA ?_
 refine AD ?_
 refine AE ?_
 refine AP ?_
 refine BC [2, 3, 9] (X := Nat × Int × List (Int × Int) × Value × PH) (0, x.s, [], .slice none 0 0, emp) (fun z => z.1 ≤ L.length ∧ gapsP x.e x.s L = z.2.2.1 ++ gapsP x.e z.2.1 (L.drop z.1) ∧ OwnS 61 2 z.2.2.2.1 z.2.2.1.length (z.2.2.1.flatMap encS) z.2.2.2.2) (fun z => [(10, int z.1), (8, int z.2.1), (7, z.2.2.2.1)]) (fun z => [z.2.2.2.2]) (fun z => L.length - z.1) pickZ ⟨by dsimp only; omega, rfl, OwnS.nil _ _⟩ covZ selZ ?_
 rintro ⟨k, a, G, u, χ⟩ ⟨hk, hG, hO⟩
 dsimp only at hk hG hO ⊢
 have hGl : G.length ≤ L.length + 1 := by
  have := congrArg List.length hG
  rw [List.length_append] at this
  omega
 by_cases hlt : k < L.length
 ·have hy := List.getElem?_eq_getElem hlt
  have hga := gapsP_at (e := x.e) hlt a
  obtain ⟨b6, o6, rfl, hRd6, y0, y1⟩ := spRow hrw hy
  generalize L[k] = y at hy hga hRd6 y0 y1
  by_cases hc : a < y.1
  ·rw [if_pos hc] at hga
   refine AC ?_
   refine AC ?_
   refine AA ?_
   refine AB ?_
   refine AB ?_
   refine AU ?_
   refine BB ?_
   refine AE ?_
   refine AO rfl ?_
   refine AL ?_
   refine AC ?_
   refine AP ?_
   refine AC ?_
   refine AC ?_
   refine AA ?_
   refine AB ?_
   refine AB ?_
   refine AB ?_
   refine A8 ?_
   refine CO ?_
   refine AF ?_
   refine BB ?_
   refine AE ?_
   refine AO rfl ?_
   refine AA ?_
   refine AB ?_
   refine AB ?_
   refine AB ?_
   refine AB ?_
   refine A8 ?_
   refine CO ?_
   refine AF ?_
   refine B6 ?_
   refine BA ?_; rintro _ _ ⟨b, rfl, rfl⟩
   refine BJ (BS (by_ := 16) (s := 2) (news := [int a, int y.1]) rfl rfl rfl rfl rfl rfl rfl hO takeZ (cells_own memZ) rfl (by (repeat (first | exact (fun v hv => absurd hv List.not_mem_nil) | (refine List.forall_mem_cons.2 ⟨?_, ?_⟩; (focus (first | exact rfl | assumption))))); first | done | fail) (by omega) (by simp only [maxLen]; omega) (by omega)) rfl rfl rfl ?_
   rintro u1 _ ⟨χ1, hO1, rfl⟩
   refine AD ?_
   refine AE ?_
   refine AA ?_
   refine AB ?_
   refine AB ?_
   refine A8 ?_
   refine CM ?_
   refine AF ?_
   refine AD ?_
   refine AE ?_
   refine A0 ?_
   refine AA ?_
   refine AB ?_
   refine A9 ?_
   refine AD ?_
   refine AE ?_
   refine AW (k + 1, y.2, G ++ [(a, y.1)], u1, χ1) ⟨by dsimp only; omega, ?_, ?_⟩ (by dsimp only; omega) covZ selZ
   ·dsimp only
    rw [hG, hga, List.append_assoc]
   ·dsimp only
    rw [List.length_append, List.flatMap_append]
    exact hO1
  ·rw [if_neg hc, List.nil_append] at hga
   refine AC ?_
   refine AC ?_
   refine AA ?_
   refine AB ?_
   refine AB ?_
   refine AU ?_
   refine BB ?_
   refine AE ?_
   refine AO rfl ?_
   refine AL ?_
   refine AC ?_
   refine AP ?_
   refine AC ?_
   refine AC ?_
   refine AA ?_
   refine AB ?_
   refine AB ?_
   refine AB ?_
   refine A8 ?_
   refine CO ?_
   refine AF ?_
   refine AY ?_
   refine AE ?_
   refine AN rfl ?_
   refine AL ?_
   refine AA ?_
   refine AB ?_
   refine AB ?_
   refine A8 ?_
   refine CM ?_
   refine AF ?_
   refine AD ?_
   refine AE ?_
   refine A0 ?_
   refine AA ?_
   refine AB ?_
   refine A9 ?_
   refine AD ?_
   refine AE ?_
   refine AW (k + 1, y.2, G, u, χ) ⟨by dsimp only; omega, ?_, hO⟩ (by dsimp only; omega) covZ selZ
   dsimp only
   rw [hG, hga]
 ·have hke : k = L.length := by omega
  subst hke
  have hfin : gapsP x.e x.s L = G ++ (if a < x.e then [(a, x.e)] else []) := by
   rw [hG, List.drop_length]
   rfl
  rw [hfin]
  by_cases hc : a < x.e
  ·rw [if_pos hc]
   refine AC ?_
   refine AC ?_
   refine AA ?_
   refine AB ?_
   refine AB ?_
   refine AU ?_
   refine AY ?_
   refine AE ?_
   refine AN rfl ?_
   refine A7 rfl ?_
   refine AC ?_
   refine AC ?_
   refine AA ?_
   refine AB ?_
   refine AH ?_
   refine AF ?_
   refine AB ?_
   refine A8 ?_
   refine CM ?_
   refine AF ?_
   refine BB ?_
   refine AE ?_
   refine AO rfl ?_
   refine AA ?_
   refine AB ?_
   refine AB ?_
   refine AH ?_
   refine AF ?_
   refine AB ?_
   refine A8 ?_
   refine CM ?_
   refine AF ?_
   refine B6 ?_
   refine BA ?_; rintro _ _ ⟨b, rfl, rfl⟩
   refine BJ (BS (by_ := 16) (s := 2) (news := [int a, int x.e]) rfl rfl rfl rfl rfl rfl rfl hO takeZ (cells_own memZ) rfl (by (repeat (first | exact (fun v hv => absurd hv List.not_mem_nil) | (refine List.forall_mem_cons.2 ⟨?_, ?_⟩; (focus (first | exact rfl | assumption))))); first | done | fail) (by omega) (by simp only [maxLen]; omega) (by omega)) rfl rfl rfl ?_
   rintro u1 _ ⟨χ1, hO1, rfl⟩
   refine AD ?_
   refine AE ?_
   refine AC ?_
   refine AA ?_
   refine AB ?_
   refine AD ?_
   refine AE ?_
   refine AI (res1 rfl rfl) rsubZ selZ ⟨χ1, ?_, rfl⟩
   rw [List.length_append, List.flatMap_append]
   exact hO1
  ·rw [if_neg hc, List.append_nil]
   refine AC ?_
   refine AC ?_
   refine AA ?_
   refine AB ?_
   refine AB ?_
   refine AU ?_
   refine AY ?_
   refine AE ?_
   refine AN rfl ?_
   refine A7 rfl ?_
   refine AC ?_
   refine AC ?_
   refine AA ?_
   refine AB ?_
   refine AH ?_
   refine AF ?_
   refine AB ?_
   refine A8 ?_
   refine CM ?_
   refine AF ?_
   refine AY ?_
   refine AE ?_
   refine AN rfl ?_
   refine AL ?_
   refine AC ?_
   refine AA ?_
   refine AB ?_
   refine AD ?_
   refine AE ?_
   exact AI (res1 rfl rfl) rsubZ selZ ⟨χ, hO, rfl⟩
def encRA (x : EA) : List Value := [int x.a.f, int x.a.t, int x.a.c, int x.c, int x.t]
theorem encRA_len (x : EA) : (encRA x).length = 5 := rfl
set_option maxHeartbeats 64000000 in
theorem refArcs_spec {ρ τ σ υ : PH} {pq pc pb ph : Option Addr} {kq kc kb kh : Nat} {qs : List Int} {cs : List Ct} {bs : List Bk} {hs : List Hd} (hT : TbAt ρ τ σ υ pq pc pb ph kq kc kb kh qs cs bs hs) (d : Dm) (h : VOk qs cs bs hs d) :
  Makes Tryz.prog (fv 43) [.agg #[.slice pq qs.length kq, .slice pc cs.length kc, .slice pb bs.length kb, .slice ph hs.length kh], .agg #[int d.s, int d.d, int d.v, int d.r, int d.e]] [ρ, τ, σ, υ] (fun r χ => OwnS 92 5 r (arcsE qs cs bs hs d).length ((arcsE qs cs bs hs d).flatMap encRA) χ) := by
 have hdm := h.dm
 unfold okDm at hdm
 have hnq := h.nq
 have hnc := h.nc
 refine spec_in (cap := []) Tryz.func43 rfl rfl Tryz.ntmps43 rfl envZ (fun N β => ?_)
 refine AC ?_
 refine AA ?_
 refine BJ (BN rfl) rfl rfl rfl ?_
 rintro _ _ ⟨b1, rfl, rfl⟩
 refine AS (ρ := sng b1 _) takeZ ?_
 have ct : RdN (sng b1 (.cells #[.slice pq qs.length kq, .slice pc cs.length kc, .slice pb bs.length kb, .slice ph hs.length kh] 29 (0, 0))) b1 0 [.slice pq qs.length kq, .slice pc cs.length kc, .slice pb bs.length kb, .slice ph hs.length kh] := rdN_sng (vs := [.slice pq qs.length kq, .slice pc cs.length kc, .slice pb bs.length kb, .slice ph hs.length kh])
 have ct0 : rdc (sng b1 (.cells #[.slice pq qs.length kq, .slice pc cs.length kc, .slice pb bs.length kb, .slice ph hs.length kh] 29 (0, 0))) b1 0 = some (.slice pq qs.length kq) := by rw [rdc_sng]; rfl
 have ct1 : rdc (sng b1 (.cells #[.slice pq qs.length kq, .slice pc cs.length kc, .slice pb bs.length kb, .slice ph hs.length kh] 29 (0, 0))) b1 1 = some (.slice pc cs.length kc) := by rw [rdc_sng]; rfl
 have ct2 : rdc (sng b1 (.cells #[.slice pq qs.length kq, .slice pc cs.length kc, .slice pb bs.length kb, .slice ph hs.length kh] 29 (0, 0))) b1 2 = some (.slice pb bs.length kb) := by rw [rdc_sng]; rfl
 have ct3 : rdc (sng b1 (.cells #[.slice pq qs.length kq, .slice pc cs.length kc, .slice pb bs.length kb, .slice ph hs.length kh] 29 (0, 0))) b1 3 = some (.slice ph hs.length kh) := by rw [rdc_sng]; rfl
 have ctp : RdP (sng b1 (.cells #[.slice pq qs.length kq, .slice pc cs.length kc, .slice pb bs.length kb, .slice ph hs.length kh] 29 (0, 0))) b1 0 [.slice pq qs.length kq, .slice pc cs.length kc] := rdP_sng (xs := [.slice pq qs.length kq, .slice pc cs.length kc, .slice pb bs.length kb, .slice ph hs.length kh]) rfl
 refine BJ (BN rfl) rfl rfl rfl ?_
 rintro _ _ ⟨b2, rfl, rfl⟩
 refine AS (ρ := sng b2 _) takeZ ?_
 have cd : RdN (sng b2 (.cells #[int d.s, int d.d, int d.v, int d.r, int d.e] 31 (0, 0))) b2 0 [int d.s, int d.d, int d.v, int d.r, int d.e] := rdN_sng (vs := [int d.s, int d.d, int d.v, int d.r, int d.e])
 have cd0 : rdc (sng b2 (.cells #[int d.s, int d.d, int d.v, int d.r, int d.e] 31 (0, 0))) b2 0 = some (int d.s) := by rw [rdc_sng]; rfl
 have cd1 : rdc (sng b2 (.cells #[int d.s, int d.d, int d.v, int d.r, int d.e] 31 (0, 0))) b2 1 = some (int d.d) := by rw [rdc_sng]; rfl
 have cd2 : rdc (sng b2 (.cells #[int d.s, int d.d, int d.v, int d.r, int d.e] 31 (0, 0))) b2 2 = some (int d.v) := by rw [rdc_sng]; rfl
 have cd3 : rdc (sng b2 (.cells #[int d.s, int d.d, int d.v, int d.r, int d.e] 31 (0, 0))) b2 3 = some (int d.r) := by rw [rdc_sng]; rfl
 have cd4 : rdc (sng b2 (.cells #[int d.s, int d.d, int d.v, int d.r, int d.e] 31 (0, 0))) b2 4 = some (int d.e) := by rw [rdc_sng]; rfl
 refine AD ?_
 refine AE ?_
 refine AC ?_
 refine AA ?_
 refine BA ?_; rintro _ _ ⟨b, rfl, rfl⟩
 refine AD ?_
 refine AE ?_
 refine AC ?_
 refine AC ?_
 refine AA ?_
 refine AD ?_
 refine AE ?_
 refine AP ?_
 revert b; intro bo
 refine BC [2, 3] (X := Nat × Value × PH) (0, .slice (some ⟨bo, 0, none⟩) 0 0, sng bo (.cells #[] 92 (0, 0))) (fun z => z.1 ≤ qs.length ∧ OwnS 92 5 z.2.1 (waitA qs hs d z.1).length ((waitA qs hs d z.1).flatMap encRA) z.2.2) (fun z => [(6, int z.1), (5, z.2.1)]) (fun z => [z.2.2]) (fun z => qs.length - z.1) pickZ ⟨by dsimp only; omega, OwnS.empty⟩ covZ selZ ?_
 rintro ⟨n, u, σo⟩ ⟨hn, hO⟩
 dsimp only at hn hO ⊢
 by_cases hlt : n < qs.length
 rotate_left
 ·have hne : n = qs.length := by omega
  subst hne
  have hWl := h.waitA_le (Nat.le_refl _)
  have hWE : arcsE qs cs bs hs d = waitA qs hs d qs.length ++ conA cs bs d cs.length := rfl
  rw [hWE]
  generalize waitA qs hs d qs.length = W at hO hWl
  refine AC ?_
  refine AC ?_
  refine AA ?_
  refine AB ?_
  refine AH ?_
  refine AH ?_
  refine AF ?_
  refine AU ?_
  refine AY ?_
  refine AE ?_
  refine AN rfl ?_
  refine A7 rfl ?_
  refine AC ?_
  refine AC ?_
  refine AA ?_
  refine AD ?_
  refine AE ?_
  refine AP ?_
  refine BC [2, 3] (X := Nat × Value × PH) (0, u, σo) (fun z => z.1 ≤ cs.length ∧ OwnS 92 5 z.2.1 (W ++ conA cs bs d z.1).length ((W ++ conA cs bs d z.1).flatMap encRA) z.2.2) (fun z => [(9, int z.1), (5, z.2.1)]) (fun z => [z.2.2]) (fun z => cs.length - z.1) pickZ ⟨by dsimp only; omega, by dsimp only; rw [show conA cs bs d 0 = [] from rfl, List.append_nil]; exact hO⟩ covZ selZ ?_
  rintro ⟨i, u, σo⟩ ⟨hi, hO⟩
  dsimp only at hi hO ⊢
  by_cases hil : i < cs.length
  rotate_left
  ·have hie : i = cs.length := by omega
   subst hie
   refine AC ?_
   refine AC ?_
   refine AA ?_
   refine AB ?_
   refine AH ?_
   refine AH ?_
   refine AF ?_
   refine AU ?_
   refine AY ?_
   refine AE ?_
   refine AN rfl ?_
   refine A7 rfl ?_
   refine AC ?_
   refine AA ?_
   refine AB ?_
   refine AD ?_
   refine AE ?_
   exact AI (res1 rfl rfl) rsubZ selZ ⟨σo, hO, rfl⟩
  have hx := List.getElem?_eq_getElem hil
  have hCl := h.conA_le (m := i) (by omega)
  have hend := fun t => conT_end h (t := t) hx
  obtain ⟨hfc, hfl⟩ := h.free_chk hx
  have hmem := fun t => (h.free hx).2.2 t
  have k := h.ct _ (List.mem_of_getElem? hx)
  have hgp := refGaps_spec hT i _ hx h.nb
  obtain ⟨bq, oq, e4, hrd⟩ := ctRow hT.rc hx
  have hnx : conA cs bs d (i + 1) = conA cs bs d i ++ conN cs bs d i := rfl
  generalize cs[i] = c at hx hend k hrd hmem
  generalize conN cs bs d i = CN at hend hnx
  generalize conA cs bs d i = CA at hO hCl hnx
  subst e4
  refine AC ?_
  refine AC ?_
  refine AA ?_
  refine AB ?_
  refine AH ?_
  refine AH ?_
  refine AF ?_
  refine AU ?_
  refine BB ?_
  refine AE ?_
  refine AO rfl ?_
  refine AL ?_
  refine AC ?_
  refine AP ?_
  refine AC ?_
  refine AA ?_
  refine AH ?_
  refine AH ?_
  refine AF ?_
  refine AB ?_
  refine A8 ?_
  refine AT ?_
  refine A5 ?_; rintro _ _ ⟨b, rfl, rfl⟩
  refine A3 ?_; rintro _ _ ⟨rfl, rfl⟩
  refine AE ?_
  refine AC ?_
  refine AA ?_
  refine AH ?_
  refine AT ?_
  refine AH ?_
  refine AF ?_
  refine AB ?_
  revert b; intro b10
  refine BY hgp rfl rfl rdZ rfl rfl ?_
  rintro uf χf hOf
  have hSf : SpAt χf uf (freeC cs bs i) := hOf.at
  obtain ⟨pf, kf, rfl⟩ := hOf.form
  generalize freeC cs bs i = G at hfc hfl hend hOf hSf hmem
  refine AD ?_
  refine AE ?_
  refine AC ?_
  refine AA ?_
  refine AH ?_
  refine AF ?_
  refine AH ?_
  refine AF ?_
  refine EO ?_
  refine AD ?_
  refine AE ?_
  refine AP ?_
  refine BC [2, 3, 9, 10, 11] (X := Int × Value × PH) (max c.s d.r, u, σo) (fun z => max c.s d.r ≤ z.1 ∧ (∀ v, max c.s d.r ≤ v → v < z.1 → v < c.e ∧ v + 1 + c.g ≤ d.e) ∧ OwnS 92 5 z.2.1 (W ++ (CA ++ conT d c i G z.1)).length ((W ++ (CA ++ conT d c i G z.1)).flatMap encRA) z.2.2) (fun z => [(12, int z.1), (5, z.2.1)]) (fun z => [z.2.2, sng b10 (.cells #[int c.f, int c.t, int c.s, int c.e, int c.r, int c.g, int c.l] 70 (0, 0)), χf]) (fun z => (c.e - z.1).toNat) pickZ ⟨by dsimp only; omega, fun v h1 h2 => by dsimp only at h2; omega, by dsimp only; rw [conT_nil, List.append_nil]; exact hO⟩ covZ selZ ?_
  rintro ⟨t, u, σo⟩ ⟨ht1, hin, hO⟩
  dsimp only at ht1 hin hO ⊢
  have htl : (t - max c.s d.r).toNat ≤ 100 := by
   by_cases hq : max c.s d.r < t
   ·have := hin (t - 1) (by omega) (by omega)
    omega
   ·omega
  have hcl := conT_len d c i G t
  have htot : (W ++ (CA ++ conT d c i G t)).length ≤ 8100 := by rw [List.length_append, List.length_append]; omega
  by_cases c1 : t < c.e
  rotate_left
  ·have he := hend t (fun h => c1 h.1) hin
   refine AC ?_
   refine AC ?_
   refine AA ?_
   refine AB ?_
   refine AH ?_
   refine AF ?_
   refine AY ?_
   refine AB ?_
   refine AG rfl rfl rfl ?_
   refine AG rfl rfl rfl ?_
   refine AG rfl rfl rfl ?_
   refine AG rfl rfl rfl ?_
   refine AG rfl rfl rfl ?_
   refine AG rfl rfl rfl ?_
   refine AG rfl rfl rfl ?_
   refine AG rfl rfl rfl ?_
   refine AJ ?_
   refine AE ?_
   refine AN rfl ?_
   refine A7 rfl ?_
   refine A0 ?_
   refine AA ?_
   refine AB ?_
   refine A9 ?_
   refine AD ?_
   refine AE ?_
   refine AW (i + 1, u, σo) ⟨by dsimp only; omega, ?_⟩ (by dsimp only; omega) covZ selZ
   dsimp only
   rw [hnx, ← he]
   exact hO
  by_cases c2 : t + 1 + c.g ≤ d.e
  rotate_left
  ·have he := hend t (fun h => c2 h.2) hin
   refine AC ?_
   refine AC ?_
   refine AA ?_
   refine AB ?_
   refine AH ?_
   refine AF ?_
   refine BB ?_
   refine AB ?_
   refine AB ?_
   refine CH ?_
   refine AH ?_
   refine AF ?_
   refine CH ?_
   refine AH ?_
   refine AF ?_
   refine CR ?_
   refine AM ?_
   refine AE ?_
   refine AN rfl ?_
   refine A7 rfl ?_
   refine A0 ?_
   refine AA ?_
   refine AB ?_
   refine A9 ?_
   refine AD ?_
   refine AE ?_
   refine AW (i + 1, u, σo) ⟨by dsimp only; omega, ?_⟩ (by dsimp only; omega) covZ selZ
   dsimp only
   rw [hnx, ← he]
   exact hO
  have hin2 : ∀ v, max c.s d.r ≤ v → v < t + 1 → v < c.e ∧ v + 1 + c.g ≤ d.e := fun v h1 h2 => by
   by_cases hq : v < t
   ·exact hin v h1 hq
   ·have : v = t := by omega
    subst this
    exact ⟨c1, c2⟩
  have hhas := refHas_spec χf (.slice pf G.length kf) G t hSf (by omega)
  rw [hasI_mem hfc] at hhas
  have hsn := conT_snoc (d := d) (c := c) (i := i) (G := G) ht1
  have hv1 := refVtx_spec d c.f t (by omega) (by omega) (by omega)
  have hv2 := refVtx_spec d c.t (t + 1 + c.g) (by omega) (by omega) (by omega)
  refine AC ?_
  refine AC ?_
  refine AA ?_
  refine AB ?_
  refine AH ?_
  refine AF ?_
  refine BB ?_
  refine AB ?_
  refine AB ?_
  refine CH ?_
  refine AH ?_
  refine AF ?_
  refine CH ?_
  refine AH ?_
  refine AF ?_
  refine CQ ?_
  refine AM ?_
  refine AE ?_
  refine AO rfl ?_
  refine AL ?_
  refine AC ?_
  refine AP ?_
  refine AC ?_
  refine AA ?_
  refine AB ?_
  refine AB ?_
  refine A6 hhas rfl rfl rdZ rfl rfl ?_
  rintro _ rfl
  cases hm : memI G t with
  | false =>
   rw [hm, if_neg (by simp), List.append_nil] at hsn
   refine AE ?_
   refine AN rfl ?_
   refine AL ?_
   refine A0 ?_
   refine AA ?_
   refine AB ?_
   refine CH ?_
   refine AD ?_
   refine AE ?_
   refine AW (t + 1, u, σo) ⟨by dsimp only; omega, hin2, ?_⟩ (by dsimp only; omega) covZ selZ
   dsimp only
   rw [hsn]
   exact hO
  | true =>
   rw [hm, if_pos rfl] at hsn
   generalize conT d c i G t = T0 at hO htot hsn
   refine AE ?_
   refine AO rfl ?_
   refine AZ (.q 0 (.q 1 (.q 2 (.q 3 (.q 4 (.q 6 (.q 7 (.q 8 (.q 9 (.q 10 (.q 11 (.q 12 (.q 13 (.q 15 (.q 16 (.q 18 (.q 19 (.l 5 .e (.l 14 .e (.q 17 (.q 20 (.l 21 .e (.l 22 .b (.l 23 .b .nil)))))))))))))))))))))))) [] rfl (by kernel_rfl) Sel.nil ?_
   refine AK ?_
   refine BG ?_
   refine AX ?_
   refine AQ ?_
   refine AK ?_
   refine BG ?_
   refine AX ?_
   refine AQ ?_
   refine AK ?_
   refine CS ?_
   refine AX ?_
   refine AQ ?_
   refine CS ?_
   refine AX ?_
   refine AQ ?_
   refine AK ?_
   refine AK ?_
   refine CF (B0 rfl hv1 rfl rfl rdZ rfl rfl ?_)
   rintro _ rfl
   skip
   refine CF (B0 rfl hv2 rfl rfl rdZ rfl rfl ?_)
   rintro _ rfl
   refine B9 ?_
   focus ((refine' CX rfl _ rfl rfl rfl rfl _; rotate_left; (focus (exact CZ (out := [int (vtx d c.f t), int (vtx d c.t (t + 1 + c.g)), int c.r, int (i : Int), int t]) rfl rfl rfl rfl rfl))))
   refine BH ?_; rintro _ _ ⟨b, rfl, rfl⟩
   refine CF (a_b rfl (BS (by_ := 40) (s := 5) (news := [int (vtx d c.f t), int (vtx d c.t (t + 1 + c.g)), int c.r, int (i : Int), int t]) rfl rfl rfl rfl rfl rfl rfl hO takeZ (cells_own memZ) rfl (by (repeat (first | exact (fun v hv => absurd hv List.not_mem_nil) | (refine List.forall_mem_cons.2 ⟨?_, ?_⟩; (focus (first | exact rfl | assumption))))); first | done | fail) (by omega) (by simp only [maxLen]; omega) (by omega)) rfl rfl rfl (fun _ _ _ w hw => hw.sel Sel.nil) ?_)
   rintro u1 _ ⟨σ2, hO2, rfl⟩
   refine C1 ?_
   refine A4 ?_
   refine A0 ?_
   refine AA ?_
   refine AB ?_
   refine CH ?_
   refine AD ?_
   refine AE ?_
   refine AW (t + 1, u1, σ2) ⟨by dsimp only; omega, hin2, ?_⟩ (by dsimp only; omega) covZ selZ
   dsimp only
   rw [hsn, ← List.append_assoc, ← List.append_assoc, List.length_append, List.flatMap_append, List.append_assoc]
   exact hO2
 have hWl := h.waitA_le (m := n) (by omega)
 have hnx : waitA qs hs d (n + 1) = waitA qs hs d n ++ waitN qs hs d n := rfl
 have hQ := List.getElem?_eq_getElem hlt
 obtain ⟨bq, oq, epq, gq⟩ := hT.rq.int hQ
 have hQb := h.quo _ _ hQ
 have hR := fun t : Int => show roomT qs hs d n t = if (n : Int) = d.s ∨ (n : Int) = d.d then 1099511627776 else qs[n] - Step.stored hs n t by
  unfold roomT
  rw [Int.toNat_natCast, List.getD_eq_getElem?_getD, hQ, Option.getD_some]
 generalize qs[n] = Q at hQ gq hQb hR
 generalize waitA qs hs d n = W at hO hWl hnx
 subst epq
 refine AC ?_
 refine AC ?_
 refine AA ?_
 refine AB ?_
 refine AH ?_
 refine AH ?_
 refine AF ?_
 refine AU ?_
 refine BB ?_
 refine AE ?_
 refine AO rfl ?_
 refine AL ?_
 refine AC ?_
 refine AP ?_
 refine AC ?_
 refine AA ?_
 refine AH ?_
 refine AF ?_
 refine AD ?_
 refine AE ?_
 refine AP ?_
 refine BC [2, 3, 6] (X := Int × Value × PH) (d.r, u, σo) (fun z => d.r ≤ z.1 ∧ z.1 ≤ d.e ∧ OwnS 92 5 z.2.1 (W ++ waitT qs hs d n z.1).length ((W ++ waitT qs hs d n z.1).flatMap encRA) z.2.2) (fun z => [(7, int z.1), (5, z.2.1)]) (fun z => [z.2.2]) (fun z => (d.e - z.1).toNat) pickZ ⟨by dsimp only; omega, by dsimp only; omega, by dsimp only; rw [waitT_nil, List.append_nil]; exact hO⟩ covZ selZ ?_
 rintro ⟨t, u, σo⟩ ⟨ht1, ht2, hO⟩
 dsimp only at ht1 ht2 hO ⊢
 have htl := waitT_len qs hs d n t
 have htot : (W ++ waitT qs hs d n t).length ≤ 1800 := by rw [List.length_append]; omega
 by_cases hte : t < d.e
 rotate_left
 ·have hee : t = d.e := by omega
  subst hee
  refine AC ?_
  refine AC ?_
  refine AA ?_
  refine AB ?_
  refine AH ?_
  refine AF ?_
  refine AY ?_
  refine AE ?_
  refine AN rfl ?_
  refine A7 rfl ?_
  refine A0 ?_
  refine AA ?_
  refine AB ?_
  refine A9 ?_
  refine AD ?_
  refine AE ?_
  refine AW (n + 1, u, σo) ⟨by dsimp only; omega, ?_⟩ (by dsimp only; omega) covZ selZ
  dsimp only
  rw [hnx, ← waitT_end]
  exact hO
 have hRt := hR t
 have hv1 := refVtx_spec d n t (by omega) (by omega) (by omega)
 have hv2 := refVtx_spec d n (t + 1) (by omega) (by omega) (by omega)
 have hst := stored_spec υ (.slice ph hs.length kh) hs n t qs.length hT.hh h.hd (by have := h.nh; omega)
 have hsb := stored_bd (n := (n : Int)) (t := t) h.hd
 have hnh := h.nh
 by_cases s1 : (n : Int) = d.s
 ·rw [if_pos (.inl s1)] at hRt
  refine AC ?_
  refine AC ?_
  refine AA ?_
  refine AB ?_
  refine AH ?_
  refine AF ?_
  refine BB ?_
  refine AE ?_
  refine AO rfl ?_
  refine AL ?_
  refine AC ?_
  refine AP ?_
  refine AC ?_
  refine AA ?_
  refine AD ?_
  refine AE ?_
  refine AC ?_
  refine AC ?_
  refine AA ?_
  refine AB ?_
  refine AH ?_
  refine AF ?_
  refine BI ?_
  refine AB ?_
  refine AG rfl rfl rfl ?_
  refine AG rfl rfl rfl ?_
  refine AG rfl rfl rfl ?_
  refine AG rfl rfl rfl ?_
  refine AJ ?_
  refine AE ?_
  refine AN rfl ?_
  refine AL ?_
  refine AZ (.q 0 (.q 1 (.q 2 (.q 3 (.q 5 (.q 6 (.q 7 (.q 8 (.q 10 (.q 12 (.l 4 .e (.l 9 .e (.q 11 (.q 13 (.l 14 .e (.l 15 .b (.l 16 .b .nil))))))))))))))))) [] rfl (by kernel_rfl) Sel.nil ?_
  refine AK ?_
  refine BG ?_
  refine AK ?_
  refine AK ?_
  refine BG ?_
  refine AK ?_
  refine AK ?_
  refine CS ?_
  refine AK ?_
  refine AK ?_
  refine CF (B0 rfl hv1 rfl rfl rdZ rfl rfl ?_)
  rintro _ rfl
  skip
  refine CF (B0 rfl hv2 rfl rfl rdZ rfl rfl ?_)
  rintro _ rfl
  refine B9 ?_
  focus ((refine' CX rfl _ rfl rfl rfl rfl _; rotate_left; (focus (exact CZ (out := [int (vtx d n t), int (vtx d n (t + 1)), int 1099511627776, int (-1), int t]) rfl rfl rfl rfl rfl))))
  refine BH ?_; rintro _ _ ⟨b, rfl, rfl⟩
  refine CF (a_b rfl (BS (by_ := 40) (s := 5) (news := [int (vtx d n t), int (vtx d n (t + 1)), int 1099511627776, int (-1), int t]) rfl rfl rfl rfl rfl rfl rfl hO takeZ (cells_own memZ) rfl (by (repeat (first | exact (fun v hv => absurd hv List.not_mem_nil) | (refine List.forall_mem_cons.2 ⟨?_, ?_⟩; (focus (first | exact rfl | assumption))))); first | done | fail) (by omega) (by simp only [maxLen]; omega) (by omega)) rfl rfl rfl (fun _ _ _ w hw => hw.sel Sel.nil) ?_)
  rintro u1 _ ⟨σ2, hO2, rfl⟩
  refine C1 ?_
  refine A4 ?_
  refine A0 ?_
  refine AA ?_
  refine AB ?_
  refine CH ?_
  refine AD ?_
  refine AE ?_
  refine AW (t + 1, u1, σ2) ⟨by dsimp only; omega, by dsimp only; omega, ?_⟩ (by dsimp only; omega) covZ selZ
  dsimp only
  rw [waitT_snoc ht1, hRt, ← List.append_assoc, List.length_append, List.flatMap_append]
  exact hO2
 by_cases s2 : (n : Int) = d.d
 ·rw [if_pos (.inr s2)] at hRt
  refine AC ?_
  refine AC ?_
  refine AA ?_
  refine AB ?_
  refine AH ?_
  refine AF ?_
  refine BB ?_
  refine AE ?_
  refine AO rfl ?_
  refine AL ?_
  refine AC ?_
  refine AP ?_
  refine AC ?_
  refine AA ?_
  refine AD ?_
  refine AE ?_
  refine AC ?_
  refine AC ?_
  refine AA ?_
  refine AB ?_
  refine AH ?_
  refine AF ?_
  refine CK ?_
  refine AB ?_
  refine AB ?_
  refine AH ?_
  refine AF ?_
  refine BI ?_
  refine AM ?_
  refine AE ?_
  refine AN rfl ?_
  refine AL ?_
  refine AZ (.q 0 (.q 1 (.q 2 (.q 3 (.q 5 (.q 6 (.q 7 (.q 8 (.q 10 (.q 12 (.l 4 .e (.l 9 .e (.q 11 (.q 13 (.l 14 .e (.l 15 .b (.l 16 .b .nil))))))))))))))))) [] rfl (by kernel_rfl) Sel.nil ?_
  refine AK ?_
  refine BG ?_
  refine AK ?_
  refine AK ?_
  refine BG ?_
  refine AK ?_
  refine AK ?_
  refine CS ?_
  refine AK ?_
  refine AK ?_
  refine CF (B0 rfl hv1 rfl rfl rdZ rfl rfl ?_)
  rintro _ rfl
  skip
  refine CF (B0 rfl hv2 rfl rfl rdZ rfl rfl ?_)
  rintro _ rfl
  refine B9 ?_
  focus ((refine' CX rfl _ rfl rfl rfl rfl _; rotate_left; (focus (exact CZ (out := [int (vtx d n t), int (vtx d n (t + 1)), int 1099511627776, int (-1), int t]) rfl rfl rfl rfl rfl))))
  refine BH ?_; rintro _ _ ⟨b, rfl, rfl⟩
  refine CF (a_b rfl (BS (by_ := 40) (s := 5) (news := [int (vtx d n t), int (vtx d n (t + 1)), int 1099511627776, int (-1), int t]) rfl rfl rfl rfl rfl rfl rfl hO takeZ (cells_own memZ) rfl (by (repeat (first | exact (fun v hv => absurd hv List.not_mem_nil) | (refine List.forall_mem_cons.2 ⟨?_, ?_⟩; (focus (first | exact rfl | assumption))))); first | done | fail) (by omega) (by simp only [maxLen]; omega) (by omega)) rfl rfl rfl (fun _ _ _ w hw => hw.sel Sel.nil) ?_)
  rintro u1 _ ⟨σ2, hO2, rfl⟩
  refine C1 ?_
  refine A4 ?_
  refine A0 ?_
  refine AA ?_
  refine AB ?_
  refine CH ?_
  refine AD ?_
  refine AE ?_
  refine AW (t + 1, u1, σ2) ⟨by dsimp only; omega, by dsimp only; omega, ?_⟩ (by dsimp only; omega) covZ selZ
  dsimp only
  rw [waitT_snoc ht1, hRt, ← List.append_assoc, List.length_append, List.flatMap_append]
  exact hO2
 rw [if_neg (by omega)] at hRt
 refine AC ?_
 refine AC ?_
 refine AA ?_
 refine AB ?_
 refine AH ?_
 refine AF ?_
 refine BB ?_
 refine AE ?_
 refine AO rfl ?_
 refine AL ?_
 refine AC ?_
 refine AP ?_
 refine AC ?_
 refine AA ?_
 refine AD ?_
 refine AE ?_
 refine AC ?_
 refine AC ?_
 refine AA ?_
 refine AB ?_
 refine AH ?_
 refine AF ?_
 refine CK ?_
 refine AB ?_
 refine AB ?_
 refine AH ?_
 refine AF ?_
 refine CK ?_
 refine AM ?_
 refine AE ?_
 refine AO rfl ?_
 refine AZ (.q 0 (.q 1 (.q 2 (.q 3 (.q 4 (.q 5 (.q 6 (.q 7 (.q 8 (.q 9 (.l 10 .e (.q 11 (.q 12 .nil))))))))))))) [] rfl (by kernel_rfl) Sel.nil ?_
 refine AX ?_
 refine AX ?_
 refine AQ ?_
 refine AK ?_
 refine B7 ?_
 refine AQ ?_
 refine AX ?_
 refine AQ ?_
 refine AK ?_
 refine AK ?_
 refine CF (B0 rfl hst rfl rfl rdZ rfl rfl ?_)
 rintro _ rfl
 refine D4 ?_
 refine BP ?_
 refine A4 ?_
 skip
 refine AZ (.q 0 (.q 1 (.q 2 (.q 3 (.q 5 (.q 6 (.q 7 (.q 8 (.q 10 (.q 12 (.l 4 .e (.l 9 .e (.q 11 (.q 13 (.l 14 .e (.l 15 .b (.l 16 .b .nil))))))))))))))))) [] rfl (by kernel_rfl) Sel.nil ?_
 refine AK ?_
 refine BG ?_
 refine AK ?_
 refine AK ?_
 refine BG ?_
 refine AK ?_
 refine AK ?_
 refine CS ?_
 refine AK ?_
 refine AK ?_
 refine CF (B0 rfl hv1 rfl rfl rdZ rfl rfl ?_)
 rintro _ rfl
 skip
 refine CF (B0 rfl hv2 rfl rfl rdZ rfl rfl ?_)
 rintro _ rfl
 refine B9 ?_
 focus ((refine' CX rfl _ rfl rfl rfl rfl _; rotate_left; (focus (exact CZ (out := [int (vtx d n t), int (vtx d n (t + 1)), int (Q - Step.stored hs n t), int (-1), int t]) rfl rfl rfl rfl rfl))))
 refine BH ?_; rintro _ _ ⟨b, rfl, rfl⟩
 refine CF (a_b rfl (BS (by_ := 40) (s := 5) (news := [int (vtx d n t), int (vtx d n (t + 1)), int (Q - Step.stored hs n t), int (-1), int t]) rfl rfl rfl rfl rfl rfl rfl hO takeZ (cells_own memZ) rfl (by (repeat (first | exact (fun v hv => absurd hv List.not_mem_nil) | (refine List.forall_mem_cons.2 ⟨?_, ?_⟩; (focus (first | exact rfl | assumption))))); first | done | fail) (by omega) (by simp only [maxLen]; omega) (by omega)) rfl rfl rfl (fun _ _ _ w hw => hw.sel Sel.nil) ?_)
 rintro u1 _ ⟨σ2, hO2, rfl⟩
 refine C1 ?_
 refine A4 ?_
 refine A0 ?_
 refine AA ?_
 refine AB ?_
 refine CH ?_
 refine AD ?_
 refine AE ?_
 refine AW (t + 1, u1, σ2) ⟨by dsimp only; omega, by dsimp only; omega, ?_⟩ (by dsimp only; omega) covZ selZ
 dsimp only
 rw [waitT_snoc ht1, hRt, ← List.append_assoc, List.length_append, List.flatMap_append]
 exact hO2
end Go.Proofs.YthdoegkjifgegaaGreat
/- The document's network, its vertices and shipments. -/
namespace Go.Proofs.YthdoegkjifgegaaGreat
open Go.Eng Go.Step
set_option maxRecDepth 100000
set_option maxHeartbeats 4000000

theorem RdN.pre {ρ : PH} {b o : Nat} {xs ys : List Value} (h : RdN ρ b o (xs ++ ys)) : RdP ρ b o xs := ⟨fun j v hv => h j v (by
 have hl := (List.getElem?_eq_some_iff.1 hv).1
 rw [List.getElem?_append_left hl]
 exact hv)⟩
theorem rowN {α : Type} {enc : α → List Value} {s : Nat} (he : ∀ x, (enc x).length = s) {ρ : PH} {p : Option Addr} {k : Nat} {l : List α} (h : SlE enc s ρ (.slice p l.length k) l) : RowsE enc s ρ p l := by
 obtain ⟨_, _, e, hr⟩ := h.val he
 simp only [Value.slice.injEq] at e
 obtain ⟨rfl, _, _⟩ := e
 exact hr
set_option maxHeartbeats 32000000 in
theorem refGraph53_spec {ρ τ σ υ : PH} {pq pc pb ph : Option Addr} {kq kc kb kh : Nat} {qs : List Int} {cs : List Ct} {bs : List Bk} {hs : List Hd} (hT : TbAt ρ τ σ υ pq pc pb ph kq kc kb kh qs cs bs hs) (d : Dm) :
  Makes Tryz.prog (fv 11) [.agg #[.slice pq qs.length kq, .slice pc cs.length kc, .slice pb bs.length kb, .slice ph hs.length kh], .agg #[int d.s, int d.d, int d.v, int d.r, int d.e]] [ρ, τ, σ, υ] (fun r χ' => if validT qs cs bs hs d = true then ∃ u, r = .tuple #[.agg #[int (vsN qs d), u, int (vtx d d.s d.r), int (vtx d d.d d.e)], int 0] ∧ OwnS 66 3 u (arcsG qs cs bs hs d).length ((arcsG qs cs bs hs d).flatMap encA) χ' else r = .tuple #[.agg #[int 0, .slice none 0 0, int 0, int 0], int 1] ∧ χ' = emp) := by
 refine spec_in (cap := []) Tryz.func11 rfl rfl Tryz.ntmps11 rfl envZ (fun N β => ?_)
 refine AC ?_
 refine AA ?_
 refine BJ (BN rfl) rfl rfl rfl ?_
 rintro _ _ ⟨b1, rfl, rfl⟩
 refine AS (ρ := sng b1 _) takeZ ?_
 have ct : RdN (sng b1 (.cells #[.slice pq qs.length kq, .slice pc cs.length kc, .slice pb bs.length kb, .slice ph hs.length kh] 29 (0, 0))) b1 0 [.slice pq qs.length kq, .slice pc cs.length kc, .slice pb bs.length kb, .slice ph hs.length kh] := rdN_sng (vs := [.slice pq qs.length kq, .slice pc cs.length kc, .slice pb bs.length kb, .slice ph hs.length kh])
 have ct0 : rdc (sng b1 (.cells #[.slice pq qs.length kq, .slice pc cs.length kc, .slice pb bs.length kb, .slice ph hs.length kh] 29 (0, 0))) b1 0 = some (.slice pq qs.length kq) := by rw [rdc_sng]; rfl
 have ct1 : rdc (sng b1 (.cells #[.slice pq qs.length kq, .slice pc cs.length kc, .slice pb bs.length kb, .slice ph hs.length kh] 29 (0, 0))) b1 1 = some (.slice pc cs.length kc) := by rw [rdc_sng]; rfl
 have ct2 : rdc (sng b1 (.cells #[.slice pq qs.length kq, .slice pc cs.length kc, .slice pb bs.length kb, .slice ph hs.length kh] 29 (0, 0))) b1 2 = some (.slice pb bs.length kb) := by rw [rdc_sng]; rfl
 have ct3 : rdc (sng b1 (.cells #[.slice pq qs.length kq, .slice pc cs.length kc, .slice pb bs.length kb, .slice ph hs.length kh] 29 (0, 0))) b1 3 = some (.slice ph hs.length kh) := by rw [rdc_sng]; rfl
 have ctp : RdP (sng b1 (.cells #[.slice pq qs.length kq, .slice pc cs.length kc, .slice pb bs.length kb, .slice ph hs.length kh] 29 (0, 0))) b1 0 [.slice pq qs.length kq, .slice pc cs.length kc] := rdP_sng (xs := [.slice pq qs.length kq, .slice pc cs.length kc, .slice pb bs.length kb, .slice ph hs.length kh]) rfl
 refine BJ (BN rfl) rfl rfl rfl ?_
 rintro _ _ ⟨b2, rfl, rfl⟩
 refine AS (ρ := sng b2 _) takeZ ?_
 have cd : RdN (sng b2 (.cells #[int d.s, int d.d, int d.v, int d.r, int d.e] 31 (0, 0))) b2 0 [int d.s, int d.d, int d.v, int d.r, int d.e] := rdN_sng (vs := [int d.s, int d.d, int d.v, int d.r, int d.e])
 have cd0 : rdc (sng b2 (.cells #[int d.s, int d.d, int d.v, int d.r, int d.e] 31 (0, 0))) b2 0 = some (int d.s) := by rw [rdc_sng]; rfl
 have cd1 : rdc (sng b2 (.cells #[int d.s, int d.d, int d.v, int d.r, int d.e] 31 (0, 0))) b2 1 = some (int d.d) := by rw [rdc_sng]; rfl
 have cd2 : rdc (sng b2 (.cells #[int d.s, int d.d, int d.v, int d.r, int d.e] 31 (0, 0))) b2 2 = some (int d.v) := by rw [rdc_sng]; rfl
 have cd3 : rdc (sng b2 (.cells #[int d.s, int d.d, int d.v, int d.r, int d.e] 31 (0, 0))) b2 3 = some (int d.r) := by rw [rdc_sng]; rfl
 have cd4 : rdc (sng b2 (.cells #[int d.s, int d.d, int d.v, int d.r, int d.e] 31 (0, 0))) b2 4 = some (int d.e) := by rw [rdc_sng]; rfl
 refine CG ?_
 refine A5 ?_; rintro _ _ ⟨b, rfl, rfl⟩
 refine AD ?_
 refine AE ?_
 refine AC ?_
 refine AC ?_
 refine AA ?_
 refine AT ?_
 refine AT ?_
 revert b; intro b4
 refine A6 (refCheck53_spec hT d) rfl rfl rdZ rfl rfl ?_
 rintro _ rfl
 cases hv : validT qs cs bs hs d with
 | false =>
  refine BE ?_
  refine AE ?_
  refine AO rfl ?_
  refine AC ?_
  refine AA ?_
  refine B6 ?_
  refine A3 ?_; rintro _ _ ⟨rfl, rfl⟩
  refine AD ?_
  refine AE ?_
  exact AI (resSE (b1 := b4) (T := 36) (v1 := [int 0, .slice none 0 0, int 0, int 0]) rfl rfl rfl rfl rfl (cells_own memZ)) rsubZ selZ ⟨emp, by (try dsimp only); rw [if_neg (by simp)]; exact ⟨rfl, rfl⟩, rfl⟩
 | true =>
 have h := vok hv
 have hdm := h.dm
 unfold okDm at hdm
 have hnq := h.nq
 have hvs := h.vs
 have hmul : (qs.length : Int) * (d.e - d.r + 1) = vsN qs d := rfl
 have hv1 := refVtx_spec d d.s d.r (by omega) (by omega) (by omega)
 have hv2 := refVtx_spec d d.d d.e (by omega) (by omega) (by omega)
 have hEl := ea_len qs cs bs hs d h
 have hone : ∀ z n (xs : List Value) (χ : PH), OwnS 66 3 z n xs χ → z.oneCell' = true := fun z n xs χ h => by obtain ⟨_, _, rfl⟩ := h.form; rfl
 refine BE ?_
 refine AE ?_
 refine AN rfl ?_
 refine AL ?_
 refine AC ?_
 refine EZ (X := Nat) [2, 3, 4] (fun _ => True) (fun x => [(6, .pointer (some ⟨x, 0, none⟩))]) (fun x => [sng x (.cells #[int (vsN qs d), .slice none 0 0, int (vtx d d.s d.r), int (vtx d d.d d.e)] 36 (0, 0)), sng b4 (.cells #[int 0, .slice none 0 0, int 0, int 0] 36 (0, 0)), emp]) pickZ ?_ ?_
 ·refine AZ (.q 0 (.q 1 (.q 2 (.q 3 (.q 4 (.q 5 (.q 6 (.q 7 (.q 8 (.q 9 (.q 10 (.q 11 (.q 12 (.q 13 (.q 14 (.q 15 (.q 17 (.q 18 (.q 19 (.q 20 (.q 21 (.l2 16 .e (.l2 22 .e (.q 23 (.l 24 .e (.l 25 .b .nil))) 24 .e (.l 22 .e (.q 23 (.l 25 .b .nil)))) 24 .e (.l 16 .e (.l 22 .e (.q 23 (.l 25 .b .nil)))))))))))))))))))))))))) [] rfl (by kernel_rfl) Sel.nil ?_
  repeat' (first
   | (refine AQ ?_)
   | (refine AX ?_)
   | (refine C3 ?_)
   | (refine CS ?_)
   | (refine D4 ?_)
   | (refine zd_mul ?_)
   | (refine BG ?_)
   | (refine B9 ?_)
   | (focus ((refine CF (B0 rfl hv1 rfl rfl rdZ rfl rfl ?_); rintro _ rfl)))
   | (focus ((refine B0 rfl hv1 rfl rfl rdZ rfl rfl ?_; rintro _ rfl)))
   | (refine A4 ?_)
   | (refine FI ?_ ?_)
   | (focus ((refine CF (B0 rfl hv2 rfl rfl rdZ rfl rfl ?_); rintro _ rfl)))
   | (focus ((refine B0 rfl hv2 rfl rfl rdZ rfl rfl ?_; rintro _ rfl)))
   | (focus ((refine CF ?_; refine' FJ rfl _ rfl rfl _ _; rotate_left; (focus (apply C5; exact rfl; exact rfl; exact takeZ; exact (by (repeat (first | exact (fun v hv => absurd hv List.not_mem_nil) | (refine List.forall_mem_cons.2 ⟨?_, ?_⟩; (focus (first | exact rfl | assumption))))); first | done | fail); exact rfl; exact rfl)); (focus (rintro _ _ ⟨_, rfl⟩ w hw; exact hw.sel Sel.nil)); rintro _ _ ⟨rfl, rfl⟩)))
   | (refine DB ?_; rintro _ _ ⟨b, rfl, rfl⟩)
   | (refine EP ?_; rintro _ _ ⟨b, rfl, rfl⟩)
   | fail)
  all_goals (rw [hmul]; refine DU _ trivial covZ selZ)
 rintro b6 _
 refine AC ?_
 refine AA ?_
 refine AT ?_
 refine AT ?_
 refine BY (refArcs_spec hT d h) rfl rfl rdZ rfl rfl ?_
 rintro ua χa hOa
 have hSa : SlE encRA 5 χa ua (arcsE qs cs bs hs d) := hOa.at
 obtain ⟨pa, ka, rfl⟩ := hOa.form
 have hra := rowN encRA_len hSa
 refine AS (ρ := χa) takeZ ?_
 have hAG : arcsG qs cs bs hs d = (arcsE qs cs bs hs d).map (fun x => x.a) := rfl
 rw [hAG]
 generalize arcsE qs cs bs hs d = L at hEl hOa hSa hra
 clear hAG
 refine AD ?_
 refine AE ?_
 refine AC ?_
 refine AC ?_
 refine AA ?_
 refine AD ?_
 refine AE ?_
 refine AP ?_
 refine BC [2, 3, 4, 6, 7] (X := Nat × Value × PH) (0, .slice none 0 0, emp) (fun z => z.1 ≤ L.length ∧ OwnS 66 3 z.2.1 (L.take z.1).length ((L.take z.1).flatMap (fun e => encA e.a)) z.2.2) (fun z => [(8, int z.1)]) (fun z => [sng b6 (.cells #[int (vsN qs d), z.2.1, int (vtx d d.s d.r), int (vtx d d.d d.e)] 36 (0, 0)), sng b4 (.cells #[int 0, .slice none 0 0, int 0, int 0] 36 (0, 0)), z.2.2]) (fun z => L.length - z.1) pickZ ⟨by dsimp only; omega, OwnS.nil _ _⟩ covZ selZ ?_
 rintro ⟨k, u, σ1⟩ ⟨hk, hO⟩
 dsimp only at hk hO ⊢
 have hu1 := hone _ _ _ _ hO
 by_cases hlt : k < L.length
 rotate_left
 ·rw [List.take_of_length_le (by omega)] at hO
  have hO2 : OwnS 66 3 u (L.map (fun x => x.a)).length ((L.map (fun x => x.a)).flatMap encA) σ1 := by
   rw [List.length_map, List.flatMap_map]
   exact hO
  refine AC ?_
  refine AC ?_
  refine AA ?_
  refine AB ?_
  refine AB ?_
  refine AU ?_
  refine AY ?_
  refine AE ?_
  refine AN rfl ?_
  refine A7 rfl ?_
  refine AC ?_
  refine AA ?_
  refine AT ?_
  refine A3 ?_; rintro _ _ ⟨rfl, rfl⟩
  refine AD ?_
  refine AE ?_
  exact AI (resSE (b1 := b4) (T := 36) (v1 := [int (vsN qs d), u, int (vtx d d.s d.r), int (vtx d d.d d.e)]) rfl rfl rfl rfl rfl (cells_own memZ)) rsubZ selZ ⟨σ1, by (try dsimp only); rw [if_pos rfl]; exact ⟨u, rfl, hO2⟩, rfl⟩
 have hx := List.getElem?_eq_getElem hlt
 have hti := List.take_succ_eq_append_getElem hlt
 have hil : (L.take k).length ≤ 1000000 := by rw [List.length_take]; omega
 obtain ⟨b7, o7, epa, hrd⟩ := hra k _ hx
 generalize L[k] = x at hx hti hrd
 generalize L.take k = O at hO hti hil
 have px := RdN.pre (xs := [int x.a.f, int x.a.t, int x.a.c]) (ys := [int x.c, int x.t]) hrd
 clear hrd
 subst epa
 refine AC ?_
 refine AC ?_
 refine AA ?_
 refine AB ?_
 refine AB ?_
 refine AU ?_
 refine BB ?_
 refine AE ?_
 refine AO rfl ?_
 refine AL ?_
 refine AC ?_
 refine AP ?_
 refine AZ (.q 0 (.q 1 (.q 2 (.q 3 (.q 4 (.q 5 (.q 6 (.l 7 .e (.l 8 .b (.q 9 (.l 10 .b .nil))))))))))) [] rfl (by kernel_rfl) Sel.nil ?_
 refine AX ?_
 refine AQ ?_
 refine AK ?_
 refine AK ?_
 refine BD ?_
 refine BV ?_
 refine BG ?_
 refine BH ?_; rintro _ _ ⟨b, rfl, rfl⟩
 refine CF (a_b rfl (BS (by_ := 24) (s := 3) (news := [int x.a.f, int x.a.t, int x.a.c]) rfl rfl rfl rfl rfl rfl rfl hO takeZ (cells_own memZ) rfl (by (repeat (first | exact (fun v hv => absurd hv List.not_mem_nil) | (refine List.forall_mem_cons.2 ⟨?_, ?_⟩; (focus (first | exact rfl | assumption))))); first | done | fail) (by omega) (by simp only [maxLen]; omega) (by omega)) rfl rfl rfl (fun _ _ _ w hw => hw.sel Sel.nil) ?_)
 rintro u1 _ ⟨σ2, hO1, rfl⟩
 have hu2 := hone _ _ _ _ hO1
 refine AX ?_
 refine DD ?_; rintro _ _ ⟨rfl, rfl⟩
 refine A4 ?_
 refine A0 ?_
 refine AA ?_
 refine AB ?_
 refine A9 ?_
 refine AD ?_
 refine AE ?_
 refine AW (k + 1, u1, σ2) ⟨by dsimp only; omega, ?_⟩ (by dsimp only; omega) covZ selZ
 dsimp only
 rw [hti, List.length_append, List.flatMap_append]
 exact hO1
set_option maxHeartbeats 16000000 in
theorem sameShips_spec (ρ τ : PH) (p p' : Option Addr) (kk kk' : Nat) (l : List Sh) (hv : ShAt ρ (.slice p l.length kk) l) (hw : ShAt τ (.slice p' l.length kk') l) (hl : l.length ≤ 1000000) :
  Ans Tryz.prog (fv 21) [.slice p l.length kk, .slice p' l.length kk'] [ρ, τ] (fun r => r = .bool true) := by
 have hr := rowN encX_len hv
 have hr' := rowN encX_len hw
 refine spec_in (cap := []) Tryz.func21 rfl rfl Tryz.ntmps21 rfl envZ (fun N β => ?_)
 refine AC ?_
 refine AA ?_
 refine AD ?_
 refine AE ?_
 refine AC ?_
 refine AC ?_
 refine AA ?_
 refine AB ?_
 refine AU ?_
 refine AB ?_
 refine AU ?_
 refine BI ?_
 refine AE ?_
 refine AN rfl ?_
 refine AL ?_
 refine AC ?_
 refine AC ?_
 refine AA ?_
 refine AD ?_
 refine AE ?_
 refine AP ?_
 refine BC [0, 1] (0 : Nat) (fun k => k ≤ l.length) (fun k => [(5, int k)]) (fun _ => []) (fun k => l.length - k) pickZ (by omega) covZ selZ ?_
 rintro k hk
 by_cases hlt : k < l.length
 ·have hx := List.getElem?_eq_getElem hlt
  obtain ⟨b1, o1, rfl, hRd1⟩ := hr k _ hx
  obtain ⟨b2, o2, rfl, hRd2⟩ := hr' k _ hx
  generalize l[k] = x at hRd1 hRd2 hx
  refine AC ?_
  refine AC ?_
  refine AA ?_
  refine AB ?_
  refine AB ?_
  refine AU ?_
  refine BB ?_
  refine AE ?_
  refine AO rfl ?_
  refine AL ?_
  refine AC ?_
  refine AP ?_
  refine AC ?_
  refine AZ (.q 0 (.q 1 (.q 2 (.q 3 (.q 4 (.q 5 (.q 6 (.q 7 (.q 8 .nil))))))))) [] rfl (by kernel_rfl) Sel.nil ?_
  refine AK ?_
  refine AK ?_
  refine BD ?_
  refine BG ?_
  refine AK ?_
  refine AK ?_
  refine BD ?_
  refine BG ?_
  focus ((refine' CX rfl _ rfl rfl rfl rfl _; rotate_left; (apply q_neS [x.c, x.t, x.n] [x.c, x.t, x.n] (n := 3); exact rfl; exact rfl; kernel_rfl; kernel_rfl; kernel_rfl; exact rfl; exact rfl)))
  refine A4 ?_
  rw [show (!decide ([x.c, x.t, x.n] = [x.c, x.t, x.n])) = false by simp]
  skip
  refine AN rfl ?_
  refine AL ?_
  refine A0 ?_
  refine AA ?_
  refine AB ?_
  refine A9 ?_
  refine AD ?_
  refine AE ?_
  exact AW (k + 1) (by omega) (by omega) covZ selZ
 ·refine AC ?_
  refine AC ?_
  refine AA ?_
  refine AB ?_
  refine AB ?_
  refine AU ?_
  refine AY ?_
  refine AE ?_
  refine AN rfl ?_
  refine A7 rfl ?_
  refine AC ?_
  refine AA ?_
  refine AD ?_
  refine AE ?_
  exact AI (res1 rfl rfl) rsubZ selZ ⟨rfl, rfl⟩
set_option maxHeartbeats 32000000 in
theorem refShips53_spec {ρ τ σ υ : PH} {pq pc pb ph : Option Addr} {kq kc kb kh : Nat} {qs : List Int} {cs : List Ct} {bs : List Bk} {hs : List Hd} (hT : TbAt ρ τ σ υ pq pc pb ph kq kc kb kh qs cs bs hs) (d : Dm) (ω : PH) (u0 : Value) (fl : List Int) (hu : IntsAt ω u0 fl) :
  Makes Tryz.prog (fv 18) [.agg #[.slice pq qs.length kq, .slice pc cs.length kc, .slice pb bs.length kb, .slice ph hs.length kh], .agg #[int d.s, int d.d, int d.v, int d.r, int d.e], u0] [ρ, τ, σ, υ, ω] (fun r χ => ∃ u, r = .tuple #[u, int (shipsE qs cs bs hs d fl)] ∧ OwnS 107 3 u (shipsR qs cs bs hs d fl).length ((shipsR qs cs bs hs d fl).flatMap encX) χ) := by
 obtain ⟨pf, kf, rfl, hrf⟩ := hu.val Eng.encI_len
 refine spec_in (cap := []) Tryz.func18 rfl rfl Tryz.ntmps18 rfl envZ (fun N β => ?_)
 refine AC ?_
 refine AA ?_
 refine BJ (BN rfl) rfl rfl rfl ?_
 rintro _ _ ⟨b1, rfl, rfl⟩
 refine AS (ρ := sng b1 _) takeZ ?_
 have ct : RdN (sng b1 (.cells #[.slice pq qs.length kq, .slice pc cs.length kc, .slice pb bs.length kb, .slice ph hs.length kh] 29 (0, 0))) b1 0 [.slice pq qs.length kq, .slice pc cs.length kc, .slice pb bs.length kb, .slice ph hs.length kh] := rdN_sng (vs := [.slice pq qs.length kq, .slice pc cs.length kc, .slice pb bs.length kb, .slice ph hs.length kh])
 have ct0 : rdc (sng b1 (.cells #[.slice pq qs.length kq, .slice pc cs.length kc, .slice pb bs.length kb, .slice ph hs.length kh] 29 (0, 0))) b1 0 = some (.slice pq qs.length kq) := by rw [rdc_sng]; rfl
 have ct1 : rdc (sng b1 (.cells #[.slice pq qs.length kq, .slice pc cs.length kc, .slice pb bs.length kb, .slice ph hs.length kh] 29 (0, 0))) b1 1 = some (.slice pc cs.length kc) := by rw [rdc_sng]; rfl
 have ct2 : rdc (sng b1 (.cells #[.slice pq qs.length kq, .slice pc cs.length kc, .slice pb bs.length kb, .slice ph hs.length kh] 29 (0, 0))) b1 2 = some (.slice pb bs.length kb) := by rw [rdc_sng]; rfl
 have ct3 : rdc (sng b1 (.cells #[.slice pq qs.length kq, .slice pc cs.length kc, .slice pb bs.length kb, .slice ph hs.length kh] 29 (0, 0))) b1 3 = some (.slice ph hs.length kh) := by rw [rdc_sng]; rfl
 have ctp : RdP (sng b1 (.cells #[.slice pq qs.length kq, .slice pc cs.length kc, .slice pb bs.length kb, .slice ph hs.length kh] 29 (0, 0))) b1 0 [.slice pq qs.length kq, .slice pc cs.length kc] := rdP_sng (xs := [.slice pq qs.length kq, .slice pc cs.length kc, .slice pb bs.length kb, .slice ph hs.length kh]) rfl
 refine BJ (BN rfl) rfl rfl rfl ?_
 rintro _ _ ⟨b2, rfl, rfl⟩
 refine AS (ρ := sng b2 _) takeZ ?_
 have cd : RdN (sng b2 (.cells #[int d.s, int d.d, int d.v, int d.r, int d.e] 31 (0, 0))) b2 0 [int d.s, int d.d, int d.v, int d.r, int d.e] := rdN_sng (vs := [int d.s, int d.d, int d.v, int d.r, int d.e])
 have cd0 : rdc (sng b2 (.cells #[int d.s, int d.d, int d.v, int d.r, int d.e] 31 (0, 0))) b2 0 = some (int d.s) := by rw [rdc_sng]; rfl
 have cd1 : rdc (sng b2 (.cells #[int d.s, int d.d, int d.v, int d.r, int d.e] 31 (0, 0))) b2 1 = some (int d.d) := by rw [rdc_sng]; rfl
 have cd2 : rdc (sng b2 (.cells #[int d.s, int d.d, int d.v, int d.r, int d.e] 31 (0, 0))) b2 2 = some (int d.v) := by rw [rdc_sng]; rfl
 have cd3 : rdc (sng b2 (.cells #[int d.s, int d.d, int d.v, int d.r, int d.e] 31 (0, 0))) b2 3 = some (int d.r) := by rw [rdc_sng]; rfl
 have cd4 : rdc (sng b2 (.cells #[int d.s, int d.d, int d.v, int d.r, int d.e] 31 (0, 0))) b2 4 = some (int d.e) := by rw [rdc_sng]; rfl
 refine AD ?_
 refine AD ?_
 refine AE ?_
 refine AC ?_
 refine AA ?_
 refine BA ?_; rintro _ _ ⟨b, rfl, rfl⟩
 refine AD ?_
 refine AE ?_
 refine AC ?_
 refine AA ?_
 refine AT ?_
 refine AT ?_
 revert b; intro b8
 refine BY (refGraph53_spec hT d) rfl rfl rdZ rfl rfl ?_
 rintro _ σg hg
 cases hv : validT qs cs bs hs d with
 | false =>
  rw [hv, if_neg (by simp)] at hg
  obtain ⟨rfl, rfl⟩ := hg
  have hE : shipsE qs cs bs hs d fl = 1 := by unfold shipsE; rw [if_neg (by simp [hv])]
  have hR : shipsR qs cs bs hs d fl = [] := by unfold shipsR; rw [hE, if_neg (by omega)]
  rw [hE, hR]
  refine AB ?_
  refine AR ?_
  refine AR ?_
  refine A5 ?_; rintro _ _ ⟨b, rfl, rfl⟩
  refine A3 ?_; rintro _ _ ⟨rfl, rfl⟩
  refine AD ?_
  refine AE ?_
  refine AC ?_
  refine AC ?_
  refine AA ?_
  refine AB ?_
  refine CK ?_
  refine AE ?_
  refine AO rfl ?_
  refine AC ?_
  refine AA ?_
  refine AB ?_
  refine AB ?_
  refine AD ?_
  refine AD ?_
  refine AE ?_
  exact AI (res2 rfl rfl rfl) rsubZ selZ ⟨_, ⟨_, rfl, OwnS.empty⟩, rfl⟩
 | true =>
 rw [hv, if_pos rfl] at hg
 obtain ⟨ug, rfl, hOg⟩ := hg
 have hAt : ArcsAt σg ug (arcsG qs cs bs hs d) := hOg.at
 obtain ⟨pg, kg, rfl⟩ := hOg.form
 have hEv : shipsE qs cs bs hs d fl = (Go.Flow.valueSpec (vsN qs d) (arcsG qs cs bs hs d) fl (vtx d d.s d.r) (vtx d d.d d.e)).2 := by unfold shipsE; rw [if_pos hv]
 have h := vok hv
 have hEl := ea_len qs cs bs hs d h
 have hAl : (arcsG qs cs bs hs d).length = (arcsE qs cs bs hs d).length := by unfold arcsG; rw [List.length_map]
 refine AS (ρ := σg) takeZ ?_
 refine AB ?_
 refine AR ?_
 refine AR ?_
 refine A5 ?_; rintro _ _ ⟨b, rfl, rfl⟩
 refine A3 ?_; rintro _ _ ⟨rfl, rfl⟩
 refine AD ?_
 refine AE ?_
 refine AC ?_
 refine AC ?_
 refine AA ?_
 refine AB ?_
 refine BI ?_
 refine AE ?_
 refine AN rfl ?_
 refine AL ?_
 refine AC ?_
 refine AC ?_
 refine AA ?_
 refine AH ?_
 refine AF ?_
 refine AH ?_
 refine AF ?_
 refine AB ?_
 refine AH ?_
 refine AF ?_
 refine AH ?_
 refine AF ?_
 revert b; intro bg
 have hval := refValue_spec σg ω _ _ (vsN qs d) (vtx d d.s d.r) (vtx d d.d d.e) (arcsG qs cs bs hs d) fl hAt hu (by omega)
 skip
 refine A6 hval rfl rfl rdZ rfl rfl ?_
 rintro _ rfl
 rw [← hEv]
 generalize (Go.Flow.valueSpec (vsN qs d) (arcsG qs cs bs hs d) fl (vtx d d.s d.r) (vtx d d.d d.e)).1 = vv
 by_cases hz : shipsE qs cs bs hs d fl = 0
 rotate_left
 ·have hR : shipsR qs cs bs hs d fl = [] := by unfold shipsR; rw [if_neg hz]
  rw [hR]
  refine AB ?_
  refine AR ?_
  refine AR ?_
  refine AD ?_
  refine AD ?_
  refine AE ?_
  refine AC ?_
  refine AA ?_
  refine AB ?_
  refine CK ?_
  refine AE ?_
  refine AO rfl ?_
  refine AC ?_
  refine AA ?_
  refine AB ?_
  refine AB ?_
  refine AD ?_
  refine AD ?_
  refine AE ?_
  exact AI (res2 rfl rfl rfl) rsubZ selZ ⟨_, ⟨_, rfl, OwnS.empty⟩, rfl⟩
 have hR : shipsR qs cs bs hs d fl = shipsF (arcsE qs cs bs hs d) fl := by unfold shipsR; rw [if_pos hz]
 have hfl := shipsE_len hv hz
 rw [hz, hR]
 refine AB ?_
 refine AR ?_
 refine AR ?_
 refine AD ?_
 refine AD ?_
 refine AE ?_
 refine AC ?_
 refine AA ?_
 refine AB ?_
 refine BI ?_
 refine AE ?_
 refine AN rfl ?_
 refine AL ?_
 refine AC ?_
 refine AA ?_
 refine AT ?_
 refine AT ?_
 refine BY (refArcs_spec hT d h) rfl rfl rdZ rfl rfl ?_
 rintro ua χa hOa
 have hSa : SlE encRA 5 χa ua (arcsE qs cs bs hs d) := hOa.at
 obtain ⟨pa, ka, rfl⟩ := hOa.form
 have hra := rowN encRA_len hSa
 refine AS (ρ := χa) takeZ ?_
 clear hAl hAt hval hOg hEv hR
 generalize arcsE qs cs bs hs d = L at hEl hOa hSa hra hfl
 refine AD ?_
 refine AE ?_
 refine AC ?_
 refine AC ?_
 refine AA ?_
 refine AD ?_
 refine AE ?_
 refine AP ?_
 refine BC [2, 13] (X := Nat × Value × PH) (0, .slice (some ⟨b8, 0, none⟩) 0 0, sng b8 (.cells #[] 107 (0, 0))) (fun z => z.1 ≤ L.length ∧ OwnS 107 3 z.2.1 (shipsF (L.take z.1) (fl.take z.1)).length ((shipsF (L.take z.1) (fl.take z.1)).flatMap encX) z.2.2) (fun z => [(14, int z.1), (8, z.2.1)]) (fun z => [z.2.2]) (fun z => L.length - z.1) pickZ ⟨by dsimp only; omega, OwnS.empty⟩ covZ selZ ?_
 rintro ⟨k, u, σ1⟩ ⟨hk, hO⟩
 dsimp only at hk hO ⊢
 by_cases hlt : k < L.length
 rotate_left
 ·rw [List.take_of_length_le (by omega), List.take_of_length_le (by omega)] at hO
  refine AC ?_
  refine AC ?_
  refine AA ?_
  refine AB ?_
  refine AB ?_
  refine AU ?_
  refine AY ?_
  refine AE ?_
  refine AN rfl ?_
  refine A7 rfl ?_
  refine AC ?_
  refine AA ?_
  refine AB ?_
  refine AD ?_
  refine AD ?_
  refine AE ?_
  exact AI (res2 rfl rfl rfl) rsubZ selZ ⟨σ1, ⟨u, rfl, hO⟩, rfl⟩
 have hx := List.getElem?_eq_getElem hlt
 have hy := List.getElem?_eq_getElem (show k < fl.length by omega)
 have hnx := shipsF_next hfl hx hy
 have hsl := shipsF_len (L.take k) (fl.take k)
 rw [List.length_take] at hsl
 obtain ⟨bo, oo, epf, gf⟩ := hrf.int hy
 obtain ⟨b7, o7, epa, hrd⟩ := hra k _ hx
 have r3 : rdc χa b7 (o7 + k * 5 + 3) = some (int L[k].c) := hrd.get (j := 3) rfl
 have r4 : rdc χa b7 (o7 + k * 5 + 4) = some (int L[k].t) := hrd.get (j := 4) rfl
 clear hrd
 generalize shipsF (L.take k) (fl.take k) = O at hO hsl hnx
 generalize L[k] = x at hx hnx r3 r4
 generalize fl[k] = y at hy gf hnx
 subst epf epa
 by_cases hc : 0 ≤ x.c
 ·by_cases hy0 : 0 < y
  ·rw [if_pos ⟨hc, hy0⟩] at hnx
   refine AC ?_
   refine AC ?_
   refine AA ?_
   refine AB ?_
   refine AB ?_
   refine AU ?_
   refine BB ?_
   refine AE ?_
   refine AO rfl ?_
   refine AL ?_
   refine AC ?_
   refine AP ?_
   refine AC ?_
   refine AA ?_
   refine AB ?_
   refine AB ?_
   refine A8 ?_
   refine CM ?_
   refine AF ?_
   refine CD ?_
   refine AB ?_
   refine AB ?_
   refine AB ?_
   refine BQ ?_
   refine AF ?_
   refine CP ?_
   refine AM ?_
   refine AE ?_
   refine AO rfl ?_
   refine AZ (.q 0 (.q 1 (.q 2 (.q 3 (.q 4 (.q 5 (.q 6 (.q 7 (.q 8 (.q 9 (.q 10 (.q 11 (.q 12 (.q 13 (.q 14 (.q 15 (.l 16 .e (.l 17 .b (.l 18 .b .nil))))))))))))))))))) [] rfl (by kernel_rfl) Sel.nil ?_
   refine AK ?_
   refine AK ?_
   refine AK ?_
   refine BD ?_
   refine BX ?_
   refine AQ ?_
   refine AK ?_
   refine AK ?_
   refine BD ?_
   refine BX ?_
   refine AQ ?_
   refine AK ?_
   refine AK ?_
   refine B7 ?_
   refine AQ ?_
   refine B9 ?_
   refine BH ?_; rintro _ _ ⟨b, rfl, rfl⟩
   refine CF (a_b rfl (BS (by_ := 24) (s := 3) (news := [int x.c, int x.t, int y]) rfl rfl rfl rfl rfl rfl rfl hO takeZ (cells_own memZ) rfl (by (repeat (first | exact (fun v hv => absurd hv List.not_mem_nil) | (refine List.forall_mem_cons.2 ⟨?_, ?_⟩; (focus (first | exact rfl | assumption))))); first | done | fail) (by omega) (by simp only [maxLen]; omega) (by omega)) rfl rfl rfl (fun _ _ _ w hw => hw.sel Sel.nil) ?_)
   rintro u1 _ ⟨σ2, hO2, rfl⟩
   refine C1 ?_
   refine A4 ?_
   refine A0 ?_
   refine AA ?_
   refine AB ?_
   refine A9 ?_
   refine AD ?_
   refine AE ?_
   refine AW (k + 1, u1, σ2) ⟨by dsimp only; omega, ?_⟩ (by dsimp only; omega) covZ selZ
   dsimp only
   rw [hnx, List.length_append, List.flatMap_append]
   exact hO2
  ·rw [if_neg (fun h => hy0 h.2), List.append_nil] at hnx
   refine AC ?_
   refine AC ?_
   refine AA ?_
   refine AB ?_
   refine AB ?_
   refine AU ?_
   refine BB ?_
   refine AE ?_
   refine AO rfl ?_
   refine AL ?_
   refine AC ?_
   refine AP ?_
   refine AC ?_
   refine AA ?_
   refine AB ?_
   refine AB ?_
   refine A8 ?_
   refine CM ?_
   refine AF ?_
   refine CD ?_
   refine AB ?_
   refine AB ?_
   refine AB ?_
   refine BQ ?_
   refine AF ?_
   refine BU ?_
   refine AM ?_
   refine AE ?_
   refine AN rfl ?_
   refine AL ?_
   refine A0 ?_
   refine AA ?_
   refine AB ?_
   refine A9 ?_
   refine AD ?_
   refine AE ?_
   refine AW (k + 1, u, σ1) ⟨by dsimp only; omega, ?_⟩ (by dsimp only; omega) covZ selZ
   dsimp only
   rw [hnx]
   exact hO
 ·rw [if_neg (fun h => hc h.1), List.append_nil] at hnx
  refine AC ?_
  refine AC ?_
  refine AA ?_
  refine AB ?_
  refine AB ?_
  refine AU ?_
  refine BB ?_
  refine AE ?_
  refine AO rfl ?_
  refine AL ?_
  refine AC ?_
  refine AP ?_
  refine AC ?_
  refine AA ?_
  refine AB ?_
  refine AB ?_
  refine A8 ?_
  refine CM ?_
  refine AF ?_
  refine BF ?_
  refine AB ?_
  refine AG rfl rfl rfl ?_
  refine AG rfl rfl rfl ?_
  refine AG rfl rfl rfl ?_
  refine AG rfl rfl rfl ?_
  refine AG rfl rfl rfl ?_
  refine AJ ?_
  refine AE ?_
  refine AN rfl ?_
  refine AL ?_
  refine A0 ?_
  refine AA ?_
  refine AB ?_
  refine A9 ?_
  refine AD ?_
  refine AE ?_
  refine AW (k + 1, u, σ1) ⟨by dsimp only; omega, ?_⟩ (by dsimp only; omega) covZ selZ
  dsimp only
  rw [hnx]
  exact hO
end Go.Proofs.YthdoegkjifgegaaGreat
