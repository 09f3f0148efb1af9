/- Texts of this proof, one after the other; no conditions. -/
import Derived.Test.YthdoegkjifgegaaGreatWB11
import Derived.Test.YthdoegkjifgegaaGreatWB3
import Derived.Test.YthdoegkjifgegaaGreatWB8
import Derived.Test.YthdoegkjifgegaaGreatWB9
import Derived.Test.YthdoegkjifgegaaGreatWB5
set_option linter.all false
/- The reference: Max, Cut. -/
namespace Go.Proofs.YthdoegkjifgegaaGreat
open Go.Eng Go.Flow
set_option maxRecDepth 100000
set_option maxHeartbeats 4000000

set_option maxHeartbeats 8000000 in
theorem refMax_spec (ρ : PH) (v : Value) (n s t : Int) (l : List Arc) (hv : ArcsAt ρ v l) (hl : l.length ≤ 1000000) :
  Makes Tryz.prog (fv 25) [int n, v, int s, int t] [ρ] (fun r σ => ∃ fs F m e, r = .tuple #[fs, int m, int e] ∧ IntsAt σ fs F ∧ MaxOK n l s t F m e) := by
 have hnil : IntsAt emp (.slice none 0 0) [] := ⟨rfl, .inl ⟨rfl, none, 0, rfl⟩⟩
 have hv2 := hv
 obtain ⟨q, c, rfl, hr⟩ := hv.val encA_len
 refine spec_in (cap := []) Tryz.func25 rfl rfl Tryz.ntmps25 rfl envZ (fun N β => ?_)
 refine AD ?_
 refine AA ?_
 refine AC ?_
 refine AC ?_
 refine AC ?_
 refine AE ?_
 refine AD ?_
 refine AD ?_
 refine AA ?_
 refine AB ?_
 refine AB ?_
 refine AB ?_
 refine AB ?_
 refine A4 (refEnds_spec ρ _ n s t l hv2 hl) rfl rfl rdZ rfl rfl ?_
 rintro _ rfl
 have hme : maxErr n l s t = (if chk n l ≠ 0 then chk n l else if okEnds n s t = true then 0 else 2) := rfl
 rw [← hme]
 by_cases h0 : maxErr n l s t = 0
 rotate_left
 ·refine AC ?_
  refine AE ?_
  refine AD ?_
  refine AA ?_
  refine AB ?_
  refine CT ?_
  refine AE ?_
  refine AN rfl ?_
  refine AD ?_
  refine AA ?_
  refine AB ?_
  refine AC ?_
  refine AC ?_
  refine AC ?_
  refine AE ?_
  refine BZ ?_
  exact AI (res3 rfl rfl rfl rfl) rsubZ selZ ⟨emp, ⟨_, [], 0, _, rfl, hnil, .inl ⟨h0, rfl, rfl, rfl⟩⟩, rfl⟩
 rw [h0]
 obtain ⟨n', s', t', g⟩ := maxErr_good h0
 obtain ⟨rfl, rfl, rfl⟩ := And.intro g.en (And.intro g.es g.et)
 have hn2 := g.n2
 have hl2 := g.l2
 have hrl := rl_lt g.ok
 have hcap : ∀ a ∈ l, 0 ≤ a.c ∧ a.c ≤ 1099511627776 := fun a ha => by have := okArc_iff.1 (g.ok a ha); omega
 refine AC ?_
 refine AE ?_
 refine AD ?_
 refine AA ?_
 refine AB ?_
 refine BJ ?_
 refine AE ?_
 refine AM rfl ?_
 refine AL ?_
 refine AD ?_
 refine AA ?_
 refine AB ?_
 refine AX ?_
 refine C8 ?_; rintro _ _ ⟨b, rfl, rfl⟩
 refine AC ?_
 refine AE ?_
 refine AD ?_
 refine AA ?_
 refine AC ?_
 refine AE ?_
 refine AD ?_
 refine AO ?_
 revert b; intro bf
 refine BD [0, 1, 2, 3, 12] (List.replicate l.length (0 : Int)) (fun fl => Flw n' l s' t' fl ∧ ∀ F, RunR n' l s' t' fl F → RunR n' l s' t' (List.replicate l.length 0) F) (fun fl => [(13, int (fval s' l fl))])
  (fun fl => [sng bf (.cells (ints fl) 3 (0, 0))]) (fun fl => (1099511627776 * (2 * (l.length : Int)) - fval s' l fl).toNat) pickZ ⟨flw_zeros g.ok, fun _ h => h⟩ (by rw [fval_zeros]; exact covZ) selZ ?_
 rintro fl ⟨hF, hrun⟩
 dsimp only
 have hIf : IntsAt (sng bf (.cells (ints fl) 3 (0, 0))) (.slice (some ⟨bf, 0, none⟩) l.length l.length) fl := by rw [hF.len]; exact intsAt_sng
 have hb0 := fval_bd s' l fl (inCap_small l _ hF.len hF.cap g.ok)
 rw [← hF.len] at hb0
 refine AD ?_
 refine AN rfl ?_
 refine AL ?_
 refine AO ?_
 refine AD ?_
 refine AA ?_
 refine AB ?_
 refine AB ?_
 refine AB ?_
 refine BW (refResidual_spec ρ _ _ _ n' l fl hv2 hIf g.l2 hF.len.symm g.ok hF.cap) rfl rfl rdZ rfl rfl ?_
 rintro _ τ ⟨br, rfl, rfl⟩
 have hSl : SlE (encR (rmR l fl)) 3 (sng br (.cells (elems (encR (rmR l fl)) (rlinks l)) 178 (0, 0))) (.slice (some ⟨br, 0, none⟩) (2 * l.length) (2 * l.length)) (rlinks l) := by
  have h9 := slE_sng (encR_len (rmR l fl)) (b := br) (l := rlinks l) (t := 178) (fr := (0, 0)) (c := 2 * l.length)
  rw [rlinks_len] at h9
  exact h9
 refine AB ?_
 refine AB ?_
 refine BW (refPath_spec _ _ n' s' t' (rlinks l) (rmR l fl) hSl hrl (rlinks_at l) g.n2 (by rw [rlinks_len]; omega) g.sn g.tn) rfl rfl rdZ rfl rfl ?_
 rintro _ ρp ⟨D, pv, hD, rfl, hP⟩
 by_cases hd0 : 0 ≤ D.getD s' 0
 rotate_left
 ·have hpn : pathD (nxt (rlinks l) (rmR l fl) D) D s' = [] := pathD_end (by omega)
  obtain ⟨q2, c2, rfl⟩ : ∃ p c, pv = .slice p 0 c := by
   have h9 := SlAt.cap hP.at
   rw [hpn] at h9
   exact h9
  refine AB ?_
  refine AQ ?_
  refine AQ ?_
  refine AC ?_
  refine AC ?_
  refine AE ?_
  refine AD ?_
  refine AD ?_
  refine AA ?_
  refine AB ?_
  refine AX ?_
  refine B8 ?_
  refine AE ?_
  refine AN rfl ?_
  refine AD ?_
  refine AA ?_
  refine AB ?_
  refine AB ?_
  refine AC ?_
  refine AC ?_
  refine AC ?_
  refine AE ?_
  exact AI (res3 rfl rfl rfl rfl) rsubZ selZ ⟨_, ⟨_, fl, _, _, rfl, hIf, .inr ⟨h0, rfl, hrun fl (.done hD (by omega)), rfl⟩⟩, rfl⟩
 obtain ⟨hN1, hN2, hN3⟩ := rNext_ok g.ok g.sn g.ne hF hD hd0
 obtain ⟨k0, hk0⟩ := Int.eq_ofNat_of_zero_le hd0
 have hDn := hD.lt (fun x hx => hrl x hx.1) g.tn g.sn
 have hPl : (rP l fl D s').length = k0 := path_len hrl hD k0 s' g.sn hk0
 have hk1 : k0 ≠ 0 := fun h => by
  subst h
  exact g.ne (hD.zero s' g.sn (by omega))
 have hPm : ∀ x ∈ rP l fl D s', x ∈ rlinks l := fun x hx => ((path_chn hrl hD k0 s' g.sn hk0).all x hx).1.1
 have hroom : leastR (rmR l fl) (rP l fl D s') ≤ 1099511627776 := (leastR_le _ _ _).1
 have hrl2 : rmin (rmR l fl) (rP l fl D s') = leastR (rmR l fl) (rP l fl D s') := rmin_least _ _ (fun h => by rw [h] at hPl; simp at hPl; omega) (fun x hx => rmR_le g.ok hF.len hF.cap (hPm x hx))
 rw [hrl2]
 have hIn : IntsAt ρp pv (ksOf (rP l fl D s')) := ownInts (e := 3) (by rw [show (ksOf (rP l fl D s')).length = (rP l fl D s').length from by simp [ksOf]]; exact hP)
 obtain ⟨q2, c2, rfl, hr2⟩ := hIn.val Eng.encI_len
 have hkl : (ksOf (rP l fl D s')).length = (rP l fl D s').length := by simp [ksOf]
 have hmu := fval_bd s' l (rNext l fl D s') (inCap_small l _ hN1.len hN1.cap g.ok)
 rw [← hN1.len] at hmu
 refine AB ?_
 refine AQ ?_
 refine AQ ?_
 refine AC ?_
 refine AC ?_
 refine AE ?_
 refine AD ?_
 refine AD ?_
 refine AA ?_
 refine AB ?_
 refine AX ?_
 refine BT ?_
 refine AE ?_
 refine AM rfl ?_
 refine AL ?_
 refine AD ?_
 refine AD ?_
 refine AA ?_
 refine AC ?_
 refine AE ?_
 refine AO ?_
 refine BD [0, 1, 2, 3, 12, 13, 14, 15] (0 : Nat) (fun i => i ≤ (rP l fl D s').length) (fun i => [(16, int i)])
  (fun i => [sng bf (.cells (ints (augAll (leastR (rmR l fl) (rP l fl D s')) fl ((rP l fl D s').take i))) 3 (0, 0)), ρp])
  (fun i => (rP l fl D s').length - i) pickZ (by omega) covZ selZ ?_
 intro i hi
 by_cases hlt : i < (rP l fl D s').length
 ·have hx : (ksOf (rP l fl D s'))[i]? = some ((rP l fl D s')[i].k : Int) := by simp [ksOf, hlt]
  obtain ⟨b, o, rfl, g0⟩ := hr2.int hx
  have hxm := hPm _ (List.getElem_mem hlt)
  have hxk := (rlinks_mem g.ok hxm).2.2
  have hal : (augAll (leastR (rmR l fl) (rP l fl D s')) fl ((rP l fl D s').take i)).length = l.length := by rw [augAll_len]; exact hF.len.symm
  have hic := inCap_get l _ (rTake_cap g.ok g.sn hF hD hd0 i) ((rP l fl D s')[i].k / 2) (l[(rP l fl D s')[i].k / 2]'(by omega)) ((augAll (leastR (rmR l fl) (rP l fl D s')) fl ((rP l fl D s').take i)).getD ((rP l fl D s')[i].k / 2) 0) (List.getElem?_eq_getElem (by omega)) (by rw [List.getD_eq_getElem?_getD, List.getElem?_eq_getElem (by omega)]; rfl)
  have hcc := hcap _ (List.getElem_mem (show (rP l fl D s')[i].k / 2 < l.length by omega))
  have hsn := augAll_snoc (leastR (rmR l fl) (rP l fl D s')) fl ((rP l fl D s').take i) (rP l fl D s')[i]
  rw [← take_snoc' hlt] at hsn
  unfold augR at hsn
  by_cases hp : (rP l fl D s')[i].k % 2 = 0
  ·rw [if_pos hp] at hsn
   refine AD ?_
   refine AD ?_
   refine AA ?_
   refine AB ?_
   refine AB ?_
   refine AX ?_
   refine BE ?_
   refine AE ?_
   refine AN rfl ?_
   refine AL ?_
   refine AD ?_
   refine AO ?_
   refine AD ?_
   refine AA ?_
   refine AB ?_
   refine AB ?_
   refine BQ ?_
   refine AF ?_
   refine DV ?_
   refine B8 ?_
   refine AE ?_
   refine AN rfl ?_
   refine AA ?_
   refine AB ?_
   refine AB ?_
   refine AB ?_
   refine BQ ?_
   refine AF ?_
   refine DS ?_
   refine BI ?_
   refine AF ?_
   refine AB ?_
   refine C0 ?_
   refine BI ?_
   refine CF ?_; rintro _ _ ⟨rfl, rfl⟩
   refine AE ?_
   refine A3 ?_
   refine AA ?_
   refine AB ?_
   refine BA ?_
   refine AC ?_
   refine AE ?_
   refine AV (i + 1) (by omega) (by omega) covZ ?_
   rw [hsn]
   exact selZ
  ·rw [if_neg hp] at hsn
   refine AD ?_
   refine AD ?_
   refine AA ?_
   refine AB ?_
   refine AB ?_
   refine AX ?_
   refine BE ?_
   refine AE ?_
   refine AN rfl ?_
   refine AL ?_
   refine AD ?_
   refine AO ?_
   refine AD ?_
   refine AA ?_
   refine AB ?_
   refine AB ?_
   refine BQ ?_
   refine AF ?_
   refine DV ?_
   refine BT ?_
   refine AE ?_
   refine AM rfl ?_
   refine AA ?_
   refine AB ?_
   refine AB ?_
   refine AB ?_
   refine BQ ?_
   refine AF ?_
   refine DS ?_
   refine BI ?_
   refine AF ?_
   refine AB ?_
   refine C7 ?_
   refine BI ?_
   refine CF ?_; rintro _ _ ⟨rfl, rfl⟩
   refine AE ?_
   refine A3 ?_
   refine AA ?_
   refine AB ?_
   refine BA ?_
   refine AC ?_
   refine AE ?_
   refine AV (i + 1) (by omega) (by omega) covZ ?_
   rw [hsn]
   exact selZ
 ·refine AD ?_
  refine AD ?_
  refine AA ?_
  refine AB ?_
  refine AB ?_
  refine AX ?_
  refine AY ?_
  refine AE ?_
  refine AM rfl ?_
  refine A8 rfl ?_
  refine AA ?_
  refine AB ?_
  refine AB ?_
  refine C0 ?_
  refine AC ?_
  refine AE ?_
  refine A3 ?_
  refine AV (rNext l fl D s') ⟨hN1, fun F hR => hrun F (.step hD hd0 hR)⟩ (by omega) (by rw [hN3]; exact covZ) ?_
  rw [List.take_of_length_le (by omega)]
  exact selZ

end Go.Proofs.YthdoegkjifgegaaGreat
/- The least cut of the network. No program in sight. No conditions. -/
namespace Go.Step
open Go.Flow (MaxOK CutOK maxErr okEnds_iff run_cut RunR capacitySpec sideOf bget mem_sideOf sideOf_chk sideOf_len fval)
variable {qs : List Int} {cs : List Ct} {bs : List Bk} {hs : List Hd} {d : Dm}
def CutN (qs : List Int) (cs : List Ct) (bs : List Bk) (hs : List Hd) (d : Dm) (side : List Int) (c e : Int) : Prop := CutOK (vsN qs d) (arcsG qs cs bs hs d) (vtx d d.s d.r) (vtx d d.d d.e) side c e
theorem cut_facts (h : VOk qs cs bs hs d) (hv : validT qs cs bs hs d = true) {F side : List Int} {m e c e' : Int} (hm : MaxN qs cs bs hs d F m e) (hc : CutN qs cs bs hs d side c e') :
    e' = 0 ∧ c = m ∧ sidesE qs cs bs hs d side = 0 ∧ vtx d d.s d.r ∈ side ∧ vtx d d.d d.e ∉ side ∧ side.length ≤ 1616 := by
  have hends := okEnds_iff.1 h.ends
  have hvs := h.vs
  have hchk := h.chk
  obtain ⟨N, hN⟩ : ∃ N : Nat, vsN qs d = N := ⟨(vsN qs d).toNat, by omega⟩
  obtain ⟨S, hS⟩ : ∃ N : Nat, vtx d d.s d.r = N := ⟨(vtx d d.s d.r).toNat, by omega⟩
  obtain ⟨T, hT⟩ : ∃ N : Nat, vtx d d.d d.e = N := ⟨(vtx d d.d d.e).toNat, by omega⟩
  have hok := h.ok
  unfold MaxN at hm
  unfold CutN at hc
  have he := max_err h
  rw [hN] at hok hchk hvs
  rw [hN, hS, hT] at hm hends he hc
  rcases hm with ⟨a1, _⟩ | ⟨_, a2, a3, a4⟩
  · exact absurd he a1
  rcases hc with ⟨b1, _⟩ | ⟨_, b2, F', B, b3, b4, b5, b6⟩
  · exact absurd he b1
  simp only [Int.toNat_natCast] at a3 b3 b4 b5
  obtain ⟨f1, f2, f3, f4⟩ := run_cut hok (by omega) (by omega) (by omega) b3 b4
  have := b3.uniq hok a3
  subst this
  have hl := sideOf_len B N
  refine ⟨b2, by rw [b6, ← f4, a4], ?_, ?_, ?_, by rw [b5]; omega⟩
  · unfold sidesE
    rw [if_pos hv, hN]
    unfold capacitySpec
    rw [if_neg (fun h => h hchk), if_neg (fun h => h (by rw [b5]; exact sideOf_chk B N))]
  · rw [hS, b5, mem_sideOf]
    exact ⟨S, rfl, by omega, f2⟩
  · rw [hT, b5, mem_sideOf]
    rintro ⟨v, e1, _, e3⟩
    have : v = T := by omega
    subst this
    rw [f3] at e3
    simp at e3
end Go.Step
/- Law Minimum. -/
namespace Go.Proofs.YthdoegkjifgegaaGreat
open Go.Eng Go.Step
set_option maxRecDepth 100000
set_option maxHeartbeats 4000000

theorem minIn_spec (bt : Nat) (t : Int) (x : Int × Int) : Ans Tryz.prog (.func (.func 28) #[] #[.pointer (some ⟨bt, 0, none⟩)]) [.agg (encS x).toArray] [sng bt (.cells #[int t] 3 (0, 0))] (fun r => r = .bool (inSp t x)) := by
 refine spec_in (cap := [.pointer (some ⟨bt, 0, none⟩)]) Tryz.func28 rfl rfl Tryz.ntmps28 rfl envZ (fun N β => ?_)
 unfold inSp
 have c1 : rdc (sng bt (.cells #[int t] 3 (0, 0))) bt 0 = some (int t) := by rw [rdc_sng]; rfl
 by_cases h1 : x.1 ≤ t
 ·by_cases h2 : t < x.2
  ·rw [decide_eq_true h1, decide_eq_true h2]
   refine AD ?_
   refine AA ?_
   refine B9 ?_; rintro _ _ ⟨b, rfl, rfl⟩
   refine AC ?_
   refine AE ?_
   refine AD ?_
   refine AA ?_
   refine AH ?_
   refine AF ?_
   refine AF ?_
   refine CU ?_
   refine AB ?_
   refine AF ?_
   refine AH ?_
   refine AF ?_
   refine BE ?_
   refine AK ?_
   refine AC ?_
   refine AE ?_
   exact AI (res1 rfl rfl) rsubZ selZ ⟨rfl, rfl⟩
  ·rw [decide_eq_true h1, decide_eq_false h2]
   refine AD ?_
   refine AA ?_
   refine B9 ?_; rintro _ _ ⟨b, rfl, rfl⟩
   refine AC ?_
   refine AE ?_
   refine AD ?_
   refine AA ?_
   refine AH ?_
   refine AF ?_
   refine AF ?_
   refine CU ?_
   refine AB ?_
   refine AF ?_
   refine AH ?_
   refine AF ?_
   refine AY ?_
   refine AK ?_
   refine AC ?_
   refine AE ?_
   exact AI (res1 rfl rfl) rsubZ selZ ⟨rfl, rfl⟩
 ·rw [decide_eq_false h1, Bool.false_and]
  refine AD ?_
  refine AA ?_
  refine B9 ?_; rintro _ _ ⟨b, rfl, rfl⟩
  refine AC ?_
  refine AE ?_
  refine AD ?_
  refine AA ?_
  refine AH ?_
  refine AF ?_
  refine AF ?_
  refine CV ?_
  refine AB ?_
  refine AG rfl rfl rfl ?_
  refine AG rfl rfl rfl ?_
  refine AG rfl rfl rfl ?_
  refine AG rfl rfl rfl ?_
  refine AJ ?_
  refine AC ?_
  refine AE ?_
  exact AI (res1 rfl rfl) rsubZ selZ ⟨rfl, rfl⟩
theorem minFn_spec (bc : Nat) (σ χ : PH) (p : Option Addr) (k : Nat) (L : List Sq) (hc : CutL σ χ (.slice p L.length k) L) (hl : L.length ≤ 1000000) (n : Nat) (z : Sq) (hz : L[n]? = some z) (t : Int) :
  Ans Tryz.prog (.func (.func 26) #[] #[.pointer (some ⟨bc, 0, none⟩)]) [int (n : Int), int t] [sng bc (.cells #[.slice p L.length k] 50 (0, 0)), σ, χ] (fun r => r = .bool (memI z.2 t)) := by
 have hr := rowN encQ_len hc.1
 have hSn := hc.2 _ (List.mem_of_getElem? hz)
 have hn := (List.getElem?_eq_some_iff.1 hz).1
 obtain ⟨b1, o1, eq1, hr1⟩ := hr n _ hz
 have g1 : rdc σ b1 (o1 + n) = some (.slice z.1.1 z.2.length z.1.2) := by have := hr1.get0; rwa [Nat.mul_one] at this
 clear hr1
 have c1 : rdc (sng bc (.cells #[.slice p L.length k] 50 (0, 0))) bc 0 = some (.slice p L.length k) := by rw [rdc_sng]; rfl
 subst eq1
 refine spec_in (cap := [.pointer (some ⟨bc, 0, none⟩)]) Tryz.func26 rfl rfl Tryz.ntmps26 rfl envZ (fun N β => ?_)
 refine AD ?_
 refine AA ?_
 refine EP ?_; rintro _ _ ⟨b, rfl, rfl⟩
 refine AC ?_
 refine AE ?_
 refine AD ?_
 refine AA ?_
 refine AF ?_
 refine AB ?_
 refine BQ ?_
 refine AF ?_
 refine BR ?_
 refine A4 (contS_spec χ [sng b (.cells #[int t] 3 (0, 0))] _ _ z.2 (inSp t) hSn.1 hSn.2 (fun i x _ => minIn_spec b t x)) rfl rfl rdZ rfl rfl ?_
 rintro _ rfl
 refine AC ?_
 refine AE ?_
 exact AI (res1 rfl rfl) rsubZ selZ ⟨rfl, rfl⟩
set_option maxHeartbeats 64000000 in
theorem minimum_law {ρ τ σ υ : PH} {pq pc pb ph : Option Addr} {kq kc kb kh : Nat} {qs : List Int} {cs : List Ct} {bs : List Bk} {hs : List Hd} (hT : TbAt ρ τ σ υ pq pc pb ph kq kc kb kh qs cs bs hs) (d : Dm) :
  Ans Tryz.prog (fv 5) [.agg #[.slice pq qs.length kq, .slice pc cs.length kc, .slice pb bs.length kb, .slice ph hs.length kh], .agg #[int d.s, int d.d, int d.v, int d.r, int d.e]] [ρ, τ, σ, υ] (fun r => r = .bool true) := by
 have hf := fine53_spec hT d
 have hG := Graph_spec hT d
 refine spec_in (cap := []) Tryz.func5 rfl rfl Tryz.ntmps5 rfl envZ (fun N β => ?_)
 refine AD ?_
 refine AA ?_
 refine BK (BP rfl) rfl rfl rfl ?_
 rintro _ _ ⟨b1, rfl, rfl⟩
 refine AS (ρ := sng b1 _) takeZ ?_
 have ct : RdN (sng b1 (.cells #[.slice pq qs.length kq, .slice pc cs.length kc, .slice pb bs.length kb, .slice ph hs.length kh] 29 (0, 0))) b1 0 [.slice pq qs.length kq, .slice pc cs.length kc, .slice pb bs.length kb, .slice ph hs.length kh] := rdN_sng (vs := [.slice pq qs.length kq, .slice pc cs.length kc, .slice pb bs.length kb, .slice ph hs.length kh])
 have ct0 : rdc (sng b1 (.cells #[.slice pq qs.length kq, .slice pc cs.length kc, .slice pb bs.length kb, .slice ph hs.length kh] 29 (0, 0))) b1 0 = some (.slice pq qs.length kq) := by rw [rdc_sng]; rfl
 have ct1 : rdc (sng b1 (.cells #[.slice pq qs.length kq, .slice pc cs.length kc, .slice pb bs.length kb, .slice ph hs.length kh] 29 (0, 0))) b1 1 = some (.slice pc cs.length kc) := by rw [rdc_sng]; rfl
 have ct2 : rdc (sng b1 (.cells #[.slice pq qs.length kq, .slice pc cs.length kc, .slice pb bs.length kb, .slice ph hs.length kh] 29 (0, 0))) b1 2 = some (.slice pb bs.length kb) := by rw [rdc_sng]; rfl
 have ct3 : rdc (sng b1 (.cells #[.slice pq qs.length kq, .slice pc cs.length kc, .slice pb bs.length kb, .slice ph hs.length kh] 29 (0, 0))) b1 3 = some (.slice ph hs.length kh) := by rw [rdc_sng]; rfl
 have ctp : RdP (sng b1 (.cells #[.slice pq qs.length kq, .slice pc cs.length kc, .slice pb bs.length kb, .slice ph hs.length kh] 29 (0, 0))) b1 0 [.slice pq qs.length kq, .slice pc cs.length kc] := rdP_sng (xs := [.slice pq qs.length kq, .slice pc cs.length kc, .slice pb bs.length kb, .slice ph hs.length kh]) rfl
 refine BK (BP rfl) rfl rfl rfl ?_
 rintro _ _ ⟨b2, rfl, rfl⟩
 refine AS (ρ := sng b2 _) takeZ ?_
 have cd : RdN (sng b2 (.cells #[int d.s, int d.d, int d.v, int d.r, int d.e] 31 (0, 0))) b2 0 [int d.s, int d.d, int d.v, int d.r, int d.e] := rdN_sng (vs := [int d.s, int d.d, int d.v, int d.r, int d.e])
 have cd0 : rdc (sng b2 (.cells #[int d.s, int d.d, int d.v, int d.r, int d.e] 31 (0, 0))) b2 0 = some (int d.s) := by rw [rdc_sng]; rfl
 have cd1 : rdc (sng b2 (.cells #[int d.s, int d.d, int d.v, int d.r, int d.e] 31 (0, 0))) b2 1 = some (int d.d) := by rw [rdc_sng]; rfl
 have cd2 : rdc (sng b2 (.cells #[int d.s, int d.d, int d.v, int d.r, int d.e] 31 (0, 0))) b2 2 = some (int d.v) := by rw [rdc_sng]; rfl
 have cd3 : rdc (sng b2 (.cells #[int d.s, int d.d, int d.v, int d.r, int d.e] 31 (0, 0))) b2 3 = some (int d.r) := by rw [rdc_sng]; rfl
 have cd4 : rdc (sng b2 (.cells #[int d.s, int d.d, int d.v, int d.r, int d.e] 31 (0, 0))) b2 4 = some (int d.e) := by rw [rdc_sng]; rfl
 refine AC ?_
 refine AE ?_
 refine AD ?_
 refine AD ?_
 refine AA ?_
 refine AT ?_
 refine AT ?_
 refine A4 hf rfl rfl rdZ rfl rfl ?_
 rintro _ ⟨fb, rfl, hfb⟩
 cases fb with
 | false =>
  refine A7 ?_
  refine AB ?_
  refine AG rfl rfl rfl ?_
  refine AG rfl rfl rfl ?_
  refine AK ?_
  refine AE ?_
  refine AN rfl ?_
  refine AD ?_
  refine AA ?_
  focus ((refine A4 awake53_spec rfl rfl rdZ rfl rfl ?_; rintro _ rfl))
  refine AC ?_
  refine AE ?_
  exact AI (res1 rfl rfl) rsubZ selZ ⟨rfl, rfl⟩
 | true =>
 have hv := hfb rfl
 have h := vok hv
 have hdm := h.dm
 unfold okDm at hdm
 have hnq := h.nq
 have hnc := h.nc
 have hvs := h.vs
 have hEl := ea_len qs cs bs hs d h
 have hAl : (arcsG qs cs bs hs d).length = (arcsE qs cs bs hs d).length := by unfold arcsG; rw [List.length_map]
 obtain ⟨N, hN⟩ : ∃ N : Nat, vsN qs d = N := ⟨(vsN qs d).toNat, by omega⟩
 rw [hN] at hG
 refine A7 ?_
 refine AB ?_
 focus ((refine A4 awake53_spec rfl rfl rdZ rfl rfl ?_; rintro _ rfl))
 refine A7 ?_
 refine AJ ?_
 refine AE ?_
 refine AM rfl ?_
 refine AL ?_
 refine AD ?_
 refine AA ?_
 refine AT ?_
 refine AT ?_
 refine BW hG rfl rfl rdZ rfl rfl ?_
 rintro _ σg hg
 rw [if_pos hv] at hg
 obtain ⟨ug, rfl, hOg⟩ := hg
 have hAt : ArcsAt σg ug (arcsG qs cs bs hs d) := hOg.at
 obtain ⟨pg, kg, rfl⟩ := hOg.form
 refine AS (ρ := σg) takeZ ?_
 refine AB ?_
 refine AQ ?_
 refine AQ ?_
 refine A2 ?_; rintro _ _ ⟨b, rfl, rfl⟩
 refine A0 ?_; rintro _ _ ⟨rfl, rfl⟩
 refine AC ?_
 refine AE ?_
 refine AD ?_
 refine AA ?_
 refine AH ?_
 refine AF ?_
 refine AH ?_
 refine AF ?_
 refine AH ?_
 refine AF ?_
 refine AH ?_
 refine AF ?_
 revert b; intro bg
 refine AS (ρ := sng bg _) takeZ ?_
 have gg0 : rdc (sng bg (.cells #[int (N : Int), .slice pg (arcsG qs cs bs hs d).length kg, int (vtx d d.s d.r), int (vtx d d.d d.e)] 36 (0, 0))) bg 0 = some (int (N : Int)) := by rw [rdc_sng]; rfl
 have gg1 : rdc (sng bg (.cells #[int (N : Int), .slice pg (arcsG qs cs bs hs d).length kg, int (vtx d d.s d.r), int (vtx d d.d d.e)] 36 (0, 0))) bg 1 = some (.slice pg (arcsG qs cs bs hs d).length kg) := by rw [rdc_sng]; rfl
 have gg2 : rdc (sng bg (.cells #[int (N : Int), .slice pg (arcsG qs cs bs hs d).length kg, int (vtx d d.s d.r), int (vtx d d.d d.e)] 36 (0, 0))) bg 2 = some (int (vtx d d.s d.r)) := by rw [rdc_sng]; rfl
 have gg3 : rdc (sng bg (.cells #[int (N : Int), .slice pg (arcsG qs cs bs hs d).length kg, int (vtx d d.s d.r), int (vtx d d.d d.e)] 36 (0, 0))) bg 3 = some (int (vtx d d.d d.e)) := by rw [rdc_sng]; rfl
 have hK := flowCut_spec σg (.slice pg (arcsG qs cs bs hs d).length kg) N (vtx d d.s d.r) (vtx d d.d d.e) (arcsG qs cs bs hs d) hAt (by omega)
 have hM := refMax_spec σg (.slice pg (arcsG qs cs bs hs d).length kg) N (vtx d d.s d.r) (vtx d d.d d.e) (arcsG qs cs bs hs d) hAt (by omega)
 refine BW hK rfl rfl rdZ rfl rfl ?_
 rintro _ σk ⟨fs, side, c0, e0, rfl, hI, hk⟩
 obtain ⟨pk, kk, rfl, _⟩ := hI.val Eng.encI_len
 refine AS (ρ := σk) takeZ ?_
 refine AB ?_
 refine AQ ?_
 refine AQ ?_
 refine AQ ?_
 refine AC ?_
 refine AC ?_
 refine AC ?_
 refine AE ?_
 refine AD ?_
 refine AA ?_
 refine AH ?_
 refine AF ?_
 refine AH ?_
 refine AF ?_
 refine AH ?_
 refine AF ?_
 refine AH ?_
 refine AF ?_
 refine BW hM rfl rfl rdZ rfl rfl ?_
 rintro _ σf ⟨fs, F, m, e, rfl, hF, hm⟩
 obtain ⟨he, _⟩ := max_cut h (show MaxN qs cs bs hs d F m e by unfold MaxN; rw [hN]; exact hm)
 obtain ⟨k1, k2, k3, k4, k5, k6⟩ := cut_facts h hv (show MaxN qs cs bs hs d F m e by unfold MaxN; rw [hN]; exact hm) (show CutN qs cs bs hs d side c0 e0 by unfold CutN; rw [hN]; exact hk)
 subst he k1 k2
 have hD := Sides_spec hT d σk _ side hI (by omega)
 rw [k3, if_pos rfl] at hD
 refine AB ?_
 refine AQ ?_
 refine AQ ?_
 refine AQ ?_
 refine AC ?_
 refine AC ?_
 refine AC ?_
 refine AE ?_
 refine AD ?_
 refine AA ?_
 refine AT ?_
 refine AT ?_
 refine AB ?_
 refine BF hD rfl rfl Takes.nil rdZ rfl rfl ?_
 rintro _ _ ⟨L, w, σ3, χ3, rfl, rfl, hL, hCL⟩
 obtain ⟨p, k, rfl, _⟩ := hCL.1.val encQ_len
 have hLl : L.length = qs.length := by
  have := congrArg List.length hL
  rwa [List.length_map, sidesC_len] at this
 have hLz : ∀ n t : Int, 0 ≤ n → n < qs.length → d.r ≤ t → t ≤ d.e → ∃ (j : Nat) (z : Sq), n = j ∧ L[j]? = some z ∧ memI z.2 t = decide (vtx d n t ∈ side) := fun n t h1 h2 h3 h4 => by
  obtain ⟨j, rfl⟩ := Int.eq_ofNat_of_zero_le h1
  have hx := List.getElem?_eq_getElem (show j < L.length by omega)
  refine ⟨j, L[j], rfl, hx, ?_⟩
  have e1 : (cuL L)[j]? = some L[j].2 := by rw [List.getElem?_map, hx]; rfl
  rw [hL] at e1
  unfold sidesC at e1
  rw [List.getElem?_map, List.getElem?_range (by omega)] at e1
  rw [← Option.some.inj e1, ← sideI_has h side h3 h4, hasI_mem (sideI_chk h side _)]
 obtain ⟨j1, z1, ej1, hz1, hm1⟩ := hLz d.s d.r (by omega) (by omega) (by omega) (by omega)
 obtain ⟨j2, z2, ej2, hz2, hm2⟩ := hLz d.d d.e (by omega) (by omega) (by omega) (by omega)
 rw [decide_eq_true k4] at hm1
 rw [decide_eq_false k5] at hm2
 refine AS (ρ := σ3) takeZ ?_
 refine AS (ρ := χ3) takeZ ?_
 refine AB ?_
 refine AQ ?_
 refine AQ ?_
 refine BN ?_; rintro _ _ ⟨b, rfl, rfl⟩
 refine BC ?_; rintro _ _ ⟨rfl, rfl⟩
 refine AC ?_
 refine AE ?_
 refine AD ?_
 refine AD ?_
 refine AA ?_
 refine AB ?_
 refine BJ ?_
 refine AB ?_
 refine AB ?_
 refine BJ ?_
 refine AJ ?_
 refine AB ?_
 refine AB ?_
 refine BJ ?_
 refine AJ ?_
 refine AB ?_
 refine AB ?_
 refine BJ ?_
 refine AJ ?_
 refine AB ?_
 refine AF ?_
 refine AX ?_
 refine AH ?_
 refine AH ?_
 refine AF ?_
 refine AX ?_
 refine BJ ?_
 refine AJ ?_
 refine AE ?_
 refine AM rfl ?_
 refine AL ?_
 refine AD ?_
 refine AA ?_
 refine BR ?_
 refine AC ?_
 refine AE ?_
 refine AD ?_
 refine AA ?_
 refine AB ?_
 refine AB ?_
 refine B8 ?_
 refine AB ?_
 refine AB ?_
 refine AH ?_
 refine AF ?_
 refine AH ?_
 refine AF ?_
 revert b; intro bc
 have f1 := minFn_spec bc σ3 χ3 p k L hCL (by omega) j1 z1 hz1 d.r
 have f2 := minFn_spec bc σ3 χ3 p k L hCL (by omega) j2 z2 hz2 d.e
 rw [hm1, ← ej1] at f1
 rw [hm2, ← ej2] at f2
 refine A4 f1 rfl rfl rdZ rfl rfl ?_
 rintro _ rfl
 refine AK ?_
 refine AB ?_
 refine AB ?_
 refine AH ?_
 refine AF ?_
 refine AH ?_
 refine AF ?_
 refine A4 f2 rfl rfl rdZ rfl rfl ?_
 rintro _ rfl
 refine A7 ?_
 refine AK ?_
 refine AB ?_
 refine A4 awake53_spec rfl rfl rdZ rfl rfl ?_
 rintro _ rfl
 refine AK ?_
 refine AC ?_
 refine AE ?_
 exact AI (res1 rfl rfl) rsubZ selZ ⟨rfl, rfl⟩
end Go.Proofs.YthdoegkjifgegaaGreat
/- The rows: each law, for every input. -/
namespace Go.Proofs.YthdoegkjifgegaaGreat
open Go.Eng Go.Step
set_option maxRecDepth 100000
set_option maxHeartbeats 4000000
open Go.ChangeShapes Go.WideShapes Go.ChangeAt Go.RowKit

set_option maxRecDepth 100000 in
theorem expandedMinimum_lifted (os : Os) (started : os.Started) (H : Type) (enc : TypeId × Value → H) :
  ReturnsInHanded {} Tryz.checked os 5 .any (Rows.expandedMinimumSpec.pre6 enc Tryz.prog Tryz.f5 Rows.expandedMinimumRow.domain false) (Rows.expandedMinimumSpec.post enc Tryz.prog Tryz.f5 false true false false) := by
 refine returnsInHanded_of_change (C := Tryz.checked) Tryz.own started (by kernel_rfl) Tryz.func5
  (ChangeSpec.witness6 (enc := enc) (C := Tryz.checked) false ⟨#[], #[.agg #[.slice none 0 0, .slice none 0 0, .slice none 0 0, .slice none 0 0], .agg #[.int .i64 0, .int .i64 0, .int .i64 0, .int .i64 0, .int .i64 0]], []⟩ 8 (by kernel_rfl) (by kernel_rfl) (by kernel_rfl) (by kernel_rfl)) ?_
 intro W base args ds gs before hval0 hW hcnd _
 have hval : ∀ (j : Nat) t v, Tryz.f5.params[j]? = some t → args[j]? = some v → Value.okWide Tryz.prog W .any base t v := hval0
 have hW' := hW
 obtain ⟨p, q, hA0, hV, rfl, hfz, hnd⟩ := hW
 have hA : DataW.TrodAll enc Tryz.prog W 0 (fun _ => true) true Tryz.f5.params.toList args.toList ds p := hA0
 rw [Tryz.params5] at hA hval
 obtain ⟨v0, vs0, d0, ds0, p0, q0, hargs, rfl, rfl, h0, r0⟩ := trodAll_cons hA
 obtain ⟨v1, vs1, d1, ds1, p1, q1, rfl, rfl, rfl, h1, r1⟩ := trodAll_cons r0
 obtain ⟨rfl, rfl, rfl⟩ := trodAll_nil r1
 obtain rfl : args = #[v0, v1] := by cases args; simp_all
 obtain ⟨rfl, rfl⟩ := trodVars_none hV
 have lt0 : ∀ x ∈ p0, x.block < W.heap.size := by obtain ⟨m, hm⟩ := h0; exact DataW.trod_lt m _ _ _ hm
 have lt1 : ∀ x ∈ p1, x.block < W.heap.size := by obtain ⟨m, hm⟩ := h1; exact DataW.trod_lt m _ _ _ hm
 have hlaw : Ans Tryz.prog (fv 5) [v0, v1] [heapPH W] (fun v => v = .bool true) := by
  obtain ⟨pq, pc, pb, ph, kq, kc, kb, kh, qs, cs, bs, hs, rfl, hT⟩ := tables_of (hval 0 _ v0 rfl rfl) (RdT.of h0)
  obtain ⟨d, rfl, id0, id1, id2, id3, id4⟩ := demand_of (hval 1 _ v1 rfl rfl) (RdT.of h1)
  exact (minimum_law hT d).rsub (fun _ h => by simpa using h)
 refine (law_calls Tryz.func5 rfl rfl hlaw).mono fun e W' ⟨he, bel⟩ => ?_
 subst he
 exact ⟨_, rfl, _, _, _, [], _, [], hW', trodAll_mk1 (shut_bool Tryz.underlying4 _), (trodAll_cons_mk (Below.trod Tryz.laidOut (by kernel_rfl) (of_decide_eq_true (by kernel_rfl)) h0 bel lt0) (trodAll_cons_mk (Below.trod Tryz.laidOut (by kernel_rfl) (of_decide_eq_true (by kernel_rfl)) h1 bel lt1) trodAll_mk0)), rfl, bel.frame _, fun h => by cases h⟩
theorem expandedMinimum_holds : Rows.ExpandedMinimumSaid :=
 OpenClaim.holds_of_wide 5 Tryz.f5 rfl rfl rfl rfl rfl rfl rfl ⟨rfl, rfl, rfl, rfl, rfl⟩ rfl rfl rfl rfl rfl (by kernel_rfl) Tryz.func5 (by kernel_rfl)
  (of_decide_eq_true (by kernel_rfl)) (by unfold Func.isWrapper; first | (rw [if_pos (by decide +kernel)]; kernel_rfl) | (rw [if_neg (by decide +kernel)]; exact ⟨rfl, rfl⟩))
  (fun os started H enc _ => expandedMinimum_lifted os started H enc)
end Go.Proofs.YthdoegkjifgegaaGreat
