/- Texts of this proof, one after the other; no conditions. -/
import Derived.Test.YtknfhiolenobaaaGreatWB13
import Derived.Test.YtknfhiolenobaaaGreatWB3
import Derived.Test.YtknfhiolenobaaaGreatWB9
import Derived.Test.YtknfhiolenobaaaGreatWB6
import Derived.Test.YtknfhiolenobaaaGreatWB4
import Derived.Test.YtknfhiolenobaaaGreatWB2
import Derived.Test.YtknfhiolenobaaaGreatWB7
import Derived.Test.YtknfhiolenobaaaGreatWB12
set_option linter.all false
/- Answers checked. -/
namespace Go.Proofs.YtknfhiolenobaaaGreat
open Go.Eng Go.Step
set_option maxRecDepth 100000
set_option maxHeartbeats 4000000

set_option maxHeartbeats 32000000 in
theorem certChk_spec {ρ τ σ υ : PH} (ω : PH) {pq pc pb ph : Option Addr} {kq kc kb kh : Nat} {qs : List Int} {cs : List Ct} {bs : List Bk} {hs : List Hd} (hT : TbAt ρ τ σ υ pq pc pb ph kq kc kb kh qs cs bs hs) (γ κ : PH) (d : Dm) (acc : Bool) (vol : Int) (q : Option Addr) (kl : Nat) (l : List Sh) (hv : ShAt ω (.slice q l.length kl) l) (hll : l.length ≤ 1000000) (p : Option Addr) (kk : Nat) (c : Cu) (hc : CutRow γ κ p c) (hcl : c.length ≤ 9223372036854775807) :
  Ans Tryz.prog (fv 12) [.agg #[.slice pq qs.length kq, .slice pc cs.length kc, .slice pb bs.length kb, .slice ph hs.length kh], .agg #[int d.s, int d.d, int d.v, int d.r, int d.e], .agg #[.bool acc, int vol, .slice q l.length kl, .slice p c.length kk]] [ρ, τ, σ, υ, ω, γ, κ] (fun r => r = int (checkR qs cs bs hs d acc vol l c)) := by
 refine spec_in (cap := []) Tryz.func12 rfl rfl Tryz.ntmps12 rfl envZ (fun N β => ?_)
 refine AC ?_
 refine AA ?_
 refine BO (BS rfl) rfl rfl rfl ?_
 rintro _ _ ⟨b1, rfl, rfl⟩
 refine AS (ρ := sng b1 _) takeZ ?_
 have ct : RdN (sng b1 (.cells #[.slice pq qs.length kq, .slice pc cs.length kc, .slice pb bs.length kb, .slice ph hs.length kh] 29 (0, 0))) b1 0 [.slice pq qs.length kq, .slice pc cs.length kc, .slice pb bs.length kb, .slice ph hs.length kh] := rdN_sng (vs := [.slice pq qs.length kq, .slice pc cs.length kc, .slice pb bs.length kb, .slice ph hs.length kh])
 have ct0 : rdc (sng b1 (.cells #[.slice pq qs.length kq, .slice pc cs.length kc, .slice pb bs.length kb, .slice ph hs.length kh] 29 (0, 0))) b1 0 = some (.slice pq qs.length kq) := by rw [rdc_sng]; rfl
 have ct1 : rdc (sng b1 (.cells #[.slice pq qs.length kq, .slice pc cs.length kc, .slice pb bs.length kb, .slice ph hs.length kh] 29 (0, 0))) b1 1 = some (.slice pc cs.length kc) := by rw [rdc_sng]; rfl
 have ct2 : rdc (sng b1 (.cells #[.slice pq qs.length kq, .slice pc cs.length kc, .slice pb bs.length kb, .slice ph hs.length kh] 29 (0, 0))) b1 2 = some (.slice pb bs.length kb) := by rw [rdc_sng]; rfl
 have ct3 : rdc (sng b1 (.cells #[.slice pq qs.length kq, .slice pc cs.length kc, .slice pb bs.length kb, .slice ph hs.length kh] 29 (0, 0))) b1 3 = some (.slice ph hs.length kh) := by rw [rdc_sng]; rfl
 have ctp : RdP (sng b1 (.cells #[.slice pq qs.length kq, .slice pc cs.length kc, .slice pb bs.length kb, .slice ph hs.length kh] 29 (0, 0))) b1 0 [.slice pq qs.length kq, .slice pc cs.length kc] := rdP_sng (xs := [.slice pq qs.length kq, .slice pc cs.length kc, .slice pb bs.length kb, .slice ph hs.length kh]) rfl
 refine BO (BS rfl) rfl rfl rfl ?_
 rintro _ _ ⟨b2, rfl, rfl⟩
 refine AS (ρ := sng b2 _) takeZ ?_
 have cd : RdN (sng b2 (.cells #[int d.s, int d.d, int d.v, int d.r, int d.e] 31 (0, 0))) b2 0 [int d.s, int d.d, int d.v, int d.r, int d.e] := rdN_sng (vs := [int d.s, int d.d, int d.v, int d.r, int d.e])
 have cd0 : rdc (sng b2 (.cells #[int d.s, int d.d, int d.v, int d.r, int d.e] 31 (0, 0))) b2 0 = some (int d.s) := by rw [rdc_sng]; rfl
 have cd1 : rdc (sng b2 (.cells #[int d.s, int d.d, int d.v, int d.r, int d.e] 31 (0, 0))) b2 1 = some (int d.d) := by rw [rdc_sng]; rfl
 have cd2 : rdc (sng b2 (.cells #[int d.s, int d.d, int d.v, int d.r, int d.e] 31 (0, 0))) b2 2 = some (int d.v) := by rw [rdc_sng]; rfl
 have cd3 : rdc (sng b2 (.cells #[int d.s, int d.d, int d.v, int d.r, int d.e] 31 (0, 0))) b2 3 = some (int d.r) := by rw [rdc_sng]; rfl
 have cd4 : rdc (sng b2 (.cells #[int d.s, int d.d, int d.v, int d.r, int d.e] 31 (0, 0))) b2 4 = some (int d.e) := by rw [rdc_sng]; rfl
 refine BO (BS rfl) rfl rfl rfl ?_
 rintro _ _ ⟨b3, rfl, rfl⟩
 refine AS (ρ := sng b3 _) takeZ ?_
 have ca : RdN (sng b3 (.cells #[.bool acc, int vol, .slice q l.length kl, .slice p c.length kk] 36 (0, 0))) b3 0 [.bool acc, int vol, .slice q l.length kl, .slice p c.length kk] := rdN_sng (vs := [.bool acc, int vol, .slice q l.length kl, .slice p c.length kk])
 have ca0 : rdc (sng b3 (.cells #[.bool acc, int vol, .slice q l.length kl, .slice p c.length kk] 36 (0, 0))) b3 0 = some (.bool acc) := by rw [rdc_sng]; rfl
 have ca1 : rdc (sng b3 (.cells #[.bool acc, int vol, .slice q l.length kl, .slice p c.length kk] 36 (0, 0))) b3 1 = some (int vol) := by rw [rdc_sng]; rfl
 have ca2 : rdc (sng b3 (.cells #[.bool acc, int vol, .slice q l.length kl, .slice p c.length kk] 36 (0, 0))) b3 2 = some (.slice q l.length kl) := by rw [rdc_sng]; rfl
 have ca3 : rdc (sng b3 (.cells #[.bool acc, int vol, .slice q l.length kl, .slice p c.length kk] 36 (0, 0))) b3 3 = some (.slice p c.length kk) := by rw [rdc_sng]; rfl
 cases acc with
 | true =>
  have hR : checkR qs cs bs hs d true vol l c = if (flowR qs cs bs hs d l).2 ≠ 0 then (flowR qs cs bs hs d l).2 else if (flowR qs cs bs hs d l).1 ≠ d.v ∨ vol ≠ d.v ∨ 0 < c.length then 26 else 0 := rfl
  rw [hR]
  refine AD ?_
  refine AE ?_
  refine AC ?_
  refine AC ?_
  refine AA ?_
  refine AH ?_
  refine AF ?_
  refine AE ?_
  refine AO rfl ?_
  refine AC ?_
  refine AA ?_
  refine AQ ?_
  refine AQ ?_
  refine AH ?_
  refine AF ?_
  refine AY (certFlow_spec ω hT d _ l hv hll) rfl rfl rdZ rfl rfl ?_
  rintro _ rfl
  generalize (flowR qs cs bs hs d l).1 = z1
  generalize (flowR qs cs bs hs d l).2 = z2
  by_cases h0 : z2 = 0
  rotate_left
  ·rw [if_pos h0]
   refine AB ?_
   refine AM ?_
   refine AM ?_
   refine AD ?_
   refine AD ?_
   refine AE ?_
   refine AC ?_
   refine AC ?_
   refine AA ?_
   refine AB ?_
   refine B6 ?_
   refine AE ?_
   refine AO rfl ?_
   refine AC ?_
   refine AA ?_
   refine AB ?_
   refine AD ?_
   refine AE ?_
   exact AI (res1 rfl rfl) rsubZ selZ ⟨rfl, rfl⟩
  rw [if_neg (fun h => h h0)]
  by_cases h1 : z1 = d.v
  rotate_left
  ·rw [if_pos (.inl h1)]
   refine AB ?_
   refine AM ?_
   refine AM ?_
   refine AD ?_
   refine AD ?_
   refine AE ?_
   refine AC ?_
   refine AC ?_
   refine AA ?_
   refine AB ?_
   refine A7 ?_
   refine AE ?_
   refine AN rfl ?_
   refine AL ?_
   refine AC ?_
   refine AC ?_
   refine AA ?_
   refine AB ?_
   refine AH ?_
   refine AF ?_
   refine B6 ?_
   refine AB ?_
   refine AG rfl rfl rfl ?_
   refine AG rfl rfl rfl ?_
   refine AG rfl rfl rfl ?_
   refine AG rfl rfl rfl ?_
   refine AG rfl rfl rfl ?_
   refine AK ?_
   refine AB ?_
   refine AG rfl rfl rfl ?_
   refine AG rfl rfl rfl ?_
   refine AG rfl rfl rfl ?_
   refine AG rfl rfl rfl ?_
   refine AK ?_
   refine AE ?_
   refine AO rfl ?_
   refine AC ?_
   refine AA ?_
   refine AD ?_
   refine AE ?_
   exact AI (res1 rfl rfl) rsubZ selZ ⟨rfl, rfl⟩
  by_cases h2 : vol = d.v
  rotate_left
  ·rw [if_pos (.inr (.inl h2))]
   refine AB ?_
   refine AM ?_
   refine AM ?_
   refine AD ?_
   refine AD ?_
   refine AE ?_
   refine AC ?_
   refine AC ?_
   refine AA ?_
   refine AB ?_
   refine A7 ?_
   refine AE ?_
   refine AN rfl ?_
   refine AL ?_
   refine AC ?_
   refine AC ?_
   refine AA ?_
   refine AB ?_
   refine AH ?_
   refine AF ?_
   refine A7 ?_
   refine AB ?_
   refine AH ?_
   refine AF ?_
   refine AH ?_
   refine AF ?_
   refine B6 ?_
   refine AJ ?_
   refine AB ?_
   refine AG rfl rfl rfl ?_
   refine AG rfl rfl rfl ?_
   refine AG rfl rfl rfl ?_
   refine AG rfl rfl rfl ?_
   refine AK ?_
   refine AE ?_
   refine AO rfl ?_
   refine AC ?_
   refine AA ?_
   refine AD ?_
   refine AE ?_
   exact AI (res1 rfl rfl) rsubZ selZ ⟨rfl, rfl⟩
  by_cases h3 : 0 < c.length
  ·rw [if_pos (.inr (.inr h3))]
   refine AB ?_
   refine AM ?_
   refine AM ?_
   refine AD ?_
   refine AD ?_
   refine AE ?_
   refine AC ?_
   refine AC ?_
   refine AA ?_
   refine AB ?_
   refine A7 ?_
   refine AE ?_
   refine AN rfl ?_
   refine AL ?_
   refine AC ?_
   refine AC ?_
   refine AA ?_
   refine AB ?_
   refine AH ?_
   refine AF ?_
   refine A7 ?_
   refine AB ?_
   refine AH ?_
   refine AF ?_
   refine AH ?_
   refine AF ?_
   refine A7 ?_
   refine AJ ?_
   refine AB ?_
   refine AH ?_
   refine AF ?_
   refine A3 ?_
   refine CK ?_
   refine AJ ?_
   refine AE ?_
   refine AO rfl ?_
   refine AC ?_
   refine AA ?_
   refine AD ?_
   refine AE ?_
   exact AI (res1 rfl rfl) rsubZ selZ ⟨rfl, rfl⟩
  rw [if_neg (by omega)]
  refine AB ?_
  refine AM ?_
  refine AM ?_
  refine AD ?_
  refine AD ?_
  refine AE ?_
  refine AC ?_
  refine AC ?_
  refine AA ?_
  refine AB ?_
  refine A7 ?_
  refine AE ?_
  refine AN rfl ?_
  refine AL ?_
  refine AC ?_
  refine AC ?_
  refine AA ?_
  refine AB ?_
  refine AH ?_
  refine AF ?_
  refine A7 ?_
  refine AB ?_
  refine AH ?_
  refine AF ?_
  refine AH ?_
  refine AF ?_
  refine A7 ?_
  refine AJ ?_
  refine AB ?_
  refine AH ?_
  refine AF ?_
  refine A3 ?_
  refine BP ?_
  refine AJ ?_
  refine AE ?_
  refine AN rfl ?_
  refine AL ?_
  refine AC ?_
  refine AA ?_
  refine AD ?_
  refine AE ?_
  exact AI (res1 rfl rfl) rsubZ selZ ⟨rfl, rfl⟩
 | false =>
  have hR : checkR qs cs bs hs d false vol l c = if (capR qs cs bs hs d c).2 ≠ 0 then (capR qs cs bs hs d c).2 else if (capR qs cs bs hs d c).1 ≠ vol ∨ d.v ≤ (capR qs cs bs hs d c).1 ∨ 0 < l.length then 26 else 0 := rfl
  rw [hR]
  refine AD ?_
  refine AE ?_
  refine AC ?_
  refine AC ?_
  refine AA ?_
  refine AH ?_
  refine AF ?_
  refine AE ?_
  refine AN rfl ?_
  refine AL ?_
  refine AC ?_
  refine AA ?_
  refine AQ ?_
  refine AQ ?_
  refine AH ?_
  refine AF ?_
  refine AY (certCap_spec hT γ κ d p kk c hc hcl) rfl rfl rdZ rfl rfl ?_
  rintro _ rfl
  generalize (capR qs cs bs hs d c).1 = z1
  generalize (capR qs cs bs hs d c).2 = z2
  by_cases h0 : z2 = 0
  rotate_left
  ·rw [if_pos h0]
   refine AB ?_
   refine AM ?_
   refine AM ?_
   refine AD ?_
   refine AD ?_
   refine AE ?_
   refine AC ?_
   refine AC ?_
   refine AA ?_
   refine AB ?_
   refine B6 ?_
   refine AE ?_
   refine AO rfl ?_
   refine AC ?_
   refine AA ?_
   refine AB ?_
   refine AD ?_
   refine AE ?_
   exact AI (res1 rfl rfl) rsubZ selZ ⟨rfl, rfl⟩
  rw [if_neg (fun h => h h0)]
  by_cases h1 : z1 = vol
  rotate_left
  ·rw [if_pos (.inl h1)]
   refine AB ?_
   refine AM ?_
   refine AM ?_
   refine AD ?_
   refine AD ?_
   refine AE ?_
   refine AC ?_
   refine AC ?_
   refine AA ?_
   refine AB ?_
   refine A7 ?_
   refine AE ?_
   refine AN rfl ?_
   refine AL ?_
   refine AC ?_
   refine AC ?_
   refine AA ?_
   refine AB ?_
   refine AH ?_
   refine AF ?_
   refine B6 ?_
   refine AB ?_
   refine AG rfl rfl rfl ?_
   refine AG rfl rfl rfl ?_
   refine AG rfl rfl rfl ?_
   refine AG rfl rfl rfl ?_
   refine AK ?_
   refine AB ?_
   refine AG rfl rfl rfl ?_
   refine AG rfl rfl rfl ?_
   refine AG rfl rfl rfl ?_
   refine AG rfl rfl rfl ?_
   refine AK ?_
   refine AE ?_
   refine AO rfl ?_
   refine AC ?_
   refine AA ?_
   refine AD ?_
   refine AE ?_
   exact AI (res1 rfl rfl) rsubZ selZ ⟨rfl, rfl⟩
  by_cases h2 : d.v ≤ z1
  ·rw [if_pos (.inr (.inl h2))]
   refine AB ?_
   refine AM ?_
   refine AM ?_
   refine AD ?_
   refine AD ?_
   refine AE ?_
   refine AC ?_
   refine AC ?_
   refine AA ?_
   refine AB ?_
   refine A7 ?_
   refine AE ?_
   refine AN rfl ?_
   refine AL ?_
   refine AC ?_
   refine AC ?_
   refine AA ?_
   refine AB ?_
   refine AH ?_
   refine AF ?_
   refine A7 ?_
   refine AB ?_
   refine AB ?_
   refine AH ?_
   refine AF ?_
   refine CG ?_
   refine AJ ?_
   refine AB ?_
   refine AG rfl rfl rfl ?_
   refine AG rfl rfl rfl ?_
   refine AG rfl rfl rfl ?_
   refine AG rfl rfl rfl ?_
   refine AK ?_
   refine AE ?_
   refine AO rfl ?_
   refine AC ?_
   refine AA ?_
   refine AD ?_
   refine AE ?_
   exact AI (res1 rfl rfl) rsubZ selZ ⟨rfl, rfl⟩
  by_cases h3 : 0 < l.length
  ·rw [if_pos (.inr (.inr h3))]
   refine AB ?_
   refine AM ?_
   refine AM ?_
   refine AD ?_
   refine AD ?_
   refine AE ?_
   refine AC ?_
   refine AC ?_
   refine AA ?_
   refine AB ?_
   refine A7 ?_
   refine AE ?_
   refine AN rfl ?_
   refine AL ?_
   refine AC ?_
   refine AC ?_
   refine AA ?_
   refine AB ?_
   refine AH ?_
   refine AF ?_
   refine A7 ?_
   refine AB ?_
   refine AB ?_
   refine AH ?_
   refine AF ?_
   refine BM ?_
   refine AJ ?_
   refine AB ?_
   refine AH ?_
   refine AF ?_
   refine A3 ?_
   refine CK ?_
   refine AJ ?_
   refine AE ?_
   refine AO rfl ?_
   refine AC ?_
   refine AA ?_
   refine AD ?_
   refine AE ?_
   exact AI (res1 rfl rfl) rsubZ selZ ⟨rfl, rfl⟩
  rw [if_neg (by omega)]
  refine AB ?_
  refine AM ?_
  refine AM ?_
  refine AD ?_
  refine AD ?_
  refine AE ?_
  refine AC ?_
  refine AC ?_
  refine AA ?_
  refine AB ?_
  refine A7 ?_
  refine AE ?_
  refine AN rfl ?_
  refine AL ?_
  refine AC ?_
  refine AC ?_
  refine AA ?_
  refine AB ?_
  refine AH ?_
  refine AF ?_
  refine A7 ?_
  refine AB ?_
  refine AB ?_
  refine AH ?_
  refine AF ?_
  refine BM ?_
  refine AJ ?_
  refine AB ?_
  refine AH ?_
  refine AF ?_
  refine A3 ?_
  refine BP ?_
  refine AJ ?_
  refine AE ?_
  refine AN rfl ?_
  refine AL ?_
  refine AC ?_
  refine AA ?_
  refine AD ?_
  refine AE ?_
  exact AI (res1 rfl rfl) rsubZ selZ ⟨rfl, rfl⟩
end Go.Proofs.YtknfhiolenobaaaGreat
/- Sizes that the statements examine. -/
namespace Go.Proofs.YtknfhiolenobaaaGreat
open Go.Eng Go.Step
set_option maxRecDepth 100000
set_option maxHeartbeats 4000000

theorem greatPlanp_spec (pq pc : Option Addr) (kq kc nq nc : Nat) : Ans Tryz.prog (fv 47) [.agg #[.slice pq nq kq, .slice pc nc kc]] [] (fun r => r = .bool (decide (6 < nq ∨ 10 < nc))) := by
 refine spec_in (cap := []) Tryz.func47 rfl rfl Tryz.ntmps47 rfl envZ (fun N β => ?_)
 refine AC ?_
 refine AA ?_
 refine BO (BS rfl) rfl rfl rfl ?_
 rintro _ _ ⟨b1, rfl, rfl⟩
 refine AS (ρ := sng b1 _) takeZ ?_
 have c : RdN (sng b1 (.cells #[.slice pq nq kq, .slice pc nc kc] 25 (0, 0))) b1 0 [.slice pq nq kq, .slice pc nc kc] := rdN_sng (vs := [.slice pq nq kq, .slice pc nc kc])
 have c0 : rdc (sng b1 (.cells #[.slice pq nq kq, .slice pc nc kc] 25 (0, 0))) b1 0 = some (.slice pq nq kq) := by rw [rdc_sng]; rfl
 have c1 : rdc (sng b1 (.cells #[.slice pq nq kq, .slice pc nc kc] 25 (0, 0))) b1 1 = some (.slice pc nc kc) := by rw [rdc_sng]; rfl
 by_cases h1 : 6 < nq
 ·rw [decide_eq_true (.inl h1)]
  refine AD ?_
  refine AE ?_
  refine AC ?_
  refine AA ?_
  refine AH ?_
  refine AF ?_
  refine A3 ?_
  refine CK ?_
  refine AB ?_
  refine AG rfl rfl rfl ?_
  refine AG rfl rfl rfl ?_
  refine AG rfl rfl rfl ?_
  refine AG rfl rfl rfl ?_
  refine AK ?_
  refine AD ?_
  refine AE ?_
  exact AI (res1 rfl rfl) rsubZ selZ ⟨rfl, rfl⟩
 by_cases h2 : 10 < nc
 ·rw [decide_eq_true (.inr h2)]
  refine AD ?_
  refine AE ?_
  refine AC ?_
  refine AA ?_
  refine AH ?_
  refine AF ?_
  refine A3 ?_
  refine BP ?_
  refine AB ?_
  refine AH ?_
  refine AF ?_
  refine A3 ?_
  refine CK ?_
  refine AJ ?_
  refine AD ?_
  refine AE ?_
  exact AI (res1 rfl rfl) rsubZ selZ ⟨rfl, rfl⟩
 rw [decide_eq_false (by omega)]
 refine AD ?_
 refine AE ?_
 refine AC ?_
 refine AA ?_
 refine AH ?_
 refine AF ?_
 refine A3 ?_
 refine BP ?_
 refine AB ?_
 refine AH ?_
 refine AF ?_
 refine A3 ?_
 refine BP ?_
 refine AJ ?_
 refine AD ?_
 refine AE ?_
 exact AI (res1 rfl rfl) rsubZ selZ ⟨rfl, rfl⟩
set_option maxHeartbeats 16000000 in
theorem great29p_spec (pq pc pb ph : Option Addr) (kq kc kb kh nq nc nb nh : Nat) : Ans Tryz.prog (fv 19) [.agg #[.slice pq nq kq, .slice pc nc kc, .slice pb nb kb, .slice ph nh kh]] [] (fun r => r = .bool (decide (6 < nq ∨ 10 < nc ∨ 30 < nb ∨ 30 < nh))) := by
 refine spec_in (cap := []) Tryz.func19 rfl rfl Tryz.ntmps19 rfl envZ (fun N β => ?_)
 refine AC ?_
 refine AA ?_
 refine BO (BS rfl) rfl rfl rfl ?_
 rintro _ _ ⟨b1, rfl, rfl⟩
 refine AS (ρ := sng b1 _) takeZ ?_
 have c : RdN (sng b1 (.cells #[.slice pq nq kq, .slice pc nc kc, .slice pb nb kb, .slice ph nh kh] 29 (0, 0))) b1 0 [.slice pq nq kq, .slice pc nc kc, .slice pb nb kb, .slice ph nh kh] := rdN_sng (vs := [.slice pq nq kq, .slice pc nc kc, .slice pb nb kb, .slice ph nh kh])
 have c0 : rdc (sng b1 (.cells #[.slice pq nq kq, .slice pc nc kc, .slice pb nb kb, .slice ph nh kh] 29 (0, 0))) b1 0 = some (.slice pq nq kq) := by rw [rdc_sng]; rfl
 have c1 : rdc (sng b1 (.cells #[.slice pq nq kq, .slice pc nc kc, .slice pb nb kb, .slice ph nh kh] 29 (0, 0))) b1 1 = some (.slice pc nc kc) := by rw [rdc_sng]; rfl
 have c2 : rdc (sng b1 (.cells #[.slice pq nq kq, .slice pc nc kc, .slice pb nb kb, .slice ph nh kh] 29 (0, 0))) b1 2 = some (.slice pb nb kb) := by rw [rdc_sng]; rfl
 have c3 : rdc (sng b1 (.cells #[.slice pq nq kq, .slice pc nc kc, .slice pb nb kb, .slice ph nh kh] 29 (0, 0))) b1 3 = some (.slice ph nh kh) := by rw [rdc_sng]; rfl
 have ctp : RdP (sng b1 (.cells #[.slice pq nq kq, .slice pc nc kc, .slice pb nb kb, .slice ph nh kh] 29 (0, 0))) b1 0 [.slice pq nq kq, .slice pc nc kc] := rdP_sng (xs := [.slice pq nq kq, .slice pc nc kc, .slice pb nb kb, .slice ph nh kh]) rfl
 refine AD ?_
 refine AE ?_
 refine AC ?_
 refine AA ?_
 refine AH ?_
 refine AQ ?_
 refine AY (greatPlanp_spec pq pc kq kc nq nc) rfl rfl rdZ rfl rfl ?_
 rintro _ rfl
 by_cases h1 : 6 < nq ∨ 10 < nc
 ·rw [decide_eq_true h1, decide_eq_true (by omega)]
  refine AB ?_
  refine AG rfl rfl rfl ?_
  refine AG rfl rfl rfl ?_
  refine AG rfl rfl rfl ?_
  refine AG rfl rfl rfl ?_
  refine AK ?_
  refine AB ?_
  refine AG rfl rfl rfl ?_
  refine AG rfl rfl rfl ?_
  refine AG rfl rfl rfl ?_
  refine AG rfl rfl rfl ?_
  refine AK ?_
  refine AD ?_
  refine AE ?_
  exact AI (res1 rfl rfl) rsubZ selZ ⟨rfl, rfl⟩
 rw [decide_eq_false h1]
 by_cases h2 : 30 < nb
 ·rw [decide_eq_true (by omega)]
  refine AB ?_
  refine AH ?_
  refine AF ?_
  refine A3 ?_
  refine CK ?_
  refine AJ ?_
  refine AB ?_
  refine AG rfl rfl rfl ?_
  refine AG rfl rfl rfl ?_
  refine AG rfl rfl rfl ?_
  refine AG rfl rfl rfl ?_
  refine AK ?_
  refine AD ?_
  refine AE ?_
  exact AI (res1 rfl rfl) rsubZ selZ ⟨rfl, rfl⟩
 by_cases h3 : 30 < nh
 ·rw [decide_eq_true (by omega)]
  refine AB ?_
  refine AH ?_
  refine AF ?_
  refine A3 ?_
  refine BP ?_
  refine AJ ?_
  refine AB ?_
  refine AH ?_
  refine AF ?_
  refine A3 ?_
  refine CK ?_
  refine AJ ?_
  refine AD ?_
  refine AE ?_
  exact AI (res1 rfl rfl) rsubZ selZ ⟨rfl, rfl⟩
 rw [decide_eq_false (by omega)]
 refine AB ?_
 refine AH ?_
 refine AF ?_
 refine A3 ?_
 refine BP ?_
 refine AJ ?_
 refine AB ?_
 refine AH ?_
 refine AF ?_
 refine A3 ?_
 refine BP ?_
 refine AJ ?_
 refine AD ?_
 refine AE ?_
 exact AI (res1 rfl rfl) rsubZ selZ ⟨rfl, rfl⟩
set_option maxHeartbeats 16000000 in
theorem great55_spec (pq pc pb ph q : Option Addr) (kq kc kb kh kl nq nc nb nh n : Nat) (d : Dm) : Ans Tryz.prog (fv 6) [.agg #[.slice pq nq kq, .slice pc nc kc, .slice pb nb kb, .slice ph nh kh], .agg #[int d.s, int d.d, int d.v, int d.r, int d.e], .slice q n kl] [] (fun r => ∃ b, r = .bool b ∧ (b = false → (nq ≤ 6 ∧ nc ≤ 10 ∧ nb ≤ 30 ∧ nh ≤ 30) ∧ n ≤ 60)) := by
 refine spec_in (cap := []) Tryz.func6 rfl rfl Tryz.ntmps6 rfl envZ (fun N β => ?_)
 refine AC ?_
 refine AA ?_
 refine BO (BS rfl) rfl rfl rfl ?_
 rintro _ _ ⟨b1, rfl, rfl⟩
 refine AS (ρ := sng b1 _) takeZ ?_
 have c : RdN (sng b1 (.cells #[.slice pq nq kq, .slice pc nc kc, .slice pb nb kb, .slice ph nh kh] 29 (0, 0))) b1 0 [.slice pq nq kq, .slice pc nc kc, .slice pb nb kb, .slice ph nh kh] := rdN_sng (vs := [.slice pq nq kq, .slice pc nc kc, .slice pb nb kb, .slice ph nh kh])
 refine BO (BS rfl) rfl rfl rfl ?_
 rintro _ _ ⟨b2, rfl, rfl⟩
 refine AS (ρ := sng b2 _) takeZ ?_
 have cd : RdN (sng b2 (.cells #[int d.s, int d.d, int d.v, int d.r, int d.e] 31 (0, 0))) b2 0 [int d.s, int d.d, int d.v, int d.r, int d.e] := rdN_sng (vs := [int d.s, int d.d, int d.v, int d.r, int d.e])
 have cd0 : rdc (sng b2 (.cells #[int d.s, int d.d, int d.v, int d.r, int d.e] 31 (0, 0))) b2 0 = some (int d.s) := by rw [rdc_sng]; rfl
 have cd1 : rdc (sng b2 (.cells #[int d.s, int d.d, int d.v, int d.r, int d.e] 31 (0, 0))) b2 1 = some (int d.d) := by rw [rdc_sng]; rfl
 have cd2 : rdc (sng b2 (.cells #[int d.s, int d.d, int d.v, int d.r, int d.e] 31 (0, 0))) b2 2 = some (int d.v) := by rw [rdc_sng]; rfl
 have cd3 : rdc (sng b2 (.cells #[int d.s, int d.d, int d.v, int d.r, int d.e] 31 (0, 0))) b2 3 = some (int d.r) := by rw [rdc_sng]; rfl
 have cd4 : rdc (sng b2 (.cells #[int d.s, int d.d, int d.v, int d.r, int d.e] 31 (0, 0))) b2 4 = some (int d.e) := by rw [rdc_sng]; rfl
 refine AD ?_
 refine AE ?_
 refine AC ?_
 refine AA ?_
 refine AQ ?_
 refine AY (great29p_spec pq pc pb ph kq kc kb kh nq nc nb nh) rfl rfl rdZ rfl rfl ?_
 rintro _ rfl
 by_cases h1 : 6 < nq ∨ 10 < nc ∨ 30 < nb ∨ 30 < nh
 ·rw [decide_eq_true h1]
  refine AB ?_
  refine AG rfl rfl rfl ?_
  refine AG rfl rfl rfl ?_
  refine AG rfl rfl rfl ?_
  refine AG rfl rfl rfl ?_
  refine AG rfl rfl rfl ?_
  refine AG rfl rfl rfl ?_
  refine AG rfl rfl rfl ?_
  refine AG rfl rfl rfl ?_
  refine AG rfl rfl rfl ?_
  refine AG rfl rfl rfl ?_
  refine AG rfl rfl rfl ?_
  refine AG rfl rfl rfl ?_
  refine AG rfl rfl rfl ?_
  refine AG rfl rfl rfl ?_
  refine AK ?_
  refine AB ?_
  refine AG rfl rfl rfl ?_
  refine AG rfl rfl rfl ?_
  refine AG rfl rfl rfl ?_
  refine AK ?_
  refine AD ?_
  refine AE ?_
  exact AI (res1 rfl rfl) rsubZ selZ ⟨rfl, true, rfl, fun h => by simp at h⟩
 rw [decide_eq_false h1]
 obtain ⟨w1, hw1⟩ : ∃ w1, w1 = IntKind.i64.wrap (d.r + 30) := ⟨_, rfl⟩
 obtain ⟨w2, hw2⟩ : ∃ w2, w2 = IntKind.i64.wrap (d.r + 100) := ⟨_, rfl⟩
 by_cases h2 : w1 < d.e
 ·by_cases h3 : d.e ≤ w2
  ·refine AB ?_
   refine AH ?_
   refine AF ?_
   refine AH ?_
   refine AF ?_
   focus ((refine CS (EG rfl rfl) rfl rfl rfl ?_; first | rw [← hw1] | rw [← hw2]))
   refine CK ?_
   refine AB ?_
   refine AH ?_
   refine AF ?_
   refine AH ?_
   refine AF ?_
   focus ((refine CS (EG rfl rfl) rfl rfl rfl ?_; first | rw [← hw1] | rw [← hw2]))
   refine C0 ?_
   refine AK ?_
   refine AJ ?_
   refine AB ?_
   refine AG rfl rfl rfl ?_
   refine AG rfl rfl rfl ?_
   refine AG rfl rfl rfl ?_
   refine AK ?_
   refine AD ?_
   refine AE ?_
   exact AI (res1 rfl rfl) rsubZ selZ ⟨rfl, true, rfl, fun h => by simp at h⟩
  ·by_cases h4 : 60 < n
   ·refine AB ?_
    refine AH ?_
    refine AF ?_
    refine AH ?_
    refine AF ?_
    focus ((refine CS (EG rfl rfl) rfl rfl rfl ?_; first | rw [← hw1] | rw [← hw2]))
    refine CK ?_
    refine AB ?_
    refine AH ?_
    refine AF ?_
    refine AH ?_
    refine AF ?_
    focus ((refine CS (EG rfl rfl) rfl rfl rfl ?_; first | rw [← hw1] | rw [← hw2]))
    refine CJ ?_
    refine AK ?_
    refine AJ ?_
    refine AB ?_
    refine AB ?_
    refine A3 ?_
    refine CK ?_
    refine AJ ?_
    refine AD ?_
    refine AE ?_
    exact AI (res1 rfl rfl) rsubZ selZ ⟨rfl, true, rfl, fun h => by simp at h⟩
   ·refine AB ?_
    refine AH ?_
    refine AF ?_
    refine AH ?_
    refine AF ?_
    focus ((refine CS (EG rfl rfl) rfl rfl rfl ?_; first | rw [← hw1] | rw [← hw2]))
    refine CK ?_
    refine AB ?_
    refine AH ?_
    refine AF ?_
    refine AH ?_
    refine AF ?_
    focus ((refine CS (EG rfl rfl) rfl rfl rfl ?_; first | rw [← hw1] | rw [← hw2]))
    refine CJ ?_
    refine AK ?_
    refine AJ ?_
    refine AB ?_
    refine AB ?_
    refine A3 ?_
    refine BP ?_
    refine AJ ?_
    refine AD ?_
    refine AE ?_
    exact AI (res1 rfl rfl) rsubZ selZ ⟨rfl, false, rfl, fun _ => by omega⟩
 ·by_cases h4 : 60 < n
  ·refine AB ?_
   refine AH ?_
   refine AF ?_
   refine AH ?_
   refine AF ?_
   focus ((refine CS (EG rfl rfl) rfl rfl rfl ?_; first | rw [← hw1] | rw [← hw2]))
   refine BP ?_
   refine AB ?_
   refine AG rfl rfl rfl ?_
   refine AG rfl rfl rfl ?_
   refine AG rfl rfl rfl ?_
   refine AG rfl rfl rfl ?_
   refine AG rfl rfl rfl ?_
   refine AG rfl rfl rfl ?_
   refine AJ ?_
   refine AJ ?_
   refine AB ?_
   refine AB ?_
   refine A3 ?_
   refine CK ?_
   refine AJ ?_
   refine AD ?_
   refine AE ?_
   exact AI (res1 rfl rfl) rsubZ selZ ⟨rfl, true, rfl, fun h => by simp at h⟩
  ·refine AB ?_
   refine AH ?_
   refine AF ?_
   refine AH ?_
   refine AF ?_
   focus ((refine CS (EG rfl rfl) rfl rfl rfl ?_; first | rw [← hw1] | rw [← hw2]))
   refine BP ?_
   refine AB ?_
   refine AG rfl rfl rfl ?_
   refine AG rfl rfl rfl ?_
   refine AG rfl rfl rfl ?_
   refine AG rfl rfl rfl ?_
   refine AG rfl rfl rfl ?_
   refine AG rfl rfl rfl ?_
   refine AJ ?_
   refine AJ ?_
   refine AB ?_
   refine AB ?_
   refine A3 ?_
   refine BP ?_
   refine AJ ?_
   refine AD ?_
   refine AE ?_
   exact AI (res1 rfl rfl) rsubZ selZ ⟨rfl, false, rfl, fun _ => by omega⟩
end Go.Proofs.YtknfhiolenobaaaGreat
/- The example; the laws on flows and answers. -/
namespace Go.Proofs.YtknfhiolenobaaaGreat
open Go.Eng Go.Step
set_option maxRecDepth 100000
set_option maxHeartbeats 4000000

def exQ : List Int := [9, 9]
def exC : List Ct := [⟨0, 1, 0, 10, 4, 2, 0⟩]
def exD : Dm := ⟨0, 1, 13, 0, 5⟩
def exL : List Sh := [⟨0, 0, 4⟩, ⟨0, 1, 4⟩, ⟨0, 2, 4⟩]
def exK : Cu := [[(0, 6)], []]
theorem ex_flow : flowR exQ exC [] [] exD exL = (12, 0) := by decide +kernel
theorem ex_cap : capR exQ exC [] [] exD exK = (12, 0) := by decide +kernel
theorem ex_chk : checkR exQ exC [] [] exD false 12 [] exK = 0 := by decide +kernel
theorem example_spec : Eng.Spec Tryz.prog (fv 20) [] [] [] (fun r H' => ∃ bq bc, r = .tuple #[.agg #[.slice (some ⟨bq, 0, none⟩) 2 2, .slice (some ⟨bc, 0, none⟩) 1 1, .slice none 0 0, .slice none 0 0], .agg #[int 0, int 1, int 13, int 0, int 5]] ∧ H' = [sng bq (.cells #[int 9, int 9] 3 (0, 0)), sng bc (.cells #[int 0, int 1, int 0, int 10, int 4, int 2, int 0] 85 (0, 0))]) := by
 refine spec_in (cap := []) Tryz.func20 rfl rfl Tryz.ntmps20 rfl envZ (fun N β => ?_)
 refine AC ?_
 refine AA ?_
 refine AV ?_; rintro _ _ ⟨b, rfl, rfl⟩
 refine AV ?_; rintro _ _ ⟨b, rfl, rfl⟩
 refine AE ?_
 refine AC ?_
 refine AA ?_
 refine A4 ?_; rintro _ _ ⟨b, rfl, rfl⟩
 refine BL ?_
 focus ((refine' BO _ rfl rfl rfl _; rotate_left; (focus (apply DQ; exact rfl; exact rfl; exact rfl; exact rfl; exact rfl; exact (by (repeat (first | exact (fun v hv => absurd hv List.not_mem_nil) | (refine List.forall_mem_cons.2 ⟨?_, ?_⟩; (focus (first | exact rfl | assumption))))); first | done | fail); exact Flat.agg7 Flat.nil; exact rfl)); rintro _ _ ⟨b, rfl, rfl⟩))
 refine BL ?_
 refine AV ?_; rintro _ _ ⟨b, rfl, rfl⟩
 refine AU ?_; rintro _ _ ⟨rfl, rfl⟩
 refine AE ?_
 refine AC ?_
 refine AA ?_
 refine AQ ?_
 revert b; intro bp
 revert b; intro bc
 revert b; intro bq
 revert b; intro bd
 revert b; intro bt
 refine CS (EK (out := [.slice (some ⟨bq, 0, none⟩) 2 2, .slice (some ⟨bc, 0, none⟩) 1 1, .slice none 0 0, .slice none 0 0]) rfl rfl rfl rfl rfl) rfl rfl rfl ?_
 refine BL ?_
 refine AU ?_; rintro _ _ ⟨rfl, rfl⟩
 refine AU ?_; rintro _ _ ⟨rfl, rfl⟩
 refine AE ?_
 exact AI (resS2 (b1 := bt) (b2 := bd) (T := 29) (U := 31) (v1 := [.slice (some ⟨bq, 0, none⟩) 2 2, .slice (some ⟨bc, 0, none⟩) 1 1, .slice none 0 0, .slice none 0 0]) (v2 := [int 0, int 1, int 13, int 0, int 5]) rfl rfl rfl rfl rfl rfl rfl (cells_own memZ) (cells_own memZ)) rsubZ selZ ⟨bq, bc, rfl, rfl⟩
set_option maxHeartbeats 16000000 in
theorem awake55_spec : Ans Tryz.prog (fv 8) [] [] (fun r => r = .bool true) := by
 refine spec_in (cap := []) Tryz.func8 rfl rfl Tryz.ntmps8 rfl envZ (fun N β => ?_)
 refine CF ?_
 refine AC ?_
 refine AA ?_
 refine AD ?_
 refine AE ?_
 refine AC ?_
 refine AA ?_
 refine BI example_spec rfl rfl Takes.nil rdZ rfl rfl ?_
 rintro _ _ ⟨bq, bc, rfl, rfl⟩
 refine AB ?_
 refine AM ?_
 refine AM ?_
 refine AV ?_; rintro _ _ ⟨b, rfl, rfl⟩
 refine AV ?_; rintro _ _ ⟨b, rfl, rfl⟩
 refine AU ?_; rintro _ _ ⟨rfl, rfl⟩
 refine AU ?_; rintro _ _ ⟨rfl, rfl⟩
 refine AE ?_
 refine AC ?_
 refine AA ?_
 refine AQ ?_
 refine AQ ?_
 refine BL ?_
 refine BL ?_
 refine BL ?_
 refine A4 ?_; rintro _ _ ⟨b, rfl, rfl⟩
 revert b; intro bs
 revert b; intro bd
 revert b; intro bt
 have hT : TbAt (sng bq (.cells #[int 9, int 9] 3 (0, 0))) (sng bc (.cells #[int 0, int 1, int 0, int 10, int 4, int 2, int 0] 85 (0, 0))) emp emp (some ⟨bq, 0, none⟩) (some ⟨bc, 0, none⟩) none none 2 1 0 0 exQ exC [] [] :=
  ⟨slE_sng (l := exQ) Eng.encI_len, slE_sng (l := exC) encC_len, by decide, by decide, by decide, ⟨rfl, .inl ⟨rfl, none, 0, rfl⟩⟩, by decide, ⟨rfl, .inl ⟨rfl, none, 0, rfl⟩⟩, by decide⟩
 have hv : ShAt (sng bs (.cells #[int 0, int 0, int 4, int 0, int 1, int 4, int 0, int 2, int 4] 68 (0, 0))) (.slice (some ⟨bs, 0, none⟩) 3 3) exL := slE_sng (l := exL) encX_len
 have h1 := certFlow_spec _ hT exD _ exL hv (by decide)
 rw [ex_flow] at h1
 refine AY h1 rfl rfl rdZ rfl rfl ?_
 rintro _ rfl
 refine AB ?_
 refine AM ?_
 refine AM ?_
 refine AD ?_
 refine AD ?_
 refine AE ?_
 refine AC ?_
 refine AA ?_
 refine AQ ?_
 refine AQ ?_
 refine BL ?_
 refine A4 ?_; rintro _ _ ⟨b, rfl, rfl⟩
 refine A4 ?_; rintro _ _ ⟨b, rfl, rfl⟩
 revert b; intro bk
 revert b; intro bx
 have hc : CutRow (sng bk (.cells #[.slice (some ⟨bx, 0, none⟩) 1 1, .slice none 0 0] 64 (0, 0))) (sng bx (.cells #[int 0, int 6] 70 (0, 0))) (some ⟨bk, 0, none⟩) exK := fun i l hl => by
  match i, hl with
  | 0, hl =>
   obtain rfl : [(0, 6)] = l := by simpa [exK] using hl
   exact ⟨bk, 0, some ⟨bx, 0, none⟩, 1, rfl, by rw [rdc_sng]; rfl, slE_sng (l := [((0 : Int), (6 : Int))]) encS_len, by decide⟩
  | 1, hl =>
   obtain rfl : [] = l := by simpa [exK] using hl
   exact ⟨bk, 0, none, 0, rfl, by rw [rdc_sng]; rfl, ⟨rfl, .inl ⟨rfl, none, 0, rfl⟩⟩, by decide⟩
  | i + 2, hl => simp [exK] at hl
 have h2 := certCap_spec hT _ _ exD _ 2 exK hc (by decide)
 rw [ex_cap] at h2
 refine AY h2 rfl rfl rdZ rfl rfl ?_
 rintro _ rfl
 refine AB ?_
 refine AM ?_
 refine AM ?_
 refine AD ?_
 refine AD ?_
 refine AE ?_
 refine AC ?_
 refine AA ?_
 refine AQ ?_
 refine AQ ?_
 refine BL ?_
 refine A4 ?_; rintro _ _ ⟨b, rfl, rfl⟩
 refine A4 ?_; rintro _ _ ⟨b, rfl, rfl⟩
 refine BL ?_
 revert b; intro bk2
 revert b; intro bx2
 have hc2 : CutRow (sng bk2 (.cells #[.slice (some ⟨bx2, 0, none⟩) 1 1, .slice none 0 0] 64 (0, 0))) (sng bx2 (.cells #[int 0, int 6] 70 (0, 0))) (some ⟨bk2, 0, none⟩) exK := fun i l hl => by
  match i, hl with
  | 0, hl =>
   obtain rfl : [(0, 6)] = l := by simpa [exK] using hl
   exact ⟨bk2, 0, some ⟨bx2, 0, none⟩, 1, rfl, by rw [rdc_sng]; rfl, slE_sng (l := [((0 : Int), (6 : Int))]) encS_len, by decide⟩
  | 1, hl =>
   obtain rfl : [] = l := by simpa [exK] using hl
   exact ⟨bk2, 0, none, 0, rfl, by rw [rdc_sng]; rfl, ⟨rfl, .inl ⟨rfl, none, 0, rfl⟩⟩, by decide⟩
  | i + 2, hl => simp [exK] at hl
 have hv0 : ShAt emp (.slice none 0 0) [] := ⟨rfl, .inl ⟨rfl, none, 0, rfl⟩⟩
 have h3 := certChk_spec emp hT _ _ exD false 12 none 0 [] hv0 (by decide) _ 2 exK hc2 (by decide)
 rw [ex_chk] at h3
 refine AY h3 rfl rfl rdZ rfl rfl ?_
 rintro _ rfl
 refine AD ?_
 refine AE ?_
 refine AC ?_
 refine AA ?_
 refine AB ?_
 refine CW ?_
 refine AB ?_
 refine AB ?_
 refine CW ?_
 refine AK ?_
 refine AB ?_
 refine AB ?_
 refine CW ?_
 refine AK ?_
 refine AB ?_
 refine AB ?_
 refine CW ?_
 refine AK ?_
 refine AB ?_
 refine AB ?_
 refine CW ?_
 refine AK ?_
 refine AD ?_
 refine AE ?_
 exact AI (res1 rfl rfl) rsubZ selZ ⟨rfl, rfl⟩
end Go.Proofs.YtknfhiolenobaaaGreat
/- Maximum flows as shipments; cuts of sets. No program in sight. No conditions. -/
namespace Go.Step
open Go.Flow (Flw fval)
variable {qs : List Int} {cs : List Ct} {bs : List Bk} {hs : List Hd} {d : Dm}
theorem max_nonneg (h : VOk qs cs bs hs d) {F : List Int} {m e : Int} (hm : MaxN qs cs bs hs d F m e) : 0 ≤ m := by
  obtain ⟨_, _, _, _, _, _, _, _, _, P, _, _, hP⟩ := max_cut h hm
  have hdm := h.dm
  unfold okDm at hdm
  have hn : 0 < qs.length := by have := h.nq; omega
  have h1 := waitB_nonneg h P hn d.r
  have h2 := capB_wait_le h P hn (t := d.r) (Int.le_refl _) (by omega)
  omega
theorem max_small (h : VOk qs cs bs hs d) {F : List Int} {m e : Int} (hm : MaxN qs cs bs hs d F m e) : m ≤ 6400000 := by
  obtain ⟨_, N, S, T, hN, hS, hT, hf, hv, _⟩ := max_cut h hm
  have hdm := h.dm
  unfold okDm at hdm
  rw [hv]
  refine Int.le_trans (flow_le_cap h hN hS hT hf (P := fun n _ => decide (n ≠ d.d)) ?_ (by simp)) (capB_dest h)
  exact decide_eq_true (by omega)
theorem ships_part (h : VOk qs cs bs hs d) (hv : validT qs cs bs hs d = true) {F : List Int} {m : Int} (hm : MaxN qs cs bs hs d F m 0) {ps : PathL} (hp : PathN qs cs bs hs d F ps 0) (hle : d.v ≤ m) : flowR qs cs bs hs d (shipsF (arcsE qs cs bs hs d) (partF qs cs bs hs d ps)) = (d.v, 0) := by
  have hdm := h.dm
  unfold okDm at hdm
  obtain ⟨N, S, T, hN, hS, hT, hf, hval, _⟩ := part_ok h hv hm hp hle
  rw [ships_flow h hv hN hS hT hf (by omega), hval]
theorem capR_set (h : VOk qs cs bs hs d) (hv : validT qs cs bs hs d = true) (side : List Int) :
    capR qs cs bs hs d (sidesC d qs.length side) = if vtx d d.s d.r ∈ side ∧ ¬ vtx d d.d d.e ∈ side then (Go.Flow.capOf (fun j => decide ((j : Int) ∈ side)) (arcsG qs cs bs hs d), 0) else (0, 24) := by
  have hdm := h.dm
  unfold okDm at hdm
  have hall : ∀ n t : Int, 0 ≤ n → n < (qs.length : Int) → d.r ≤ t → t ≤ d.e → hasI (cuAt (sidesC d qs.length side) n) t = decide (vtx d n t ∈ side) := fun n t h1 h2 h3 h4 => by
    obtain ⟨j, rfl⟩ := Int.eq_ofNat_of_zero_le h1
    rw [sidesC_at d side (by omega), sideI_has h side h3 h4]
  have hs := hall _ _ hdm.1.1 hdm.1.2 (Int.le_refl d.r) (by omega)
  have hd := hall _ _ hdm.2.1.1 hdm.2.1.2 (show d.r ≤ d.e by omega) (Int.le_refl d.e)
  have hbad : (sidesC d qs.length side).any (badL2 d) = false := any_badL2.2 (fun l hm => by
    unfold sidesC at hm
    obtain ⟨n, _, rfl⟩ := List.mem_map.1 hm
    exact ⟨sideI_chk h side _, sideI_in (by omega) side _⟩)
  unfold capR
  rw [if_neg (by rw [hv]; simp), if_neg (by unfold sidesC; simp), if_neg (by rw [hbad]; simp), hs, hd]
  by_cases hc : vtx d d.s d.r ∈ side ∧ ¬ vtx d d.d d.e ∈ side
  · rw [if_pos hc, if_neg (by rw [decide_eq_false_iff_not, decide_eq_true_eq]; rintro (h1 | h1); exact h1 hc.1; exact hc.2 h1)]
    congr 1
    rw [capSum_B, capB_eq h]
    refine capB_congr h (fun n t h0 hn h1 h2 => ?_)
    rw [hall _ _ h0 hn h1 h2]
    have hp := vtx_lt (d := d) (n := n) (t := t) (N := qs.length) h0 hn h1 h2
    rw [Int.toNat_of_nonneg hp.1]
  · rw [if_neg hc, if_pos]
    rw [decide_eq_false_iff_not, decide_eq_true_eq]
    by_cases h1 : vtx d d.s d.r ∈ side
    · exact .inr (Decidable.not_not.1 (fun h2 => hc ⟨h1, h2⟩))
    · exact .inl h1
/-- the least cut as a certificate -/
theorem cut_max (h : VOk qs cs bs hs d) (hv : validT qs cs bs hs d = true) {F side : List Int} {m k : Int} (hm : MaxN qs cs bs hs d F m 0) (hk : CutN qs cs bs hs d side k 0) : capR qs cs bs hs d (sidesC d qs.length side) = (m, 0) := by
  obtain ⟨_, k2, k3, k4, k5, k6⟩ := cut_facts h hv hm hk
  rw [capR_set h hv side, if_pos ⟨k4, k5⟩]
  congr 1
  have hE : sidesE qs cs bs hs d side = 0 := k3
  have hc : (Go.Flow.capacitySpec (vsN qs d) (arcsG qs cs bs hs d) side).1 = Go.Flow.capOf (fun j => decide ((j : Int) ∈ side)) (arcsG qs cs bs hs d) := by
    unfold sidesE at hE
    rw [if_pos hv] at hE
    unfold Go.Flow.capacitySpec at hE ⊢
    split at hE
    · rename_i h1; exact absurd hE h1
    rename_i h1
    rw [if_neg h1]
    split at hE
    · rename_i h2; exact absurd hE h2
    rename_i h2
    rw [if_neg h2]
  rw [← k2]
  have hend := Go.Flow.okEnds_iff.1 h.ends
  have hok := h.ok
  have hvs := h.vs
  have he := max_err h
  obtain ⟨N, hN⟩ : ∃ N : Nat, vsN qs d = N := ⟨(vsN qs d).toNat, by omega⟩
  unfold CutN at hk
  rcases hk with ⟨a1, _⟩ | ⟨_, _, F', B, _, _, b5, b6⟩
  · exact absurd he a1
  rw [b6, b5]
  rw [hN] at hok ⊢
  refine Go.Flow.capOf_congr (n := N) (fun v hv2 => ?_) _ hok
  rw [Int.toNat_natCast]
  by_cases hB : Go.Flow.bget B v = true
  · rw [hB, decide_eq_true (Go.Flow.mem_sideOf.2 ⟨v, rfl, hv2, hB⟩)]
  · rw [decide_eq_false (fun hm2 => by
      obtain ⟨u, e1, _, e3⟩ := Go.Flow.mem_sideOf.1 hm2
      have : u = v := by omega
      subst this
      exact hB e3)]
    cases hb : Go.Flow.bget B v with
    | false => rfl
    | true => exact absurd hb hB
end Go.Step
/- Networks as certificates. -/
namespace Go.Proofs.YtknfhiolenobaaaGreat
open Go.Eng Go.Step
set_option maxRecDepth 100000
set_option maxHeartbeats 4000000

theorem pair_ext {x : Int × Int} {a b : Int} (h : x = (a, b)) : x.1 = a ∧ x.2 = b := by rw [h]; exact ⟨rfl, rfl⟩
end Go.Proofs.YtknfhiolenobaaaGreat
/- Answers as certificates. -/
namespace Go.Proofs.YtknfhiolenobaaaGreat
open Go.Eng Go.Step
set_option maxRecDepth 100000
set_option maxHeartbeats 4000000

theorem chk_planned {qs : List Int} {cs : List Ct} {bs : List Bk} {hs : List Hd} {d : Dm} (h : VOk qs cs bs hs d) (hv : validT qs cs bs hs d = true) {acc : Bool} {vol : Int} {ss : List Sh} {c : Cu} (hp : PlanOK qs cs bs hs d acc vol ss c) {F : List Int} {m : Int} (hm : MaxN qs cs bs hs d F m 0) :
  checkR qs cs bs hs d acc vol ss c = 0 ∧ acc = decide (d.v ≤ m) ∧ vol = (if acc then d.v else m) ∧ ss.length ≤ 1000000 ∧ c.length ≤ 1000000 := by
 obtain ⟨G, k, hk, hp⟩ := hp
 obtain ⟨rfl, rfl, _⟩ := hm.uniq hk
 have hEl := ea_len qs cs bs hs d h
 rcases hp with ⟨a1, rfl, rfl, rfl, side, kk, a5, rfl⟩ | ⟨a1, rfl, rfl, rfl, ps, a5, rfl⟩
 ·have hc := cut_max h hv hk a5
  refine ⟨?_, by rw [decide_eq_false (by omega)], rfl, by simp, by rw [sidesC_len]; have := h.nq; omega⟩
  unfold checkR
  rw [if_neg (by simp), (pair_ext hc).1, (pair_ext hc).2, if_neg (by simp), if_neg (by simp; omega)]
 ·have hf := ships_part h hv hk a5 a1
  have hl := shipsF_len (arcsE qs cs bs hs d) (partF qs cs bs hs d ps)
  refine ⟨?_, by rw [decide_eq_true (by omega)], rfl, by omega, by simp⟩
  unfold checkR
  rw [if_pos rfl, (pair_ext hf).1, (pair_ext hf).2, if_neg (by simp), if_neg (by simp)]
theorem chk_other {qs : List Int} {cs : List Ct} {bs : List Bk} {hs : List Hd} {d : Dm} {acc : Bool} {vol : Int} {ss : List Sh} {c : Cu} (h : if acc then vol ≠ d.v else vol = d.v) : checkR qs cs bs hs d acc vol ss c ≠ 0 := by
 unfold checkR
 cases acc with
 | true =>
  rw [if_pos rfl]
  simp only [if_true] at h
  by_cases h1 : (flowR qs cs bs hs d ss).2 ≠ 0
  ·rw [if_pos h1]; exact h1
  ·rw [if_neg h1, if_pos (.inr (.inl h))]; omega
 | false =>
  rw [if_neg (by simp)]
  simp only [Bool.false_eq_true, if_false] at h
  by_cases h1 : (capR qs cs bs hs d c).2 ≠ 0
  ·rw [if_pos h1]; exact h1
  ·rw [if_neg h1, if_pos (by omega)]; omega
theorem emptyRow : CutRow emp emp none [] := fun i l hl => by simp at hl
set_option maxHeartbeats 64000000 in
theorem answers_law {ρ τ σ υ : PH} {pq pc pb ph : Option Addr} {kq kc kb kh : Nat} {qs : List Int} {cs : List Ct} {bs : List Bk} {hs : List Hd} (hT : TbAt ρ τ σ υ pq pc pb ph kq kc kb kh qs cs bs hs) (d : Dm) : Ans Tryz.prog (fv 5) [.agg #[.slice pq qs.length kq, .slice pc cs.length kc, .slice pb bs.length kb, .slice ph hs.length kh], .agg #[int d.s, int d.d, int d.v, int d.r, int d.e]] [ρ, τ, σ, υ] (fun r => r = .bool true) := by
 have hgr := great55_spec pq pc pb ph none kq kc kb kh 0 qs.length cs.length bs.length hs.length 0 d
 refine spec_in (cap := []) Tryz.func5 rfl rfl Tryz.ntmps5 rfl envZ (fun N β => ?_)
 refine CF ?_
 refine AS (ρ := emp) takeZ ?_
 refine AC ?_
 refine AA ?_
 refine BO (BS rfl) rfl rfl rfl ?_
 rintro _ _ ⟨b1, rfl, rfl⟩
 refine AS (ρ := sng b1 _) takeZ ?_
 have ct : RdN (sng b1 (.cells #[.slice pq qs.length kq, .slice pc cs.length kc, .slice pb bs.length kb, .slice ph hs.length kh] 29 (0, 0))) b1 0 [.slice pq qs.length kq, .slice pc cs.length kc, .slice pb bs.length kb, .slice ph hs.length kh] := rdN_sng (vs := [.slice pq qs.length kq, .slice pc cs.length kc, .slice pb bs.length kb, .slice ph hs.length kh])
 have ct0 : rdc (sng b1 (.cells #[.slice pq qs.length kq, .slice pc cs.length kc, .slice pb bs.length kb, .slice ph hs.length kh] 29 (0, 0))) b1 0 = some (.slice pq qs.length kq) := by rw [rdc_sng]; rfl
 have ct1 : rdc (sng b1 (.cells #[.slice pq qs.length kq, .slice pc cs.length kc, .slice pb bs.length kb, .slice ph hs.length kh] 29 (0, 0))) b1 1 = some (.slice pc cs.length kc) := by rw [rdc_sng]; rfl
 have ct2 : rdc (sng b1 (.cells #[.slice pq qs.length kq, .slice pc cs.length kc, .slice pb bs.length kb, .slice ph hs.length kh] 29 (0, 0))) b1 2 = some (.slice pb bs.length kb) := by rw [rdc_sng]; rfl
 have ct3 : rdc (sng b1 (.cells #[.slice pq qs.length kq, .slice pc cs.length kc, .slice pb bs.length kb, .slice ph hs.length kh] 29 (0, 0))) b1 3 = some (.slice ph hs.length kh) := by rw [rdc_sng]; rfl
 have ctp : RdP (sng b1 (.cells #[.slice pq qs.length kq, .slice pc cs.length kc, .slice pb bs.length kb, .slice ph hs.length kh] 29 (0, 0))) b1 0 [.slice pq qs.length kq, .slice pc cs.length kc] := rdP_sng (xs := [.slice pq qs.length kq, .slice pc cs.length kc, .slice pb bs.length kb, .slice ph hs.length kh]) rfl
 refine BO (BS rfl) rfl rfl rfl ?_
 rintro _ _ ⟨b2, rfl, rfl⟩
 refine AS (ρ := sng b2 _) takeZ ?_
 have cd : RdN (sng b2 (.cells #[int d.s, int d.d, int d.v, int d.r, int d.e] 31 (0, 0))) b2 0 [int d.s, int d.d, int d.v, int d.r, int d.e] := rdN_sng (vs := [int d.s, int d.d, int d.v, int d.r, int d.e])
 have cd0 : rdc (sng b2 (.cells #[int d.s, int d.d, int d.v, int d.r, int d.e] 31 (0, 0))) b2 0 = some (int d.s) := by rw [rdc_sng]; rfl
 have cd1 : rdc (sng b2 (.cells #[int d.s, int d.d, int d.v, int d.r, int d.e] 31 (0, 0))) b2 1 = some (int d.d) := by rw [rdc_sng]; rfl
 have cd2 : rdc (sng b2 (.cells #[int d.s, int d.d, int d.v, int d.r, int d.e] 31 (0, 0))) b2 2 = some (int d.v) := by rw [rdc_sng]; rfl
 have cd3 : rdc (sng b2 (.cells #[int d.s, int d.d, int d.v, int d.r, int d.e] 31 (0, 0))) b2 3 = some (int d.r) := by rw [rdc_sng]; rfl
 have cd4 : rdc (sng b2 (.cells #[int d.s, int d.d, int d.v, int d.r, int d.e] 31 (0, 0))) b2 4 = some (int d.e) := by rw [rdc_sng]; rfl
 refine AD ?_
 refine AE ?_
 refine AC ?_
 refine AC ?_
 refine AA ?_
 refine AQ ?_
 refine AQ ?_
 refine AY hgr rfl rfl rdZ rfl rfl ?_
 rintro _ ⟨b, rfl, _⟩
 cases b with
 | true =>
  refine AE ?_
  refine AO rfl ?_
  refine AC ?_
  refine AA ?_
  refine AY awake55_spec rfl rfl rdZ rfl rfl ?_
  rintro _ rfl
  refine AD ?_
  refine AE ?_
  exact AI (res1 rfl rfl) rsubZ selZ ⟨rfl, rfl⟩
 | false =>
 refine AE ?_
 refine AN rfl ?_
 refine AL ?_
 refine AC ?_
 refine AA ?_
 refine AQ ?_
 refine AQ ?_
 refine BI (Plan_spec hT d) rfl rfl Takes.nil rdZ rfl rfl ?_
 rintro _ _ (⟨hv, acc, vol, ss, c, a, σ1, σ2, σ3, rfl, rfl, hP, p1, k1, L, p2, k2, rfl, hS, hC, hL⟩ | ⟨hv, rfl, rfl⟩)
 rotate_left
 ·have hck := certChk_spec emp hT emp emp d false 0 none 0 [] nilSh (by simp) none 0 [] emptyRow (by simp)
  rw [show checkR qs cs bs hs d false 0 [] [] = 1 by unfold checkR capR; rw [if_neg (by simp), if_pos hv]; rfl] at hck
  refine AB ?_
  refine AM ?_
  refine AM ?_
  refine AV ?_; rintro _ _ ⟨b, rfl, rfl⟩
  refine AU ?_; rintro _ _ ⟨rfl, rfl⟩
  refine AD ?_
  refine AE ?_
  refine AC ?_
  refine AA ?_
  refine AQ ?_
  refine AQ ?_
  refine AY (Most_spec hT d) rfl rfl rdZ rfl rfl ?_
  rintro _ (⟨hv2, F, m, hm, rfl⟩ | ⟨hv2, rfl⟩)
  ·rw [hv] at hv2; simp at hv2
  refine AB ?_
  refine AM ?_
  refine AM ?_
  refine AD ?_
  refine AD ?_
  refine AE ?_
  refine AC ?_
  refine AC ?_
  refine AA ?_
  refine AB ?_
  refine B6 ?_
  refine AB ?_
  refine AG rfl rfl rfl ?_
  refine AG rfl rfl rfl ?_
  refine AK ?_
  refine AE ?_
  refine AO rfl ?_
  refine AC ?_
  refine AA ?_
  refine AB ?_
  refine CW ?_
  refine AB ?_
  refine AQ ?_
  refine AQ ?_
  refine AQ ?_
  refine AY hck rfl rfl rdZ rfl rfl ?_
  rintro _ rfl
  refine CW ?_
  refine AK ?_
  refine AB ?_
  refine AY awake55_spec rfl rfl rdZ rfl rfl ?_
  rintro _ rfl
  refine AK ?_
  refine AD ?_
  refine AE ?_
  exact AI (res1 rfl rfl) rsubZ selZ ⟨rfl, rfl⟩
 have h := vok hv
 refine AS (ρ := σ1) takeZ ?_
 refine AS (ρ := σ2) takeZ ?_
 refine AS (ρ := σ3) takeZ ?_
 refine AB ?_
 refine AM ?_
 refine AM ?_
 refine AV ?_; rintro _ _ ⟨b, rfl, rfl⟩
 refine AU ?_; rintro _ _ ⟨rfl, rfl⟩
 refine AD ?_
 refine AE ?_
 refine AC ?_
 refine AA ?_
 refine AQ ?_
 refine AQ ?_
 refine AY (Most_spec hT d) rfl rfl rdZ rfl rfl ?_
 rintro _ (⟨_, F, m, hm, rfl⟩ | ⟨hv2, rfl⟩)
 rotate_left
 ·rw [hv] at hv2; simp at hv2
 obtain ⟨q1, q2, q3, q4, q5⟩ := chk_planned h hv hP hm
 have hm0 := max_nonneg h hm
 have hmb : m ≤ 6400000 := max_small h hm
 have hLl : L.length = c.length := by rw [← hL, List.length_map]
 have hcr : CutRow σ2 σ3 p2 c := by rw [← hL]; exact hC.row
 have hck := fun d' => certChk_spec σ1 hT σ2 σ3 d' acc vol p1 k1 ss hS q4 p2 k2 c hcr (by omega)
 rw [← hLl] at hck
 have hck0 := hck d
 rw [q1] at hck0
 by_cases hd : d.v ≤ m
 ·rw [decide_eq_true hd] at q2
  subst q2
  simp only [if_true] at q3
  subst q3
  have hck1 := hck ⟨d.s, d.d, m + 1, d.r, d.e⟩
  have hne : checkR qs cs bs hs ⟨d.s, d.d, m + 1, d.r, d.e⟩ true d.v ss c ≠ 0 := chk_other (by simp only [if_true]; omega)
  generalize checkR qs cs bs hs ⟨d.s, d.d, m + 1, d.r, d.e⟩ true d.v ss c = z at hck1 hne
  refine AB ?_
  refine AM ?_
  refine AM ?_
  refine AD ?_
  refine AD ?_
  refine AE ?_
  refine AC ?_
  refine AC ?_
  refine AA ?_
  refine AB ?_
  refine A7 ?_
  refine AB ?_
  refine AB ?_
  refine A7 ?_
  refine AJ ?_
  refine AE ?_
  refine AN rfl ?_
  refine AL ?_
  refine AC ?_
  refine AC ?_
  refine AA ?_
  refine AQ ?_
  refine AQ ?_
  refine AQ ?_
  refine AY hck0 rfl rfl rdZ rfl rfl ?_
  rintro _ rfl
  refine A7 ?_
  refine AB ?_
  refine AH ?_
  refine AF ?_
  refine AH ?_
  refine AF ?_
  refine AB ?_
  refine C0 ?_
  focus ((refine' CS _ rfl rfl rfl _; rotate_left; (apply EY; exact rfl; exact rfl; exact rfl)))
  refine AJ ?_
  refine AE ?_
  refine AN rfl ?_
  refine AL ?_
  refine AC ?_
  refine AA ?_
  refine AQ ?_
  refine AV ?_; rintro _ _ ⟨b, rfl, rfl⟩
  refine AU ?_; rintro _ _ ⟨rfl, rfl⟩
  refine AE ?_
  refine AC ?_
  refine AA ?_
  refine AB ?_
  refine AH ?_
  refine A5 ?_; rintro _ _ ⟨rfl, rfl⟩
  refine AE ?_
  refine AC ?_
  refine AC ?_
  refine AA ?_
  refine AH ?_
  refine AF ?_
  refine AE ?_
  refine AO rfl ?_
  refine AA ?_
  refine AB ?_
  refine B5 ?_
  refine AH ?_
  refine A5 ?_; rintro _ _ ⟨rfl, rfl⟩
  refine AE ?_
  refine AC ?_
  refine AA ?_
  refine AH ?_
  refine AF ?_
  refine A0 ?_
  refine AB ?_
  refine AH ?_
  refine AF ?_
  refine BP ?_
  refine AJ ?_
  refine AB ?_
  refine AQ ?_
  refine AQ ?_
  refine AQ ?_
  refine AY hck1 rfl rfl rdZ rfl rfl ?_
  rintro _ rfl
  refine B6 ?_
  refine AJ ?_
  refine AB ?_
  refine AY awake55_spec rfl rfl rdZ rfl rfl ?_
  rintro _ rfl
  refine AK ?_
  refine AD ?_
  refine AE ?_
  exact AI (res1 rfl rfl) rsubZ selZ ⟨rfl, rfl⟩
 ·rw [decide_eq_false hd] at q2
  subst q2
  simp only [Bool.false_eq_true, if_false] at q3
  subst q3
  have hck1 := hck ⟨d.s, d.d, vol, d.r, d.e⟩
  have hne : checkR qs cs bs hs ⟨d.s, d.d, vol, d.r, d.e⟩ false vol ss c ≠ 0 := chk_other (by simp only [Bool.false_eq_true, if_false])
  generalize checkR qs cs bs hs ⟨d.s, d.d, vol, d.r, d.e⟩ false vol ss c = z at hck1 hne
  by_cases hz : vol < 1
  ·refine AB ?_
   refine AM ?_
   refine AM ?_
   refine AD ?_
   refine AD ?_
   refine AE ?_
   refine AC ?_
   refine AC ?_
   refine AA ?_
   refine AB ?_
   refine A7 ?_
   refine AB ?_
   refine AB ?_
   refine A7 ?_
   refine AJ ?_
   refine AE ?_
   refine AN rfl ?_
   refine AL ?_
   refine AC ?_
   refine AC ?_
   refine AA ?_
   refine AQ ?_
   refine AQ ?_
   refine AQ ?_
   refine AY hck0 rfl rfl rdZ rfl rfl ?_
   rintro _ rfl
   refine A7 ?_
   refine AB ?_
   refine AH ?_
   refine AF ?_
   refine AH ?_
   refine AF ?_
   refine AB ?_
   refine CJ ?_
   focus ((refine' CS _ rfl rfl rfl _; rotate_left; (apply EY; exact rfl; exact rfl; exact rfl)))
   refine AJ ?_
   refine AE ?_
   refine AN rfl ?_
   refine AL ?_
   refine AC ?_
   refine AA ?_
   refine AQ ?_
   refine AV ?_; rintro _ _ ⟨b, rfl, rfl⟩
   refine AU ?_; rintro _ _ ⟨rfl, rfl⟩
   refine AE ?_
   refine AC ?_
   refine AA ?_
   refine AB ?_
   refine AH ?_
   refine A5 ?_; rintro _ _ ⟨rfl, rfl⟩
   refine AE ?_
   refine AC ?_
   refine AC ?_
   refine AA ?_
   refine AH ?_
   refine AF ?_
   refine AE ?_
   refine AN rfl ?_
   refine AL ?_
   refine AC ?_
   refine AA ?_
   refine AH ?_
   refine AF ?_
   refine BH ?_
   refine AB ?_
   refine AG rfl rfl rfl ?_
   refine AG rfl rfl rfl ?_
   refine AG rfl rfl rfl ?_
   refine AK ?_
   refine AB ?_
   refine AG rfl rfl rfl ?_
   refine AG rfl rfl rfl ?_
   refine AG rfl rfl rfl ?_
   refine AG rfl rfl rfl ?_
   refine AG rfl rfl rfl ?_
   refine AK ?_
   refine AB ?_
   refine AY awake55_spec rfl rfl rdZ rfl rfl ?_
   rintro _ rfl
   refine AK ?_
   refine AD ?_
   refine AE ?_
   exact AI (res1 rfl rfl) rsubZ selZ ⟨rfl, rfl⟩
  refine AB ?_
  refine AM ?_
  refine AM ?_
  refine AD ?_
  refine AD ?_
  refine AE ?_
  refine AC ?_
  refine AC ?_
  refine AA ?_
  refine AB ?_
  refine A7 ?_
  refine AB ?_
  refine AB ?_
  refine A7 ?_
  refine AJ ?_
  refine AE ?_
  refine AN rfl ?_
  refine AL ?_
  refine AC ?_
  refine AC ?_
  refine AA ?_
  refine AQ ?_
  refine AQ ?_
  refine AQ ?_
  refine AY hck0 rfl rfl rdZ rfl rfl ?_
  rintro _ rfl
  refine A7 ?_
  refine AB ?_
  refine AH ?_
  refine AF ?_
  refine AH ?_
  refine AF ?_
  refine AB ?_
  refine CJ ?_
  focus ((refine' CS _ rfl rfl rfl _; rotate_left; (apply EY; exact rfl; exact rfl; exact rfl)))
  refine AJ ?_
  refine AE ?_
  refine AN rfl ?_
  refine AL ?_
  refine AC ?_
  refine AA ?_
  refine AQ ?_
  refine AV ?_; rintro _ _ ⟨b, rfl, rfl⟩
  refine AU ?_; rintro _ _ ⟨rfl, rfl⟩
  refine AE ?_
  refine AC ?_
  refine AA ?_
  refine AB ?_
  refine AH ?_
  refine A5 ?_; rintro _ _ ⟨rfl, rfl⟩
  refine AE ?_
  refine AC ?_
  refine AC ?_
  refine AA ?_
  refine AH ?_
  refine AF ?_
  refine AE ?_
  refine AN rfl ?_
  refine AL ?_
  refine AC ?_
  refine AA ?_
  refine AH ?_
  refine AF ?_
  refine A0 ?_
  refine AB ?_
  refine AH ?_
  refine AF ?_
  refine BP ?_
  refine AJ ?_
  refine AB ?_
  refine AQ ?_
  refine AQ ?_
  refine AQ ?_
  refine AY hck1 rfl rfl rdZ rfl rfl ?_
  rintro _ rfl
  refine B6 ?_
  refine AJ ?_
  refine AB ?_
  refine AY awake55_spec rfl rfl rdZ rfl rfl ?_
  rintro _ rfl
  refine AK ?_
  refine AD ?_
  refine AE ?_
  exact AI (res1 rfl rfl) rsubZ selZ ⟨rfl, rfl⟩
end Go.Proofs.YtknfhiolenobaaaGreat
/- The rows: each law, for every input. -/
namespace Go.Proofs.YtknfhiolenobaaaGreat
open Go.Eng Go.Step
set_option maxRecDepth 100000
set_option maxHeartbeats 4000000
open Go.ChangeShapes Go.WideShapes Go.ChangeAt Go.RowKit

set_option maxRecDepth 100000 in
theorem certificateAnswers_lifted (os : Os) (started : os.Started) (H : Type) (enc : TypeId × Value → H) :
  ReturnsInHanded {} Tryz.checked os 5 .any (Rows.certificateAnswersSpec.pre6 enc Tryz.prog Tryz.f5 Rows.certificateAnswersRow.domain false) (Rows.certificateAnswersSpec.post enc Tryz.prog Tryz.f5 false true false false) := by
 refine returnsInHanded_of_change (C := Tryz.checked) Tryz.own started (by kernel_rfl) Tryz.func5
  (ChangeSpec.witness6 (enc := enc) (C := Tryz.checked) false ⟨#[], #[.agg #[.slice none 0 0, .slice none 0 0, .slice none 0 0, .slice none 0 0], .agg #[.int .i64 0, .int .i64 0, .int .i64 0, .int .i64 0, .int .i64 0]], []⟩ 8 (by kernel_rfl) (by kernel_rfl) (by kernel_rfl) (by kernel_rfl)) ?_
 intro W base args ds gs before hval0 hW hcnd _
 have hval : ∀ (j : Nat) t v, Tryz.f5.params[j]? = some t → args[j]? = some v → Value.okWide Tryz.prog W .any base t v := hval0
 have hW' := hW
 obtain ⟨p, q, hA0, hV, rfl, hfz, hnd⟩ := hW
 have hA : DataW.TrodAll enc Tryz.prog W 0 (fun _ => true) true Tryz.f5.params.toList args.toList ds p := hA0
 rw [Tryz.params5] at hA hval
 obtain ⟨v0, vs0, d0, ds0, p0, q0, hargs, rfl, rfl, h0, r0⟩ := trodAll_cons hA
 obtain ⟨v1, vs1, d1, ds1, p1, q1, rfl, rfl, rfl, h1, r1⟩ := trodAll_cons r0
 obtain ⟨rfl, rfl, rfl⟩ := trodAll_nil r1
 obtain rfl : args = #[v0, v1] := by cases args; simp_all
 obtain ⟨rfl, rfl⟩ := trodVars_none hV
 have lt0 : ∀ x ∈ p0, x.block < W.heap.size := by obtain ⟨m, hm⟩ := h0; exact DataW.trod_lt m _ _ _ hm
 have lt1 : ∀ x ∈ p1, x.block < W.heap.size := by obtain ⟨m, hm⟩ := h1; exact DataW.trod_lt m _ _ _ hm
 have hlaw : Ans Tryz.prog (fv 5) [v0, v1] [heapPH W] (fun v => v = .bool true) := by
  obtain ⟨pq, pc, pb, ph, kq, kc, kb, kh, qs, cs, bs, hs, rfl, hT⟩ := tables_of (hval 0 _ v0 rfl rfl) (RdT.of h0)
  obtain ⟨d, rfl, id0, id1, id2, id3, id4⟩ := demand_of (hval 1 _ v1 rfl rfl) (RdT.of h1)
  exact (answers_law hT d).rsub (fun _ h => by simpa using h)
 refine (law_calls Tryz.func5 rfl rfl hlaw).mono fun e W' ⟨he, bel⟩ => ?_
 subst he
 exact ⟨_, rfl, _, _, _, [], _, [], hW', trodAll_mk1 (shut_bool Tryz.underlying4 _), (trodAll_cons_mk (Below.trod Tryz.laidOut (by kernel_rfl) (of_decide_eq_true (by kernel_rfl)) h0 bel lt0) (trodAll_cons_mk (Below.trod Tryz.laidOut (by kernel_rfl) (of_decide_eq_true (by kernel_rfl)) h1 bel lt1) trodAll_mk0)), rfl, bel.frame _, fun h => by cases h⟩
theorem certificateAnswers_holds : Rows.CertificateAnswersSaid :=
 OpenClaim.holds_of_wide 5 Tryz.f5 rfl rfl rfl rfl rfl rfl rfl ⟨rfl, rfl, rfl, rfl, rfl⟩ rfl rfl rfl rfl rfl (by kernel_rfl) Tryz.func5 (by kernel_rfl)
  (of_decide_eq_true (by kernel_rfl)) (by unfold Func.isWrapper; first | (rw [if_pos (by decide +kernel)]; kernel_rfl) | (rw [if_neg (by decide +kernel)]; exact ⟨rfl, rfl⟩))
  (fun os started H enc _ => certificateAnswers_lifted os started H enc)
end Go.Proofs.YtknfhiolenobaaaGreat
