/- Texts of this proof, one after the other; no conditions. -/
import Derived.Test.YtknfhiolenobaaaGreatRows
import Derived.Test.YtknfhiolenobaaaGreatWB5
import Derived.Test.YtknfhiolenobaaaGreatWB3
import Derived.Test.YtknfhiolenobaaaGreatWB2
set_option linter.all false
/- Demands: checked. -/
namespace Go.Proofs.YtknfhiolenobaaaGreat
open Go.Eng Go.Step
set_option maxRecDepth 100000
set_option maxHeartbeats 4000000

theorem chkPl_ct {qs : List Int} {cs : List Ct} (h : chkPl qs cs = 0) : cs.length ≤ 64 ∧ ∀ c ∈ cs, chkCt c = 0 ∧ c.f < qs.length ∧ c.t < qs.length := by
 unfold chkPl at h
 by_cases h1 : qs.length < 1 ∨ 16 < qs.length ∨ 64 < cs.length
 ·rw [if_pos h1] at h; omega
 rw [if_neg h1] at h
 by_cases h2 : firstE (quoE qs) qs.length = 0
 ·rw [if_neg (by simpa using h2)] at h
  refine ⟨by omega, fun c hc => ?_⟩
  obtain ⟨i, hi, rfl⟩ := List.getElem_of_mem hc
  have h3 := firstE_zero h i hi
  rw [ctE_at (List.getElem?_eq_getElem hi)] at h3
  by_cases h4 : chkCt cs[i] = 0
  ·rw [if_neg (by simpa using h4)] at h3
   by_cases h5 : (qs.length : Int) ≤ cs[i].f ∨ (qs.length : Int) ≤ cs[i].t
   ·rw [if_pos h5] at h3; omega
   ·exact ⟨h4, by omega, by omega⟩
  ·rw [if_pos h4] at h3; exact absurd h3 h4
 ·rw [if_pos h2] at h; exact absurd h h2
theorem chkCt_all {c : Ct} (h : chkCt c = 0) : (0 ≤ c.f ∧ c.f ≤ 15) ∧ (0 ≤ c.t ∧ c.t ≤ 15) ∧ (0 ≤ c.s ∧ c.s < c.e ∧ c.e ≤ 1099511627776) ∧ (1 ≤ c.r ∧ c.r ≤ 1000) ∧ (1 ≤ c.g ∧ c.g ≤ 1048576) := by
 have h2 := chkCt_se h
 unfold chkCt at h
 by_cases h1 : okCt c
 ·unfold okCt at h1
  exact ⟨h1.1, h1.2.1, h2, h1.2.2.1, h1.2.2.2.1⟩
 ·rw [if_pos h1] at h; omega
theorem isNode_spec (bt : Nat) (k n : Int) : Ans Tryz.prog (.func (.func 48) #[] #[.pointer (some ⟨bt, 0, none⟩)]) [int k] [sng bt (.cells #[int n] 3 (0, 0))] (fun r => r = .bool (decide (0 ≤ k ∧ k < n))) := by
 refine spec_in (cap := [.pointer (some ⟨bt, 0, none⟩)]) Tryz.func48 rfl rfl Tryz.ntmps48 rfl envZ (fun N β => ?_)
 have c1 : rdc (sng bt (.cells #[int n] 3 (0, 0))) bt 0 = some (int n) := by rw [rdc_sng]; rfl
 by_cases h1 : 0 ≤ k
 ·by_cases h2 : k < n
  ·rw [decide_eq_true ⟨h1, h2⟩]
   refine AC ?_
   refine AA ?_
   refine AD ?_
   refine AE ?_
   refine AC ?_
   refine AA ?_
   refine AB ?_
   refine CE ?_
   refine AB ?_
   refine AB ?_
   refine AG ?_
   refine BH ?_
   refine AK ?_
   refine AD ?_
   refine AE ?_
   exact AI (res1 rfl rfl) rsubZ selZ ⟨rfl, rfl⟩
  ·rw [decide_eq_false (fun h => h2 h.2)]
   refine AC ?_
   refine AA ?_
   refine AD ?_
   refine AE ?_
   refine AC ?_
   refine AA ?_
   refine AB ?_
   refine CE ?_
   refine AB ?_
   refine AB ?_
   refine AG ?_
   refine A0 ?_
   refine AK ?_
   refine AD ?_
   refine AE ?_
   exact AI (res1 rfl rfl) rsubZ selZ ⟨rfl, rfl⟩
 ·rw [decide_eq_false (fun h => h1 h.1)]
  refine AC ?_
  refine AA ?_
  refine AD ?_
  refine AE ?_
  refine AC ?_
  refine AA ?_
  refine AB ?_
  refine BJ ?_
  refine AB ?_
  refine AF rfl rfl rfl ?_
  refine AF rfl rfl rfl ?_
  refine AF rfl rfl rfl ?_
  refine AJ ?_
  refine AD ?_
  refine AE ?_
  exact AI (res1 rfl rfl) rsubZ selZ ⟨rfl, rfl⟩
set_option maxHeartbeats 32000000 in
theorem certCheck_spec {ρ τ σ υ : PH} {pq pc pb ph : Option Addr} {kq kc kb kh : Nat} {qs : List Int} {cs : List Ct} {bs : List Bk} {hs : List Hd} (hT : TbAt ρ τ σ υ pq pc pb ph kq kc kb kh qs cs bs hs) (d : Dm) :
  Ans Tryz.prog (fv 21) [.agg #[.slice pq qs.length kq, .slice pc cs.length kc, .slice pb bs.length kb, .slice ph hs.length kh], .agg #[int d.s, int d.d, int d.v, int d.r, int d.e]] [ρ, τ, σ, υ] (fun r => r = int (if validT qs cs bs hs d then 0 else 1)) := by
 refine spec_in (cap := []) Tryz.func21 rfl rfl Tryz.ntmps21 rfl envZ (fun N β => ?_)
 refine AC ?_
 refine AA ?_
 refine BS (BV rfl) rfl rfl rfl ?_
 rintro _ _ ⟨b1, rfl, rfl⟩
 refine AT (ρ := sng b1 _) takeZ ?_
 have ct : RdN (sng b1 (.cells #[.slice pq qs.length kq, .slice pc cs.length kc, .slice pb bs.length kb, .slice ph hs.length kh] 29 (0, 0))) b1 0 [.slice pq qs.length kq, .slice pc cs.length kc, .slice pb bs.length kb, .slice ph hs.length kh] := rdN_sng (vs := [.slice pq qs.length kq, .slice pc cs.length kc, .slice pb bs.length kb, .slice ph hs.length kh])
 have ct0 : rdc (sng b1 (.cells #[.slice pq qs.length kq, .slice pc cs.length kc, .slice pb bs.length kb, .slice ph hs.length kh] 29 (0, 0))) b1 0 = some (.slice pq qs.length kq) := by rw [rdc_sng]; rfl
 have ct1 : rdc (sng b1 (.cells #[.slice pq qs.length kq, .slice pc cs.length kc, .slice pb bs.length kb, .slice ph hs.length kh] 29 (0, 0))) b1 1 = some (.slice pc cs.length kc) := by rw [rdc_sng]; rfl
 have ct2 : rdc (sng b1 (.cells #[.slice pq qs.length kq, .slice pc cs.length kc, .slice pb bs.length kb, .slice ph hs.length kh] 29 (0, 0))) b1 2 = some (.slice pb bs.length kb) := by rw [rdc_sng]; rfl
 have ct3 : rdc (sng b1 (.cells #[.slice pq qs.length kq, .slice pc cs.length kc, .slice pb bs.length kb, .slice ph hs.length kh] 29 (0, 0))) b1 3 = some (.slice ph hs.length kh) := by rw [rdc_sng]; rfl
 have ctp : RdP (sng b1 (.cells #[.slice pq qs.length kq, .slice pc cs.length kc, .slice pb bs.length kb, .slice ph hs.length kh] 29 (0, 0))) b1 0 [.slice pq qs.length kq, .slice pc cs.length kc] := rdP_sng (xs := [.slice pq qs.length kq, .slice pc cs.length kc, .slice pb bs.length kb, .slice ph hs.length kh]) rfl
 refine BS (BV rfl) rfl rfl rfl ?_
 rintro _ _ ⟨b2, rfl, rfl⟩
 refine AT (ρ := sng b2 _) takeZ ?_
 have cd : RdN (sng b2 (.cells #[int d.s, int d.d, int d.v, int d.r, int d.e] 31 (0, 0))) b2 0 [int d.s, int d.d, int d.v, int d.r, int d.e] := rdN_sng (vs := [int d.s, int d.d, int d.v, int d.r, int d.e])
 have cd0 : rdc (sng b2 (.cells #[int d.s, int d.d, int d.v, int d.r, int d.e] 31 (0, 0))) b2 0 = some (int d.s) := by rw [rdc_sng]; rfl
 have cd1 : rdc (sng b2 (.cells #[int d.s, int d.d, int d.v, int d.r, int d.e] 31 (0, 0))) b2 1 = some (int d.d) := by rw [rdc_sng]; rfl
 have cd2 : rdc (sng b2 (.cells #[int d.s, int d.d, int d.v, int d.r, int d.e] 31 (0, 0))) b2 2 = some (int d.v) := by rw [rdc_sng]; rfl
 have cd3 : rdc (sng b2 (.cells #[int d.s, int d.d, int d.v, int d.r, int d.e] 31 (0, 0))) b2 3 = some (int d.r) := by rw [rdc_sng]; rfl
 have cd4 : rdc (sng b2 (.cells #[int d.s, int d.d, int d.v, int d.r, int d.e] 31 (0, 0))) b2 4 = some (int d.e) := by rw [rdc_sng]; rfl
 refine AD ?_
 refine AE ?_
 refine AC ?_
 refine AA ?_
 refine AH ?_
 refine AH ?_
 refine AG ?_
 refine A3 ?_
 refine BG ?_; rintro _ _ ⟨b, rfl, rfl⟩
 refine A6 ?_; rintro _ _ ⟨rfl, rfl⟩
 refine AE ?_
 refine AC ?_
 refine AA ?_
 refine BE ?_
 refine AD ?_
 refine AE ?_
 refine AC ?_
 refine AC ?_
 refine AA ?_
 refine AS ?_
 revert b; intro bn
 refine AZ (chkTab_spec hT) rfl rfl rdZ rfl rfl ?_
 rintro _ rfl
 by_cases h0 : chkT qs cs bs hs = 0
 rotate_left
 ·have hv : validT qs cs bs hs d = false := decide_eq_false (fun h => h0 h.1)
  rw [hv]
  generalize chkT qs cs bs hs = z at h0
  refine B9 ?_
  refine AB ?_
  refine AF rfl rfl rfl ?_
  refine AF rfl rfl rfl ?_
  refine AF rfl rfl rfl ?_
  refine AF rfl rfl rfl ?_
  refine AF rfl rfl rfl ?_
  refine AK ?_
  refine AB ?_
  refine AF rfl rfl rfl ?_
  refine AF rfl rfl rfl ?_
  refine AF rfl rfl rfl ?_
  refine AF rfl rfl rfl ?_
  refine AF rfl rfl rfl ?_
  refine AK ?_
  refine AB ?_
  refine AF rfl rfl rfl ?_
  refine AF rfl rfl rfl ?_
  refine AF rfl rfl rfl ?_
  refine AF rfl rfl rfl ?_
  refine AF rfl rfl rfl ?_
  refine AK ?_
  refine AB ?_
  refine AF rfl rfl rfl ?_
  refine AF rfl rfl rfl ?_
  refine AF rfl rfl rfl ?_
  refine AK ?_
  refine AB ?_
  refine AF rfl rfl rfl ?_
  refine AF rfl rfl rfl ?_
  refine AF rfl rfl rfl ?_
  refine AK ?_
  refine AB ?_
  refine AF rfl rfl rfl ?_
  refine AF rfl rfl rfl ?_
  refine AF rfl rfl rfl ?_
  refine AK ?_
  refine AB ?_
  refine AF rfl rfl rfl ?_
  refine AF rfl rfl rfl ?_
  refine AF rfl rfl rfl ?_
  refine AF rfl rfl rfl ?_
  refine AF rfl rfl rfl ?_
  refine AK ?_
  refine AB ?_
  refine AF rfl rfl rfl ?_
  refine AF rfl rfl rfl ?_
  refine AF rfl rfl rfl ?_
  refine AK ?_
  refine AB ?_
  refine AF rfl rfl rfl ?_
  refine AF rfl rfl rfl ?_
  refine AF rfl rfl rfl ?_
  refine AF rfl rfl rfl ?_
  refine AF rfl rfl rfl ?_
  refine AF rfl rfl rfl ?_
  refine AK ?_
  refine AE ?_
  refine AM rfl ?_
  refine AC ?_
  refine AA ?_
  refine AD ?_
  refine AE ?_
  exact AI (res1 rfl rfl) rsubZ selZ ⟨rfl, rfl⟩
 rw [h0]
 have hbad : ¬ okDm qs.length d → (if validT qs cs bs hs d = true then (0 : Int) else 1) = 1 := fun h => by
  rw [show validT qs cs bs hs d = false from decide_eq_false (fun k => h k.2)]; rfl
 by_cases hs1 : 0 ≤ d.s ∧ d.s < (qs.length : Int)
 rotate_left
 ·have hS : decide (0 ≤ d.s ∧ d.s < (qs.length : Int)) = false := decide_eq_false hs1
  have hD := hS
  rw [hbad (fun h => by unfold okDm at h; omega)]
  refine A9 ?_
  refine AB ?_
  refine AB ?_
  refine AH ?_
  refine AG ?_
  focus ((refine AZ (isNode_spec bn _ _) rfl rfl rdZ rfl rfl ?_; rintro _ rfl; first | rw [hS] | rw [hD]))
  refine A8 ?_
  refine AJ ?_
  refine AB ?_
  refine AF rfl rfl rfl ?_
  refine AF rfl rfl rfl ?_
  refine AF rfl rfl rfl ?_
  refine AF rfl rfl rfl ?_
  refine AF rfl rfl rfl ?_
  refine AK ?_
  refine AB ?_
  refine AF rfl rfl rfl ?_
  refine AF rfl rfl rfl ?_
  refine AF rfl rfl rfl ?_
  refine AF rfl rfl rfl ?_
  refine AF rfl rfl rfl ?_
  refine AK ?_
  refine AB ?_
  refine AF rfl rfl rfl ?_
  refine AF rfl rfl rfl ?_
  refine AF rfl rfl rfl ?_
  refine AK ?_
  refine AB ?_
  refine AF rfl rfl rfl ?_
  refine AF rfl rfl rfl ?_
  refine AF rfl rfl rfl ?_
  refine AK ?_
  refine AB ?_
  refine AF rfl rfl rfl ?_
  refine AF rfl rfl rfl ?_
  refine AF rfl rfl rfl ?_
  refine AK ?_
  refine AB ?_
  refine AF rfl rfl rfl ?_
  refine AF rfl rfl rfl ?_
  refine AF rfl rfl rfl ?_
  refine AF rfl rfl rfl ?_
  refine AF rfl rfl rfl ?_
  refine AK ?_
  refine AB ?_
  refine AF rfl rfl rfl ?_
  refine AF rfl rfl rfl ?_
  refine AF rfl rfl rfl ?_
  refine AK ?_
  refine AB ?_
  refine AF rfl rfl rfl ?_
  refine AF rfl rfl rfl ?_
  refine AF rfl rfl rfl ?_
  refine AF rfl rfl rfl ?_
  refine AF rfl rfl rfl ?_
  refine AF rfl rfl rfl ?_
  refine AK ?_
  refine AE ?_
  refine AM rfl ?_
  refine AC ?_
  refine AA ?_
  refine AD ?_
  refine AE ?_
  exact AI (res1 rfl rfl) rsubZ selZ ⟨rfl, rfl⟩
 have hS : decide (0 ≤ d.s ∧ d.s < (qs.length : Int)) = true := decide_eq_true hs1
 by_cases hd1 : 0 ≤ d.d ∧ d.d < (qs.length : Int)
 rotate_left
 ·have hD : decide (0 ≤ d.d ∧ d.d < (qs.length : Int)) = false := decide_eq_false hd1
  rw [hbad (fun h => by unfold okDm at h; omega)]
  refine A9 ?_
  refine AB ?_
  refine AB ?_
  refine AH ?_
  refine AG ?_
  focus ((refine AZ (isNode_spec bn _ _) rfl rfl rdZ rfl rfl ?_; rintro _ rfl; first | rw [hS] | rw [hD]))
  refine A8 ?_
  refine AJ ?_
  refine AB ?_
  refine AB ?_
  refine AH ?_
  refine AG ?_
  focus ((refine AZ (isNode_spec bn _ _) rfl rfl rdZ rfl rfl ?_; rintro _ rfl; first | rw [hS] | rw [hD]))
  refine A8 ?_
  refine AJ ?_
  refine AB ?_
  refine AF rfl rfl rfl ?_
  refine AF rfl rfl rfl ?_
  refine AF rfl rfl rfl ?_
  refine AF rfl rfl rfl ?_
  refine AF rfl rfl rfl ?_
  refine AK ?_
  refine AB ?_
  refine AF rfl rfl rfl ?_
  refine AF rfl rfl rfl ?_
  refine AF rfl rfl rfl ?_
  refine AK ?_
  refine AB ?_
  refine AF rfl rfl rfl ?_
  refine AF rfl rfl rfl ?_
  refine AF rfl rfl rfl ?_
  refine AK ?_
  refine AB ?_
  refine AF rfl rfl rfl ?_
  refine AF rfl rfl rfl ?_
  refine AF rfl rfl rfl ?_
  refine AK ?_
  refine AB ?_
  refine AF rfl rfl rfl ?_
  refine AF rfl rfl rfl ?_
  refine AF rfl rfl rfl ?_
  refine AF rfl rfl rfl ?_
  refine AF rfl rfl rfl ?_
  refine AK ?_
  refine AB ?_
  refine AF rfl rfl rfl ?_
  refine AF rfl rfl rfl ?_
  refine AF rfl rfl rfl ?_
  refine AK ?_
  refine AB ?_
  refine AF rfl rfl rfl ?_
  refine AF rfl rfl rfl ?_
  refine AF rfl rfl rfl ?_
  refine AF rfl rfl rfl ?_
  refine AF rfl rfl rfl ?_
  refine AF rfl rfl rfl ?_
  refine AK ?_
  refine AE ?_
  refine AM rfl ?_
  refine AC ?_
  refine AA ?_
  refine AD ?_
  refine AE ?_
  exact AI (res1 rfl rfl) rsubZ selZ ⟨rfl, rfl⟩
 have hD : decide (0 ≤ d.d ∧ d.d < (qs.length : Int)) = true := decide_eq_true hd1
 by_cases h3 : d.s ≠ d.d
 rotate_left
 ·rw [hbad (fun h => by unfold okDm at h; omega)]
  refine A9 ?_
  refine AB ?_
  refine AB ?_
  refine AH ?_
  refine AG ?_
  focus ((refine AZ (isNode_spec bn _ _) rfl rfl rdZ rfl rfl ?_; rintro _ rfl; first | rw [hS] | rw [hD]))
  refine A8 ?_
  refine AJ ?_
  refine AB ?_
  refine AB ?_
  refine AH ?_
  refine AG ?_
  focus ((refine AZ (isNode_spec bn _ _) rfl rfl rdZ rfl rfl ?_; rintro _ rfl; first | rw [hS] | rw [hD]))
  refine A8 ?_
  refine AJ ?_
  refine AB ?_
  refine AH ?_
  refine AG ?_
  refine AH ?_
  refine AG ?_
  refine CP ?_
  refine AJ ?_
  refine AB ?_
  refine AF rfl rfl rfl ?_
  refine AF rfl rfl rfl ?_
  refine AF rfl rfl rfl ?_
  refine AK ?_
  refine AB ?_
  refine AF rfl rfl rfl ?_
  refine AF rfl rfl rfl ?_
  refine AF rfl rfl rfl ?_
  refine AK ?_
  refine AB ?_
  refine AF rfl rfl rfl ?_
  refine AF rfl rfl rfl ?_
  refine AF rfl rfl rfl ?_
  refine AK ?_
  refine AB ?_
  refine AF rfl rfl rfl ?_
  refine AF rfl rfl rfl ?_
  refine AF rfl rfl rfl ?_
  refine AF rfl rfl rfl ?_
  refine AF rfl rfl rfl ?_
  refine AK ?_
  refine AB ?_
  refine AF rfl rfl rfl ?_
  refine AF rfl rfl rfl ?_
  refine AF rfl rfl rfl ?_
  refine AK ?_
  refine AB ?_
  refine AF rfl rfl rfl ?_
  refine AF rfl rfl rfl ?_
  refine AF rfl rfl rfl ?_
  refine AF rfl rfl rfl ?_
  refine AF rfl rfl rfl ?_
  refine AF rfl rfl rfl ?_
  refine AK ?_
  refine AE ?_
  refine AM rfl ?_
  refine AC ?_
  refine AA ?_
  refine AD ?_
  refine AE ?_
  exact AI (res1 rfl rfl) rsubZ selZ ⟨rfl, rfl⟩
 by_cases h4 : 1 ≤ d.v
 rotate_left
 ·rw [hbad (fun h => by unfold okDm at h; omega)]
  refine A9 ?_
  refine AB ?_
  refine AB ?_
  refine AH ?_
  refine AG ?_
  focus ((refine AZ (isNode_spec bn _ _) rfl rfl rdZ rfl rfl ?_; rintro _ rfl; first | rw [hS] | rw [hD]))
  refine A8 ?_
  refine AJ ?_
  refine AB ?_
  refine AB ?_
  refine AH ?_
  refine AG ?_
  focus ((refine AZ (isNode_spec bn _ _) rfl rfl rdZ rfl rfl ?_; rintro _ rfl; first | rw [hS] | rw [hD]))
  refine A8 ?_
  refine AJ ?_
  refine AB ?_
  refine AH ?_
  refine AG ?_
  refine AH ?_
  refine AG ?_
  refine BZ ?_
  refine AJ ?_
  refine AB ?_
  refine AH ?_
  refine AG ?_
  refine BH ?_
  refine AJ ?_
  refine AB ?_
  refine AF rfl rfl rfl ?_
  refine AF rfl rfl rfl ?_
  refine AF rfl rfl rfl ?_
  refine AK ?_
  refine AB ?_
  refine AF rfl rfl rfl ?_
  refine AF rfl rfl rfl ?_
  refine AF rfl rfl rfl ?_
  refine AK ?_
  refine AB ?_
  refine AF rfl rfl rfl ?_
  refine AF rfl rfl rfl ?_
  refine AF rfl rfl rfl ?_
  refine AF rfl rfl rfl ?_
  refine AF rfl rfl rfl ?_
  refine AK ?_
  refine AB ?_
  refine AF rfl rfl rfl ?_
  refine AF rfl rfl rfl ?_
  refine AF rfl rfl rfl ?_
  refine AK ?_
  refine AB ?_
  refine AF rfl rfl rfl ?_
  refine AF rfl rfl rfl ?_
  refine AF rfl rfl rfl ?_
  refine AF rfl rfl rfl ?_
  refine AF rfl rfl rfl ?_
  refine AF rfl rfl rfl ?_
  refine AK ?_
  refine AE ?_
  refine AM rfl ?_
  refine AC ?_
  refine AA ?_
  refine AD ?_
  refine AE ?_
  exact AI (res1 rfl rfl) rsubZ selZ ⟨rfl, rfl⟩
 by_cases h5 : d.v ≤ 1099511627776
 rotate_left
 ·rw [hbad (fun h => by unfold okDm at h; omega)]
  refine A9 ?_
  refine AB ?_
  refine AB ?_
  refine AH ?_
  refine AG ?_
  focus ((refine AZ (isNode_spec bn _ _) rfl rfl rdZ rfl rfl ?_; rintro _ rfl; first | rw [hS] | rw [hD]))
  refine A8 ?_
  refine AJ ?_
  refine AB ?_
  refine AB ?_
  refine AH ?_
  refine AG ?_
  focus ((refine AZ (isNode_spec bn _ _) rfl rfl rdZ rfl rfl ?_; rintro _ rfl; first | rw [hS] | rw [hD]))
  refine A8 ?_
  refine AJ ?_
  refine AB ?_
  refine AH ?_
  refine AG ?_
  refine AH ?_
  refine AG ?_
  refine BZ ?_
  refine AJ ?_
  refine AB ?_
  refine AH ?_
  refine AG ?_
  refine A0 ?_
  refine AJ ?_
  refine AB ?_
  refine AH ?_
  refine AG ?_
  refine CI ?_
  refine AJ ?_
  refine AB ?_
  refine AF rfl rfl rfl ?_
  refine AF rfl rfl rfl ?_
  refine AF rfl rfl rfl ?_
  refine AK ?_
  refine AB ?_
  refine AF rfl rfl rfl ?_
  refine AF rfl rfl rfl ?_
  refine AF rfl rfl rfl ?_
  refine AF rfl rfl rfl ?_
  refine AF rfl rfl rfl ?_
  refine AK ?_
  refine AB ?_
  refine AF rfl rfl rfl ?_
  refine AF rfl rfl rfl ?_
  refine AF rfl rfl rfl ?_
  refine AK ?_
  refine AB ?_
  refine AF rfl rfl rfl ?_
  refine AF rfl rfl rfl ?_
  refine AF rfl rfl rfl ?_
  refine AF rfl rfl rfl ?_
  refine AF rfl rfl rfl ?_
  refine AF rfl rfl rfl ?_
  refine AK ?_
  refine AE ?_
  refine AM rfl ?_
  refine AC ?_
  refine AA ?_
  refine AD ?_
  refine AE ?_
  exact AI (res1 rfl rfl) rsubZ selZ ⟨rfl, rfl⟩
 by_cases h6 : 0 ≤ d.r
 rotate_left
 ·rw [hbad (fun h => by unfold okDm at h; omega)]
  refine A9 ?_
  refine AB ?_
  refine AB ?_
  refine AH ?_
  refine AG ?_
  focus ((refine AZ (isNode_spec bn _ _) rfl rfl rdZ rfl rfl ?_; rintro _ rfl; first | rw [hS] | rw [hD]))
  refine A8 ?_
  refine AJ ?_
  refine AB ?_
  refine AB ?_
  refine AH ?_
  refine AG ?_
  focus ((refine AZ (isNode_spec bn _ _) rfl rfl rdZ rfl rfl ?_; rintro _ rfl; first | rw [hS] | rw [hD]))
  refine A8 ?_
  refine AJ ?_
  refine AB ?_
  refine AH ?_
  refine AG ?_
  refine AH ?_
  refine AG ?_
  refine BZ ?_
  refine AJ ?_
  refine AB ?_
  refine AH ?_
  refine AG ?_
  refine A0 ?_
  refine AJ ?_
  refine AB ?_
  refine AH ?_
  refine AG ?_
  refine BR ?_
  refine AJ ?_
  refine AB ?_
  refine AH ?_
  refine AG ?_
  refine BH ?_
  refine AJ ?_
  refine AB ?_
  refine AF rfl rfl rfl ?_
  refine AF rfl rfl rfl ?_
  refine AF rfl rfl rfl ?_
  refine AF rfl rfl rfl ?_
  refine AF rfl rfl rfl ?_
  refine AK ?_
  refine AB ?_
  refine AF rfl rfl rfl ?_
  refine AF rfl rfl rfl ?_
  refine AF rfl rfl rfl ?_
  refine AK ?_
  refine AB ?_
  refine AF rfl rfl rfl ?_
  refine AF rfl rfl rfl ?_
  refine AF rfl rfl rfl ?_
  refine AF rfl rfl rfl ?_
  refine AF rfl rfl rfl ?_
  refine AF rfl rfl rfl ?_
  refine AK ?_
  refine AE ?_
  refine AM rfl ?_
  refine AC ?_
  refine AA ?_
  refine AD ?_
  refine AE ?_
  exact AI (res1 rfl rfl) rsubZ selZ ⟨rfl, rfl⟩
 by_cases h7 : d.r < d.e
 rotate_left
 ·rw [hbad (fun h => by unfold okDm at h; omega)]
  refine A9 ?_
  refine AB ?_
  refine AB ?_
  refine AH ?_
  refine AG ?_
  focus ((refine AZ (isNode_spec bn _ _) rfl rfl rdZ rfl rfl ?_; rintro _ rfl; first | rw [hS] | rw [hD]))
  refine A8 ?_
  refine AJ ?_
  refine AB ?_
  refine AB ?_
  refine AH ?_
  refine AG ?_
  focus ((refine AZ (isNode_spec bn _ _) rfl rfl rdZ rfl rfl ?_; rintro _ rfl; first | rw [hS] | rw [hD]))
  refine A8 ?_
  refine AJ ?_
  refine AB ?_
  refine AH ?_
  refine AG ?_
  refine AH ?_
  refine AG ?_
  refine BZ ?_
  refine AJ ?_
  refine AB ?_
  refine AH ?_
  refine AG ?_
  refine A0 ?_
  refine AJ ?_
  refine AB ?_
  refine AH ?_
  refine AG ?_
  refine BR ?_
  refine AJ ?_
  refine AB ?_
  refine AH ?_
  refine AG ?_
  refine A0 ?_
  refine AJ ?_
  refine AB ?_
  refine AH ?_
  refine AG ?_
  refine AH ?_
  refine AG ?_
  refine CE ?_
  refine AJ ?_
  refine AB ?_
  refine AF rfl rfl rfl ?_
  refine AF rfl rfl rfl ?_
  refine AF rfl rfl rfl ?_
  refine AK ?_
  refine AB ?_
  refine AF rfl rfl rfl ?_
  refine AF rfl rfl rfl ?_
  refine AF rfl rfl rfl ?_
  refine AF rfl rfl rfl ?_
  refine AF rfl rfl rfl ?_
  refine AF rfl rfl rfl ?_
  refine AK ?_
  refine AE ?_
  refine AM rfl ?_
  refine AC ?_
  refine AA ?_
  refine AD ?_
  refine AE ?_
  exact AI (res1 rfl rfl) rsubZ selZ ⟨rfl, rfl⟩
 by_cases h8 : d.e ≤ 1099511627776
 rotate_left
 ·rw [hbad (fun h => by unfold okDm at h; omega)]
  refine A9 ?_
  refine AB ?_
  refine AB ?_
  refine AH ?_
  refine AG ?_
  focus ((refine AZ (isNode_spec bn _ _) rfl rfl rdZ rfl rfl ?_; rintro _ rfl; first | rw [hS] | rw [hD]))
  refine A8 ?_
  refine AJ ?_
  refine AB ?_
  refine AB ?_
  refine AH ?_
  refine AG ?_
  focus ((refine AZ (isNode_spec bn _ _) rfl rfl rdZ rfl rfl ?_; rintro _ rfl; first | rw [hS] | rw [hD]))
  refine A8 ?_
  refine AJ ?_
  refine AB ?_
  refine AH ?_
  refine AG ?_
  refine AH ?_
  refine AG ?_
  refine BZ ?_
  refine AJ ?_
  refine AB ?_
  refine AH ?_
  refine AG ?_
  refine A0 ?_
  refine AJ ?_
  refine AB ?_
  refine AH ?_
  refine AG ?_
  refine BR ?_
  refine AJ ?_
  refine AB ?_
  refine AH ?_
  refine AG ?_
  refine A0 ?_
  refine AJ ?_
  refine AB ?_
  refine AH ?_
  refine AG ?_
  refine AH ?_
  refine AG ?_
  refine BJ ?_
  refine AJ ?_
  refine AB ?_
  refine AH ?_
  refine AG ?_
  refine CI ?_
  refine AJ ?_
  refine AB ?_
  refine AF rfl rfl rfl ?_
  refine AF rfl rfl rfl ?_
  refine AF rfl rfl rfl ?_
  refine AF rfl rfl rfl ?_
  refine AF rfl rfl rfl ?_
  refine AF rfl rfl rfl ?_
  refine AK ?_
  refine AE ?_
  refine AM rfl ?_
  refine AC ?_
  refine AA ?_
  refine AD ?_
  refine AE ?_
  exact AI (res1 rfl rfl) rsubZ selZ ⟨rfl, rfl⟩
 by_cases h9 : d.e - d.r ≤ 100
 rotate_left
 ·rw [hbad (fun h => by unfold okDm at h; omega)]
  refine A9 ?_
  refine AB ?_
  refine AB ?_
  refine AH ?_
  refine AG ?_
  focus ((refine AZ (isNode_spec bn _ _) rfl rfl rdZ rfl rfl ?_; rintro _ rfl; first | rw [hS] | rw [hD]))
  refine A8 ?_
  refine AJ ?_
  refine AB ?_
  refine AB ?_
  refine AH ?_
  refine AG ?_
  focus ((refine AZ (isNode_spec bn _ _) rfl rfl rdZ rfl rfl ?_; rintro _ rfl; first | rw [hS] | rw [hD]))
  refine A8 ?_
  refine AJ ?_
  refine AB ?_
  refine AH ?_
  refine AG ?_
  refine AH ?_
  refine AG ?_
  refine BZ ?_
  refine AJ ?_
  refine AB ?_
  refine AH ?_
  refine AG ?_
  refine A0 ?_
  refine AJ ?_
  refine AB ?_
  refine AH ?_
  refine AG ?_
  refine BR ?_
  refine AJ ?_
  refine AB ?_
  refine AH ?_
  refine AG ?_
  refine A0 ?_
  refine AJ ?_
  refine AB ?_
  refine AH ?_
  refine AG ?_
  refine AH ?_
  refine AG ?_
  refine BJ ?_
  refine AJ ?_
  refine AB ?_
  refine AH ?_
  refine AG ?_
  refine BR ?_
  refine AJ ?_
  refine AB ?_
  refine AH ?_
  refine AG ?_
  refine AH ?_
  refine AG ?_
  refine CJ ?_
  refine CI ?_
  refine AJ ?_
  refine AE ?_
  refine AM rfl ?_
  refine AC ?_
  refine AA ?_
  refine AD ?_
  refine AE ?_
  exact AI (res1 rfl rfl) rsubZ selZ ⟨rfl, rfl⟩
 have hv : validT qs cs bs hs d = true := decide_eq_true ⟨h0, by unfold okDm; omega⟩
 rw [hv]
 refine A9 ?_
 refine AB ?_
 refine AB ?_
 refine AH ?_
 refine AG ?_
 focus ((refine AZ (isNode_spec bn _ _) rfl rfl rdZ rfl rfl ?_; rintro _ rfl; first | rw [hS] | rw [hD]))
 refine A8 ?_
 refine AJ ?_
 refine AB ?_
 refine AB ?_
 refine AH ?_
 refine AG ?_
 focus ((refine AZ (isNode_spec bn _ _) rfl rfl rdZ rfl rfl ?_; rintro _ rfl; first | rw [hS] | rw [hD]))
 refine A8 ?_
 refine AJ ?_
 refine AB ?_
 refine AH ?_
 refine AG ?_
 refine AH ?_
 refine AG ?_
 refine BZ ?_
 refine AJ ?_
 refine AB ?_
 refine AH ?_
 refine AG ?_
 refine A0 ?_
 refine AJ ?_
 refine AB ?_
 refine AH ?_
 refine AG ?_
 refine BR ?_
 refine AJ ?_
 refine AB ?_
 refine AH ?_
 refine AG ?_
 refine A0 ?_
 refine AJ ?_
 refine AB ?_
 refine AH ?_
 refine AG ?_
 refine AH ?_
 refine AG ?_
 refine BJ ?_
 refine AJ ?_
 refine AB ?_
 refine AH ?_
 refine AG ?_
 refine BR ?_
 refine AJ ?_
 refine AB ?_
 refine AH ?_
 refine AG ?_
 refine AH ?_
 refine AG ?_
 refine CJ ?_
 refine BR ?_
 refine AJ ?_
 refine AE ?_
 refine AN rfl ?_
 refine AL ?_
 refine AC ?_
 refine AA ?_
 refine AD ?_
 refine AE ?_
 exact AI (res1 rfl rfl) rsubZ selZ ⟨rfl, rfl⟩
end Go.Proofs.YtknfhiolenobaaaGreat
/- Rooms, arrivals, shipments. -/
namespace Go.Proofs.YtknfhiolenobaaaGreat
open Go.Eng Go.Step
set_option maxRecDepth 100000
set_option maxHeartbeats 4000000

set_option maxHeartbeats 16000000 in
theorem certRoom_spec {ρ τ σ υ : PH} {pq pc pb ph : Option Addr} {kq kc kb kh : Nat} {qs : List Int} {cs : List Ct} {bs : List Bk} {hs : List Hd} (hT : TbAt ρ τ σ υ pq pc pb ph kq kc kb kh qs cs bs hs) (nn : Nat) (t Q : Int) (hQ : qs[nn]? = some Q) (hQb : 0 ≤ Q ∧ Q ≤ 1073741824) (hok : ∀ h ∈ hs, okHd qs.length h) (hl : hs.length ≤ 600) :
  Ans Tryz.prog (fv 26) [.agg #[.slice pq qs.length kq, .slice pc cs.length kc, .slice pb bs.length kb, .slice ph hs.length kh], int nn, int t] [ρ, τ, σ, υ] (fun r => r = int (Q - Step.stored hs nn t)) := by
 have hr := hT.rh
 have hnl := (List.getElem?_eq_some_iff.1 hQ).1
 refine spec_in (cap := []) Tryz.func26 rfl rfl Tryz.ntmps26 rfl envZ (fun N β => ?_)
 refine AC ?_
 refine AA ?_
 refine BS (BV rfl) rfl rfl rfl ?_
 rintro _ _ ⟨b1, rfl, rfl⟩
 refine AT (ρ := sng b1 _) takeZ ?_
 have ct : RdN (sng b1 (.cells #[.slice pq qs.length kq, .slice pc cs.length kc, .slice pb bs.length kb, .slice ph hs.length kh] 29 (0, 0))) b1 0 [.slice pq qs.length kq, .slice pc cs.length kc, .slice pb bs.length kb, .slice ph hs.length kh] := rdN_sng (vs := [.slice pq qs.length kq, .slice pc cs.length kc, .slice pb bs.length kb, .slice ph hs.length kh])
 have ct0 : rdc (sng b1 (.cells #[.slice pq qs.length kq, .slice pc cs.length kc, .slice pb bs.length kb, .slice ph hs.length kh] 29 (0, 0))) b1 0 = some (.slice pq qs.length kq) := by rw [rdc_sng]; rfl
 have ct1 : rdc (sng b1 (.cells #[.slice pq qs.length kq, .slice pc cs.length kc, .slice pb bs.length kb, .slice ph hs.length kh] 29 (0, 0))) b1 1 = some (.slice pc cs.length kc) := by rw [rdc_sng]; rfl
 have ct2 : rdc (sng b1 (.cells #[.slice pq qs.length kq, .slice pc cs.length kc, .slice pb bs.length kb, .slice ph hs.length kh] 29 (0, 0))) b1 2 = some (.slice pb bs.length kb) := by rw [rdc_sng]; rfl
 have ct3 : rdc (sng b1 (.cells #[.slice pq qs.length kq, .slice pc cs.length kc, .slice pb bs.length kb, .slice ph hs.length kh] 29 (0, 0))) b1 3 = some (.slice ph hs.length kh) := by rw [rdc_sng]; rfl
 have ctp : RdP (sng b1 (.cells #[.slice pq qs.length kq, .slice pc cs.length kc, .slice pb bs.length kb, .slice ph hs.length kh] 29 (0, 0))) b1 0 [.slice pq qs.length kq, .slice pc cs.length kc] := rdP_sng (xs := [.slice pq qs.length kq, .slice pc cs.length kc, .slice pb bs.length kb, .slice ph hs.length kh]) rfl
 obtain ⟨bq, oq, rfl, gq⟩ := hT.rq.int hQ
 refine AD ?_
 refine AE ?_
 refine AC ?_
 refine AA ?_
 refine AH ?_
 refine AH ?_
 refine AG ?_
 refine AB ?_
 refine BK ?_
 refine AG ?_
 refine AD ?_
 refine AE ?_
 refine AC ?_
 refine AC ?_
 refine AA ?_
 refine AH ?_
 refine AG ?_
 refine A3 ?_
 refine AB ?_
 refine AE ?_
 refine AO ?_
 refine BI [1, 2, 17, 18] (0 : Nat) (fun k => k ≤ hs.length) (fun k => [(19, int k), (7, int (Q - Step.stored (hs.take k) nn t))]) (fun _ => []) (fun k => hs.length - k) pickZ (by omega) ?_ selZ ?_
 ·rw [List.take_zero]
  simp only [Step.stored, Int.sub_zero]
  exact covZ
 intro k hk
 by_cases hlt : k < hs.length
 ·have hx := List.getElem?_eq_getElem hlt
  have hh := (hok _ (List.getElem_mem hlt)).2.2.1
  obtain ⟨b3, o3, rfl, hrd, g0, g1, g2, g3, _⟩ := hdRow5 hr hx
  have hm := stored_snoc nn t hs[k] (hs.take k)
  rw [← List.take_succ_eq_append_getElem hlt] at hm
  have hb := stored_bd (n := nn) (t := t) (l := hs.take k) (fun h hm => hok h (List.mem_of_mem_take hm))
  rw [List.length_take, Nat.min_eq_left hk] at hb
  generalize hs[k] = h at hrd g0 g1 g2 g3 hm hh
  generalize Step.stored (hs.take k) nn t = s at hm hb
  by_cases c1 : h.n = nn
  ·by_cases c2 : h.a ≤ t
   ·by_cases c3 : t < h.b
    ·rw [if_pos ⟨c1, c2, c3⟩] at hm
     refine AC ?_
     refine AA ?_
     refine BH ?_
     refine AE ?_
     refine AC ?_
     refine AM rfl ?_
     refine AL ?_
     refine AC ?_
     refine AO ?_
     refine AC ?_
     refine AA ?_
     refine BF ?_
     refine AS ?_
     refine AX ?_; rintro _ _ ⟨b, rfl, rfl⟩
     refine AW ?_; rintro _ _ ⟨rfl, rfl⟩
     refine AE ?_
     refine AC ?_
     refine AA ?_
     refine AH ?_
     refine AG ?_
     refine AB ?_
     refine CP ?_
     refine AB ?_
     refine AH ?_
     refine AG ?_
     refine AB ?_
     refine CZ ?_
     refine AK ?_
     refine AB ?_
     refine AB ?_
     refine AH ?_
     refine AG ?_
     refine BH ?_
     refine AK ?_
     refine AE ?_
     refine AM rfl ?_
     refine AA ?_
     refine AB ?_
     refine AH ?_
     refine AG ?_
     refine CJ ?_
     refine AD ?_
     refine AE ?_
     refine A2 ?_
     refine AA ?_
     refine BA ?_
     refine AB ?_
     refine AE ?_
     refine AY (k + 1) (by omega) (by omega) ?_ selZ
     rw [hm, show Q - (s + h.s) = Q - s - h.s by omega]
     exact covZ
    ·rw [if_neg (by omega), Int.add_zero] at hm
     refine AC ?_
     refine AA ?_
     refine BH ?_
     refine AE ?_
     refine AC ?_
     refine AM rfl ?_
     refine AL ?_
     refine AC ?_
     refine AO ?_
     refine AC ?_
     refine AA ?_
     refine BF ?_
     refine AS ?_
     refine AX ?_; rintro _ _ ⟨b, rfl, rfl⟩
     refine AW ?_; rintro _ _ ⟨rfl, rfl⟩
     refine AE ?_
     refine AC ?_
     refine AA ?_
     refine AH ?_
     refine AG ?_
     refine AB ?_
     refine CP ?_
     refine AB ?_
     refine AH ?_
     refine AG ?_
     refine AB ?_
     refine CZ ?_
     refine AK ?_
     refine AB ?_
     refine AB ?_
     refine AH ?_
     refine AG ?_
     refine A0 ?_
     refine AK ?_
     refine AE ?_
     refine AN rfl ?_
     refine AL ?_
     refine A2 ?_
     refine AA ?_
     refine BA ?_
     refine AB ?_
     refine AE ?_
     refine AY (k + 1) (by omega) (by omega) ?_ selZ
     rw [hm]
     exact covZ
   ·rw [if_neg (by omega), Int.add_zero] at hm
    refine AC ?_
    refine AA ?_
    refine BH ?_
    refine AE ?_
    refine AC ?_
    refine AM rfl ?_
    refine AL ?_
    refine AC ?_
    refine AO ?_
    refine AC ?_
    refine AA ?_
    refine BF ?_
    refine AS ?_
    refine AX ?_; rintro _ _ ⟨b, rfl, rfl⟩
    refine AW ?_; rintro _ _ ⟨rfl, rfl⟩
    refine AE ?_
    refine AC ?_
    refine AA ?_
    refine AH ?_
    refine AG ?_
    refine AB ?_
    refine CP ?_
    refine AB ?_
    refine AH ?_
    refine AG ?_
    refine AB ?_
    refine CO ?_
    refine AK ?_
    refine AB ?_
    refine AF rfl rfl rfl ?_
    refine AF rfl rfl rfl ?_
    refine AF rfl rfl rfl ?_
    refine AF rfl rfl rfl ?_
    refine AJ ?_
    refine AE ?_
    refine AN rfl ?_
    refine AL ?_
    refine A2 ?_
    refine AA ?_
    refine BA ?_
    refine AB ?_
    refine AE ?_
    refine AY (k + 1) (by omega) (by omega) ?_ selZ
    rw [hm]
    exact covZ
  ·rw [if_neg (by omega), Int.add_zero] at hm
   refine AC ?_
   refine AA ?_
   refine BH ?_
   refine AE ?_
   refine AC ?_
   refine AM rfl ?_
   refine AL ?_
   refine AC ?_
   refine AO ?_
   refine AC ?_
   refine AA ?_
   refine BF ?_
   refine AS ?_
   refine AX ?_; rintro _ _ ⟨b, rfl, rfl⟩
   refine AW ?_; rintro _ _ ⟨rfl, rfl⟩
   refine AE ?_
   refine AC ?_
   refine AA ?_
   refine AH ?_
   refine AG ?_
   refine AB ?_
   refine BZ ?_
   refine AB ?_
   refine AF rfl rfl rfl ?_
   refine AF rfl rfl rfl ?_
   refine AF rfl rfl rfl ?_
   refine AF rfl rfl rfl ?_
   refine AJ ?_
   refine AB ?_
   refine AF rfl rfl rfl ?_
   refine AF rfl rfl rfl ?_
   refine AF rfl rfl rfl ?_
   refine AF rfl rfl rfl ?_
   refine AJ ?_
   refine AE ?_
   refine AN rfl ?_
   refine AL ?_
   refine A2 ?_
   refine AA ?_
   refine BA ?_
   refine AB ?_
   refine AE ?_
   refine AY (k + 1) (by omega) (by omega) ?_ selZ
   rw [hm]
   exact covZ
 ·have hke : k = hs.length := by omega
  subst hke
  rw [List.take_length]
  refine AC ?_
  refine AA ?_
  refine A0 ?_
  refine AE ?_
  refine AC ?_
  refine AN rfl ?_
  refine A7 rfl ?_
  refine AC ?_
  refine AA ?_
  refine AB ?_
  refine AD ?_
  refine AE ?_
  exact AI (res1 rfl rfl) rsubZ selZ ⟨rfl, rfl⟩
theorem arrival_spec (c : Ct) (t : Int) (h1 : In64 (t + 1)) (h2 : In64 (t + 1 + c.g)) : Ans Tryz.prog (fv 30) [.agg #[int c.f, int c.t, int c.s, int c.e, int c.r, int c.g, int c.l], int t] [] (fun r => r = int (t + 1 + c.g)) := by
 refine spec_in (cap := []) Tryz.func30 rfl rfl Tryz.ntmps30 rfl envZ (fun N β => ?_)
 unfold In64 at h1 h2
 refine AC ?_
 refine AA ?_
 refine BX ?_; rintro _ _ ⟨b, rfl, rfl⟩
 refine AD ?_
 refine AE ?_
 refine AC ?_
 refine AA ?_
 refine AB ?_
 refine B4 ?_
 refine AH ?_
 refine AG ?_
 refine B4 ?_
 refine AD ?_
 refine AE ?_
 exact AI (res1 rfl rfl) rsubZ selZ ⟨rfl, rfl⟩
def encX (x : Sh) : List Value := [int x.c, int x.t, int x.n]
theorem encX_len (x : Sh) : (encX x).length = 3 := rfl
abbrev ShAt (ρ : PH) (v : Value) (l : List Sh) : Prop := SlE encX 3 ρ v l
theorem shRow {ρ : PH} {p : Option Addr} {l : List Sh} (h : RowsE encX 3 ρ p l) {i : Nat} {x : Sh} (hx : l[i]? = some x) :
  ∃ b o, p = some ⟨b, o, none⟩ ∧ RdN ρ b (o + i * 3) [int x.c, int x.t, int x.n] ∧ rdc ρ b (o + i * 3) = some (int x.c) ∧ rdc ρ b (o + i * 3 + 1) = some (int x.t) ∧ rdc ρ b (o + i * 3 + 2) = some (int x.n) := by
 obtain ⟨b, o, e, hr⟩ := h i x hx
 exact ⟨b, o, e, hr, hr.get0, hr.get (j := 1) rfl, hr.get (j := 2) rfl⟩
set_option maxHeartbeats 32000000 in
theorem checkShip_spec {ρ τ σ υ : PH} {pq pc pb ph : Option Addr} {kq kc kb kh : Nat} {qs : List Int} {cs : List Ct} {bs : List Bk} {hs : List Hd} (hT : TbAt ρ τ σ υ pq pc pb ph kq kc kb kh qs cs bs hs) (d : Dm) (x : Sh) (hcs : ∀ c ∈ cs, chkCt c = 0) (hbl : bs.length ≤ 1000) (hd : 0 ≤ d.r) :
  Ans Tryz.prog (fv 22) [.agg #[.slice pq qs.length kq, .slice pc cs.length kc, .slice pb bs.length kb, .slice ph hs.length kh], .agg #[int d.s, int d.d, int d.v, int d.r, int d.e], .agg #[int x.c, int x.t, int x.n]] [ρ, τ, σ, υ] (fun r => r = int (ship1 cs bs d x)) := by
 refine spec_in (cap := []) Tryz.func22 rfl rfl Tryz.ntmps22 rfl envZ (fun N β => ?_)
 refine AC ?_
 refine AA ?_
 refine BS (BV rfl) rfl rfl rfl ?_
 rintro _ _ ⟨b1, rfl, rfl⟩
 refine AT (ρ := sng b1 _) takeZ ?_
 have ct : RdN (sng b1 (.cells #[.slice pq qs.length kq, .slice pc cs.length kc, .slice pb bs.length kb, .slice ph hs.length kh] 29 (0, 0))) b1 0 [.slice pq qs.length kq, .slice pc cs.length kc, .slice pb bs.length kb, .slice ph hs.length kh] := rdN_sng (vs := [.slice pq qs.length kq, .slice pc cs.length kc, .slice pb bs.length kb, .slice ph hs.length kh])
 have ct0 : rdc (sng b1 (.cells #[.slice pq qs.length kq, .slice pc cs.length kc, .slice pb bs.length kb, .slice ph hs.length kh] 29 (0, 0))) b1 0 = some (.slice pq qs.length kq) := by rw [rdc_sng]; rfl
 have ct1 : rdc (sng b1 (.cells #[.slice pq qs.length kq, .slice pc cs.length kc, .slice pb bs.length kb, .slice ph hs.length kh] 29 (0, 0))) b1 1 = some (.slice pc cs.length kc) := by rw [rdc_sng]; rfl
 have ct2 : rdc (sng b1 (.cells #[.slice pq qs.length kq, .slice pc cs.length kc, .slice pb bs.length kb, .slice ph hs.length kh] 29 (0, 0))) b1 2 = some (.slice pb bs.length kb) := by rw [rdc_sng]; rfl
 have ct3 : rdc (sng b1 (.cells #[.slice pq qs.length kq, .slice pc cs.length kc, .slice pb bs.length kb, .slice ph hs.length kh] 29 (0, 0))) b1 3 = some (.slice ph hs.length kh) := by rw [rdc_sng]; rfl
 have ctp : RdP (sng b1 (.cells #[.slice pq qs.length kq, .slice pc cs.length kc, .slice pb bs.length kb, .slice ph hs.length kh] 29 (0, 0))) b1 0 [.slice pq qs.length kq, .slice pc cs.length kc] := rdP_sng (xs := [.slice pq qs.length kq, .slice pc cs.length kc, .slice pb bs.length kb, .slice ph hs.length kh]) rfl
 refine BS (BV rfl) rfl rfl rfl ?_
 rintro _ _ ⟨b2, rfl, rfl⟩
 refine AT (ρ := sng b2 _) takeZ ?_
 have cd : RdN (sng b2 (.cells #[int d.s, int d.d, int d.v, int d.r, int d.e] 31 (0, 0))) b2 0 [int d.s, int d.d, int d.v, int d.r, int d.e] := rdN_sng (vs := [int d.s, int d.d, int d.v, int d.r, int d.e])
 have cd0 : rdc (sng b2 (.cells #[int d.s, int d.d, int d.v, int d.r, int d.e] 31 (0, 0))) b2 0 = some (int d.s) := by rw [rdc_sng]; rfl
 have cd1 : rdc (sng b2 (.cells #[int d.s, int d.d, int d.v, int d.r, int d.e] 31 (0, 0))) b2 1 = some (int d.d) := by rw [rdc_sng]; rfl
 have cd2 : rdc (sng b2 (.cells #[int d.s, int d.d, int d.v, int d.r, int d.e] 31 (0, 0))) b2 2 = some (int d.v) := by rw [rdc_sng]; rfl
 have cd3 : rdc (sng b2 (.cells #[int d.s, int d.d, int d.v, int d.r, int d.e] 31 (0, 0))) b2 3 = some (int d.r) := by rw [rdc_sng]; rfl
 have cd4 : rdc (sng b2 (.cells #[int d.s, int d.d, int d.v, int d.r, int d.e] 31 (0, 0))) b2 4 = some (int d.e) := by rw [rdc_sng]; rfl
 refine BS (BV rfl) rfl rfl rfl ?_
 rintro _ _ ⟨b3, rfl, rfl⟩
 refine AT (ρ := sng b3 _) takeZ ?_
 have cx : RdN (sng b3 (.cells #[int x.c, int x.t, int x.n] 68 (0, 0))) b3 0 [int x.c, int x.t, int x.n] := rdN_sng (vs := [int x.c, int x.t, int x.n])
 have cx0 : rdc (sng b3 (.cells #[int x.c, int x.t, int x.n] 68 (0, 0))) b3 0 = some (int x.c) := by rw [rdc_sng]; rfl
 have cx1 : rdc (sng b3 (.cells #[int x.c, int x.t, int x.n] 68 (0, 0))) b3 1 = some (int x.t) := by rw [rdc_sng]; rfl
 have cx2 : rdc (sng b3 (.cells #[int x.c, int x.t, int x.n] 68 (0, 0))) b3 2 = some (int x.n) := by rw [rdc_sng]; rfl
 unfold ship1
 by_cases h1 : x.c < 0
 ·rw [if_pos (.inl h1)]
  refine AD ?_
  refine AE ?_
  refine AC ?_
  refine AC ?_
  refine AA ?_
  refine AH ?_
  refine AG ?_
  refine BH ?_
  refine AB ?_
  refine AF rfl rfl rfl ?_
  refine AF rfl rfl rfl ?_
  refine AF rfl rfl rfl ?_
  refine AF rfl rfl rfl ?_
  refine AF rfl rfl rfl ?_
  refine AF rfl rfl rfl ?_
  refine AF rfl rfl rfl ?_
  refine AK ?_
  refine AE ?_
  refine AM rfl ?_
  refine AC ?_
  refine AA ?_
  refine AD ?_
  refine AE ?_
  exact AI (res1 rfl rfl) rsubZ selZ ⟨rfl, rfl⟩
 by_cases h2 : (cs.length : Int) ≤ x.c
 ·rw [if_pos (.inr h2)]
  refine AD ?_
  refine AE ?_
  refine AC ?_
  refine AC ?_
  refine AA ?_
  refine AH ?_
  refine AG ?_
  refine A0 ?_
  refine AB ?_
  refine AH ?_
  refine AG ?_
  refine AH ?_
  refine AH ?_
  refine AG ?_
  refine A3 ?_
  refine CE ?_
  refine AJ ?_
  refine AE ?_
  refine AM rfl ?_
  refine AC ?_
  refine AA ?_
  refine AD ?_
  refine AE ?_
  exact AI (res1 rfl rfl) rsubZ selZ ⟨rfl, rfl⟩
 rw [if_neg (by omega)]
 obtain ⟨nn, hnn⟩ : ∃ nn : Nat, x.c = nn := ⟨x.c.toNat, by omega⟩
 have hlt : nn < cs.length := by omega
 have hx := List.getElem?_eq_getElem hlt
 have hck := chkCt_all (hcs _ (List.getElem_mem hlt))
 obtain ⟨b4, o4, rfl, hrd⟩ := ctRow hT.rc hx
 have hbk := booked_spec hT x.c x.t hbl
 rw [hnn] at hbk
 have e1 : cs[x.c.toNat]? = some cs[nn] := by rw [hnn, Int.toNat_natCast]; exact hx
 have e2 : bookedB bs x.c x.t = bookedB bs nn x.t := by rw [hnn]
 rw [e1, e2]
 have cn : rdc (sng b3 (.cells #[int x.c, int x.t, int x.n] 68 (0, 0))) b3 0 = some (int nn) := by rw [rdc_sng, ← hnn]; rfl
 clear cx0
 generalize cs[nn] = c at hrd hck
 dsimp only
 by_cases h3 : x.t < d.r
 ·rw [if_pos (.inl h3)]
  refine AD ?_
  refine AE ?_
  refine AC ?_
  refine AC ?_
  refine AA ?_
  refine AH ?_
  refine AG ?_
  refine A0 ?_
  refine AB ?_
  refine AH ?_
  refine AG ?_
  refine AH ?_
  refine AH ?_
  refine AG ?_
  refine A3 ?_
  refine BJ ?_
  refine AJ ?_
  refine AE ?_
  refine AN rfl ?_
  refine AL ?_
  refine AC ?_
  refine AA ?_
  refine AH ?_
  refine AH ?_
  refine AG ?_
  refine AH ?_
  refine AG ?_
  refine BF ?_
  refine AS ?_
  refine AX ?_; rintro _ _ ⟨b, rfl, rfl⟩
  refine AW ?_; rintro _ _ ⟨rfl, rfl⟩
  refine AE ?_
  refine AC ?_
  refine AC ?_
  refine AA ?_
  refine AH ?_
  refine AG ?_
  refine AH ?_
  refine AG ?_
  refine AH ?_
  refine AG ?_
  refine CR ?_
  refine BH ?_
  refine AB ?_
  refine AF rfl rfl rfl ?_
  refine AF rfl rfl rfl ?_
  refine AF rfl rfl rfl ?_
  refine AF rfl rfl rfl ?_
  refine AF rfl rfl rfl ?_
  refine AK ?_
  refine AB ?_
  refine AF rfl rfl rfl ?_
  refine AF rfl rfl rfl ?_
  refine AF rfl rfl rfl ?_
  refine AK ?_
  refine AB ?_
  refine AF rfl rfl rfl ?_
  refine AF rfl rfl rfl ?_
  refine AF rfl rfl rfl ?_
  refine AF rfl rfl rfl ?_
  refine AF rfl rfl rfl ?_
  refine AK ?_
  refine AE ?_
  refine AM rfl ?_
  refine AC ?_
  refine AA ?_
  refine AD ?_
  refine AE ?_
  exact AI (res1 rfl rfl) rsubZ selZ ⟨rfl, rfl⟩
 by_cases h4 : x.t < c.s
 ·rw [if_pos (.inr (.inl h4))]
  refine AD ?_
  refine AE ?_
  refine AC ?_
  refine AC ?_
  refine AA ?_
  refine AH ?_
  refine AG ?_
  refine A0 ?_
  refine AB ?_
  refine AH ?_
  refine AG ?_
  refine AH ?_
  refine AH ?_
  refine AG ?_
  refine A3 ?_
  refine BJ ?_
  refine AJ ?_
  refine AE ?_
  refine AN rfl ?_
  refine AL ?_
  refine AC ?_
  refine AA ?_
  refine AH ?_
  refine AH ?_
  refine AG ?_
  refine AH ?_
  refine AG ?_
  refine BF ?_
  refine AS ?_
  refine AX ?_; rintro _ _ ⟨b, rfl, rfl⟩
  refine AW ?_; rintro _ _ ⟨rfl, rfl⟩
  refine AE ?_
  refine AC ?_
  refine AC ?_
  refine AA ?_
  refine AH ?_
  refine AG ?_
  refine AH ?_
  refine AG ?_
  refine AH ?_
  refine AG ?_
  refine CR ?_
  refine BH ?_
  refine AB ?_
  refine AF rfl rfl rfl ?_
  refine AF rfl rfl rfl ?_
  refine AF rfl rfl rfl ?_
  refine AF rfl rfl rfl ?_
  refine AF rfl rfl rfl ?_
  refine AK ?_
  refine AB ?_
  refine AF rfl rfl rfl ?_
  refine AF rfl rfl rfl ?_
  refine AF rfl rfl rfl ?_
  refine AK ?_
  refine AB ?_
  refine AF rfl rfl rfl ?_
  refine AF rfl rfl rfl ?_
  refine AF rfl rfl rfl ?_
  refine AF rfl rfl rfl ?_
  refine AF rfl rfl rfl ?_
  refine AK ?_
  refine AE ?_
  refine AM rfl ?_
  refine AC ?_
  refine AA ?_
  refine AD ?_
  refine AE ?_
  exact AI (res1 rfl rfl) rsubZ selZ ⟨rfl, rfl⟩
 by_cases h5 : c.e ≤ x.t
 ·rw [if_pos (.inr (.inr (.inl h5)))]
  refine AD ?_
  refine AE ?_
  refine AC ?_
  refine AC ?_
  refine AA ?_
  refine AH ?_
  refine AG ?_
  refine A0 ?_
  refine AB ?_
  refine AH ?_
  refine AG ?_
  refine AH ?_
  refine AH ?_
  refine AG ?_
  refine A3 ?_
  refine BJ ?_
  refine AJ ?_
  refine AE ?_
  refine AN rfl ?_
  refine AL ?_
  refine AC ?_
  refine AA ?_
  refine AH ?_
  refine AH ?_
  refine AG ?_
  refine AH ?_
  refine AG ?_
  refine BF ?_
  refine AS ?_
  refine AX ?_; rintro _ _ ⟨b, rfl, rfl⟩
  refine AW ?_; rintro _ _ ⟨rfl, rfl⟩
  refine AE ?_
  refine AC ?_
  refine AC ?_
  refine AA ?_
  refine AH ?_
  refine AG ?_
  refine AH ?_
  refine AG ?_
  refine AH ?_
  refine AG ?_
  refine CR ?_
  refine A0 ?_
  refine AB ?_
  refine AH ?_
  refine AG ?_
  refine AH ?_
  refine AG ?_
  refine CE ?_
  refine AJ ?_
  refine AB ?_
  refine AF rfl rfl rfl ?_
  refine AF rfl rfl rfl ?_
  refine AF rfl rfl rfl ?_
  refine AK ?_
  refine AB ?_
  refine AF rfl rfl rfl ?_
  refine AF rfl rfl rfl ?_
  refine AF rfl rfl rfl ?_
  refine AF rfl rfl rfl ?_
  refine AF rfl rfl rfl ?_
  refine AK ?_
  refine AE ?_
  refine AM rfl ?_
  refine AC ?_
  refine AA ?_
  refine AD ?_
  refine AE ?_
  exact AI (res1 rfl rfl) rsubZ selZ ⟨rfl, rfl⟩
 by_cases h6 : x.n < 1
 ·rw [if_pos (.inr (.inr (.inr (.inl h6))))]
  refine AD ?_
  refine AE ?_
  refine AC ?_
  refine AC ?_
  refine AA ?_
  refine AH ?_
  refine AG ?_
  refine A0 ?_
  refine AB ?_
  refine AH ?_
  refine AG ?_
  refine AH ?_
  refine AH ?_
  refine AG ?_
  refine A3 ?_
  refine BJ ?_
  refine AJ ?_
  refine AE ?_
  refine AN rfl ?_
  refine AL ?_
  refine AC ?_
  refine AA ?_
  refine AH ?_
  refine AH ?_
  refine AG ?_
  refine AH ?_
  refine AG ?_
  refine BF ?_
  refine AS ?_
  refine AX ?_; rintro _ _ ⟨b, rfl, rfl⟩
  refine AW ?_; rintro _ _ ⟨rfl, rfl⟩
  refine AE ?_
  refine AC ?_
  refine AC ?_
  refine AA ?_
  refine AH ?_
  refine AG ?_
  refine AH ?_
  refine AG ?_
  refine AH ?_
  refine AG ?_
  refine CR ?_
  refine A0 ?_
  refine AB ?_
  refine AH ?_
  refine AG ?_
  refine AH ?_
  refine AG ?_
  refine BJ ?_
  refine AJ ?_
  refine AB ?_
  refine AH ?_
  refine AG ?_
  refine BH ?_
  refine AJ ?_
  refine AB ?_
  refine AF rfl rfl rfl ?_
  refine AF rfl rfl rfl ?_
  refine AF rfl rfl rfl ?_
  refine AF rfl rfl rfl ?_
  refine AF rfl rfl rfl ?_
  refine AK ?_
  refine AE ?_
  refine AM rfl ?_
  refine AC ?_
  refine AA ?_
  refine AD ?_
  refine AE ?_
  exact AI (res1 rfl rfl) rsubZ selZ ⟨rfl, rfl⟩
 by_cases h7 : c.r < x.n
 ·rw [if_pos (.inr (.inr (.inr (.inr h7))))]
  refine AD ?_
  refine AE ?_
  refine AC ?_
  refine AC ?_
  refine AA ?_
  refine AH ?_
  refine AG ?_
  refine A0 ?_
  refine AB ?_
  refine AH ?_
  refine AG ?_
  refine AH ?_
  refine AH ?_
  refine AG ?_
  refine A3 ?_
  refine BJ ?_
  refine AJ ?_
  refine AE ?_
  refine AN rfl ?_
  refine AL ?_
  refine AC ?_
  refine AA ?_
  refine AH ?_
  refine AH ?_
  refine AG ?_
  refine AH ?_
  refine AG ?_
  refine BF ?_
  refine AS ?_
  refine AX ?_; rintro _ _ ⟨b, rfl, rfl⟩
  refine AW ?_; rintro _ _ ⟨rfl, rfl⟩
  refine AE ?_
  refine AC ?_
  refine AC ?_
  refine AA ?_
  refine AH ?_
  refine AG ?_
  refine AH ?_
  refine AG ?_
  refine AH ?_
  refine AG ?_
  refine CR ?_
  refine A0 ?_
  refine AB ?_
  refine AH ?_
  refine AG ?_
  refine AH ?_
  refine AG ?_
  refine BJ ?_
  refine AJ ?_
  refine AB ?_
  refine AH ?_
  refine AG ?_
  refine A0 ?_
  refine AJ ?_
  refine AB ?_
  refine AH ?_
  refine AG ?_
  refine AH ?_
  refine AG ?_
  refine CI ?_
  refine AJ ?_
  refine AE ?_
  refine AM rfl ?_
  refine AC ?_
  refine AA ?_
  refine AD ?_
  refine AE ?_
  exact AI (res1 rfl rfl) rsubZ selZ ⟨rfl, rfl⟩
 rw [if_neg (by omega)]
 have harr := arrival_spec c x.t ⟨by omega, by omega⟩ ⟨by omega, by omega⟩
 refine AD ?_
 refine AE ?_
 refine AC ?_
 refine AC ?_
 refine AA ?_
 refine AH ?_
 refine AG ?_
 refine A0 ?_
 refine AB ?_
 refine AH ?_
 refine AG ?_
 refine AH ?_
 refine AH ?_
 refine AG ?_
 refine A3 ?_
 refine BJ ?_
 refine AJ ?_
 refine AE ?_
 refine AN rfl ?_
 refine AL ?_
 refine AC ?_
 refine AA ?_
 refine AH ?_
 refine AH ?_
 refine AG ?_
 refine AH ?_
 refine AG ?_
 refine BF ?_
 refine AS ?_
 refine AX ?_; rintro _ _ ⟨b, rfl, rfl⟩
 refine AW ?_; rintro _ _ ⟨rfl, rfl⟩
 refine AE ?_
 refine AC ?_
 refine AC ?_
 refine AA ?_
 refine AH ?_
 refine AG ?_
 refine AH ?_
 refine AG ?_
 refine AH ?_
 refine AG ?_
 refine CR ?_
 refine A0 ?_
 refine AB ?_
 refine AH ?_
 refine AG ?_
 refine AH ?_
 refine AG ?_
 refine BJ ?_
 refine AJ ?_
 refine AB ?_
 refine AH ?_
 refine AG ?_
 refine A0 ?_
 refine AJ ?_
 refine AB ?_
 refine AH ?_
 refine AG ?_
 refine AH ?_
 refine AG ?_
 refine BR ?_
 refine AJ ?_
 refine AE ?_
 refine AN rfl ?_
 refine AL ?_
 refine AC ?_
 refine AC ?_
 revert b; intro b7
 refine BB (.q 0 (.q 1 (.q 2 (.q 4 (.q 5 (.l 3 .e (.q 6 .nil))))))) [sng b7 _] rfl (by kernel_rfl) selZ ?_
 refine CU ?_
 refine AV ?_
 refine AQ ?_
 refine AV ?_
 refine AQ ?_
 refine DE (C1 rfl harr rfl rfl rdZ rfl rfl ?_)
 rintro _ rfl
 by_cases h8 : d.e < x.t + 1 + c.g
 ·rw [if_pos h8]
  refine ES ?_
  refine BD ?_
  refine AM rfl ?_
  refine AC ?_
  refine AA ?_
  refine AD ?_
  refine AE ?_
  exact AI (res1 rfl rfl) rsubZ selZ ⟨rfl, rfl⟩
 rw [if_neg h8]
 refine EI ?_
 refine BD ?_
 refine AN rfl ?_
 refine AL ?_
 refine AC ?_
 refine AC ?_
 refine AA ?_
 refine AS ?_
 refine AH ?_
 refine AG ?_
 refine AH ?_
 refine AG ?_
 refine AZ hbk rfl rfl rdZ rfl rfl ?_
 rintro _ rfl
 cases bookedB bs nn x.t with
 | true =>
  refine AE ?_
  refine AM rfl ?_
  refine AC ?_
  refine AA ?_
  refine AD ?_
  refine AE ?_
  exact AI (res1 rfl rfl) rsubZ selZ ⟨rfl, rfl⟩
 | false =>
  refine AE ?_
  refine AN rfl ?_
  refine AL ?_
  refine AC ?_
  refine AA ?_
  refine AD ?_
  refine AE ?_
  exact AI (res1 rfl rfl) rsubZ selZ ⟨rfl, rfl⟩
end Go.Proofs.YtknfhiolenobaaaGreat
/- Cuts and their capacities. No program in sight. No conditions. -/
namespace Go.Step
abbrev Cu := List (List (Int × Int))
def cuAt (c : Cu) (n : Int) : List (Int × Int) := c.getD n.toNat []
def crossB (c : Cu) (f a t u : Int) : Bool := hasI (cuAt c f) a && !hasI (cuAt c t) u
def sumT (f : Int → Int) (a : Int) : Nat → Int
  | 0 => 0
  | m + 1 => sumT f a m + f (a + m)
theorem sumT_congr {f g : Int → Int} {a : Int} : ∀ {m : Nat}, (∀ k : Nat, k < m → f (a + k) = g (a + k)) → sumT f a m = sumT g a m
  | 0, _ => rfl
  | m + 1, h => by rw [sumT, sumT, sumT_congr (m := m) (fun k hk => h k (Nat.lt_succ_of_lt hk)), h m (Nat.lt_succ_self m)]
theorem sumT_bd {f : Int → Int} {B : Int} (h : ∀ t, -B ≤ f t ∧ f t ≤ B) (a : Int) : ∀ m : Nat, -(B * m) ≤ sumT f a m ∧ sumT f a m ≤ B * m
  | 0 => by simp [sumT]
  | m + 1 => by
    have ih := sumT_bd h a m
    have := h (a + m)
    have e : B * ((m + 1 : Nat) : Int) = B * (m : Int) + B := by rw [Int.natCast_succ, Int.mul_add, Int.mul_one]
    show -(B * ((m + 1 : Nat) : Int)) ≤ sumT f a m + f (a + m) ∧ sumT f a m + f (a + m) ≤ B * ((m + 1 : Nat) : Int)
    rw [e]
    omega
theorem sumT_ext {f : Int → Int} {a : Int} {m : Nat} : ∀ {k : Nat}, (∀ j : Nat, m ≤ j → j < m + k → f (a + j) = 0) → sumT f a (m + k) = sumT f a m
  | 0, _ => rfl
  | k + 1, h => by
    have h1 := sumT_ext (k := k) (fun j h1 h2 => h j h1 (by omega))
    have h2 := h (m + k) (by omega) (by omega)
    show sumT f a (m + k) + f (a + ((m + k : Nat) : Int)) = sumT f a m
    rw [h1, h2, Int.add_zero]
theorem sumT_succ0 (f : Int → Int) (n : Nat) : sumT f 0 (n + 1) = sumT f 0 n + f n := by
  show sumT f 0 n + f (0 + n) = _
  rw [Int.zero_add]
def sumU (f : Int → Int) (a t : Int) : Int := sumT f a (t - a).toNat
theorem sumU_self (f : Int → Int) (a : Int) : sumU f a a = 0 := by unfold sumU; rw [Int.sub_self]; rfl
theorem sumU_succ {f : Int → Int} {a t : Int} (h : a ≤ t) : sumU f a (t + 1) = sumU f a t + f t := by
  unfold sumU
  rw [show (t + 1 - a).toNat = (t - a).toNat + 1 by omega]
  show sumT f a (t - a).toNat + f (a + (t - a).toNat) = _
  rw [show a + ((t - a).toNat : Int) = t by omega]
theorem sumU_bd {f : Int → Int} {B a t : Int} (hB : 0 ≤ B) (h : ∀ t, -B ≤ f t ∧ f t ≤ B) (h1 : t - a ≤ 100) : -(B * 100) ≤ sumU f a t ∧ sumU f a t ≤ B * 100 := by
  have := sumT_bd h a (t - a).toNat
  have h2 : B * ((t - a).toNat : Int) ≤ B * 100 := Int.mul_le_mul_of_nonneg_left (by omega) hB
  unfold sumU
  omega
theorem sumU_ext {f : Int → Int} {a t u : Int} (h : a ≤ t) (h2 : t ≤ u) (hz : ∀ v, t ≤ v → v < u → f v = 0) : sumU f a u = sumU f a t := by
  unfold sumU
  rw [show (u - a).toNat = (t - a).toNat + (u - t).toNat by omega]
  exact sumT_ext (fun j h1 h2 => hz _ (by omega) (by omega))
def waitC (qs : List Int) (hs : List Hd) (d : Dm) (c : Cu) (n t : Int) : Int := if crossB c n t n (t + 1) then roomT qs hs d n t else 0
def conC (cs : List Ct) (bs : List Bk) (d : Dm) (c : Cu) (i t : Int) : Int :=
  match cs[i.toNat]? with
  | none => 0
  | some x => if x.s ≤ t ∧ t < x.e ∧ t + 1 + x.g ≤ d.e ∧ bookedB bs i t = false ∧ crossB c x.f t x.t (t + 1 + x.g) = true then x.r else 0
theorem waitC_bd {qs : List Int} {hs : List Hd} {nq : Nat} (hq : ∀ (j : Nat) (q : Int), qs[j]? = some q → 0 ≤ q ∧ q ≤ 1073741824) (hok : ∀ h ∈ hs, okHd nq h) (hl : hs.length ≤ 512) (d : Dm) (c : Cu) (n t : Int) : -1099511627776 ≤ waitC qs hs d c n t ∧ waitC qs hs d c n t ≤ 1099511627776 := by
  have h1 := stored_bd (n := n) (t := t) hok
  have h2 : 0 ≤ qs.getD n.toNat 0 ∧ qs.getD n.toNat 0 ≤ 1073741824 := by
    rw [List.getD_eq_getElem?_getD]
    cases e : qs[n.toNat]? with
    | none => exact ⟨by simp, by simp⟩
    | some q => exact hq _ _ e
  unfold waitC roomT
  split
  · split <;> omega
  · omega
theorem conC_bd {cs : List Ct} (h : ∀ x ∈ cs, 0 ≤ x.r ∧ x.r ≤ 1000) (bs : List Bk) (d : Dm) (c : Cu) (i t : Int) : -1000 ≤ conC cs bs d c i t ∧ conC cs bs d c i t ≤ 1000 := by
  unfold conC
  cases e : cs[i.toNat]? with
  | none => dsimp only; omega
  | some x =>
    have := h x (List.mem_of_getElem? e)
    dsimp only
    split <;> omega
def badS (d : Dm) (x : Int × Int) : Bool := decide (x.1 < d.r) || decide (d.e + 1 < x.2)
def badL2 (d : Dm) (l : List (Int × Int)) : Bool := decide (chkI l ≠ 0) || l.any (badS d)
def capW (qs : List Int) (hs : List Hd) (d : Dm) (c : Cu) : Nat → Int := sumT (fun n => sumU (waitC qs hs d c n) d.r d.e) 0
def capC (cs : List Ct) (bs : List Bk) (d : Dm) (c : Cu) : Nat → Int := sumT (fun i => sumU (conC cs bs d c i) d.r d.e) 0
def capSum (qs : List Int) (cs : List Ct) (bs : List Bk) (hs : List Hd) (d : Dm) (c : Cu) : Int := capW qs hs d c qs.length + capC cs bs d c cs.length
def capR (qs : List Int) (cs : List Ct) (bs : List Bk) (hs : List Hd) (d : Dm) (c : Cu) : Int × Int :=
  if validT qs cs bs hs d = false then (0, 1) else if c.length ≠ qs.length then (0, 10) else if c.any (badL2 d) then (0, 2)
  else if hasI (cuAt c d.s) d.r = false ∨ hasI (cuAt c d.d) d.e = true then (0, 24) else (capSum qs cs bs hs d c, 0)
end Go.Step
/- What crosses a cut. -/
namespace Go.Proofs.YtknfhiolenobaaaGreat
open Go.Eng Go.Step
set_option maxRecDepth 100000
set_option maxHeartbeats 4000000

def CutRow (ρ κ : PH) (p : Option Addr) (c : Cu) : Prop := ∀ (i : Nat) (l : List (Int × Int)), c[i]? = some l → ∃ b o q k, p = some ⟨b, o, none⟩ ∧ rdc ρ b (o + i) = some (.slice q l.length k) ∧ SpAt κ (.slice q l.length k) l ∧ l.length ≤ 9223372036854775807
theorem cuAt_get {c : Cu} {n : Nat} {l : List (Int × Int)} (h : c[n]? = some l) : cuAt c n = l := by unfold cuAt; rw [Int.toNat_natCast, List.getD_eq_getElem?_getD, h]; rfl
set_option maxHeartbeats 16000000 in
theorem cross_spec (ρ κ : PH) (bc bs' : Nat) (p : Option Addr) (kk : Nat) (c : Cu) (hc : CutRow ρ κ p c) (f t : Nat) (a u w S : Int) (hf : f < c.length) (ht : t < c.length) (hS : In64 (S + w)) :
  Eng.Spec Tryz.prog (.func (.func 29) #[] #[.pointer (some ⟨bc, 0, none⟩), .pointer (some ⟨bs', 0, none⟩)]) [int f, int a, int t, int u, int w] [sng bc (.cells #[.slice p c.length kk] 34 (0, 0)), ρ, κ] [sng bs' (.cells #[int S] 3 (0, 0))]
   (fun r H' => r = .tuple #[] ∧ H' = [sng bs' (.cells #[int (S + if crossB c f a t u then w else 0)] 3 (0, 0))]) := by
 unfold In64 at hS
 have gc : rdc (sng bc (.cells #[.slice p c.length kk] 34 (0, 0))) bc 0 = some (.slice p c.length kk) := by rw [rdc_sng]; rfl
 obtain ⟨b1, o1, q1, k1, rfl, g1, s1, l1⟩ := hc f _ (List.getElem?_eq_getElem hf)
 obtain ⟨_, _, q2, k2, e, g2, s2, l2⟩ := hc t _ (List.getElem?_eq_getElem ht)
 simp only [Option.some.injEq, Addr.mk.injEq, and_true] at e
 obtain ⟨rfl, rfl⟩ := e
 have h1 := ivHas_spec κ _ _ a s1 l1
 have h2 := ivHas_spec κ _ _ u s2 l2
 unfold crossB
 rw [cuAt_get (List.getElem?_eq_getElem hf), cuAt_get (List.getElem?_eq_getElem ht)]
 refine spec_in (cap := [.pointer (some ⟨bc, 0, none⟩), .pointer (some ⟨bs', 0, none⟩)]) Tryz.func29 rfl rfl Tryz.ntmps29 rfl envZ (fun N β => ?_)
 refine AC ?_
 refine AA ?_
 refine AG ?_
 refine AB ?_
 refine BK ?_
 refine AG ?_
 refine AB ?_
 refine AZ h1 rfl rfl rdZ rfl rfl ?_
 rintro _ rfl
 cases hasI c[f] a with
 | false =>
  rw [Bool.false_and, if_neg (by simp), Int.add_zero]
  refine AB ?_
  refine AF rfl rfl rfl ?_
  refine AF rfl rfl rfl ?_
  refine AF rfl rfl rfl ?_
  refine AF rfl rfl rfl ?_
  refine AF rfl rfl rfl ?_
  refine AF rfl rfl rfl ?_
  refine AF rfl rfl rfl ?_
  refine AJ ?_
  refine AE ?_
  refine AN rfl ?_
  refine AL ?_
  exact CH (res0 rfl) rsubZ selZ ⟨rfl, rfl⟩
 | true =>
  refine AB ?_
  refine AG ?_
  refine AB ?_
  refine BK ?_
  refine AG ?_
  refine AB ?_
  refine AZ h2 rfl rfl rdZ rfl rfl ?_
  rintro _ rfl
  cases hasI c[t] u with
  | true =>
   rw [Bool.not_true, Bool.and_false, if_neg (by simp), Int.add_zero]
   refine A8 ?_
   refine AK ?_
   refine AE ?_
   refine AN rfl ?_
   refine AL ?_
   exact CH (res0 rfl) rsubZ selZ ⟨rfl, rfl⟩
  | false =>
   rw [Bool.not_false, Bool.and_true, if_pos rfl]
   refine A8 ?_
   refine AK ?_
   refine AE ?_
   refine AM rfl ?_
   refine AA ?_
   refine AG ?_
   refine AB ?_
   refine B4 ?_
   refine A6 ?_; rintro _ _ ⟨rfl, rfl⟩
   refine AE ?_
   exact CH (res0 rfl) rsubZ selZ ⟨rfl, rfl⟩
end Go.Proofs.YtknfhiolenobaaaGreat
/- Arguments that are slices: their room. No conditions. -/
namespace Go.Eng
open Go.ChangeShapes Go.WideShapes Go.RowKit
variable {P : Program} {W : World} {t : TypeId}
theorem RdT.capOK {e : TypeId} {v : Value} (ht : P.underlying t = some (.slice e)) (h : RdT P W t [v]) : CapOK v := by
  obtain ⟨H, enc, fuel, x, h⟩ := h
  rcases Deep.open_slice ht h with ⟨e, _⟩ | ⟨a, len, cap, m, n, D, Pl, e, _, hlc, _⟩
  · simp only [List.cons.injEq, and_true] at e
    exact ⟨_, _, _, e, Nat.le_refl _⟩
  · simp only [List.cons.injEq, and_true] at e
    exact ⟨_, _, _, e, hlc⟩
end Go.Eng
/- The rows: each law, for every input. -/
namespace Go.Proofs.YtknfhiolenobaaaGreat
open Go.Eng Go.Step
set_option maxRecDepth 100000
set_option maxHeartbeats 4000000
open Go.ChangeShapes Go.WideShapes Go.ChangeAt Go.RowKit

theorem Tryz.own : ownKnob Tryz.prog.godebug = none := by kernel_rfl
theorem Tryz.laidOut : laidOutB Tryz.prog = true := by kernel_rfl
theorem ct_of {W : World} {x : List Value} (h : RdT Tryz.prog W 85 x) : ∃ a : Ct, x = encC a ∧ True := by
 obtain ⟨h1, _⟩ := h.struct Tryz.underlying85
 have hc : Tryz.prog.cellsOf 85 = 7 := by kernel_rfl
 rw [hc] at h1
 match x, h1 with
 | [c0, c1, c2, c3, c4, c5, c6], _ =>
  have k : Tryz.prog.cellsOf 3 = 1 := by kernel_rfl
  obtain ⟨x0, e0, _⟩ := (h.fld1 Tryz.underlying85 0 rfl rfl rfl k rfl).i64 Tryz.underlying3
  obtain ⟨x1, e1, _⟩ := (h.fld1 Tryz.underlying85 1 rfl rfl rfl k rfl).i64 Tryz.underlying3
  obtain ⟨x2, e2, _⟩ := (h.fld1 Tryz.underlying85 2 rfl rfl rfl k rfl).i64 Tryz.underlying3
  obtain ⟨x3, e3, _⟩ := (h.fld1 Tryz.underlying85 3 rfl rfl rfl k rfl).i64 Tryz.underlying3
  obtain ⟨x4, e4, _⟩ := (h.fld1 Tryz.underlying85 4 rfl rfl rfl k rfl).i64 Tryz.underlying3
  obtain ⟨x5, e5, _⟩ := (h.fld1 Tryz.underlying85 5 rfl rfl rfl k rfl).i64 Tryz.underlying3
  obtain ⟨x6, e6, _⟩ := (h.fld1 Tryz.underlying85 6 rfl rfl rfl k rfl).i64 Tryz.underlying3
  simp at e0 e1 e2 e3 e4 e5 e6
  subst e0 e1 e2 e3 e4 e5 e6
  exact ⟨⟨x0, x1, x2, x3, x4, x5, x6⟩, rfl, trivial⟩
theorem bk_of {W : World} {x : List Value} (h : RdT Tryz.prog W 171 x) : ∃ a : Bk, x = encB a ∧ True := by
 obtain ⟨h1, _⟩ := h.struct Tryz.underlying171
 have hc : Tryz.prog.cellsOf 171 = 4 := by kernel_rfl
 rw [hc] at h1
 match x, h1 with
 | [c0, c1, c2, c3], _ =>
  have k : Tryz.prog.cellsOf 3 = 1 := by kernel_rfl
  obtain ⟨x0, e0, _⟩ := (h.fld1 Tryz.underlying171 0 rfl rfl rfl k rfl).i64 Tryz.underlying3
  obtain ⟨x1, e1, _⟩ := (h.fld1 Tryz.underlying171 1 rfl rfl rfl k rfl).i64 Tryz.underlying3
  obtain ⟨x2, e2, _⟩ := (h.fld1 Tryz.underlying171 2 rfl rfl rfl k rfl).i64 Tryz.underlying3
  obtain ⟨x3, e3, _⟩ := (h.fld1 Tryz.underlying171 3 rfl rfl rfl k rfl).i64 Tryz.underlying3
  simp at e0 e1 e2 e3
  subst e0 e1 e2 e3
  exact ⟨⟨x0, x1, x2, x3⟩, rfl, trivial⟩
theorem hd_of {W : World} {x : List Value} (h : RdT Tryz.prog W 133 x) : ∃ a : Hd, x = encH a ∧ True := by
 obtain ⟨h1, _⟩ := h.struct Tryz.underlying133
 have hc : Tryz.prog.cellsOf 133 = 5 := by kernel_rfl
 rw [hc] at h1
 match x, h1 with
 | [c0, c1, c2, c3, c4], _ =>
  have k : Tryz.prog.cellsOf 3 = 1 := by kernel_rfl
  obtain ⟨x0, e0, _⟩ := (h.fld1 Tryz.underlying133 0 rfl rfl rfl k rfl).i64 Tryz.underlying3
  obtain ⟨x1, e1, _⟩ := (h.fld1 Tryz.underlying133 1 rfl rfl rfl k rfl).i64 Tryz.underlying3
  obtain ⟨x2, e2, _⟩ := (h.fld1 Tryz.underlying133 2 rfl rfl rfl k rfl).i64 Tryz.underlying3
  obtain ⟨x3, e3, _⟩ := (h.fld1 Tryz.underlying133 3 rfl rfl rfl k rfl).i64 Tryz.underlying3
  obtain ⟨x4, e4, _⟩ := (h.fld1 Tryz.underlying133 4 rfl rfl rfl k rfl).i64 Tryz.underlying3
  simp at e0 e1 e2 e3 e4
  subst e0 e1 e2 e3 e4
  exact ⟨⟨x0, x1, x2, x3, x4⟩, rfl, trivial⟩
theorem demand_of {W : World} {r : Reach} {base : Nat} {v0 : Value} (hv : Value.okWide Tryz.prog W r base 31 v0) (h : RdT Tryz.prog W 31 v0.cells.toList) : ∃ a : Dm, v0 = .agg [int a.s, int a.d, int a.v, int a.r, int a.e].toArray ∧ In64 a.s ∧ In64 a.d ∧ In64 a.v ∧ In64 a.r ∧ In64 a.e := by
 obtain ⟨cs, rfl⟩ := okWide_agg Tryz.underlying31 hv
 obtain ⟨h1, _⟩ := h.struct Tryz.underlying31
 have hc : Tryz.prog.cellsOf 31 = 5 := by kernel_rfl
 rw [hc] at h1
 obtain ⟨x⟩ := cs
 match x, h1 with
 | [c0, c1, c2, c3, c4], _ =>
  have k : Tryz.prog.cellsOf 3 = 1 := by kernel_rfl
  obtain ⟨x0, e0, i0⟩ := (h.fld1 Tryz.underlying31 0 rfl rfl rfl k rfl).i64 Tryz.underlying3
  obtain ⟨x1, e1, i1⟩ := (h.fld1 Tryz.underlying31 1 rfl rfl rfl k rfl).i64 Tryz.underlying3
  obtain ⟨x2, e2, i2⟩ := (h.fld1 Tryz.underlying31 2 rfl rfl rfl k rfl).i64 Tryz.underlying3
  obtain ⟨x3, e3, i3⟩ := (h.fld1 Tryz.underlying31 3 rfl rfl rfl k rfl).i64 Tryz.underlying3
  obtain ⟨x4, e4, i4⟩ := (h.fld1 Tryz.underlying31 4 rfl rfl rfl k rfl).i64 Tryz.underlying3
  simp at e0 e1 e2 e3 e4
  subst e0 e1 e2 e3 e4
  exact ⟨⟨x0, x1, x2, x3, x4⟩, rfl, i0, i1, i2, i3, i4⟩
theorem int_of {W : World} {x : List Value} (h : RdT Tryz.prog W 3 x) : ∃ a : Int, x = Eng.encI a ∧ True := by
 obtain ⟨a, e, _⟩ := h.i64 Tryz.underlying3
 exact ⟨a, e, trivial⟩
theorem tables_of {W : World} {r : Reach} {base : Nat} {v0 : Value} (hv : Value.okWide Tryz.prog W r base 29 v0) (h : RdT Tryz.prog W 29 v0.cells.toList) :
  ∃ (pq pc pb ph : Option Addr) (kq kc kb kh : Nat) (qs : List Int) (cs : List Ct) (bs : List Bk) (hs : List Hd), v0 = .agg #[.slice pq qs.length kq, .slice pc cs.length kc, .slice pb bs.length kb, .slice ph hs.length kh] ∧ TbAt (heapPH W) (heapPH W) (heapPH W) (heapPH W) pq pc pb ph kq kc kb kh qs cs bs hs := by
 obtain ⟨cs, rfl⟩ := okWide_agg Tryz.underlying29 hv
 obtain ⟨h1, hf⟩ := h.struct Tryz.underlying29
 have hc : Tryz.prog.cellsOf 29 = 4 := by kernel_rfl
 rw [hc] at h1
 obtain ⟨x⟩ := cs
 match x, h1 with
 | [c0, c1, c2, c3], _ =>
  have k0 : Tryz.prog.cellsOf 22 = 1 := by kernel_rfl
  have k1 : Tryz.prog.cellsOf 23 = 1 := by kernel_rfl
  have k2 : Tryz.prog.cellsOf 26 = 1 := by kernel_rfl
  have k3 : Tryz.prog.cellsOf 27 = 1 := by kernel_rfl
  have kp : Tryz.prog.cellsOf 25 = 2 := by kernel_rfl
  have hp : RdT Tryz.prog W 25 [c0, c1] := by
   have : RdT Tryz.prog W 25 ((([c0, c1, c2, c3] : List Value).drop 0).take (Tryz.prog.cellsOf 25)) := hf 0 _ rfl
   rw [show (Tryz.prog.cellsOf 25) = 2 from kp] at this
   exact this
  have f0 := hp.fld1 Tryz.underlying25 0 rfl rfl rfl k0 rfl
  have f1 := hp.fld1 Tryz.underlying25 1 rfl rfl rfl k1 rfl
  have f2 := h.fld1 Tryz.underlying29 1 rfl rfl rfl k2 rfl
  have f3 := h.fld1 Tryz.underlying29 2 rfl rfl rfl k3 rfl
  obtain ⟨v, e, qs, a1, a2, a3⟩ := f0.sliceE Tryz.underlying22 (s := 1) (by kernel_rfl) (by omega) (fun x hx => int_of hx)
  simp only [List.cons.injEq, and_true] at e
  obtain ⟨u, e', ct, b1, b2, b3⟩ := f1.sliceE Tryz.underlying23 (s := 7) (by kernel_rfl) (by omega) (fun x hx => ct_of hx)
  simp only [List.cons.injEq, and_true] at e'
  obtain ⟨u2, e2, bk, d1, d2, d3⟩ := f2.sliceE Tryz.underlying26 (s := 4) (by kernel_rfl) (by omega) (fun x hx => bk_of hx)
  simp only [List.cons.injEq, and_true] at e2
  obtain ⟨u3, e3, hd, g1, g2, g3⟩ := f3.sliceE Tryz.underlying27 (s := 5) (by kernel_rfl) (by omega) (fun x hx => hd_of hx)
  simp only [List.cons.injEq, and_true] at e3
  have cap2 := f1.capOK Tryz.underlying23
  subst e e' e2 e3
  obtain ⟨pq, kq, rfl, _⟩ := a1.val Eng.encI_len
  obtain ⟨pc, kc, rfl, _⟩ := b1.val encC_len
  obtain ⟨pb, kb, rfl, _⟩ := d1.val encB_len
  obtain ⟨ph, kh, rfl, _⟩ := g1.val encH_len
  simp only [maxLen] at a3 b3 d3 g3
  exact ⟨pq, pc, pb, ph, kq, kc, kb, kh, qs, ct, bk, hd, rfl, a1, b1, cap2.le, by omega, by omega, d1, by omega, g1, by omega⟩
end Go.Proofs.YtknfhiolenobaaaGreat
/- The rows: each law, for every input. -/
namespace Go.Proofs.YtknfhiolenobaaaGreat
open Go.Eng Go.Step
set_option maxRecDepth 100000
set_option maxHeartbeats 4000000
open Go.ChangeShapes Go.WideShapes Go.ChangeAt Go.RowKit

theorem intsV_of {W : World} {r : Reach} {base : Nat} {v0 : Value} (hv : Value.okWide Tryz.prog W r base 22 v0) (h : RdT Tryz.prog W 22 v0.cells.toList) : ∃ l : List Int, IntsAt (heapPH W) v0 l ∧ CapOK v0 ∧ l.length ≤ 9223372036854775807 := by
 obtain ⟨a, len, cap, rfl⟩ := okWide_slice Tryz.underlying22 hv
 have h' : RdT Tryz.prog W 22 [Value.slice a len cap] := h
 obtain ⟨v, e, l, h1, h2, h3⟩ := h'.sliceE Tryz.underlying22 (s := 1) (by kernel_rfl) (by omega) (fun x hx => int_of hx)
 simp only [List.cons.injEq, and_true] at e
 subst e
 exact ⟨l, h1, h'.capOK Tryz.underlying22, by simp only [maxLen] at h3; omega⟩
end Go.Proofs.YtknfhiolenobaaaGreat
/- Shipments and stocks, of the reference. -/
namespace Go.Proofs.YtknfhiolenobaaaGreat
open Go.Eng Go.Step
set_option maxRecDepth 100000
set_option maxHeartbeats 4000000

theorem ship1_ok {cs : List Ct} {bs : List Bk} {d : Dm} {x : Sh} (h : ship1 cs bs d x = 0) : ∃ (nn : Nat) (c : Ct), x.c = nn ∧ cs[nn]? = some c ∧ ctOf cs x = c ∧ (d.r ≤ x.t ∧ c.s ≤ x.t ∧ x.t < c.e ∧ 1 ≤ x.n ∧ x.n ≤ c.r) ∧ x.t + 1 + c.g ≤ d.e ∧ arrOf cs x = x.t + 1 + c.g := by
 unfold ship1 at h
 by_cases h1 : x.c < 0 ∨ (cs.length : Int) ≤ x.c
 ·rw [if_pos h1] at h; omega
 rw [if_neg h1] at h
 have hlt : x.c.toNat < cs.length := by omega
 rw [List.getElem?_eq_getElem hlt] at h
 dsimp only at h
 have hct : ctOf cs x = cs[x.c.toNat] := by unfold ctOf; rw [List.getD_eq_getElem?_getD, List.getElem?_eq_getElem hlt]; rfl
 by_cases h2 : x.t < d.r ∨ x.t < cs[x.c.toNat].s ∨ cs[x.c.toNat].e ≤ x.t ∨ x.n < 1 ∨ cs[x.c.toNat].r < x.n
 ·rw [if_pos h2] at h; omega
 rw [if_neg h2] at h
 by_cases h3 : d.e < x.t + 1 + cs[x.c.toNat].g
 ·rw [if_pos h3] at h; omega
 exact ⟨x.c.toNat, cs[x.c.toNat], by omega, List.getElem?_eq_getElem hlt, hct, by omega, by omega, by unfold arrOf; rw [hct]⟩
theorem shipE_bad {cs : List Ct} {bs : List Bk} {d : Dm} {l : List Sh} {i : Nat} {x : Sh} {e : Int} (h : l[i]? = some x) (h1 : ship1 cs bs d x = e) (h0 : e ≠ 0) : shipE cs bs d l i = e := by rw [shipE_at h, h1, if_pos h0]
theorem shipE_good {cs : List Ct} {bs : List Bk} {d : Dm} {l : List Sh} {i : Nat} {x : Sh} (h : l[i]? = some x) (h1 : ship1 cs bs d x = 0) : shipE cs bs d l i = if (l.take i).any (sameSl x) then 14 else 0 := by rw [shipE_at h, h1, if_neg (by simp)]
end Go.Proofs.YtknfhiolenobaaaGreat
/- Stocks, of the reference. -/
namespace Go.Proofs.YtknfhiolenobaaaGreat
open Go.Eng Go.Step
set_option maxRecDepth 100000
set_option maxHeartbeats 4000000

end Go.Proofs.YtknfhiolenobaaaGreat
/- Flow, of the reference. -/
namespace Go.Proofs.YtknfhiolenobaaaGreat
open Go.Eng Go.Step
set_option maxRecDepth 100000
set_option maxHeartbeats 4000000

theorem valid_ok {qs : List Int} {cs : List Ct} {bs : List Bk} {hs : List Hd} {d : Dm} (h : validT qs cs bs hs d = true) : (∀ c ∈ cs, chkCt c = 0 ∧ c.f < qs.length ∧ c.t < qs.length) ∧ bs.length ≤ 512 ∧ (∀ x ∈ hs, okHd qs.length x) ∧ hs.length ≤ 512 ∧ (1 ≤ qs.length ∧ qs.length ≤ 16) ∧ (∀ (j : Nat) (q : Int), qs[j]? = some q → 0 ≤ q ∧ q ≤ 1073741824) ∧ okDm qs.length d ∧ cs.length ≤ 64 := by
 obtain ⟨h1, h2⟩ := of_decide_eq_true h
 obtain ⟨p, b, hh⟩ := chkT_ok h1
 obtain ⟨k1, k2⟩ := chkPl_ct p
 obtain ⟨k3, k4⟩ := chkPl_quo p
 have k5 := chkB_ok b
 have k6 : (∀ x ∈ hs, okHd qs.length x) ∧ hs.length ≤ 512 := by
  unfold chkH at hh
  rw [if_neg (by simpa using p)] at hh
  by_cases c1 : 512 < hs.length
  ·rw [if_pos c1] at hh; omega
  rw [if_neg c1] at hh
  by_cases c2 : firstE (hdE qs.length hs) hs.length = 0
  ·have := hdE_ok c2
   rw [List.take_length] at this
   exact ⟨this, by omega⟩
  ·rw [if_pos c2] at hh; exact absurd hh c2
 exact ⟨k2, k5.1, k6.1, k6.2, k3, k4, h2, k1⟩
theorem ships_ok {cs : List Ct} {bs : List Bk} {d : Dm} {l : List Sh} (h : firstE (shipE cs bs d l) l.length = 0) : ∀ x ∈ l, ship1 cs bs d x = 0 := fun x hx => by
 obtain ⟨i, hi, rfl⟩ := List.getElem_of_mem hx
 have h2 := firstE_zero h i hi
 rw [shipE_at (List.getElem?_eq_getElem hi)] at h2
 by_cases c : ship1 cs bs d l[i] = 0
 ·exact c
 ·rw [if_pos c] at h2; exact h2
end Go.Proofs.YtknfhiolenobaaaGreat
/- A set of integers lies between its first and its last. No program in sight. No conditions. -/
namespace Go.Step
theorem chkI_at {l : List (Int × Int)} (h : chkI l = 0) {i : Nat} (hi : i < l.length) : l[i].1 < l[i].2 ∧ (∀ h0 : 0 < i, l[i - 1].2 < l[i].1) := by
  unfold chkI at h
  split at h
  · simp at h
  have h2 := firstE_zero h i hi
  rw [spE_at (List.getElem?_eq_getElem hi)] at h2
  split at h2
  · simp at h2
  rename_i h3
  split at h2
  · simp at h2
  rename_i h4
  have h5 : okSp l[i] := Decidable.not_not.1 h3
  refine ⟨h5.1, fun h0 => ?_⟩
  rw [List.getD_eq_getElem?_getD, List.getElem?_eq_getElem (by omega), Option.getD_some] at h4
  omega
theorem chkI_lo {l : List (Int × Int)} (h : chkI l = 0) : ∀ {i : Nat} (hi : i < l.length), l[0].1 ≤ l[i].1
  | 0, hi => Int.le_refl _
  | i + 1, hi => by
    have h1 := chkI_lo h (i := i) (by omega)
    have h2 := (chkI_at h (i := i) (by omega)).1
    have h3 := (chkI_at h hi).2 (by omega)
    simp only [Nat.add_sub_cancel] at h3
    omega
theorem chkI_hi {l : List (Int × Int)} (h : chkI l = 0) : ∀ (k : Nat) {i : Nat} (hi : i + k < l.length), l[i].2 ≤ l[i + k].2
  | 0, i, hi => Int.le_refl _
  | k + 1, i, hi => by
    have h1 := chkI_hi h k (i := i) (by omega)
    have h2 := (chkI_at h (i := i + (k + 1)) hi).1
    have h3 := (chkI_at h hi).2 (by omega)
    have e : i + (k + 1) - 1 = i + k := by omega
    simp only [e] at h3
    omega
theorem badS_ends {l : List (Int × Int)} (h : chkI l = 0) (hp : 0 < l.length) (d : Dm) : l.any (badS d) = (decide (l[0].1 < d.r) || decide (d.e + 1 < l[l.length - 1].2)) := by
  rw [Bool.eq_iff_iff, List.any_eq_true, Bool.or_eq_true, decide_eq_true_eq, decide_eq_true_eq]
  constructor
  · rintro ⟨x, hx, hb⟩
    obtain ⟨i, hi, rfl⟩ := List.getElem_of_mem hx
    unfold badS at hb
    rw [Bool.or_eq_true, decide_eq_true_eq, decide_eq_true_eq] at hb
    have h1 := chkI_lo h hi
    have h2 := chkI_hi h (l.length - 1 - i) (i := i) (by omega)
    have e : i + (l.length - 1 - i) = l.length - 1 := by omega
    simp only [e] at h2
    omega
  · rintro (h1 | h1)
    · exact ⟨_, List.getElem_mem hp, by unfold badS; rw [decide_eq_true h1]; rfl⟩
    · exact ⟨_, List.getElem_mem (show l.length - 1 < l.length by omega), by unfold badS; rw [decide_eq_true h1, Bool.or_true]⟩
end Go.Step
/- Union and intersection of sets of integers. No program in sight. No conditions. -/
namespace Go.Step
abbrev Iv := List (Int × Int)
def NormI (l : Iv) : Prop := (∀ x ∈ l, x.1 < x.2) ∧ l.Pairwise (fun x y => x.2 < y.1)
def memI (l : Iv) (t : Int) : Bool := l.any (inSp t)
theorem inSp_iff {t : Int} {x : Int × Int} : inSp t x = true ↔ x.1 ≤ t ∧ t < x.2 := by simp [inSp]
theorem memI_iff {l : Iv} {t : Int} : memI l t = true ↔ ∃ x ∈ l, x.1 ≤ t ∧ t < x.2 := by simp [memI, inSp]
theorem memI_cons (x : Int × Int) (l : Iv) (t : Int) : memI (x :: l) t = (inSp t x || memI l t) := rfl
theorem NormI.nil : NormI [] := ⟨by simp, .nil⟩
theorem NormI.tail {x : Int × Int} {l : Iv} (h : NormI (x :: l)) : NormI l := ⟨fun y hy => h.1 y (by simp [hy]), (List.pairwise_cons.1 h.2).2⟩
theorem NormI.hd {x : Int × Int} {l : Iv} (h : NormI (x :: l)) : x.1 < x.2 ∧ ∀ y ∈ l, x.2 < y.1 := ⟨h.1 x (by simp), (List.pairwise_cons.1 h.2).1⟩
theorem NormI.cons {x : Int × Int} {l : Iv} (h : NormI l) (h1 : x.1 < x.2) (h2 : ∀ y ∈ l, x.2 < y.1) : NormI (x :: l) :=
  ⟨fun y hy => by
    rcases List.mem_cons.1 hy with rfl | hy
    · exact h1
    · exact h.1 y hy, List.pairwise_cons.2 ⟨h2, h.2⟩⟩
theorem memI_lo {x : Int × Int} {l : Iv} {t : Int} (h : NormI (x :: l)) (hm : memI (x :: l) t = true) : x.1 ≤ t := by
  obtain ⟨y, hy, h1, h2⟩ := memI_iff.1 hm
  rcases List.mem_cons.1 hy with rfl | hy
  · exact h1
  · have a := h.hd.1
    have b := h.hd.2 y hy
    omega
theorem memI_lo2 {x : Int × Int} {l : Iv} {t : Int} (h : NormI (x :: l)) (hm : memI l t = true) : x.2 < t := by
  obtain ⟨y, hy, h1, h2⟩ := memI_iff.1 hm
  have b := h.hd.2 y hy
  omega
theorem memI_first {x : Int × Int} {l : Iv} (h : x.1 < x.2) : memI (x :: l) x.1 = true := memI_iff.2 ⟨x, by simp, by omega, h⟩
theorem normI_ext : ∀ {a b : Iv}, NormI a → NormI b → (∀ t, memI a t = memI b t) → a = b
  | [], [], _, _, _ => rfl
  | [], y :: b, _, hb, h => by
    have := h y.1
    rw [memI_first hb.hd.1] at this
    exact absurd this (by simp [memI])
  | x :: a, [], ha, _, h => by
    have := h x.1
    rw [memI_first ha.hd.1] at this
    exact absurd this (by simp [memI])
  | x :: a, y :: b, ha, hb, h => by
    have e1 : x.1 = y.1 := by
      have h1 := memI_lo hb (t := x.1) (by rw [← h]; exact memI_first ha.hd.1)
      have h2 := memI_lo ha (t := y.1) (by rw [h]; exact memI_first hb.hd.1)
      omega
    have hx := ha.hd.1
    have hy := hb.hd.1
    have e2 : x.2 = y.2 := by
      apply Int.le_antisymm
      · apply Int.not_lt.1
        intro hlt
        have h1 := h y.2
        rw [memI_cons, memI_cons, (inSp_iff (t := y.2) (x := x)).2 ⟨by omega, hlt⟩, Bool.true_or] at h1
        rcases (Bool.or_eq_true _ _).mp h1.symm with h2 | h2
        · have := (inSp_iff.1 h2).2; omega
        · have := memI_lo2 hb h2; omega
      · apply Int.not_lt.1
        intro hlt
        have h1 := h x.2
        rw [memI_cons, memI_cons, (inSp_iff (t := x.2) (x := y)).2 ⟨by omega, hlt⟩, Bool.true_or] at h1
        rcases (Bool.or_eq_true _ _).mp h1 with h2 | h2
        · have := (inSp_iff.1 h2).2; omega
        · have := memI_lo2 ha h2; omega
    have exy : x = y := Prod.ext e1 e2
    subst exy
    congr 1
    refine normI_ext ha.tail hb.tail (fun t => ?_)
    by_cases ht : x.2 < t
    · have h1 := h t
      have h2 : inSp t x = false := by
        cases e : inSp t x with
        | false => rfl
        | true => have := (inSp_iff.1 e).2; omega
      rw [memI_cons, memI_cons, h2, Bool.false_or, Bool.false_or] at h1
      exact h1
    · have h1 : memI a t = false := by
        cases e : memI a t with
        | false => rfl
        | true => exact absurd (memI_lo2 ha e) ht
      have h2 : memI b t = false := by
        cases e : memI b t with
        | false => rfl
        | true => exact absurd (memI_lo2 hb e) ht
      rw [h1, h2]
/-! sets that are checked -/
theorem chkI_norm {l : Iv} (h : chkI l = 0) : l.length ≤ 1000 ∧ NormI l ∧ ∀ x ∈ l, okSp x := by
  have h1 : l.length ≤ 1000 := by
    unfold chkI at h
    split at h
    · simp at h
    · omega
  refine ⟨h1, ⟨fun x hx => ?_, List.pairwise_iff_getElem.2 (fun i j hi hj hij => ?_)⟩, fun x hx => ?_⟩
  · obtain ⟨i, hi, rfl⟩ := List.getElem_of_mem hx
    exact (chkI_at h hi).1
  · have a := chkI_hi h (j - 1 - i) (i := i) (by omega)
    have b := (chkI_at h hj).2 (by omega)
    have e : i + (j - 1 - i) = j - 1 := by omega
    simp only [e] at a
    omega
  · obtain ⟨i, hi, rfl⟩ := List.getElem_of_mem hx
    unfold chkI at h
    rw [if_neg (by omega)] at h
    have h2 := firstE_zero h i hi
    rw [spE_at (List.getElem?_eq_getElem hi)] at h2
    split at h2
    · simp at h2
    · rename_i h3; exact Decidable.not_not.1 h3
theorem chkI_of {l : Iv} (h1 : l.length ≤ 1000) (h2 : NormI l) (h3 : ∀ x ∈ l, okSp x) : chkI l = 0 := by
  unfold chkI
  rw [if_neg (by omega)]
  refine firstE_all (fun k hk => ?_)
  rw [spE_at (List.getElem?_eq_getElem hk), if_neg (fun h => h (h3 _ (List.getElem_mem hk)))]
  by_cases h0 : 0 < k
  · have h4 := List.pairwise_iff_getElem.1 h2.2 (k - 1) k (by omega) hk (by omega)
    rw [if_neg]
    rw [List.getD_eq_getElem?_getD, List.getElem?_eq_getElem (by omega), Option.getD_some]
    omega
  · rw [if_neg (fun h => h0 h.1)]
theorem hasI_mem {l : Iv} (h : chkI l = 0) (t : Int) : hasI l t = memI l t := by unfold hasI memI; rw [decide_eq_true h, Bool.true_and]
/-! one more span -/
def absI : Iv → Int × Int → Iv
  | [], x => [x]
  | y :: l, x => if y.1 ≤ x.2 then absI l (min x.1 y.1, max x.2 y.2) else x :: y :: l
def insI : Iv → Int × Int → Iv
  | [], x => [x]
  | y :: l, x => if y.2 < x.1 then y :: insI l x else absI (y :: l) x
theorem absI_ok : ∀ {l : Iv} {x : Int × Int} {lo : Int}, NormI l → x.1 < x.2 → (∀ y ∈ l, x.1 ≤ y.2) → lo < x.1 → (∀ y ∈ l, lo < y.1) → NormI (absI l x) ∧ (∀ t, memI (absI l x) t = (memI l t || inSp t x)) ∧ (∀ z ∈ absI l x, lo < z.1) ∧ (absI l x).length ≤ l.length + 1
  | [], x, lo, _, h, _, hlo, _ => ⟨NormI.nil.cons h (by simp), fun t => by simp [absI, memI], by simpa [absI] using hlo, by simp [absI]⟩
  | y :: l, x, lo, hn, h, hy, hlo, hl => by
    unfold absI
    have hy1 := hn.hd.1
    have hy2 := hy y (by simp)
    have hl1 := hl y (by simp)
    split
    · rename_i hc
      obtain ⟨a, b, c, d⟩ := absI_ok (l := l) (x := (min x.1 y.1, max x.2 y.2)) (lo := lo) hn.tail (by dsimp only; omega) (fun z hz => by have := hn.hd.2 z hz; have := hn.1 z (by simp [hz]); dsimp only; omega) (by dsimp only; omega) (fun z hz => hl z (by simp [hz]))
      refine ⟨a, fun t => ?_, c, by simp only [List.length_cons]; omega⟩
      rw [b, memI_cons]
      have e : inSp t (min x.1 y.1, max x.2 y.2) = (inSp t x || inSp t y) := by
        rw [Bool.eq_iff_iff, Bool.or_eq_true, inSp_iff, inSp_iff, inSp_iff]
        dsimp only
        omega
      rw [e]
      cases inSp t x <;> cases inSp t y <;> cases memI l t <;> rfl
    · rename_i hc
      refine ⟨hn.cons h (fun z hz => ?_), fun t => ?_, fun z hz => ?_, by simp⟩
      · rcases List.mem_cons.1 hz with rfl | hz
        · omega
        · have := hn.hd.2 z hz; omega
      · rw [memI_cons, Bool.or_comm]
      · rcases List.mem_cons.1 hz with rfl | hz
        · exact hlo
        · exact hl z hz
theorem insI_ok : ∀ {l : Iv} {x : Int × Int} {lo : Int}, NormI l → x.1 < x.2 → lo < x.1 → (∀ y ∈ l, lo < y.1) → NormI (insI l x) ∧ (∀ t, memI (insI l x) t = (memI l t || inSp t x)) ∧ (∀ z ∈ insI l x, lo < z.1) ∧ (insI l x).length ≤ l.length + 1
  | [], x, lo, _, h, hlo, _ => ⟨NormI.nil.cons h (by simp), fun t => by simp [insI, memI], by simpa [insI] using hlo, by simp [insI]⟩
  | y :: l, x, lo, hn, h, hlo, hl => by
    unfold insI
    have hy1 := hn.hd.1
    have hl1 := hl y (by simp)
    split
    · rename_i hc
      obtain ⟨a, b, c, d⟩ := insI_ok (l := l) (x := x) (lo := y.2) hn.tail h hc hn.hd.2
      refine ⟨a.cons hy1 c, fun t => ?_, fun z hz => ?_, by simp only [List.length_cons]; omega⟩
      · rw [memI_cons, b, memI_cons, Bool.or_assoc]
      · rcases List.mem_cons.1 hz with rfl | hz
        · exact hl1
        · have := c z hz; omega
    · rename_i hc
      refine absI_ok hn h (fun z hz => ?_) hlo hl
      rcases List.mem_cons.1 hz with rfl | hz
      · omega
      · have := hn.hd.2 z hz
        have := hn.1 z (by simp [hz])
        omega
theorem lo_ex (l : Iv) (x : Int) : ∃ lo, lo < x ∧ ∀ y ∈ l, lo < y.1 := by
  induction l with
  | nil => exact ⟨x - 1, by omega, by simp⟩
  | cons y l ih =>
    obtain ⟨lo, h1, h2⟩ := ih
    refine ⟨min lo (y.1 - 1), by omega, fun z hz => ?_⟩
    rcases List.mem_cons.1 hz with rfl | hz
    · omega
    · have := h2 z hz; omega
theorem insI_norm {l : Iv} {x : Int × Int} (h : NormI l) (hx : x.1 < x.2) : NormI (insI l x) ∧ (∀ t, memI (insI l x) t = (memI l t || inSp t x)) ∧ (insI l x).length ≤ l.length + 1 := by
  obtain ⟨lo, h1, h2⟩ := lo_ex l x.1
  obtain ⟨a, b, _, d⟩ := insI_ok h hx h1 h2
  exact ⟨a, b, d⟩
def insAll (a : Iv) (b : Iv) : Iv := b.foldl insI a
theorem insAll_ok : ∀ {b a : Iv}, NormI a → (∀ x ∈ b, x.1 < x.2) → NormI (insAll a b) ∧ (∀ t, memI (insAll a b) t = (memI a t || memI b t)) ∧ (insAll a b).length ≤ a.length + b.length
  | [], a, h, _ => ⟨h, fun t => by simp [insAll, memI], by simp [insAll]⟩
  | x :: b, a, h, hb => by
    obtain ⟨a1, a2, a3⟩ := insI_norm h (hb x (by simp))
    obtain ⟨b1, b2, b3⟩ := insAll_ok (b := b) a1 (fun y hy => hb y (by simp [hy]))
    refine ⟨b1, fun t => ?_, ?_⟩
    · show memI (insAll (insI a x) b) t = _
      rw [b2, a2, memI_cons, Bool.or_assoc]
    · show (insAll (insI a x) b).length ≤ _
      simp only [List.length_cons]
      omega
/-! intersection, span by span -/
/-! ends of spans -/
def tog (l : Iv) : List Int := l.flatMap (fun x => [x.1, x.2])
theorem tog_len : ∀ l : Iv, (tog l).length = 2 * l.length
  | [] => rfl
  | x :: l => by
    have := tog_len l
    show (x.1 :: x.2 :: tog l).length = _
    simp only [List.length_cons]
    omega
theorem tog_get : ∀ (l : Iv) (i : Nat) (x : Int × Int), l[i]? = some x → (tog l)[2 * i]? = some x.1 ∧ (tog l)[2 * i + 1]? = some x.2
  | [], i, x, h => by simp at h
  | y :: l, 0, x, h => by
    simp only [List.getElem?_cons_zero, Option.some.injEq] at h
    subst h
    exact ⟨rfl, rfl⟩
  | y :: l, i + 1, x, h => by
    have := tog_get l i x (by simpa using h)
    show (y.1 :: y.2 :: tog l)[2 * (i + 1)]? = _ ∧ (y.1 :: y.2 :: tog l)[2 * (i + 1) + 1]? = _
    rw [show 2 * (i + 1) = 2 * i + 1 + 1 by omega]
    exact this
def parT : List Int → Int → Bool
  | [], _ => false
  | e :: E, t => if e ≤ t then !(parT E t) else parT E t
theorem parT_tog : ∀ {l : Iv}, NormI l → ∀ t, parT (tog l) t = memI l t
  | [], _, t => rfl
  | x :: l, h, t => by
    have ih := parT_tog h.tail t
    have hx := h.hd.1
    show (if x.1 ≤ t then !(if x.2 ≤ t then !(parT (tog l) t) else parT (tog l) t) else (if x.2 ≤ t then !(parT (tog l) t) else parT (tog l) t)) = (inSp t x || memI l t)
    rw [ih]
    have h1 : t ≤ x.2 → memI l t = false := fun hle => by
      cases e : memI l t with
      | false => rfl
      | true => have := memI_lo2 h e; omega
    have h2 : inSp t x = decide (x.1 ≤ t ∧ t < x.2) := by rw [Bool.eq_iff_iff, inSp_iff, decide_eq_true_eq]
    rw [h2]
    by_cases c1 : x.1 ≤ t
    · by_cases c2 : x.2 ≤ t
      · rw [if_pos c1, if_pos c2, decide_eq_false (by omega), Bool.not_not, Bool.false_or]
      · rw [if_pos c1, if_neg c2, decide_eq_true (by omega), h1 (by omega)]; rfl
    · rw [if_neg c1, if_neg (by omega), decide_eq_false (by omega), Bool.false_or]
def oddB (n : Nat) : Bool := decide (n % 2 = 1)
theorem oddB_succ (n : Nat) : oddB (n + 1) = !(oddB n) := by
  unfold oddB
  by_cases h : n % 2 = 1
  · rw [decide_eq_true h, decide_eq_false (by omega)]; rfl
  · rw [decide_eq_false h, decide_eq_true (by omega)]; rfl
theorem parT_snoc (t x : Int) : ∀ O : List Int, parT (O ++ [t]) x = if t ≤ x then !(parT O x) else parT O x
  | [] => by simp [parT]
  | o :: O => by
    have ih := parT_snoc t x O
    show (if o ≤ x then !(parT (O ++ [t]) x) else parT (O ++ [t]) x) = if t ≤ x then !(if o ≤ x then !(parT O x) else parT O x) else (if o ≤ x then !(parT O x) else parT O x)
    rw [ih]
    split <;> split <;> rfl
theorem parT_all {x : Int} : ∀ {O : List Int}, (∀ o ∈ O, o ≤ x) → parT O x = oddB O.length
  | [], _ => rfl
  | o :: O, h => by
    show (if o ≤ x then !(parT O x) else parT O x) = oddB (O.length + 1)
    rw [if_pos (h o (by simp)), parT_all (fun p hp => h p (by simp [hp])), oddB_succ]
theorem parT_none {x : Int} : ∀ {O : List Int}, (∀ o ∈ O, x < o) → parT O x = false
  | [], _ => rfl
  | o :: O, h => by
    show (if o ≤ x then !(parT O x) else parT O x) = false
    have := h o (by simp)
    rw [if_neg (by omega), parT_none (fun p hp => h p (by simp [hp]))]
def mrg : List Int → Bool → List Int → Bool → List (Int × Bool × Bool)
  | [], _, [], _ => []
  | a :: A, p, [], q => (a, !p, q) :: mrg A (!p) [] q
  | [], p, b :: B, q => (b, p, !q) :: mrg [] p B (!q)
  | a :: A, p, b :: B, q => if a < b then (a, !p, q) :: mrg A (!p) (b :: B) q else if b < a then (b, p, !q) :: mrg (a :: A) p B (!q) else (a, !p, !q) :: mrg A (!p) B (!q)
termination_by A _ B _ => A.length + B.length
def mcomb1 (f : Bool → Bool → Bool) (O : List Int) (e : Int × Bool × Bool) : List Int := if f e.2.1 e.2.2 = oddB O.length then O else O ++ [e.1]
def mcomb (f : Bool → Bool → Bool) (S : List (Int × Bool × Bool)) (O : List Int) : List Int := S.foldl (mcomb1 f) O
theorem comb1_odd (f : Bool → Bool → Bool) (O : List Int) (e : Int × Bool × Bool) : oddB (mcomb1 f O e).length = f e.2.1 e.2.2 := by
  unfold mcomb1
  split
  · rename_i h; exact h.symm
  · rename_i h
    rw [List.length_append, List.length_singleton, oddB_succ]
    cases h1 : oddB O.length <;> cases h2 : f e.2.1 e.2.2 <;> simp_all
structure Cm (f : Bool → Bool → Bool) (A : List Int) (p : Bool) (B : List Int) (q : Bool) (O O' : List Int) : Prop where
  asc : O'.Pairwise (· < ·)
  hi : ∀ x, (∀ o ∈ O, o ≤ x) → parT O' x = f (p ^^ parT A x) (q ^^ parT B x)
  lo : ∀ x, (∀ a ∈ A, x < a) → (∀ b ∈ B, x < b) → parT O' x = parT O x
  len : O'.length ≤ O.length + A.length + B.length
theorem Cm.step {f : Bool → Bool → Bool} {A A1 : List Int} {p p1 : Bool} {B B1 : List Int} {q q1 : Bool} {O O' : List Int} {t : Int}
    (h : Cm f A1 p1 B1 q1 (mcomb1 f O (t, p1, q1)) O') (ho : oddB O.length = f p q) (hA : ∀ a ∈ A, t ≤ a) (hB : ∀ b ∈ B, t ≤ b) (hOt : ∀ o ∈ O, o < t)
    (eA : ∀ x, t ≤ x → (p1 ^^ parT A1 x) = (p ^^ parT A x)) (eB : ∀ x, t ≤ x → (q1 ^^ parT B1 x) = (q ^^ parT B x)) (sA : ∀ a ∈ A1, t < a) (sB : ∀ b ∈ B1, t < b) (hl : A1.length + B1.length + 1 ≤ A.length + B.length) (hin : t ∈ A ∨ t ∈ B) : Cm f A p B q O O' := by
  have hmem : ∀ o ∈ mcomb1 f O (t, p1, q1), o ≤ t := fun o ho => by
    unfold mcomb1 at ho
    split at ho
    · have := hOt o ho; omega
    · rcases List.mem_append.1 ho with h | h
      · have := hOt o h; omega
      · have := List.mem_singleton.1 h; omega
  have hpre : ∀ x, x < t → parT (mcomb1 f O (t, p1, q1)) x = parT O x := fun x hx => by
    unfold mcomb1
    split
    · rfl
    · rw [parT_snoc, if_neg (by dsimp only; omega)]
  have hcl : (mcomb1 f O (t, p1, q1)).length ≤ O.length + 1 := by
    unfold mcomb1
    split
    · omega
    · simp
  refine ⟨h.asc, fun x hx => ?_, fun x hx hy => ?_, by have := h.len; omega⟩
  · by_cases ht : t ≤ x
    · rw [h.hi x (fun o ho => Int.le_trans (hmem o ho) ht), eA x ht, eB x ht]
    · rw [h.lo x (fun a ha => by have := sA a ha; omega) (fun b hb => by have := sB b hb; omega), hpre x (by omega), parT_all hx, parT_none (fun a ha => by have := hA a ha; omega), parT_none (fun b hb => by have := hB b hb; omega), Bool.xor_false, Bool.xor_false, ho]
  · have ht : x < t := by
      rcases hin with h | h
      · exact hx t h
      · exact hy t h
    rw [h.lo x (fun a ha => by have := sA a ha; omega) (fun b hb => by have := sB b hb; omega), hpre x ht]
theorem comb1_asc {f : Bool → Bool → Bool} {O : List Int} {e : Int × Bool × Bool} (h : O.Pairwise (· < ·)) (ho : ∀ o ∈ O, o < e.1) : (mcomb1 f O e).Pairwise (· < ·) := by
  unfold mcomb1
  split
  · exact h
  · rw [List.pairwise_append]
    exact ⟨h, List.pairwise_singleton _ _, fun a ha b hb => by rw [List.mem_singleton.1 hb]; exact ho a ha⟩
theorem comb1_lt {f : Bool → Bool → Bool} {O : List Int} {e : Int × Bool × Bool} {S : List Int} (ho : ∀ o ∈ O, ∀ a ∈ S, o < a) (he : ∀ a ∈ S, e.1 < a) : ∀ o ∈ mcomb1 f O e, ∀ a ∈ S, o < a := fun o h a ha => by
  unfold mcomb1 at h
  split at h
  · exact ho o h a ha
  · rcases List.mem_append.1 h with h | h
    · exact ho o h a ha
    · rw [List.mem_singleton.1 h]; exact he a ha
theorem comb_ok (f : Bool → Bool → Bool) : ∀ (n : Nat) (A : List Int) (p : Bool) (B : List Int) (q : Bool) (O : List Int), A.length + B.length ≤ n → A.Pairwise (· < ·) → B.Pairwise (· < ·) → O.Pairwise (· < ·) → (∀ o ∈ O, ∀ a ∈ A, o < a) → (∀ o ∈ O, ∀ b ∈ B, o < b) → oddB O.length = f p q → Cm f A p B q O (mcomb f (mrg A p B q) O) := by
  have flip : ∀ (p z : Bool), (!p ^^ z) = (p ^^ !z) := by decide
  intro n
  induction n with
  | zero =>
    intro A p B q O hn _ _ hO _ _ ho
    obtain rfl : A = [] := List.eq_nil_of_length_eq_zero (by omega)
    obtain rfl : B = [] := List.eq_nil_of_length_eq_zero (by omega)
    unfold mrg
    exact ⟨hO, fun x hx => by rw [show mcomb f [] O = O from rfl, parT_all hx, ho]; simp [parT], fun _ _ _ => rfl, by show O.length ≤ _; omega⟩
  | succ n ih =>
    intro A p B q O hn hA hB hO hOA hOB ho
    match A, B, hn, hA, hB, hOA, hOB with
    | [], [], _, _, _, _, _ =>
      unfold mrg
      exact ⟨hO, fun x hx => by rw [show mcomb f [] O = O from rfl, parT_all hx, ho]; simp [parT], fun _ _ _ => rfl, by show O.length ≤ _; omega⟩
    | a :: A, [], hn, hA, hB, hOA, hOB =>
      unfold mrg
      obtain ⟨a1, a2⟩ := List.pairwise_cons.1 hA
      refine Cm.step (t := a) (ih A (!p) [] q (mcomb1 f O (a, !p, q)) (by simp at hn ⊢; omega) a2 hB (comb1_asc hO (fun o h => hOA o h a (by simp))) (comb1_lt (fun o h x hx => hOA o h x (by simp [hx])) a1) (fun _ _ _ h => by simp at h) (comb1_odd f O _)) ho (fun x hx => ?_) (fun _ h => by simp at h) (fun o h => hOA o h a (by simp)) (fun x hx => ?_) (fun _ _ => rfl) a1 (fun _ h => by simp at h) (by simp) (.inl (by simp))
      · rcases List.mem_cons.1 hx with rfl | hx
        · exact Int.le_refl _
        · exact Int.le_of_lt (a1 x hx)
      · show (!p ^^ parT A x) = (p ^^ if a ≤ x then !(parT A x) else parT A x)
        rw [if_pos hx, flip]
    | [], b :: B, hn, hA, hB, hOA, hOB =>
      unfold mrg
      obtain ⟨b1, b2⟩ := List.pairwise_cons.1 hB
      refine Cm.step (t := b) (ih [] p B (!q) (mcomb1 f O (b, p, !q)) (by simp at hn ⊢; omega) hA b2 (comb1_asc hO (fun o h => hOB o h b (by simp))) (fun _ _ _ h => by simp at h) (comb1_lt (fun o h x hx => hOB o h x (by simp [hx])) b1) (comb1_odd f O _)) ho (fun _ h => by simp at h) (fun x hx => ?_) (fun o h => hOB o h b (by simp)) (fun _ _ => rfl) (fun x hx => ?_) (fun _ h => by simp at h) b1 (by simp) (.inr (by simp))
      · rcases List.mem_cons.1 hx with rfl | hx
        · exact Int.le_refl _
        · exact Int.le_of_lt (b1 x hx)
      · show (!q ^^ parT B x) = (q ^^ if b ≤ x then !(parT B x) else parT B x)
        rw [if_pos hx, flip]
    | a :: A, b :: B, hn, hA, hB, hOA, hOB =>
      obtain ⟨a1, a2⟩ := List.pairwise_cons.1 hA
      obtain ⟨b1, b2⟩ := List.pairwise_cons.1 hB
      have la : ∀ x ∈ a :: A, a ≤ x := fun x hx => by
        rcases List.mem_cons.1 hx with rfl | hx
        · exact Int.le_refl _
        · exact Int.le_of_lt (a1 x hx)
      have lb : ∀ x ∈ b :: B, b ≤ x := fun x hx => by
        rcases List.mem_cons.1 hx with rfl | hx
        · exact Int.le_refl _
        · exact Int.le_of_lt (b1 x hx)
      unfold mrg
      split
      · rename_i hc
        refine Cm.step (t := a) (ih A (!p) (b :: B) q (mcomb1 f O (a, !p, q)) (by simp at hn ⊢; omega) a2 hB (comb1_asc hO (fun o h => hOA o h a (by simp))) (comb1_lt (fun o h x hx => hOA o h x (by simp [hx])) a1) (comb1_lt hOB (fun x hx => by have := lb x hx; dsimp only; omega)) (comb1_odd f O _)) ho la (fun x hx => by have := lb x hx; omega) (fun o h => hOA o h a (by simp)) (fun x hx => ?_) (fun _ _ => rfl) a1 (fun x hx => by have := lb x hx; omega) (by simp only [List.length_cons]; omega) (.inl (by simp))
        show (!p ^^ parT A x) = (p ^^ if a ≤ x then !(parT A x) else parT A x)
        rw [if_pos hx, flip]
      · rename_i hc
        split
        · rename_i hc2
          refine Cm.step (t := b) (ih (a :: A) p B (!q) (mcomb1 f O (b, p, !q)) (by simp at hn ⊢; omega) hA b2 (comb1_asc hO (fun o h => hOB o h b (by simp))) (comb1_lt hOA (fun x hx => by have := la x hx; dsimp only; omega)) (comb1_lt (fun o h x hx => hOB o h x (by simp [hx])) b1) (comb1_odd f O _)) ho (fun x hx => by have := la x hx; omega) lb (fun o h => hOB o h b (by simp)) (fun _ _ => rfl) (fun x hx => ?_) (fun x hx => by have := la x hx; omega) b1 (by simp only [List.length_cons]; omega) (.inr (by simp))
          show (!q ^^ parT B x) = (q ^^ if b ≤ x then !(parT B x) else parT B x)
          rw [if_pos hx, flip]
        · rename_i hc2
          have hab : a = b := by omega
          subst hab
          refine Cm.step (t := a) (ih A (!p) B (!q) (mcomb1 f O (a, !p, !q)) (by simp at hn ⊢; omega) a2 b2 (comb1_asc hO (fun o h => hOA o h a (by simp))) (comb1_lt (fun o h x hx => hOA o h x (by simp [hx])) a1) (comb1_lt (fun o h x hx => hOB o h x (by simp [hx])) b1) (comb1_odd f O _)) ho la lb (fun o h => hOA o h a (by simp)) (fun x hx => ?_) (fun x hx => ?_) a1 b1 (by simp only [List.length_cons]; omega) (.inl (by simp))
          · show (!p ^^ parT A x) = (p ^^ if a ≤ x then !(parT A x) else parT A x)
            rw [if_pos hx, flip]
          · show (!q ^^ parT B x) = (q ^^ if a ≤ x then !(parT B x) else parT B x)
            rw [if_pos hx, flip]
theorem tog_asc : ∀ {l : Iv}, NormI l → (tog l).Pairwise (· < ·) ∧ ∀ lo, (∀ x ∈ l, lo < x.1) → ∀ e ∈ tog l, lo < e
  | [], _ => ⟨.nil, fun _ _ _ h => by simp [tog] at h⟩
  | x :: l, h => by
    obtain ⟨h1, h2⟩ := tog_asc h.tail
    have e : tog (x :: l) = x.1 :: x.2 :: tog l := rfl
    have hx := h.hd.1
    have h3 := h2 x.2 h.hd.2
    rw [e]
    refine ⟨List.pairwise_cons.2 ⟨fun a ha => ?_, List.pairwise_cons.2 ⟨h3, h1⟩⟩, fun lo hlo a ha => ?_⟩
    · rcases List.mem_cons.1 ha with rfl | ha
      · exact hx
      · have := h3 a ha; omega
    · have := hlo x (by simp)
      rcases List.mem_cons.1 ha with rfl | ha
      · exact this
      · rcases List.mem_cons.1 ha with rfl | ha
        · omega
        · have := h3 a ha; omega
def spans : List Int → Iv
  | [] => []
  | [a] => [(a, 0)]
  | a :: b :: E => (a, b) :: spans E
theorem spans_len : ∀ E : List Int, (spans E).length = (E.length + 1) / 2
  | [] => rfl
  | [_] => by simp [spans]
  | a :: b :: E => by
    have := spans_len E
    simp only [spans, List.length_cons]
    omega
theorem spans_even (t : Int) : ∀ {E : List Int}, oddB E.length = false → spans (E ++ [t]) = spans E ++ [(t, 0)]
  | [], _ => rfl
  | [_], h => by simp [oddB] at h
  | a :: b :: E, h => by
    have h' : oddB E.length = false := by
      simp only [List.length_cons, oddB_succ, Bool.not_not] at h
      exact h
    show (a, b) :: spans (E ++ [t]) = _
    rw [spans_even t h']
    rfl
theorem spans_odd (t : Int) : ∀ {E : List Int}, oddB E.length = true → ∃ l a, spans E = l ++ [(a, 0)] ∧ spans (E ++ [t]) = l ++ [(a, t)]
  | [], h => by simp [oddB] at h
  | [a], _ => ⟨[], a, rfl, rfl⟩
  | a :: b :: E, h => by
    have h' : oddB E.length = true := by
      simp only [List.length_cons, oddB_succ, Bool.not_not] at h
      exact h
    obtain ⟨l, c, h1, h2⟩ := spans_odd t h'
    refine ⟨(a, b) :: l, c, ?_, ?_⟩
    · show (a, b) :: spans E = _
      rw [h1]; rfl
    · show (a, b) :: spans (E ++ [t]) = _
      rw [h2]; rfl
theorem spans_norm : ∀ {E : List Int}, oddB E.length = false → E.Pairwise (· < ·) → NormI (spans E) ∧ tog (spans E) = E
  | [], _, _ => ⟨NormI.nil, rfl⟩
  | [_], h, _ => by simp [oddB] at h
  | a :: b :: E, h, hp => by
    have h' : oddB E.length = false := by
      simp only [List.length_cons, oddB_succ, Bool.not_not] at h
      exact h
    obtain ⟨p1, p2⟩ := List.pairwise_cons.1 hp
    obtain ⟨p3, p4⟩ := List.pairwise_cons.1 p2
    obtain ⟨h1, h2⟩ := spans_norm h' p4
    refine ⟨h1.cons (p1 b (by simp)) (fun y hy => ?_), ?_⟩
    · have : y.1 ∈ tog (spans E) := by
        unfold tog
        rw [List.mem_flatMap]
        exact ⟨y, hy, by simp⟩
      rw [h2] at this
      exact p3 _ this
    · show a :: b :: tog (spans E) = _
      rw [h2]
def combI (f : Bool → Bool → Bool) (a b : Iv) : Iv := spans (mcomb f (mrg (tog a) false (tog b) false) [])
theorem combI_ok {f : Bool → Bool → Bool} (hf : f false false = false) {a b : Iv} (ha : NormI a) (hb : NormI b) : NormI (combI f a b) ∧ (∀ t, memI (combI f a b) t = f (memI a t) (memI b t)) ∧ (combI f a b).length ≤ a.length + b.length := by
  have h := comb_ok f _ (tog a) false (tog b) false [] (Nat.le_refl _) (tog_asc ha).1 (tog_asc hb).1 .nil (fun _ h => by simp at h) (fun _ h => by simp at h) hf.symm
  have hx : ∀ x, parT (mcomb f (mrg (tog a) false (tog b) false) []) x = f (memI a x) (memI b x) := fun x => by
    rw [h.hi x (fun _ h => by simp at h), parT_tog ha, parT_tog hb, Bool.false_xor, Bool.false_xor]
  have hlen := h.len
  rw [tog_len, tog_len] at hlen
  have hodd : oddB (mcomb f (mrg (tog a) false (tog b) false) []).length = false := by
    obtain ⟨B, hB⟩ : ∃ B : Int, (∀ e ∈ mcomb f (mrg (tog a) false (tog b) false) [], e ≤ B) ∧ (∀ x ∈ a, x.2 ≤ B) ∧ (∀ x ∈ b, x.2 ≤ B) := by
      have hi : ∀ E : List Int, ∃ B, ∀ e ∈ E, e ≤ B := fun E => by
        induction E with
        | nil => exact ⟨0, by simp⟩
        | cons e E ih =>
          obtain ⟨B, h⟩ := ih
          exact ⟨max B e, fun x hx => by rcases List.mem_cons.1 hx with rfl | hx; · omega
                                         · have := h x hx; omega⟩
      obtain ⟨B1, h1⟩ := hi (mcomb f (mrg (tog a) false (tog b) false) [])
      obtain ⟨B2, h2⟩ := hi (a.map Prod.snd)
      obtain ⟨B3, h3⟩ := hi (b.map Prod.snd)
      refine ⟨max B1 (max B2 B3), fun e he => ?_, fun x hx => ?_, fun x hx => ?_⟩
      · have := h1 e he; omega
      · have := h2 x.2 (List.mem_map.2 ⟨x, hx, rfl⟩); omega
      · have := h3 x.2 (List.mem_map.2 ⟨x, hx, rfl⟩); omega
    obtain ⟨h1, h2, h3⟩ := hB
    rw [← parT_all h1, hx]
    have n1 : memI a B = false := by
      cases e : memI a B with
      | false => rfl
      | true => obtain ⟨x, hx, _, h5⟩ := memI_iff.1 e; have := h2 x hx; omega
    have n2 : memI b B = false := by
      cases e : memI b B with
      | false => rfl
      | true => obtain ⟨x, hx, _, h5⟩ := memI_iff.1 e; have := h3 x hx; omega
    rw [n1, n2, hf]
  obtain ⟨h1, h2⟩ := spans_norm hodd h.asc
  refine ⟨h1, fun t => ?_, ?_⟩
  · show memI (spans (mcomb f (mrg (tog a) false (tog b) false) [])) t = _
    rw [← parT_tog h1, h2, hx]
  · unfold combI
    rw [spans_len]
    simp only [List.length_nil] at hlen
    omega
def unionI (a b : Iv) : Iv := combI (fun x y => x || y) a b
theorem unionI_eq {a b : Iv} (ha : NormI a) (hb : NormI b) : insAll a b = unionI a b := by
  obtain ⟨h1, h2, _⟩ := insAll_ok (b := b) ha hb.1
  obtain ⟨h3, h4, _⟩ := combI_ok (f := fun x y => x || y) rfl ha hb
  exact normI_ext h1 h3 (fun t => by rw [h2]; exact (h4 t).symm)
end Go.Step
/- The ends of two sets, one after the other. No program in sight. No conditions. -/
namespace Go.Step
theorem oddB_cases (p : Nat) : (oddB p = true ∧ p = 2 * (p / 2) + 1) ∨ (oddB p = false ∧ p = 2 * (p / 2)) := by
  unfold oddB
  by_cases h : p % 2 = 1
  · exact .inl ⟨decide_eq_true h, by omega⟩
  · exact .inr ⟨decide_eq_false h, by omega⟩
def nxtT (A B : List Int) (p q : Nat) : Int := if p < A.length then (if q < B.length ∧ B.getD q 0 < A.getD p 0 then B.getD q 0 else A.getD p 0) else B.getD q 0
def stp (A : List Int) (t : Int) (p : Nat) : Nat := if p < A.length ∧ A.getD p 0 = t then p + 1 else p
theorem stp_le {A : List Int} {t : Int} {p : Nat} (h : p ≤ A.length) : p ≤ stp A t p ∧ stp A t p ≤ A.length := by
  unfold stp
  split <;> omega
theorem drop_at {A : List Int} {p : Nat} (h : p < A.length) : A.drop p = A.getD p 0 :: A.drop (p + 1) := by
  rw [List.drop_eq_getElem_cons h, List.getD_eq_getElem?_getD, List.getElem?_eq_getElem h]; rfl
theorem mrg_cc (a : Int) (A : List Int) (p : Bool) (b : Int) (B : List Int) (q : Bool) : mrg (a :: A) p (b :: B) q = if a < b then (a, !p, q) :: mrg A (!p) (b :: B) q else if b < a then (b, p, !q) :: mrg (a :: A) p B (!q) else (a, !p, !q) :: mrg A (!p) B (!q) := by
  conv => lhs; unfold mrg
theorem mrg_cn (a : Int) (A : List Int) (p q : Bool) : mrg (a :: A) p [] q = (a, !p, q) :: mrg A (!p) [] q := by
  conv => lhs; unfold mrg
theorem mrg_nc (b : Int) (B : List Int) (p q : Bool) : mrg [] p (b :: B) q = (b, p, !q) :: mrg [] p B (!q) := by
  conv => lhs; unfold mrg
theorem mrg_at {A B : List Int} {p q : Nat} (hp : p ≤ A.length) (hq : q ≤ B.length) (h : p < A.length ∨ q < B.length) :
    mrg (A.drop p) (oddB p) (B.drop q) (oddB q) = (nxtT A B p q, oddB (stp A (nxtT A B p q) p), oddB (stp B (nxtT A B p q) q)) :: mrg (A.drop (stp A (nxtT A B p q) p)) (oddB (stp A (nxtT A B p q) p)) (B.drop (stp B (nxtT A B p q) q)) (oddB (stp B (nxtT A B p q) q)) := by
  by_cases h1 : p < A.length
  · by_cases h2 : q < B.length
    · rw [drop_at h1, drop_at h2, mrg_cc]
      by_cases c1 : A.getD p 0 < B.getD q 0
      · have e : nxtT A B p q = A.getD p 0 := by unfold nxtT; rw [if_pos h1, if_neg (by omega)]
        have e1 : stp A (A.getD p 0) p = p + 1 := by unfold stp; rw [if_pos ⟨h1, rfl⟩]
        have e2 : stp B (A.getD p 0) q = q := by unfold stp; rw [if_neg (by omega)]
        rw [if_pos c1, e, e1, e2, oddB_succ, drop_at h2]
      · by_cases c2 : B.getD q 0 < A.getD p 0
        · have e : nxtT A B p q = B.getD q 0 := by unfold nxtT; rw [if_pos h1, if_pos ⟨h2, c2⟩]
          have e1 : stp A (B.getD q 0) p = p := by unfold stp; rw [if_neg (by omega)]
          have e2 : stp B (B.getD q 0) q = q + 1 := by unfold stp; rw [if_pos ⟨h2, rfl⟩]
          rw [if_neg c1, if_pos c2, e, e1, e2, oddB_succ, drop_at h1]
        · have e : nxtT A B p q = A.getD p 0 := by unfold nxtT; rw [if_pos h1, if_neg (by omega)]
          have e1 : stp A (A.getD p 0) p = p + 1 := by unfold stp; rw [if_pos ⟨h1, rfl⟩]
          have e2 : stp B (A.getD p 0) q = q + 1 := by unfold stp; rw [if_pos ⟨h2, by omega⟩]
          rw [if_neg c1, if_neg c2, e, e1, e2, oddB_succ, oddB_succ]
    · have hq2 : q = B.length := by omega
      subst hq2
      have e : nxtT A B p B.length = A.getD p 0 := by unfold nxtT; rw [if_pos h1, if_neg (by omega)]
      have e1 : stp A (A.getD p 0) p = p + 1 := by unfold stp; rw [if_pos ⟨h1, rfl⟩]
      have e2 : stp B (A.getD p 0) B.length = B.length := by unfold stp; rw [if_neg (by omega)]
      rw [drop_at h1, List.drop_length, e, e1, e2, oddB_succ, List.drop_length, mrg_cn]
  · have hp2 : p = A.length := by omega
    subst hp2
    have h2 : q < B.length := by omega
    have e : nxtT A B A.length q = B.getD q 0 := by unfold nxtT; rw [if_neg h1]
    have e1 : stp A (B.getD q 0) A.length = A.length := by unfold stp; rw [if_neg (by omega)]
    have e2 : stp B (B.getD q 0) q = q + 1 := by unfold stp; rw [if_pos ⟨h2, rfl⟩]
    rw [drop_at h2, List.drop_length, e, e1, e2, oddB_succ, List.drop_length, mrg_nc]
theorem stp_go {A B : List Int} {p q : Nat} (h : p < A.length ∨ q < B.length) : p < stp A (nxtT A B p q) p ∨ q < stp B (nxtT A B p q) q := by
  by_cases h1 : p < A.length
  · by_cases h2 : q < B.length ∧ B.getD q 0 < A.getD p 0
    · have e : nxtT A B p q = B.getD q 0 := by unfold nxtT; rw [if_pos h1, if_pos h2]
      right; rw [e]; unfold stp; rw [if_pos ⟨h2.1, rfl⟩]; omega
    · have e : nxtT A B p q = A.getD p 0 := by unfold nxtT; rw [if_pos h1, if_neg h2]
      left; rw [e]; unfold stp; rw [if_pos ⟨h1, rfl⟩]; omega
  · have e : nxtT A B p q = B.getD q 0 := by unfold nxtT; rw [if_neg h1]
    right; rw [e]; unfold stp; rw [if_pos ⟨by omega, rfl⟩]; omega
theorem mrg_len : ∀ (n : Nat) (A : List Int) (p : Bool) (B : List Int) (q : Bool), A.length + B.length ≤ n → (mrg A p B q).length ≤ A.length + B.length
  | n, [], p, [], q, _ => by unfold mrg; simp
  | 0, a :: A, p, B, q, h => by simp at h
  | 0, [], p, b :: B, q, h => by simp at h
  | n + 1, a :: A, p, [], q, h => by
    rw [mrg_cn]
    have := mrg_len n A (!p) [] q (by simp at h ⊢; omega)
    simp at this ⊢
    omega
  | n + 1, [], p, b :: B, q, h => by
    rw [mrg_nc]
    have := mrg_len n [] p B (!q) (by simp at h ⊢; omega)
    simp at this ⊢
    omega
  | n + 1, a :: A, p, b :: B, q, h => by
    rw [mrg_cc]
    have h1 := mrg_len n A (!p) (b :: B) q (by simp at h ⊢; omega)
    have h2 := mrg_len n (a :: A) p B (!q) (by simp at h ⊢; omega)
    have h3 := mrg_len n A (!p) B (!q) (by simp at h ⊢; omega)
    simp at h1 h2 h3
    split
    · simp; omega
    · split <;> simp <;> omega
theorem mcomb1_len (f : Bool → Bool → Bool) (O : List Int) (e : Int × Bool × Bool) : (mcomb1 f O e).length ≤ O.length + 1 := by
  unfold mcomb1
  split
  · omega
  · simp
theorem mcomb_len (f : Bool → Bool → Bool) : ∀ (S : List (Int × Bool × Bool)) (O : List Int), (mcomb f S O).length ≤ O.length + S.length
  | [], O => by simp [mcomb]
  | e :: S, O => by
    have h1 := mcomb_len f S (mcomb1 f O e)
    have h2 := mcomb1_len f O e
    show (mcomb f S (mcomb1 f O e)).length ≤ _
    simp
    omega
theorem mcomb_next (f : Bool → Bool → Bool) {S : List (Int × Bool × Bool)} {i : Nat} {e : Int × Bool × Bool} (h : S[i]? = some e) (O : List Int) : mcomb f (S.take (i + 1)) O = mcomb1 f (mcomb f (S.take i) O) e := by
  obtain ⟨hi, rfl⟩ := List.getElem?_eq_some_iff.1 h
  rw [List.take_succ_eq_append_getElem hi]
  unfold mcomb
  rw [List.foldl_append]
  rfl
theorem mrg_end {A B : List Int} {p q : Bool} : mrg (A.drop A.length) p (B.drop B.length) q = [] := by
  rw [List.drop_length, List.drop_length]
  unfold mrg
  rfl
theorem drop_head {α : Type} {S : List α} {k : Nat} {x : α} {r : List α} (h : S.drop k = x :: r) : S[k]? = some x ∧ S.drop (k + 1) = r ∧ k < S.length := by
  have hk : k < S.length := by
    apply Nat.lt_of_not_le
    intro hc
    rw [List.drop_eq_nil_of_le hc] at h
    simp at h
  rw [List.drop_eq_getElem_cons hk, List.cons.injEq] at h
  exact ⟨by rw [List.getElem?_eq_getElem hk, h.1], h.2, hk⟩
end Go.Step
