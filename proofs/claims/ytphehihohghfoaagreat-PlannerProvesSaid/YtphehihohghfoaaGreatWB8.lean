/- Texts of this proof, one after the other; no conditions. -/
import Derived.Test.YtphehihohghfoaaGreatRows
import Derived.Test.YtphehihohghfoaaGreatWB7
import Derived.Test.YtphehihohghfoaaGreatWB2
import Derived.Test.YtphehihohghfoaaGreatWB1
import Derived.Test.YtphehihohghfoaaGreatWB5
set_option linter.all false
/- The network made. -/
namespace Go.Proofs.YtphehihohghfoaaGreat
open Go.Eng Go.Step
set_option maxRecDepth 100000
set_option maxHeartbeats 4000000

theorem exValid_spec {ρ τ σ υ:PH} {pq pc pb ph:Option Addr} {kq kc kb kh:Nat} {qs:List Int} {cs:List Ct} {bs:List Bk} {hs:List Hd} (hT:TbAt ρ τ σ υ pq pc pb ph kq kc kb kh qs cs bs hs) (d:Dm) :
  Ans Tryz.prog (fv 98) [.agg #[.slice pq qs.length kq,.slice pc cs.length kc,.slice pb bs.length kb,.slice ph hs.length kh],.agg #[int d.s,int d.d,int d.v,int d.r,int d.e]] [ρ,τ,σ,υ] (fun r=>r = .bool (validT qs cs bs hs d)):=by
 refine spec_in (cap:=[]) Tryz.func98 rfl rfl Tryz.ntmps98 rfl envZ (fun N β=>?_)
 refine AC ?_;refine AA ?_;refine BH (BK rfl) rfl rfl rfl ?_;rintro _ _ ⟨b1,rfl,rfl⟩;refine AR (ρ:=sng b1 _) takeZ ?_
 have ct:RdN (sng b1 (.cells #[.slice pq qs.length kq,.slice pc cs.length kc,.slice pb bs.length kb,.slice ph hs.length kh] 29 (0,0))) b1 0 [.slice pq qs.length kq,.slice pc cs.length kc,.slice pb bs.length kb,.slice ph hs.length kh]:=rdN_sng (vs:=[.slice pq qs.length kq,.slice pc cs.length kc,.slice pb bs.length kb,.slice ph hs.length kh])
 have ct0:rdc (sng b1 (.cells #[.slice pq qs.length kq,.slice pc cs.length kc,.slice pb bs.length kb,.slice ph hs.length kh] 29 (0,0))) b1 0 = some (.slice pq qs.length kq):=by rw [rdc_sng]; rfl
 have ct1:rdc (sng b1 (.cells #[.slice pq qs.length kq,.slice pc cs.length kc,.slice pb bs.length kb,.slice ph hs.length kh] 29 (0,0))) b1 1 = some (.slice pc cs.length kc):=by rw [rdc_sng]; rfl
 have ct2:rdc (sng b1 (.cells #[.slice pq qs.length kq,.slice pc cs.length kc,.slice pb bs.length kb,.slice ph hs.length kh] 29 (0,0))) b1 2 = some (.slice pb bs.length kb):=by rw [rdc_sng]; rfl
 have ct3:rdc (sng b1 (.cells #[.slice pq qs.length kq,.slice pc cs.length kc,.slice pb bs.length kb,.slice ph hs.length kh] 29 (0,0))) b1 3 = some (.slice ph hs.length kh):=by rw [rdc_sng]; rfl
 have ctp:RdP (sng b1 (.cells #[.slice pq qs.length kq,.slice pc cs.length kc,.slice pb bs.length kb,.slice ph hs.length kh] 29 (0,0))) b1 0 [.slice pq qs.length kq,.slice pc cs.length kc]:=rdP_sng (xs:=[.slice pq qs.length kq,.slice pc cs.length kc,.slice pb bs.length kb,.slice ph hs.length kh]) rfl
 refine BH (BK rfl) rfl rfl rfl ?_;rintro _ _ ⟨b2,rfl,rfl⟩;refine AR (ρ:=sng b2 _) takeZ ?_
 have cd:RdN (sng b2 (.cells #[int d.s,int d.d,int d.v,int d.r,int d.e] 31 (0,0))) b2 0 [int d.s,int d.d,int d.v,int d.r,int d.e]:=rdN_sng (vs:=[int d.s,int d.d,int d.v,int d.r,int d.e])
 have cd0:rdc (sng b2 (.cells #[int d.s,int d.d,int d.v,int d.r,int d.e] 31 (0,0))) b2 0 = some (int d.s):=by rw [rdc_sng]; rfl
 have cd1:rdc (sng b2 (.cells #[int d.s,int d.d,int d.v,int d.r,int d.e] 31 (0,0))) b2 1 = some (int d.d):=by rw [rdc_sng]; rfl
 have cd2:rdc (sng b2 (.cells #[int d.s,int d.d,int d.v,int d.r,int d.e] 31 (0,0))) b2 2 = some (int d.v):=by rw [rdc_sng]; rfl
 have cd3:rdc (sng b2 (.cells #[int d.s,int d.d,int d.v,int d.r,int d.e] 31 (0,0))) b2 3 = some (int d.r):=by rw [rdc_sng]; rfl
 have cd4:rdc (sng b2 (.cells #[int d.s,int d.d,int d.v,int d.r,int d.e] 31 (0,0))) b2 4 = some (int d.e):=by rw [rdc_sng]; rfl
 refine AD ?_;refine AE ?_;refine AC ?_;refine AA ?_;refine AG ?_;refine AG ?_;refine AF ?_;refine AW ?_;refine AD ?_;refine AE ?_;refine AC ?_;refine AC ?_;refine AA ?_;refine AT ?_;refine A2 (chkTab_spec hT) rfl rfl rdZ rfl rfl ?_;rintro _ rfl
 by_cases h0:chkT qs cs bs hs = 0
 rotate_left
 ·have hv:validT qs cs bs hs d = false:=decide_eq_false (fun h=>h0 h.1)
  rw [hv]
  generalize chkT qs cs bs hs = z at h0
  refine CF ?_;refine AB ?_;refine AH rfl rfl rfl ?_;refine AH rfl rfl rfl ?_;refine AH rfl rfl rfl ?_;refine AL ?_;refine AB ?_;refine AH rfl rfl rfl ?_;refine AH rfl rfl rfl ?_;refine AH rfl rfl rfl ?_;refine AH rfl rfl rfl ?_;refine AL ?_;refine AB ?_;refine AH rfl rfl rfl ?_;refine AH rfl rfl rfl ?_;refine AH rfl rfl rfl ?_;refine AL ?_;refine AB ?_;refine AH rfl rfl rfl ?_;refine AH rfl rfl rfl ?_;refine AH rfl rfl rfl ?_;refine AH rfl rfl rfl ?_;refine AL ?_;refine AB ?_;refine AH rfl rfl rfl ?_;refine AH rfl rfl rfl ?_;refine AH rfl rfl rfl ?_;refine AH rfl rfl rfl ?_;refine AH rfl rfl rfl ?_;refine AL ?_;refine AE ?_;refine AN rfl ?_;refine AC ?_;refine AA ?_;refine AD ?_;refine AE ?_;exact AI (res1 rfl rfl) rsubZ selZ ⟨rfl,rfl⟩
 rw [h0]
 have hbad:¬ okDm qs.length d → validT qs cs bs hs d = false:=fun h=>decide_eq_false (fun k=>h k.2)
 by_cases hs1:0 ≤ d.s
 rotate_left
 ·rw [hbad (fun h=>by unfold okDm at h; omega)]
  refine BF ?_;refine AB ?_;refine AG ?_;refine AF ?_;refine BC ?_;refine AJ ?_;refine AB ?_;refine AH rfl rfl rfl ?_;refine AH rfl rfl rfl ?_;refine AH rfl rfl rfl ?_;refine AH rfl rfl rfl ?_;refine AL ?_;refine AB ?_;refine AH rfl rfl rfl ?_;refine AH rfl rfl rfl ?_;refine AH rfl rfl rfl ?_;refine AL ?_;refine AB ?_;refine AH rfl rfl rfl ?_;refine AH rfl rfl rfl ?_;refine AH rfl rfl rfl ?_;refine AH rfl rfl rfl ?_;refine AL ?_;refine AB ?_;refine AH rfl rfl rfl ?_;refine AH rfl rfl rfl ?_;refine AH rfl rfl rfl ?_;refine AH rfl rfl rfl ?_;refine AH rfl rfl rfl ?_;refine AL ?_;refine AE ?_;refine AN rfl ?_;refine AC ?_;refine AA ?_;refine AD ?_;refine AE ?_;exact AI (res1 rfl rfl) rsubZ selZ ⟨rfl,rfl⟩
 by_cases hs2:d.s < (qs.length:Int)
 rotate_left
 ·rw [hbad (fun h=>by unfold okDm at h; omega)]
  refine BF ?_;refine AB ?_;refine AG ?_;refine AF ?_;refine AZ ?_;refine AJ ?_;refine AB ?_;refine AG ?_;refine AF ?_;refine AB ?_;refine CC ?_;refine AJ ?_;refine AB ?_;refine AH rfl rfl rfl ?_;refine AH rfl rfl rfl ?_;refine AH rfl rfl rfl ?_;refine AL ?_;refine AB ?_;refine AH rfl rfl rfl ?_;refine AH rfl rfl rfl ?_;refine AH rfl rfl rfl ?_;refine AH rfl rfl rfl ?_;refine AL ?_;refine AB ?_;refine AH rfl rfl rfl ?_;refine AH rfl rfl rfl ?_;refine AH rfl rfl rfl ?_;refine AH rfl rfl rfl ?_;refine AH rfl rfl rfl ?_;refine AL ?_;refine AE ?_;refine AN rfl ?_;refine AC ?_;refine AA ?_;refine AD ?_;refine AE ?_;exact AI (res1 rfl rfl) rsubZ selZ ⟨rfl,rfl⟩
 by_cases hd1:0 ≤ d.d
 rotate_left
 ·rw [hbad (fun h=>by unfold okDm at h; omega)]
  refine BF ?_;refine AB ?_;refine AG ?_;refine AF ?_;refine AZ ?_;refine AJ ?_;refine AB ?_;refine AG ?_;refine AF ?_;refine AB ?_;refine BG ?_;refine AJ ?_;refine AB ?_;refine AG ?_;refine AF ?_;refine BC ?_;refine AJ ?_;refine AB ?_;refine AH rfl rfl rfl ?_;refine AH rfl rfl rfl ?_;refine AH rfl rfl rfl ?_;refine AH rfl rfl rfl ?_;refine AL ?_;refine AB ?_;refine AH rfl rfl rfl ?_;refine AH rfl rfl rfl ?_;refine AH rfl rfl rfl ?_;refine AH rfl rfl rfl ?_;refine AH rfl rfl rfl ?_;refine AL ?_;refine AE ?_;refine AN rfl ?_;refine AC ?_;refine AA ?_;refine AD ?_;refine AE ?_;exact AI (res1 rfl rfl) rsubZ selZ ⟨rfl,rfl⟩
 by_cases hd2:d.d < (qs.length:Int)
 rotate_left
 ·rw [hbad (fun h=>by unfold okDm at h; omega)]
  refine BF ?_;refine AB ?_;refine AG ?_;refine AF ?_;refine AZ ?_;refine AJ ?_;refine AB ?_;refine AG ?_;refine AF ?_;refine AB ?_;refine BG ?_;refine AJ ?_;refine AB ?_;refine AG ?_;refine AF ?_;refine AZ ?_;refine AJ ?_;refine AB ?_;refine AG ?_;refine AF ?_;refine AB ?_;refine CC ?_;refine AJ ?_;refine AB ?_;refine AH rfl rfl rfl ?_;refine AH rfl rfl rfl ?_;refine AH rfl rfl rfl ?_;refine AH rfl rfl rfl ?_;refine AH rfl rfl rfl ?_;refine AL ?_;refine AE ?_;refine AN rfl ?_;refine AC ?_;refine AA ?_;refine AD ?_;refine AE ?_;exact AI (res1 rfl rfl) rsubZ selZ ⟨rfl,rfl⟩
 by_cases h3:d.s ≠ d.d
 rotate_left
 ·rw [hbad (fun h=>by unfold okDm at h; omega)]
  refine BF ?_;refine AB ?_;refine AG ?_;refine AF ?_;refine AZ ?_;refine AJ ?_;refine AB ?_;refine AG ?_;refine AF ?_;refine AB ?_;refine BG ?_;refine AJ ?_;refine AB ?_;refine AG ?_;refine AF ?_;refine AZ ?_;refine AJ ?_;refine AB ?_;refine AG ?_;refine AF ?_;refine AB ?_;refine BG ?_;refine AJ ?_;refine AB ?_;refine AG ?_;refine AF ?_;refine AG ?_;refine AF ?_;refine CI ?_;refine AJ ?_;refine AE ?_;refine AN rfl ?_;refine AC ?_;refine AA ?_;refine AD ?_;refine AE ?_;exact AI (res1 rfl rfl) rsubZ selZ ⟨rfl,rfl⟩
 by_cases h4:1 ≤ d.v
 rotate_left
 ·rw [hbad (fun h=>by unfold okDm at h; omega)]
  refine BF ?_;refine AB ?_;refine AG ?_;refine AF ?_;refine AZ ?_;refine AJ ?_;refine AB ?_;refine AG ?_;refine AF ?_;refine AB ?_;refine BG ?_;refine AJ ?_;refine AB ?_;refine AG ?_;refine AF ?_;refine AZ ?_;refine AJ ?_;refine AB ?_;refine AG ?_;refine AF ?_;refine AB ?_;refine BG ?_;refine AJ ?_;refine AB ?_;refine AG ?_;refine AF ?_;refine AG ?_;refine AF ?_;refine B4 ?_;refine AJ ?_;refine AE ?_;refine AM rfl ?_;refine AK ?_;refine AC ?_;refine AA ?_;refine AG ?_;refine AF ?_;refine BG ?_;refine AB ?_;refine AH rfl rfl rfl ?_;refine AH rfl rfl rfl ?_;refine AH rfl rfl rfl ?_;refine AJ ?_;refine AB ?_;refine AH rfl rfl rfl ?_;refine AH rfl rfl rfl ?_;refine AH rfl rfl rfl ?_;refine AJ ?_;refine AB ?_;refine AH rfl rfl rfl ?_;refine AH rfl rfl rfl ?_;refine AH rfl rfl rfl ?_;refine AH rfl rfl rfl ?_;refine AH rfl rfl rfl ?_;refine AJ ?_;refine AB ?_;refine AH rfl rfl rfl ?_
  refine AH rfl rfl rfl ?_;refine AH rfl rfl rfl ?_;refine AJ ?_;refine AB ?_;refine AH rfl rfl rfl ?_;refine AH rfl rfl rfl ?_;refine AH rfl rfl rfl ?_;refine AH rfl rfl rfl ?_;refine AH rfl rfl rfl ?_;refine AH rfl rfl rfl ?_;refine AJ ?_;refine AD ?_;refine AE ?_;exact AI (res1 rfl rfl) rsubZ selZ ⟨rfl,rfl⟩
 by_cases h5:d.v ≤ 1099511627776
 rotate_left
 ·rw [hbad (fun h=>by unfold okDm at h; omega)]
  refine BF ?_;refine AB ?_;refine AG ?_;refine AF ?_;refine AZ ?_;refine AJ ?_;refine AB ?_;refine AG ?_;refine AF ?_;refine AB ?_;refine BG ?_;refine AJ ?_;refine AB ?_;refine AG ?_;refine AF ?_;refine AZ ?_;refine AJ ?_;refine AB ?_;refine AG ?_;refine AF ?_;refine AB ?_;refine BG ?_;refine AJ ?_;refine AB ?_;refine AG ?_;refine AF ?_;refine AG ?_;refine AF ?_;refine B4 ?_;refine AJ ?_;refine AE ?_;refine AM rfl ?_;refine AK ?_;refine AC ?_;refine AA ?_;refine AG ?_;refine AF ?_;refine CC ?_;refine AB ?_;refine AG ?_;refine AF ?_;refine CN ?_;refine AL ?_;refine AB ?_;refine AH rfl rfl rfl ?_;refine AH rfl rfl rfl ?_;refine AH rfl rfl rfl ?_;refine AJ ?_;refine AB ?_;refine AH rfl rfl rfl ?_;refine AH rfl rfl rfl ?_;refine AH rfl rfl rfl ?_;refine AH rfl rfl rfl ?_;refine AH rfl rfl rfl ?_;refine AJ ?_;refine AB ?_;refine AH rfl rfl rfl ?_;refine AH rfl rfl rfl ?_
  refine AH rfl rfl rfl ?_;refine AJ ?_;refine AB ?_;refine AH rfl rfl rfl ?_;refine AH rfl rfl rfl ?_;refine AH rfl rfl rfl ?_;refine AH rfl rfl rfl ?_;refine AH rfl rfl rfl ?_;refine AH rfl rfl rfl ?_;refine AJ ?_;refine AD ?_;refine AE ?_;exact AI (res1 rfl rfl) rsubZ selZ ⟨rfl,rfl⟩
 by_cases h6:0 ≤ d.r
 rotate_left
 ·rw [hbad (fun h=>by unfold okDm at h; omega)]
  refine BF ?_;refine AB ?_;refine AG ?_;refine AF ?_;refine AZ ?_;refine AJ ?_;refine AB ?_;refine AG ?_;refine AF ?_;refine AB ?_;refine BG ?_;refine AJ ?_;refine AB ?_;refine AG ?_;refine AF ?_;refine AZ ?_;refine AJ ?_;refine AB ?_;refine AG ?_;refine AF ?_;refine AB ?_;refine BG ?_;refine AJ ?_;refine AB ?_;refine AG ?_;refine AF ?_;refine AG ?_;refine AF ?_;refine B4 ?_;refine AJ ?_;refine AE ?_;refine AM rfl ?_;refine AK ?_;refine AC ?_;refine AA ?_;refine AG ?_;refine AF ?_;refine CC ?_;refine AB ?_;refine AG ?_;refine AF ?_;refine CJ ?_;refine AL ?_;refine AB ?_;refine AG ?_;refine AF ?_;refine BG ?_;refine AL ?_;refine AB ?_;refine AH rfl rfl rfl ?_;refine AH rfl rfl rfl ?_;refine AH rfl rfl rfl ?_;refine AH rfl rfl rfl ?_;refine AH rfl rfl rfl ?_;refine AJ ?_;refine AB ?_;refine AH rfl rfl rfl ?_;refine AH rfl rfl rfl ?_;refine AH rfl rfl rfl ?_;refine AJ ?_;refine AB ?_
  refine AH rfl rfl rfl ?_;refine AH rfl rfl rfl ?_;refine AH rfl rfl rfl ?_;refine AH rfl rfl rfl ?_;refine AH rfl rfl rfl ?_;refine AH rfl rfl rfl ?_;refine AJ ?_;refine AD ?_;refine AE ?_;exact AI (res1 rfl rfl) rsubZ selZ ⟨rfl,rfl⟩
 by_cases h7:d.r < d.e
 rotate_left
 ·rw [hbad (fun h=>by unfold okDm at h; omega)]
  refine BF ?_;refine AB ?_;refine AG ?_;refine AF ?_;refine AZ ?_;refine AJ ?_;refine AB ?_;refine AG ?_;refine AF ?_;refine AB ?_;refine BG ?_;refine AJ ?_;refine AB ?_;refine AG ?_;refine AF ?_;refine AZ ?_;refine AJ ?_;refine AB ?_;refine AG ?_;refine AF ?_;refine AB ?_;refine BG ?_;refine AJ ?_;refine AB ?_;refine AG ?_;refine AF ?_;refine AG ?_;refine AF ?_;refine B4 ?_;refine AJ ?_;refine AE ?_;refine AM rfl ?_;refine AK ?_;refine AC ?_;refine AA ?_;refine AG ?_;refine AF ?_;refine CC ?_;refine AB ?_;refine AG ?_;refine AF ?_;refine CJ ?_;refine AL ?_;refine AB ?_;refine AG ?_;refine AF ?_;refine CC ?_;refine AL ?_;refine AB ?_;refine AG ?_;refine AF ?_;refine AG ?_;refine AF ?_;refine AZ ?_;refine AL ?_;refine AB ?_;refine AH rfl rfl rfl ?_;refine AH rfl rfl rfl ?_;refine AH rfl rfl rfl ?_;refine AJ ?_;refine AB ?_;refine AH rfl rfl rfl ?_;refine AH rfl rfl rfl ?_
  refine AH rfl rfl rfl ?_;refine AH rfl rfl rfl ?_;refine AH rfl rfl rfl ?_;refine AH rfl rfl rfl ?_;refine AJ ?_;refine AD ?_;refine AE ?_;exact AI (res1 rfl rfl) rsubZ selZ ⟨rfl,rfl⟩
 by_cases h8:d.e ≤ 1099511627776
 rotate_left
 ·rw [hbad (fun h=>by unfold okDm at h; omega)]
  refine BF ?_;refine AB ?_;refine AG ?_;refine AF ?_;refine AZ ?_;refine AJ ?_;refine AB ?_;refine AG ?_;refine AF ?_;refine AB ?_;refine BG ?_;refine AJ ?_;refine AB ?_;refine AG ?_;refine AF ?_;refine AZ ?_;refine AJ ?_;refine AB ?_;refine AG ?_;refine AF ?_;refine AB ?_;refine BG ?_;refine AJ ?_;refine AB ?_;refine AG ?_;refine AF ?_;refine AG ?_;refine AF ?_;refine B4 ?_;refine AJ ?_;refine AE ?_;refine AM rfl ?_;refine AK ?_;refine AC ?_;refine AA ?_;refine AG ?_;refine AF ?_;refine CC ?_;refine AB ?_;refine AG ?_;refine AF ?_;refine CJ ?_;refine AL ?_;refine AB ?_;refine AG ?_;refine AF ?_;refine CC ?_;refine AL ?_;refine AB ?_;refine AG ?_;refine AF ?_;refine AG ?_;refine AF ?_;refine BC ?_;refine AL ?_;refine AB ?_;refine AG ?_;refine AF ?_;refine CN ?_;refine AL ?_;refine AB ?_;refine AH rfl rfl rfl ?_;refine AH rfl rfl rfl ?_;refine AH rfl rfl rfl ?_;refine AH rfl rfl rfl ?_
  refine AH rfl rfl rfl ?_;refine AH rfl rfl rfl ?_;refine AJ ?_;refine AD ?_;refine AE ?_;exact AI (res1 rfl rfl) rsubZ selZ ⟨rfl,rfl⟩
 by_cases h9:d.e - d.r ≤ 100
 rotate_left
 ·rw [hbad (fun h=>by unfold okDm at h; omega)]
  refine BF ?_;refine AB ?_;refine AG ?_;refine AF ?_;refine AZ ?_;refine AJ ?_;refine AB ?_;refine AG ?_;refine AF ?_;refine AB ?_;refine BG ?_;refine AJ ?_;refine AB ?_;refine AG ?_;refine AF ?_;refine AZ ?_;refine AJ ?_;refine AB ?_;refine AG ?_;refine AF ?_;refine AB ?_;refine BG ?_;refine AJ ?_;refine AB ?_;refine AG ?_;refine AF ?_;refine AG ?_;refine AF ?_;refine B4 ?_;refine AJ ?_;refine AE ?_;refine AM rfl ?_;refine AK ?_;refine AC ?_;refine AA ?_;refine AG ?_;refine AF ?_;refine CC ?_;refine AB ?_;refine AG ?_;refine AF ?_;refine CJ ?_;refine AL ?_;refine AB ?_;refine AG ?_;refine AF ?_;refine CC ?_;refine AL ?_;refine AB ?_;refine AG ?_;refine AF ?_;refine AG ?_;refine AF ?_;refine BC ?_;refine AL ?_;refine AB ?_;refine AG ?_;refine AF ?_;refine CJ ?_;refine AL ?_;refine AB ?_;refine AG ?_;refine AF ?_;refine AG ?_;refine AF ?_;refine CY ?_;refine CN ?_;refine AL ?_
  refine AD ?_;refine AE ?_;exact AI (res1 rfl rfl) rsubZ selZ ⟨rfl,rfl⟩
 have hv:validT qs cs bs hs d = true:=decide_eq_true ⟨h0,by unfold okDm; omega⟩
 rw [hv];refine BF ?_;refine AB ?_;refine AG ?_;refine AF ?_;refine AZ ?_;refine AJ ?_;refine AB ?_;refine AG ?_;refine AF ?_;refine AB ?_;refine BG ?_;refine AJ ?_;refine AB ?_;refine AG ?_;refine AF ?_;refine AZ ?_;refine AJ ?_;refine AB ?_;refine AG ?_;refine AF ?_;refine AB ?_;refine BG ?_;refine AJ ?_;refine AB ?_;refine AG ?_;refine AF ?_;refine AG ?_;refine AF ?_;refine B4 ?_;refine AJ ?_;refine AE ?_;refine AM rfl ?_;refine AK ?_;refine AC ?_;refine AA ?_;refine AG ?_;refine AF ?_;refine CC ?_;refine AB ?_;refine AG ?_;refine AF ?_;refine CJ ?_;refine AL ?_;refine AB ?_;refine AG ?_;refine AF ?_;refine CC ?_;refine AL ?_;refine AB ?_;refine AG ?_;refine AF ?_;refine AG ?_;refine AF ?_;refine BC ?_;refine AL ?_;refine AB ?_;refine AG ?_;refine AF ?_;refine CJ ?_;refine AL ?_;refine AB ?_;refine AG ?_;refine AF ?_;refine AG ?_;refine AF ?_;refine CY ?_;refine CJ ?_;refine AL ?_
 refine AD ?_;refine AE ?_;exact AI (res1 rfl rfl) rsubZ selZ ⟨rfl,rfl⟩
set_option maxHeartbeats 32000000 in
theorem build_spec {ρ τ σ υ:PH} {pq pc pb ph:Option Addr} {kq kc kb kh:Nat} {qs:List Int} {cs:List Ct} {bs:List Bk} {hs:List Hd} (hT:TbAt ρ τ σ υ pq pc pb ph kq kc kb kh qs cs bs hs) (d:Dm) :
  Eng.Spec Tryz.prog (fv 61) [.agg #[.slice pq qs.length kq,.slice pc cs.length kc,.slice pb bs.length kb,.slice ph hs.length kh],.agg #[int d.s,int d.d,int d.v,int d.r,int d.e]] [ρ,τ,σ,υ] [] (fun r H'=>(validT qs cs bs hs d = false ∧ r = .tuple #[.pointer none,.bool false] ∧ H' = []) ∨ (validT qs cs bs hs d = true ∧ ∃ bw bm u χ M,r = .tuple #[.pointer (some ⟨bw,0,none⟩),.bool true] ∧ H' = [sng bw (.cells #[.slice pq qs.length kq,.slice pc cs.length kc,.slice pb bs.length kb,.slice ph hs.length kh,int d.s,int d.d,int d.v,int d.r,int d.e,u,.map (some bm)] 134 (0,0)),sng bm (mapS M),χ] ∧ OwnS 130 2 u (placesA d qs.length).length ((placesA d qs.length).flatMap encS) χ ∧ NumAt d qs.length d.r M)):=by
 have hval:=exValid_spec hT d
 have hone:∀ z n (xs:List Value) (χ:PH),OwnS 130 2 z n xs χ → z.oneCell' = true:=fun z n xs χ h=>by obtain ⟨_,_,rfl⟩:=h.form; rfl
 refine spec_in (cap:=[]) Tryz.func61 rfl rfl Tryz.ntmps61 rfl envZ (fun N β=>?_)
 refine AC ?_;refine AA ?_;refine BH (BK rfl) rfl rfl rfl ?_;rintro _ _ ⟨b1,rfl,rfl⟩;refine AR (ρ:=sng b1 _) takeZ ?_
 have ct:RdN (sng b1 (.cells #[.slice pq qs.length kq,.slice pc cs.length kc,.slice pb bs.length kb,.slice ph hs.length kh] 29 (0,0))) b1 0 [.slice pq qs.length kq,.slice pc cs.length kc,.slice pb bs.length kb,.slice ph hs.length kh]:=rdN_sng (vs:=[.slice pq qs.length kq,.slice pc cs.length kc,.slice pb bs.length kb,.slice ph hs.length kh])
 have ct0:rdc (sng b1 (.cells #[.slice pq qs.length kq,.slice pc cs.length kc,.slice pb bs.length kb,.slice ph hs.length kh] 29 (0,0))) b1 0 = some (.slice pq qs.length kq):=by rw [rdc_sng]; rfl
 have ct1:rdc (sng b1 (.cells #[.slice pq qs.length kq,.slice pc cs.length kc,.slice pb bs.length kb,.slice ph hs.length kh] 29 (0,0))) b1 1 = some (.slice pc cs.length kc):=by rw [rdc_sng]; rfl
 have ct2:rdc (sng b1 (.cells #[.slice pq qs.length kq,.slice pc cs.length kc,.slice pb bs.length kb,.slice ph hs.length kh] 29 (0,0))) b1 2 = some (.slice pb bs.length kb):=by rw [rdc_sng]; rfl
 have ct3:rdc (sng b1 (.cells #[.slice pq qs.length kq,.slice pc cs.length kc,.slice pb bs.length kb,.slice ph hs.length kh] 29 (0,0))) b1 3 = some (.slice ph hs.length kh):=by rw [rdc_sng]; rfl
 have ctp:RdP (sng b1 (.cells #[.slice pq qs.length kq,.slice pc cs.length kc,.slice pb bs.length kb,.slice ph hs.length kh] 29 (0,0))) b1 0 [.slice pq qs.length kq,.slice pc cs.length kc]:=rdP_sng (xs:=[.slice pq qs.length kq,.slice pc cs.length kc,.slice pb bs.length kb,.slice ph hs.length kh]) rfl
 refine BH (BK rfl) rfl rfl rfl ?_;rintro _ _ ⟨b2,rfl,rfl⟩;refine AR (ρ:=sng b2 _) takeZ ?_
 have cd:RdN (sng b2 (.cells #[int d.s,int d.d,int d.v,int d.r,int d.e] 31 (0,0))) b2 0 [int d.s,int d.d,int d.v,int d.r,int d.e]:=rdN_sng (vs:=[int d.s,int d.d,int d.v,int d.r,int d.e])
 have cd0:rdc (sng b2 (.cells #[int d.s,int d.d,int d.v,int d.r,int d.e] 31 (0,0))) b2 0 = some (int d.s):=by rw [rdc_sng]; rfl
 have cd1:rdc (sng b2 (.cells #[int d.s,int d.d,int d.v,int d.r,int d.e] 31 (0,0))) b2 1 = some (int d.d):=by rw [rdc_sng]; rfl
 have cd2:rdc (sng b2 (.cells #[int d.s,int d.d,int d.v,int d.r,int d.e] 31 (0,0))) b2 2 = some (int d.v):=by rw [rdc_sng]; rfl
 have cd3:rdc (sng b2 (.cells #[int d.s,int d.d,int d.v,int d.r,int d.e] 31 (0,0))) b2 3 = some (int d.r):=by rw [rdc_sng]; rfl
 have cd4:rdc (sng b2 (.cells #[int d.s,int d.d,int d.v,int d.r,int d.e] 31 (0,0))) b2 4 = some (int d.e):=by rw [rdc_sng]; rfl
 refine AD ?_;refine AD ?_;refine AE ?_;refine AC ?_;refine AC ?_;refine AA ?_;refine AT ?_;refine AT ?_;refine A2 hval rfl rfl rdZ rfl rfl ?_;rintro _ rfl
 cases hv:validT qs cs bs hs d with
 | false =>
  refine A9 ?_;refine AE ?_;refine AN rfl ?_;refine AC ?_;refine AA ?_;refine AD ?_;refine AD ?_;refine AE ?_;exact AI (res2 rfl rfl rfl) rsubZ selZ (.inl ⟨rfl,rfl,rfl⟩)
 | true =>
 have h:=vok hv
 have hdm:=h.dm
 unfold okDm at hdm
 have hnq:=h.nq
 refine BX ?_;refine A9 ?_;refine AE ?_;refine AM rfl ?_;refine AK ?_;refine AC ?_;refine AA ?_;refine AT ?_;refine AT ?_
 focus ((refine' BH _ rfl rfl rfl _; rotate_left; (exact E8); rintro _ _ ⟨b,rfl,rfl⟩))
 revert b; intro bm
 refine CD (DP (out:=[.slice pq qs.length kq,.slice pc cs.length kc,.slice pb bs.length kb,.slice ph hs.length kh,int d.s,int d.d,int d.v,int d.r,int d.e,.slice none 0 0,.map (some bm)]) rfl rfl rfl rfl rfl) rfl rfl rfl ?_;refine CA ?_; rintro _ _ ⟨b,rfl,rfl⟩;refine AD ?_;refine AE ?_;refine AC ?_;refine AC ?_;refine AA ?_;refine AG ?_;refine AG ?_;refine AF ?_;refine AW ?_;refine AB ?_;refine AE ?_;refine AP ?_
 revert b; intro bw
 refine BA [2,3,6,22] (X:=Nat × Value × PH × List (List Int × Value)) (0,.slice none 0 0,emp,[]) (fun x=>x.1 ≤ qs.length ∧ OwnS 130 2 x.2.1 (placesA d x.1).length ((placesA d x.1).flatMap encS) x.2.2.1 ∧ NumAt d x.1 d.r x.2.2.2) (fun x=>[(23,int x.1)]) (fun x=>[sng bw (.cells #[.slice pq qs.length kq,.slice pc cs.length kc,.slice pb bs.length kb,.slice ph hs.length kh,int d.s,int d.d,int d.v,int d.r,int d.e,x.2.1,.map (some bm)] 134 (0,0)),sng bm (mapS x.2.2.2),x.2.2.1]) (fun x=>qs.length - x.1) pickZ ⟨by dsimp only; omega,OwnS.nil _ _,NumAt.nil d⟩ covZ selZ ?_
 rintro ⟨k,u,χ,M⟩ ⟨hk,hO,hM⟩
 dsimp only at hk hO hM ⊢
 by_cases hlt:k < qs.length
 rotate_left
 ·have hke:k = qs.length:=by omega
  subst hke;refine AC ?_;refine AA ?_;refine AZ ?_;refine AE ?_;refine AC ?_;refine AM rfl ?_;refine A7 rfl ?_;refine AC ?_;refine AA ?_;refine AB ?_;refine AD ?_;refine AD ?_;refine AE ?_;exact AI (res2 rfl rfl rfl) rsubZ selZ (.inr ⟨rfl,bw,bm,u,χ,M,rfl,rfl,hO,hM⟩)
 refine AC ?_;refine AA ?_;refine BC ?_;refine AE ?_;refine AC ?_;refine AN rfl ?_;refine AK ?_;refine AC ?_;refine AP ?_;refine AC ?_;refine AA ?_;refine AB ?_;refine AD ?_;refine AE ?_;refine AC ?_;refine AA ?_;refine AG ?_;refine AF ?_;refine AD ?_;refine AE ?_;refine AP ?_
 refine BA [2,3,6,7,22,23] (X:=Int × Value × PH × List (List Int × Value)) (d.r,u,χ,M) (fun x=>d.r ≤ x.1 ∧ x.1 ≤ d.e + 1 ∧ OwnS 130 2 x.2.1 (placesA d k ++ placesN d k x.1).length ((placesA d k ++ placesN d k x.1).flatMap encS) x.2.2.1 ∧ NumAt d k x.1 x.2.2.2) (fun x=>[(8,int x.1)]) (fun x=>[sng bw (.cells #[.slice pq qs.length kq,.slice pc cs.length kc,.slice pb bs.length kb,.slice ph hs.length kh,int d.s,int d.d,int d.v,int d.r,int d.e,x.2.1,.map (some bm)] 134 (0,0)),sng bm (mapS x.2.2.2),x.2.2.1]) (fun x=>(d.e + 1 - x.1).toNat) pickZ ⟨by dsimp only; omega,by dsimp only; omega,by dsimp only; rw [placesN_nil,List.append_nil]; exact hO,hM⟩ covZ selZ ?_
 rintro ⟨t,u2,χ2,M2⟩ ⟨ht1,ht2,hO2,hM2⟩
 dsimp only at ht1 ht2 hO2 hM2 ⊢
 by_cases hte:t ≤ d.e
 rotate_left
 ·have hte2:t = d.e + 1:=by omega
  subst hte2;refine AC ?_;refine AC ?_;refine AA ?_;refine AB ?_;refine AG ?_;refine AF ?_;refine CN ?_;refine AE ?_;refine AM rfl ?_;refine A7 rfl ?_;refine A3 ?_;refine AA ?_;refine A8 ?_;refine AB ?_;refine AE ?_
  exact AY (k + 1,u2,χ2,M2) ⟨by dsimp only; omega,hO2,by dsimp only; exact hM2.row (by omega)⟩ (by dsimp only; omega) covZ selZ
 have hlen:=places_at (d:=d) (by omega) (k:=k) ht1
 have hvt:=vtx_lt (d:=d) (n:=k) (t:=t) (N:=16) (by omega) (by omega) ht1 hte
 have hvb:vtx d k t < 1616:=by
  have hw:=h.wd
  have:=Int.mul_le_mul_of_nonneg_left hw.2 (show (0:Int) ≤ ((16:Nat):Int) by omega)
  omega
 have hsn:=placesN_snoc (k:=k) ht1
 have hadd:=hM2.add (by omega) ht1 hte
 have hMl:=hM2.1
 obtain ⟨pu,ku,rfl⟩:=hO2.form
 have hflat:(placesA d k ++ placesN d k (t + 1)) = (placesA d k ++ placesN d k t) ++ [((k:Int),t)]:=by rw [hsn,List.append_assoc]
 generalize placesA d k ++ placesN d k t = P at hlen hO2 hflat
 refine AC ?_;refine AC ?_;refine AA ?_;refine AB ?_;refine AG ?_;refine AF ?_;refine CJ ?_;refine AE ?_;refine AN rfl ?_;refine AK ?_;refine AC ?_;refine AP ?_;refine AC ?_;refine AA ?_;refine AB ?_;refine AB ?_;refine BO ?_;refine AX ?_; rintro _ _ ⟨b,rfl,rfl⟩;refine AV ?_; rintro _ _ ⟨rfl,rfl⟩;refine AE ?_;refine AC ?_
 revert b; intro b9
 refine A5 (.q 0 (.q 1 (.q 2 (.q 3 (.q 4 (.q 5 (.q 6 (.q 7 (.q 8 (.q 9 (.l 10 .b .nil))))))))))) [] rfl (by kernel_rfl) Sel.nil ?_
 refine AS ?_;refine A0 ?_;refine AU ?_;refine AQ ?_;refine BN ?_;refine AS ?_;refine A0 ?_;refine AU ?_;refine AQ ?_;refine DX ?_;rw [hlen];refine CP ?_
 refine' FX rfl (EM 2 [(k:Int),t] (v:=int (vtx d k t)) (l:=M2) rfl rfl rfl rfl ⟨by kernel_rfl,by kernel_rfl⟩ rfl hMl takeZ) rfl rfl _ _
 ·rintro _ _ ⟨_,rfl⟩ w hw; exact hw.sel Sel.nil
 rintro _ _ ⟨rfl,rfl⟩;refine A6 ?_
 skip
 refine A5 (.p 0 (.q 1 (.q 2 (.q 3 (.q 4 (.q 5 (.l 6 .e (.l 7 .b (.q 8 (.q 9 (.l 10 .b .nil))))))))))) [] rfl (by kernel_rfl) Sel.nil ?_
 refine FK ?_;refine AS ?_;refine A0 ?_;refine AU ?_;refine AQ ?_;refine BN ?_;refine B0 ?_; rintro _ _ ⟨b,rfl,rfl⟩
 refine CP (a_b rfl (B5 (by_:=16) (s:=2) (news:=[int (k:Int),int t]) rfl rfl rfl rfl rfl rfl rfl hO2 takeZ (cells_own memZ) rfl (by (repeat (first | exact (fun v hv=>absurd hv List.not_mem_nil) | (refine List.forall_mem_cons.2 ⟨?_,?_⟩; (focus (first | exact rfl | assumption))))); first | done | fail) (by omega) (by simp only [maxLen]; omega) (by omega)) rfl rfl rfl (fun _ _ _ w hw=>hw.sel Sel.nil) ?_)
 rintro u3 _ ⟨χ3,hO3,rfl⟩
 have hu3:=hone _ _ _ _ hO3
 refine A0 ?_;refine AU ?_;refine DB ?_; rintro _ _ ⟨rfl,rfl⟩;refine A6 ?_;refine A3 ?_;refine AA ?_;refine AB ?_;refine CK ?_;refine AD ?_;refine AE ?_
 refine AY (t + 1,u3,χ3,_) ⟨by dsimp only; omega,by dsimp only; omega,?_,hadd⟩ (by dsimp only; omega) covZ selZ
 dsimp only
 rw [hflat,List.length_append,List.flatMap_append];exact hO3
end Go.Proofs.YtphehihohghfoaaGreat
/- Inside a region that draws its order: the chunks in another order. No conditions. -/
namespace Go.Eng
variable {C:Cx} {D:List Deferred} {R H Hf:List PH} {L:Env} {K:List It} {ps ls:List Nat}
theorem Quiet.perm {H':List PH} {o:Oper} {v:Value} (hp:H'.Perm H) (h:Quiet C R H L o v):Quiet C R H' L o v:=⟨h.1,fun a w hx hs=>h.2 a w hx (hs.perm hp)⟩
theorem EC {H':List PH} {all:Array Oper} {done:List Nat} {plan:Pl} (hp:H.Perm H') (h:DJ C D R Hf H' L all done ps ls plan K):DJ C D R Hf H L all done ps ls plan K:=by
  refine ⟨fun hpl fuel listed a w hinv=>h.run hpl fuel listed a w ⟨hinv.size,hinv.dc,hinv.sub,hinv.fuel,hinv.tm,hinv.df,hinv.sat.perm hp,hinv.get,fun i hi hn=>?_,fun w hw=>hinv.hf w (hw.perm hp.symm),hinv.lds,hinv.data,hinv.uniq,hinv.chron⟩⟩
  obtain ⟨o,d,v,h1,h2,h3,h4,h5⟩:=hinv.prom i hi hn
  refine ⟨o,d,v,h1,h2,h3,h4,?_⟩
  rcases h5 with ⟨k1,k2⟩ | k
  · refine .inl ⟨k1,?_⟩
    split at k2
    · rename_i c; rw [if_pos c]; exact k2
    · rename_i c; rw [if_neg c]; exact k2.perm hp.symm
  · exact .inr k
end Go.Eng
/- Room, and the ticks of contacts. -/
namespace Go.Proofs.YtphehihohghfoaaGreat
open Go.Eng Go.Step
set_option maxRecDepth 100000
set_option maxHeartbeats 4000000

set_option maxHeartbeats 16000000 in
theorem exRoom_spec {ρ τ σ υ:PH} {pq pc pb ph:Option Addr} {kq kc kb kh:Nat} {qs:List Int} {cs:List Ct} {bs:List Bk} {hs:List Hd} (hT:TbAt ρ τ σ υ pq pc pb ph kq kc kb kh qs cs bs hs) (bw bm:Nat) (u:Value) (d:Dm) (h:VOk qs cs bs hs d) (nn:Nat) (t:Int) (hnl:nn < qs.length) :
  Ans Tryz.prog (fv 103) [.pointer (some ⟨bw,0,none⟩),.agg #[int (nn:Int),int t]] [sng bw (.cells #[.slice pq qs.length kq,.slice pc cs.length kc,.slice pb bs.length kb,.slice ph hs.length kh,int d.s,int d.d,int d.v,int d.r,int d.e,u,.map (some bm)] 134 (0,0)),ρ,τ,σ,υ] (fun r=>r = int (roomT qs hs d nn t)):=by
 have hr:=hT.rh
 have hQ:=List.getElem?_eq_getElem hnl
 have hQb:=h.quo _ _ hQ
 have hok:=h.hd
 have hl:=h.nh
 have hR:roomT qs hs d nn t = if (nn:Int) = d.s ∨ (nn:Int) = d.d then 1099511627776 else qs[nn] - Step.stored hs nn t:=by
  unfold roomT;rw [Int.toNat_natCast,List.getD_eq_getElem?_getD,hQ,Option.getD_some]
 rw [hR]
 generalize qs[nn] = Q at hQ hQb
 have w0:rdc (sng bw (.cells #[.slice pq qs.length kq,.slice pc cs.length kc,.slice pb bs.length kb,.slice ph hs.length kh,int d.s,int d.d,int d.v,int d.r,int d.e,u,.map (some bm)] 134 (0,0))) bw 0 = some (.slice pq qs.length kq):=by rw [rdc_sng]; rfl
 have w1:rdc (sng bw (.cells #[.slice pq qs.length kq,.slice pc cs.length kc,.slice pb bs.length kb,.slice ph hs.length kh,int d.s,int d.d,int d.v,int d.r,int d.e,u,.map (some bm)] 134 (0,0))) bw 1 = some (.slice pc cs.length kc):=by rw [rdc_sng]; rfl
 have w2:rdc (sng bw (.cells #[.slice pq qs.length kq,.slice pc cs.length kc,.slice pb bs.length kb,.slice ph hs.length kh,int d.s,int d.d,int d.v,int d.r,int d.e,u,.map (some bm)] 134 (0,0))) bw 2 = some (.slice pb bs.length kb):=by rw [rdc_sng]; rfl
 have w3:rdc (sng bw (.cells #[.slice pq qs.length kq,.slice pc cs.length kc,.slice pb bs.length kb,.slice ph hs.length kh,int d.s,int d.d,int d.v,int d.r,int d.e,u,.map (some bm)] 134 (0,0))) bw 3 = some (.slice ph hs.length kh):=by rw [rdc_sng]; rfl
 have w4:rdc (sng bw (.cells #[.slice pq qs.length kq,.slice pc cs.length kc,.slice pb bs.length kb,.slice ph hs.length kh,int d.s,int d.d,int d.v,int d.r,int d.e,u,.map (some bm)] 134 (0,0))) bw 4 = some (int d.s):=by rw [rdc_sng]; rfl
 have w5:rdc (sng bw (.cells #[.slice pq qs.length kq,.slice pc cs.length kc,.slice pb bs.length kb,.slice ph hs.length kh,int d.s,int d.d,int d.v,int d.r,int d.e,u,.map (some bm)] 134 (0,0))) bw 5 = some (int d.d):=by rw [rdc_sng]; rfl
 have w6:rdc (sng bw (.cells #[.slice pq qs.length kq,.slice pc cs.length kc,.slice pb bs.length kb,.slice ph hs.length kh,int d.s,int d.d,int d.v,int d.r,int d.e,u,.map (some bm)] 134 (0,0))) bw 6 = some (int d.v):=by rw [rdc_sng]; rfl
 have w7:rdc (sng bw (.cells #[.slice pq qs.length kq,.slice pc cs.length kc,.slice pb bs.length kb,.slice ph hs.length kh,int d.s,int d.d,int d.v,int d.r,int d.e,u,.map (some bm)] 134 (0,0))) bw 7 = some (int d.r):=by rw [rdc_sng]; rfl
 have w8:rdc (sng bw (.cells #[.slice pq qs.length kq,.slice pc cs.length kc,.slice pb bs.length kb,.slice ph hs.length kh,int d.s,int d.d,int d.v,int d.r,int d.e,u,.map (some bm)] 134 (0,0))) bw 8 = some (int d.e):=by rw [rdc_sng]; rfl
 have w9:rdc (sng bw (.cells #[.slice pq qs.length kq,.slice pc cs.length kc,.slice pb bs.length kb,.slice ph hs.length kh,int d.s,int d.d,int d.v,int d.r,int d.e,u,.map (some bm)] 134 (0,0))) bw 9 = some (u):=by rw [rdc_sng]; rfl
 have w10:rdc (sng bw (.cells #[.slice pq qs.length kq,.slice pc cs.length kc,.slice pb bs.length kb,.slice ph hs.length kh,int d.s,int d.d,int d.v,int d.r,int d.e,u,.map (some bm)] 134 (0,0))) bw 10 = some (.map (some bm)):=by rw [rdc_sng]; rfl
 refine spec_in (cap:=[]) Tryz.func103 rfl rfl Tryz.ntmps103 rfl envZ (fun N β=>?_)
 refine AC ?_;refine AA ?_;refine BH (BK rfl) rfl rfl rfl ?_;rintro _ _ ⟨b3,rfl,rfl⟩;refine AR (ρ:=sng b3 _) takeZ ?_
 have cp:RdN (sng b3 (.cells #[int (nn:Int),int t] 130 (0,0))) b3 0 [int (nn:Int),int t]:=rdN_sng (vs:=[int (nn:Int),int t])
 have cp0:rdc (sng b3 (.cells #[int (nn:Int),int t] 130 (0,0))) b3 0 = some (int (nn:Int)):=by rw [rdc_sng]; rfl
 have cp1:rdc (sng b3 (.cells #[int (nn:Int),int t] 130 (0,0))) b3 1 = some (int t):=by rw [rdc_sng]; rfl
 by_cases s1:(nn:Int) = d.s
 ·rw [if_pos (.inl s1)]
  refine AD ?_;refine AE ?_;refine AC ?_;refine AC ?_
  refine A5 (.q 0 (.q 1 (.q 2 (.q 3 (.q 4 (.q 5 (.q 6 (.q 7 (.q 8 (.q 9 (.q 10 (.q 11 (.q 12 (.q 13 (.q 14 (.q 15 (.q 16 (.q 17 .nil)))))))))))))))))) [] rfl (by kernel_rfl) Sel.nil ?_
  refine AU ?_;refine AQ ?_;refine AS ?_;refine A0 ?_;refine AU ?_;refine B6 ?_;refine AQ ?_;refine EK ?_;refine AS ?_;refine A4 rfl rfl rfl rfl rfl ?_;refine A4 rfl rfl rfl rfl rfl ?_;refine A4 rfl rfl rfl rfl rfl ?_;refine A4 rfl rfl rfl rfl rfl ?_;refine A4 rfl rfl rfl rfl rfl ?_;refine A4 rfl rfl rfl rfl rfl ?_;refine A4 rfl rfl rfl rfl rfl ?_;refine A4 rfl rfl rfl rfl rfl ?_;refine BY ?_;refine A6 ?_;refine AN rfl ?_;refine AC ?_;refine AA ?_;refine AD ?_;refine AE ?_;exact AI (res1 rfl rfl) rsubZ selZ ⟨rfl,rfl⟩
 by_cases s2:(nn:Int) = d.d
 ·rw [if_pos (.inr s2)]
  refine AD ?_;refine AE ?_;refine AC ?_;refine AC ?_
  refine A5 (.q 0 (.q 1 (.q 2 (.q 3 (.q 4 (.q 5 (.q 6 (.q 7 (.q 8 (.q 9 (.q 10 (.q 11 (.q 12 (.q 13 (.q 14 (.q 15 (.q 16 (.q 17 .nil)))))))))))))))))) [] rfl (by kernel_rfl) Sel.nil ?_
  refine AU ?_;refine AQ ?_;refine AS ?_;refine A0 ?_;refine AU ?_;refine B6 ?_;refine AQ ?_;refine C3 ?_;refine AS ?_;refine AU ?_;refine AQ ?_;refine AS ?_;refine A0 ?_;refine AU ?_;refine CB ?_;refine AQ ?_;refine EK ?_;refine BV ?_;refine A6 ?_;refine AN rfl ?_;refine AC ?_;refine AA ?_;refine AD ?_;refine AE ?_;exact AI (res1 rfl rfl) rsubZ selZ ⟨rfl,rfl⟩
 rw [if_neg (by omega)]
 obtain ⟨bq,oq,rfl,gq⟩:=hT.rq.int hQ
 refine AD ?_;refine AE ?_;refine AC ?_;refine AC ?_
 refine A5 (.q 0 (.q 1 (.q 2 (.q 3 (.q 4 (.q 5 (.q 6 (.q 7 (.q 8 (.q 9 (.q 10 (.q 11 (.q 12 (.q 13 (.q 14 (.q 15 (.q 16 (.q 17 .nil)))))))))))))))))) [] rfl (by kernel_rfl) Sel.nil ?_
 refine AU ?_;refine AQ ?_;refine AS ?_;refine A0 ?_;refine AU ?_;refine B6 ?_;refine AQ ?_;refine C3 ?_;refine AS ?_;refine AU ?_;refine AQ ?_;refine AS ?_;refine A0 ?_;refine AU ?_;refine CB ?_;refine AQ ?_;refine C3 ?_;refine BV ?_;refine A6 ?_;refine AM rfl ?_;refine AK ?_;refine AC ?_
 refine A5 (.q 0 (.q 1 (.q 2 (.q 3 (.q 4 (.q 5 (.q 6 (.q 7 (.q 8 (.q 9 (.q 10 .nil))))))))))) [] rfl (by kernel_rfl) Sel.nil ?_
 refine AS ?_;refine A0 ?_;refine AU ?_;refine AU ?_;refine AU ?_;refine AQ ?_;refine AU ?_;refine AQ ?_;refine CZ ?_;refine AQ ?_;refine BT ?_;refine A6 ?_;refine AC ?_;refine AC ?_;refine AA ?_;refine AB ?_;refine BL ?_;refine AG ?_;refine AG ?_;refine AF ?_;refine AW ?_;refine AB ?_;refine AE ?_;refine AP ?_
 refine BA [0,3,40,41] (0:Nat) (fun k=>k ≤ hs.length) (fun k=>[(42,int k),(5,int (Q - Step.stored (hs.take k) nn t))]) (fun _=>[]) (fun k=>hs.length - k) pickZ (by omega) ?_ selZ ?_
 ·rw [List.take_zero]
  simp only [Step.stored,Int.sub_zero];exact covZ
 intro k hk
 by_cases hlt:k < hs.length
 ·have hx:=List.getElem?_eq_getElem hlt
  have hh:=(hok _ (List.getElem_mem hlt)).2.2.1
  obtain ⟨b7,o7,rfl,hrd,g0,g1,g2,g3,_⟩:=hdRow5 hr hx
  have hm:=stored_snoc nn t hs[k] (hs.take k)
  rw [← List.take_succ_eq_append_getElem hlt] at hm
  have hb:=stored_bd (n:=nn) (t:=t) (l:=hs.take k) (fun h hm=>hok h (List.mem_of_mem_take hm))
  rw [List.length_take,Nat.min_eq_left hk] at hb
  generalize hs[k] = x at hrd g0 g1 g2 g3 hm hh
  generalize Step.stored (hs.take k) nn t = s at hm hb
  by_cases c1:x.n = nn
  ·by_cases c2:x.a ≤ t
   ·by_cases c3:t < x.b
    ·rw [if_pos ⟨c1,c2,c3⟩] at hm
     refine AC ?_;refine AA ?_;refine BC ?_;refine AE ?_;refine AC ?_;refine AN rfl ?_;refine AK ?_;refine AC ?_;refine AP ?_;refine AC ?_;refine AA ?_;refine BB ?_;refine AT ?_;refine AX ?_; rintro _ _ ⟨b,rfl,rfl⟩;refine AV ?_; rintro _ _ ⟨rfl,rfl⟩;refine AE ?_;refine AC ?_;refine AA ?_;refine AG ?_;refine AF ?_;refine AG ?_;refine AF ?_;refine CI ?_;refine AB ?_;refine AG ?_;refine AF ?_;refine AG ?_;refine AF ?_;refine CJ ?_;refine AL ?_;refine AB ?_;refine AG ?_;refine AF ?_;refine AG ?_;refine AF ?_;refine BC ?_;refine AL ?_;refine AE ?_;refine AN rfl ?_;refine AA ?_;refine AB ?_;refine AG ?_;refine AF ?_;refine CY ?_;refine AD ?_;refine AE ?_;refine A3 ?_;refine AA ?_;refine A8 ?_;refine AB ?_;refine AE ?_
     refine AY (k + 1) (by omega) (by omega) ?_ selZ
     rw [hm,show Q - (s + x.s) = Q - s - x.s by omega]
     exact covZ
    ·rw [if_neg (by omega),Int.add_zero] at hm
     refine AC ?_;refine AA ?_;refine BC ?_;refine AE ?_;refine AC ?_;refine AN rfl ?_;refine AK ?_;refine AC ?_;refine AP ?_;refine AC ?_;refine AA ?_;refine BB ?_;refine AT ?_;refine AX ?_; rintro _ _ ⟨b,rfl,rfl⟩;refine AV ?_; rintro _ _ ⟨rfl,rfl⟩;refine AE ?_;refine AC ?_;refine AA ?_;refine AG ?_;refine AF ?_;refine AG ?_;refine AF ?_;refine CI ?_;refine AB ?_;refine AG ?_;refine AF ?_;refine AG ?_;refine AF ?_;refine CJ ?_;refine AL ?_;refine AB ?_;refine AG ?_;refine AF ?_;refine AG ?_;refine AF ?_;refine AZ ?_;refine AL ?_;refine AE ?_;refine AM rfl ?_;refine AK ?_;refine A3 ?_;refine AA ?_;refine A8 ?_;refine AB ?_;refine AE ?_
     refine AY (k + 1) (by omega) (by omega) ?_ selZ
     rw [hm];exact covZ
   ·rw [if_neg (by omega),Int.add_zero] at hm
    refine AC ?_;refine AA ?_;refine BC ?_;refine AE ?_;refine AC ?_;refine AN rfl ?_;refine AK ?_;refine AC ?_;refine AP ?_;refine AC ?_;refine AA ?_;refine BB ?_;refine AT ?_;refine AX ?_; rintro _ _ ⟨b,rfl,rfl⟩;refine AV ?_; rintro _ _ ⟨rfl,rfl⟩;refine AE ?_;refine AC ?_;refine AA ?_;refine AG ?_;refine AF ?_;refine AG ?_;refine AF ?_;refine CI ?_;refine AB ?_;refine AG ?_;refine AF ?_;refine AG ?_;refine AF ?_;refine CN ?_;refine AL ?_;refine AB ?_;refine AH rfl rfl rfl ?_;refine AH rfl rfl rfl ?_;refine AH rfl rfl rfl ?_;refine AH rfl rfl rfl ?_;refine AH rfl rfl rfl ?_;refine AJ ?_;refine AE ?_;refine AM rfl ?_;refine AK ?_;refine A3 ?_;refine AA ?_;refine A8 ?_;refine AB ?_;refine AE ?_
    refine AY (k + 1) (by omega) (by omega) ?_ selZ
    rw [hm];exact covZ
  ·rw [if_neg (by omega),Int.add_zero] at hm
   refine AC ?_;refine AA ?_;refine BC ?_;refine AE ?_;refine AC ?_;refine AN rfl ?_;refine AK ?_;refine AC ?_;refine AP ?_;refine AC ?_;refine AA ?_;refine BB ?_;refine AT ?_;refine AX ?_; rintro _ _ ⟨b,rfl,rfl⟩;refine AV ?_; rintro _ _ ⟨rfl,rfl⟩;refine AE ?_;refine AC ?_;refine AA ?_;refine AG ?_;refine AF ?_;refine AG ?_;refine AF ?_;refine B4 ?_;refine AB ?_;refine AH rfl rfl rfl ?_;refine AH rfl rfl rfl ?_;refine AH rfl rfl rfl ?_;refine AH rfl rfl rfl ?_;refine AH rfl rfl rfl ?_;refine AJ ?_;refine AB ?_;refine AH rfl rfl rfl ?_;refine AH rfl rfl rfl ?_;refine AH rfl rfl rfl ?_;refine AH rfl rfl rfl ?_;refine AH rfl rfl rfl ?_;refine AJ ?_;refine AE ?_;refine AM rfl ?_;refine AK ?_;refine A3 ?_;refine AA ?_;refine A8 ?_;refine AB ?_;refine AE ?_
   refine AY (k + 1) (by omega) (by omega) ?_ selZ
   rw [hm];exact covZ
 ·have hke:k = hs.length:=by omega
  subst hke;rw [List.take_length];refine AC ?_;refine AA ?_;refine AZ ?_;refine AE ?_;refine AC ?_;refine AM rfl ?_;refine A7 rfl ?_;refine AC ?_;refine AA ?_;refine AB ?_;refine AD ?_;refine AE ?_;exact AI (res1 rfl rfl) rsubZ selZ ⟨rfl,rfl⟩
theorem ticks_spec (bw:Nat) (i:Nat) :
  Eng.Spec Tryz.prog (fv 104) [.pointer (some ⟨bw,0,none⟩),int (i:Int)] [] [] (fun r H'=>∃ c1 c2,r = .func (.func 135) #[] #[.pointer (some ⟨c1,0,none⟩),.pointer (some ⟨c2,0,none⟩)] ∧ H' = [sng c2 (.cells #[int (i:Int)] 3 (0,0)),sng c1 (.cells #[.pointer (some ⟨bw,0,none⟩)] 125 (0,0))]):=by
 refine spec_in (cap:=[]) Tryz.func104 rfl rfl Tryz.ntmps104 rfl envZ (fun N β=>?_)
 refine AC ?_;refine AA ?_;refine BH (CX rfl rfl) rfl rfl rfl ?_;rintro _ _ ⟨c1,rfl,rfl⟩;refine BH (CX rfl rfl) rfl rfl rfl ?_;rintro _ _ ⟨c2,rfl,rfl⟩;refine AD ?_;refine AE ?_;refine AC ?_;refine AA ?_;refine BW ?_;refine AD ?_;refine AE ?_;exact AI (res1 rfl rfl) rsubZ selZ ⟨c1,c2,rfl,rfl⟩
set_option maxHeartbeats 32000000 in
theorem ticks_iter {ρ τ σ υ:PH} {pq pc pb ph:Option Addr} {kq kc kb kh:Nat} {qs:List Int} {cs:List Ct} {bs:List Bk} {hs:List Hd} (hT:TbAt ρ τ σ υ pq pc pb ph kq kc kb kh qs cs bs hs) (bw bm c1 c2:Nat) (u:Value) (d:Dm) (h:VOk qs cs bs hs d) (h0:chkB qs cs bs = 0) (i:Nat) (x:Ct) (hx:cs[i]? = some x) :
  Iter Tryz.prog (.func (.func 135) #[] #[.pointer (some ⟨c1,0,none⟩),.pointer (some ⟨c2,0,none⟩)]) [sng c1 (.cells #[.pointer (some ⟨bw,0,none⟩)] 125 (0,0)),sng c2 (.cells #[int (i:Int)] 3 (0,0)),sng bw (.cells #[.slice pq qs.length kq,.slice pc cs.length kc,.slice pb bs.length kb,.slice ph hs.length kh,int d.s,int d.d,int d.v,int d.r,int d.e,u,.map (some bm)] 134 (0,0)),ρ,τ,σ,υ] ((tickL d.r d.e x.g (freeC cs bs i)).map Eng.encI):=by
 intro y S Own Inv Stop Ry hy hyl σ0 hI0
 obtain ⟨yl,rfl⟩:=hyl
 have hi:=(List.getElem?_eq_some_iff.1 hx).1
 have hdm:=h.dm
 unfold okDm at hdm
 have hct:=h.ct x (List.mem_of_getElem? hx)
 have hfree:=bkFree_spec hT i x hx h0
 have hfl:(freeC cs bs i).length ≤ 600:=by
  have hf:freeC cs bs i = gapsP x.e x.s (busyL bs i):=by unfold freeC; rw [hx]
  have h1:=gapsP_len x.e (busyL bs i) x.s
  have h2:=busyL_len bs i
  have h3:=h.nb
  rw [hf];omega
 have hfin:=(h.free hx).2.1
 obtain ⟨bq,oq,e4,hrd⟩:=ctRow hT.rc hx
 have w0:rdc (sng bw (.cells #[.slice pq qs.length kq,.slice pc cs.length kc,.slice pb bs.length kb,.slice ph hs.length kh,int d.s,int d.d,int d.v,int d.r,int d.e,u,.map (some bm)] 134 (0,0))) bw 0 = some (.slice pq qs.length kq):=by rw [rdc_sng]; rfl
 have w1:rdc (sng bw (.cells #[.slice pq qs.length kq,.slice pc cs.length kc,.slice pb bs.length kb,.slice ph hs.length kh,int d.s,int d.d,int d.v,int d.r,int d.e,u,.map (some bm)] 134 (0,0))) bw 1 = some (.slice pc cs.length kc):=by rw [rdc_sng]; rfl
 have w2:rdc (sng bw (.cells #[.slice pq qs.length kq,.slice pc cs.length kc,.slice pb bs.length kb,.slice ph hs.length kh,int d.s,int d.d,int d.v,int d.r,int d.e,u,.map (some bm)] 134 (0,0))) bw 2 = some (.slice pb bs.length kb):=by rw [rdc_sng]; rfl
 have w3:rdc (sng bw (.cells #[.slice pq qs.length kq,.slice pc cs.length kc,.slice pb bs.length kb,.slice ph hs.length kh,int d.s,int d.d,int d.v,int d.r,int d.e,u,.map (some bm)] 134 (0,0))) bw 3 = some (.slice ph hs.length kh):=by rw [rdc_sng]; rfl
 have w4:rdc (sng bw (.cells #[.slice pq qs.length kq,.slice pc cs.length kc,.slice pb bs.length kb,.slice ph hs.length kh,int d.s,int d.d,int d.v,int d.r,int d.e,u,.map (some bm)] 134 (0,0))) bw 4 = some (int d.s):=by rw [rdc_sng]; rfl
 have w5:rdc (sng bw (.cells #[.slice pq qs.length kq,.slice pc cs.length kc,.slice pb bs.length kb,.slice ph hs.length kh,int d.s,int d.d,int d.v,int d.r,int d.e,u,.map (some bm)] 134 (0,0))) bw 5 = some (int d.d):=by rw [rdc_sng]; rfl
 have w6:rdc (sng bw (.cells #[.slice pq qs.length kq,.slice pc cs.length kc,.slice pb bs.length kb,.slice ph hs.length kh,int d.s,int d.d,int d.v,int d.r,int d.e,u,.map (some bm)] 134 (0,0))) bw 6 = some (int d.v):=by rw [rdc_sng]; rfl
 have w7:rdc (sng bw (.cells #[.slice pq qs.length kq,.slice pc cs.length kc,.slice pb bs.length kb,.slice ph hs.length kh,int d.s,int d.d,int d.v,int d.r,int d.e,u,.map (some bm)] 134 (0,0))) bw 7 = some (int d.r):=by rw [rdc_sng]; rfl
 have w8:rdc (sng bw (.cells #[.slice pq qs.length kq,.slice pc cs.length kc,.slice pb bs.length kb,.slice ph hs.length kh,int d.s,int d.d,int d.v,int d.r,int d.e,u,.map (some bm)] 134 (0,0))) bw 8 = some (int d.e):=by rw [rdc_sng]; rfl
 have w9:rdc (sng bw (.cells #[.slice pq qs.length kq,.slice pc cs.length kc,.slice pb bs.length kb,.slice ph hs.length kh,int d.s,int d.d,int d.v,int d.r,int d.e,u,.map (some bm)] 134 (0,0))) bw 9 = some (u):=by rw [rdc_sng]; rfl
 have w10:rdc (sng bw (.cells #[.slice pq qs.length kq,.slice pc cs.length kc,.slice pb bs.length kb,.slice ph hs.length kh,int d.s,int d.d,int d.v,int d.r,int d.e,u,.map (some bm)] 134 (0,0))) bw 10 = some (.map (some bm)):=by rw [rdc_sng]; rfl
 have wp:RdP (sng bw (.cells #[.slice pq qs.length kq,.slice pc cs.length kc,.slice pb bs.length kb,.slice ph hs.length kh,int d.s,int d.d,int d.v,int d.r,int d.e,u,.map (some bm)] 134 (0,0))) bw 0 [.slice pq qs.length kq,.slice pc cs.length kc]:=rdP_sng (xs:=[.slice pq qs.length kq,.slice pc cs.length kc,.slice pb bs.length kb,.slice ph hs.length kh,int d.s,int d.d,int d.v,int d.r,int d.e,u,.map (some bm)]) rfl
 have v1:rdc (sng c1 (.cells #[.pointer (some ⟨bw,0,none⟩)] 125 (0,0))) c1 0 = some (.pointer (some ⟨bw,0,none⟩)):=by rw [rdc_sng]; rfl
 have v2:rdc (sng c2 (.cells #[int (i:Int)] 3 (0,0))) c2 0 = some (int (i:Int)):=by rw [rdc_sng]; rfl
 subst e4;simp only [List.cons_append,List.nil_append]
 refine spec_in (cap:=[.pointer (some ⟨c1,0,none⟩),.pointer (some ⟨c2,0,none⟩)]) Tryz.func135 rfl rfl Tryz.ntmps135 rfl envZ (fun N β=>?_)
 refine AC ?_
 refine A5 (.q 0 (.q 1 (.q 2 (.q 3 (.q 4 (.q 5 (.q 6 (.q 7 (.q 8 (.l 9 .e (.l 10 .b .nil))))))))))) [] rfl (by kernel_rfl) Sel.nil ?_
 refine AQ ?_;refine A0 ?_;refine AU ?_;refine AU ?_;refine AU ?_;refine AQ ?_;refine AQ ?_;refine BJ ?_;refine BN ?_;refine C9 ?_; rintro _ _ ⟨b,rfl,rfl⟩
 focus ((refine CP ?_; refine' FX rfl _ rfl rfl _ _; rotate_left; (focus (apply C6; exact rfl; exact rfl; exact takeZ; exact (by (repeat (first | exact (fun v hv=>absurd hv List.not_mem_nil) | (refine List.forall_mem_cons.2 ⟨?_,?_⟩; (focus (first | exact rfl | assumption))))); first | done | fail); exact rfl; exact rfl)); (focus (rintro _ _ ⟨_,rfl⟩ w hw; exact hw.sel Sel.nil)); rintro _ _ ⟨rfl,rfl⟩))
 refine A6 ?_
 revert b; intro b4
 refine AC ?_;refine AR (ρ:=sng b4 _) takeZ ?_
 have g5:rdc (sng b4 (.cells #[int x.f,int x.t,int x.s,int x.e,int x.r,int x.g,int x.l] 57 (0,0))) b4 5 = some (int x.g):=by rw [rdc_sng]; rfl
 refine A5 (.q 0 (.q 1 (.q 2 (.q 3 (.q 4 (.q 5 (.q 6 (.q 7 (.q 8 (.q 9 (.q 10 (.l 11 .e (.q 12 (.q 13 (.q 14 (.q 15 (.q 16 .nil))))))))))))))))) [] rfl (by kernel_rfl) Sel.nil ?_
 refine AQ ?_;refine A0 ?_;refine AU ?_;refine AU ?_;refine BN ?_;refine AQ ?_;refine A0 ?_;refine AU ?_;refine AU ?_;refine AQ ?_;refine AQ ?_;refine CP (DF rfl hfree rfl rfl rdZ rfl rfl ?_);rintro _ _ ⟨χ,⟨uf,rfl,hO⟩,rfl⟩
 have hSf:=hO.at
 obtain ⟨pf,kf,rfl⟩:=hO.form
 obtain ⟨_,_,ef,hrf⟩:=SlE.val (enc:=encS) encS_len (show SlE encS 2 χ _ (freeC cs bs i) from hSf)
 simp only [Value.slice.injEq] at ef
 obtain ⟨rfl,_,rfl⟩:=ef
 refine AS ?_;refine DH ?_;refine DH ?_;refine BT ?_;refine BT ?_;refine A6 ?_;refine AC ?_;refine AA ?_;refine AB ?_;refine AW ?_;refine AB ?_;refine AE ?_;refine AP ?_;refine AR (ρ:=χ) takeZ ?_
 generalize freeC cs bs i = F at hy hfl hfin hrf hO hSf
 refine BA [0,1,2,4,34,35] (X:=Nat × S) (0,σ0) (fun z=>z.1 ≤ F.length ∧ Inv (tickL d.r d.e x.g (F.take z.1)).length z.2) (fun z=>[(36,int z.1)]) (fun z=>Own z.2) (fun z=>F.length - z.1) pickZ ⟨by dsimp only; omega,hI0⟩ covZ Sel.refl ?_
 rintro ⟨k,σ'⟩ ⟨hk,hI⟩
 dsimp only at hk hI ⊢
 by_cases hlt:k < F.length
 rotate_left
 ·have hke:k = F.length:=by omega
  subst hke;rw [List.take_length] at hI;refine AC ?_;refine AA ?_;refine AZ ?_;refine AE ?_;refine AC ?_;refine AM rfl ?_;refine A7 rfl ?_
  refine B8 (res0 rfl) (fun _ h=>List.mem_cons_of_mem _ (List.mem_cons_of_mem _ h)) Sel.refl ⟨σ',rfl,.inl ?_⟩
  rw [List.length_map];exact hI
 have hz:=List.getElem?_eq_getElem hlt
 have hlen:=tickL_len d.r d.e x.g F hz
 have hat:=fun t h1 h2=>tickL_at d.r d.e x.g F hz (t:=t) h1 h2
 have hin:=hfin _ (List.getElem_mem hlt)
 obtain ⟨b6,o6,rfl,hRd6,y0,y1⟩:=spRow hrf hz
 generalize F[k] = z at hz hlen hat hin hRd6 y0 y1
 refine AC ?_;refine AA ?_;refine BC ?_;refine AE ?_;refine AC ?_;refine AN rfl ?_;refine AK ?_;refine AC ?_;refine AP ?_;refine AC ?_;refine AA ?_;refine BB ?_;refine AT ?_;refine AX ?_; rintro _ _ ⟨b,rfl,rfl⟩;refine AV ?_; rintro _ _ ⟨rfl,rfl⟩;refine AE ?_;refine AC ?_
 revert b; intro b8
 refine A5 (.q 0 (.q 1 (.q 2 (.q 3 (.q 4 (.q 5 (.q 6 (.q 7 (.q 8 .nil))))))))) [] rfl (by kernel_rfl) Sel.nil ?_
 refine AU ?_;refine AQ ?_;refine AQ ?_;refine A0 ?_;refine AU ?_;refine CB ?_;refine AQ ?_;refine zd_max ?_;refine BT ?_;refine A6 ?_;refine AP ?_
 refine BA [0,1,2,4,8,34,35,36] (X:=Int × S) (max z.1 d.r,σ') (fun w=>max z.1 d.r ≤ w.1 ∧ (w.1 ≤ min z.2 (d.e - x.g) ∨ w.1 = max z.1 d.r) ∧ Inv ((tickL d.r d.e x.g (F.take k)).length + (w.1 - max z.1 d.r).toNat) w.2) (fun w=>[(9,int w.1)]) (fun w=>sng b8 (.cells #[int z.1,int z.2] 93 (0,0)) :: Own w.2) (fun w=>(1099511627776 - w.1).toNat) pickZ ⟨by dsimp only; omega,by dsimp only; omega,by dsimp only; rw [show (max z.1 d.r - max z.1 d.r).toNat = 0 by omega,Nat.add_zero]; exact hI⟩ covZ Sel.refl ?_
 rintro ⟨t,σ2⟩ ⟨ht1,ht2,hI2⟩
 dsimp only at ht1 ht2 hI2 ⊢
 by_cases hz2:t < z.2
 ·by_cases hg2:t + 1 + x.g ≤ d.e
  ·have hya:=hy _ σ2 (Eng.encI t) (by rw [List.getElem?_map,hat t ht1 (by omega)]; rfl) hI2
   refine AC ?_;refine AC ?_
   refine A5 (.q 0 (.q 1 (.q 2 (.q 3 (.q 4 (.q 5 (.q 6 (.q 7 (.q 8 (.q 9 (.q 10 (.q 11 (.q 12 (.q 13 (.q 14 (.q 15 (.q 16 .nil))))))))))))))))) [] rfl (by kernel_rfl) Sel.nil ?_
   refine AS ?_;refine AU ?_;refine AQ ?_;refine E7 ?_;refine AS ?_;refine AS ?_;refine C4 ?_;refine AU ?_;refine AQ ?_;refine C4 ?_;refine AQ ?_;refine A0 ?_;refine AU ?_;refine CB ?_;refine AQ ?_;refine GR ?_;refine BY ?_;refine A6 ?_;refine AN rfl ?_;refine AK ?_;refine AC ?_;refine AP ?_;refine AC ?_;refine AA ?_;refine AB ?_;refine AB ?_
   refine BE hya rfl rfl (Takes.skip Takes.all) (fun τ hτ=>.inl (by simp [hτ])) rfl rfl ?_
   rintro _ H' ⟨σ3,rfl,⟨rfl,hI3⟩ | ⟨rfl,hSt⟩⟩
   ·refine CH (H':=_ :: Own σ3) (List.perm_append_comm (l₂:=[_])) ?_
    refine A9 ?_;refine AE ?_;refine AM rfl ?_;refine AK ?_;refine A3 ?_;refine AA ?_;refine AB ?_;refine CK ?_;refine AD ?_;refine AE ?_
    refine AY (t + 1,σ3) ⟨by dsimp only; omega,by dsimp only; omega,?_⟩ (by dsimp only; omega) covZ Sel.refl
    dsimp only
    rw [show (t + 1 - max z.1 d.r).toNat = (t - max z.1 d.r).toNat + 1 by omega]
    exact hI3
   ·refine A9 ?_
    refine AE ?_;refine AN rfl ?_
    exact AI (res0 rfl) (fun _ h=>List.mem_cons_of_mem _ (List.mem_cons_of_mem _ h)) Sel.left ⟨σ3,rfl,.inr hSt⟩
  ·refine AC ?_
   refine AC ?_
   refine A5 (.q 0 (.q 1 (.q 2 (.q 3 (.q 4 (.q 5 (.q 6 (.q 7 (.q 8 (.q 9 (.q 10 (.q 11 (.q 12 (.q 13 (.q 14 (.q 15 (.q 16 .nil))))))))))))))))) [] rfl (by kernel_rfl) Sel.nil ?_
   refine AS ?_;refine AU ?_;refine AQ ?_;refine E7 ?_;refine AS ?_;refine AS ?_;refine C4 ?_;refine AU ?_;refine AQ ?_;refine C4 ?_;refine AQ ?_;refine A0 ?_;refine AU ?_;refine CB ?_;refine AQ ?_;refine FN ?_;refine BY ?_;refine A6 ?_;refine AM rfl ?_;refine A7 rfl ?_;refine A3 ?_;refine AA ?_;refine A8 ?_;refine AB ?_;refine AE ?_
   refine AY (k + 1,σ2) ⟨by dsimp only; omega,?_⟩ (by dsimp only; omega) covZ (Sel.skip Sel.refl)
   dsimp only
   rw [hlen,show (min z.2 (d.e - x.g) - max z.1 d.r).toNat = (t - max z.1 d.r).toNat by omega]
   exact hI2
 ·refine AC ?_
  refine AC ?_
  refine A5 (.q 0 (.q 1 (.q 2 (.q 3 (.q 4 (.q 5 (.q 6 (.q 7 (.q 8 (.q 9 (.q 10 (.q 11 (.q 12 (.q 13 (.q 14 (.q 15 (.q 16 .nil))))))))))))))))) [] rfl (by kernel_rfl) Sel.nil ?_
  refine AS ?_;refine AU ?_;refine AQ ?_;refine DV ?_;refine AS ?_;refine A4 rfl rfl rfl rfl rfl ?_;refine A4 rfl rfl rfl rfl rfl ?_;refine A4 rfl rfl rfl rfl rfl ?_;refine A4 rfl rfl rfl rfl rfl ?_;refine A4 rfl rfl rfl rfl rfl ?_;refine A4 rfl rfl rfl rfl rfl ?_;refine A4 rfl rfl rfl rfl rfl ?_;refine A4 rfl rfl rfl rfl rfl ?_;refine A4 rfl rfl rfl rfl rfl ?_;refine A4 rfl rfl rfl rfl rfl ?_;refine A4 rfl rfl rfl rfl rfl ?_;refine BV ?_;refine A6 ?_;refine AM rfl ?_;refine A7 rfl ?_;refine A3 ?_;refine AA ?_;refine A8 ?_;refine AB ?_;refine AE ?_
  refine AY (k + 1,σ2) ⟨by dsimp only; omega,?_⟩ (by dsimp only; omega) covZ (Sel.skip Sel.refl)
  dsimp only
  rw [hlen,show (min z.2 (d.e - x.g) - max z.1 d.r).toNat = (t - max z.1 d.r).toNat by omega]
  exact hI2
end Go.Proofs.YtphehihohghfoaaGreat
/- Places and arcs, one after the other; what a map holds; the end of a function behind loops over functions. No conditions. -/
namespace Go.Eng
variable {C:Cx} {R H:List PH} {L:Env} {dst:Option Tmp} {ty:TypeId} {pos:String} {aft:Array Edge} {g:Option (Nat × Bool)}
theorem CO {x y:Operand} {t kt et:TypeId} {b:Nat} (n:Nat) (k:List Int) {l:List (List Int × Value)} {z v:Value} (h:evalE L x = some (.map (some b))) (hk:evalE L y = some (aggI k)) (ht:C.P.underlying t = some (.map kt et)) (hkt:KeyS C.P kt n) (hn:k.length = n) (hl:∀ x ∈ l,x.1.length = n) (hz:zeroP C.P et = some z) (hv:mgetS k l = some v) (hm:MapAtS C.N R H b l) :
    Quiet C R H L ⟨dst,.lookup t x y false,ty,pos,aft,g⟩ v:=by
  have:=FS (C:=C) (R:=R) (H:=H) (L:=L) (dst:=dst) (ty:=ty) (pos:=pos) (aft:=aft) (g:=g) n k h hk ht hkt hn hl hz hm
  rwa [hv,Option.getD_some] at this
theorem F7 {P:Program} {fn:Func} {N:Bs} {M:Nat} {R R0 H H1 H':List PH} {L:Env} {post:Value → List PH → Prop} {v:Value} {ms:List Nat} {μ:PH} (m:MkIn μ ms) (t:Take μ H H1)
    (hv:∀ a w,Frm M L a → Sat N R H1 w → (results fn a.tmps).run P w = .ok v w) (hR:∀ ρ ∈ R0,ρ ∈ R) (hH:Sel H1 H') (hp:post v H') :
    JK ⟨none,P,FnQ P fn N R0 post,N,M⟩ (ms.map mk) R H L []:=by
  refine ⟨fun a w hf hd hs=>?_⟩
  show MarksQ _ _ _ _ a.defers w
  rw [hd]
  exact m.run (hs.take t) (fun w' hs'=>⟨v,hv a w' hf hs',H',hp,(hs'.rsub hR).sel hH⟩)
end Go.Eng
namespace Go.Step
section
variable {qs:List Int} {cs:List Ct} {bs:List Bk} {hs:List Hd} {d:Dm}
theorem waitN_at {n:Int} {t:Int} (h1:d.r ≤ t) (h2:t < d.e):(waitN qs hs d n)[(t - d.r).toNat]? = some ⟨⟨vtx d n t,vtx d n (t + 1),roomT qs hs d n t⟩,-1,t⟩:=by
  unfold waitN
  rw [List.getElem?_map,rngI_get (by omega),show d.r + ((t - d.r).toNat:Int) = t by omega]
  rfl
theorem waitA_at {n:Nat} {t:Int} (h1:d.r ≤ t) (h2:t < d.e):∀ {m:Nat},n < m → (waitA qs hs d m)[n * (d.e - d.r).toNat + (t - d.r).toNat]? = some ⟨⟨vtx d n t,vtx d n (t + 1),roomT qs hs d n t⟩,-1,t⟩
  | 0,h=>by omega
  | m + 1,h=>by
    have hl:=waitA_len qs hs d m
    unfold waitA
    by_cases hn:n < m
    · have h3:(n + 1) * (d.e - d.r).toNat ≤ m * (d.e - d.r).toNat:=Nat.mul_le_mul_right _ hn
      rw [Nat.add_mul,Nat.one_mul] at h3
      rw [List.getElem?_append_left (by omega)]
      exact waitA_at h1 h2 hn
    · obtain rfl:n = m:=by omega
      rw [List.getElem?_append_right (by omega),hl,Nat.add_sub_cancel_left]
      exact waitN_at h1 h2
theorem conA_pre (cs:List Ct) (bs:List Bk) (d:Dm) (i:Nat):∀ m:Nat,i < m → ∃ rest,conA cs bs d m = conA cs bs d i ++ (conN cs bs d i ++ rest)
  | 0,h=>by omega
  | m + 1,h=>by
    by_cases hi:i < m
    · obtain ⟨rest,e⟩:=conA_pre cs bs d i m hi
      refine ⟨rest ++ conN cs bs d m,?_⟩
      show conA cs bs d m ++ _ = _
      rw [e]
      simp
    · obtain rfl:i = m:=by omega
      exact ⟨[],by show conA cs bs d i ++ _ = _; simp⟩
theorem arcs_wait {n:Nat} {t:Int} (hn:n < qs.length) (h1:d.r ≤ t) (h2:t < d.e):(arcsE qs cs bs hs d)[n * (d.e - d.r).toNat + (t - d.r).toNat]? = some ⟨⟨vtx d n t,vtx d n (t + 1),roomT qs hs d n t⟩,-1,t⟩:=by
  have hl:=waitA_len qs hs d qs.length
  have h3:(n + 1) * (d.e - d.r).toNat ≤ qs.length * (d.e - d.r).toNat:=Nat.mul_le_mul_right _ hn
  rw [Nat.add_mul,Nat.one_mul] at h3;unfold arcsE
  rw [List.getElem?_append_left (by omega)]
  exact waitA_at h1 h2 hn
theorem arcs_con {i:Nat} {c:Ct} (hc:cs[i]? = some c) {j:Nat} {t:Int} (ht:(tickL d.r d.e c.g (freeC cs bs i))[j]? = some t):(arcsE qs cs bs hs d)[(waitA qs hs d qs.length).length + (conA cs bs d i).length + j]? = some (conE d c i t):=by
  obtain ⟨rest,e⟩:=conA_pre cs bs d i cs.length (List.getElem?_eq_some_iff.1 hc).1
  have hN:conN cs bs d i = (tickL d.r d.e c.g (freeC cs bs i)).map (conE d c i):=by unfold conN; rw [hc]
  unfold arcsE
  rw [e,List.getElem?_append_right (by omega),show (waitA qs hs d qs.length).length + (conA cs bs d i).length + j - (waitA qs hs d qs.length).length = (conA cs bs d i).length + j by omega,List.getElem?_append_right (by omega),Nat.add_sub_cancel_left,List.getElem?_append_left (by
    rw [hN,List.length_map]
    exact (List.getElem?_eq_some_iff.1 ht).1),hN,List.getElem?_map,ht]
  rfl
theorem conA_next (cs:List Ct) (bs:List Bk) (d:Dm) {i:Nat} {c:Ct} (hc:cs[i]? = some c):(conA cs bs d (i + 1)).length = (conA cs bs d i).length + (tickL d.r d.e c.g (freeC cs bs i)).length:=by
  show (conA cs bs d i ++ conN cs bs d i).length = _
  unfold conN;rw [hc,List.length_append,List.length_map]
theorem place_of (h:d.r ≤ d.e) {k N:Nat} (hk:(k:Int) < N * wd d):∃ (n:Nat) (t:Int),n < N ∧ d.r ≤ t ∧ t ≤ d.e ∧ (k:Int) = vtx d n t ∧ k = n * (wd d).toNat + (t - d.r).toNat:=by
  obtain ⟨⟨a1,a2⟩,⟨b1,b2⟩,c⟩:=vtx_of (d:=d) (v:=(k:Int)) (N:=N) (by unfold wd; omega) (by omega) hk
  obtain ⟨n,hn⟩:=Int.eq_ofNat_of_zero_le a1
  have hw:(((wd d).toNat:Nat):Int) = wd d:=by unfold wd; omega
  rw [hn] at c
  generalize (k:Int) % wd d = m at b1 b2 c
  refine ⟨n,d.r + m,by omega,b1,b2,c.symm,?_⟩
  have e:((n * (wd d).toNat + (d.r + m - d.r).toNat:Nat):Int) = (k:Int):=by
    rw [Int.natCast_add,Int.natCast_mul,hw,← c];unfold vtx;omega
  omega
end
end Go.Step
/- Where the ways of a test meet behind it: the test's region and the test. No conditions. -/
namespace Go.Eng
variable {C:Cx} {D:List Deferred} {R H:List PH} {L:Env} {K:List It}
end Go.Eng
/- The arcs, one after the other. -/
namespace Go.Proofs.YtphehihohghfoaaGreat
open Go.Eng Go.Step
set_option maxRecDepth 100000
set_option maxHeartbeats 4000000

def encEA (x:EA):List Value:=[.agg #[int x.a.f,int x.a.t,int x.a.c,int x.c,int x.t]]
theorem arcs_spec (bw:Nat) :
  Eng.Spec Tryz.prog (fv 72) [.pointer (some ⟨bw,0,none⟩)] [] [] (fun r H'=>∃ c1,r = .func (.func 102) #[] #[.pointer (some ⟨c1,0,none⟩)] ∧ H' = [sng c1 (.cells #[.pointer (some ⟨bw,0,none⟩)] 125 (0,0))]):=by
 refine spec_in (cap:=[]) Tryz.func72 rfl rfl Tryz.ntmps72 rfl envZ (fun N β=>?_)
 refine AC ?_;refine AA ?_;refine BH (CX rfl rfl) rfl rfl rfl ?_;rintro _ _ ⟨c1,rfl,rfl⟩;refine AD ?_;refine AE ?_;refine AC ?_;refine AA ?_;refine BW ?_;refine AD ?_;refine AE ?_;exact AI (res1 rfl rfl) rsubZ selZ ⟨c1,rfl,rfl⟩
theorem numAt_get {d:Dm} {N:Nat} {M:List (List Int × Value)} (h:NumAt d N d.r M) {n t:Int} (h0:0 ≤ n) (hn:n < N) (h1:d.r ≤ t) (h2:t ≤ d.e):mgetS [n,t] M = some (int (vtx d n t)):=by
 rw [h.2,if_pos (by omega)]
set_option maxHeartbeats 64000000 in
theorem arcs_iter {ρ τ σ υ:PH} {pq pc pb ph:Option Addr} {kq kc kb kh:Nat} {qs:List Int} {cs:List Ct} {bs:List Bk} {hs:List Hd} (hT:TbAt ρ τ σ υ pq pc pb ph kq kc kb kh qs cs bs hs) (bw bm c1 kp:Nat) (pl:Option Addr) (χ:PH) (M:List (List Int × Value)) (d:Dm) (h:VOk qs cs bs hs d) (h0:chkB qs cs bs = 0) (hpl:SlE encS 2 χ (.slice pl (placesA d qs.length).length kp) (placesA d qs.length)) (hM:NumAt d qs.length d.r M) :
  Iter Tryz.prog (.func (.func 102) #[] #[.pointer (some ⟨c1,0,none⟩)]) [sng c1 (.cells #[.pointer (some ⟨bw,0,none⟩)] 125 (0,0)),sng bw (.cells #[.slice pq qs.length kq,.slice pc cs.length kc,.slice pb bs.length kb,.slice ph hs.length kh,int d.s,int d.d,int d.v,int d.r,int d.e,.slice pl (placesA d qs.length).length kp,.map (some bm)] 134 (0,0)),sng bm (mapS M),χ,ρ,τ,σ,υ] ((arcsE qs cs bs hs d).map encEA):=by
 intro y S Own Inv Stop Ry hy hyl σ0 hI0
 obtain ⟨yl,rfl⟩:=hyl
 have hdm:=h.dm
 unfold okDm at hdm
 have hnq:=h.nq
 have hnc:=h.nc
 have hMl:=hM.1
 have hW:2 ≤ (wd d).toNat ∧ (wd d).toNat = (d.e - d.r).toNat + 1:=by unfold wd; omega
 have hplen:=placesA_len (d:=d) (by omega) qs.length
 have hpb:(placesA d qs.length).length ≤ 1616:=by
  have:=h.vs
  unfold vsN at this;omega
 obtain ⟨_,_,ep,hrp⟩:=hpl.val encS_len
 simp only [Value.slice.injEq] at ep
 obtain ⟨rfl,_,rfl⟩:=ep
 have w0:rdc (sng bw (.cells #[.slice pq qs.length kq,.slice pc cs.length kc,.slice pb bs.length kb,.slice ph hs.length kh,int d.s,int d.d,int d.v,int d.r,int d.e,.slice pl (placesA d qs.length).length kp,.map (some bm)] 134 (0,0))) bw 0 = some (.slice pq qs.length kq):=by rw [rdc_sng]; rfl
 have w1:rdc (sng bw (.cells #[.slice pq qs.length kq,.slice pc cs.length kc,.slice pb bs.length kb,.slice ph hs.length kh,int d.s,int d.d,int d.v,int d.r,int d.e,.slice pl (placesA d qs.length).length kp,.map (some bm)] 134 (0,0))) bw 1 = some (.slice pc cs.length kc):=by rw [rdc_sng]; rfl
 have w2:rdc (sng bw (.cells #[.slice pq qs.length kq,.slice pc cs.length kc,.slice pb bs.length kb,.slice ph hs.length kh,int d.s,int d.d,int d.v,int d.r,int d.e,.slice pl (placesA d qs.length).length kp,.map (some bm)] 134 (0,0))) bw 2 = some (.slice pb bs.length kb):=by rw [rdc_sng]; rfl
 have w3:rdc (sng bw (.cells #[.slice pq qs.length kq,.slice pc cs.length kc,.slice pb bs.length kb,.slice ph hs.length kh,int d.s,int d.d,int d.v,int d.r,int d.e,.slice pl (placesA d qs.length).length kp,.map (some bm)] 134 (0,0))) bw 3 = some (.slice ph hs.length kh):=by rw [rdc_sng]; rfl
 have w4:rdc (sng bw (.cells #[.slice pq qs.length kq,.slice pc cs.length kc,.slice pb bs.length kb,.slice ph hs.length kh,int d.s,int d.d,int d.v,int d.r,int d.e,.slice pl (placesA d qs.length).length kp,.map (some bm)] 134 (0,0))) bw 4 = some (int d.s):=by rw [rdc_sng]; rfl
 have w5:rdc (sng bw (.cells #[.slice pq qs.length kq,.slice pc cs.length kc,.slice pb bs.length kb,.slice ph hs.length kh,int d.s,int d.d,int d.v,int d.r,int d.e,.slice pl (placesA d qs.length).length kp,.map (some bm)] 134 (0,0))) bw 5 = some (int d.d):=by rw [rdc_sng]; rfl
 have w6:rdc (sng bw (.cells #[.slice pq qs.length kq,.slice pc cs.length kc,.slice pb bs.length kb,.slice ph hs.length kh,int d.s,int d.d,int d.v,int d.r,int d.e,.slice pl (placesA d qs.length).length kp,.map (some bm)] 134 (0,0))) bw 6 = some (int d.v):=by rw [rdc_sng]; rfl
 have w7:rdc (sng bw (.cells #[.slice pq qs.length kq,.slice pc cs.length kc,.slice pb bs.length kb,.slice ph hs.length kh,int d.s,int d.d,int d.v,int d.r,int d.e,.slice pl (placesA d qs.length).length kp,.map (some bm)] 134 (0,0))) bw 7 = some (int d.r):=by rw [rdc_sng]; rfl
 have w8:rdc (sng bw (.cells #[.slice pq qs.length kq,.slice pc cs.length kc,.slice pb bs.length kb,.slice ph hs.length kh,int d.s,int d.d,int d.v,int d.r,int d.e,.slice pl (placesA d qs.length).length kp,.map (some bm)] 134 (0,0))) bw 8 = some (int d.e):=by rw [rdc_sng]; rfl
 have w9:rdc (sng bw (.cells #[.slice pq qs.length kq,.slice pc cs.length kc,.slice pb bs.length kb,.slice ph hs.length kh,int d.s,int d.d,int d.v,int d.r,int d.e,.slice pl (placesA d qs.length).length kp,.map (some bm)] 134 (0,0))) bw 9 = some (.slice pl (placesA d qs.length).length kp):=by rw [rdc_sng]; rfl
 have w10:rdc (sng bw (.cells #[.slice pq qs.length kq,.slice pc cs.length kc,.slice pb bs.length kb,.slice ph hs.length kh,int d.s,int d.d,int d.v,int d.r,int d.e,.slice pl (placesA d qs.length).length kp,.map (some bm)] 134 (0,0))) bw 10 = some (.map (some bm)):=by rw [rdc_sng]; rfl
 have wp:RdP (sng bw (.cells #[.slice pq qs.length kq,.slice pc cs.length kc,.slice pb bs.length kb,.slice ph hs.length kh,int d.s,int d.d,int d.v,int d.r,int d.e,.slice pl (placesA d qs.length).length kp,.map (some bm)] 134 (0,0))) bw 0 [.slice pq qs.length kq,.slice pc cs.length kc]:=rdP_sng (xs:=[.slice pq qs.length kq,.slice pc cs.length kc,.slice pb bs.length kb,.slice ph hs.length kh,int d.s,int d.d,int d.v,int d.r,int d.e,.slice pl (placesA d qs.length).length kp,.map (some bm)]) rfl
 have v1:rdc (sng c1 (.cells #[.pointer (some ⟨bw,0,none⟩)] 125 (0,0))) c1 0 = some (.pointer (some ⟨bw,0,none⟩)):=by rw [rdc_sng]; rfl
 simp only [List.cons_append,List.nil_append]
 refine spec_in (cap:=[.pointer (some ⟨c1,0,none⟩)]) Tryz.func102 rfl rfl Tryz.ntmps102 rfl envZ (fun N β=>?_)
 refine AC ?_;refine AA ?_;refine BH (CX rfl rfl) rfl rfl rfl ?_;rintro _ _ ⟨b2,rfl,rfl⟩;refine AR (ρ:=sng b2 _) takeZ ?_
 have v2:rdc (sng b2 (.cells #[yv yl] 185 (0,0))) b2 0 = some (yv yl):=by rw [rdc_sng]; rfl
 refine AE ?_;refine AC ?_;refine AC ?_;refine AA ?_;refine AF ?_;refine BL ?_;refine AG ?_;refine AF ?_;refine AW ?_;refine AB ?_;refine AE ?_;refine AP ?_
 refine BA [0,1,2,13,14] (X:=Nat × S) (0,σ0) (fun z=>z.1 ≤ (placesA d qs.length).length ∧ Inv (z.1 - z.1 / (wd d).toNat) z.2) (fun z=>[(15,int z.1)]) (fun z=>Own z.2) (fun z=>(placesA d qs.length).length - z.1) pickZ ⟨by dsimp only; omega,by dsimp only; rw [Nat.zero_sub]; exact hI0⟩ covZ Sel.refl ?_
 rintro ⟨k,σ'⟩ ⟨hk,hI⟩
 dsimp only at hk hI ⊢
 by_cases hlt:k < (placesA d qs.length).length
 ·obtain ⟨n,t,hn,ht1,ht2,hkv,hkn⟩:=place_of (d:=d) (by omega) (k:=k) (N:=qs.length) (by omega)
  have hx:=placesA_get (d:=d) (by omega) ht1 ht2 hn
  rw [← hkv,Int.toNat_natCast] at hx
  have hdiv:k / (wd d).toNat = n:=by
   rw [hkn,Nat.mul_comm,Nat.mul_add_div (by omega),Nat.div_eq_of_lt (by omega),Nat.add_zero]
  obtain ⟨b6,o6,rfl,hRd6,y0,y1⟩:=spRow hrp hx
  have hl1:=numAt_get hM (n:=n) (t:=t) (by omega) (by omega) ht1 ht2
  have hroom:=exRoom_spec hT bw bm (.slice (some ⟨b6,o6,none⟩) (placesA d qs.length).length kp) d h n t hn
  rw [hdiv] at hI
  by_cases hte:t = d.e
  ·have hnext:(k + 1) - (k + 1) / (wd d).toNat = k - n:=by
    have e:k + 1 = (n + 1) * (wd d).toNat:=by rw [Nat.add_mul,Nat.one_mul]; omega
    rw [e,Nat.mul_div_cancel _ (by omega)]
    omega
   refine AC ?_;refine AA ?_;refine BC ?_;refine AE ?_;refine AC ?_;refine AN rfl ?_;refine AK ?_;refine AC ?_;refine AP ?_;refine AC ?_;refine AA ?_;refine BB ?_;refine AT ?_;refine AX ?_; rintro _ _ ⟨b,rfl,rfl⟩;refine AV ?_; rintro _ _ ⟨rfl,rfl⟩;refine AE ?_;refine AC ?_;refine AC ?_
   revert b; intro b4
   refine A5 (.q 0 (.q 1 (.q 2 (.q 3 (.q 4 (.q 5 (.q 6 (.q 7 .nil)))))))) [] rfl (by kernel_rfl) Sel.nil ?_
   refine AU ?_;refine AQ ?_;refine AQ ?_;refine A0 ?_;refine AU ?_;refine CB ?_;refine AQ ?_;refine EK ?_;refine A6 ?_;refine AN rfl ?_;refine A7 rfl ?_;refine AA ?_;refine A8 ?_;refine AB ?_;refine AE ?_
   exact AY (k + 1,σ') ⟨by dsimp only; omega,by dsimp only; rw [hnext]; exact hI⟩ (by dsimp only; omega) covZ (Sel.skip Sel.refl)
  have hl2:=numAt_get hM (n:=n) (t:=t + 1) (by omega) (by omega) (by omega) (by omega)
  have hnm:k - n = n * (d.e - d.r).toNat + (t - d.r).toNat:=by
   rw [hkn,hW.2,Nat.mul_add,Nat.mul_one];omega
  have hnext:(k + 1) - (k + 1) / (wd d).toNat = k - n + 1:=by
   have e:(k + 1) / (wd d).toNat = n:=by
    rw [show k + 1 = (wd d).toNat * n + ((t - d.r).toNat + 1) by rw [Nat.mul_comm]; omega,Nat.mul_add_div (by omega),Nat.div_eq_of_lt (by omega),Nat.add_zero]
   have:n ≤ k:=by
    have:=Nat.le_mul_of_pos_right n (show 0 < (wd d).toNat by omega)
    omega
   rw [e];omega
  have hat:=arcs_wait (qs:=qs) (cs:=cs) (bs:=bs) (hs:=hs) hn ht1 (show t < d.e by omega)
  rw [← hnm] at hat
  have hya:=hy _ σ' (encEA ⟨⟨vtx d n t,vtx d n (t + 1),roomT qs hs d n t⟩,-1,t⟩) (by rw [List.getElem?_map,hat]; rfl) hI
  refine AC ?_;refine AA ?_;refine BC ?_;refine AE ?_;refine AC ?_;refine AN rfl ?_;refine AK ?_;refine AC ?_;refine AP ?_;refine AC ?_;refine AA ?_;refine BB ?_;refine AT ?_;refine AX ?_; rintro _ _ ⟨b,rfl,rfl⟩;refine AV ?_; rintro _ _ ⟨rfl,rfl⟩;refine AE ?_;refine AC ?_;refine AC ?_
  revert b; intro b4
  refine A5 (.q 0 (.q 1 (.q 2 (.q 3 (.q 4 (.q 5 (.q 6 (.q 7 .nil)))))))) [] rfl (by kernel_rfl) Sel.nil ?_
  refine AU ?_;refine AQ ?_;refine AQ ?_;refine A0 ?_;refine AU ?_;refine CB ?_;refine AQ ?_;refine C3 ?_;refine A6 ?_;refine AM rfl ?_;refine AK ?_;refine AC ?_
  refine E9 (X:=Nat) [0,1,2,4,13,14,15] (fun _=>True) (fun x=>[(5,.pointer (some ⟨x,0,none⟩))]) (fun x=>sng x (.cells #[int (vtx d n t),int (vtx d n (t + 1)),int (roomT qs hs d n t)] 141 (0,0)) :: sng b4 (.cells #[int (n:Int),int t] 130 (0,0)) :: Own σ') pickZ ?_ ?_
  ·refine A5 (.q 0 (.q 1 (.q 2 (.q 3 (.q 4 (.q 5 (.q 6 (.q 7 (.q 8 (.q 9 (.q 10 (.q 11 (.q 12 (.q 13 (.q 14 (.q 15 (.q 16 (.q 17 (.q 18 (.l2 19 .e (.q 20 (.l 21 .e (.l 22 .b .nil))) 21 .e (.l 19 .e (.q 20 (.l 22 .b .nil))))))))))))))))))))))) [] rfl (by kernel_rfl) Sel.nil ?_
   repeat' (first
    | (refine AQ ?_)
    | (refine AU ?_)
    | (refine A0 ?_)
    | (refine C4 ?_)
    | (refine BN ?_)
    | (refine CQ ?_)
    | (focus ((refine' CT rfl _ rfl rfl rfl rfl _; rotate_left; (focus (first | exact CO 2 [(n:Int),t] rfl rfl rfl ⟨by kernel_rfl,by kernel_rfl⟩ rfl hMl rfl hl1 (mapAtS_rd memZ) | exact CO 2 [(n:Int),t + 1] rfl rfl rfl ⟨by kernel_rfl,by kernel_rfl⟩ rfl hMl rfl hl2 (mapAtS_rd memZ))))))
    | (focus ((refine CG rfl hroom rfl rfl rdZ rfl rfl ?_; rintro _ rfl)))
    | (refine A6 ?_)
    | (refine FW ?_ ?_)
    | (focus ((refine CP (CG rfl hroom rfl rfl rdZ rfl rfl ?_); rintro _ rfl)))
    | (focus ((refine CP ?_; refine' FX rfl _ rfl rfl _ _; rotate_left; (focus (apply C6; exact rfl; exact rfl; exact takeZ; exact (by (repeat (first | exact (fun v hv=>absurd hv List.not_mem_nil) | (refine List.forall_mem_cons.2 ⟨?_,?_⟩; (focus (first | exact rfl | assumption))))); first | done | fail); exact rfl; exact rfl)); (focus (rintro _ _ ⟨_,rfl⟩ w hw; exact hw.sel Sel.nil)); rintro _ _ ⟨rfl,rfl⟩)))
    | (refine C9 ?_; rintro _ _ ⟨b,rfl,rfl⟩)
    | (refine FQ ?_; rintro _ _ ⟨b,rfl,rfl⟩)
    | fail)
   all_goals (refine D0 _ trivial covZ Sel.refl)
  rintro b5 _;refine AC ?_;refine AA ?_;refine AF ?_;refine AT ?_;refine AG ?_;refine AF ?_;refine CD (DP (out:=[int (vtx d n t),int (vtx d n (t + 1)),int (roomT qs hs d n t),int (-1),int t]) rfl rfl rfl rfl rfl) rfl rfl rfl ?_
  refine BE hya rfl rfl (Takes.skip (Takes.skip Takes.all)) (fun τ hτ=>.inl (by simp [hτ])) rfl rfl ?_
  rintro _ H' ⟨σ3,rfl,⟨rfl,hI3⟩ | ⟨rfl,hSt⟩⟩
  ·refine CH (H':=_ :: _ :: Own σ3) (List.perm_append_comm (l₂:=[_,_])) ?_
   refine A9 ?_;refine AE ?_;refine AM rfl ?_;refine AK ?_;refine A3 ?_;refine AA ?_;refine A8 ?_;refine AB ?_;refine AE ?_
   exact AY (k + 1,σ3) ⟨by dsimp only; omega,by dsimp only; rw [hnext]; exact hI3⟩ (by dsimp only; omega) covZ (Sel.skip (Sel.skip Sel.refl))
  ·refine A9 ?_
   refine AE ?_;refine AN rfl ?_
   exact AI (res0 rfl) (fun _ h=>List.mem_cons_of_mem _ h) Sel.left ⟨σ3,rfl,.inr hSt⟩
 have hke:k = (placesA d qs.length).length:=by omega
 subst hke
 have hcnt:(placesA d qs.length).length - (placesA d qs.length).length / (wd d).toNat = (waitA qs hs d qs.length).length:=by
  have e:(placesA d qs.length).length = qs.length * (wd d).toNat:=by
   have hw:(((wd d).toNat:Nat):Int) = wd d:=by unfold wd; omega
   have:(((placesA d qs.length).length:Nat):Int) = ((qs.length * (wd d).toNat:Nat):Int):=by rw [hplen,Int.natCast_mul,hw]
   omega
  rw [e,Nat.mul_div_cancel _ (by omega),waitA_len,hW.2,Nat.mul_add,Nat.mul_one]
  omega
 rw [hcnt] at hI;refine BX ?_;refine AC ?_;refine AA ?_;refine AZ ?_;refine AE ?_;refine AC ?_;refine AM rfl ?_;refine A7 rfl ?_;refine AC ?_;refine AA ?_;refine AF ?_;refine BL ?_;refine AG ?_;refine AG ?_;refine AG ?_;refine AF ?_;refine AW ?_;refine AB ?_;refine AE ?_;refine AP ?_
 refine DN [0,1,2,61,62] (X:=Nat × S × (List Nat × PH)) (0,σ',([],emp)) (fun x=>x.2.2.1.map mk) (fun x=>x.1 ≤ cs.length ∧ Inv ((waitA qs hs d qs.length).length + (conA cs bs d x.1).length) x.2.1 ∧ MkIn x.2.2.2 x.2.2.1) (fun x=>[(63,int x.1)]) (fun x=>x.2.2.2 :: Own x.2.1) (fun x=>cs.length - x.1) pickZ rfl ⟨by dsimp only; omega,hI,MkIn.nil⟩ covZ Sel.refl ?_
 rintro ⟨i,σ4,ms,μ⟩ ⟨hi,hI4,hMk⟩
 dsimp only at hi hI4 hMk ⊢
 by_cases hlt2:i < cs.length
 rotate_left
 ·have hie:i = cs.length:=by omega
  subst hie;refine AC ?_;refine AA ?_;refine AZ ?_;refine AE ?_;refine AC ?_;refine AM rfl ?_;refine A7 rfl ?_
  refine F7 hMk Take.here (res0 rfl) (fun _ h=>List.mem_cons_of_mem _ h) Sel.refl ⟨σ4,rfl,.inl ?_⟩
  rw [List.length_map];unfold arcsE;rw [List.length_append];exact hI4
 have hc:=List.getElem?_eq_getElem hlt2
 have hct:=h.ct _ (List.getElem_mem hlt2)
 have hcn:=conA_next cs bs d hc
 obtain ⟨b8,o8,rfl,hRd8⟩:=ctRow hT.rc hc
 have hticks:=fun c1' c2'=>ticks_iter hT bw bm c1' c2' (.slice pl (placesA d qs.length).length kp) d h h0 i _ hc
 have hat:=fun (j:Nat) (t:Int) (ht:(tickL d.r d.e cs[i].g (freeC cs bs i))[j]? = some t)=>arcs_con (qs:=qs) (hs:=hs) hc ht
 have hfree:=(h.free hc).2.2
 generalize cs[i] = x at hc hct hcn hRd8 hticks hat hfree
 refine AC ?_;refine AA ?_;refine BC ?_;refine AE ?_;refine AC ?_;refine AN rfl ?_;refine AK ?_;refine AC ?_;refine AP ?_;refine AC ?_;refine AA ?_;refine AB ?_;refine BB ?_;refine AT ?_;refine BR ?_; rintro _ _ ⟨b,rfl,rfl⟩;refine AX ?_; rintro _ _ ⟨b,rfl,rfl⟩;refine BD ?_; rintro _ _ ⟨rfl,rfl⟩;refine AV ?_; rintro _ _ ⟨rfl,rfl⟩;refine AE ?_;refine AC ?_;refine AA ?_;refine AF ?_;refine AF ?_
 revert b; intro b7
 revert b; intro b6
 refine BE (ticks_spec bw i) rfl rfl Takes.nil (fun τ hτ=>by simp at hτ) rfl rfl ?_
 rintro _ _ ⟨c3,c4,rfl,rfl⟩;refine AR (ρ:=sng c3 _) takeZ ?_;refine AR (ρ:=sng c4 _) takeZ ?_;refine AR (ρ:=sng b6 _) takeZ ?_;refine AR (ρ:=sng b7 _) takeZ ?_
 have g6:rdc (sng b6 (.cells #[int (i:Int)] 3 (0,0))) b6 0 = some (int (i:Int)):=by rw [rdc_sng]; rfl
 have f0:rdc (sng b7 (.cells #[int x.f,int x.t,int x.s,int x.e,int x.r,int x.g,int x.l] 57 (0,0))) b7 0 = some (int x.f):=by rw [rdc_sng]; rfl
 have f1:rdc (sng b7 (.cells #[int x.f,int x.t,int x.s,int x.e,int x.r,int x.g,int x.l] 57 (0,0))) b7 1 = some (int x.t):=by rw [rdc_sng]; rfl
 have f4:rdc (sng b7 (.cells #[int x.f,int x.t,int x.s,int x.e,int x.r,int x.g,int x.l] 57 (0,0))) b7 4 = some (int x.r):=by rw [rdc_sng]; rfl
 have f5:rdc (sng b7 (.cells #[int x.f,int x.t,int x.s,int x.e,int x.r,int x.g,int x.l] 57 (0,0))) b7 5 = some (int x.g):=by rw [rdc_sng]; rfl
 refine AE ?_;refine AP ?_
 refine CW (gf:=135) (cap:=[.pointer (some ⟨c3,0,none⟩),.pointer (some ⟨c4,0,none⟩)]) (ps:=[71]) (X:=S) rfl Tryz.func135 rfl rfl
  (hticks c3 c4) ?_ (fun j σ=>Inv ((waitA qs hs d qs.length).length + (conA cs bs d i).length + j) σ) (fun σ=>Own σ) (fun c σ=>c = .ret ∧ Stop σ) σ4 rfl (Takes.skip Takes.all) hI4 ?_ ?_ ?_
 ·intro σ' hσ
  simp only [List.mem_cons,List.not_mem_nil,or_false] at hσ ⊢
  rcases hσ with h | h | h | h | h | h | h <;> simp [h]
 ·rintro lo r j σ5 vs hvs hI5 hps has hbd hst hpe hfr
  obtain ⟨st,pe,fnn,tm,prm,asg,bdy,df⟩:=r
  simp only at hps has hbd hst hpe hfr;subst hps has hbd hst hpe;rw [List.getElem?_map] at hvs
  obtain ⟨t,ht,rfl⟩:=Option.map_eq_some_iff.1 hvs
  obtain ⟨_,ht1,ht2⟩:=mem_tickL.1 (List.mem_of_getElem? ht)
  have hl1:=numAt_get hM (n:=x.f) (t:=t) hct.1.1 hct.1.2 ht1 (by omega)
  have hl2:=numAt_get hM (n:=x.t) (t:=t + 1 + x.g) hct.2.1.1 hct.2.1.2 (by omega) (by omega)
  have hya:=hy _ σ5 (encEA (conE d x i t)) (by rw [List.getElem?_map,hat j t ht]; rfl) hI5
  refine yield_spec hfr rfl (by intro p hp; simp at hp; omega) putiZ (fun N' β'=>?_)
  dsimp only
  refine AA ?_;refine AD ?_;refine AE ?_;refine CM rfl rfl ?_;refine CV takeZ rfl ?_;refine AP ?_;refine AC ?_
  refine A5 (.q 0 (.q 1 (.q 2 (.q 3 (.q 4 (.q 5 (.q 6 (.q 7 (.q 8 (.q 9 (.q 10 (.q 11 (.q 12 (.q 13 (.q 14 (.q 15 (.q 16 (.q 17 (.q 18 (.q 19 (.q 20 (.q 21 (.q 22 (.q 23 (.q 24 (.l 25 .e (.l 26 .b .nil))))))))))))))))))))))))))) [] rfl (by kernel_rfl) Sel.nil ?_
  refine AQ ?_;refine A0 ?_;refine AU ?_;refine AQ ?_;refine AU ?_;refine AQ ?_;refine AS ?_;refine CQ ?_
  focus ((refine' CT rfl _ rfl rfl rfl rfl _; rotate_left; (focus (first | exact CO 2 [x.f,t] rfl rfl rfl ⟨by kernel_rfl,by kernel_rfl⟩ rfl hMl rfl hl1 (mapAtS_rd memZ) | exact CO 2 [x.t,t + 1 + x.g] rfl rfl rfl ⟨by kernel_rfl,by kernel_rfl⟩ rfl hMl rfl hl2 (mapAtS_rd memZ)))))
  refine AQ ?_;refine A0 ?_;refine AU ?_;refine AQ ?_;refine AU ?_;refine AQ ?_;refine AS ?_;refine C4 ?_;refine AU ?_;refine AQ ?_;refine C4 ?_;refine CQ ?_
  focus ((refine' CT rfl _ rfl rfl rfl rfl _; rotate_left; (focus (first | exact CO 2 [x.f,t] rfl rfl rfl ⟨by kernel_rfl,by kernel_rfl⟩ rfl hMl rfl hl1 (mapAtS_rd memZ) | exact CO 2 [x.t,t + 1 + x.g] rfl rfl rfl ⟨by kernel_rfl,by kernel_rfl⟩ rfl hMl rfl hl2 (mapAtS_rd memZ)))))
  refine AU ?_;refine AQ ?_;refine CQ ?_;refine C9 ?_; rintro _ _ ⟨b,rfl,rfl⟩
  focus ((refine CP ?_; refine' FX rfl _ rfl rfl _ _; rotate_left; (focus (apply C6; exact rfl; exact rfl; exact takeZ; exact (by (repeat (first | exact (fun v hv=>absurd hv List.not_mem_nil) | (refine List.forall_mem_cons.2 ⟨?_,?_⟩; (focus (first | exact rfl | assumption))))); first | done | fail); exact rfl; exact rfl)); (focus (rintro _ _ ⟨_,rfl⟩ w hw; exact hw.sel Sel.nil)); rintro _ _ ⟨rfl,rfl⟩))
  refine A6 ?_
  revert b; intro b9
  refine AC ?_;refine AA ?_;refine AF ?_;refine AT ?_;refine AF ?_;refine AB ?_;refine CD (DP (out:=[int (vtx d x.f t),int (vtx d x.t (t + 1 + x.g)),int x.r,int (i:Int),int t]) rfl rfl rfl rfl rfl) rfl rfl rfl ?_
  refine BE hya rfl rfl (Takes.skip (Takes.skip Takes.all)) (fun τ hτ=>.inl (by simp [hτ])) rfl rfl ?_
  rintro _ H' ⟨σ6,rfl,⟨rfl,hI6⟩ | ⟨rfl,hSt⟩⟩
  ·refine CH (H':=_ :: _ :: Own σ6) (List.perm_append_comm (l₂:=[_,_])) ?_
   refine A9 ?_;refine AE ?_;refine AM rfl ?_;refine AK ?_;refine A3 ?_;exact BP (Take.there Take.here) rsubZ (Sel.cons Take.here (Sel.skip Sel.refl)) ⟨σ6,.inl ⟨rfl,hI6,rfl⟩⟩
  ·refine CH (H':=_ :: _ :: Own σ6) (List.perm_append_comm (l₂:=[_,_])) ?_
   refine A9 ?_;refine AE ?_;refine AN rfl ?_;exact EP (Take.there Take.here) rsubZ (Sel.cons Take.here (Sel.skip Sel.refl)) ⟨σ6,.inr ⟨rfl,.ret,⟨rfl,hSt⟩,rfl⟩⟩
 ·rintro b9 σ5 hI5
  rw [List.length_map] at hI5;refine CH (H':=sng b9 defO :: μ :: Own σ5) (List.Perm.cons _ (List.perm_append_comm (l₂:=[_]))) ?_
  refine DM (R':=_) (fun _ h=>List.mem_cons_of_mem _ (List.mem_cons_of_mem _ (List.mem_cons_of_mem _ (List.mem_cons_of_mem _ (h))))) ?_
  refine CR (b:=b9) Take.here (μ:=μ) Take.here hMk ?_
  intro μ2 hM2
  refine A3 ?_;refine A3 ?_;refine AA ?_;refine A8 ?_;refine AB ?_;refine AE ?_
  refine C7 (i + 1,σ5,(b9 :: ms,μ2)) rfl ⟨by dsimp only; omega,?_,hM2⟩ (by dsimp only; omega) covZ Sel.refl
  dsimp only
  rw [hcn,← Nat.add_assoc];exact hI5
 ·rintro b9 c σ5 ⟨rfl,hSt⟩
  refine CH (H':=sng b9 defO :: μ :: Own σ5) (List.Perm.cons _ (List.perm_append_comm (l₂:=[_]))) ?_;refine CR (b:=b9) Take.here (μ:=μ) Take.here hMk ?_
  intro μ2 hM2
  exact DL (ms:=b9 :: ms) hM2 Take.here (res0 rfl) (fun _ h=>List.mem_cons_of_mem _ (List.mem_cons_of_mem _ (List.mem_cons_of_mem _ (List.mem_cons_of_mem _ (List.mem_cons_of_mem _ (h)))))) Sel.refl ⟨σ5,rfl,.inr hSt⟩
end Go.Proofs.YtphehihohghfoaaGreat
/- Check, ends and the like: what they answer. -/
namespace Go.Proofs.YtphehihohghfoaaGreat
open Go.Eng Go.Flow
set_option maxRecDepth 100000
set_option maxHeartbeats 4000000

def encA (a:Arc):List Value:=[int a.f,int a.t,int a.c]
theorem encA_len (a:Arc):(encA a).length = 3:=rfl
abbrev ArcsAt (ρ:PH) (v:Value) (l:List Arc):Prop:=SlE encA 3 ρ v l
theorem arcRow {ρ:PH} {p:Option Addr} {l:List Arc} (h:RowsE encA 3 ρ p l) {i:Nat} {x:Arc} (hx:l[i]? = some x) :
  ∃ b o,p = some ⟨b,o,none⟩ ∧ RdN ρ b (o + i * 3) [int x.f,int x.t,int x.c] ∧ rdc ρ b (o + i * 3) = some (int x.f) ∧ rdc ρ b (o + i * 3 + 1) = some (int x.t) ∧ rdc ρ b (o + i * 3 + 2) = some (int x.c):=by
 obtain ⟨b,o,e,hr⟩:=h i x hx
 exact ⟨b,o,e,hr,hr.get0,hr.get (j:=1) rfl,hr.get (j:=2) rfl⟩

theorem inside_spec (k n:Int):Ans Tryz.prog (fv 82) [int k,int n] [] (fun v=>(v = .bool true ∧ 0 ≤ k ∧ k < n) ∨ (v = .bool false ∧ (k < 0 ∨ n ≤ k))):=by
 refine spec_in (cap:=[]) Tryz.func82 rfl rfl Tryz.ntmps82 rfl envZ (fun N β=>?_)
 repeat' (first
  | (refine AB ?_)
  | (refine AD ?_)
  | (refine AL ?_)
  | (refine AJ ?_)
  | (refine AC ?_)
  | (refine AA ?_)
  | (refine AE ?_)
  | (refine AH rfl rfl rfl ?_)
  | (focus ((refine B7 rfl rfl (cmp_lt _ _) rfl rfl (fun h=>?_) (fun h=>?_))))
  | (focus ((refine B7 rfl rfl (cmp_le _ _) rfl rfl (fun h=>?_) (fun h=>?_))))
  | fail)
 all_goals refine AI (res1 rfl rfl) rsubZ selZ ⟨rfl,?_⟩
 ·exact .inl ⟨rfl,by omega⟩
 ·exact .inr ⟨rfl,by omega⟩
 ·exact .inr ⟨rfl,by omega⟩

theorem ends_spec (n s t:Int):Ans Tryz.prog (fv 57) [int n,int s,int t] [] (fun v=>v = int (if okEnds n s t then 0 else 2)):=by
 refine spec_in (cap:=[]) Tryz.func57 rfl rfl Tryz.ntmps57 rfl envZ (fun N β=>?_)
 repeat' (first
  | (refine AB ?_)
  | (refine AD ?_)
  | (refine AL ?_)
  | (refine AJ ?_)
  | (refine A9 ?_)
  | (refine AC ?_)
  | (refine AA ?_)
  | (refine AE ?_)
  | (refine AK ?_)
  | (refine AN rfl ?_)
  | (refine AM rfl ?_)
  | (refine AH rfl rfl rfl ?_)
  | (focus ((refine A2 (inside_spec _ _) rfl rfl rdZ rfl rfl ?_; rintro v (⟨rfl,h⟩ | ⟨rfl,h⟩))))
  | (focus ((refine B7 rfl rfl (cmp_eq _ _) rfl rfl (fun h=>?_) (fun h=>?_))))
  | fail)
 all_goals refine AI (res1 rfl rfl) rsubZ selZ ⟨rfl,?_⟩
 all_goals first | rw [if_pos (by unfold okEnds; rw [decide_eq_true_eq]; omega)] | rw [if_neg (by unfold okEnds; rw [decide_eq_true_eq]; omega)]

theorem check1_spec (b:Nat) (T:TypeId) (n:Int) (a:Arc):Ans Tryz.prog (.func (.func 95) #[] #[.pointer (some ⟨b,0,none⟩)]) [.agg (encA a).toArray] [sng b (.cells #[int n] T (0,0))] (fun v=>v = .bool (!okArc n a)):=by
 refine spec_in (cap:=[.pointer (some ⟨b,0,none⟩)]) Tryz.func95 rfl rfl Tryz.ntmps95 rfl envZ (fun N β=>?_)
 have hb:rdc (sng b (.cells #[int n] T (0,0))) b 0 = some (int n):=by rw [rdc_sng]; rfl
 unfold encA
 repeat' (first
  | (refine AB ?_)
  | (refine AD ?_)
  | (refine AF ?_)
  | (refine AG ?_)
  | (refine AL ?_)
  | (refine AJ ?_)
  | (refine A9 ?_)
  | (refine AC ?_)
  | (refine AA ?_)
  | (refine AE ?_)
  | (refine AH rfl rfl rfl ?_)
  | (focus ((refine A2 (inside_spec _ _) rfl rfl rdZ rfl rfl ?_; rintro v (⟨rfl,h⟩ | ⟨rfl,h⟩))))
  | (refine CA ?_; rintro _ _ ⟨b,rfl,rfl⟩)
  | (focus ((refine B7 rfl rfl (cmp_eq _ _) rfl rfl (fun h=>?_) (fun h=>?_))))
  | (focus ((refine B7 rfl rfl (cmp_lt _ _) rfl rfl (fun h=>?_) (fun h=>?_))))
  | fail)
 all_goals refine AI (res1 rfl rfl) rsubZ selZ ⟨rfl,?_⟩
 all_goals first
  | (rw [show okArc n a = true from by unfold okArc; rw [decide_eq_true_eq]; omega]; rfl)
  | (rw [show okArc n a = false from by unfold okArc; rw [decide_eq_false_iff_not]; omega]; rfl)

def idxOf {α:Type} (p:α → Bool) (l:List α):Int:=match l.findIdx? p with
 | some i=>i
 | none=>-1
theorem idxOf_ge {α:Type} (p:α → Bool) (l:List α):(0 ≤ idxOf p l ↔ l.any p = true):=by
 unfold idxOf
 cases h:l.findIdx? p with
 | none =>
  rw [List.findIdx?_eq_none_iff] at h
  simp; exact h
 | some i =>
  have:=List.findIdx?_isSome (xs:=l) (p:=p)
  rw [h] at this
  simp at this ⊢
  exact this
theorem indexArc_spec (ρ:PH) (v f:Value) (R1:List PH) (l:List Arc) (p:Arc → Bool) (hv:ArcsAt ρ v l) (hl:l.length ≤ 1000000) (hf:∀ a ∈ l,Ans Tryz.prog f [.agg (encA a).toArray] R1 (fun u=>u = .bool (p a))) :
  Ans Tryz.prog (fv 129) [v,f] (ρ :: R1) (fun u=>u = int (idxOf p l)):=by
 obtain ⟨q,c,rfl,hr⟩:=hv.val encA_len
 refine spec_in (cap:=[]) Tryz.func129 rfl rfl Tryz.ntmps129 rfl envZ (fun N β=>?_)
 refine AC ?_;refine AA ?_;refine AD ?_;refine AE ?_;refine AC ?_;refine AC ?_;refine AA ?_;refine AB ?_;refine AW ?_;refine AB ?_;refine AE ?_;refine AP ?_
 refine BA [0,1,6,7] (0:Nat) (fun k=>k ≤ l.length ∧ ∀ x ∈ l.take k,p x = false) (fun k=>[(8,int k)]) (fun _=>[]) (fun k=>l.length - k) pickZ ⟨by omega,by simp⟩ covZ selZ ?_
 rintro k ⟨hk,hno⟩
 by_cases hlt:k < l.length
 ·have hx:=List.getElem?_eq_getElem hlt
  obtain ⟨b,o,rfl,hA,h0,h1,h2⟩:=arcRow hr hx
  have hfa:=hf l[k] (List.getElem_mem hlt)
  unfold encA at hfa;refine AC ?_;refine AA ?_;refine BC ?_;refine AE ?_;refine AC ?_;refine AN rfl ?_;refine AK ?_;refine AC ?_;refine AP ?_;refine AC ?_;refine AA ?_;refine AB ?_;refine AD ?_;refine AE ?_;refine AC ?_;refine AA ?_;refine AB ?_;refine AB ?_;refine AB ?_;refine BB ?_;refine AT ?_
  refine A2 (hfa.rsub (R':=R1) (fun _ h=>h)) rfl rfl ?_ rfl rfl ?_
  ·intro σ hσ; left; simp [hσ]
  rintro u rfl;refine AE ?_
  refine jk_if rfl (fun hp=>?_) (fun hp=>?_)
  ·refine AC ?_
   refine AA ?_;refine AB ?_;refine AD ?_;refine AE ?_;refine AI (res1 rfl rfl) ?_ selZ ⟨rfl,?_⟩
   ·intro σ hσ; exact hσ
   ·have:l.findIdx? p = some k:=by
     rw [List.findIdx?_eq_some_iff_getElem]
     refine ⟨hlt,hp,fun j hj=>?_⟩
     have:=hno l[j] (List.mem_take_iff_getElem.2 ⟨j,by omega,rfl⟩)
     simp [this]
    unfold idxOf; rw [this]
  ·refine AK ?_
   refine A3 ?_;refine AA ?_;refine A8 ?_;refine AB ?_;refine AE ?_
   refine AY (k + 1) ⟨by omega,fun x hx'=>?_⟩ (by omega) covZ selZ
   rw [List.take_succ_eq_append_getElem hlt] at hx'
   rcases List.mem_append.1 hx' with hx' | hx'
   ·exact hno x hx'
   ·rw [List.mem_singleton.1 hx']; exact hp
 ·refine AC ?_
  refine AA ?_;refine AZ ?_;refine AE ?_;refine AC ?_;refine AM rfl ?_;refine A7 rfl ?_;refine AC ?_;refine AA ?_;refine AD ?_;refine AE ?_;refine AI (res1 rfl rfl) ?_ selZ ⟨rfl,?_⟩
  ·intro σ hσ; exact hσ
  ·have hkl:k = l.length:=by omega
   subst hkl;rw [List.take_length] at hno
   have:l.findIdx? p = none:=by rw [List.findIdx?_eq_none_iff]; exact hno
   unfold idxOf; rw [this]
theorem containsArc_spec (ρ:PH) (v f:Value) (R1:List PH) (l:List Arc) (p:Arc → Bool) (hv:ArcsAt ρ v l) (hl:l.length ≤ 1000000) (hf:∀ a ∈ l,Ans Tryz.prog f [.agg (encA a).toArray] R1 (fun u=>u = .bool (p a))) :
  Ans Tryz.prog (fv 94) [v,f] (ρ :: R1) (fun u=>u = .bool (l.any p)):=by
 refine spec_in (cap:=[]) Tryz.func94 rfl rfl Tryz.ntmps94 rfl envZ (fun N β=>?_)
 refine AC ?_;refine AA ?_;refine AD ?_;refine AE ?_;refine AC ?_;refine AA ?_;refine AB ?_;refine AB ?_;refine A2 (indexArc_spec ρ v f R1 l p hv hl hf) rfl rfl ?_ rfl rfl ?_
 ·intro σ hσ; left; simp at hσ ⊢; right; exact hσ
 rintro u rfl
 have hi:=idxOf_ge p l
 by_cases hc:0 ≤ idxOf p l
 all_goals
  repeat' (first
   | (refine AD ?_)
   | (refine CC ?_)
   | (refine BG ?_)
   | (refine AE ?_)
   | fail)
  refine AI (res1 rfl rfl) (by intro σ hσ; exact hσ) selZ ⟨rfl,?_⟩
 ·rw [hi.1 hc]
 ·have:l.any p = false:=by
   cases h:l.any p with
   | false=>rfl
   | true=>exact absurd (hi.2 h) hc
  rw [this]

theorem check_spec (ρ:PH) (v:Value) (n:Int) (l:List Arc) (hv:ArcsAt ρ v l) (hl:l.length ≤ 1000000) :
  Ans Tryz.prog (fv 56) [int n,v] [ρ] (fun u=>u = int (chk n l)):=by
 obtain ⟨q,c,rfl,hr⟩:=hv.val encA_len
 refine spec_in (cap:=[]) Tryz.func56 rfl rfl Tryz.ntmps56 rfl envZ (fun N β=>?_)
 repeat' (first
  | (refine AB ?_)
  | (refine AD ?_)
  | (refine AF ?_)
  | (refine AL ?_)
  | (refine AJ ?_)
  | (refine AW ?_)
  | (refine BW ?_)
  | (refine AC ?_)
  | (refine AA ?_)
  | (refine AE ?_)
  | (refine AK ?_)
  | (refine AN rfl ?_)
  | (refine AM rfl ?_)
  | (refine AH rfl rfl rfl ?_)
  | (focus ((refine A2 (containsArc_spec ρ _ _ [_] l (fun a=>!okArc n a) hv hl (fun a _=>check1_spec _ _ n a)) rfl rfl rdZ rfl rfl ?_; rintro u rfl)))
  | (refine EB ?_; rintro _ _ ⟨b,rfl,rfl⟩)
  | (focus ((refine B7 rfl rfl (cmp_lt _ _) rfl rfl (fun h=>?_) (fun h=>?_))))
  | (focus ((refine jk_if rfl (fun h=>?_) (fun h=>?_))))
  | fail)
 all_goals refine AI (res1 rfl rfl) rsubZ selZ ⟨rfl,?_⟩
 all_goals unfold chk
 ·rw [if_pos (by omega)]
 ·rw [if_neg (by omega),if_pos (by omega)]
 ·rw [if_neg (by omega),if_pos (by omega)]
 ·rename_i h
  rw [if_neg (by omega),if_neg (by omega),if_neg (fun h2=>?_)]
  simp only [List.all_eq_true,List.any_eq_true,Bool.not_eq_true'] at h h2
  obtain ⟨x,hx,e⟩:=h
  rw [h2 x hx] at e
  simp at e
 ·rename_i h
  rw [if_neg (by omega),if_neg (by omega),if_pos ?_]
  rw [List.all_eq_true];rw [List.any_eq_false] at h
  intro x hx
  simpa using h x hx

end Go.Proofs.YtphehihohghfoaaGreat
/- Results that lie in memory: one struct, or a struct and an error. -/
namespace Go.Eng
variable {L:Env} {R H:List PH}
theorem resS1 {fn:Func} {N:Bs} {M:Nat} {P:Program} {t b1:Nat} {T:TypeId} {v1:List Value} (hr:fn.results = #[.cell t T]) (ht:look L t = some (.pointer (some ⟨b1,0,none⟩))) (a1:aggP P T = some true)
    (n1:szP P T = some v1.length) (c1:Cells N R H b1 0 v1):∀ a w,Frm M L a → Sat N R H w → (results fn a.tmps).run P w = .ok (.agg v1.toArray) w:=by
  intro a w hf hs
  have e1:a.tmps[t]?.getD undef = .pointer (some ⟨b1,0,none⟩):=by simpa using hf.get t _ ht
  have l1:=run_loadCells_list (P:=P) (w:=w) ⟨b1,0,none⟩ v1 (fun j v hv=>by rw [Addr.add_lit]; exact c1 w hs j v hv)
  simp [results,hr,e1,loadVar,run_isAgg a1,run_sizeOf n1,l1,asAddr]
theorem resSE {fn:Func} {N:Bs} {M:Nat} {P:Program} {t u b1:Nat} {T:TypeId} {v1:List Value} {v2:Value} (hr:fn.results = #[.cell t T,.tmp u]) (ht:look L t = some (.pointer (some ⟨b1,0,none⟩))) (hu:look L u = some v2) (a1:aggP P T = some true)
    (n1:szP P T = some v1.length) (c1:Cells N R H b1 0 v1):∀ a w,Frm M L a → Sat N R H w → (results fn a.tmps).run P w = .ok (.tuple #[.agg v1.toArray,v2]) w:=by
  intro a w hf hs
  have e1:a.tmps[t]?.getD undef = .pointer (some ⟨b1,0,none⟩):=by simpa using hf.get t _ ht
  have e2:a.tmps[u]?.getD undef = v2:=by simpa using hf.get u _ hu
  have l1:=run_loadCells_list (P:=P) (w:=w) ⟨b1,0,none⟩ v1 (fun j v hv=>by rw [Addr.add_lit]; exact c1 w hs j v hv)
  simp [results,hr,e1,e2,loadVar,run_isAgg a1,run_sizeOf n1,l1,asAddr]
end Go.Eng
