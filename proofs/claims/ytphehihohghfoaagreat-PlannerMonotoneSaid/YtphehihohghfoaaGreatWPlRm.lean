/- Texts of this proof, one after the other; no conditions. -/
import Derived.Laws.Externs
import Derived.Test.YtphehihohghfoaaGreatWB11
import Derived.Test.YtphehihohghfoaaGreatWB2
import Derived.Test.YtphehihohghfoaaGreatWB7
import Derived.Test.YtphehihohghfoaaGreatWB6
import Derived.Test.YtphehihohghfoaaGreatWB4
import Derived.Test.YtphehihohghfoaaGreatWB10
import Derived.Test.YtphehihohghfoaaGreatWB8
import Derived.Test.YtphehihohghfoaaGreatWB5
import Derived.Test.YtphehihohghfoaaGreatWB0
set_option linter.all false
/- The example is awake. -/
namespace Go.Proofs.YtphehihohghfoaaGreat
open Go.Eng Go.Step
set_option maxRecDepth 100000
set_option maxHeartbeats 4000000

theorem equalX_spec (ρ τ:PH) (v w:Value) (l m:List Sh) (hv:ShAt ρ v l) (hw:ShAt τ w m) (hl:l.length ≤ 9223372036854775807) :
  Ans Tryz.prog (fv 26) [v,w] [ρ,τ] (fun r=>r = .bool (decide (l = m))):=by
 obtain ⟨q,c,rfl,hr⟩:=hv.val encX_len
 obtain ⟨q',c',rfl,hr'⟩:=hw.val encX_len
 refine spec_in (cap:=[]) Tryz.func26 rfl rfl Tryz.ntmps26 rfl envZ (fun N β=>?_)
 by_cases hlen:l.length = m.length
 rotate_left
 ·refine AD ?_
  refine AA ?_;refine AC ?_;refine AE ?_;refine AD ?_;refine AD ?_;refine AA ?_;refine AB ?_;refine AV ?_;refine AB ?_;refine AV ?_;refine CG ?_;refine AE ?_;refine AM rfl ?_;refine AD ?_;refine AA ?_;refine AC ?_;refine AE ?_
  exact AI (res1 rfl rfl) rsubZ selZ ⟨rfl,by rw [decide_eq_false (fun h=>hlen (by rw [h]))]⟩
 refine AD ?_;refine AA ?_;refine AC ?_;refine AE ?_;refine AD ?_;refine AD ?_;refine AA ?_;refine AB ?_;refine AV ?_;refine AB ?_;refine AV ?_;refine BG ?_;refine AE ?_;refine AN rfl ?_;refine AL ?_;refine AD ?_;refine AD ?_;refine AA ?_;refine AB ?_;refine AV ?_;refine AB ?_;refine AE ?_;refine AP ?_
 refine BD [0,1,12] (0:Nat) (fun k=>k ≤ l.length ∧ l.take k = m.take k) (fun k=>[(13,int k)]) (fun _=>[]) (fun k=>l.length - k) pickZ ⟨by omega,by simp⟩ covZ selZ ?_
 rintro k ⟨hk,hI⟩
 by_cases hlt:k < l.length
 ·have hx:=List.getElem?_eq_getElem hlt
  have hx':=List.getElem?_eq_getElem (show k < m.length by omega)
  obtain ⟨b1,o1,rfl,hRd1,_⟩:=shRow hr hx
  obtain ⟨b2,o2,rfl,hRd2,_⟩:=shRow hr' hx'
  refine AD ?_;refine AA ?_;refine BC ?_;refine AE ?_;refine AD ?_;refine AM rfl ?_;refine AL ?_;refine AD ?_;refine AP ?_;refine AD ?_;refine AA ?_;refine AB ?_;refine AC ?_;refine AE ?_;refine AD ?_
  refine A5 (.q 0 (.q 1 (.q 2 (.q 3 (.q 4 (.q 5 (.q 6 (.q 7 (.q 8 .nil))))))))) [] rfl (by kernel_rfl) Sel.nil ?_
  refine AR ?_;refine AR ?_;refine BI ?_;refine BN ?_;refine AR ?_;refine AR ?_;refine BI ?_;refine BN ?_
  focus ((refine' CV rfl _ rfl rfl rfl rfl _; rotate_left; (apply q_neS [l[k].c,l[k].t,l[k].n] [m[k].c,m[k].t,m[k].n] (n:=3); exact rfl; exact rfl; kernel_rfl; kernel_rfl; kernel_rfl; exact rfl; exact rfl)))
  refine A6 ?_
  by_cases he:l[k] = m[k]
  ·rw [he]
   rw [show (!decide ([m[k].c,m[k].t,m[k].n] = [m[k].c,m[k].t,m[k].n])) = false by simp]
   skip
   refine AN rfl ?_;refine AL ?_;refine A4 ?_;refine AA ?_;refine A9 ?_;refine AB ?_;refine AE ?_
   refine AX (k + 1) ⟨by omega,?_⟩ (by omega) covZ selZ
   rw [List.take_succ_eq_append_getElem hlt,List.take_succ_eq_append_getElem (show k < m.length by omega),hI,he]
  ·have hne:¬ ([l[k].c,l[k].t,l[k].n] = [m[k].c,m[k].t,m[k].n]):=fun h=>he (by
    simp only [List.cons.injEq,and_true] at h
    generalize l[k] = x at *
    generalize m[k] = y at *
    obtain ⟨x1,x2,x3⟩:=x
    obtain ⟨y1,y2,y3⟩:=y
    simp only at h
    rw [h.1,h.2.1,h.2.2])
   rw [show (!decide ([l[k].c,l[k].t,l[k].n] = [m[k].c,m[k].t,m[k].n])) = true by simp only [decide_eq_false hne,Bool.not_false]]
   skip
   refine AM rfl ?_;refine AD ?_;refine AA ?_;refine AC ?_;refine AE ?_
   exact AI (res1 rfl rfl) rsubZ selZ ⟨rfl,by rw [decide_eq_false (fun h=>he (by subst h; rfl))]⟩
 ·rw [List.take_of_length_le (by omega),List.take_of_length_le (by omega)] at hI
  refine AD ?_;refine AA ?_;refine AZ ?_;refine AE ?_;refine AD ?_;refine AN rfl ?_;refine A8 rfl ?_;refine AD ?_;refine AA ?_;refine AC ?_;refine AE ?_
  exact AI (res1 rfl rfl) rsubZ selZ ⟨rfl,by rw [decide_eq_true hI]⟩
theorem example54_spec:Eng.Spec Tryz.prog (fv 25) [] [] [] (fun r H'=>∃ bq bc,r = .tuple #[.agg #[.slice (some ⟨bq,0,none⟩) 3 3,.slice (some ⟨bc,0,none⟩) 2 2,.slice none 0 0,.slice none 0 0],.agg #[int 0,int 2,int 4,int 0,int 6]] ∧ H' = [sng bq (.cells #[int 9,int 1,int 9] 3 (0,0)),sng bc (.cells #[int 0,int 1,int 0,int 2,int 3,int 1,int 0,int 1,int 2,int 3,int 5,int 3,int 1,int 0] 57 (0,0))]):=by
 refine spec_in (cap:=[]) Tryz.func25 rfl rfl Tryz.ntmps25 rfl envZ (fun N β=>?_)
 refine AD ?_;refine AA ?_;refine AY ?_; rintro _ _ ⟨b,rfl,rfl⟩;refine AY ?_; rintro _ _ ⟨b,rfl,rfl⟩;refine AE ?_;refine AD ?_;refine AA ?_;refine BF ?_; rintro _ _ ⟨b,rfl,rfl⟩;refine BR ?_;refine BR ?_
 focus ((refine' BH _ rfl rfl rfl _; rotate_left; (focus (apply CT; exact rfl; exact rfl; exact rfl; exact rfl; exact rfl; exact (by (repeat (first | exact (fun v hv=>absurd hv List.not_mem_nil) | (refine List.forall_mem_cons.2 ⟨?_,?_⟩; (focus (first | exact rfl | assumption))))); first | done | fail); exact Flat.agg7 (Flat.agg7 Flat.nil); exact rfl)); rintro _ _ ⟨b,rfl,rfl⟩))
 refine BR ?_
 revert b; intro bc
 revert b; intro bq
 revert b; intro bd
 revert b; intro bt
 refine CE (DP (out:=[.slice (some ⟨bq,0,none⟩) 3 3,.slice (some ⟨bc,0,none⟩) 2 2,.slice none 0 0,.slice none 0 0]) rfl rfl rfl rfl rfl) rfl rfl rfl ?_;refine BR ?_;refine AW ?_; rintro _ _ ⟨rfl,rfl⟩;refine AW ?_; rintro _ _ ⟨rfl,rfl⟩;refine AE ?_;exact AI (resS2 (b1:=bt) (b2:=bd) (T:=29) (U:=31) (v1:=[.slice (some ⟨bq,0,none⟩) 3 3,.slice (some ⟨bc,0,none⟩) 2 2,.slice none 0 0,.slice none 0 0]) (v2:=[int 0,int 2,int 4,int 0,int 6]) rfl rfl rfl rfl rfl rfl rfl (cells_own memZ) (cells_own memZ)) rsubZ selZ ⟨bq,bc,rfl,rfl⟩
set_option maxHeartbeats 64000000 in
theorem awake54_spec:Ans Tryz.prog (fv 8) [] [] (fun r=>r = .bool true):=by
 have hq:=vok eValid
 have hok:=vok e9Valid
 have hoks:∀ j:Nat,j < 6 → VOk e9 eC [] [] (atE eD (eD.r + ((j + 1:Nat):Int))):=fun j hj=>vok (valid_at e9Valid (show (0:Int) + ((j + 1:Nat):Int) ≤ 6 by omega))
 refine spec_in (cap:=[]) Tryz.func8 rfl rfl Tryz.ntmps8 rfl envZ (fun N β=>?_)
 refine BV ?_;refine AD ?_;refine AA ?_;refine AC ?_;refine AE ?_;refine AD ?_;refine AA ?_;refine BE example54_spec rfl rfl Takes.nil rdZ rfl rfl ?_;rintro _ _ ⟨bq,bc,rfl,rfl⟩;refine AS (ρ:=sng bq (.cells #[int 9,int 1,int 9] 3 (0,0))) takeZ ?_;refine AS (ρ:=sng bc (.cells #[int 0,int 1,int 0,int 2,int 3,int 1,int 0,int 1,int 2,int 3,int 5,int 3,int 1,int 0] 57 (0,0))) takeZ ?_;refine AS (ρ:=emp) takeZ ?_;refine AB ?_;refine AO ?_;refine AO ?_;refine AY ?_; rintro _ _ ⟨b,rfl,rfl⟩;refine AY ?_; rintro _ _ ⟨b,rfl,rfl⟩;refine AW ?_; rintro _ _ ⟨rfl,rfl⟩;refine AW ?_; rintro _ _ ⟨rfl,rfl⟩;refine AE ?_;refine AD ?_;refine AA ?_;refine AT ?_;refine AT ?_
 revert b; intro bd
 revert b; intro bt
 refine AS (ρ:=sng bt _) takeZ ?_
 have ct:RdN (sng bt (.cells #[.slice (some ⟨bq,0,none⟩) 3 3,.slice (some ⟨bc,0,none⟩) 2 2,.slice none 0 0,.slice none 0 0] 29 (0,0))) bt 0 [.slice (some ⟨bq,0,none⟩) 3 3,.slice (some ⟨bc,0,none⟩) 2 2,.slice none 0 0,.slice none 0 0]:=rdN_sng (vs:=[.slice (some ⟨bq,0,none⟩) 3 3,.slice (some ⟨bc,0,none⟩) 2 2,.slice none 0 0,.slice none 0 0])
 have hT:TbAt (sng bq (.cells #[int 9,int 1,int 9] 3 (0,0))) (sng bc (.cells #[int 0,int 1,int 0,int 2,int 3,int 1,int 0,int 1,int 2,int 3,int 5,int 3,int 1,int 0] 57 (0,0))) emp emp (some ⟨bq,0,none⟩) (some ⟨bc,0,none⟩) none none 3 2 0 0 e9 eC [] []:=
  ⟨slE_sng (l:=e9) Eng.encI_len,slE_sng (l:=eC) encC_len,by decide,by decide,by decide,⟨rfl,.inl ⟨rfl,none,0,rfl⟩⟩,by decide,⟨rfl,.inl ⟨rfl,none,0,rfl⟩⟩,by decide⟩
 refine BE (Plan_spec hT eD) rfl rfl Takes.nil rdZ rfl rfl ?_;rintro _ _ (⟨_,acc,vol,ss,c,a,σ1,σ2,σ3,rfl,rfl,hPO,p1,k1,L,p2,k2,rfl,hS,hC,hL⟩ | ⟨hv,_⟩)
 rotate_left
 ·rw [e9Valid] at hv; simp at hv
 obtain ⟨rfl,rfl,rfl,rfl⟩:=e9Plan hq hok hPO
 refine AS (ρ:=σ1) takeZ ?_;refine AB ?_;refine AO ?_;refine AO ?_;refine AY ?_; rintro _ _ ⟨b,rfl,rfl⟩;refine AW ?_; rintro _ _ ⟨rfl,rfl⟩;refine AC ?_;refine AE ?_;refine AD ?_;refine AA ?_;refine AT ?_;refine AT ?_;refine BW (Curve_spec hT eD) rfl rfl rdZ rfl rfl ?_;rintro _ χc ⟨uc,rfl,hOc,hex⟩;rw [if_pos e9Valid] at hOc
 have hcv:curveK e9 eC [] [] eD (eD.e - eD.r).toNat = [⟨5,3⟩,⟨6,4⟩]:=e9Curve hq hoks (fun j hj=>hex e9Valid j hj)
 rw [hcv] at hOc
 have hLc:LvAt χc uc [⟨5,3⟩,⟨6,4⟩]:=hOc.at
 obtain ⟨pu,ku,rfl⟩:=hOc.form
 refine AS (ρ:=χc) takeZ ?_;rw [if_pos e9Valid];refine AB ?_;refine AO ?_;refine AO ?_;refine AC ?_;refine AC ?_;refine AE ?_;refine AD ?_;refine AA ?_;refine AG ?_;refine A7 ?_; rintro _ _ ⟨rfl,rfl⟩;refine AE ?_;refine AD ?_;refine AA ?_;refine AT ?_;refine AT ?_;refine BE (Plan_spec hT eD5) rfl rfl Takes.nil rdZ rfl rfl ?_;rintro _ _ (⟨_,acc,vol,ss,c,a,σ4,σ5,σ6,rfl,rfl,hPO5,p3,k3,L5,p4,k4,rfl,hS5,hC5,hL5⟩ | ⟨hv,_⟩)
 rotate_left
 ·rw [e9Valid5] at hv; simp at hv
 obtain ⟨rfl,rfl,hcl⟩:=e9Plan5 hq hPO5
 have hLl:L5.length = 3:=by rw [← hcl,← hL5,List.length_map]
 rw [hLl];refine AB ?_;refine AO ?_;refine AO ?_;refine AY ?_; rintro _ _ ⟨b,rfl,rfl⟩;refine AW ?_; rintro _ _ ⟨rfl,rfl⟩;refine AC ?_;refine AE ?_;refine AD ?_;refine AA ?_;refine AB ?_;refine CH ?_;refine AB ?_;refine AB ?_;refine CH ?_;refine AK ?_;refine AB ?_;refine AB ?_;refine CH ?_;refine AK ?_;refine AB ?_;refine AG ?_;refine AF ?_;refine BR ?_;refine BR ?_;refine BR ?_;refine BR ?_;refine BF ?_; rintro _ _ ⟨b,rfl,rfl⟩
 revert b; intro bx
 have hx:=equalX_spec σ1 (sng bx (.cells #[int 0,int 0,int 1,int 0,int 1,int 3,int 1,int 3,int 3,int 1,int 4,int 1] 55 (0,0))) (.slice p1 eL.length k1) (.slice (some ⟨bx,0,none⟩) 4 4) eL eL hS (slE_sng (l:=eL) encX_len) (by decide)
 rw [decide_eq_true rfl] at hx;refine A2 hx rfl rfl rdZ rfl rfl ?_;rintro _ rfl;refine AK ?_;refine AB ?_;refine AB ?_;refine BR ?_;refine BR ?_;refine BF ?_; rintro _ _ ⟨b,rfl,rfl⟩
 revert b; intro by_
 have hy:=equalV_spec χc (sng by_ (.cells #[int 5,int 3,int 6,int 4] 50 (0,0))) _ (.slice (some ⟨by_,0,none⟩) 2 2) [⟨5,3⟩,⟨6,4⟩] [⟨5,3⟩,⟨6,4⟩] hLc (slE_sng (l:=[(⟨5,3⟩:Lv),⟨6,4⟩]) encV_len) (by decide)
 rw [decide_eq_true rfl] at hy;refine A2 hy rfl rfl rdZ rfl rfl ?_;rintro _ rfl;refine AK ?_;refine AB ?_;refine AG ?_;refine AF ?_;refine BB ?_;refine AK ?_;refine AB ?_;refine AG ?_;refine AF ?_;refine CH ?_;refine AK ?_;refine AB ?_;refine AG ?_;refine AF ?_;refine AV ?_;refine CH ?_;refine AK ?_;refine AC ?_;refine AE ?_;exact AI (res1 rfl rfl) rsubZ selZ ⟨rfl,rfl⟩
end Go.Proofs.YtphehihohghfoaaGreat
/- Law PlannerAnswers. -/
namespace Go.Proofs.YtphehihohghfoaaGreat
open Go.Eng Go.Step
set_option maxRecDepth 100000
set_option maxHeartbeats 4000000

theorem great54_spec (pq pc pb ph:Option Addr) (kq kc kb kh nq nc nb nh:Nat) (d:Dm):Ans Tryz.prog (fv 7) [.agg #[.slice pq nq kq,.slice pc nc kc,.slice pb nb kb,.slice ph nh kh],.agg #[int d.s,int d.d,int d.v,int d.r,int d.e]] [] (fun r=>∃ b,r = .bool b):=by
 refine spec_in (cap:=[]) Tryz.func7 rfl rfl Tryz.ntmps7 rfl envZ (fun N β=>?_)
 refine AD ?_;refine AA ?_;refine BH (BK rfl) rfl rfl rfl ?_;rintro _ _ ⟨b1,rfl,rfl⟩;refine AS (ρ:=sng b1 _) takeZ ?_
 have c:RdN (sng b1 (.cells #[.slice pq nq kq,.slice pc nc kc,.slice pb nb kb,.slice ph nh kh] 29 (0,0))) b1 0 [.slice pq nq kq,.slice pc nc kc,.slice pb nb kb,.slice ph nh kh]:=rdN_sng (vs:=[.slice pq nq kq,.slice pc nc kc,.slice pb nb kb,.slice ph nh kh])
 have c0:rdc (sng b1 (.cells #[.slice pq nq kq,.slice pc nc kc,.slice pb nb kb,.slice ph nh kh] 29 (0,0))) b1 0 = some (.slice pq nq kq):=by rw [rdc_sng]; rfl
 have c1:rdc (sng b1 (.cells #[.slice pq nq kq,.slice pc nc kc,.slice pb nb kb,.slice ph nh kh] 29 (0,0))) b1 1 = some (.slice pc nc kc):=by rw [rdc_sng]; rfl
 have c2:rdc (sng b1 (.cells #[.slice pq nq kq,.slice pc nc kc,.slice pb nb kb,.slice ph nh kh] 29 (0,0))) b1 2 = some (.slice pb nb kb):=by rw [rdc_sng]; rfl
 have c3:rdc (sng b1 (.cells #[.slice pq nq kq,.slice pc nc kc,.slice pb nb kb,.slice ph nh kh] 29 (0,0))) b1 3 = some (.slice ph nh kh):=by rw [rdc_sng]; rfl
 refine BH (BK rfl) rfl rfl rfl ?_;rintro _ _ ⟨b2,rfl,rfl⟩;refine AS (ρ:=sng b2 _) takeZ ?_
 have cd:RdN (sng b2 (.cells #[int d.s,int d.d,int d.v,int d.r,int d.e] 31 (0,0))) b2 0 [int d.s,int d.d,int d.v,int d.r,int d.e]:=rdN_sng (vs:=[int d.s,int d.d,int d.v,int d.r,int d.e])
 have cd0:rdc (sng b2 (.cells #[int d.s,int d.d,int d.v,int d.r,int d.e] 31 (0,0))) b2 0 = some (int d.s):=by rw [rdc_sng]; rfl
 have cd1:rdc (sng b2 (.cells #[int d.s,int d.d,int d.v,int d.r,int d.e] 31 (0,0))) b2 1 = some (int d.d):=by rw [rdc_sng]; rfl
 have cd2:rdc (sng b2 (.cells #[int d.s,int d.d,int d.v,int d.r,int d.e] 31 (0,0))) b2 2 = some (int d.v):=by rw [rdc_sng]; rfl
 have cd3:rdc (sng b2 (.cells #[int d.s,int d.d,int d.v,int d.r,int d.e] 31 (0,0))) b2 3 = some (int d.r):=by rw [rdc_sng]; rfl
 have cd4:rdc (sng b2 (.cells #[int d.s,int d.d,int d.v,int d.r,int d.e] 31 (0,0))) b2 4 = some (int d.e):=by rw [rdc_sng]; rfl
 refine AC ?_;refine AE ?_;refine AD ?_;refine AA ?_;refine AT ?_;refine AT ?_;refine A2 (great53_spec pq pc pb ph kq kc kb kh nq nc nb nh d) rfl rfl rdZ rfl rfl ?_;rintro _ ⟨b,rfl⟩;refine AC ?_;refine AE ?_;exact AI (res1 rfl rfl) rsubZ selZ ⟨rfl,b,rfl⟩
theorem fine54_spec {ρ τ σ υ:PH} {pq pc pb ph:Option Addr} {kq kc kb kh:Nat} {qs:List Int} {cs:List Ct} {bs:List Bk} {hs:List Hd} (hT:TbAt ρ τ σ υ pq pc pb ph kq kc kb kh qs cs bs hs) (d:Dm):Ans Tryz.prog (fv 17) [.agg #[.slice pq qs.length kq,.slice pc cs.length kc,.slice pb bs.length kb,.slice ph hs.length kh],.agg #[int d.s,int d.d,int d.v,int d.r,int d.e]] [ρ,τ,σ,υ] (fun r=>∃ b,r = .bool b ∧ (b = true → validT qs cs bs hs d = true)):=by
 refine spec_in (cap:=[]) Tryz.func17 rfl rfl Tryz.ntmps17 rfl envZ (fun N β=>?_)
 refine AD ?_;refine AA ?_;refine BH (BK rfl) rfl rfl rfl ?_;rintro _ _ ⟨b1,rfl,rfl⟩;refine AS (ρ:=sng b1 _) takeZ ?_
 have ct:RdN (sng b1 (.cells #[.slice pq qs.length kq,.slice pc cs.length kc,.slice pb bs.length kb,.slice ph hs.length kh] 29 (0,0))) b1 0 [.slice pq qs.length kq,.slice pc cs.length kc,.slice pb bs.length kb,.slice ph hs.length kh]:=rdN_sng (vs:=[.slice pq qs.length kq,.slice pc cs.length kc,.slice pb bs.length kb,.slice ph hs.length kh])
 have ct0:rdc (sng b1 (.cells #[.slice pq qs.length kq,.slice pc cs.length kc,.slice pb bs.length kb,.slice ph hs.length kh] 29 (0,0))) b1 0 = some (.slice pq qs.length kq):=by rw [rdc_sng]; rfl
 have ct1:rdc (sng b1 (.cells #[.slice pq qs.length kq,.slice pc cs.length kc,.slice pb bs.length kb,.slice ph hs.length kh] 29 (0,0))) b1 1 = some (.slice pc cs.length kc):=by rw [rdc_sng]; rfl
 have ct2:rdc (sng b1 (.cells #[.slice pq qs.length kq,.slice pc cs.length kc,.slice pb bs.length kb,.slice ph hs.length kh] 29 (0,0))) b1 2 = some (.slice pb bs.length kb):=by rw [rdc_sng]; rfl
 have ct3:rdc (sng b1 (.cells #[.slice pq qs.length kq,.slice pc cs.length kc,.slice pb bs.length kb,.slice ph hs.length kh] 29 (0,0))) b1 3 = some (.slice ph hs.length kh):=by rw [rdc_sng]; rfl
 have ctp:RdP (sng b1 (.cells #[.slice pq qs.length kq,.slice pc cs.length kc,.slice pb bs.length kb,.slice ph hs.length kh] 29 (0,0))) b1 0 [.slice pq qs.length kq,.slice pc cs.length kc]:=rdP_sng (xs:=[.slice pq qs.length kq,.slice pc cs.length kc,.slice pb bs.length kb,.slice ph hs.length kh]) rfl
 refine BH (BK rfl) rfl rfl rfl ?_;rintro _ _ ⟨b2,rfl,rfl⟩;refine AS (ρ:=sng b2 _) takeZ ?_
 have cd:RdN (sng b2 (.cells #[int d.s,int d.d,int d.v,int d.r,int d.e] 31 (0,0))) b2 0 [int d.s,int d.d,int d.v,int d.r,int d.e]:=rdN_sng (vs:=[int d.s,int d.d,int d.v,int d.r,int d.e])
 have cd0:rdc (sng b2 (.cells #[int d.s,int d.d,int d.v,int d.r,int d.e] 31 (0,0))) b2 0 = some (int d.s):=by rw [rdc_sng]; rfl
 have cd1:rdc (sng b2 (.cells #[int d.s,int d.d,int d.v,int d.r,int d.e] 31 (0,0))) b2 1 = some (int d.d):=by rw [rdc_sng]; rfl
 have cd2:rdc (sng b2 (.cells #[int d.s,int d.d,int d.v,int d.r,int d.e] 31 (0,0))) b2 2 = some (int d.v):=by rw [rdc_sng]; rfl
 have cd3:rdc (sng b2 (.cells #[int d.s,int d.d,int d.v,int d.r,int d.e] 31 (0,0))) b2 3 = some (int d.r):=by rw [rdc_sng]; rfl
 have cd4:rdc (sng b2 (.cells #[int d.s,int d.d,int d.v,int d.r,int d.e] 31 (0,0))) b2 4 = some (int d.e):=by rw [rdc_sng]; rfl
 refine AC ?_;refine AE ?_;refine AD ?_;refine AA ?_;refine AT ?_;refine AT ?_;refine A2 (great54_spec pq pc pb ph kq kc kb kh qs.length cs.length bs.length hs.length d) rfl rfl rdZ rfl rfl ?_;rintro _ ⟨b,rfl⟩
 cases b with
 | true =>
  refine BB ?_;refine AB ?_;refine AH rfl rfl rfl ?_;refine AH rfl rfl rfl ?_;refine AH rfl rfl rfl ?_;refine AJ ?_;refine AC ?_;refine AE ?_
  exact AI (res1 rfl rfl) rsubZ selZ ⟨rfl,false,rfl,fun h=>by simp at h⟩
 | false =>
 refine BB ?_;refine AB ?_;refine AT ?_;refine AT ?_;refine A2 (refCheck53_spec hT d) rfl rfl rdZ rfl rfl ?_;rintro _ rfl;refine AK ?_;refine AC ?_;refine AE ?_
 exact AI (res1 rfl rfl) rsubZ selZ ⟨rfl,validT qs cs bs hs d,rfl,fun h=>h⟩
end Go.Proofs.YtphehihohghfoaaGreat
/- One more booking. No program in sight. No conditions. -/
namespace Go.Step
open Go.Eng (insL insL_len)
theorem bookedB_iff {l:List Bk} {c t:Int}:bookedB l c t = true ↔ ∃ y ∈ l,y.c = c ∧ y.a ≤ t ∧ t < y.b:=by
  unfold bookedB busyL;rw [List.any_eq_true]
  constructor
  · rintro ⟨s,hs,h⟩
    obtain ⟨y,hy,rfl⟩:=List.mem_map.1 hs
    rw [List.mem_filter,decide_eq_true_eq] at hy;rw [Bool.and_eq_true,decide_eq_true_eq,decide_eq_true_eq] at h;exact ⟨y,hy.1,hy.2,h⟩
  · rintro ⟨y,hy,hc,h1,h2⟩
    refine ⟨(y.a,y.b),List.mem_map.2 ⟨y,List.mem_filter.2 ⟨hy,decide_eq_true hc⟩,rfl⟩,?_⟩;rw [Bool.and_eq_true,decide_eq_true_eq,decide_eq_true_eq];exact ⟨h1,h2⟩
theorem bks_of {cs:List Ct} {l:List Bk} (hok:∀ y ∈ l,okBk cs y) (hp:l.Pairwise (fun x y=>x.c < y.c ∨ (x.c = y.c ∧ x.b ≤ y.a))):firstE (bkE cs l) l.length = 0:=by
  refine firstE_all (fun k hk=>?_)
  rw [bkE_at (List.getElem?_eq_getElem hk),if_neg (by rw [(okBkB_iff cs _).2 (hok _ (List.getElem_mem hk))]; simp)]
  by_cases h0:k = 0
  · rw [if_pos h0]
  rw [if_neg h0,List.getD_eq_getElem?_getD,List.getElem?_eq_getElem (show k - 1 < l.length by omega),Option.getD_some]
  have h1:=List.pairwise_iff_getElem.1 hp (k - 1) k (by omega) hk (by omega)
  obtain ⟨_,c,_,_,h2,_⟩:=hok _ (List.getElem_mem (show k - 1 < l.length by omega))
  unfold bk2E
  rw [if_neg (fun h=>h ((cmpBk_lt _ _).2 (by omega))),if_neg (by omega)]
end Go.Step
/- Kinds of numbers turned into one another; halves of sums; shifts. No conditions. -/
namespace Go.Eng
variable {C:Cx} {D:List Deferred} {R H:List PH} {L:Env} {K:List It}
section
variable {dst:Option Tmp} {ty:TypeId} {pos:String} {aft:Array Edge} {g:Option (Nat × Bool)}
end
end Go.Eng
namespace Go.Eng
variable {C:Cx} {D:List Deferred} {R H:List PH} {L:Env} {K:List It}
section
variable {dst:Option Tmp} {ty:TypeId} {pos:String} {aft:Array Edge} {g:Option (Nat × Bool)}
end
end Go.Eng
/- One more booking. -/
namespace Go.Proofs.YtphehihohghfoaaGreat
open Go.Eng Go.Step
set_option maxRecDepth 100000
set_option maxHeartbeats 4000000

theorem ones_B:∀ (l:List Bk),∀ u ∈ l.flatMap encB,u.oneCell' = true:=fun l u hu=>by
 obtain ⟨x,_,hx⟩:=List.mem_flatMap.1 hu
 simp only [encB,List.mem_cons,List.not_mem_nil,or_false] at hx
 rcases hx with rfl | rfl | rfl | rfl <;> rfl
theorem cloneB_spec (ρ:PH) (v:Value) (l:List Bk) (hv:SlE encB 4 ρ v l) (hl:l.length ≤ 1000000) :
  Makes Tryz.prog (fv 47) [v] [ρ] (fun r σ=>OwnS 100 4 r l.length (l.flatMap encB) σ):=by
 have hv2:=hv
 obtain ⟨q,c,rfl,hr⟩:=hv.val encB_len
 refine spec_in (cap:=[]) Tryz.func47 rfl rfl Tryz.ntmps47 rfl envZ (fun N β=>?_)
 cases q with
 | none =>
  have hnil:l = []:=by
   cases l with
   | nil=>rfl
   | cons a l =>
    obtain ⟨b,o,e,_⟩:=hr 0 a rfl
    simp at e
  subst hnil;refine BV ?_;refine AD ?_;refine AA ?_;refine AC ?_;refine AE ?_;refine AD ?_;refine AD ?_;refine AA ?_;refine AB ?_
  focus ((refine' CE _ rfl rfl rfl _; rotate_left; (apply FL; exact rfl; exact rfl; exact rfl)))
  refine AE ?_;refine AM rfl ?_;refine AD ?_;refine AA ?_;refine AC ?_;refine AE ?_;exact AI (res1 rfl rfl) rsubZ selZ ⟨emp,OwnS.nil _ _,rfl⟩
 | some ad =>
  refine AD ?_;refine AA ?_;refine AC ?_;refine AE ?_;refine AD ?_;refine AD ?_;refine AA ?_;refine AB ?_
  focus ((refine' CE _ rfl rfl rfl _; rotate_left; (apply FM; exact rfl; exact rfl; exact rfl)))
  refine AE ?_;refine AN rfl ?_;refine AL ?_;refine AD ?_;refine AA ?_;refine BF ?_; rintro _ _ ⟨b,rfl,rfl⟩;refine AB ?_
  refine BH (FO (by_:=32) (s:=4) (σ:=ρ) (news:=l.flatMap encB) (m:=l.length) rfl rfl rfl rfl rfl rfl rfl (OwnS.empty (b:=b)) takeZ hv2 (fun b o h=>cellsR h memZ) (ones_B l) (by simp only [maxLen]; omega) (by omega)) rfl rfl rfl ?_
  rintro r1 _ ⟨σ,hO,rfl⟩;refine AC ?_;refine AE ?_;refine AI (res1 rfl rfl) rsubZ selZ ⟨σ,?_,rfl⟩
  simpa using hO
end Go.Proofs.YtphehihohghfoaaGreat
/- The laws: duality, bounds. -/
namespace Go.Proofs.YtphehihohghfoaaGreat
open Go.Eng Go.Flow
set_option maxRecDepth 100000
set_option maxHeartbeats 4000000

end Go.Proofs.YtphehihohghfoaaGreat
/- The laws: bounds, the least cut. -/
namespace Go.Proofs.YtphehihohghfoaaGreat
open Go.Eng Go.Flow
set_option maxRecDepth 100000
set_option maxHeartbeats 4000000

end Go.Proofs.YtphehihohghfoaaGreat
/- Copies of arcs, arcs in the opposite order; the laws: greater capacities, arcs turned round. -/
namespace Go.Proofs.YtphehihohghfoaaGreat
open Go.Eng Go.Flow
set_option maxRecDepth 100000
set_option maxHeartbeats 4000000

theorem OwnS.row {α:Type} {enc:α → List Value} {s:Nat} (he:∀ x,(enc x).length = s) {e:TypeId} {b n cap:Nat} {l:List α} {ρ:PH} (h:OwnS e s (.slice (some ⟨b,0,none⟩) n cap) l.length (l.flatMap enc) ρ) {i:Nat} {x:α} (hx:l[i]? = some x):RdN ρ b (0 + i * s) (enc x):=by
 have hS:SlE enc s ρ (.slice (some ⟨b,0,none⟩) n cap) l:=h.at
 obtain ⟨p,c,e1,hr⟩:=hS.val he
 simp only [Value.slice.injEq] at e1
 obtain ⟨b',o',e2,h2⟩:=hr i x hx
 rw [← e1.1] at e2;simp only [Option.some.injEq,Addr.mk.injEq,and_true] at e2
 obtain ⟨rfl,rfl⟩:=e2
 exact h2
end Go.Proofs.YtphehihohghfoaaGreat
/- Bookings released. -/
namespace Go.Proofs.YtphehihohghfoaaGreat
open Go.Eng Go.Step
set_option maxRecDepth 100000
set_option maxHeartbeats 4000000

def keepB (l:List Bk) (k:Int):List Bk:=l.filter (fun x=>!decide (x.k = k))
theorem relFn_spec (b3:Nat) (k:Int) (x:Bk) :
  Ans Tryz.prog (.func (.func 48) #[] #[.pointer (some ⟨b3,0,none⟩)]) [.agg #[int x.c,int x.a,int x.b,int x.k]] [sng b3 (.cells #[int k] 3 (0,0))] (fun r=>r = .bool (decide (x.k = k))):=by
 have c3:rdc (sng b3 (.cells #[int k] 3 (0,0))) b3 0 = some (int k):=by rw [rdc_sng]; rfl
 refine spec_in (cap:=[.pointer (some ⟨b3,0,none⟩)]) Tryz.func48 rfl rfl Tryz.ntmps48 rfl envZ (fun N β=>?_)
 refine AD ?_;refine AA ?_;refine BH (BK rfl) rfl rfl rfl ?_;rintro _ _ ⟨b2,rfl,rfl⟩;refine AS (ρ:=sng b2 _) takeZ ?_
 have cb3:rdc (sng b2 (.cells #[int x.c,int x.a,int x.b,int x.k] 100 (0,0))) b2 3 = some (int x.k):=by rw [rdc_sng]; rfl
 by_cases h:x.k = k
 ·rw [decide_eq_true h]
  subst h;refine AC ?_;refine AE ?_;refine AD ?_;refine AA ?_;refine AG ?_;refine AF ?_;refine AF ?_;refine CH ?_;refine AC ?_;refine AE ?_;exact AI (res1 rfl rfl) rsubZ selZ ⟨rfl,rfl⟩
 ·rw [decide_eq_false h]
  refine AC ?_;refine AE ?_;refine AD ?_;refine AA ?_;refine AG ?_;refine AF ?_;refine AF ?_;refine B8 ?_;refine AC ?_;refine AE ?_;exact AI (res1 rfl rfl) rsubZ selZ ⟨rfl,rfl⟩
theorem indexB_spec (ρ:PH) (v:Value) (l:List Bk) (hv:SlE encB 4 ρ v l) (hl:l.length ≤ 1000000) (fn:Value) (p:Bk → Bool) (Rr:List PH) (hf:∀ x:Bk,Ans Tryz.prog fn [.agg #[int x.c,int x.a,int x.b,int x.k]] Rr (fun r=>r = .bool (p x))) :
  Ans Tryz.prog (fv 84) [v,fn] (ρ :: Rr) (fun r=>(∃ k:Nat,r = int k ∧ k < l.length ∧ (∀ x ∈ l.take k,p x = false) ∧ ∀ x,l[k]? = some x → p x = true) ∨ (r = int (-1) ∧ ∀ x ∈ l,p x = false)):=by
 obtain ⟨q,c,rfl,hr⟩:=hv.val encB_len
 refine spec_in (cap:=[]) Tryz.func84 rfl rfl Tryz.ntmps84 rfl envZ (fun N β=>?_)
 refine AD ?_;refine AA ?_;refine AC ?_;refine AE ?_;refine AD ?_;refine AD ?_;refine AA ?_;refine AB ?_;refine AV ?_;refine AB ?_;refine AE ?_;refine AP ?_
 refine BD [0,1,6,7] (0:Nat) (fun k=>k ≤ l.length ∧ ∀ x ∈ l.take k,p x = false) (fun k=>[(8,int k)]) (fun _=>[]) (fun k=>l.length - k) pickZ ⟨by omega,by simp⟩ covZ selZ ?_
 rintro k ⟨hk,hp⟩
 by_cases hlt:k < l.length
 ·have hx:=List.getElem?_eq_getElem hlt
  have t1:=List.take_succ_eq_append_getElem hlt
  obtain ⟨b7,o7,rfl,hrd,g0,g1,g2,g3⟩:=bkRow hr hx
  have hfx:=hf l[k]
  have hpx:∀ x,l[k]? = some x → x = l[k]:=fun x h=>by rw [hx] at h; simpa using h.symm
  generalize l[k] = x at hx t1 hrd g0 g1 g2 g3 hfx hpx
  clear g0 g1 g2 g3
  cases hpp:p x with
  | true =>
   rw [hpp] at hfx;refine AD ?_;refine AA ?_;refine BC ?_;refine AE ?_;refine AD ?_;refine AM rfl ?_;refine AL ?_;refine AD ?_;refine AP ?_;refine AD ?_;refine AA ?_;refine AB ?_;refine AC ?_;refine AE ?_;refine AD ?_;refine AA ?_;refine AB ?_;refine AB ?_;refine AB ?_;refine BA ?_;refine AT ?_
   refine A2 hfx rfl rfl (fun τ hτ=>.inl (by simp [hτ])) rfl rfl ?_
   rintro _ rfl;refine AE ?_;refine AM rfl ?_;refine AD ?_;refine AA ?_;refine AB ?_;refine AC ?_;refine AE ?_
   exact AI (res1 rfl rfl) rsubZ selZ ⟨rfl,.inl ⟨k,rfl,hlt,hp,fun y hy=>by rw [hpx y hy]; exact hpp⟩⟩
  | false =>
   rw [hpp] at hfx;refine AD ?_;refine AA ?_;refine BC ?_;refine AE ?_;refine AD ?_;refine AM rfl ?_;refine AL ?_;refine AD ?_;refine AP ?_;refine AD ?_;refine AA ?_;refine AB ?_;refine AC ?_;refine AE ?_;refine AD ?_;refine AA ?_;refine AB ?_;refine AB ?_;refine AB ?_;refine BA ?_;refine AT ?_
   refine A2 hfx rfl rfl (fun τ hτ=>.inl (by simp [hτ])) rfl rfl ?_
   rintro _ rfl;refine AE ?_;refine AN rfl ?_;refine AL ?_;refine A4 ?_;refine AA ?_;refine A9 ?_;refine AB ?_;refine AE ?_
   refine AX (k + 1) ⟨by omega,fun y hy=>?_⟩ (by omega) covZ selZ
   rw [t1,List.mem_append,List.mem_singleton] at hy
   rcases hy with hy | rfl
   ·exact hp y hy
   ·exact hpp
 ·have hke:k = l.length:=by omega
  subst hke;rw [List.take_length] at hp;refine AD ?_;refine AA ?_;refine AZ ?_;refine AE ?_;refine AD ?_;refine AN rfl ?_;refine A8 rfl ?_;refine AD ?_;refine AA ?_;refine AC ?_;refine AE ?_;exact AI (res1 rfl rfl) rsubZ selZ ⟨rfl,.inr ⟨rfl,hp⟩⟩
theorem short_own {e:TypeId} {s b n cap i:Nat} {xs:List Value} {ρ:PH} (h:OwnS e s (.slice (some ⟨b,0,none⟩) n cap) n xs ρ) (hi:i ≤ n):OwnS e s (.slice (some ⟨b,0,none⟩) i cap) i (xs.take (i * s)) ρ:=by
 have hxl:xs.length = n * s:=h.1
 have hle:i * s ≤ n * s:=Nat.mul_le_mul_right s hi
 obtain ⟨cur,rfl,h1,h2,h3,h4⟩:=h.cells_at
 refine ⟨by rw [List.length_take]; omega,.inr ⟨b,cap,cur,rfl,rfl,by omega,h2,h3,?_⟩⟩
 rw [← h4,List.take_take,Nat.min_eq_left hle]
theorem filt_next (p:Bk → Bool) {l:List Bk} {k:Nat} {x:Bk} (h:l[k]? = some x):(l.take (k + 1)).filter (fun y=>!p y) = (l.take k).filter (fun y=>!p y) ++ (if p x = true then [] else [x]):=by
 obtain ⟨hk,rfl⟩:=List.getElem?_eq_some_iff.1 h
 rw [List.take_succ_eq_append_getElem hk,List.filter_append]
 congr 1
 cases hp:p l[k] <;> simp [hp]
structure DelI (p:Bk → Bool) (l:List Bk) (i j:Nat) (m:List Bk):Prop where
 a:i < j
 b:j ≤ l.length
 c:m.length = l.length
 d:m.take i = (l.take j).filter (fun y=>!p y)
 e:∀ k,j ≤ k → m[k]? = l[k]?
theorem DelI.skip {p:Bk → Bool} {l m:List Bk} {i j:Nat} (h:DelI p l i j m) {x:Bk} (hx:m[j]? = some x) (hp:p x = true) (hj:j < l.length):DelI p l i (j + 1) m:=by
 refine ⟨by have:=h.a; omega,hj,h.c,?_,fun k hk=>h.e k (by omega)⟩
 rw [h.e j (Nat.le_refl _)] at hx;rw [filt_next p hx,if_pos hp,List.append_nil,h.d]
theorem DelI.keep {p:Bk → Bool} {l m:List Bk} {i j:Nat} (h:DelI p l i j m) {x:Bk} (hx:m[j]? = some x) (hp:p x = false) (hj:j < l.length):DelI p l (i + 1) (j + 1) (m.set i x):=by
 have ha:=h.a
 have hc:=h.c
 refine ⟨by omega,hj,by rw [List.length_set,hc],?_,fun k hk=>?_⟩
 ·rw [h.e j (Nat.le_refl _)] at hx
  rw [filt_next p hx,if_neg (by rw [hp]; simp),← h.d,List.take_succ_eq_append_getElem (by rw [List.length_set]; omega),List.getElem_set_self]
  congr 1
  rw [List.take_set_of_le (Nat.le_refl _)]
 ·rw [List.getElem?_set_ne (by omega)]
  exact h.e k (by omega)
set_option maxHeartbeats 16000000 in
theorem deleteB_spec (σ:PH) (v:Value) (l:List Bk) (hO:OwnS 100 4 v l.length (l.flatMap encB) σ) (hl:l.length ≤ 1000000) (fn:Value) (p:Bk → Bool) (Rr:List PH) (hf:∀ x:Bk,Ans Tryz.prog fn [.agg #[int x.c,int x.a,int x.b,int x.k]] Rr (fun r=>r = .bool (p x))) :
  Eng.Spec Tryz.prog (fv 46) [v,fn] Rr [σ] (fun r H'=>∃ σ',OwnS 100 4 r (l.filter (fun y=>!p y)).length ((l.filter (fun y=>!p y)).flatMap encB) σ' ∧ H' = [σ']):=by
 have hat:SlE encB 4 σ v l:=hO.at
 obtain ⟨q,c,rfl,_⟩:=hat.val encB_len
 have hidx:=indexB_spec σ _ l hat hl fn p Rr hf
 refine spec_in (cap:=[]) Tryz.func46 rfl rfl Tryz.ntmps46 rfl envZ (fun N β=>?_)
 refine AD ?_;refine AA ?_;refine AC ?_;refine AE ?_;refine AD ?_;refine AA ?_;refine AB ?_;refine AB ?_
 refine A2 hidx rfl rfl (fun τ hτ=>by rcases List.mem_cons.1 hτ with rfl | h2; exact .inr (by simp); exact .inl (by simp [h2])) rfl rfl ?_
 rintro _ (⟨k,rfl,hk,hp0,hp1⟩ | ⟨rfl,hp0⟩)
 rotate_left
 ·refine AC ?_
  refine AE ?_;refine AD ?_;refine AD ?_;refine AA ?_;refine AB ?_;refine CH ?_;refine AE ?_;refine AM rfl ?_;refine AD ?_;refine AA ?_;refine AB ?_;refine AC ?_;refine AE ?_;refine AI (res1 rfl rfl) rsubZ selZ ⟨σ,?_,rfl⟩
  rw [List.filter_eq_self.2 (fun x hx=>by rw [hp0 x hx]; rfl)]
  exact hO
 have hx0:=List.getElem?_eq_getElem hk
 have hI0:DelI p l k (k + 1) l:=by
  refine ⟨by omega,by omega,rfl,?_,fun _ _=>rfl⟩
  rw [filt_next p hx0,if_pos (hp1 _ hx0),List.append_nil,List.filter_eq_self.2 (fun x hx=>by rw [hp0 x hx]; rfl)]
 rcases hO.block with ⟨_,h2,_⟩ | ⟨b,cap,cur,e,_,hcap,_⟩
 ·rw [h2] at hk; simp at hk
 simp only [Value.slice.injEq] at e
 obtain ⟨rfl,_,rfl⟩:=e
 clear hidx hp0 hp1 hx0 hat;refine AC ?_;refine AE ?_;refine AD ?_;refine AD ?_;refine AA ?_;refine AB ?_;refine B8 ?_;refine AE ?_;refine AN rfl ?_;refine AL ?_;refine AD ?_;refine AD ?_;refine AA ?_;refine AB ?_;refine A9 ?_;refine AC ?_;refine AE ?_;refine AP ?_
 refine BD [0,1] (X:=(Nat × Nat) × (List Bk × PH)) ((k,k + 1),(l,σ)) (fun x=>DelI p l x.1.1 x.1.2 x.2.1 ∧ OwnS 100 4 (.slice (some ⟨b,0,none⟩) l.length c) l.length (x.2.1.flatMap encB) x.2.2) (fun x=>[(5,int x.1.1),(6,int x.1.2)]) (fun x=>[x.2.2]) (fun x=>l.length - x.1.2) pickZ ⟨hI0,hO⟩ covZ selZ ?_
 rintro ⟨⟨i,j⟩,⟨m,σ1⟩⟩ ⟨hI,hO1⟩
 dsimp only at hI hO1 ⊢
 have ha:=hI.a
 have hb:=hI.b
 have hcl:=hI.c
 by_cases hlt:j < l.length
 ·have hx:=List.getElem?_eq_getElem (show j < m.length by omega)
  have hO2:OwnS 100 4 (.slice (some ⟨b,0,none⟩) m.length c) m.length (m.flatMap encB) σ1:=by rw [hcl]; exact hO1
  have r1:=OwnS.row encB_len hO2 hx
  have hfx:=hf m[j]
  generalize m[j] = x at hx r1 hfx
  cases hpp:p x with
  | true =>
   rw [hpp] at hfx
   have hI2:=hI.skip hx hpp hlt
   refine AD ?_;refine AD ?_;refine AA ?_;refine AB ?_;refine AB ?_;refine AV ?_;refine BC ?_;refine AE ?_;refine AM rfl ?_;refine AL ?_;refine AD ?_;refine AP ?_;refine AD ?_;refine AA ?_;refine AB ?_;refine AB ?_;refine BA ?_;refine AT ?_;refine AY ?_; rintro _ _ ⟨b,rfl,rfl⟩;refine AW ?_; rintro _ _ ⟨rfl,rfl⟩;refine AE ?_;refine AD ?_;refine AA ?_;refine AB ?_;refine AT ?_
   refine A2 hfx rfl rfl (fun τ hτ=>.inl (by simp [hτ])) rfl rfl ?_
   rintro _ rfl;refine BB ?_;refine AE ?_;refine AN rfl ?_;refine AL ?_;refine A4 ?_;refine AA ?_;refine AB ?_;refine A9 ?_;refine AC ?_;refine AE ?_
   exact AX ((i,j + 1),(m,σ1)) ⟨hI2,hO1⟩ (by dsimp only; omega) covZ selZ
  | false =>
   rw [hpp] at hfx
   have hI2:=hI.keep hx hpp hlt
   refine AD ?_;refine AD ?_;refine AA ?_;refine AB ?_;refine AB ?_;refine AV ?_;refine BC ?_;refine AE ?_;refine AM rfl ?_;refine AL ?_;refine AD ?_;refine AP ?_;refine AD ?_;refine AA ?_;refine AB ?_;refine AB ?_;refine BA ?_;refine AT ?_;refine AY ?_; rintro _ _ ⟨b,rfl,rfl⟩;refine AW ?_; rintro _ _ ⟨rfl,rfl⟩;refine AE ?_;refine AD ?_;refine AA ?_;refine AB ?_;refine AT ?_
   refine A2 hfx rfl rfl (fun τ hτ=>.inl (by simp [hτ])) rfl rfl ?_
   rintro _ rfl;refine BB ?_;refine AE ?_;refine AM rfl ?_;refine AD ?_;refine AA ?_;refine AB ?_;refine AB ?_;refine AT ?_;refine BA ?_
   refine B5 (F4 encB_len (a:=x) i hO2 rfl (Nat.zero_add _) rfl (by unfold encB; exact (by (repeat (first | exact (fun v hv=>absurd hv List.not_mem_nil) | (refine List.forall_mem_cons.2 ⟨?_,?_⟩; (focus (first | exact rfl | assumption))))); first | done | fail)) rfl takeZ (by omega)) rfl rfl ?_
   rintro _ _ ⟨rfl,σ2,hO3,rfl⟩;refine AE ?_;refine AA ?_;refine AB ?_;refine A9 ?_;refine AC ?_;refine AE ?_;refine A4 ?_;refine AA ?_;refine AB ?_;refine A9 ?_;refine AC ?_;refine AE ?_
   refine AX ((i + 1,j + 1),(m.set i x,σ2)) ⟨hI2,?_⟩ (by dsimp only; omega) covZ selZ
   dsimp only
   rw [List.length_set,hcl] at hO3;exact hO3
 ·have hje:j = l.length:=by omega
  have hd:=hI.d
  rw [hje,List.take_length] at hd
  have hlen:(l.filter (fun y=>!p y)).length = i:=by rw [← hd,List.length_take]; omega
  have hO4:=short_own hO1 (i:=i) (by omega)
  refine AD ?_;refine AD ?_;refine AA ?_;refine AB ?_;refine AB ?_;refine AV ?_;refine AZ ?_;refine AE ?_;refine AN rfl ?_;refine A8 rfl ?_;refine AD ?_;refine AA ?_;refine AB ?_;refine AB ?_;refine F6 ?_
  refine B5 (GB (by_:=32) (s:=4) (n:=i) rfl rfl rfl rfl rfl rfl (by intro u hu; have hu2:u ∈ [int 0,int 0,int 0,int 0]:=hu; simp at hu2; rw [hu2]; rfl) hO4 takeZ (by omega) (by omega)) rfl rfl ?_
  rintro _ _ ⟨rfl,σ2,hO5,rfl⟩;refine AE ?_;refine AD ?_;refine AA ?_;refine AB ?_;refine AB ?_;refine E5 ?_;refine AC ?_;refine AE ?_;refine AI (res1 rfl rfl) rsubZ selZ ⟨σ2,?_,rfl⟩;rw [hlen,← hd,flat_take encB_len];simp only [cutP_zero];exact hO5
theorem releaseB_spec (ρ:PH) (v:Value) (l:List Bk) (k:Int) (hv:SlE encB 4 ρ v l) (hl:l.length ≤ 1000000) :
  Makes Tryz.prog (fv 20) [v,int k] [ρ] (fun r σ=>OwnS 100 4 r (keepB l k).length ((keepB l k).flatMap encB) σ):=by
 have hcl:=cloneB_spec ρ v l hv hl
 obtain ⟨q,c,rfl,_⟩:=hv.val encB_len
 refine spec_in (cap:=[]) Tryz.func20 rfl rfl Tryz.ntmps20 rfl envZ (fun N β=>?_)
 refine AD ?_;refine AA ?_;refine BH (CW rfl rfl) rfl rfl rfl ?_;rintro _ _ ⟨b3,rfl,rfl⟩;refine AS (ρ:=sng b3 _) takeZ ?_;refine AC ?_;refine AE ?_;refine AD ?_;refine AA ?_;refine AB ?_;refine BW hcl rfl rfl rdZ rfl rfl ?_;rintro r σ hO;refine BU ?_
 refine BE (deleteB_spec σ r l hO hl _ (fun x=>decide (x.k = k)) [sng b3 (.cells #[int k] 3 (0,0))] (fun x=>relFn_spec b3 k x)) rfl rfl takesZ rdZ rfl rfl ?_
 rintro _ _ ⟨σ',hO2,rfl⟩;refine AC ?_;refine AE ?_;exact AI (res1 rfl rfl) rsubZ selZ ⟨σ',hO2,rfl⟩
end Go.Proofs.YtphehihohghfoaaGreat
/- slices.Clone and slices.Insert of holds. -/
namespace Go.Proofs.YtphehihohghfoaaGreat
open Go.Eng Go.Step
set_option maxRecDepth 100000
set_option maxHeartbeats 4000000

end Go.Proofs.YtphehihohghfoaaGreat
/- Holds compared, released, put in their place, of the program and of the reference. -/
namespace Go.Proofs.YtphehihohghfoaaGreat
open Go.Eng Go.Step
set_option maxRecDepth 100000
set_option maxHeartbeats 4000000

theorem relH_next (t:Int) {l:List Hd} {k:Nat} {x:Hd} (h:l[k]? = some x):relH (l.take (k + 1)) t = relH (l.take k) t ++ (if x.k ≠ t then [x] else []):=by
 obtain ⟨hk,rfl⟩:=List.getElem?_eq_some_iff.1 h
 unfold relH;rw [List.take_succ_eq_append_getElem hk,List.filter_append]
 congr 1
 by_cases c:l[k].k = t
 ·simp [c]
 ·simp [c]
theorem relH_len (l:List Hd) (t:Int):(relH l t).length ≤ l.length:=List.length_filter_le _ _
set_option maxHeartbeats 8000000 in
theorem release_spec (ρ:PH) (v:Value) (l:List Hd) (t:Int) (hv:HdAt ρ v l) (hl:l.length ≤ 1000) :
  Makes Tryz.prog (fv 21) [v,int t] [ρ] (fun r σ=>OwnS 104 5 r (relH l t).length ((relH l t).flatMap encH) σ):=by
 obtain ⟨q,c,rfl,hr⟩:=hv.val encH_len
 refine spec_in (cap:=[]) Tryz.func21 rfl rfl Tryz.ntmps21 rfl envZ (fun N β=>?_)
 refine BV ?_;refine AD ?_;refine AA ?_;refine AC ?_;refine AE ?_;refine AD ?_;refine AA ?_;refine AC ?_;refine AE ?_;refine AD ?_;refine AD ?_;refine AA ?_;refine AB ?_;refine AV ?_;refine AB ?_;refine AE ?_;refine AP ?_
 refine BD [1,8,9] (X:=Nat × (Value × PH)) (0,(.slice none 0 0,emp)) (fun x=>x.1 ≤ l.length ∧ OwnS 104 5 x.2.1 (relH (l.take x.1) t).length ((relH (l.take x.1) t).flatMap encH) x.2.2) (fun x=>[(10,int x.1),(5,x.2.1)]) (fun x=>[x.2.2]) (fun x=>l.length - x.1) pickZ ⟨by dsimp only; omega,OwnS.nil _ _⟩ covZ selZ ?_
 rintro ⟨k,u,σ⟩ ⟨hk,hO⟩
 dsimp only at hk hO ⊢
 by_cases hlt:k < l.length
 ·have hx:=List.getElem?_eq_getElem hlt
  have hn:=relH_next t hx
  have hrl:=relH_len (l.take k) t
  rw [List.length_take,Nat.min_eq_left hk] at hrl
  obtain ⟨b1,o1,rfl,hRd1,g0,g1,g2,g3,g4⟩:=hdRow5 hr hx
  generalize l[k] = x at hRd1 g0 g1 g2 g3 g4 hn
  by_cases hc:x.k = t
  ·rw [if_neg (by omega),List.append_nil] at hn
   refine AD ?_;refine AA ?_;refine BC ?_;refine AE ?_;refine AD ?_;refine AM rfl ?_;refine AL ?_;refine AD ?_;refine AP ?_;refine AD ?_;refine AA ?_;refine BA ?_;refine AT ?_;refine AY ?_; rintro _ _ ⟨b,rfl,rfl⟩;refine AW ?_; rintro _ _ ⟨rfl,rfl⟩;refine AE ?_;refine AD ?_;refine AA ?_;refine AG ?_;refine AF ?_;refine AB ?_;refine BG ?_;refine AE ?_;refine AN rfl ?_;refine AL ?_;refine A4 ?_;refine AA ?_;refine A9 ?_;refine AB ?_;refine AE ?_
   exact AX (k + 1,(u,σ)) ⟨by dsimp only; omega,by dsimp only; rw [hn]; exact hO⟩ (by dsimp only; omega) covZ selZ
  ·rw [if_pos hc] at hn
   refine AD ?_;refine AA ?_;refine BC ?_;refine AE ?_;refine AD ?_;refine AM rfl ?_;refine AL ?_;refine AD ?_;refine AP ?_;refine AD ?_;refine AA ?_;refine BA ?_;refine AT ?_;refine AY ?_; rintro _ _ ⟨b,rfl,rfl⟩;refine AW ?_; rintro _ _ ⟨rfl,rfl⟩;refine AE ?_;refine AD ?_;refine AA ?_;refine AG ?_;refine AF ?_;refine AB ?_;refine CG ?_;refine AE ?_;refine AM rfl ?_;refine AA ?_;refine AB ?_;refine AT ?_;refine BF ?_; rintro _ _ ⟨b,rfl,rfl⟩
   refine BH (BZ (by_:=40) (s:=5) (news:=[int x.n,int x.a,int x.b,int x.s,int x.k]) rfl rfl rfl rfl rfl rfl rfl hO takeZ (cells_own memZ) rfl (by (repeat (first | exact (fun v hv=>absurd hv List.not_mem_nil) | (refine List.forall_mem_cons.2 ⟨?_,?_⟩; (focus (first | exact rfl | assumption))))); first | done | fail) (by omega) (by simp only [maxLen]; omega) (by omega)) rfl rfl rfl ?_
   rintro u1 _ ⟨σ1,hO1,rfl⟩;refine AC ?_;refine AE ?_;refine A4 ?_;refine AA ?_;refine A9 ?_;refine AB ?_;refine AE ?_
   refine AX (k + 1,(u1,σ1)) ⟨by dsimp only; omega,?_⟩ (by dsimp only; omega) covZ selZ
   dsimp only
   rw [hn,List.length_append,List.flatMap_append];exact hO1
 ·have hke:k = l.length:=by omega
  subst hke;rw [List.take_length] at hO;refine AD ?_;refine AA ?_;refine AZ ?_;refine AE ?_;refine AD ?_;refine AN rfl ?_;refine A8 rfl ?_;refine AD ?_;refine AA ?_;refine AB ?_;refine AC ?_;refine AE ?_;exact AI (res1 rfl rfl) rsubZ selZ ⟨σ,hO,rfl⟩
/- the reference's place of a hold -/
end Go.Proofs.YtphehihohghfoaaGreat
/- Fewer bookings, fewer holds, a later deadline: still valid, and no less can be brought. No program in sight. No conditions. -/
namespace Go.Step
theorem chkB_filter {qs:List Int} {cs:List Ct} {bs:List Bk} (p:Bk → Bool) (h:chkB qs cs bs = 0):chkB qs cs (bs.filter p) = 0:=by
  obtain ⟨h1,h2⟩:=chkB_ok h
  have hl:=List.length_filter_le p bs
  have h3:firstE (bkE cs (bs.filter p)) (bs.filter p).length = 0:=bks_of (fun y hy=>bkE_ok h2 y (List.mem_filter.1 hy).1) ((bks_apart h2).filter p)
  unfold chkB at h ⊢
  by_cases h4:chkPl qs cs = 0
  · rw [if_neg (by simpa using h4),if_neg (by omega),h3]
  · rw [if_pos h4] at h; omega
theorem chkH_parts {qs:List Int} {cs:List Ct} {l:List Hd} (h:chkH qs cs l = 0):chkPl qs cs = 0 ∧ l.length ≤ 512 ∧ firstE (hdE qs.length l) l.length = 0 ∧ fitB qs l = true:=by
  unfold chkH at h
  split at h
  · omega
  rename_i h1
  split at h
  · omega
  rename_i h2
  split at h
  · omega
  rename_i h3
  split at h
  · rename_i h4
    exact ⟨by omega,by omega,by omega,h4⟩
  · omega
theorem chkH_filter {qs:List Int} {cs:List Ct} {hs:List Hd} (p:Hd → Bool) (h:chkH qs cs hs = 0):chkH qs cs (hs.filter p) = 0:=by
  obtain ⟨h1,h2,h3,h4⟩:=chkH_parts h
  have hl:=List.length_filter_le p hs
  have hok:∀ x ∈ hs,okHd qs.length x:=fun x hx=>hdE_ok h3 x (by rwa [List.take_length])
  refine chkH_of h1 (by omega) (fun x hx=>hok x (List.mem_filter.1 hx).1) ((sortH_of h3).filter p) ?_
  rw [fitB_iff] at h4 ⊢
  intro x hx
  refine Int.le_trans (stored_filter p _ _ hs (fun y hy=>?_)) (h4 x (List.mem_filter.1 hx).1)
  have:=(hok y hy).2.2.1
  omega
theorem chkT_of {qs:List Int} {cs:List Ct} {bs:List Bk} {hs:List Hd} (h1:chkPl qs cs = 0) (h2:chkB qs cs bs = 0) (h3:chkH qs cs hs = 0):chkT qs cs bs hs = 0:=by
  unfold chkT
  rw [if_neg (by simpa using h1),if_neg (by simpa using h2),h3]
theorem validT_iff {qs:List Int} {cs:List Ct} {bs:List Bk} {hs:List Hd} {d:Dm}:validT qs cs bs hs d = true ↔ chkT qs cs bs hs = 0 ∧ okDm qs.length d:=by
  unfold validT;rw [decide_eq_true_eq]
theorem valid_bks {qs:List Int} {cs:List Ct} {bs:List Bk} {hs:List Hd} {d:Dm} (p:Bk → Bool) (h:validT qs cs bs hs d = true):validT qs cs (bs.filter p) hs d = true:=by
  rw [validT_iff] at h ⊢
  obtain ⟨a,b,c⟩:=chkT_ok h.1
  exact ⟨chkT_of a (chkB_filter p b) c,h.2⟩
theorem valid_hds {qs:List Int} {cs:List Ct} {bs:List Bk} {hs:List Hd} {d:Dm} (p:Hd → Bool) (h:validT qs cs bs hs d = true):validT qs cs bs (hs.filter p) d = true:=by
  rw [validT_iff] at h ⊢
  obtain ⟨a,b,c⟩:=chkT_ok h.1
  exact ⟨chkT_of a b (chkH_filter p c),h.2⟩
theorem valid_dm {qs:List Int} {cs:List Ct} {bs:List Bk} {hs:List Hd} {d d':Dm} (h:validT qs cs bs hs d = true) (hd:okDm qs.length d'):validT qs cs bs hs d' = true:=by
  rw [validT_iff] at h ⊢;exact ⟨h.1,hd⟩
theorem bookedB_filter (p:Bk → Bool) {bs:List Bk} {i t:Int} (h:bookedB bs i t = false):bookedB (bs.filter p) i t = false:=by
  cases hb:bookedB (bs.filter p) i t with
  | false=>rfl
  | true =>
    obtain ⟨y,hy,h1⟩:=bookedB_iff.1 hb
    rw [bookedB_iff.2 ⟨y,(List.mem_filter.1 hy).1,h1⟩] at h
    simp at h
section
variable {qs:List Int} {cs:List Ct} {bs:List Bk} {hs:List Hd} {d:Dm} {F F':List Int} {m m' e e':Int}
theorem most_bks (h:VOk qs cs bs hs d) (p:Bk → Bool) (h':VOk qs cs (bs.filter p) hs d) (hm:MaxN qs cs bs hs d F m e) (hm':MaxN qs cs (bs.filter p) hs d F' m' e'):m ≤ m':=
  max_mono h' h rfl rfl rfl (Int.le_refl _) (fun _ _ hb=>bookedB_filter p hb) (fun _ _=>Int.le_refl _) hm' hm
theorem most_hds (h:VOk qs cs bs hs d) (p:Hd → Bool) (h':VOk qs cs bs (hs.filter p) d) (hm:MaxN qs cs bs hs d F m e) (hm':MaxN qs cs bs (hs.filter p) d F' m' e'):m ≤ m':=
  max_mono h' h rfl rfl rfl (Int.le_refl _) (fun _ _ hb=>hb) (fun _ _=>stored_filter p _ _ hs (fun y hy=>by have:=(h.hd y hy).2.2.1; omega)) hm' hm
theorem most_late {x:Int} (h:VOk qs cs bs hs d) (h':VOk qs cs bs hs ⟨d.s,d.d,d.v,d.r,x⟩) (hx:d.e ≤ x) (hm:MaxN qs cs bs hs d F m e) (hm':MaxN qs cs bs hs ⟨d.s,d.d,d.v,d.r,x⟩ F' m' e'):m ≤ m':=
  max_mono h' h rfl rfl rfl hx (fun _ _ hb=>hb) (fun _ _=>Int.le_refl _) hm' hm
end
end Go.Step
/- The least of three numbers. No conditions. -/
namespace Go.Eng
variable {C:Cx} {D:List Deferred} {R H:List PH} {L:Env} {K:List It}
variable {dst:Option Tmp} {ty:TypeId} {pos:String} {aft:Array Edge} {g:Option (Nat × Bool)}
theorem q_min3 {x y z:Operand} {t u s:TypeId} {k:IntKind} {m n p:Int} (h:evalE L x = some (.int k m)) (h2:evalE L y = some (.int k n)) (h3:evalE L z = some (.int k p)) :
    Quiet C R H L ⟨dst,.call ⟨.builtin .min,#[x,y,z],#[t,u,s]⟩,ty,pos,aft,g⟩ (.int k (min (min m n) p)):=
  ⟨by intro c; simp,fun a w hx _=>by
    have e1:(if n < m then n else m) = min m n:=by split <;> omega
    have e2:(if p < min m n then p else min m n) = min (min m n) p:=by split <;> omega
    simp [execOp,resolve,hx x (by simp [Op.operands,Call.operands]) _ h,hx y (by simp [Op.operands,Call.operands]) _ h2,hx z (by simp [Op.operands,Call.operands]) _ h3,invoke,builtin,Builtin.min_,Builtin.min2,e1,e2]⟩
end Go.Eng
/- Law Monotone of the planner. -/
namespace Go.Proofs.YtphehihohghfoaaGreat
open Go.Eng Go.Step
set_option maxRecDepth 100000
set_option maxHeartbeats 4000000

set_option maxHeartbeats 64000000 in
theorem pmono_law {ρ τ σ υ:PH} {pq pc pb ph:Option Addr} {kq kc kb kh:Nat} {qs:List Int} {cs:List Ct} {bs:List Bk} {hs:List Hd} (hT:TbAt ρ τ σ υ pq pc pb ph kq kc kb kh qs cs bs hs) (d:Dm) (k z:Int) (hz:0 ≤ z ∧ z ≤ 255) :
  Ans Tryz.prog (fv 5) [.agg #[.slice pq qs.length kq,.slice pc cs.length kc,.slice pb bs.length kb,.slice ph hs.length kh],.agg #[int d.s,int d.d,int d.v,int d.r,int d.e],int k,.int .u8 z] [ρ,τ,σ,υ] (fun r=>r = .bool true):=by
 have hf:=fine54_spec hT d
 refine spec_in (cap:=[]) Tryz.func5 rfl rfl Tryz.ntmps5 rfl envZ (fun N β=>?_)
 refine AD ?_;refine AA ?_;refine BH (BK rfl) rfl rfl rfl ?_;rintro _ _ ⟨b1,rfl,rfl⟩;refine AS (ρ:=sng b1 _) takeZ ?_
 have ct:RdN (sng b1 (.cells #[.slice pq qs.length kq,.slice pc cs.length kc,.slice pb bs.length kb,.slice ph hs.length kh] 29 (0,0))) b1 0 [.slice pq qs.length kq,.slice pc cs.length kc,.slice pb bs.length kb,.slice ph hs.length kh]:=rdN_sng (vs:=[.slice pq qs.length kq,.slice pc cs.length kc,.slice pb bs.length kb,.slice ph hs.length kh])
 have ct0:rdc (sng b1 (.cells #[.slice pq qs.length kq,.slice pc cs.length kc,.slice pb bs.length kb,.slice ph hs.length kh] 29 (0,0))) b1 0 = some (.slice pq qs.length kq):=by rw [rdc_sng]; rfl
 have ct1:rdc (sng b1 (.cells #[.slice pq qs.length kq,.slice pc cs.length kc,.slice pb bs.length kb,.slice ph hs.length kh] 29 (0,0))) b1 1 = some (.slice pc cs.length kc):=by rw [rdc_sng]; rfl
 have ct2:rdc (sng b1 (.cells #[.slice pq qs.length kq,.slice pc cs.length kc,.slice pb bs.length kb,.slice ph hs.length kh] 29 (0,0))) b1 2 = some (.slice pb bs.length kb):=by rw [rdc_sng]; rfl
 have ct3:rdc (sng b1 (.cells #[.slice pq qs.length kq,.slice pc cs.length kc,.slice pb bs.length kb,.slice ph hs.length kh] 29 (0,0))) b1 3 = some (.slice ph hs.length kh):=by rw [rdc_sng]; rfl
 have ctp:RdP (sng b1 (.cells #[.slice pq qs.length kq,.slice pc cs.length kc,.slice pb bs.length kb,.slice ph hs.length kh] 29 (0,0))) b1 0 [.slice pq qs.length kq,.slice pc cs.length kc]:=rdP_sng (xs:=[.slice pq qs.length kq,.slice pc cs.length kc,.slice pb bs.length kb,.slice ph hs.length kh]) rfl
 refine BH (BK rfl) rfl rfl rfl ?_;rintro _ _ ⟨b2,rfl,rfl⟩;refine AS (ρ:=sng b2 _) takeZ ?_
 have cd:RdN (sng b2 (.cells #[int d.s,int d.d,int d.v,int d.r,int d.e] 31 (0,0))) b2 0 [int d.s,int d.d,int d.v,int d.r,int d.e]:=rdN_sng (vs:=[int d.s,int d.d,int d.v,int d.r,int d.e])
 have cd0:rdc (sng b2 (.cells #[int d.s,int d.d,int d.v,int d.r,int d.e] 31 (0,0))) b2 0 = some (int d.s):=by rw [rdc_sng]; rfl
 have cd1:rdc (sng b2 (.cells #[int d.s,int d.d,int d.v,int d.r,int d.e] 31 (0,0))) b2 1 = some (int d.d):=by rw [rdc_sng]; rfl
 have cd2:rdc (sng b2 (.cells #[int d.s,int d.d,int d.v,int d.r,int d.e] 31 (0,0))) b2 2 = some (int d.v):=by rw [rdc_sng]; rfl
 have cd3:rdc (sng b2 (.cells #[int d.s,int d.d,int d.v,int d.r,int d.e] 31 (0,0))) b2 3 = some (int d.r):=by rw [rdc_sng]; rfl
 have cd4:rdc (sng b2 (.cells #[int d.s,int d.d,int d.v,int d.r,int d.e] 31 (0,0))) b2 4 = some (int d.e):=by rw [rdc_sng]; rfl
 refine AC ?_;refine AE ?_;refine AD ?_;refine AD ?_;refine AA ?_;refine AT ?_;refine AT ?_;refine A2 hf rfl rfl rdZ rfl rfl ?_;rintro _ ⟨fb,rfl,hfb⟩
 cases fb with
 | false =>
  refine BB ?_;refine AE ?_;refine AM rfl ?_;refine AD ?_;refine AA ?_;refine A2 awake54_spec rfl rfl rdZ rfl rfl ?_;rintro _ rfl;refine AC ?_;refine AE ?_;exact AI (res1 rfl rfl) rsubZ selZ ⟨rfl,rfl⟩
 | true =>
 have hv:=hfb rfl
 have h:=vok hv
 have hdm:=h.dm
 unfold okDm at hdm
 have hnb:=h.nb
 have hnh:=h.nh
 obtain ⟨x,hx⟩:∃ x,x = min (min (d.e + z) (d.r + 24)) 1099511627776:=⟨_,rfl⟩
 have hxb:d.r < x ∧ x ≤ 1099511627776 ∧ x ≤ d.r + 24 ∧ x ≤ d.e + z:=by omega
 have hv1:validT qs cs (keepB bs k) hs d = true:=valid_bks _ hv
 have hv2:validT qs cs bs (relH hs k) d = true:=valid_hds _ hv
 have hv3:validT qs cs bs hs ⟨d.s,d.d,d.v,d.r,x⟩ = true:=valid_dm hv (by unfold okDm; dsimp only; omega)
 have hkl:(keepB bs k).length ≤ bs.length:=List.length_filter_le _ _
 have hrl:(relH hs k).length ≤ hs.length:=List.length_filter_le _ _
 refine BB ?_;refine AE ?_;refine AN rfl ?_;refine AL ?_;refine AD ?_;refine AA ?_;refine AT ?_;refine AT ?_;refine A2 (Most_spec hT d) rfl rfl rdZ rfl rfl ?_;rintro _ (⟨_,F,m,hm,rfl⟩ | ⟨hv9,rfl⟩)
 rotate_left
 ·rw [hv] at hv9; simp at hv9
 refine AB ?_;refine AO ?_;refine AO ?_;refine AC ?_;refine AC ?_;refine AE ?_;refine AD ?_
 refine ES (X:=Nat × Nat) [2,3,4,5,9,10] (fun _=>True) (fun q=>[(11,.pointer (some ⟨q.1,0,none⟩)),(12,.pointer (some ⟨q.2,0,none⟩))]) (fun q=>[sng q.1 (.cells #[.slice pq qs.length kq,.slice pc cs.length kc,.slice pb bs.length kb,.slice ph hs.length kh] 29 (0,0)),sng q.2 (.cells #[.slice pq qs.length kq,.slice pc cs.length kc,.slice pb bs.length kb,.slice ph hs.length kh] 29 (0,0))]) pickZ ?_ ?_
 ·refine A5 (.q 0 (.p 1 (.l2 2 .e (.l 3 .e (.l 4 .b (.l 5 .b .nil))) 3 .e (.l 2 .e (.l 4 .b (.l 5 .b .nil)))))) [] rfl (by kernel_rfl) Sel.nil ?_
  repeat' (first
   | (refine BN ?_)
   | (refine E3 ?_)
   | (focus ((refine CN ?_; refine' FY rfl _ rfl rfl _ _; rotate_left; (focus (apply C4; exact rfl; exact rfl; exact takeZ; exact (by (repeat (first | exact (fun v hv=>absurd hv List.not_mem_nil) | (refine List.forall_mem_cons.2 ⟨?_,?_⟩; (focus (first | exact rfl | assumption))))); first | done | fail); exact rfl; exact rfl)); (focus (rintro _ _ ⟨_,rfl⟩ w hw; exact hw.sel Sel.nil)); rintro _ _ ⟨rfl,rfl⟩)))
   | (refine A6 ?_)
   | (refine FI ?_ ?_)
   | (refine C1 ?_; rintro _ _ ⟨b,rfl,rfl⟩)
   | (refine EJ ?_; rintro _ _ ⟨b,rfl,rfl⟩)
   | fail)
  all_goals refine DQ (_,_) trivial covZ selZ
 rintro ⟨b11,b12⟩ _
 dsimp only
 refine AD ?_;refine AA ?_;refine AG ?_;refine AF ?_;refine AB ?_
 refine BW (releaseB_spec σ _ bs k hT.hb (by omega)) rfl rfl rdZ rfl rfl ?_
 rintro u1 χ1 hO1
 have hA1:SlE encB 4 χ1 u1 (keepB bs k):=hO1.at
 obtain ⟨p1,k1,rfl⟩:=hO1.form
 refine AS (ρ:=χ1) takeZ ?_;refine AG ?_;refine A7 ?_; rintro _ _ ⟨rfl,rfl⟩;refine AE ?_;refine AD ?_;refine AA ?_;refine AG ?_;refine AF ?_;refine AB ?_
 refine BW (release_spec υ _ hs k hT.hh (by omega)) rfl rfl rdZ rfl rfl ?_
 rintro u2 χ2 hO2
 have hA2:HdAt χ2 u2 (relH hs k):=hO2.at
 obtain ⟨p2,k2,rfl⟩:=hO2.form
 refine AS (ρ:=χ2) takeZ ?_
 have hT1:TbAt ρ τ χ1 υ pq pc p1 ph kq kc k1 kh qs cs (keepB bs k) hs:=⟨hT.hq,hT.hc,hT.hcap,hT.lq,hT.lc,hA1,by omega,hT.hh,hT.lh⟩
 have hT2:TbAt ρ τ σ χ2 pq pc pb p2 kq kc kb k2 qs cs bs (relH hs k):=⟨hT.hq,hT.hc,hT.hcap,hT.lq,hT.lc,hT.hb,hT.lb,hA2,by omega⟩
 refine AG ?_;refine A7 ?_; rintro _ _ ⟨rfl,rfl⟩;refine AE ?_;refine AD ?_;refine AA ?_;refine AT ?_;refine AY ?_; rintro _ _ ⟨b,rfl,rfl⟩;refine AW ?_; rintro _ _ ⟨rfl,rfl⟩;refine AE ?_;refine AD ?_;refine AA ?_;refine AG ?_;refine AF ?_;refine AB ?_;refine F5 ?_;refine CP ?_;refine AG ?_;refine AF ?_;refine CP ?_
 focus ((refine' CE _ rfl rfl rfl _; rotate_left; (apply q_min3; exact rfl; exact rfl; exact rfl)))
 refine AG ?_;refine A7 ?_; rintro _ _ ⟨rfl,rfl⟩;refine AE ?_;refine AD ?_;refine AA ?_;refine AT ?_;refine AT ?_;rw [← hx];refine AS (ρ:=sng b11 (.cells #[.slice pq qs.length kq,.slice pc cs.length kc,.slice p1 (keepB bs k).length k1,.slice ph hs.length kh] 29 (0,0))) takeZ ?_
 have cT1:RdN (sng b11 (.cells #[.slice pq qs.length kq,.slice pc cs.length kc,.slice p1 (keepB bs k).length k1,.slice ph hs.length kh] 29 (0,0))) b11 0 [.slice pq qs.length kq,.slice pc cs.length kc,.slice p1 (keepB bs k).length k1,.slice ph hs.length kh]:=rdN_sng (vs:=[.slice pq qs.length kq,.slice pc cs.length kc,.slice p1 (keepB bs k).length k1,.slice ph hs.length kh])
 refine AS (ρ:=sng b12 (.cells #[.slice pq qs.length kq,.slice pc cs.length kc,.slice pb bs.length kb,.slice p2 (relH hs k).length k2] 29 (0,0))) takeZ ?_
 have cT2:RdN (sng b12 (.cells #[.slice pq qs.length kq,.slice pc cs.length kc,.slice pb bs.length kb,.slice p2 (relH hs k).length k2] 29 (0,0))) b12 0 [.slice pq qs.length kq,.slice pc cs.length kc,.slice pb bs.length kb,.slice p2 (relH hs k).length k2]:=rdN_sng (vs:=[.slice pq qs.length kq,.slice pc cs.length kc,.slice pb bs.length kb,.slice p2 (relH hs k).length k2])
 skip
 refine A2 (Most_spec hT1 d) rfl rfl rdZ rfl rfl ?_;rintro _ (⟨_,F1,m1,hm1,rfl⟩ | ⟨hv9,rfl⟩)
 rotate_left
 ·rw [hv1] at hv9; simp at hv9
 refine AB ?_;refine AO ?_;refine AO ?_;refine AC ?_;refine AC ?_;refine AE ?_;refine AD ?_;refine AA ?_;refine AT ?_;refine AT ?_;refine A2 (Most_spec hT2 d) rfl rfl rdZ rfl rfl ?_;rintro _ (⟨_,F2,m2,hm2,rfl⟩ | ⟨hv9,rfl⟩)
 rotate_left
 ·rw [hv2] at hv9; simp at hv9
 refine AB ?_;refine AO ?_;refine AO ?_;refine AC ?_;refine AC ?_;refine AE ?_;refine AD ?_;refine AA ?_;refine AT ?_;refine AT ?_;refine A2 (Most_spec hT ⟨d.s,d.d,d.v,d.r,x⟩) rfl rfl rdZ rfl rfl ?_;rintro _ (⟨_,F3,m3,hm3,rfl⟩ | ⟨hv9,rfl⟩)
 rotate_left
 ·rw [hv3] at hv9; simp at hv9
 have k1':=most_bks h _ (vok hv1) hm hm1
 have k2':=most_hds h _ (vok hv2) hm hm2
 have k3':d.e ≤ x → m ≤ m3:=fun hh=>most_late h (vok hv3) hh hm hm3
 by_cases hlate:x < d.e
 ·refine AB ?_
  refine AO ?_;refine AO ?_;refine AC ?_;refine AC ?_;refine AE ?_;refine AD ?_;refine AA ?_;refine AB ?_;refine CH ?_;refine AB ?_;refine AB ?_;refine CH ?_;refine AK ?_;refine AB ?_;refine AB ?_;refine CH ?_;refine AK ?_;refine AB ?_;refine AB ?_;refine CH ?_;refine AK ?_;refine AB ?_;refine AB ?_;refine AB ?_;refine B7 ?_;refine AK ?_;refine AB ?_;refine AB ?_;refine AB ?_;refine B7 ?_;refine AK ?_;refine AB ?_;refine AG ?_;refine AF ?_;refine AG ?_;refine AF ?_;refine BC ?_;refine AB ?_;refine AH rfl rfl rfl ?_;refine AH rfl rfl rfl ?_;refine AH rfl rfl rfl ?_;refine AK ?_;refine AK ?_;refine AB ?_;refine A2 awake54_spec rfl rfl rdZ rfl rfl ?_;rintro _ rfl;refine AK ?_;refine AC ?_;refine AE ?_;exact AI (res1 rfl rfl) rsubZ selZ ⟨rfl,rfl⟩
 ·have k4':=k3' (by omega)
  refine AB ?_;refine AO ?_;refine AO ?_;refine AC ?_;refine AC ?_;refine AE ?_;refine AD ?_;refine AA ?_;refine AB ?_;refine CH ?_;refine AB ?_;refine AB ?_;refine CH ?_;refine AK ?_;refine AB ?_;refine AB ?_;refine CH ?_;refine AK ?_;refine AB ?_;refine AB ?_;refine CH ?_;refine AK ?_;refine AB ?_;refine AB ?_;refine AB ?_;refine B7 ?_;refine AK ?_;refine AB ?_;refine AB ?_;refine AB ?_;refine B7 ?_;refine AK ?_;refine AB ?_;refine AG ?_;refine AF ?_;refine AG ?_;refine AF ?_;refine AZ ?_;refine AB ?_;refine AB ?_;refine AB ?_;refine B7 ?_;refine AJ ?_;refine AK ?_;refine AB ?_;refine A2 awake54_spec rfl rfl rdZ rfl rfl ?_;rintro _ rfl;refine AK ?_;refine AC ?_;refine AE ?_;exact AI (res1 rfl rfl) rsubZ selZ ⟨rfl,rfl⟩
end Go.Proofs.YtphehihohghfoaaGreat
/- The rows: each law, for every input. -/
namespace Go.Proofs.YtphehihohghfoaaGreat
open Go.Eng Go.Step
set_option maxRecDepth 100000
set_option maxHeartbeats 4000000
open Go.ChangeShapes Go.WideShapes Go.ChangeAt Go.RowKit

set_option maxRecDepth 100000 in
theorem plannerMonotone_lifted (os:Os) (started:os.Started) (H:Type) (enc:TypeId × Value → H) :
  ReturnsInHanded {} Tryz.checked os 5 .any (Rows.plannerMonotoneSpec.pre6 enc Tryz.prog Tryz.f5 Rows.plannerMonotoneRow.domain false) (Rows.plannerMonotoneSpec.post enc Tryz.prog Tryz.f5 false true false false):=by
 refine returnsInHanded_of_change (C:=Tryz.checked) Tryz.own started (by kernel_rfl) Tryz.func5
  (ChangeSpec.witness6 (enc:=enc) (C:=Tryz.checked) false ⟨#[],#[.agg #[.slice none 0 0,.slice none 0 0,.slice none 0 0,.slice none 0 0],.agg #[.int .i64 0,.int .i64 0,.int .i64 0,.int .i64 0,.int .i64 0],.int .i64 0,.int .u8 0],[]⟩ 8 (by kernel_rfl) (by kernel_rfl) (by kernel_rfl) (by kernel_rfl)) ?_
 intro W base args ds gs before hval0 hW hcnd _
 have hval:∀ (j:Nat) t v,Tryz.f5.params[j]? = some t → args[j]? = some v → Value.okWide Tryz.prog W .any base t v:=hval0
 have hW':=hW
 obtain ⟨p,q,hA0,hV,rfl,hfz,hnd⟩:=hW
 have hA:DataW.TrodAll enc Tryz.prog W 0 (fun _=>true) true Tryz.f5.params.toList args.toList ds p:=hA0
 rw [Tryz.params5] at hA hval
 obtain ⟨v0,vs0,d0,ds0,p0,q0,hargs,rfl,rfl,h0,r0⟩:=trodAll_cons hA
 obtain ⟨v1,vs1,d1,ds1,p1,q1,rfl,rfl,rfl,h1,r1⟩:=trodAll_cons r0
 obtain ⟨v2,vs2,d2,ds2,p2,q2,rfl,rfl,rfl,h2,r2⟩:=trodAll_cons r1
 obtain ⟨v3,vs3,d3,ds3,p3,q3,rfl,rfl,rfl,h3,r3⟩:=trodAll_cons r2
 obtain ⟨rfl,rfl,rfl⟩:=trodAll_nil r3
 obtain rfl:args = #[v0,v1,v2,v3]:=by cases args; simp_all
 obtain ⟨rfl,rfl⟩:=trodVars_none hV
 have lt0:∀ x ∈ p0,x.block < W.heap.size:=by obtain ⟨m,hm⟩:=h0; exact DataW.trod_lt m _ _ _ hm
 have lt1:∀ x ∈ p1,x.block < W.heap.size:=by obtain ⟨m,hm⟩:=h1; exact DataW.trod_lt m _ _ _ hm
 have lt2:∀ x ∈ p2,x.block < W.heap.size:=by obtain ⟨m,hm⟩:=h2; exact DataW.trod_lt m _ _ _ hm
 have lt3:∀ x ∈ p3,x.block < W.heap.size:=by obtain ⟨m,hm⟩:=h3; exact DataW.trod_lt m _ _ _ hm
 have hlaw:Ans Tryz.prog (fv 5) [v0,v1,v2,v3] [heapPH W] (fun v=>v = .bool true):=by
  obtain ⟨pq,pc,pb,ph,kq,kc,kb,kh,qs,cs,bs,hs,rfl,hT⟩:=tables_of (hval 0 _ v0 rfl rfl) (RdT.of h0)
  obtain ⟨d,rfl,id0,id1,id2,id3,id4⟩:=demand_of (hval 1 _ v1 rfl rfl) (RdT.of h1)
  obtain ⟨x,rfl,_,_,wx⟩:=open_int Tryz.underlying3 (hval 2 _ v2 rfl rfl) h2
  obtain ⟨z,rfl,_,_,wz⟩:=open_int Tryz.underlying5 (hval 3 _ v3 rfl rfl) h3
  exact (pmono_law hT d x z (wf_u8 wz)).rsub (fun _ h=>by simpa using h)
 refine (law_calls Tryz.func5 rfl rfl hlaw).mono fun e W' ⟨he,bel⟩=>?_
 subst he
 exact ⟨_,rfl,_,_,_,[],_,[],hW',trodAll_mk1 (shut_bool Tryz.underlying4 _),(trodAll_cons_mk (Below.trod Tryz.laidOut (by kernel_rfl) (of_decide_eq_true (by kernel_rfl)) h0 bel lt0) (trodAll_cons_mk (Below.trod Tryz.laidOut (by kernel_rfl) (of_decide_eq_true (by kernel_rfl)) h1 bel lt1) (trodAll_cons_mk (Below.trod Tryz.laidOut (by kernel_rfl) (of_decide_eq_true (by kernel_rfl)) h2 bel lt2) (trodAll_cons_mk (Below.trod Tryz.laidOut (by kernel_rfl) (of_decide_eq_true (by kernel_rfl)) h3 bel lt3) trodAll_mk0)))),rfl,bel.frame _,fun h=>by cases h⟩
theorem plannerMonotone_holds:Rows.PlannerMonotoneSaid:=
 OpenClaim.holds_of_wide 5 Tryz.f5 rfl rfl rfl rfl rfl rfl rfl ⟨rfl,rfl,rfl,rfl,rfl⟩ rfl rfl rfl rfl rfl (by kernel_rfl) Tryz.func5 (by kernel_rfl)
  (of_decide_eq_true (by kernel_rfl)) (by unfold Func.isWrapper; first | (rw [if_pos (by decide +kernel)]; kernel_rfl) | (rw [if_neg (by decide +kernel)]; exact ⟨rfl,rfl⟩))
  (fun os started H enc _=>plannerMonotone_lifted os started H enc)
end Go.Proofs.YtphehihohghfoaaGreat
