/- Texts of this proof, one after the other; no conditions. -/
import Derived.Test.YtphehihohghfoaaGreatRows
import Derived.Test.YtphehihohghfoaaGreatWB6
import Derived.Test.YtphehihohghfoaaGreatWB3
import Derived.Test.YtphehihohghfoaaGreatWB2
import Derived.Test.YtphehihohghfoaaGreatWB1
import Derived.Test.YtphehihohghfoaaGreatWB5
set_option linter.all false
/- The network made. -/
namespace Go.Proofs.YtphehihohghfoaaGreat
open Go.Eng Go.Step
set_option maxRecDepth 100000
set_option maxHeartbeats 4000000

theorem exValid_spec {ρ τ σ υ:PH} {pq pc pb ph:Option Addr} {kq kc kb kh:Nat} {qs:List Int} {cs:List Ct} {bs:List Bk} {hs:List Hd} (hT:TbAt ρ τ σ υ pq pc pb ph kq kc kb kh qs cs bs hs) (d:Dm) :
  Ans Tryz.prog (fv 98) [.agg #[.slice pq qs.length kq,.slice pc cs.length kc,.slice pb bs.length kb,.slice ph hs.length kh],.agg #[int d.s,int d.d,int d.v,int d.r,int d.e]] [ρ,τ,σ,υ] (fun r=>r = .bool (validT qs cs bs hs d)):=by
 refine spec_in (cap:=[]) Tryz.func98 rfl rfl Tryz.ntmps98 rfl envZ (fun N β=>?_)
 refine Aa ?_;refine BI (BK rfl) rfl rfl rfl ?_;rintro _ _ ⟨b1,rfl,rfl⟩;refine AS (ρ:=sng b1 _) takeZ ?_
 have ct:=rdB b1 29 [.slice pq qs.length kq,.slice pc cs.length kc,.slice pb bs.length kb,.slice ph hs.length kh]
 have ct0:=rdC ct 0
 have ct1:=rdC ct 1
 have ct2:=rdC ct 2
 have ct3:=rdC ct 3
 have ctp:RdP (sng b1 (.cells #[.slice pq qs.length kq,.slice pc cs.length kc,.slice pb bs.length kb,.slice ph hs.length kh] 29 (0,0))) b1 0 [.slice pq qs.length kq,.slice pc cs.length kc]:=rdP_sng (xs:=[.slice pq qs.length kq,.slice pc cs.length kc,.slice pb bs.length kb,.slice ph hs.length kh]) rfl
 refine BI (BK rfl) rfl rfl rfl ?_;rintro _ _ ⟨b2,rfl,rfl⟩;refine AS (ρ:=sng b2 _) takeZ ?_
 have cd:=rdB b2 31 [int d.s,int d.d,int d.v,int d.r,int d.e]
 have cd0:=rdC cd 0
 have cd1:=rdC cd 1
 have cd2:=rdC cd 2
 have cd3:=rdC cd 3
 have cd4:=rdC cd 4
 refine Aab ?_;refine Ady ?_;refine Aac ?_;refine AX ?_;refine Abm ?_;refine Abo ?_;refine A3 (chkTab_spec hT) rfl rfl rdZ rfl rfl ?_;rintro _ rfl
 by_cases h0:chkT qs cs bs hs = 0
 rotate_left
 ·have hv:validT qs cs bs hs d = false:=decide_eq_false (fun h=>h0 h.1)
  rw [hv]
  generalize chkT qs cs bs hs = z at h0
  refine CG ?_;refine Abq ?_;refine Acq ?_;refine Abq ?_;refine Acq ?_;refine Ab0 ?_;refine Ad0 ?_;exact AI (res1 rfl rfl) rsubZ selZ ⟨rfl,rfl⟩
 rw [h0]
 have hbad:¬ okDm qs.length d → validT qs cs bs hs d = false:=fun h=>decide_eq_false (fun k=>h k.2)
 by_cases hs1:0 ≤ d.s
 rotate_left
 ·rw [hbad (fun h=>by unfold okDm at h; omega)]
  refine Adf ?_;refine A9 ?_;refine AJ ?_;refine Acq ?_;refine Abq ?_;refine Acq ?_;refine Ab0 ?_;refine Ad0 ?_;exact AI (res1 rfl rfl) rsubZ selZ ⟨rfl,rfl⟩
 by_cases hs2:d.s < (qs.length:Int)
 rotate_left
 ·rw [hbad (fun h=>by unfold okDm at h; omega)]
  refine Adf ?_;refine Abd ?_;refine AB ?_;refine CC ?_;refine AJ ?_;refine Abq ?_;refine Acq ?_;refine Ab0 ?_;refine Ad0 ?_;exact AI (res1 rfl rfl) rsubZ selZ ⟨rfl,rfl⟩
 by_cases hd1:0 ≤ d.d
 rotate_left
 ·rw [hbad (fun h=>by unfold okDm at h; omega)]
  refine Adt ?_;refine A9 ?_;refine AJ ?_;refine Acq ?_;refine Ab0 ?_;refine Ad0 ?_;exact AI (res1 rfl rfl) rsubZ selZ ⟨rfl,rfl⟩
 by_cases hd2:d.d < (qs.length:Int)
 rotate_left
 ·rw [hbad (fun h=>by unfold okDm at h; omega)]
  refine Adt ?_;refine Abd ?_;refine AB ?_;refine CC ?_;refine AJ ?_;refine Ab0 ?_;refine Ad0 ?_;exact AI (res1 rfl rfl) rsubZ selZ ⟨rfl,rfl⟩
 by_cases h3:d.s ≠ d.d
 rotate_left
 ·rw [hbad (fun h=>by unfold okDm at h; omega)]
  refine Adt ?_;refine Acp ?_;refine CK ?_;refine Ac9 ?_;exact AI (res1 rfl rfl) rsubZ selZ ⟨rfl,rfl⟩
 by_cases h4:1 ≤ d.v
 rotate_left
 ·rw [hbad (fun h=>by unfold okDm at h; omega)]
  refine Adt ?_;refine Ac6 ?_;refine Abg ?_;refine Aao ?_;refine BJ ?_;refine Adq ?_;refine Adq ?_;refine Ab0 ?_;refine AJ ?_;refine Adq ?_;refine Ael ?_;exact AI (res1 rfl rfl) rsubZ selZ ⟨rfl,rfl⟩
 by_cases h5:d.v ≤ 1099511627776
 rotate_left
 ·rw [hbad (fun h=>by unfold okDm at h; omega)]
  refine Adt ?_;refine Ac6 ?_;refine Abg ?_;refine Adg ?_;refine Aae ?_;refine CJ ?_;refine AL ?_;refine Adq ?_;refine Ab0 ?_;refine AJ ?_;refine Adq ?_;refine Ael ?_;exact AI (res1 rfl rfl) rsubZ selZ ⟨rfl,rfl⟩
 by_cases h6:0 ≤ d.r
 rotate_left
 ·rw [hbad (fun h=>by unfold okDm at h; omega)]
  refine Adt ?_;refine Ac6 ?_;refine Abg ?_;refine Adg ?_;refine Aae ?_;refine CL ?_;refine Acs ?_;refine BJ ?_;refine AL ?_;refine Ab0 ?_;refine AJ ?_;refine Adq ?_;refine Ael ?_;exact AI (res1 rfl rfl) rsubZ selZ ⟨rfl,rfl⟩
 by_cases h7:d.r < d.e
 rotate_left
 ·rw [hbad (fun h=>by unfold okDm at h; omega)]
  refine Adt ?_;refine Ac6 ?_;refine Abg ?_;refine Adg ?_;refine Aae ?_;refine CL ?_;refine Acs ?_;refine CC ?_;refine Ac5 ?_;refine AY ?_;refine AL ?_;refine Adq ?_;refine Ael ?_;exact AI (res1 rfl rfl) rsubZ selZ ⟨rfl,rfl⟩
 by_cases h8:d.e ≤ 1099511627776
 rotate_left
 ·rw [hbad (fun h=>by unfold okDm at h; omega)]
  refine Adt ?_;refine Ac6 ?_;refine Abg ?_;refine Adg ?_;refine Aae ?_;refine CL ?_;refine Acs ?_;refine CC ?_;refine Ac5 ?_;refine A9 ?_;refine Acs ?_;refine CJ ?_;refine AL ?_;refine Ael ?_;exact AI (res1 rfl rfl) rsubZ selZ ⟨rfl,rfl⟩
 by_cases h9:d.e - d.r ≤ 100
 rotate_left
 ·rw [hbad (fun h=>by unfold okDm at h; omega)]
  refine Adt ?_;refine Ac6 ?_;refine Abg ?_;refine Adg ?_;refine Aae ?_;refine CL ?_;refine Acs ?_;refine CC ?_;refine Ac5 ?_;refine A9 ?_;refine Acs ?_;refine CL ?_;refine Ac5 ?_;refine CZ ?_;refine CJ ?_;refine Ab2 ?_;exact AI (res1 rfl rfl) rsubZ selZ ⟨rfl,rfl⟩
 have hv:validT qs cs bs hs d = true:=decide_eq_true ⟨h0,by unfold okDm; omega⟩
 rw [hv];refine Adt ?_;refine Ac6 ?_;refine Abg ?_;refine Adg ?_;refine Aae ?_;refine CL ?_;refine Acs ?_;refine CC ?_;refine Ac5 ?_;refine A9 ?_;refine Acs ?_;refine CL ?_;refine Ac5 ?_;refine CZ ?_;refine CL ?_;refine Ab2 ?_;exact AI (res1 rfl rfl) rsubZ selZ ⟨rfl,rfl⟩
set_option maxHeartbeats 32000000 in
theorem build_spec {ρ τ σ υ:PH} {pq pc pb ph:Option Addr} {kq kc kb kh:Nat} {qs:List Int} {cs:List Ct} {bs:List Bk} {hs:List Hd} (hT:TbAt ρ τ σ υ pq pc pb ph kq kc kb kh qs cs bs hs) (d:Dm) :
  Eng.Spec Tryz.prog (fv 61) [.agg #[.slice pq qs.length kq,.slice pc cs.length kc,.slice pb bs.length kb,.slice ph hs.length kh],.agg #[int d.s,int d.d,int d.v,int d.r,int d.e]] [ρ,τ,σ,υ] [] (fun r H'=>(validT qs cs bs hs d = false ∧ r = .tuple #[.pointer none,.bool false] ∧ H' = []) ∨ (validT qs cs bs hs d = true ∧ ∃ bw bm u χ M,r = .tuple #[.pointer (some ⟨bw,0,none⟩),.bool true] ∧ H' = [sng bw (.cells #[.slice pq qs.length kq,.slice pc cs.length kc,.slice pb bs.length kb,.slice ph hs.length kh,int d.s,int d.d,int d.v,int d.r,int d.e,u,.map (some bm)] 134 (0,0)),sng bm (mapS M),χ] ∧ OwnS 130 2 u (placesA d qs.length).length ((placesA d qs.length).flatMap encS) χ ∧ NumAt d qs.length d.r M)):=by
 have hval:=exValid_spec hT d
 have hone:∀ z n (xs:List Value) (χ:PH),OwnS 130 2 z n xs χ → z.oneCell' = true:=fun z n xs χ h=>by obtain ⟨_,_,rfl⟩:=h.form; rfl
 refine spec_in (cap:=[]) Tryz.func61 rfl rfl Tryz.ntmps61 rfl envZ (fun N β=>?_)
 refine Aa ?_;refine BI (BK rfl) rfl rfl rfl ?_;rintro _ _ ⟨b1,rfl,rfl⟩;refine AS (ρ:=sng b1 _) takeZ ?_
 have ct:=rdB b1 29 [.slice pq qs.length kq,.slice pc cs.length kc,.slice pb bs.length kb,.slice ph hs.length kh]
 have ct0:=rdC ct 0
 have ct1:=rdC ct 1
 have ct2:=rdC ct 2
 have ct3:=rdC ct 3
 have ctp:RdP (sng b1 (.cells #[.slice pq qs.length kq,.slice pc cs.length kc,.slice pb bs.length kb,.slice ph hs.length kh] 29 (0,0))) b1 0 [.slice pq qs.length kq,.slice pc cs.length kc]:=rdP_sng (xs:=[.slice pq qs.length kq,.slice pc cs.length kc,.slice pb bs.length kb,.slice ph hs.length kh]) rfl
 refine BI (BK rfl) rfl rfl rfl ?_;rintro _ _ ⟨b2,rfl,rfl⟩;refine AS (ρ:=sng b2 _) takeZ ?_
 have cd:=rdB b2 31 [int d.s,int d.d,int d.v,int d.r,int d.e]
 have cd0:=rdC cd 0
 have cd1:=rdC cd 1
 have cd2:=rdC cd 2
 have cd3:=rdC cd 3
 have cd4:=rdC cd 4
 refine Aan ?_;refine AC ?_;refine Ab5 ?_;refine A3 hval rfl rfl rdZ rfl rfl ?_;rintro _ rfl
 cases hv:validT qs cs bs hs d with
 | false =>
  refine Ad4 ?_;refine Acf ?_;exact AI (res2 rfl rfl rfl) rsubZ selZ (.inl ⟨rfl,rfl,rfl⟩)
 | true =>
 have h:=vok hv
 have hdm:=h.dm
 unfold okDm at hdm
 have hnq:=h.nq
 refine BY ?_;refine Acc ?_;refine Ab5 ?_
 focus ((refine' BI _ rfl rfl rfl _; rotate_left; (exact E8); rintro _ _ ⟨b,rfl,rfl⟩))
 revert b; intro bm
 refine CE (DS (out:=[.slice pq qs.length kq,.slice pc cs.length kc,.slice pb bs.length kb,.slice ph hs.length kh,int d.s,int d.d,int d.v,int d.r,int d.e,.slice none 0 0,.map (some bm)]) rfl rfl rfl rfl rfl) rfl rfl rfl ?_;refine B7 ?_; rintro _ _ ⟨b,rfl,rfl⟩;refine Abm ?_;refine Ady ?_;refine Aac ?_;refine Abk ?_
 revert b; intro bw
 refine BC [2,3,6,22] (X:=Nat × Value × PH × List (List Int × Value)) (0,.slice none 0 0,emp,[]) (fun x=>x.1 ≤ qs.length ∧ OwnS 130 2 x.2.1 (placesA d x.1).length ((placesA d x.1).flatMap encS) x.2.2.1 ∧ NumAt d x.1 d.r x.2.2.2) (fun x=>[(23,int x.1)]) (fun x=>[sng bw (.cells #[.slice pq qs.length kq,.slice pc cs.length kc,.slice pb bs.length kb,.slice ph hs.length kh,int d.s,int d.d,int d.v,int d.r,int d.e,x.2.1,.map (some bm)] 134 (0,0)),sng bm (mapS x.2.2.2),x.2.2.1]) (fun x=>qs.length - x.1) pickZ ⟨by dsimp only; omega,OwnS.nil _ _,NumAt.nil d⟩ covZ selZ ?_
 rintro ⟨k,u,χ,M⟩ ⟨hk,hO,hM⟩
 dsimp only at hk hO hM ⊢
 by_cases hlt:k < qs.length
 rotate_left
 ·have hke:k = qs.length:=by omega
  subst hke;refine Abt ?_;refine Adu ?_;exact AI (res2 rfl rfl rfl) rsubZ selZ (.inr ⟨rfl,bw,bm,u,χ,M,rfl,rfl,hO,hM⟩)
 refine Abz ?_;refine Abv ?_;refine Aab ?_;refine AP ?_
 refine BC [2,3,6,7,22,23] (X:=Int × Value × PH × List (List Int × Value)) (d.r,u,χ,M) (fun x=>d.r ≤ x.1 ∧ x.1 ≤ d.e + 1 ∧ OwnS 130 2 x.2.1 (placesA d k ++ placesN d k x.1).length ((placesA d k ++ placesN d k x.1).flatMap encS) x.2.2.1 ∧ NumAt d k x.1 x.2.2.2) (fun x=>[(8,int x.1)]) (fun x=>[sng bw (.cells #[.slice pq qs.length kq,.slice pc cs.length kc,.slice pb bs.length kb,.slice ph hs.length kh,int d.s,int d.d,int d.v,int d.r,int d.e,x.2.1,.map (some bm)] 134 (0,0)),sng bm (mapS x.2.2.2),x.2.2.1]) (fun x=>(d.e + 1 - x.1).toNat) pickZ ⟨by dsimp only; omega,by dsimp only; omega,by dsimp only; rw [placesN_nil,List.append_nil]; exact hO,hM⟩ covZ selZ ?_
 rintro ⟨t,u2,χ2,M2⟩ ⟨ht1,ht2,hO2,hM2⟩
 dsimp only at ht1 ht2 hO2 hM2 ⊢
 by_cases hte:t ≤ d.e
 rotate_left
 ·have hte2:t = d.e + 1:=by omega
  subst hte2;refine Aeh ?_;refine CJ ?_;refine Ac3 ?_;refine Aa4 ?_
  exact AZ (k + 1,u2,χ2,M2) ⟨by dsimp only; omega,hO2,by dsimp only; exact hM2.row (by omega)⟩ (by dsimp only; omega) covZ selZ
 have hlen:=places_at (d:=d) (by omega) (k:=k) ht1
 have hvt:=vtx_lt (d:=d) (n:=k) (t:=t) (N:=16) (by omega) (by omega) ht1 hte
 have hvb:vtx d k t < 1616:=by
  have hw:=h.wd
  have:=Int.mul_le_mul_of_nonneg_left hw.2 (show (0:Int) ≤ ((16:Nat):Int) by omega)
  omega
 have hsn:=placesN_snoc (k:=k) ht1
 have hadd:=hM2.add (by omega) ht1 hte
 have hMl:=hM2.1
 obtain ⟨pu,ku,rfl⟩:=hO2.form
 have hflat:(placesA d k ++ placesN d k (t + 1)) = (placesA d k ++ placesN d k t) ++ [((k:Int),t)]:=by rw [hsn,List.append_assoc]
 generalize placesA d k ++ placesN d k t = P at hlen hO2 hflat
 refine Aeh ?_;refine CL ?_;refine Acv ?_;refine Abn ?_;refine BS ?_;refine AW ?_; rintro _ _ ⟨b,rfl,rfl⟩;refine AV ?_; rintro _ _ ⟨rfl,rfl⟩;refine Aak ?_
 revert b; intro b9
 refine A5 (.q 0 (.q 1 (.q 2 (.q 3 (.q 4 (.q 5 (.q 6 (.q 7 (.q 8 (.q 9 (.l 10 .b .nil))))))))))) [] rfl (by kernel_rfl) Sel.nil ?_
 refine Acd ?_;refine BR ?_;refine Acd ?_;refine EJ ?_;rw [hlen];refine CO ?_
 refine' FV rfl (EM 2 [(k:Int),t] (v:=int (vtx d k t)) (l:=M2) rfl rfl rfl rfl ⟨by kernel_rfl,by kernel_rfl⟩ rfl hMl takeZ) rfl rfl _ _
 ·rintro _ _ ⟨_,rfl⟩ w hw; exact hw.sel Sel.nil
 rintro _ _ ⟨rfl,rfl⟩;refine A6 ?_
 skip
 refine A5 (.p 0 (.q 1 (.q 2 (.q 3 (.q 4 (.q 5 (.l 6 .e (.l 7 .b (.q 8 (.q 9 (.l 10 .b .nil))))))))))) [] rfl (by kernel_rfl) Sel.nil ?_
 refine FK ?_;refine Acd ?_;refine BR ?_;refine B0 ?_; rintro _ _ ⟨b,rfl,rfl⟩
 refine CO (a_b rfl (B6 (by_:=16) (s:=2) (news:=[int (k:Int),int t]) rfl rfl rfl rfl rfl rfl rfl hO2 takeZ (cells_own memZ) rfl (by (repeat (first | exact (fun v hv=>absurd hv List.not_mem_nil) | (refine List.forall_mem_cons.2 ⟨?_,?_⟩; (focus (first | exact rfl | assumption))))); first | done | fail) (by omega) (by simp only [maxLen]; omega) (by omega)) rfl rfl rfl (fun _ _ _ w hw=>hw.sel Sel.nil) ?_)
 rintro u3 _ ⟨χ3,hO3,rfl⟩
 have hu3:=hone _ _ _ _ hO3
 refine Ac7 ?_;refine C5 ?_; rintro _ _ ⟨rfl,rfl⟩;refine A6 ?_;refine Ach ?_;refine CS ?_;refine Aab ?_
 refine AZ (t + 1,u3,χ3,_) ⟨by dsimp only; omega,by dsimp only; omega,?_,hadd⟩ (by dsimp only; omega) covZ selZ
 dsimp only
 rw [hflat,List.length_append,List.flatMap_append];exact hO3
end Go.Proofs.YtphehihohghfoaaGreat
/- Inside a region that draws its order: the chunks in another order. No conditions. -/
namespace Go.Eng
variable {C:Cx} {D:List Deferred} {R H Hf:List PH} {L:Env} {K:List It} {ps ls:List Nat}
theorem Quiet.perm {H':List PH} {o:Oper} {v:Value} (hp:H'.Perm H) (h:Quiet C R H L o v):Quiet C R H' L o v:=⟨h.1,fun a w hx hs=>h.2 a w hx (hs.perm hp)⟩
theorem EB {H':List PH} {all:Array Oper} {done:List Nat} {plan:Pl} (hp:H.Perm H') (h:DJ C D R Hf H' L all done ps ls plan K):DJ C D R Hf H L all done ps ls plan K:=by
  refine ⟨fun hpl fuel listed a w hinv=>h.run hpl fuel listed a w ⟨hinv.size,hinv.dc,hinv.sub,hinv.fuel,hinv.tm,hinv.df,hinv.sat.perm hp,hinv.get,fun i hi hn=>?_,fun w hw=>hinv.hf w (hw.perm hp.symm),hinv.lds,hinv.data,hinv.uniq,hinv.chron⟩⟩
  obtain ⟨o,d,v,h1,h2,h3,h4,h5⟩:=hinv.prom i hi hn
  refine ⟨o,d,v,h1,h2,h3,h4,?_⟩
  rcases h5 with ⟨k1,k2⟩ | k
  · refine .inl ⟨k1,?_⟩
    split at k2
    · rename_i c; rw [if_pos c]; exact k2
    · rename_i c; rw [if_neg c]; exact k2.perm hp.symm
  · exact .inr k
end Go.Eng
/- Room, and the ticks of contacts. -/
namespace Go.Proofs.YtphehihohghfoaaGreat
open Go.Eng Go.Step
set_option maxRecDepth 100000
set_option maxHeartbeats 4000000

set_option maxHeartbeats 16000000 in
theorem exRoom_spec {ρ τ σ υ:PH} {pq pc pb ph:Option Addr} {kq kc kb kh:Nat} {qs:List Int} {cs:List Ct} {bs:List Bk} {hs:List Hd} (hT:TbAt ρ τ σ υ pq pc pb ph kq kc kb kh qs cs bs hs) (bw bm:Nat) (u:Value) (d:Dm) (h:VOk qs cs bs hs d) (nn:Nat) (t:Int) (hnl:nn < qs.length) :
  Ans Tryz.prog (fv 103) [.pointer (some ⟨bw,0,none⟩),.agg #[int (nn:Int),int t]] [sng bw (.cells #[.slice pq qs.length kq,.slice pc cs.length kc,.slice pb bs.length kb,.slice ph hs.length kh,int d.s,int d.d,int d.v,int d.r,int d.e,u,.map (some bm)] 134 (0,0)),ρ,τ,σ,υ] (fun r=>r = int (roomT qs hs d nn t)):=by
 have hr:=hT.rh
 have hQ:=List.getElem?_eq_getElem hnl
 have hQb:=h.quo _ _ hQ
 have hok:=h.hd
 have hl:=h.nh
 have hR:roomT qs hs d nn t = if (nn:Int) = d.s ∨ (nn:Int) = d.d then 1099511627776 else qs[nn] - Step.stored hs nn t:=by
  unfold roomT;rw [Int.toNat_natCast,List.getD_eq_getElem?_getD,hQ,Option.getD_some]
 rw [hR]
 generalize qs[nn] = Q at hQ hQb
 have w0:rdc (sng bw (.cells #[.slice pq qs.length kq,.slice pc cs.length kc,.slice pb bs.length kb,.slice ph hs.length kh,int d.s,int d.d,int d.v,int d.r,int d.e,u,.map (some bm)] 134 (0,0))) bw 0 = some (.slice pq qs.length kq):=by rw [rdc_sng]; rfl
 have w1:rdc (sng bw (.cells #[.slice pq qs.length kq,.slice pc cs.length kc,.slice pb bs.length kb,.slice ph hs.length kh,int d.s,int d.d,int d.v,int d.r,int d.e,u,.map (some bm)] 134 (0,0))) bw 1 = some (.slice pc cs.length kc):=by rw [rdc_sng]; rfl
 have w2:rdc (sng bw (.cells #[.slice pq qs.length kq,.slice pc cs.length kc,.slice pb bs.length kb,.slice ph hs.length kh,int d.s,int d.d,int d.v,int d.r,int d.e,u,.map (some bm)] 134 (0,0))) bw 2 = some (.slice pb bs.length kb):=by rw [rdc_sng]; rfl
 have w3:rdc (sng bw (.cells #[.slice pq qs.length kq,.slice pc cs.length kc,.slice pb bs.length kb,.slice ph hs.length kh,int d.s,int d.d,int d.v,int d.r,int d.e,u,.map (some bm)] 134 (0,0))) bw 3 = some (.slice ph hs.length kh):=by rw [rdc_sng]; rfl
 have w4:rdc (sng bw (.cells #[.slice pq qs.length kq,.slice pc cs.length kc,.slice pb bs.length kb,.slice ph hs.length kh,int d.s,int d.d,int d.v,int d.r,int d.e,u,.map (some bm)] 134 (0,0))) bw 4 = some (int d.s):=by rw [rdc_sng]; rfl
 have w5:rdc (sng bw (.cells #[.slice pq qs.length kq,.slice pc cs.length kc,.slice pb bs.length kb,.slice ph hs.length kh,int d.s,int d.d,int d.v,int d.r,int d.e,u,.map (some bm)] 134 (0,0))) bw 5 = some (int d.d):=by rw [rdc_sng]; rfl
 have w6:rdc (sng bw (.cells #[.slice pq qs.length kq,.slice pc cs.length kc,.slice pb bs.length kb,.slice ph hs.length kh,int d.s,int d.d,int d.v,int d.r,int d.e,u,.map (some bm)] 134 (0,0))) bw 6 = some (int d.v):=by rw [rdc_sng]; rfl
 have w7:rdc (sng bw (.cells #[.slice pq qs.length kq,.slice pc cs.length kc,.slice pb bs.length kb,.slice ph hs.length kh,int d.s,int d.d,int d.v,int d.r,int d.e,u,.map (some bm)] 134 (0,0))) bw 7 = some (int d.r):=by rw [rdc_sng]; rfl
 have w8:rdc (sng bw (.cells #[.slice pq qs.length kq,.slice pc cs.length kc,.slice pb bs.length kb,.slice ph hs.length kh,int d.s,int d.d,int d.v,int d.r,int d.e,u,.map (some bm)] 134 (0,0))) bw 8 = some (int d.e):=by rw [rdc_sng]; rfl
 have w9:rdc (sng bw (.cells #[.slice pq qs.length kq,.slice pc cs.length kc,.slice pb bs.length kb,.slice ph hs.length kh,int d.s,int d.d,int d.v,int d.r,int d.e,u,.map (some bm)] 134 (0,0))) bw 9 = some (u):=by rw [rdc_sng]; rfl
 have w10:rdc (sng bw (.cells #[.slice pq qs.length kq,.slice pc cs.length kc,.slice pb bs.length kb,.slice ph hs.length kh,int d.s,int d.d,int d.v,int d.r,int d.e,u,.map (some bm)] 134 (0,0))) bw 10 = some (.map (some bm)):=by rw [rdc_sng]; rfl
 refine spec_in (cap:=[]) Tryz.func103 rfl rfl Tryz.ntmps103 rfl envZ (fun N β=>?_)
 refine Aa ?_;refine BI (BK rfl) rfl rfl rfl ?_;rintro _ _ ⟨b3,rfl,rfl⟩;refine AS (ρ:=sng b3 _) takeZ ?_
 have cp:=rdB b3 130 [int (nn:Int),int t]
 have cp0:=rdC cp 0
 have cp1:=rdC cp 1
 by_cases s1:(nn:Int) = d.s
 ·rw [if_pos (.inl s1)]
  refine Abm ?_;refine AC ?_
  refine A5 (.q 0 (.q 1 (.q 2 (.q 3 (.q 4 (.q 5 (.q 6 (.q 7 (.q 8 (.q 9 (.q 10 (.q 11 (.q 12 (.q 13 (.q 14 (.q 15 (.q 16 (.q 17 .nil)))))))))))))))))) [] rfl (by kernel_rfl) Sel.nil ?_
  refine Aaq ?_;refine AR ?_;refine Ac7 ?_;refine Aco ?_;refine EK ?_;refine Ad8 ?_;refine BW ?_;refine Acz ?_;exact AI (res1 rfl rfl) rsubZ selZ ⟨rfl,rfl⟩
 by_cases s2:(nn:Int) = d.d
 ·rw [if_pos (.inr s2)]
  refine Abm ?_;refine AC ?_
  refine A5 (.q 0 (.q 1 (.q 2 (.q 3 (.q 4 (.q 5 (.q 6 (.q 7 (.q 8 (.q 9 (.q 10 (.q 11 (.q 12 (.q 13 (.q 14 (.q 15 (.q 16 (.q 17 .nil)))))))))))))))))) [] rfl (by kernel_rfl) Sel.nil ?_
  refine Aaq ?_;refine AR ?_;refine Ac7 ?_;refine Aco ?_;refine C7 ?_;refine Acn ?_;refine AR ?_;refine Ac7 ?_;refine Aca ?_;refine EK ?_;refine BN ?_;refine Acz ?_;exact AI (res1 rfl rfl) rsubZ selZ ⟨rfl,rfl⟩
 rw [if_neg (by omega)]
 obtain ⟨bq,oq,rfl,gq⟩:=hT.rq.int hQ
 refine Abm ?_;refine AC ?_
 refine A5 (.q 0 (.q 1 (.q 2 (.q 3 (.q 4 (.q 5 (.q 6 (.q 7 (.q 8 (.q 9 (.q 10 (.q 11 (.q 12 (.q 13 (.q 14 (.q 15 (.q 16 (.q 17 .nil)))))))))))))))))) [] rfl (by kernel_rfl) Sel.nil ?_
 refine Aaq ?_;refine AR ?_;refine Ac7 ?_;refine Aco ?_;refine C7 ?_;refine Acn ?_;refine AR ?_;refine Ac7 ?_;refine Aca ?_;refine C7 ?_;refine BN ?_;refine Aee ?_
 refine A5 (.q 0 (.q 1 (.q 2 (.q 3 (.q 4 (.q 5 (.q 6 (.q 7 (.q 8 (.q 9 (.q 10 .nil))))))))))) [] rfl (by kernel_rfl) Sel.nil ?_
 refine AR ?_;refine Ac7 ?_;refine AU ?_;refine Ac8 ?_;refine C1 ?_;refine AQ ?_;refine Adw ?_;refine Aam ?_;refine BM ?_;refine AH ?_;refine Aac ?_;refine Abk ?_
 refine BC [0,3,40,41] (0:Nat) (fun k=>k ≤ hs.length) (fun k=>[(42,int k),(5,int (Q - Step.stored (hs.take k) nn t))]) (fun _=>[]) (fun k=>hs.length - k) pickZ (by omega) ?_ selZ ?_
 ·rw [List.take_zero]
  simp only [Step.stored,Int.sub_zero];exact covZ
 intro k hk
 by_cases hlt:k < hs.length
 ·have hx:=List.getElem?_eq_getElem hlt
  have hh:=(hok _ (List.getElem_mem hlt)).2.2.1
  obtain ⟨b7,o7,rfl,hrd,g0,g1,g2,g3,_⟩:=hdRow5 hr hx
  have hm:=stored_snoc nn t hs[k] (hs.take k)
  rw [← List.take_succ_eq_append_getElem hlt] at hm
  have hb:=stored_bd (n:=nn) (t:=t) (l:=hs.take k) (fun h hm=>hok h (List.mem_of_mem_take hm))
  rw [List.length_take,Nat.min_eq_left hk] at hb
  generalize hs[k] = x at hrd g0 g1 g2 g3 hm hh
  generalize Step.stored (hs.take k) nn t = s at hm hb
  by_cases c1:x.n = nn
  ·by_cases c2:x.a ≤ t
   ·by_cases c3:t < x.b
    ·rw [if_pos ⟨c1,c2,c3⟩] at hm
     refine Ab7 ?_;refine AW ?_; rintro _ _ ⟨b,rfl,rfl⟩;refine AV ?_; rintro _ _ ⟨rfl,rfl⟩;refine AE ?_;refine Ace ?_;refine CK ?_;refine Aa9 ?_;refine CL ?_;refine Ac5 ?_;refine A9 ?_;refine AL ?_;refine Add ?_;refine Aae ?_;refine CZ ?_;refine Aab ?_;refine Aa4 ?_
     refine AZ (k + 1) (by omega) (by omega) ?_ selZ
     rw [hm,show Q - (s + x.s) = Q - s - x.s by omega]
     exact covZ
    ·rw [if_neg (by omega),Int.add_zero] at hm
     refine Ab7 ?_;refine AW ?_; rintro _ _ ⟨b,rfl,rfl⟩;refine AV ?_; rintro _ _ ⟨rfl,rfl⟩;refine AE ?_;refine Ace ?_;refine CK ?_;refine Aa9 ?_;refine CL ?_;refine Ac5 ?_;refine AY ?_;refine AL ?_;refine Aal ?_;refine Aa4 ?_
     refine AZ (k + 1) (by omega) (by omega) ?_ selZ
     rw [hm];exact covZ
   ·rw [if_neg (by omega),Int.add_zero] at hm
    refine Ab7 ?_;refine AW ?_; rintro _ _ ⟨b,rfl,rfl⟩;refine AV ?_; rintro _ _ ⟨rfl,rfl⟩;refine AE ?_;refine Ace ?_;refine CK ?_;refine Aa9 ?_;refine CJ ?_;refine AL ?_;refine Ab0 ?_;refine Abg ?_;refine Aa4 ?_
    refine AZ (k + 1) (by omega) (by omega) ?_ selZ
    rw [hm];exact covZ
  ·rw [if_neg (by omega),Int.add_zero] at hm
   refine Ab7 ?_;refine AW ?_; rintro _ _ ⟨b,rfl,rfl⟩;refine AV ?_; rintro _ _ ⟨rfl,rfl⟩;refine AE ?_;refine Ace ?_;refine B5 ?_;refine Ab0 ?_;refine AJ ?_;refine Ab0 ?_;refine Abg ?_;refine Aa4 ?_
   refine AZ (k + 1) (by omega) (by omega) ?_ selZ
   rw [hm];exact covZ
 ·have hke:k = hs.length:=by omega
  subst hke;rw [List.take_length];refine Abt ?_;refine Ab4 ?_;exact AI (res1 rfl rfl) rsubZ selZ ⟨rfl,rfl⟩
theorem ticks_spec (bw:Nat) (i:Nat) :
  Eng.Spec Tryz.prog (fv 104) [.pointer (some ⟨bw,0,none⟩),int (i:Int)] [] [] (fun r H'=>∃ c1 c2,r = .func (.func 135) #[] #[.pointer (some ⟨c1,0,none⟩),.pointer (some ⟨c2,0,none⟩)] ∧ H' = [sng c2 (.cells #[int (i:Int)] 3 (0,0)),sng c1 (.cells #[.pointer (some ⟨bw,0,none⟩)] 125 (0,0))]):=by
 refine spec_in (cap:=[]) Tryz.func104 rfl rfl Tryz.ntmps104 rfl envZ (fun N β=>?_)
 refine Aa ?_;refine BI (CX rfl rfl) rfl rfl rfl ?_;rintro _ _ ⟨c1,rfl,rfl⟩;refine BI (CX rfl rfl) rfl rfl rfl ?_;rintro _ _ ⟨c2,rfl,rfl⟩;refine Aab ?_;refine Aa ?_;refine BX ?_;refine Aab ?_;exact AI (res1 rfl rfl) rsubZ selZ ⟨c1,c2,rfl,rfl⟩
set_option maxHeartbeats 32000000 in
theorem ticks_iter {ρ τ σ υ:PH} {pq pc pb ph:Option Addr} {kq kc kb kh:Nat} {qs:List Int} {cs:List Ct} {bs:List Bk} {hs:List Hd} (hT:TbAt ρ τ σ υ pq pc pb ph kq kc kb kh qs cs bs hs) (bw bm c1 c2:Nat) (u:Value) (d:Dm) (h:VOk qs cs bs hs d) (h0:chkB qs cs bs = 0) (i:Nat) (x:Ct) (hx:cs[i]? = some x) :
  Iter Tryz.prog (.func (.func 135) #[] #[.pointer (some ⟨c1,0,none⟩),.pointer (some ⟨c2,0,none⟩)]) [sng c1 (.cells #[.pointer (some ⟨bw,0,none⟩)] 125 (0,0)),sng c2 (.cells #[int (i:Int)] 3 (0,0)),sng bw (.cells #[.slice pq qs.length kq,.slice pc cs.length kc,.slice pb bs.length kb,.slice ph hs.length kh,int d.s,int d.d,int d.v,int d.r,int d.e,u,.map (some bm)] 134 (0,0)),ρ,τ,σ,υ] ((tickL d.r d.e x.g (freeC cs bs i)).map Eng.encI):=by
 intro y S Own Inv Stop Ry hy hyl σ0 hI0
 obtain ⟨yl,rfl⟩:=hyl
 have hi:=(List.getElem?_eq_some_iff.1 hx).1
 have hdm:=h.dm
 unfold okDm at hdm
 have hct:=h.ct x (List.mem_of_getElem? hx)
 have hfree:=bkFree_spec hT i x hx h0
 have hfl:(freeC cs bs i).length ≤ 600:=by
  have hf:freeC cs bs i = gapsP x.e x.s (busyL bs i):=by unfold freeC; rw [hx]
  have h1:=gapsP_len x.e (busyL bs i) x.s
  have h2:=busyL_len bs i
  have h3:=h.nb
  rw [hf];omega
 have hfin:=(h.free hx).2.1
 obtain ⟨bq,oq,e4,hrd⟩:=ctRow hT.rc hx
 have w0:rdc (sng bw (.cells #[.slice pq qs.length kq,.slice pc cs.length kc,.slice pb bs.length kb,.slice ph hs.length kh,int d.s,int d.d,int d.v,int d.r,int d.e,u,.map (some bm)] 134 (0,0))) bw 0 = some (.slice pq qs.length kq):=by rw [rdc_sng]; rfl
 have w1:rdc (sng bw (.cells #[.slice pq qs.length kq,.slice pc cs.length kc,.slice pb bs.length kb,.slice ph hs.length kh,int d.s,int d.d,int d.v,int d.r,int d.e,u,.map (some bm)] 134 (0,0))) bw 1 = some (.slice pc cs.length kc):=by rw [rdc_sng]; rfl
 have w2:rdc (sng bw (.cells #[.slice pq qs.length kq,.slice pc cs.length kc,.slice pb bs.length kb,.slice ph hs.length kh,int d.s,int d.d,int d.v,int d.r,int d.e,u,.map (some bm)] 134 (0,0))) bw 2 = some (.slice pb bs.length kb):=by rw [rdc_sng]; rfl
 have w3:rdc (sng bw (.cells #[.slice pq qs.length kq,.slice pc cs.length kc,.slice pb bs.length kb,.slice ph hs.length kh,int d.s,int d.d,int d.v,int d.r,int d.e,u,.map (some bm)] 134 (0,0))) bw 3 = some (.slice ph hs.length kh):=by rw [rdc_sng]; rfl
 have w4:rdc (sng bw (.cells #[.slice pq qs.length kq,.slice pc cs.length kc,.slice pb bs.length kb,.slice ph hs.length kh,int d.s,int d.d,int d.v,int d.r,int d.e,u,.map (some bm)] 134 (0,0))) bw 4 = some (int d.s):=by rw [rdc_sng]; rfl
 have w5:rdc (sng bw (.cells #[.slice pq qs.length kq,.slice pc cs.length kc,.slice pb bs.length kb,.slice ph hs.length kh,int d.s,int d.d,int d.v,int d.r,int d.e,u,.map (some bm)] 134 (0,0))) bw 5 = some (int d.d):=by rw [rdc_sng]; rfl
 have w6:rdc (sng bw (.cells #[.slice pq qs.length kq,.slice pc cs.length kc,.slice pb bs.length kb,.slice ph hs.length kh,int d.s,int d.d,int d.v,int d.r,int d.e,u,.map (some bm)] 134 (0,0))) bw 6 = some (int d.v):=by rw [rdc_sng]; rfl
 have w7:rdc (sng bw (.cells #[.slice pq qs.length kq,.slice pc cs.length kc,.slice pb bs.length kb,.slice ph hs.length kh,int d.s,int d.d,int d.v,int d.r,int d.e,u,.map (some bm)] 134 (0,0))) bw 7 = some (int d.r):=by rw [rdc_sng]; rfl
 have w8:rdc (sng bw (.cells #[.slice pq qs.length kq,.slice pc cs.length kc,.slice pb bs.length kb,.slice ph hs.length kh,int d.s,int d.d,int d.v,int d.r,int d.e,u,.map (some bm)] 134 (0,0))) bw 8 = some (int d.e):=by rw [rdc_sng]; rfl
 have w9:rdc (sng bw (.cells #[.slice pq qs.length kq,.slice pc cs.length kc,.slice pb bs.length kb,.slice ph hs.length kh,int d.s,int d.d,int d.v,int d.r,int d.e,u,.map (some bm)] 134 (0,0))) bw 9 = some (u):=by rw [rdc_sng]; rfl
 have w10:rdc (sng bw (.cells #[.slice pq qs.length kq,.slice pc cs.length kc,.slice pb bs.length kb,.slice ph hs.length kh,int d.s,int d.d,int d.v,int d.r,int d.e,u,.map (some bm)] 134 (0,0))) bw 10 = some (.map (some bm)):=by rw [rdc_sng]; rfl
 have wp:RdP (sng bw (.cells #[.slice pq qs.length kq,.slice pc cs.length kc,.slice pb bs.length kb,.slice ph hs.length kh,int d.s,int d.d,int d.v,int d.r,int d.e,u,.map (some bm)] 134 (0,0))) bw 0 [.slice pq qs.length kq,.slice pc cs.length kc]:=rdP_sng (xs:=[.slice pq qs.length kq,.slice pc cs.length kc,.slice pb bs.length kb,.slice ph hs.length kh,int d.s,int d.d,int d.v,int d.r,int d.e,u,.map (some bm)]) rfl
 have v1:rdc (sng c1 (.cells #[.pointer (some ⟨bw,0,none⟩)] 125 (0,0))) c1 0 = some (.pointer (some ⟨bw,0,none⟩)):=by rw [rdc_sng]; rfl
 have v2:rdc (sng c2 (.cells #[int (i:Int)] 3 (0,0))) c2 0 = some (int (i:Int)):=by rw [rdc_sng]; rfl
 subst e4;simp only [List.cons_append,List.nil_append]
 refine spec_in (cap:=[.pointer (some ⟨c1,0,none⟩),.pointer (some ⟨c2,0,none⟩)]) Tryz.func135 rfl rfl Tryz.ntmps135 rfl envZ (fun N β=>?_)
 refine AC ?_
 refine A5 (.q 0 (.q 1 (.q 2 (.q 3 (.q 4 (.q 5 (.q 6 (.q 7 (.q 8 (.l 9 .e (.l 10 .b .nil))))))))))) [] rfl (by kernel_rfl) Sel.nil ?_
 refine AQ ?_;refine Ac7 ?_;refine AU ?_;refine Aaq ?_;refine AQ ?_;refine BG ?_;refine BR ?_;refine DF ?_; rintro _ _ ⟨b,rfl,rfl⟩
 focus ((refine CO ?_; refine' FV rfl _ rfl rfl _ _; rotate_left; (focus (apply DA; exact rfl; exact rfl; exact takeZ; exact (by (repeat (first | exact (fun v hv=>absurd hv List.not_mem_nil) | (refine List.forall_mem_cons.2 ⟨?_,?_⟩; (focus (first | exact rfl | assumption))))); first | done | fail); exact rfl; exact rfl)); (focus (rintro _ _ ⟨_,rfl⟩ w hw; exact hw.sel Sel.nil)); rintro _ _ ⟨rfl,rfl⟩))
 refine A6 ?_
 revert b; intro b4
 refine AC ?_;refine AS (ρ:=sng b4 _) takeZ ?_
 have g5:rdc (sng b4 (.cells #[int x.f,int x.t,int x.s,int x.e,int x.r,int x.g,int x.l] 57 (0,0))) b4 5 = some (int x.g):=by rw [rdc_sng]; rfl
 refine A5 (.q 0 (.q 1 (.q 2 (.q 3 (.q 4 (.q 5 (.q 6 (.q 7 (.q 8 (.q 9 (.q 10 (.l 11 .e (.q 12 (.q 13 (.q 14 (.q 15 (.q 16 .nil))))))))))))))))) [] rfl (by kernel_rfl) Sel.nil ?_
 refine AQ ?_;refine Ac7 ?_;refine AU ?_;refine BR ?_;refine AQ ?_;refine Ac7 ?_;refine Aaq ?_;refine AQ ?_;refine CO (DL rfl hfree rfl rfl rdZ rfl rfl ?_);rintro _ _ ⟨χ,⟨uf,rfl,hO⟩,rfl⟩
 have hSf:=hO.at
 obtain ⟨pf,kf,rfl⟩:=hO.form
 obtain ⟨_,_,ef,hrf⟩:=SlE.val (enc:=encS) encS_len (show SlE encS 2 χ _ (freeC cs bs i) from hSf)
 simp only [Value.slice.injEq] at ef
 obtain ⟨rfl,_,rfl⟩:=ef
 refine AR ?_;refine DN ?_;refine DN ?_;refine BV ?_;refine Adw ?_;refine Aad ?_;refine Abk ?_;refine AS (ρ:=χ) takeZ ?_
 generalize freeC cs bs i = F at hy hfl hfin hrf hO hSf
 refine BC [0,1,2,4,34,35] (X:=Nat × S) (0,σ0) (fun z=>z.1 ≤ F.length ∧ Inv (tickL d.r d.e x.g (F.take z.1)).length z.2) (fun z=>[(36,int z.1)]) (fun z=>Own z.2) (fun z=>F.length - z.1) pickZ ⟨by dsimp only; omega,hI0⟩ covZ Sel.refl ?_
 rintro ⟨k,σ'⟩ ⟨hk,hI⟩
 dsimp only at hk hI ⊢
 by_cases hlt:k < F.length
 rotate_left
 ·have hke:k = F.length:=by omega
  subst hke;rw [List.take_length] at hI;refine Abt ?_
  refine CA (res0 rfl) (fun _ h=>List.mem_cons_of_mem _ (List.mem_cons_of_mem _ h)) Sel.refl ⟨σ',rfl,.inl ?_⟩
  rw [List.length_map];exact hI
 have hz:=List.getElem?_eq_getElem hlt
 have hlen:=tickL_len d.r d.e x.g F hz
 have hat:=fun t h1 h2=>tickL_at d.r d.e x.g F hz (t:=t) h1 h2
 have hin:=hfin _ (List.getElem_mem hlt)
 obtain ⟨b6,o6,rfl,hRd6,y0,y1⟩:=spRow hrf hz
 generalize F[k] = z at hz hlen hat hin hRd6 y0 y1
 refine Ab7 ?_;refine AW ?_; rintro _ _ ⟨b,rfl,rfl⟩;refine AV ?_; rintro _ _ ⟨rfl,rfl⟩;refine Aak ?_
 revert b; intro b8
 refine A5 (.q 0 (.q 1 (.q 2 (.q 3 (.q 4 (.q 5 (.q 6 (.q 7 (.q 8 .nil))))))))) [] rfl (by kernel_rfl) Sel.nil ?_
 refine Aaq ?_;refine AQ ?_;refine Ac7 ?_;refine Aca ?_;refine zd_max ?_;refine Adw ?_;refine AP ?_
 refine BC [0,1,2,4,8,34,35,36] (X:=Int × S) (max z.1 d.r,σ') (fun w=>max z.1 d.r ≤ w.1 ∧ (w.1 ≤ min z.2 (d.e - x.g) ∨ w.1 = max z.1 d.r) ∧ Inv ((tickL d.r d.e x.g (F.take k)).length + (w.1 - max z.1 d.r).toNat) w.2) (fun w=>[(9,int w.1)]) (fun w=>sng b8 (.cells #[int z.1,int z.2] 93 (0,0)) :: Own w.2) (fun w=>(1099511627776 - w.1).toNat) pickZ ⟨by dsimp only; omega,by dsimp only; omega,by dsimp only; rw [show (max z.1 d.r - max z.1 d.r).toNat = 0 by omega,Nat.add_zero]; exact hI⟩ covZ Sel.refl ?_
 rintro ⟨t,σ2⟩ ⟨ht1,ht2,hI2⟩
 dsimp only at ht1 ht2 hI2 ⊢
 by_cases hz2:t < z.2
 ·by_cases hg2:t + 1 + x.g ≤ d.e
  ·have hya:=hy _ σ2 (Eng.encI t) (by rw [List.getElem?_map,hat t ht1 (by omega)]; rfl) hI2
   refine AC ?_;refine AC ?_
   refine A5 (.q 0 (.q 1 (.q 2 (.q 3 (.q 4 (.q 5 (.q 6 (.q 7 (.q 8 (.q 9 (.q 10 (.q 11 (.q 12 (.q 13 (.q 14 (.q 15 (.q 16 .nil))))))))))))))))) [] rfl (by kernel_rfl) Sel.nil ?_
   refine Acn ?_;refine E7 ?_;refine Aa6 ?_;refine CY ?_;refine Aaq ?_;refine CY ?_;refine AQ ?_;refine Ac7 ?_;refine Aca ?_;refine GU ?_;refine BW ?_;refine Abs ?_;refine Aav ?_;refine Abn ?_
   refine BF hya rfl rfl (Takes.skip Takes.all) (fun τ hτ=>.inl (by simp [hτ])) rfl rfl ?_
   rintro _ H' ⟨σ3,rfl,⟨rfl,hI3⟩ | ⟨rfl,hSt⟩⟩
   ·refine CF (H':=_ :: Own σ3) (List.perm_append_comm (l₂:=[_])) ?_
    refine Acc ?_;refine Ach ?_;refine CS ?_;refine Aab ?_
    refine AZ (t + 1,σ3) ⟨by dsimp only; omega,by dsimp only; omega,?_⟩ (by dsimp only; omega) covZ Sel.refl
    dsimp only
    rw [show (t + 1 - max z.1 d.r).toNat = (t - max z.1 d.r).toNat + 1 by omega]
    exact hI3
   ·refine BD ?_
    refine Aag ?_
    exact AI (res0 rfl) (fun _ h=>List.mem_cons_of_mem _ (List.mem_cons_of_mem _ h)) Sel.left ⟨σ3,rfl,.inr hSt⟩
  ·refine AC ?_
   refine AC ?_
   refine A5 (.q 0 (.q 1 (.q 2 (.q 3 (.q 4 (.q 5 (.q 6 (.q 7 (.q 8 (.q 9 (.q 10 (.q 11 (.q 12 (.q 13 (.q 14 (.q 15 (.q 16 .nil))))))))))))))))) [] rfl (by kernel_rfl) Sel.nil ?_
   refine Acn ?_;refine E7 ?_;refine Aa6 ?_;refine CY ?_;refine Aaq ?_;refine CY ?_;refine AQ ?_;refine Ac7 ?_;refine Aca ?_;refine D0 ?_;refine BW ?_;refine A6 ?_;refine Aas ?_;refine Aa4 ?_
   refine AZ (k + 1,σ2) ⟨by dsimp only; omega,?_⟩ (by dsimp only; omega) covZ (Sel.skip Sel.refl)
   dsimp only
   rw [hlen,show (min z.2 (d.e - x.g) - max z.1 d.r).toNat = (t - max z.1 d.r).toNat by omega]
   exact hI2
 ·refine AC ?_
  refine AC ?_
  refine A5 (.q 0 (.q 1 (.q 2 (.q 3 (.q 4 (.q 5 (.q 6 (.q 7 (.q 8 (.q 9 (.q 10 (.q 11 (.q 12 (.q 13 (.q 14 (.q 15 (.q 16 .nil))))))))))))))))) [] rfl (by kernel_rfl) Sel.nil ?_
  refine Acn ?_;refine DE ?_;refine Ad8 ?_;refine Aah ?_;refine A0 rfl rfl rfl rfl rfl ?_;refine BN ?_;refine A6 ?_;refine Aas ?_;refine Aa4 ?_
  refine AZ (k + 1,σ2) ⟨by dsimp only; omega,?_⟩ (by dsimp only; omega) covZ (Sel.skip Sel.refl)
  dsimp only
  rw [hlen,show (min z.2 (d.e - x.g) - max z.1 d.r).toNat = (t - max z.1 d.r).toNat by omega]
  exact hI2
end Go.Proofs.YtphehihohghfoaaGreat
/- Places and arcs, one after the other; what a map holds; the end of a function behind loops over functions. No conditions. -/
namespace Go.Eng
variable {C:Cx} {R H:List PH} {L:Env} {dst:Option Tmp} {ty:TypeId} {pos:String} {aft:Array Edge} {g:Option (Nat × Bool)}
theorem CN {x y:Operand} {t kt et:TypeId} {b:Nat} (n:Nat) (k:List Int) {l:List (List Int × Value)} {z v:Value} (h:evalE L x = some (.map (some b))) (hk:evalE L y = some (aggI k)) (ht:C.P.underlying t = some (.map kt et)) (hkt:KeyS C.P kt n) (hn:k.length = n) (hl:∀ x ∈ l,x.1.length = n) (hz:zeroP C.P et = some z) (hv:mgetS k l = some v) (hm:MapAtS C.N R H b l) :
    Quiet C R H L ⟨dst,.lookup t x y false,ty,pos,aft,g⟩ v:=by
  have:=FQ (C:=C) (R:=R) (H:=H) (L:=L) (dst:=dst) (ty:=ty) (pos:=pos) (aft:=aft) (g:=g) n k h hk ht hkt hn hl hz hm
  rwa [hv,Option.getD_some] at this
theorem F8 {P:Program} {fn:Func} {N:Bs} {M:Nat} {R R0 H H1 H':List PH} {L:Env} {post:Value → List PH → Prop} {v:Value} {ms:List Nat} {μ:PH} (m:MkIn μ ms) (t:Take μ H H1)
    (hv:∀ a w,Frm M L a → Sat N R H1 w → (results fn a.tmps).run P w = .ok v w) (hR:∀ ρ ∈ R0,ρ ∈ R) (hH:Sel H1 H') (hp:post v H') :
    JK ⟨none,P,FnQ P fn N R0 post,N,M⟩ (ms.map mk) R H L []:=by
  refine ⟨fun a w hf hd hs=>?_⟩
  show MarksQ _ _ _ _ a.defers w
  rw [hd]
  exact m.run (hs.take t) (fun w' hs'=>⟨v,hv a w' hf hs',H',hp,(hs'.rsub hR).sel hH⟩)
end Go.Eng
namespace Go.Step
section
variable {qs:List Int} {cs:List Ct} {bs:List Bk} {hs:List Hd} {d:Dm}
theorem waitN_at {n:Int} {t:Int} (h1:d.r ≤ t) (h2:t < d.e):(waitN qs hs d n)[(t - d.r).toNat]? = some ⟨⟨vtx d n t,vtx d n (t + 1),roomT qs hs d n t⟩,-1,t⟩:=by
  unfold waitN
  rw [List.getElem?_map,rngI_get (by omega),show d.r + ((t - d.r).toNat:Int) = t by omega]
  rfl
theorem waitA_at {n:Nat} {t:Int} (h1:d.r ≤ t) (h2:t < d.e):∀ {m:Nat},n < m → (waitA qs hs d m)[n * (d.e - d.r).toNat + (t - d.r).toNat]? = some ⟨⟨vtx d n t,vtx d n (t + 1),roomT qs hs d n t⟩,-1,t⟩
  | 0,h=>by omega
  | m + 1,h=>by
    have hl:=waitA_len qs hs d m
    unfold waitA
    by_cases hn:n < m
    · have h3:(n + 1) * (d.e - d.r).toNat ≤ m * (d.e - d.r).toNat:=Nat.mul_le_mul_right _ hn
      rw [Nat.add_mul,Nat.one_mul] at h3
      rw [List.getElem?_append_left (by omega)]
      exact waitA_at h1 h2 hn
    · obtain rfl:n = m:=by omega
      rw [List.getElem?_append_right (by omega),hl,Nat.add_sub_cancel_left]
      exact waitN_at h1 h2
theorem conA_pre (cs:List Ct) (bs:List Bk) (d:Dm) (i:Nat):∀ m:Nat,i < m → ∃ rest,conA cs bs d m = conA cs bs d i ++ (conN cs bs d i ++ rest)
  | 0,h=>by omega
  | m + 1,h=>by
    by_cases hi:i < m
    · obtain ⟨rest,e⟩:=conA_pre cs bs d i m hi
      refine ⟨rest ++ conN cs bs d m,?_⟩
      show conA cs bs d m ++ _ = _
      rw [e]
      simp
    · obtain rfl:i = m:=by omega
      exact ⟨[],by show conA cs bs d i ++ _ = _; simp⟩
theorem arcs_wait {n:Nat} {t:Int} (hn:n < qs.length) (h1:d.r ≤ t) (h2:t < d.e):(arcsE qs cs bs hs d)[n * (d.e - d.r).toNat + (t - d.r).toNat]? = some ⟨⟨vtx d n t,vtx d n (t + 1),roomT qs hs d n t⟩,-1,t⟩:=by
  have hl:=waitA_len qs hs d qs.length
  have h3:(n + 1) * (d.e - d.r).toNat ≤ qs.length * (d.e - d.r).toNat:=Nat.mul_le_mul_right _ hn
  rw [Nat.add_mul,Nat.one_mul] at h3;unfold arcsE
  rw [List.getElem?_append_left (by omega)]
  exact waitA_at h1 h2 hn
theorem arcs_con {i:Nat} {c:Ct} (hc:cs[i]? = some c) {j:Nat} {t:Int} (ht:(tickL d.r d.e c.g (freeC cs bs i))[j]? = some t):(arcsE qs cs bs hs d)[(waitA qs hs d qs.length).length + (conA cs bs d i).length + j]? = some (conE d c i t):=by
  obtain ⟨rest,e⟩:=conA_pre cs bs d i cs.length (List.getElem?_eq_some_iff.1 hc).1
  have hN:conN cs bs d i = (tickL d.r d.e c.g (freeC cs bs i)).map (conE d c i):=by unfold conN; rw [hc]
  unfold arcsE
  rw [e,List.getElem?_append_right (by omega),show (waitA qs hs d qs.length).length + (conA cs bs d i).length + j - (waitA qs hs d qs.length).length = (conA cs bs d i).length + j by omega,List.getElem?_append_right (by omega),Nat.add_sub_cancel_left,List.getElem?_append_left (by
    rw [hN,List.length_map]
    exact (List.getElem?_eq_some_iff.1 ht).1),hN,List.getElem?_map,ht]
  rfl
theorem conA_next (cs:List Ct) (bs:List Bk) (d:Dm) {i:Nat} {c:Ct} (hc:cs[i]? = some c):(conA cs bs d (i + 1)).length = (conA cs bs d i).length + (tickL d.r d.e c.g (freeC cs bs i)).length:=by
  show (conA cs bs d i ++ conN cs bs d i).length = _
  unfold conN;rw [hc,List.length_append,List.length_map]
theorem place_of (h:d.r ≤ d.e) {k N:Nat} (hk:(k:Int) < N * wd d):∃ (n:Nat) (t:Int),n < N ∧ d.r ≤ t ∧ t ≤ d.e ∧ (k:Int) = vtx d n t ∧ k = n * (wd d).toNat + (t - d.r).toNat:=by
  obtain ⟨⟨a1,a2⟩,⟨b1,b2⟩,c⟩:=vtx_of (d:=d) (v:=(k:Int)) (N:=N) (by unfold wd; omega) (by omega) hk
  obtain ⟨n,hn⟩:=Int.eq_ofNat_of_zero_le a1
  have hw:(((wd d).toNat:Nat):Int) = wd d:=by unfold wd; omega
  rw [hn] at c
  generalize (k:Int) % wd d = m at b1 b2 c
  refine ⟨n,d.r + m,by omega,b1,b2,c.symm,?_⟩
  have e:((n * (wd d).toNat + (d.r + m - d.r).toNat:Nat):Int) = (k:Int):=by
    rw [Int.natCast_add,Int.natCast_mul,hw,← c];unfold vtx;omega
  omega
end
end Go.Step
/- Where the ways of a test meet behind it: the test's region and the test. No conditions. -/
namespace Go.Eng
variable {C:Cx} {D:List Deferred} {R H:List PH} {L:Env} {K:List It}
end Go.Eng
/- The arcs, one after the other. -/
namespace Go.Proofs.YtphehihohghfoaaGreat
open Go.Eng Go.Step
set_option maxRecDepth 100000
set_option maxHeartbeats 4000000

def encEA (x:EA):List Value:=[.agg #[int x.a.f,int x.a.t,int x.a.c,int x.c,int x.t]]
theorem arcs_spec (bw:Nat) :
  Eng.Spec Tryz.prog (fv 72) [.pointer (some ⟨bw,0,none⟩)] [] [] (fun r H'=>∃ c1,r = .func (.func 102) #[] #[.pointer (some ⟨c1,0,none⟩)] ∧ H' = [sng c1 (.cells #[.pointer (some ⟨bw,0,none⟩)] 125 (0,0))]):=by
 refine spec_in (cap:=[]) Tryz.func72 rfl rfl Tryz.ntmps72 rfl envZ (fun N β=>?_)
 refine Aa ?_;refine BI (CX rfl rfl) rfl rfl rfl ?_;rintro _ _ ⟨c1,rfl,rfl⟩;refine Aab ?_;refine Aa ?_;refine BX ?_;refine Aab ?_;exact AI (res1 rfl rfl) rsubZ selZ ⟨c1,rfl,rfl⟩
theorem numAt_get {d:Dm} {N:Nat} {M:List (List Int × Value)} (h:NumAt d N d.r M) {n t:Int} (h0:0 ≤ n) (hn:n < N) (h1:d.r ≤ t) (h2:t ≤ d.e):mgetS [n,t] M = some (int (vtx d n t)):=by
 rw [h.2,if_pos (by omega)]
set_option maxHeartbeats 64000000 in
theorem arcs_iter {ρ τ σ υ:PH} {pq pc pb ph:Option Addr} {kq kc kb kh:Nat} {qs:List Int} {cs:List Ct} {bs:List Bk} {hs:List Hd} (hT:TbAt ρ τ σ υ pq pc pb ph kq kc kb kh qs cs bs hs) (bw bm c1 kp:Nat) (pl:Option Addr) (χ:PH) (M:List (List Int × Value)) (d:Dm) (h:VOk qs cs bs hs d) (h0:chkB qs cs bs = 0) (hpl:SlE encS 2 χ (.slice pl (placesA d qs.length).length kp) (placesA d qs.length)) (hM:NumAt d qs.length d.r M) :
  Iter Tryz.prog (.func (.func 102) #[] #[.pointer (some ⟨c1,0,none⟩)]) [sng c1 (.cells #[.pointer (some ⟨bw,0,none⟩)] 125 (0,0)),sng bw (.cells #[.slice pq qs.length kq,.slice pc cs.length kc,.slice pb bs.length kb,.slice ph hs.length kh,int d.s,int d.d,int d.v,int d.r,int d.e,.slice pl (placesA d qs.length).length kp,.map (some bm)] 134 (0,0)),sng bm (mapS M),χ,ρ,τ,σ,υ] ((arcsE qs cs bs hs d).map encEA):=by
 intro y S Own Inv Stop Ry hy hyl σ0 hI0
 obtain ⟨yl,rfl⟩:=hyl
 have hdm:=h.dm
 unfold okDm at hdm
 have hnq:=h.nq
 have hnc:=h.nc
 have hMl:=hM.1
 have hW:2 ≤ (wd d).toNat ∧ (wd d).toNat = (d.e - d.r).toNat + 1:=by unfold wd; omega
 have hplen:=placesA_len (d:=d) (by omega) qs.length
 have hpb:(placesA d qs.length).length ≤ 1616:=by
  have:=h.vs
  unfold vsN at this;omega
 obtain ⟨_,_,ep,hrp⟩:=hpl.val encS_len
 simp only [Value.slice.injEq] at ep
 obtain ⟨rfl,_,rfl⟩:=ep
 have w0:rdc (sng bw (.cells #[.slice pq qs.length kq,.slice pc cs.length kc,.slice pb bs.length kb,.slice ph hs.length kh,int d.s,int d.d,int d.v,int d.r,int d.e,.slice pl (placesA d qs.length).length kp,.map (some bm)] 134 (0,0))) bw 0 = some (.slice pq qs.length kq):=by rw [rdc_sng]; rfl
 have w1:rdc (sng bw (.cells #[.slice pq qs.length kq,.slice pc cs.length kc,.slice pb bs.length kb,.slice ph hs.length kh,int d.s,int d.d,int d.v,int d.r,int d.e,.slice pl (placesA d qs.length).length kp,.map (some bm)] 134 (0,0))) bw 1 = some (.slice pc cs.length kc):=by rw [rdc_sng]; rfl
 have w2:rdc (sng bw (.cells #[.slice pq qs.length kq,.slice pc cs.length kc,.slice pb bs.length kb,.slice ph hs.length kh,int d.s,int d.d,int d.v,int d.r,int d.e,.slice pl (placesA d qs.length).length kp,.map (some bm)] 134 (0,0))) bw 2 = some (.slice pb bs.length kb):=by rw [rdc_sng]; rfl
 have w3:rdc (sng bw (.cells #[.slice pq qs.length kq,.slice pc cs.length kc,.slice pb bs.length kb,.slice ph hs.length kh,int d.s,int d.d,int d.v,int d.r,int d.e,.slice pl (placesA d qs.length).length kp,.map (some bm)] 134 (0,0))) bw 3 = some (.slice ph hs.length kh):=by rw [rdc_sng]; rfl
 have w4:rdc (sng bw (.cells #[.slice pq qs.length kq,.slice pc cs.length kc,.slice pb bs.length kb,.slice ph hs.length kh,int d.s,int d.d,int d.v,int d.r,int d.e,.slice pl (placesA d qs.length).length kp,.map (some bm)] 134 (0,0))) bw 4 = some (int d.s):=by rw [rdc_sng]; rfl
 have w5:rdc (sng bw (.cells #[.slice pq qs.length kq,.slice pc cs.length kc,.slice pb bs.length kb,.slice ph hs.length kh,int d.s,int d.d,int d.v,int d.r,int d.e,.slice pl (placesA d qs.length).length kp,.map (some bm)] 134 (0,0))) bw 5 = some (int d.d):=by rw [rdc_sng]; rfl
 have w6:rdc (sng bw (.cells #[.slice pq qs.length kq,.slice pc cs.length kc,.slice pb bs.length kb,.slice ph hs.length kh,int d.s,int d.d,int d.v,int d.r,int d.e,.slice pl (placesA d qs.length).length kp,.map (some bm)] 134 (0,0))) bw 6 = some (int d.v):=by rw [rdc_sng]; rfl
 have w7:rdc (sng bw (.cells #[.slice pq qs.length kq,.slice pc cs.length kc,.slice pb bs.length kb,.slice ph hs.length kh,int d.s,int d.d,int d.v,int d.r,int d.e,.slice pl (placesA d qs.length).length kp,.map (some bm)] 134 (0,0))) bw 7 = some (int d.r):=by rw [rdc_sng]; rfl
 have w8:rdc (sng bw (.cells #[.slice pq qs.length kq,.slice pc cs.length kc,.slice pb bs.length kb,.slice ph hs.length kh,int d.s,int d.d,int d.v,int d.r,int d.e,.slice pl (placesA d qs.length).length kp,.map (some bm)] 134 (0,0))) bw 8 = some (int d.e):=by rw [rdc_sng]; rfl
 have w9:rdc (sng bw (.cells #[.slice pq qs.length kq,.slice pc cs.length kc,.slice pb bs.length kb,.slice ph hs.length kh,int d.s,int d.d,int d.v,int d.r,int d.e,.slice pl (placesA d qs.length).length kp,.map (some bm)] 134 (0,0))) bw 9 = some (.slice pl (placesA d qs.length).length kp):=by rw [rdc_sng]; rfl
 have w10:rdc (sng bw (.cells #[.slice pq qs.length kq,.slice pc cs.length kc,.slice pb bs.length kb,.slice ph hs.length kh,int d.s,int d.d,int d.v,int d.r,int d.e,.slice pl (placesA d qs.length).length kp,.map (some bm)] 134 (0,0))) bw 10 = some (.map (some bm)):=by rw [rdc_sng]; rfl
 have wp:RdP (sng bw (.cells #[.slice pq qs.length kq,.slice pc cs.length kc,.slice pb bs.length kb,.slice ph hs.length kh,int d.s,int d.d,int d.v,int d.r,int d.e,.slice pl (placesA d qs.length).length kp,.map (some bm)] 134 (0,0))) bw 0 [.slice pq qs.length kq,.slice pc cs.length kc]:=rdP_sng (xs:=[.slice pq qs.length kq,.slice pc cs.length kc,.slice pb bs.length kb,.slice ph hs.length kh,int d.s,int d.d,int d.v,int d.r,int d.e,.slice pl (placesA d qs.length).length kp,.map (some bm)]) rfl
 have v1:rdc (sng c1 (.cells #[.pointer (some ⟨bw,0,none⟩)] 125 (0,0))) c1 0 = some (.pointer (some ⟨bw,0,none⟩)):=by rw [rdc_sng]; rfl
 simp only [List.cons_append,List.nil_append]
 refine spec_in (cap:=[.pointer (some ⟨c1,0,none⟩)]) Tryz.func102 rfl rfl Tryz.ntmps102 rfl envZ (fun N β=>?_)
 refine Aa ?_;refine BI (CX rfl rfl) rfl rfl rfl ?_;rintro _ _ ⟨b2,rfl,rfl⟩;refine AS (ρ:=sng b2 _) takeZ ?_
 have v2:rdc (sng b2 (.cells #[yv yl] 185 (0,0))) b2 0 = some (yv yl):=by rw [rdc_sng]; rfl
 refine Aak ?_;refine Abb ?_;refine Adr ?_;refine Abk ?_
 refine BC [0,1,2,13,14] (X:=Nat × S) (0,σ0) (fun z=>z.1 ≤ (placesA d qs.length).length ∧ Inv (z.1 - z.1 / (wd d).toNat) z.2) (fun z=>[(15,int z.1)]) (fun z=>Own z.2) (fun z=>(placesA d qs.length).length - z.1) pickZ ⟨by dsimp only; omega,by dsimp only; rw [Nat.zero_sub]; exact hI0⟩ covZ Sel.refl ?_
 rintro ⟨k,σ'⟩ ⟨hk,hI⟩
 dsimp only at hk hI ⊢
 by_cases hlt:k < (placesA d qs.length).length
 ·obtain ⟨n,t,hn,ht1,ht2,hkv,hkn⟩:=place_of (d:=d) (by omega) (k:=k) (N:=qs.length) (by omega)
  have hx:=placesA_get (d:=d) (by omega) ht1 ht2 hn
  rw [← hkv,Int.toNat_natCast] at hx
  have hdiv:k / (wd d).toNat = n:=by
   rw [hkn,Nat.mul_comm,Nat.mul_add_div (by omega),Nat.div_eq_of_lt (by omega),Nat.add_zero]
  obtain ⟨b6,o6,rfl,hRd6,y0,y1⟩:=spRow hrp hx
  have hl1:=numAt_get hM (n:=n) (t:=t) (by omega) (by omega) ht1 ht2
  have hroom:=exRoom_spec hT bw bm (.slice (some ⟨b6,o6,none⟩) (placesA d qs.length).length kp) d h n t hn
  rw [hdiv] at hI
  by_cases hte:t = d.e
  ·have hnext:(k + 1) - (k + 1) / (wd d).toNat = k - n:=by
    have e:k + 1 = (n + 1) * (wd d).toNat:=by rw [Nat.add_mul,Nat.one_mul]; omega
    rw [e,Nat.mul_div_cancel _ (by omega)]
    omega
   refine Ab7 ?_;refine AW ?_; rintro _ _ ⟨b,rfl,rfl⟩;refine AV ?_; rintro _ _ ⟨rfl,rfl⟩;refine Aak ?_;refine AC ?_
   revert b; intro b4
   refine A5 (.q 0 (.q 1 (.q 2 (.q 3 (.q 4 (.q 5 (.q 6 (.q 7 .nil)))))))) [] rfl (by kernel_rfl) Sel.nil ?_
   refine Aaq ?_;refine AQ ?_;refine Ac7 ?_;refine Aca ?_;refine EK ?_;refine Abs ?_;refine A7 rfl ?_;refine AA ?_;refine Aa3 ?_
   exact AZ (k + 1,σ') ⟨by dsimp only; omega,by dsimp only; rw [hnext]; exact hI⟩ (by dsimp only; omega) covZ (Sel.skip Sel.refl)
  have hl2:=numAt_get hM (n:=n) (t:=t + 1) (by omega) (by omega) (by omega) (by omega)
  have hnm:k - n = n * (d.e - d.r).toNat + (t - d.r).toNat:=by
   rw [hkn,hW.2,Nat.mul_add,Nat.mul_one];omega
  have hnext:(k + 1) - (k + 1) / (wd d).toNat = k - n + 1:=by
   have e:(k + 1) / (wd d).toNat = n:=by
    rw [show k + 1 = (wd d).toNat * n + ((t - d.r).toNat + 1) by rw [Nat.mul_comm]; omega,Nat.mul_add_div (by omega),Nat.div_eq_of_lt (by omega),Nat.add_zero]
   have:n ≤ k:=by
    have:=Nat.le_mul_of_pos_right n (show 0 < (wd d).toNat by omega)
    omega
   rw [e];omega
  have hat:=arcs_wait (qs:=qs) (cs:=cs) (bs:=bs) (hs:=hs) hn ht1 (show t < d.e by omega)
  rw [← hnm] at hat
  have hya:=hy _ σ' (encEA ⟨⟨vtx d n t,vtx d n (t + 1),roomT qs hs d n t⟩,-1,t⟩) (by rw [List.getElem?_map,hat]; rfl) hI
  refine Ab7 ?_;refine AW ?_; rintro _ _ ⟨b,rfl,rfl⟩;refine AV ?_; rintro _ _ ⟨rfl,rfl⟩;refine Aak ?_;refine AC ?_
  revert b; intro b4
  refine A5 (.q 0 (.q 1 (.q 2 (.q 3 (.q 4 (.q 5 (.q 6 (.q 7 .nil)))))))) [] rfl (by kernel_rfl) Sel.nil ?_
  refine Aaq ?_;refine AQ ?_;refine Ac7 ?_;refine Aca ?_;refine C7 ?_;refine Aee ?_
  refine DZ (X:=Nat) [0,1,2,4,13,14,15] (fun _=>True) (fun x=>[(5,.pointer (some ⟨x,0,none⟩))]) (fun x=>sng x (.cells #[int (vtx d n t),int (vtx d n (t + 1)),int (roomT qs hs d n t)] 141 (0,0)) :: sng b4 (.cells #[int (n:Int),int t] 130 (0,0)) :: Own σ') pickZ ?_ ?_
  ·refine A5 (.q 0 (.q 1 (.q 2 (.q 3 (.q 4 (.q 5 (.q 6 (.q 7 (.q 8 (.q 9 (.q 10 (.q 11 (.q 12 (.q 13 (.q 14 (.q 15 (.q 16 (.q 17 (.q 18 (.l2 19 .e (.q 20 (.l 21 .e (.l 22 .b .nil))) 21 .e (.l 19 .e (.q 20 (.l 22 .b .nil))))))))))))))))))))))) [] rfl (by kernel_rfl) Sel.nil ?_
   repeat' (first
    | (refine AQ ?_)
    | (refine AU ?_)
    | (refine A2 ?_)
    | (refine CY ?_)
    | (refine BR ?_)
    | (refine CP ?_)
    | (focus ((refine' CT rfl _ rfl rfl rfl rfl _; rotate_left; (focus (first | exact CN 2 [(n:Int),t] rfl rfl rfl ⟨by kernel_rfl,by kernel_rfl⟩ rfl hMl rfl hl1 (mapAtS_rd memZ) | exact CN 2 [(n:Int),t + 1] rfl rfl rfl ⟨by kernel_rfl,by kernel_rfl⟩ rfl hMl rfl hl2 (mapAtS_rd memZ))))))
    | (focus ((refine CH rfl hroom rfl rfl rdZ rfl rfl ?_; rintro _ rfl)))
    | (refine A6 ?_)
    | (refine FU ?_ ?_)
    | (focus ((refine CO (CH rfl hroom rfl rfl rdZ rfl rfl ?_); rintro _ rfl)))
    | (focus ((refine CO ?_; refine' FV rfl _ rfl rfl _ _; rotate_left; (focus (apply DA; exact rfl; exact rfl; exact takeZ; exact (by (repeat (first | exact (fun v hv=>absurd hv List.not_mem_nil) | (refine List.forall_mem_cons.2 ⟨?_,?_⟩; (focus (first | exact rfl | assumption))))); first | done | fail); exact rfl; exact rfl)); (focus (rintro _ _ ⟨_,rfl⟩ w hw; exact hw.sel Sel.nil)); rintro _ _ ⟨rfl,rfl⟩)))
    | (refine DF ?_; rintro _ _ ⟨b,rfl,rfl⟩)
    | (refine FO ?_; rintro _ _ ⟨b,rfl,rfl⟩)
    | fail)
   all_goals (refine C8 _ trivial covZ Sel.refl)
  rintro b5 _;refine Abb ?_;refine AT ?_;refine Aac ?_;refine CE (DS (out:=[int (vtx d n t),int (vtx d n (t + 1)),int (roomT qs hs d n t),int (-1),int t]) rfl rfl rfl rfl rfl) rfl rfl rfl ?_
  refine BF hya rfl rfl (Takes.skip (Takes.skip Takes.all)) (fun τ hτ=>.inl (by simp [hτ])) rfl rfl ?_
  rintro _ H' ⟨σ3,rfl,⟨rfl,hI3⟩ | ⟨rfl,hSt⟩⟩
  ·refine CF (H':=_ :: _ :: Own σ3) (List.perm_append_comm (l₂:=[_,_])) ?_
   refine Acc ?_;refine Aa4 ?_
   exact AZ (k + 1,σ3) ⟨by dsimp only; omega,by dsimp only; rw [hnext]; exact hI3⟩ (by dsimp only; omega) covZ (Sel.skip (Sel.skip Sel.refl))
  ·refine BD ?_
   refine Aag ?_
   exact AI (res0 rfl) (fun _ h=>List.mem_cons_of_mem _ h) Sel.left ⟨σ3,rfl,.inr hSt⟩
 have hke:k = (placesA d qs.length).length:=by omega
 subst hke
 have hcnt:(placesA d qs.length).length - (placesA d qs.length).length / (wd d).toNat = (waitA qs hs d qs.length).length:=by
  have e:(placesA d qs.length).length = qs.length * (wd d).toNat:=by
   have hw:(((wd d).toNat:Nat):Int) = wd d:=by unfold wd; omega
   have:(((placesA d qs.length).length:Nat):Int) = ((qs.length * (wd d).toNat:Nat):Int):=by rw [hplen,Int.natCast_mul,hw]
   omega
  rw [e,Nat.mul_div_cancel _ (by omega),waitA_len,hW.2,Nat.mul_add,Nat.mul_one]
  omega
 rw [hcnt] at hI;refine BY ?_;refine Abt ?_;refine Abb ?_;refine BM ?_;refine AH ?_;refine AH ?_;refine Aac ?_;refine Abk ?_
 refine DQ [0,1,2,61,62] (X:=Nat × S × (List Nat × PH)) (0,σ',([],emp)) (fun x=>x.2.2.1.map mk) (fun x=>x.1 ≤ cs.length ∧ Inv ((waitA qs hs d qs.length).length + (conA cs bs d x.1).length) x.2.1 ∧ MkIn x.2.2.2 x.2.2.1) (fun x=>[(63,int x.1)]) (fun x=>x.2.2.2 :: Own x.2.1) (fun x=>cs.length - x.1) pickZ rfl ⟨by dsimp only; omega,hI,MkIn.nil⟩ covZ Sel.refl ?_
 rintro ⟨i,σ4,ms,μ⟩ ⟨hi,hI4,hMk⟩
 dsimp only at hi hI4 hMk ⊢
 by_cases hlt2:i < cs.length
 rotate_left
 ·have hie:i = cs.length:=by omega
  subst hie;refine Abt ?_
  refine F8 hMk Take.here (res0 rfl) (fun _ h=>List.mem_cons_of_mem _ h) Sel.refl ⟨σ4,rfl,.inl ?_⟩
  rw [List.length_map];unfold arcsE;rw [List.length_append];exact hI4
 have hc:=List.getElem?_eq_getElem hlt2
 have hct:=h.ct _ (List.getElem_mem hlt2)
 have hcn:=conA_next cs bs d hc
 obtain ⟨b8,o8,rfl,hRd8⟩:=ctRow hT.rc hc
 have hticks:=fun c1' c2'=>ticks_iter hT bw bm c1' c2' (.slice pl (placesA d qs.length).length kp) d h h0 i _ hc
 have hat:=fun (j:Nat) (t:Int) (ht:(tickL d.r d.e cs[i].g (freeC cs bs i))[j]? = some t)=>arcs_con (qs:=qs) (hs:=hs) hc ht
 have hfree:=(h.free hc).2.2
 generalize cs[i] = x at hc hct hcn hRd8 hticks hat hfree
 refine Adi ?_;refine BQ ?_; rintro _ _ ⟨b,rfl,rfl⟩;refine AW ?_; rintro _ _ ⟨b,rfl,rfl⟩;refine BB ?_; rintro _ _ ⟨rfl,rfl⟩;refine AV ?_; rintro _ _ ⟨rfl,rfl⟩;refine AE ?_;refine Abb ?_;refine AF ?_
 revert b; intro b7
 revert b; intro b6
 refine BF (ticks_spec bw i) rfl rfl Takes.nil (fun τ hτ=>by simp at hτ) rfl rfl ?_
 rintro _ _ ⟨c3,c4,rfl,rfl⟩;refine AS (ρ:=sng c3 _) takeZ ?_;refine AS (ρ:=sng c4 _) takeZ ?_;refine AS (ρ:=sng b6 _) takeZ ?_;refine AS (ρ:=sng b7 _) takeZ ?_
 have g6:rdc (sng b6 (.cells #[int (i:Int)] 3 (0,0))) b6 0 = some (int (i:Int)):=by rw [rdc_sng]; rfl
 have f0:rdc (sng b7 (.cells #[int x.f,int x.t,int x.s,int x.e,int x.r,int x.g,int x.l] 57 (0,0))) b7 0 = some (int x.f):=by rw [rdc_sng]; rfl
 have f1:rdc (sng b7 (.cells #[int x.f,int x.t,int x.s,int x.e,int x.r,int x.g,int x.l] 57 (0,0))) b7 1 = some (int x.t):=by rw [rdc_sng]; rfl
 have f4:rdc (sng b7 (.cells #[int x.f,int x.t,int x.s,int x.e,int x.r,int x.g,int x.l] 57 (0,0))) b7 4 = some (int x.r):=by rw [rdc_sng]; rfl
 have f5:rdc (sng b7 (.cells #[int x.f,int x.t,int x.s,int x.e,int x.r,int x.g,int x.l] 57 (0,0))) b7 5 = some (int x.g):=by rw [rdc_sng]; rfl
 refine AE ?_;refine AP ?_
 refine CW (gf:=135) (cap:=[.pointer (some ⟨c3,0,none⟩),.pointer (some ⟨c4,0,none⟩)]) (ps:=[71]) (X:=S) rfl Tryz.func135 rfl rfl
  (hticks c3 c4) ?_ (fun j σ=>Inv ((waitA qs hs d qs.length).length + (conA cs bs d i).length + j) σ) (fun σ=>Own σ) (fun c σ=>c = .ret ∧ Stop σ) σ4 rfl (Takes.skip Takes.all) hI4 ?_ ?_ ?_
 ·intro σ' hσ
  simp only [List.mem_cons,List.not_mem_nil,or_false] at hσ ⊢
  rcases hσ with h | h | h | h | h | h | h <;> simp [h]
 ·rintro lo r j σ5 vs hvs hI5 hps has hbd hst hpe hfr
  obtain ⟨st,pe,fnn,tm,prm,asg,bdy,df⟩:=r
  simp only at hps has hbd hst hpe hfr;subst hps has hbd hst hpe;rw [List.getElem?_map] at hvs
  obtain ⟨t,ht,rfl⟩:=Option.map_eq_some_iff.1 hvs
  obtain ⟨_,ht1,ht2⟩:=mem_tickL.1 (List.mem_of_getElem? ht)
  have hl1:=numAt_get hM (n:=x.f) (t:=t) hct.1.1 hct.1.2 ht1 (by omega)
  have hl2:=numAt_get hM (n:=x.t) (t:=t + 1 + x.g) hct.2.1.1 hct.2.1.2 (by omega) (by omega)
  have hya:=hy _ σ5 (encEA (conE d x i t)) (by rw [List.getElem?_map,hat j t ht]; rfl) hI5
  refine yield_spec hfr rfl (by intro p hp; simp at hp; omega) putiZ (fun N' β'=>?_)
  dsimp only
  refine AA ?_;refine Aab ?_;refine CM rfl rfl ?_;refine CV takeZ rfl ?_;refine AP ?_;refine AC ?_
  refine A5 (.q 0 (.q 1 (.q 2 (.q 3 (.q 4 (.q 5 (.q 6 (.q 7 (.q 8 (.q 9 (.q 10 (.q 11 (.q 12 (.q 13 (.q 14 (.q 15 (.q 16 (.q 17 (.q 18 (.q 19 (.q 20 (.q 21 (.q 22 (.q 23 (.q 24 (.l 25 .e (.l 26 .b .nil))))))))))))))))))))))))))) [] rfl (by kernel_rfl) Sel.nil ?_
  refine AQ ?_;refine Abu ?_;refine Aaq ?_;refine AR ?_;refine CP ?_
  focus ((refine' CT rfl _ rfl rfl rfl rfl _; rotate_left; (focus (first | exact CN 2 [x.f,t] rfl rfl rfl ⟨by kernel_rfl,by kernel_rfl⟩ rfl hMl rfl hl1 (mapAtS_rd memZ) | exact CN 2 [x.t,t + 1 + x.g] rfl rfl rfl ⟨by kernel_rfl,by kernel_rfl⟩ rfl hMl rfl hl2 (mapAtS_rd memZ)))))
  refine AQ ?_;refine Abu ?_;refine Aaq ?_;refine AR ?_;refine CY ?_;refine Aaq ?_;refine CY ?_;refine CP ?_
  focus ((refine' CT rfl _ rfl rfl rfl rfl _; rotate_left; (focus (first | exact CN 2 [x.f,t] rfl rfl rfl ⟨by kernel_rfl,by kernel_rfl⟩ rfl hMl rfl hl1 (mapAtS_rd memZ) | exact CN 2 [x.t,t + 1 + x.g] rfl rfl rfl ⟨by kernel_rfl,by kernel_rfl⟩ rfl hMl rfl hl2 (mapAtS_rd memZ)))))
  refine Aaq ?_;refine CP ?_;refine DF ?_; rintro _ _ ⟨b,rfl,rfl⟩
  focus ((refine CO ?_; refine' FV rfl _ rfl rfl _ _; rotate_left; (focus (apply DA; exact rfl; exact rfl; exact takeZ; exact (by (repeat (first | exact (fun v hv=>absurd hv List.not_mem_nil) | (refine List.forall_mem_cons.2 ⟨?_,?_⟩; (focus (first | exact rfl | assumption))))); first | done | fail); exact rfl; exact rfl)); (focus (rintro _ _ ⟨_,rfl⟩ w hw; exact hw.sel Sel.nil)); rintro _ _ ⟨rfl,rfl⟩))
  refine A6 ?_
  revert b; intro b9
  refine Abb ?_;refine AT ?_;refine Acb ?_;refine CE (DS (out:=[int (vtx d x.f t),int (vtx d x.t (t + 1 + x.g)),int x.r,int (i:Int),int t]) rfl rfl rfl rfl rfl) rfl rfl rfl ?_
  refine BF hya rfl rfl (Takes.skip (Takes.skip Takes.all)) (fun τ hτ=>.inl (by simp [hτ])) rfl rfl ?_
  rintro _ H' ⟨σ6,rfl,⟨rfl,hI6⟩ | ⟨rfl,hSt⟩⟩
  ·refine CF (H':=_ :: _ :: Own σ6) (List.perm_append_comm (l₂:=[_,_])) ?_
   refine Acc ?_;refine A4 ?_;exact BP (Take.there Take.here) rsubZ (Sel.cons Take.here (Sel.skip Sel.refl)) ⟨σ6,.inl ⟨rfl,hI6,rfl⟩⟩
  ·refine CF (H':=_ :: _ :: Own σ6) (List.perm_append_comm (l₂:=[_,_])) ?_
   refine Ad4 ?_;exact EQ (Take.there Take.here) rsubZ (Sel.cons Take.here (Sel.skip Sel.refl)) ⟨σ6,.inr ⟨rfl,.ret,⟨rfl,hSt⟩,rfl⟩⟩
 ·rintro b9 σ5 hI5
  rw [List.length_map] at hI5;refine CF (H':=sng b9 defO :: μ :: Own σ5) (List.Perm.cons _ (List.perm_append_comm (l₂:=[_]))) ?_
  refine DP (R':=_) (fun _ h=>List.mem_cons_of_mem _ (List.mem_cons_of_mem _ (List.mem_cons_of_mem _ (List.mem_cons_of_mem _ (h))))) ?_
  refine CQ (b:=b9) Take.here (μ:=μ) Take.here hMk ?_
  intro μ2 hM2
  refine A4 ?_;refine Aa4 ?_
  refine DB (i + 1,σ5,(b9 :: ms,μ2)) rfl ⟨by dsimp only; omega,?_,hM2⟩ (by dsimp only; omega) covZ Sel.refl
  dsimp only
  rw [hcn,← Nat.add_assoc];exact hI5
 ·rintro b9 c σ5 ⟨rfl,hSt⟩
  refine CF (H':=sng b9 defO :: μ :: Own σ5) (List.Perm.cons _ (List.perm_append_comm (l₂:=[_]))) ?_;refine CQ (b:=b9) Take.here (μ:=μ) Take.here hMk ?_
  intro μ2 hM2
  exact DO (ms:=b9 :: ms) hM2 Take.here (res0 rfl) (fun _ h=>List.mem_cons_of_mem _ (List.mem_cons_of_mem _ (List.mem_cons_of_mem _ (List.mem_cons_of_mem _ (List.mem_cons_of_mem _ (h)))))) Sel.refl ⟨σ5,rfl,.inr hSt⟩
end Go.Proofs.YtphehihohghfoaaGreat
/- Check, ends and the like: what they answer. -/
namespace Go.Proofs.YtphehihohghfoaaGreat
open Go.Eng Go.Flow
set_option maxRecDepth 100000
set_option maxHeartbeats 4000000

def encA (a:Arc):List Value:=[int a.f,int a.t,int a.c]
theorem encA_len (a:Arc):(encA a).length = 3:=rfl
abbrev ArcsAt (ρ:PH) (v:Value) (l:List Arc):Prop:=SlE encA 3 ρ v l
theorem arcRow {ρ:PH} {p:Option Addr} {l:List Arc} (h:RowsE encA 3 ρ p l) {i:Nat} {x:Arc} (hx:l[i]? = some x) :
  ∃ b o,p = some ⟨b,o,none⟩ ∧ RdN ρ b (o + i * 3) [int x.f,int x.t,int x.c] ∧ rdc ρ b (o + i * 3) = some (int x.f) ∧ rdc ρ b (o + i * 3 + 1) = some (int x.t) ∧ rdc ρ b (o + i * 3 + 2) = some (int x.c):=by
 obtain ⟨b,o,e,hr⟩:=h i x hx
 exact ⟨b,o,e,hr,hr.get0,hr.get (j:=1) rfl,hr.get (j:=2) rfl⟩

theorem inside_spec (k n:Int):Ans Tryz.prog (fv 82) [int k,int n] [] (fun v=>(v = .bool true ∧ 0 ≤ k ∧ k < n) ∨ (v = .bool false ∧ (k < 0 ∨ n ≤ k))):=by
 refine spec_in (cap:=[]) Tryz.func82 rfl rfl Tryz.ntmps82 rfl envZ (fun N β=>?_)
 repeat' (first
  | (refine AB ?_)
  | (refine AD ?_)
  | (refine AL ?_)
  | (refine AJ ?_)
  | (refine AC ?_)
  | (refine AA ?_)
  | (refine AE ?_)
  | (refine AG rfl rfl rfl ?_)
  | (focus ((refine B8 rfl rfl (cmp_lt _ _) rfl rfl (fun h=>?_) (fun h=>?_))))
  | (focus ((refine B8 rfl rfl (cmp_le _ _) rfl rfl (fun h=>?_) (fun h=>?_))))
  | fail)
 all_goals refine AI (res1 rfl rfl) rsubZ selZ ⟨rfl,?_⟩
 ·exact .inl ⟨rfl,by omega⟩
 ·exact .inr ⟨rfl,by omega⟩
 ·exact .inr ⟨rfl,by omega⟩

theorem ends_spec (n s t:Int):Ans Tryz.prog (fv 57) [int n,int s,int t] [] (fun v=>v = int (if okEnds n s t then 0 else 2)):=by
 refine spec_in (cap:=[]) Tryz.func57 rfl rfl Tryz.ntmps57 rfl envZ (fun N β=>?_)
 repeat' (first
  | (refine AB ?_)
  | (refine AD ?_)
  | (refine AL ?_)
  | (refine AJ ?_)
  | (refine BD ?_)
  | (refine AC ?_)
  | (refine AA ?_)
  | (refine AE ?_)
  | (refine AK ?_)
  | (refine AM rfl ?_)
  | (refine AN rfl ?_)
  | (refine AG rfl rfl rfl ?_)
  | (focus ((refine A3 (inside_spec _ _) rfl rfl rdZ rfl rfl ?_; rintro v (⟨rfl,h⟩ | ⟨rfl,h⟩))))
  | (focus ((refine B8 rfl rfl (cmp_eq _ _) rfl rfl (fun h=>?_) (fun h=>?_))))
  | fail)
 all_goals refine AI (res1 rfl rfl) rsubZ selZ ⟨rfl,?_⟩
 all_goals first | rw [if_pos (by unfold okEnds; rw [decide_eq_true_eq]; omega)] | rw [if_neg (by unfold okEnds; rw [decide_eq_true_eq]; omega)]

theorem check1_spec (b:Nat) (T:TypeId) (n:Int) (a:Arc):Ans Tryz.prog (.func (.func 95) #[] #[.pointer (some ⟨b,0,none⟩)]) [.agg (encA a).toArray] [sng b (.cells #[int n] T (0,0))] (fun v=>v = .bool (!okArc n a)):=by
 refine spec_in (cap:=[.pointer (some ⟨b,0,none⟩)]) Tryz.func95 rfl rfl Tryz.ntmps95 rfl envZ (fun N β=>?_)
 have hb:rdc (sng b (.cells #[int n] T (0,0))) b 0 = some (int n):=by rw [rdc_sng]; rfl
 unfold encA
 repeat' (first
  | (refine AB ?_)
  | (refine AD ?_)
  | (refine AF ?_)
  | (refine AH ?_)
  | (refine AL ?_)
  | (refine AJ ?_)
  | (refine BD ?_)
  | (refine AC ?_)
  | (refine AA ?_)
  | (refine AE ?_)
  | (refine AG rfl rfl rfl ?_)
  | (focus ((refine A3 (inside_spec _ _) rfl rfl rdZ rfl rfl ?_; rintro v (⟨rfl,h⟩ | ⟨rfl,h⟩))))
  | (refine B7 ?_; rintro _ _ ⟨b,rfl,rfl⟩)
  | (focus ((refine B8 rfl rfl (cmp_eq _ _) rfl rfl (fun h=>?_) (fun h=>?_))))
  | (focus ((refine B8 rfl rfl (cmp_lt _ _) rfl rfl (fun h=>?_) (fun h=>?_))))
  | fail)
 all_goals refine AI (res1 rfl rfl) rsubZ selZ ⟨rfl,?_⟩
 all_goals first
  | (rw [show okArc n a = true from by unfold okArc; rw [decide_eq_true_eq]; omega]; rfl)
  | (rw [show okArc n a = false from by unfold okArc; rw [decide_eq_false_iff_not]; omega]; rfl)

def idxOf {α:Type} (p:α → Bool) (l:List α):Int:=match l.findIdx? p with
 | some i=>i
 | none=>-1
theorem idxOf_ge {α:Type} (p:α → Bool) (l:List α):(0 ≤ idxOf p l ↔ l.any p = true):=by
 unfold idxOf
 cases h:l.findIdx? p with
 | none =>
  rw [List.findIdx?_eq_none_iff] at h
  simp; exact h
 | some i =>
  have:=List.findIdx?_isSome (xs:=l) (p:=p)
  rw [h] at this
  simp at this ⊢
  exact this
theorem indexArc_spec (ρ:PH) (v f:Value) (R1:List PH) (l:List Arc) (p:Arc → Bool) (hv:ArcsAt ρ v l) (hl:l.length ≤ 1000000) (hf:∀ a ∈ l,Ans Tryz.prog f [.agg (encA a).toArray] R1 (fun u=>u = .bool (p a))) :
  Ans Tryz.prog (fv 129) [v,f] (ρ :: R1) (fun u=>u = int (idxOf p l)):=by
 obtain ⟨q,c,rfl,hr⟩:=hv.val encA_len
 refine spec_in (cap:=[]) Tryz.func129 rfl rfl Tryz.ntmps129 rfl envZ (fun N β=>?_)
 refine Aaj ?_;refine Ab8 ?_
 refine BC [0,1,6,7] (0:Nat) (fun k=>k ≤ l.length ∧ ∀ x ∈ l.take k,p x = false) (fun k=>[(8,int k)]) (fun _=>[]) (fun k=>l.length - k) pickZ ⟨by omega,by simp⟩ covZ selZ ?_
 rintro k ⟨hk,hno⟩
 by_cases hlt:k < l.length
 ·have hx:=List.getElem?_eq_getElem hlt
  obtain ⟨b,o,rfl,hA,h0,h1,h2⟩:=arcRow hr hx
  have hfa:=hf l[k] (List.getElem_mem hlt)
  unfold encA at hfa;refine Abz ?_;refine Ab ?_;refine Aax ?_;refine Abf ?_
  refine A3 (hfa.rsub (R':=R1) (fun _ h=>h)) rfl rfl ?_ rfl rfl ?_
  ·intro σ hσ; left; simp [hσ]
  rintro u rfl;refine AE ?_
  refine jk_if rfl (fun hp=>?_) (fun hp=>?_)
  ·refine AC ?_
   refine AA ?_;refine AB ?_;refine Aab ?_;refine AI (res1 rfl rfl) ?_ selZ ⟨rfl,?_⟩
   ·intro σ hσ; exact hσ
   ·have:l.findIdx? p = some k:=by
     rw [List.findIdx?_eq_some_iff_getElem]
     refine ⟨hlt,hp,fun j hj=>?_⟩
     have:=hno l[j] (List.mem_take_iff_getElem.2 ⟨j,by omega,rfl⟩)
     simp [this]
    unfold idxOf; rw [this]
  ·refine AK ?_
   refine Aa4 ?_
   refine AZ (k + 1) ⟨by omega,fun x hx'=>?_⟩ (by omega) covZ selZ
   rw [List.take_succ_eq_append_getElem hlt] at hx'
   rcases List.mem_append.1 hx' with hx' | hx'
   ·exact hno x hx'
   ·rw [List.mem_singleton.1 hx']; exact hp
 ·refine AC ?_
  refine Adz ?_;refine Aaj ?_;refine AI (res1 rfl rfl) ?_ selZ ⟨rfl,?_⟩
  ·intro σ hσ; exact hσ
  ·have hkl:k = l.length:=by omega
   subst hkl;rw [List.take_length] at hno
   have:l.findIdx? p = none:=by rw [List.findIdx?_eq_none_iff]; exact hno
   unfold idxOf; rw [this]
theorem containsArc_spec (ρ:PH) (v f:Value) (R1:List PH) (l:List Arc) (p:Arc → Bool) (hv:ArcsAt ρ v l) (hl:l.length ≤ 1000000) (hf:∀ a ∈ l,Ans Tryz.prog f [.agg (encA a).toArray] R1 (fun u=>u = .bool (p a))) :
  Ans Tryz.prog (fv 94) [v,f] (ρ :: R1) (fun u=>u = .bool (l.any p)):=by
 refine spec_in (cap:=[]) Tryz.func94 rfl rfl Tryz.ntmps94 rfl envZ (fun N β=>?_)
 refine Aaj ?_;refine Abn ?_;refine A3 (indexArc_spec ρ v f R1 l p hv hl hf) rfl rfl ?_ rfl rfl ?_
 ·intro σ hσ; left; simp at hσ ⊢; right; exact hσ
 rintro u rfl
 have hi:=idxOf_ge p l
 by_cases hc:0 ≤ idxOf p l
 all_goals
  repeat' (first
   | (refine AD ?_)
   | (refine CC ?_)
   | (refine BJ ?_)
   | (refine AE ?_)
   | fail)
  refine AI (res1 rfl rfl) (by intro σ hσ; exact hσ) selZ ⟨rfl,?_⟩
 ·rw [hi.1 hc]
 ·have:l.any p = false:=by
   cases h:l.any p with
   | false=>rfl
   | true=>exact absurd (hi.2 h) hc
  rw [this]

theorem check_spec (ρ:PH) (v:Value) (n:Int) (l:List Arc) (hv:ArcsAt ρ v l) (hl:l.length ≤ 1000000) :
  Ans Tryz.prog (fv 56) [int n,v] [ρ] (fun u=>u = int (chk n l)):=by
 obtain ⟨q,c,rfl,hr⟩:=hv.val encA_len
 refine spec_in (cap:=[]) Tryz.func56 rfl rfl Tryz.ntmps56 rfl envZ (fun N β=>?_)
 repeat' (first
  | (refine AB ?_)
  | (refine AD ?_)
  | (refine AF ?_)
  | (refine AL ?_)
  | (refine AJ ?_)
  | (refine AX ?_)
  | (refine BX ?_)
  | (refine AC ?_)
  | (refine AA ?_)
  | (refine AE ?_)
  | (refine AK ?_)
  | (refine AM rfl ?_)
  | (refine AN rfl ?_)
  | (refine AG rfl rfl rfl ?_)
  | (focus ((refine A3 (containsArc_spec ρ _ _ [_] l (fun a=>!okArc n a) hv hl (fun a _=>check1_spec _ _ n a)) rfl rfl rdZ rfl rfl ?_; rintro u rfl)))
  | (refine D9 ?_; rintro _ _ ⟨b,rfl,rfl⟩)
  | (focus ((refine B8 rfl rfl (cmp_lt _ _) rfl rfl (fun h=>?_) (fun h=>?_))))
  | (focus ((refine jk_if rfl (fun h=>?_) (fun h=>?_))))
  | fail)
 all_goals refine AI (res1 rfl rfl) rsubZ selZ ⟨rfl,?_⟩
 all_goals unfold chk
 ·rw [if_pos (by omega)]
 ·rw [if_neg (by omega),if_pos (by omega)]
 ·rw [if_neg (by omega),if_pos (by omega)]
 ·rename_i h
  rw [if_neg (by omega),if_neg (by omega),if_neg (fun h2=>?_)]
  simp only [List.all_eq_true,List.any_eq_true,Bool.not_eq_true'] at h h2
  obtain ⟨x,hx,e⟩:=h
  rw [h2 x hx] at e
  simp at e
 ·rename_i h
  rw [if_neg (by omega),if_neg (by omega),if_pos ?_]
  rw [List.all_eq_true];rw [List.any_eq_false] at h
  intro x hx
  simpa using h x hx

end Go.Proofs.YtphehihohghfoaaGreat
/- Answers checked; results that are structs in memory; sums that wrap. No program in sight. No conditions. -/
namespace Go.Step
end Go.Step
namespace Go.Eng
open Go.IntWalk
variable {R H:List PH} {L:Env}
theorem resS2 {fn:Func} {N:Bs} {M:Nat} {P:Program} {t u b1 b2:Nat} {T U:TypeId} {v1 v2:List Value} (hr:fn.results = #[.cell t T,.cell u U]) (ht:look L t = some (.pointer (some ⟨b1,0,none⟩))) (hu:look L u = some (.pointer (some ⟨b2,0,none⟩))) (a1:aggP P T = some true) (a2:aggP P U = some true)
    (n1:szP P T = some v1.length) (n2:szP P U = some v2.length) (c1:Cells N R H b1 0 v1) (c2:Cells N R H b2 0 v2):∀ a w,Frm M L a → Sat N R H w → (results fn a.tmps).run P w = .ok (.tuple #[.agg v1.toArray,.agg v2.toArray]) w:=by
  intro a w hf hs
  have e1:a.tmps[t]?.getD undef = .pointer (some ⟨b1,0,none⟩):=by simpa using hf.get t _ ht
  have e2:a.tmps[u]?.getD undef = .pointer (some ⟨b2,0,none⟩):=by simpa using hf.get u _ hu
  have l1:=run_loadCells_list (P:=P) (w:=w) ⟨b1,0,none⟩ v1 (fun j v hv=>by rw [Addr.add_lit]; exact c1 w hs j v hv)
  have l2:=run_loadCells_list (P:=P) (w:=w) ⟨b2,0,none⟩ v2 (fun j v hv=>by rw [Addr.add_lit]; exact c2 w hs j v hv)
  simp [results,hr,e1,e2,loadVar,run_isAgg a1,run_isAgg a2,run_sizeOf n1,run_sizeOf n2,l1,l2,asAddr]
theorem Flat.agg7 {a b c d e f g:Value} {vs cs:List Value} (h:Flat vs cs):Flat (.agg #[a,b,c,d,e,f,g] :: vs) (a :: b :: c :: d :: e :: f :: g :: cs):=Flat.agg (ws:=[a,b,c,d,e,f,g]) h
theorem EN {C:Cx} {x y:Operand} {dst:Option Tmp} {ty:TypeId} {pos:String} {aft:Array Edge} {g:Option (Nat × Bool)} {xT yT:TypeId} {m n:Int} (h1:evalE L x = some (.int .i64 m)) (h2:evalE L y = some (.int .i64 n)):Quiet C R H L ⟨dst,.binOp .add xT x y yT,ty,pos,aft,g⟩ (.int .i64 (IntKind.i64.wrap (m + n))):=
  D3 (C:=C) (R:=R) (H:=H) (dst:=dst) (ty:=ty) (pos:=pos) (aft:=aft) (g:=g) (xT:=xT) (yT:=yT) (.inl ⟨rfl,rfl⟩) h1 h2
end Go.Eng
/- Results that lie in memory: one struct, or a struct and an error. -/
namespace Go.Eng
variable {L:Env} {R H:List PH}
theorem resS1 {fn:Func} {N:Bs} {M:Nat} {P:Program} {t b1:Nat} {T:TypeId} {v1:List Value} (hr:fn.results = #[.cell t T]) (ht:look L t = some (.pointer (some ⟨b1,0,none⟩))) (a1:aggP P T = some true)
    (n1:szP P T = some v1.length) (c1:Cells N R H b1 0 v1):∀ a w,Frm M L a → Sat N R H w → (results fn a.tmps).run P w = .ok (.agg v1.toArray) w:=by
  intro a w hf hs
  have e1:a.tmps[t]?.getD undef = .pointer (some ⟨b1,0,none⟩):=by simpa using hf.get t _ ht
  have l1:=run_loadCells_list (P:=P) (w:=w) ⟨b1,0,none⟩ v1 (fun j v hv=>by rw [Addr.add_lit]; exact c1 w hs j v hv)
  simp [results,hr,e1,loadVar,run_isAgg a1,run_sizeOf n1,l1,asAddr]
theorem resSE {fn:Func} {N:Bs} {M:Nat} {P:Program} {t u b1:Nat} {T:TypeId} {v1:List Value} {v2:Value} (hr:fn.results = #[.cell t T,.tmp u]) (ht:look L t = some (.pointer (some ⟨b1,0,none⟩))) (hu:look L u = some v2) (a1:aggP P T = some true)
    (n1:szP P T = some v1.length) (c1:Cells N R H b1 0 v1):∀ a w,Frm M L a → Sat N R H w → (results fn a.tmps).run P w = .ok (.tuple #[.agg v1.toArray,v2]) w:=by
  intro a w hf hs
  have e1:a.tmps[t]?.getD undef = .pointer (some ⟨b1,0,none⟩):=by simpa using hf.get t _ ht
  have e2:a.tmps[u]?.getD undef = v2:=by simpa using hf.get u _ hu
  have l1:=run_loadCells_list (P:=P) (w:=w) ⟨b1,0,none⟩ v1 (fun j v hv=>by rw [Addr.add_lit]; exact c1 w hs j v hv)
  simp [results,hr,e1,e2,loadVar,run_isAgg a1,run_sizeOf n1,l1,asAddr]
end Go.Eng
/- The graph, and the numbers of its places. -/
namespace Go.Proofs.YtphehihohghfoaaGreat
open Go.Eng Go.Step
set_option maxRecDepth 100000
set_option maxHeartbeats 4000000

theorem ea_len (qs:List Int) (cs:List Ct) (bs:List Bk) (hs:List Hd) (d:Dm) (h:VOk qs cs bs hs d):(arcsE qs cs bs hs d).length ≤ 1000000:=by
 have:=h.len
 omega
set_option maxHeartbeats 32000000 in
theorem graph_spec {ρ τ σ υ:PH} {pq pc pb ph:Option Addr} {kq kc kb kh:Nat} {qs:List Int} {cs:List Ct} {bs:List Bk} {hs:List Hd} (hT:TbAt ρ τ σ υ pq pc pb ph kq kc kb kh qs cs bs hs) (bw bm kp:Nat) (pl:Option Addr) (χ:PH) (M:List (List Int × Value)) (d:Dm) (h:VOk qs cs bs hs d) (h0:chkB qs cs bs = 0) (hpl:SlE encS 2 χ (.slice pl (placesA d qs.length).length kp) (placesA d qs.length)) (hM:NumAt d qs.length d.r M) :
  Makes Tryz.prog (fv 62) [.pointer (some ⟨bw,0,none⟩)] [sng bw (.cells #[.slice pq qs.length kq,.slice pc cs.length kc,.slice pb bs.length kb,.slice ph hs.length kh,int d.s,int d.d,int d.v,int d.r,int d.e,.slice pl (placesA d qs.length).length kp,.map (some bm)] 134 (0,0)),sng bm (mapS M),χ,ρ,τ,σ,υ] (fun r χ'=>∃ u,r = .agg #[int (vsN qs d),u,int (vtx d d.s d.r),int (vtx d d.d d.e)] ∧ OwnS 141 3 u (arcsG qs cs bs hs d).length ((arcsG qs cs bs hs d).flatMap encA) χ'):=by
 have hdm:=h.dm
 unfold okDm at hdm
 have hnq:=h.nq
 have hMl:=hM.1
 have hl1:=numAt_get hM (n:=d.s) (t:=d.r) (by omega) (by omega) (by omega) (by omega)
 have hl2:=numAt_get hM (n:=d.d) (t:=d.e) (by omega) (by omega) (by omega) (by omega)
 have hit:=fun c1=>arcs_iter hT bw bm c1 kp pl χ M d h h0 hpl hM
 have hEl:=ea_len qs cs bs hs d h
 have hplen:(((placesA d qs.length).length:Nat):Int) = vsN qs d:=placesA_len (d:=d) (by omega) qs.length
 have hone:∀ z n (xs:List Value) (χ:PH),OwnS 141 3 z n xs χ → z.oneCell' = true:=fun z n xs χ h=>by obtain ⟨_,_,rfl⟩:=h.form; rfl
 have w0:rdc (sng bw (.cells #[.slice pq qs.length kq,.slice pc cs.length kc,.slice pb bs.length kb,.slice ph hs.length kh,int d.s,int d.d,int d.v,int d.r,int d.e,.slice pl (placesA d qs.length).length kp,.map (some bm)] 134 (0,0))) bw 0 = some (.slice pq qs.length kq):=by rw [rdc_sng]; rfl
 have w1:rdc (sng bw (.cells #[.slice pq qs.length kq,.slice pc cs.length kc,.slice pb bs.length kb,.slice ph hs.length kh,int d.s,int d.d,int d.v,int d.r,int d.e,.slice pl (placesA d qs.length).length kp,.map (some bm)] 134 (0,0))) bw 1 = some (.slice pc cs.length kc):=by rw [rdc_sng]; rfl
 have w2:rdc (sng bw (.cells #[.slice pq qs.length kq,.slice pc cs.length kc,.slice pb bs.length kb,.slice ph hs.length kh,int d.s,int d.d,int d.v,int d.r,int d.e,.slice pl (placesA d qs.length).length kp,.map (some bm)] 134 (0,0))) bw 2 = some (.slice pb bs.length kb):=by rw [rdc_sng]; rfl
 have w3:rdc (sng bw (.cells #[.slice pq qs.length kq,.slice pc cs.length kc,.slice pb bs.length kb,.slice ph hs.length kh,int d.s,int d.d,int d.v,int d.r,int d.e,.slice pl (placesA d qs.length).length kp,.map (some bm)] 134 (0,0))) bw 3 = some (.slice ph hs.length kh):=by rw [rdc_sng]; rfl
 have w4:rdc (sng bw (.cells #[.slice pq qs.length kq,.slice pc cs.length kc,.slice pb bs.length kb,.slice ph hs.length kh,int d.s,int d.d,int d.v,int d.r,int d.e,.slice pl (placesA d qs.length).length kp,.map (some bm)] 134 (0,0))) bw 4 = some (int d.s):=by rw [rdc_sng]; rfl
 have w5:rdc (sng bw (.cells #[.slice pq qs.length kq,.slice pc cs.length kc,.slice pb bs.length kb,.slice ph hs.length kh,int d.s,int d.d,int d.v,int d.r,int d.e,.slice pl (placesA d qs.length).length kp,.map (some bm)] 134 (0,0))) bw 5 = some (int d.d):=by rw [rdc_sng]; rfl
 have w6:rdc (sng bw (.cells #[.slice pq qs.length kq,.slice pc cs.length kc,.slice pb bs.length kb,.slice ph hs.length kh,int d.s,int d.d,int d.v,int d.r,int d.e,.slice pl (placesA d qs.length).length kp,.map (some bm)] 134 (0,0))) bw 6 = some (int d.v):=by rw [rdc_sng]; rfl
 have w7:rdc (sng bw (.cells #[.slice pq qs.length kq,.slice pc cs.length kc,.slice pb bs.length kb,.slice ph hs.length kh,int d.s,int d.d,int d.v,int d.r,int d.e,.slice pl (placesA d qs.length).length kp,.map (some bm)] 134 (0,0))) bw 7 = some (int d.r):=by rw [rdc_sng]; rfl
 have w8:rdc (sng bw (.cells #[.slice pq qs.length kq,.slice pc cs.length kc,.slice pb bs.length kb,.slice ph hs.length kh,int d.s,int d.d,int d.v,int d.r,int d.e,.slice pl (placesA d qs.length).length kp,.map (some bm)] 134 (0,0))) bw 8 = some (int d.e):=by rw [rdc_sng]; rfl
 have w9:rdc (sng bw (.cells #[.slice pq qs.length kq,.slice pc cs.length kc,.slice pb bs.length kb,.slice ph hs.length kh,int d.s,int d.d,int d.v,int d.r,int d.e,.slice pl (placesA d qs.length).length kp,.map (some bm)] 134 (0,0))) bw 9 = some (.slice pl (placesA d qs.length).length kp):=by rw [rdc_sng]; rfl
 have w10:rdc (sng bw (.cells #[.slice pq qs.length kq,.slice pc cs.length kc,.slice pb bs.length kb,.slice ph hs.length kh,int d.s,int d.d,int d.v,int d.r,int d.e,.slice pl (placesA d qs.length).length kp,.map (some bm)] 134 (0,0))) bw 10 = some (.map (some bm)):=by rw [rdc_sng]; rfl
 have wp:RdP (sng bw (.cells #[.slice pq qs.length kq,.slice pc cs.length kc,.slice pb bs.length kb,.slice ph hs.length kh,int d.s,int d.d,int d.v,int d.r,int d.e,.slice pl (placesA d qs.length).length kp,.map (some bm)] 134 (0,0))) bw 0 [.slice pq qs.length kq,.slice pc cs.length kc]:=rdP_sng (xs:=[.slice pq qs.length kq,.slice pc cs.length kc,.slice pb bs.length kb,.slice ph hs.length kh,int d.s,int d.d,int d.v,int d.r,int d.e,.slice pl (placesA d qs.length).length kp,.map (some bm)]) rfl
 refine spec_in (cap:=[]) Tryz.func62 rfl rfl Tryz.ntmps62 rfl envZ (fun N β=>?_)
 refine BY ?_;refine Aa ?_;refine AW ?_; rintro _ _ ⟨b,rfl,rfl⟩;refine Aak ?_
 revert b; intro b2
 refine DZ (X:=Nat) [0,2] (fun _=>True) (fun x=>[(3,.pointer (some ⟨x,0,none⟩))]) (fun x=>[sng x (.cells #[int (vsN qs d),.slice none 0 0,int (vtx d d.s d.r),int (vtx d d.d d.e)] 69 (0,0)),sng b2 (.cells #[int 0,.slice none 0 0,int 0,int 0] 69 (0,0)),emp]) pickZ ?_ ?_
 ·refine A5 (.q 0 (.q 1 (.q 2 (.q 3 (.q 4 (.q 5 (.q 6 (.q 7 (.q 8 (.q 9 (.q 10 (.q 11 (.q 12 (.q 13 (.q 14 (.q 15 (.q 16 (.q 17 (.q 18 (.q 19 (.q 20 (.q 21 (.q 22 (.q 23 (.q 24 (.q 25 (.q 26 (.q 27 (.q 28 (.q 29 (.q 30 (.q 31 (.q 32 (.q 33 (.q 34 (.q 35 (.q 36 (.q 37 (.l 38 .e (.l 39 .b .nil)))))))))))))))))))))))))))))))))))))))) [] rfl (by kernel_rfl) Sel.nil ?_
  repeat' (first
   | (refine AR ?_)
   | (refine AQ ?_)
   | (refine AU ?_)
   | (refine B4 ?_)
   | (refine B9 ?_)
   | (refine EJ ?_)
   | (refine A2 ?_)
   | (refine CP ?_)
   | (focus ((refine' CT rfl _ rfl rfl rfl rfl _; rotate_left; (focus (first | exact CN 2 [d.s,d.r] rfl rfl rfl ⟨by kernel_rfl,by kernel_rfl⟩ rfl hMl rfl hl1 (mapAtS_rd memZ) | exact CN 2 [d.d,d.e] rfl rfl rfl ⟨by kernel_rfl,by kernel_rfl⟩ rfl hMl rfl hl2 (mapAtS_rd memZ))))))
   | (focus ((refine CO ?_; refine' FV rfl _ rfl rfl _ _; rotate_left; (focus (apply DA; exact rfl; exact rfl; exact takeZ; exact (by (repeat (first | exact (fun v hv=>absurd hv List.not_mem_nil) | (refine List.forall_mem_cons.2 ⟨?_,?_⟩; (focus (first | exact rfl | assumption))))); first | done | fail); exact rfl; exact rfl)); (focus (rintro _ _ ⟨_,rfl⟩ w hw; exact hw.sel Sel.nil)); rintro _ _ ⟨rfl,rfl⟩)))
   | (refine A6 ?_)
   | (refine DF ?_; rintro _ _ ⟨b,rfl,rfl⟩)
   | fail)
  all_goals (rw [hplen]; refine C8 _ trivial covZ selZ)
 rintro b3 _;refine Aam ?_
 refine BF (arcs_spec bw) rfl rfl Takes.nil (fun τ hτ=>by simp at hτ) rfl rfl ?_
 rintro _ _ ⟨c1,rfl,rfl⟩;refine AS (ρ:=sng c1 _) takeZ ?_;refine AE ?_;refine AP ?_
 refine CW (gf:=102) (cap:=[.pointer (some ⟨c1,0,none⟩)]) (ps:=[45]) (X:=Value × PH) rfl Tryz.func102 rfl rfl
  (hit c1) ?_
  (fun i x=>OwnS 141 3 x.1 ((arcsE qs cs bs hs d).take i).length (((arcsE qs cs bs hs d).take i).flatMap (fun e=>encA e.a)) x.2)
  (fun x=>[sng b3 (.cells #[int (vsN qs d),x.1,int (vtx d d.s d.r),int (vtx d d.d d.e)] 69 (0,0)),sng b2 (.cells #[int 0,.slice none 0 0,int 0,int 0] 69 (0,0)),x.2]) (fun _ _=>False) (.slice none 0 0,emp) rfl takesZ (OwnS.nil _ _) ?_ ?_ ?_
 ·intro σ' hσ
  simp only [List.mem_cons,List.not_mem_nil,or_false] at hσ ⊢
  rcases hσ with h | h | h | h | h | h | h | h <;> simp [h]
 ·rintro lo r i ⟨u,σ1⟩ vs hvs hO hps has hbd hst hpe hfr
  obtain ⟨st,pe,fnn,tm,prm,asg,bdy,df⟩:=r
  simp only at hps has hbd hst hpe hfr;subst hps has hbd hst hpe;rw [List.getElem?_map] at hvs
  obtain ⟨x,hx,rfl⟩:=Option.map_eq_some_iff.1 hvs
  dsimp only at hO
  have hti:((arcsE qs cs bs hs d).take (i + 1)) = (arcsE qs cs bs hs d).take i ++ [x]:=by
   rw [List.take_add_one,hx]; rfl
  have hil:((arcsE qs cs bs hs d).take i).length ≤ 1000000:=by rw [List.length_take]; omega
  simp only [hti]
  generalize (arcsE qs cs bs hs d).take i = O at hO hil
  have hu1:=hone _ _ _ _ hO
  refine yield_spec hfr rfl (by intro p hp; simp at hp; omega) putiZ (fun N' β'=>?_)
  dsimp only
  refine AA ?_;refine AW ?_; rintro _ _ ⟨b,rfl,rfl⟩;refine AV ?_; rintro _ _ ⟨rfl,rfl⟩;refine Aef ?_;refine CV takeZ rfl ?_
  revert b; intro bx
  refine AS (ρ:=sng bx _) takeZ ?_
  have px:RdP (sng bx (.cells #[int x.a.f,int x.a.t,int x.a.c,int x.c,int x.t] 150 (0,0))) bx 0 [int x.a.f,int x.a.t,int x.a.c]:=rdP_sng (xs:=[int x.a.f,int x.a.t,int x.a.c,int x.c,int x.t]) rfl
  refine AP ?_;refine AA ?_;refine Aac ?_;refine AH ?_;refine AT ?_;refine BH ?_; rintro _ _ ⟨b,rfl,rfl⟩
  refine BI (B6 (by_:=24) (s:=3) (news:=[int x.a.f,int x.a.t,int x.a.c]) rfl rfl rfl rfl rfl rfl rfl hO takeZ (cells_own memZ) rfl (by (repeat (first | exact (fun v hv=>absurd hv List.not_mem_nil) | (refine List.forall_mem_cons.2 ⟨?_,?_⟩; (focus (first | exact rfl | assumption))))); first | done | fail) (by omega) (by simp only [maxLen]; omega) (by omega)) rfl rfl rfl ?_
  rintro u1 _ ⟨σ2,hO1,rfl⟩
  have hu2:=hone _ _ _ _ hO1
  refine AH ?_;refine BB ?_; rintro _ _ ⟨rfl,rfl⟩;refine Aea ?_;refine BP takeZ rsubZ selZ ⟨(u1,σ2),.inl ⟨rfl,?_,rfl⟩⟩
  dsimp only
  rw [List.length_append,List.flatMap_append];exact hO1
 ·rintro b9 ⟨u,σ1⟩ hO
  rw [List.length_map,List.take_length] at hO
  dsimp only at hO
  have hO2:OwnS 141 3 u (arcsG qs cs bs hs d).length ((arcsG qs cs bs hs d).flatMap encA) σ1:=by
   unfold arcsG;rw [List.length_map,List.flatMap_map];exact hO
  have hu1:=hone _ _ _ _ hO2
  refine A4 ?_;refine Abo ?_;refine AV ?_; rintro _ _ ⟨rfl,rfl⟩;refine AE ?_;refine D5 (v:=.agg #[int (vsN qs d),u,int (vtx d d.s d.r),int (vtx d d.d d.e)]) (Marks.cons (.there .here) .nil) ?_ rsubZ ?_ ⟨σ1,⟨u,rfl,hO2⟩,rfl⟩
  ·exact resS1 (b1:=b2) (T:=69) (v1:=[int (vsN qs d),u,int (vtx d d.s d.r),int (vtx d d.d d.e)]) rfl rfl rfl rfl (cells_own memZ)
  ·exact selZ
 ·rintro _ _ _ h; exact h.elim
set_option maxHeartbeats 16000000 in
theorem Graph_spec {ρ τ σ υ:PH} {pq pc pb ph:Option Addr} {kq kc kb kh:Nat} {qs:List Int} {cs:List Ct} {bs:List Bk} {hs:List Hd} (hT:TbAt ρ τ σ υ pq pc pb ph kq kc kb kh qs cs bs hs) (d:Dm) :
  Makes Tryz.prog (fv 39) [.agg #[.slice pq qs.length kq,.slice pc cs.length kc,.slice pb bs.length kb,.slice ph hs.length kh],.agg #[int d.s,int d.d,int d.v,int d.r,int d.e]] [ρ,τ,σ,υ] (fun r χ'=>if validT qs cs bs hs d = true then ∃ u,r = .tuple #[.agg #[int (vsN qs d),u,int (vtx d d.s d.r),int (vtx d d.d d.e)],int 0] ∧ OwnS 141 3 u (arcsG qs cs bs hs d).length ((arcsG qs cs bs hs d).flatMap encA) χ' else r = .tuple #[.agg #[int 0,.slice none 0 0,int 0,int 0],int 1] ∧ χ' = emp):=by
 refine spec_in (cap:=[]) Tryz.func39 rfl rfl Tryz.ntmps39 rfl envZ (fun N β=>?_)
 refine Aa ?_;refine BI (BK rfl) rfl rfl rfl ?_;rintro _ _ ⟨b1,rfl,rfl⟩;refine AS (ρ:=sng b1 _) takeZ ?_
 have ct:=rdB b1 29 [.slice pq qs.length kq,.slice pc cs.length kc,.slice pb bs.length kb,.slice ph hs.length kh]
 have ct0:=rdC ct 0
 have ct1:=rdC ct 1
 have ct2:=rdC ct 2
 have ct3:=rdC ct 3
 have ctp:RdP (sng b1 (.cells #[.slice pq qs.length kq,.slice pc cs.length kc,.slice pb bs.length kb,.slice ph hs.length kh] 29 (0,0))) b1 0 [.slice pq qs.length kq,.slice pc cs.length kc]:=rdP_sng (xs:=[.slice pq qs.length kq,.slice pc cs.length kc,.slice pb bs.length kb,.slice ph hs.length kh]) rfl
 refine BI (BK rfl) rfl rfl rfl ?_;rintro _ _ ⟨b2,rfl,rfl⟩;refine AS (ρ:=sng b2 _) takeZ ?_
 have cd:=rdB b2 31 [int d.s,int d.d,int d.v,int d.r,int d.e]
 have cd0:=rdC cd 0
 have cd1:=rdC cd 1
 have cd2:=rdC cd 2
 have cd3:=rdC cd 3
 have cd4:=rdC cd 4
 refine BY ?_;refine AW ?_; rintro _ _ ⟨b,rfl,rfl⟩;refine Aab ?_;refine Ab5 ?_
 revert b; intro b4
 refine BF (build_spec hT d) rfl rfl Takes.nil rdZ rfl rfl ?_;rintro _ H' (⟨hv,rfl,rfl⟩ | ⟨hv,bw,bm,pl0,χ,M,rfl,rfl,hO,hM⟩)
 ·refine AB ?_
  refine Aa5 ?_;refine Aan ?_;refine Aam ?_;refine Ad4 ?_;refine Aa ?_;refine BS ?_;refine AV ?_; rintro _ _ ⟨rfl,rfl⟩;refine Aab ?_
  exact AI (resSE (b1:=b4) (T:=69) (v1:=[int 0,.slice none 0 0,int 0,int 0]) rfl rfl rfl rfl rfl (cells_own memZ)) rsubZ selZ ⟨emp,by dsimp only; rw [if_neg (by simp [hv])]; exact ⟨rfl,rfl⟩,rfl⟩
 have h:=vok hv
 have h0:=vokB hv
 have hdm:=h.dm
 unfold okDm at hdm
 have hnq:=h.nq
 obtain ⟨pl,kp,rfl⟩:=hO.form
 have hpl:SlE encS 2 χ (.slice pl (placesA d qs.length).length kp) (placesA d qs.length):=hO.at
 refine AS (ρ:=sng bw _) takeZ ?_;refine AS (ρ:=sng bm _) takeZ ?_;refine AS (ρ:=χ) takeZ ?_
 have w0:rdc (sng bw (.cells #[.slice pq qs.length kq,.slice pc cs.length kc,.slice pb bs.length kb,.slice ph hs.length kh,int d.s,int d.d,int d.v,int d.r,int d.e,.slice pl (placesA d qs.length).length kp,.map (some bm)] 134 (0,0))) bw 0 = some (.slice pq qs.length kq):=by rw [rdc_sng]; rfl
 have w1:rdc (sng bw (.cells #[.slice pq qs.length kq,.slice pc cs.length kc,.slice pb bs.length kb,.slice ph hs.length kh,int d.s,int d.d,int d.v,int d.r,int d.e,.slice pl (placesA d qs.length).length kp,.map (some bm)] 134 (0,0))) bw 1 = some (.slice pc cs.length kc):=by rw [rdc_sng]; rfl
 have w2:rdc (sng bw (.cells #[.slice pq qs.length kq,.slice pc cs.length kc,.slice pb bs.length kb,.slice ph hs.length kh,int d.s,int d.d,int d.v,int d.r,int d.e,.slice pl (placesA d qs.length).length kp,.map (some bm)] 134 (0,0))) bw 2 = some (.slice pb bs.length kb):=by rw [rdc_sng]; rfl
 have w3:rdc (sng bw (.cells #[.slice pq qs.length kq,.slice pc cs.length kc,.slice pb bs.length kb,.slice ph hs.length kh,int d.s,int d.d,int d.v,int d.r,int d.e,.slice pl (placesA d qs.length).length kp,.map (some bm)] 134 (0,0))) bw 3 = some (.slice ph hs.length kh):=by rw [rdc_sng]; rfl
 have w4:rdc (sng bw (.cells #[.slice pq qs.length kq,.slice pc cs.length kc,.slice pb bs.length kb,.slice ph hs.length kh,int d.s,int d.d,int d.v,int d.r,int d.e,.slice pl (placesA d qs.length).length kp,.map (some bm)] 134 (0,0))) bw 4 = some (int d.s):=by rw [rdc_sng]; rfl
 have w5:rdc (sng bw (.cells #[.slice pq qs.length kq,.slice pc cs.length kc,.slice pb bs.length kb,.slice ph hs.length kh,int d.s,int d.d,int d.v,int d.r,int d.e,.slice pl (placesA d qs.length).length kp,.map (some bm)] 134 (0,0))) bw 5 = some (int d.d):=by rw [rdc_sng]; rfl
 have w6:rdc (sng bw (.cells #[.slice pq qs.length kq,.slice pc cs.length kc,.slice pb bs.length kb,.slice ph hs.length kh,int d.s,int d.d,int d.v,int d.r,int d.e,.slice pl (placesA d qs.length).length kp,.map (some bm)] 134 (0,0))) bw 6 = some (int d.v):=by rw [rdc_sng]; rfl
 have w7:rdc (sng bw (.cells #[.slice pq qs.length kq,.slice pc cs.length kc,.slice pb bs.length kb,.slice ph hs.length kh,int d.s,int d.d,int d.v,int d.r,int d.e,.slice pl (placesA d qs.length).length kp,.map (some bm)] 134 (0,0))) bw 7 = some (int d.r):=by rw [rdc_sng]; rfl
 have w8:rdc (sng bw (.cells #[.slice pq qs.length kq,.slice pc cs.length kc,.slice pb bs.length kb,.slice ph hs.length kh,int d.s,int d.d,int d.v,int d.r,int d.e,.slice pl (placesA d qs.length).length kp,.map (some bm)] 134 (0,0))) bw 8 = some (int d.e):=by rw [rdc_sng]; rfl
 have w9:rdc (sng bw (.cells #[.slice pq qs.length kq,.slice pc cs.length kc,.slice pb bs.length kb,.slice ph hs.length kh,int d.s,int d.d,int d.v,int d.r,int d.e,.slice pl (placesA d qs.length).length kp,.map (some bm)] 134 (0,0))) bw 9 = some (.slice pl (placesA d qs.length).length kp):=by rw [rdc_sng]; rfl
 have w10:rdc (sng bw (.cells #[.slice pq qs.length kq,.slice pc cs.length kc,.slice pb bs.length kb,.slice ph hs.length kh,int d.s,int d.d,int d.v,int d.r,int d.e,.slice pl (placesA d qs.length).length kp,.map (some bm)] 134 (0,0))) bw 10 = some (.map (some bm)):=by rw [rdc_sng]; rfl
 have hg:=graph_spec hT bw bm kp pl χ M d h h0 hpl hM
 refine Ac ?_;refine Acc ?_;refine Aad ?_;refine BZ hg rfl rfl rdZ rfl rfl ?_;rintro _ σ1 ⟨u,rfl,hO1⟩
 have hu1:u.oneCell' = true:=by obtain ⟨_,_,rfl⟩:=hO1.form; rfl
 refine AV ?_; rintro _ _ ⟨rfl,rfl⟩;refine Aab ?_
 exact AI (resSE (b1:=b4) (T:=69) (v1:=[int (vsN qs d),u,int (vtx d d.s d.r),int (vtx d d.d d.e)]) rfl rfl rfl rfl rfl (cells_own memZ)) rsubZ selZ ⟨σ1,by dsimp only; rw [if_pos hv]; exact ⟨u,rfl,hO1⟩,rfl⟩
end Go.Proofs.YtphehihohghfoaaGreat
/- Values of flows, capacities of cuts, equal lists: what the functions answer. -/
namespace Go.Proofs.YtphehihohghfoaaGreat
open Go.Eng Go.Flow
set_option maxRecDepth 100000
set_option maxHeartbeats 4000000

theorem value_spec (ρ σ:PH) (v u:Value) (s:Int) (l:List Arc) (fl:List Int) (hv:ArcsAt ρ v l) (hu:IntsAt σ u fl) (hl:l.length ≤ 20000) (hfl:fl.length = l.length) (hs:small fl) :
  Ans Tryz.prog (fv 88) [v,u,int s] [ρ,σ] (fun r=>r = int (fval s l fl)):=by
 obtain ⟨q,c,rfl,hr⟩:=hv.val encA_len
 obtain ⟨q2,c2,rfl,hr2⟩:=hu.val Eng.encI_len
 refine spec_in (cap:=[]) Tryz.func88 rfl rfl Tryz.ntmps88 rfl envZ (fun N β=>?_)
 refine Ad5 ?_;refine Ab8 ?_
 refine BC [0,1,2,10,11] ((0,0):Nat × Int) (fun x=>x.1 ≤ l.length ∧ x.2 = fval s (l.take x.1) (fl.take x.1)) (fun x=>[(7,int x.2),(12,int x.1)]) (fun _=>[]) (fun x=>l.length - x.1) pickZ ⟨by simp,by simp [fval]⟩ covZ selZ ?_
 rintro ⟨k,y⟩ ⟨hk,hy⟩;simp only at hk hy
 by_cases hlt:k < l.length
 ·have hx:=List.getElem?_eq_getElem hlt
  obtain ⟨b,o,rfl,hA,h0,h1,h2⟩:=arcRow hr hx
  have hx2:=List.getElem?_eq_getElem (show k < fl.length by omega)
  obtain ⟨b2,o2,rfl,g0⟩:=hr2.int hx2
  have hbd:=fval_bd s (l.take k) (fl.take k) (small_take hs k)
  have hlen:(fl.take k).length = k:=by simp; omega
  rw [← hy,hlen] at hbd
  have hx3:=hs fl[k] (List.getElem_mem _)
  have hstep:fval s (l.take (k + 1)) (fl.take (k + 1)) = y + ((if l[k].f = s then fl[k] else 0) - (if l[k].t = s then fl[k] else 0)):=by
   rw [take_snoc' hlt,take_snoc' (show k < fl.length by omega),fval_snoc _ _ _ _ _ (by simp; omega),hy]
  repeat' (first
   | (refine AB ?_)
   | (refine AD ?_)
   | (refine AF ?_)
   | (refine AH ?_)
   | (refine BU ?_)
   | (refine A8 ?_)
   | (refine BA ?_)
   | (refine A9 ?_)
   | (refine CS ?_)
   | (refine CZ ?_)
   | (refine AT ?_)
   | (refine AC ?_)
   | (refine AA ?_)
   | (refine AE ?_)
   | (refine AP ?_)
   | (refine A4 ?_)
   | (refine AK ?_)
   | (refine AM rfl ?_)
   | (refine AN rfl ?_)
   | (refine AW ?_; rintro _ _ ⟨b,rfl,rfl⟩)
   | (refine AV ?_; rintro _ _ ⟨rfl,rfl⟩)
   | (focus ((refine B8 rfl rfl (cmp_eq _ _) rfl rfl (fun h=>?_) (fun h=>?_))))
   | fail)
  all_goals refine AZ (k + 1,_) ⟨by simp only; omega,?_⟩ (by simp only; omega) covZ selZ
  all_goals simp only
  all_goals rw [hstep]
  all_goals (repeat (first | rw [if_pos (by assumption)] | rw [if_neg (by assumption)]))
  all_goals omega
 ·refine AC ?_
  refine Adz ?_;refine Ab4 ?_;refine AI (res1 rfl rfl) rsubZ selZ ⟨rfl,?_⟩
  rw [hy,List.take_of_length_le (by omega),List.take_of_length_le (by omega)]

theorem capacity_spec (ρ:PH) (v:Value) (n b cp:Nat) (T:TypeId) (l:List Arc) (m:List Bool) (hv:ArcsAt ρ v l) (hl:l.length ≤ 20000) (hok:∀ a ∈ l,okArc n a = true) (hm:m.length = n) :
  Ans Tryz.prog (fv 60) [v,.slice (some ⟨b,0,none⟩) n cp] [ρ,sng b (.cells (bools m) T (0,0))] (fun r=>r = int (capOf (fun j=>m.getD j false) l)):=by
 obtain ⟨q,c,rfl,hr⟩:=hv.val encA_len
 refine spec_in (cap:=[]) Tryz.func60 rfl rfl Tryz.ntmps60 rfl envZ (fun N β=>?_)
 refine Ad5 ?_;refine Ab8 ?_
 refine BC [0,1,8,9] ((0,0):Nat × Int) (fun x=>x.1 ≤ l.length ∧ x.2 = capOf (fun j=>m.getD j false) (l.take x.1)) (fun x=>[(5,int x.2),(10,int x.1)]) (fun _=>[]) (fun x=>l.length - x.1) pickZ ⟨by simp,by simp [capOf]⟩ covZ selZ ?_
 rintro ⟨k,y⟩ ⟨hk,hy⟩;simp only at hk hy
 by_cases hlt:k < l.length
 ·have hx:=List.getElem?_eq_getElem hlt
  obtain ⟨b',o,rfl,hA,h0,h1,h2⟩:=arcRow hr hx
  have hbd:=capOf_bd n (fun j=>m.getD j false) (l.take k) (fun a ha=>hok a (List.mem_of_mem_take ha))
  have hlen:(l.take k).length = k:=by simp; omega
  rw [← hy,hlen] at hbd
  obtain ⟨g1,g2,g3,g4,g5,g6,g7⟩:=okArc_iff.1 (hok l[k] (List.getElem_mem hlt))
  have hstep:capOf (fun j=>m.getD j false) (l.take (k + 1)) = y + (if m.getD l[k].f.toNat false = true ∧ m.getD l[k].t.toNat false = false then l[k].c else 0):=by
   rw [take_snoc' hlt,capOf_snoc,hy]
  obtain ⟨f,hf⟩:=Int.eq_ofNat_of_zero_le g1
  obtain ⟨t,ht⟩:=Int.eq_ofNat_of_zero_le g3
  rw [hf,ht] at hA hstep;rw [hf] at g2;rw [ht] at g4
  have e1:m[f]? = some (m.getD f false):=by
   have:f < m.length:=by omega
   simp [this]
  have e2:m[t]? = some (m.getD t false):=by
   have:t < m.length:=by omega
   simp [this]
  simp only [Int.toNat_natCast] at hstep
  cases c1:m.getD f false with
  | false =>
   rw [c1] at e1
   rw [if_neg (by rw [c1]; simp),Int.add_zero] at hstep
   refine Ab7 ?_;refine AW ?_; rintro _ _ ⟨b,rfl,rfl⟩;refine AV ?_; rintro _ _ ⟨rfl,rfl⟩;refine Adb ?_;refine Aac ?_;refine Adm ?_;refine Ack ?_;refine Abg ?_;refine Aa4 ?_
   exact AZ (k + 1,_) ⟨by simp only; omega,hstep.symm⟩ (by simp only; omega) covZ selZ
  | true =>
   rw [c1] at e1
   cases c2:m.getD t false with
   | false =>
    rw [c2] at e2;rw [if_pos ⟨c1,c2⟩] at hstep;refine Ab7 ?_;refine AW ?_; rintro _ _ ⟨b,rfl,rfl⟩;refine AV ?_; rintro _ _ ⟨rfl,rfl⟩;refine Adb ?_;refine Aac ?_;refine BT ?_;refine Acb ?_;refine Aae ?_;refine Adm ?_;refine BD ?_;refine AL ?_;refine Add ?_;refine Aae ?_;refine CS ?_;refine Aab ?_;refine Aa4 ?_
    exact AZ (k + 1,_) ⟨by simp only; omega,hstep.symm⟩ (by simp only; omega) covZ selZ
   | true =>
    rw [c2] at e2
    rw [if_neg (by rw [c2]; simp),Int.add_zero] at hstep
    refine Ab7 ?_;refine AW ?_; rintro _ _ ⟨b,rfl,rfl⟩;refine AV ?_; rintro _ _ ⟨rfl,rfl⟩;refine Adb ?_;refine Aac ?_;refine BT ?_;refine Acb ?_;refine Aae ?_;refine Adm ?_;refine BD ?_;refine AL ?_;refine Aal ?_;refine Aa4 ?_
    exact AZ (k + 1,_) ⟨by simp only; omega,hstep.symm⟩ (by simp only; omega) covZ selZ
 ·refine AC ?_
  refine Adz ?_;refine Ab4 ?_;refine AI (res1 rfl rfl) rsubZ selZ ⟨rfl,?_⟩
  rw [hy,List.take_of_length_le (by omega)]

end Go.Proofs.YtphehihohghfoaaGreat
/- Capacity and Value, of the program and of the reference. -/
namespace Go.Proofs.YtphehihohghfoaaGreat
open Go.Eng Go.Flow
set_option maxRecDepth 100000
set_option maxHeartbeats 4000000

theorem capFun_eq (n:Nat) (side:List Int) (l:List Arc) (hok:∀ a ∈ l,okArc n a = true):capOf (fun j=>(marksOf n side).getD j false) l = capOf (fun j=>decide ((j:Int) ∈ side)) l:=by
 induction l with
 | nil=>rfl
 | cons a l ih =>
  obtain ⟨g1,g2,g3,g4,g5,g6,g7⟩:=okArc_iff.1 (hok a (by simp))
  simp only [capOf]
  rw [ih (fun b hb=>hok b (by simp [hb]))]
  have e1:(marksOf n side).getD a.f.toNat false = decide ((a.f.toNat:Int) ∈ side):=by
   rw [List.getD_eq_getElem?_getD,marksOf_get (by omega)]; rfl
  have e2:(marksOf n side).getD a.t.toNat false = decide ((a.t.toNat:Int) ∈ side):=by
   rw [List.getD_eq_getElem?_getD,marksOf_get (by omega)]; rfl
  simp only [e1,e2]

theorem flowCapacity_spec (ρ σ:PH) (v u:Value) (n:Int) (l:List Arc) (side:List Int) (hv:ArcsAt ρ v l) (hu:IntsAt σ u side) (hl:l.length ≤ 1000000) (hm:side.length ≤ 1000000) :
  Ans Tryz.prog (fv 44) [int n,v,u] [ρ,σ] (fun r=>r = .tuple #[int (capacitySpec n l side).1,int (capacitySpec n l side).2]):=by
 obtain ⟨q2,c2,rfl,hr2⟩:=hu.val Eng.encI_len
 refine spec_in (cap:=[]) Tryz.func44 rfl rfl Tryz.ntmps44 rfl envZ (fun N β=>?_)
 refine Acf ?_;refine Ab6 ?_
 focus ((refine A3 (check_spec ρ v n l hv hl) rfl rfl rdZ rfl rfl ?_; rintro _ rfl))
 refine Ab ?_
 by_cases hc:chk n l = 0
 rotate_left
 ·refine CG ?_
  refine Aag ?_;refine Adu ?_;refine AI (res2 rfl rfl rfl) rsubZ selZ ⟨rfl,?_⟩;unfold capacitySpec; rw [if_pos hc]
 obtain ⟨a1,a2,a3,hok⟩:=chk_ok hc
 obtain ⟨n,rfl⟩:=Int.eq_ofNat_of_zero_le a1
 refine Abc ?_;refine Aad ?_;refine E4 ?_; rintro _ _ ⟨b,rfl,rfl⟩;refine Aab ?_;refine Ab8 ?_;rw [← marksOf_nil]
 refine BC [0,1,2,9,20,21] (0:Nat) (fun k=>k ≤ side.length ∧ sideChk n none side = sideChk n (prevAt side k) (side.drop k)) (fun k=>[(22,int k)]) (fun k=>[sng b (.cells (bools (marksOf n (side.take k))) 4 (0,0))]) (fun k=>side.length - k) pickZ ⟨by omega,by simp [prevAt]⟩ covZ selZ ?_
 rintro k ⟨hk,hy⟩
 have hml:=marksOf_len n (side.take k)
 by_cases hlt:k < side.length
 ·obtain ⟨b2,o2,rfl,g1⟩:=hr2.int (List.getElem?_eq_getElem hlt)
  have g2:1 ≤ k → rdc σ b2 (o2 + (k - 1)) = some (int side[k - 1]):=fun h=>by
   obtain ⟨b3,o3,e,g⟩:=hr2.int (List.getElem?_eq_getElem (show k - 1 < side.length by omega))
   simp only [Option.some.injEq,Addr.mk.injEq,and_true] at e;rw [e.1,e.2]; exact g
  have hin:0 ≤ side[k] ∧ side[k] < (n:Int) ∨ side[k] < 0 ∨ (n:Int) ≤ side[k]:=by omega
  rcases hin with hin | hin
  ·have hpv:k = 0 ∨ (1 ≤ k ∧ side[k] ≤ side[k - 1]) ∨ (1 ≤ k ∧ side[k - 1] < side[k]):=by omega
   have hpa:1 ≤ k → prevAt side k = some side[k - 1]:=fun h=>by
    obtain ⟨j,rfl⟩:∃ j,k = j + 1:=⟨k - 1,by omega⟩
    simp [prevAt]
   obtain ⟨x,hx⟩:=Int.eq_ofNat_of_zero_le hin.1
   rcases hpv with rfl | ⟨h1,h2⟩ | ⟨h1,h2⟩
   ·have hst:=sideChk_step (n:=n) hlt hin.1 hin.2 (by simp [prevAt])
    rw [hx] at g1 hin;refine Abz ?_;refine Ab1 ?_;refine Aan ?_;refine Ab6 ?_
    focus ((refine A3 (inside_spec _ _) rfl rfl rdZ rfl rfl ?_; rintro v (⟨rfl,h⟩ | ⟨rfl,h⟩); rotate_left; (focus (exfalso; omega))))
    refine Acc ?_;refine Aam ?_;refine BO ?_;refine Aba ?_;refine Aai ?_;refine Abg ?_;refine AA ?_;refine Aax ?_;refine BT ?_;refine DG ?_; rintro _ _ ⟨rfl,rfl⟩;refine Ade ?_
    refine AZ 1 ⟨by omega,by rw [hy,hst]⟩ (by omega) covZ ?_
    rw [take_snoc' hlt,hx,marksOf_snoc];exact selZ
   ·have hst:=sideChk_nine (n:=n) hlt hin.1 hin.2 (hpa h1) h2
    have hcs:capacitySpec n l side = (0,9):=by
     unfold capacitySpec
     rw [if_neg (by rw [hc]; simp),hy,hst,if_pos (by simp)]
    have g3:=g2 h1
    rw [hx] at g1 hin h2;refine Abz ?_;refine Ab1 ?_;refine Aan ?_;refine Ab6 ?_
    focus ((refine A3 (inside_spec _ _) rfl rfl rdZ rfl rfl ?_; rintro v (⟨rfl,h⟩ | ⟨rfl,h⟩); rotate_left; (focus (exfalso; omega))))
    refine Acc ?_;refine Aam ?_;refine CI ?_;refine Aax ?_;refine Aax ?_;refine C6 ?_;refine Ab1 ?_;refine CL ?_;refine AL ?_;refine Aag ?_;refine Acf ?_
    exact AI (res2 rfl rfl rfl) rsubZ selZ ⟨rfl,by rw [hcs]⟩
   ·have hst:=sideChk_step (n:=n) hlt hin.1 hin.2 (fun p hp=>by rw [hpa h1] at hp; simp at hp; omega)
    have g3:=g2 h1
    rw [hx] at g1 hin h2;refine Abz ?_;refine Ab1 ?_;refine Aan ?_;refine Ab6 ?_
    focus ((refine A3 (inside_spec _ _) rfl rfl rdZ rfl rfl ?_; rintro v (⟨rfl,h⟩ | ⟨rfl,h⟩); rotate_left; (focus (exfalso; omega))))
    refine Acc ?_;refine Aam ?_;refine CI ?_;refine Aax ?_;refine Aax ?_;refine C6 ?_;refine Ab1 ?_;refine CJ ?_;refine AL ?_;refine Aal ?_;refine AA ?_;refine Aax ?_;refine BT ?_;refine DG ?_; rintro _ _ ⟨rfl,rfl⟩;refine Ade ?_
    refine AZ (k + 1) ⟨by omega,by rw [hy,hst]⟩ (by omega) covZ ?_
    rw [take_snoc' hlt,hx,marksOf_snoc];exact selZ
  ·have hst:=sideChk_two (n:=n) (prevAt side k) hlt hin
   have hcs:capacitySpec n l side = (0,2):=by
    unfold capacitySpec
    rw [if_neg (by rw [hc]; simp),hy,hst,if_pos (by simp)]
   refine Abz ?_;refine Ab1 ?_;refine Aan ?_;refine Ab6 ?_
   focus ((refine A3 (inside_spec _ _) rfl rfl rdZ rfl rfl ?_; rintro v (⟨rfl,h⟩ | ⟨rfl,h⟩); (focus (exfalso; omega))))
   refine Ad4 ?_;refine Acf ?_
   exact AI (res2 rfl rfl rfl) rsubZ selZ ⟨rfl,by rw [hcs]⟩
 ·obtain rfl:k = side.length:=by omega
  rw [List.take_length] at hml;rw [List.take_length];refine Abt ?_;refine Abn ?_
  focus ((refine A3 (capacity_spec ρ v n b n 4 l (marksOf n side) hv (by omega) hok hml) rfl rfl rdZ rfl rfl ?_; rintro _ rfl))
  refine Aan ?_;refine AI (res2 rfl rfl rfl) rsubZ selZ ⟨rfl,?_⟩;unfold capacitySpec
  rw [if_neg (by rw [hc]; simp),hy,List.drop_length]
  rw [if_neg (by simp [sideChk]),capFun_eq n side l hok]

end Go.Proofs.YtphehihohghfoaaGreat
