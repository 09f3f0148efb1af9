/- Texts of this proof, one after the other; no conditions. -/
import Derived.Test.YtphehihohghfoaaGreatWB8
import Derived.Test.YtphehihohghfoaaGreatWB12
import Derived.Test.YtphehihohghfoaaGreatWB3
import Derived.Test.YtphehihohghfoaaGreatWB11
import Derived.Test.YtphehihohghfoaaGreatWB9
import Derived.Test.YtphehihohghfoaaGreatWB2
import Derived.Test.YtphehihohghfoaaGreatWB1
set_option linter.all false
/- Results that lie in memory: a struct and two or three numbers. -/
namespace Go.Eng
variable {L:Env} {R H:List PH}
theorem resSEE {fn:Func} {N:Bs} {M:Nat} {P:Program} {t u u' b1:Nat} {T:TypeId} {v1:List Value} {v2 v3:Value} (hr:fn.results = #[.cell t T,.tmp u,.tmp u']) (ht:look L t = some (.pointer (some ⟨b1,0,none⟩))) (hu:look L u = some v2) (hu':look L u' = some v3) (a1:aggP P T = some true)
    (n1:szP P T = some v1.length) (c1:Cells N R H b1 0 v1):∀ a w,Frm M L a → Sat N R H w → (results fn a.tmps).run P w = .ok (.tuple #[.agg v1.toArray,v2,v3]) w:=by
  intro a w hf hs
  have e1:a.tmps[t]?.getD undef = .pointer (some ⟨b1,0,none⟩):=by simpa using hf.get t _ ht
  have e2:a.tmps[u]?.getD undef = v2:=by simpa using hf.get u _ hu
  have e3:a.tmps[u']?.getD undef = v3:=by simpa using hf.get u' _ hu'
  have l1:=run_loadCells_list (P:=P) (w:=w) ⟨b1,0,none⟩ v1 (fun j v hv=>by rw [Addr.add_lit]; exact c1 w hs j v hv)
  simp [results,hr,e1,e2,e3,loadVar,run_isAgg a1,run_sizeOf n1,l1,asAddr]
theorem resSEEE {fn:Func} {N:Bs} {M:Nat} {P:Program} {t u u' u'' b1:Nat} {T:TypeId} {v1:List Value} {v2 v3 v4:Value} (hr:fn.results = #[.cell t T,.tmp u,.tmp u',.tmp u'']) (ht:look L t = some (.pointer (some ⟨b1,0,none⟩))) (hu:look L u = some v2) (hu':look L u' = some v3) (hu'':look L u'' = some v4) (a1:aggP P T = some true)
    (n1:szP P T = some v1.length) (c1:Cells N R H b1 0 v1):∀ a w,Frm M L a → Sat N R H w → (results fn a.tmps).run P w = .ok (.tuple #[.agg v1.toArray,v2,v3,v4]) w:=by
  intro a w hf hs
  have e1:a.tmps[t]?.getD undef = .pointer (some ⟨b1,0,none⟩):=by simpa using hf.get t _ ht
  have e2:a.tmps[u]?.getD undef = v2:=by simpa using hf.get u _ hu
  have e3:a.tmps[u']?.getD undef = v3:=by simpa using hf.get u' _ hu'
  have e4:a.tmps[u'']?.getD undef = v4:=by simpa using hf.get u'' _ hu''
  have l1:=run_loadCells_list (P:=P) (w:=w) ⟨b1,0,none⟩ v1 (fun j v hv=>by rw [Addr.add_lit]; exact c1 w hs j v hv)
  simp [results,hr,e1,e2,e3,e4,loadVar,run_isAgg a1,run_sizeOf n1,l1,asAddr]
end Go.Eng
/- How much can be brought. -/
namespace Go.Proofs.YtphehihohghfoaaGreat
open Go.Eng Go.Step
set_option maxRecDepth 100000
set_option maxHeartbeats 4000000

set_option maxHeartbeats 32000000 in
theorem plMax_spec {ρ τ σ υ:PH} {pq pc pb ph:Option Addr} {kq kc kb kh:Nat} {qs:List Int} {cs:List Ct} {bs:List Bk} {hs:List Hd} (hT:TbAt ρ τ σ υ pq pc pb ph kq kc kb kh qs cs bs hs) (d:Dm) :
  Eng.Spec Tryz.prog (fv 27) [.agg #[.slice pq qs.length kq,.slice pc cs.length kc,.slice pb bs.length kb,.slice ph hs.length kh],.agg #[int d.s,int d.d,int d.v,int d.r,int d.e]] [ρ,τ,σ,υ] [] (fun r H'=>(validT qs cs bs hs d = true ∧ ∃ (pg:Option Addr) (kg:Nat) (pf:Option Addr) (kf:Nat) (F:List Int) (m:Int) (σg σf:PH),ArcsAt σg (.slice pg (arcsG qs cs bs hs d).length kg) (arcsG qs cs bs hs d) ∧ IntsAt σf (.slice pf F.length kf) F ∧ MaxN qs cs bs hs d F m 0 ∧ H' = [σg,σf] ∧ r = .tuple #[.agg #[int (vsN qs d),.slice pg (arcsG qs cs bs hs d).length kg,int (vtx d d.s d.r),int (vtx d d.d d.e)],.slice pf F.length kf,int m,int 0]) ∨ (validT qs cs bs hs d = false ∧ H' = [] ∧ r = .tuple #[.agg #[int 0,.slice none 0 0,int 0,int 0],.slice none 0 0,int 0,int 1])):=by
 refine spec_in (cap:=[]) Tryz.func27 rfl rfl Tryz.ntmps27 rfl envZ (fun N β=>?_)
 refine AD ?_;refine AA ?_;refine BI (BK rfl) rfl rfl rfl ?_;rintro _ _ ⟨b1,rfl,rfl⟩;refine AS (ρ:=sng b1 _) takeZ ?_
 have ct:RdN (sng b1 (.cells #[.slice pq qs.length kq,.slice pc cs.length kc,.slice pb bs.length kb,.slice ph hs.length kh] 29 (0,0))) b1 0 [.slice pq qs.length kq,.slice pc cs.length kc,.slice pb bs.length kb,.slice ph hs.length kh]:=rdN_sng (vs:=[.slice pq qs.length kq,.slice pc cs.length kc,.slice pb bs.length kb,.slice ph hs.length kh])
 have ct0:rdc (sng b1 (.cells #[.slice pq qs.length kq,.slice pc cs.length kc,.slice pb bs.length kb,.slice ph hs.length kh] 29 (0,0))) b1 0 = some (.slice pq qs.length kq):=by rw [rdc_sng]; rfl
 have ct1:rdc (sng b1 (.cells #[.slice pq qs.length kq,.slice pc cs.length kc,.slice pb bs.length kb,.slice ph hs.length kh] 29 (0,0))) b1 1 = some (.slice pc cs.length kc):=by rw [rdc_sng]; rfl
 have ct2:rdc (sng b1 (.cells #[.slice pq qs.length kq,.slice pc cs.length kc,.slice pb bs.length kb,.slice ph hs.length kh] 29 (0,0))) b1 2 = some (.slice pb bs.length kb):=by rw [rdc_sng]; rfl
 have ct3:rdc (sng b1 (.cells #[.slice pq qs.length kq,.slice pc cs.length kc,.slice pb bs.length kb,.slice ph hs.length kh] 29 (0,0))) b1 3 = some (.slice ph hs.length kh):=by rw [rdc_sng]; rfl
 have ctp:RdP (sng b1 (.cells #[.slice pq qs.length kq,.slice pc cs.length kc,.slice pb bs.length kb,.slice ph hs.length kh] 29 (0,0))) b1 0 [.slice pq qs.length kq,.slice pc cs.length kc]:=rdP_sng (xs:=[.slice pq qs.length kq,.slice pc cs.length kc,.slice pb bs.length kb,.slice ph hs.length kh]) rfl
 refine BI (BK rfl) rfl rfl rfl ?_;rintro _ _ ⟨b2,rfl,rfl⟩;refine AS (ρ:=sng b2 _) takeZ ?_
 have cd:RdN (sng b2 (.cells #[int d.s,int d.d,int d.v,int d.r,int d.e] 31 (0,0))) b2 0 [int d.s,int d.d,int d.v,int d.r,int d.e]:=rdN_sng (vs:=[int d.s,int d.d,int d.v,int d.r,int d.e])
 have cd0:rdc (sng b2 (.cells #[int d.s,int d.d,int d.v,int d.r,int d.e] 31 (0,0))) b2 0 = some (int d.s):=by rw [rdc_sng]; rfl
 have cd1:rdc (sng b2 (.cells #[int d.s,int d.d,int d.v,int d.r,int d.e] 31 (0,0))) b2 1 = some (int d.d):=by rw [rdc_sng]; rfl
 have cd2:rdc (sng b2 (.cells #[int d.s,int d.d,int d.v,int d.r,int d.e] 31 (0,0))) b2 2 = some (int d.v):=by rw [rdc_sng]; rfl
 have cd3:rdc (sng b2 (.cells #[int d.s,int d.d,int d.v,int d.r,int d.e] 31 (0,0))) b2 3 = some (int d.r):=by rw [rdc_sng]; rfl
 have cd4:rdc (sng b2 (.cells #[int d.s,int d.d,int d.v,int d.r,int d.e] 31 (0,0))) b2 4 = some (int d.e):=by rw [rdc_sng]; rfl
 refine A2 ?_; rintro _ _ ⟨b,rfl,rfl⟩;refine AC ?_;refine AC ?_;refine AC ?_;refine AE ?_;refine AD ?_;refine AA ?_;refine AT ?_;refine AT ?_
 revert b; intro b4
 refine BM (Graph_spec hT d) rfl rfl rdZ rfl rfl ?_;rintro _ σg hg
 cases hv:validT qs cs bs hs d with
 | false =>
  rw [hv,if_neg (by simp)] at hg
  obtain ⟨rfl,rfl⟩:=hg
  refine AB ?_;refine AM ?_;refine AM ?_;refine A2 ?_; rintro _ _ ⟨b,rfl,rfl⟩;refine AX ?_; rintro _ _ ⟨rfl,rfl⟩;refine AC ?_;refine AE ?_;refine AD ?_;refine AD ?_;refine AA ?_;refine AB ?_;refine CG ?_;refine AE ?_;refine AO rfl ?_;refine AD ?_;refine AA ?_;refine BT ?_;refine AX ?_; rintro _ _ ⟨rfl,rfl⟩;refine AC ?_;refine AC ?_;refine AC ?_;refine AE ?_;exact AI (resSEEE (b1:=b4) (T:=69) (v1:=[int 0,.slice none 0 0,int 0,int 0]) rfl rfl rfl rfl rfl rfl rfl (cells_own memZ)) rsubZ selZ (.inr ⟨rfl,rfl,rfl⟩)
 | true =>
 rw [hv,if_pos rfl] at hg
 obtain ⟨ug,rfl,hOg⟩:=hg
 have hAt:ArcsAt σg ug (arcsG qs cs bs hs d):=hOg.at
 obtain ⟨pg,kg,rfl⟩:=hOg.form
 have h:=vok hv
 have hEl:=ea_len qs cs bs hs d h
 have hAl:(arcsG qs cs bs hs d).length = (arcsE qs cs bs hs d).length:=by unfold arcsG; rw [List.length_map]
 have hM:=flowMax_spec σg (.slice pg (arcsG qs cs bs hs d).length kg) (vsN qs d) (vtx d d.s d.r) (vtx d d.d d.e) (arcsG qs cs bs hs d) hAt (by omega)
 refine AB ?_;refine AM ?_;refine AM ?_;refine A2 ?_; rintro _ _ ⟨b,rfl,rfl⟩;refine AX ?_; rintro _ _ ⟨rfl,rfl⟩;refine AC ?_;refine AE ?_;refine AD ?_;refine AD ?_;refine AA ?_;refine AB ?_;refine BE ?_;refine AE ?_;refine AN rfl ?_;refine AK ?_;refine AD ?_;refine AA ?_;refine AG ?_;refine AF ?_;refine AG ?_;refine AF ?_;refine AG ?_;refine AF ?_;refine AG ?_;refine AF ?_;refine BM hM rfl rfl rdZ rfl rfl ?_;rintro _ σf ⟨fs,F,m,e,rfl,hF,hm⟩
 obtain ⟨he,_⟩:=max_cut h (show MaxN qs cs bs hs d F m e from hm)
 subst he
 obtain ⟨pf,kf,rfl,_⟩:=hF.val Eng.encI_len
 refine AB ?_;refine AM ?_;refine AM ?_;refine AM ?_;refine AC ?_;refine AC ?_;refine AC ?_;refine AE ?_;refine AD ?_;refine AD ?_;refine AA ?_;refine AB ?_;refine BE ?_;refine AE ?_;refine AN rfl ?_;refine AK ?_;refine AD ?_;refine AA ?_;refine AT ?_;refine AB ?_;refine AB ?_;refine AX ?_; rintro _ _ ⟨rfl,rfl⟩;refine AC ?_;refine AC ?_;refine AC ?_;refine AE ?_;exact AI (resSEEE (b1:=b4) (T:=69) (v1:=[int (vsN qs d),.slice pg (arcsG qs cs bs hs d).length kg,int (vtx d d.s d.r),int (vtx d d.d d.e)]) rfl rfl rfl rfl rfl rfl rfl (cells_own memZ)) rsubZ selZ (.inl ⟨rfl,pg,kg,pf,kf,F,m,σg,σf,hAt,hF,hm,rfl,rfl⟩)
set_option maxHeartbeats 16000000 in
theorem Most_spec {ρ τ σ υ:PH} {pq pc pb ph:Option Addr} {kq kc kb kh:Nat} {qs:List Int} {cs:List Ct} {bs:List Bk} {hs:List Hd} (hT:TbAt ρ τ σ υ pq pc pb ph kq kc kb kh qs cs bs hs) (d:Dm) :
  Ans Tryz.prog (fv 9) [.agg #[.slice pq qs.length kq,.slice pc cs.length kc,.slice pb bs.length kb,.slice ph hs.length kh],.agg #[int d.s,int d.d,int d.v,int d.r,int d.e]] [ρ,τ,σ,υ] (fun r=>(validT qs cs bs hs d = true ∧ ∃ (F:List Int) (m:Int),MaxN qs cs bs hs d F m 0 ∧ r = .tuple #[int m,int 0]) ∨ (validT qs cs bs hs d = false ∧ r = .tuple #[int 0,int 1])):=by
 refine spec_in (cap:=[]) Tryz.func9 rfl rfl Tryz.ntmps9 rfl envZ (fun N β=>?_)
 refine AD ?_;refine AA ?_;refine BI (BK rfl) rfl rfl rfl ?_;rintro _ _ ⟨b1,rfl,rfl⟩;refine AS (ρ:=sng b1 _) takeZ ?_
 have ct:RdN (sng b1 (.cells #[.slice pq qs.length kq,.slice pc cs.length kc,.slice pb bs.length kb,.slice ph hs.length kh] 29 (0,0))) b1 0 [.slice pq qs.length kq,.slice pc cs.length kc,.slice pb bs.length kb,.slice ph hs.length kh]:=rdN_sng (vs:=[.slice pq qs.length kq,.slice pc cs.length kc,.slice pb bs.length kb,.slice ph hs.length kh])
 have ct0:rdc (sng b1 (.cells #[.slice pq qs.length kq,.slice pc cs.length kc,.slice pb bs.length kb,.slice ph hs.length kh] 29 (0,0))) b1 0 = some (.slice pq qs.length kq):=by rw [rdc_sng]; rfl
 have ct1:rdc (sng b1 (.cells #[.slice pq qs.length kq,.slice pc cs.length kc,.slice pb bs.length kb,.slice ph hs.length kh] 29 (0,0))) b1 1 = some (.slice pc cs.length kc):=by rw [rdc_sng]; rfl
 have ct2:rdc (sng b1 (.cells #[.slice pq qs.length kq,.slice pc cs.length kc,.slice pb bs.length kb,.slice ph hs.length kh] 29 (0,0))) b1 2 = some (.slice pb bs.length kb):=by rw [rdc_sng]; rfl
 have ct3:rdc (sng b1 (.cells #[.slice pq qs.length kq,.slice pc cs.length kc,.slice pb bs.length kb,.slice ph hs.length kh] 29 (0,0))) b1 3 = some (.slice ph hs.length kh):=by rw [rdc_sng]; rfl
 have ctp:RdP (sng b1 (.cells #[.slice pq qs.length kq,.slice pc cs.length kc,.slice pb bs.length kb,.slice ph hs.length kh] 29 (0,0))) b1 0 [.slice pq qs.length kq,.slice pc cs.length kc]:=rdP_sng (xs:=[.slice pq qs.length kq,.slice pc cs.length kc,.slice pb bs.length kb,.slice ph hs.length kh]) rfl
 refine BI (BK rfl) rfl rfl rfl ?_;rintro _ _ ⟨b2,rfl,rfl⟩;refine AS (ρ:=sng b2 _) takeZ ?_
 have cd:RdN (sng b2 (.cells #[int d.s,int d.d,int d.v,int d.r,int d.e] 31 (0,0))) b2 0 [int d.s,int d.d,int d.v,int d.r,int d.e]:=rdN_sng (vs:=[int d.s,int d.d,int d.v,int d.r,int d.e])
 have cd0:rdc (sng b2 (.cells #[int d.s,int d.d,int d.v,int d.r,int d.e] 31 (0,0))) b2 0 = some (int d.s):=by rw [rdc_sng]; rfl
 have cd1:rdc (sng b2 (.cells #[int d.s,int d.d,int d.v,int d.r,int d.e] 31 (0,0))) b2 1 = some (int d.d):=by rw [rdc_sng]; rfl
 have cd2:rdc (sng b2 (.cells #[int d.s,int d.d,int d.v,int d.r,int d.e] 31 (0,0))) b2 2 = some (int d.v):=by rw [rdc_sng]; rfl
 have cd3:rdc (sng b2 (.cells #[int d.s,int d.d,int d.v,int d.r,int d.e] 31 (0,0))) b2 3 = some (int d.r):=by rw [rdc_sng]; rfl
 have cd4:rdc (sng b2 (.cells #[int d.s,int d.d,int d.v,int d.r,int d.e] 31 (0,0))) b2 4 = some (int d.e):=by rw [rdc_sng]; rfl
 refine AC ?_;refine AC ?_;refine AE ?_;refine AD ?_;refine AA ?_;refine AT ?_;refine AT ?_;refine BG (plMax_spec hT d) rfl rfl Takes.nil rdZ rfl rfl ?_;rintro _ H' (⟨hv,pg,kg,pf,kf,F,m,σg,σf,hAt,hF,hm,rfl,rfl⟩ | ⟨hv,rfl,rfl⟩)
 ·refine AB ?_
  refine AM ?_;refine AM ?_;refine AM ?_;refine AM ?_;refine A2 ?_; rintro _ _ ⟨b,rfl,rfl⟩;refine AX ?_; rintro _ _ ⟨rfl,rfl⟩;refine AC ?_;refine AC ?_;refine AC ?_;refine AE ?_;refine AD ?_;refine AA ?_;refine AB ?_;refine AB ?_;refine AC ?_;refine AC ?_;refine AE ?_;exact AI (res2 rfl rfl rfl) rsubZ selZ ⟨rfl,.inl ⟨hv,F,m,hm,rfl⟩⟩
 ·refine AB ?_
  refine AM ?_;refine AM ?_;refine AM ?_;refine AM ?_;refine A2 ?_; rintro _ _ ⟨b,rfl,rfl⟩;refine AX ?_; rintro _ _ ⟨rfl,rfl⟩;refine AC ?_;refine AC ?_;refine AC ?_;refine AE ?_;refine AD ?_;refine AA ?_;refine AB ?_;refine AB ?_;refine AC ?_;refine AC ?_;refine AE ?_;exact AI (res2 rfl rfl rfl) rsubZ selZ ⟨rfl,.inr ⟨hv,rfl⟩⟩
set_option maxHeartbeats 32000000 in
theorem refmost_spec {ρ τ σ υ:PH} {pq pc pb ph:Option Addr} {kq kc kb kh:Nat} {qs:List Int} {cs:List Ct} {bs:List Bk} {hs:List Hd} (hT:TbAt ρ τ σ υ pq pc pb ph kq kc kb kh qs cs bs hs) (d:Dm) (hv:validT qs cs bs hs d = true) :
  Eng.Spec Tryz.prog (fv 29) [.agg #[.slice pq qs.length kq,.slice pc cs.length kc,.slice pb bs.length kb,.slice ph hs.length kh],.agg #[int d.s,int d.d,int d.v,int d.r,int d.e]] [ρ,τ,σ,υ] [] (fun r H'=>∃ (pg:Option Addr) (kg:Nat) (pf:Option Addr) (kf:Nat) (F:List Int) (m:Int) (σg σf:PH),ArcsAt σg (.slice pg (arcsG qs cs bs hs d).length kg) (arcsG qs cs bs hs d) ∧ IntsAt σf (.slice pf F.length kf) F ∧ MaxN qs cs bs hs d F m 0 ∧ H' = [σg,σf] ∧ r = .tuple #[.agg #[int (vsN qs d),.slice pg (arcsG qs cs bs hs d).length kg,int (vtx d d.s d.r),int (vtx d d.d d.e)],.slice pf F.length kf,int m]):=by
 refine spec_in (cap:=[]) Tryz.func29 rfl rfl Tryz.ntmps29 rfl envZ (fun N β=>?_)
 refine AD ?_;refine AA ?_;refine BI (BK rfl) rfl rfl rfl ?_;rintro _ _ ⟨b1,rfl,rfl⟩;refine AS (ρ:=sng b1 _) takeZ ?_
 have ct:RdN (sng b1 (.cells #[.slice pq qs.length kq,.slice pc cs.length kc,.slice pb bs.length kb,.slice ph hs.length kh] 29 (0,0))) b1 0 [.slice pq qs.length kq,.slice pc cs.length kc,.slice pb bs.length kb,.slice ph hs.length kh]:=rdN_sng (vs:=[.slice pq qs.length kq,.slice pc cs.length kc,.slice pb bs.length kb,.slice ph hs.length kh])
 have ct0:rdc (sng b1 (.cells #[.slice pq qs.length kq,.slice pc cs.length kc,.slice pb bs.length kb,.slice ph hs.length kh] 29 (0,0))) b1 0 = some (.slice pq qs.length kq):=by rw [rdc_sng]; rfl
 have ct1:rdc (sng b1 (.cells #[.slice pq qs.length kq,.slice pc cs.length kc,.slice pb bs.length kb,.slice ph hs.length kh] 29 (0,0))) b1 1 = some (.slice pc cs.length kc):=by rw [rdc_sng]; rfl
 have ct2:rdc (sng b1 (.cells #[.slice pq qs.length kq,.slice pc cs.length kc,.slice pb bs.length kb,.slice ph hs.length kh] 29 (0,0))) b1 2 = some (.slice pb bs.length kb):=by rw [rdc_sng]; rfl
 have ct3:rdc (sng b1 (.cells #[.slice pq qs.length kq,.slice pc cs.length kc,.slice pb bs.length kb,.slice ph hs.length kh] 29 (0,0))) b1 3 = some (.slice ph hs.length kh):=by rw [rdc_sng]; rfl
 have ctp:RdP (sng b1 (.cells #[.slice pq qs.length kq,.slice pc cs.length kc,.slice pb bs.length kb,.slice ph hs.length kh] 29 (0,0))) b1 0 [.slice pq qs.length kq,.slice pc cs.length kc]:=rdP_sng (xs:=[.slice pq qs.length kq,.slice pc cs.length kc,.slice pb bs.length kb,.slice ph hs.length kh]) rfl
 refine BI (BK rfl) rfl rfl rfl ?_;rintro _ _ ⟨b2,rfl,rfl⟩;refine AS (ρ:=sng b2 _) takeZ ?_
 have cd:RdN (sng b2 (.cells #[int d.s,int d.d,int d.v,int d.r,int d.e] 31 (0,0))) b2 0 [int d.s,int d.d,int d.v,int d.r,int d.e]:=rdN_sng (vs:=[int d.s,int d.d,int d.v,int d.r,int d.e])
 have cd0:rdc (sng b2 (.cells #[int d.s,int d.d,int d.v,int d.r,int d.e] 31 (0,0))) b2 0 = some (int d.s):=by rw [rdc_sng]; rfl
 have cd1:rdc (sng b2 (.cells #[int d.s,int d.d,int d.v,int d.r,int d.e] 31 (0,0))) b2 1 = some (int d.d):=by rw [rdc_sng]; rfl
 have cd2:rdc (sng b2 (.cells #[int d.s,int d.d,int d.v,int d.r,int d.e] 31 (0,0))) b2 2 = some (int d.v):=by rw [rdc_sng]; rfl
 have cd3:rdc (sng b2 (.cells #[int d.s,int d.d,int d.v,int d.r,int d.e] 31 (0,0))) b2 3 = some (int d.r):=by rw [rdc_sng]; rfl
 have cd4:rdc (sng b2 (.cells #[int d.s,int d.d,int d.v,int d.r,int d.e] 31 (0,0))) b2 4 = some (int d.e):=by rw [rdc_sng]; rfl
 refine A2 ?_; rintro _ _ ⟨b,rfl,rfl⟩;refine AC ?_;refine AC ?_;refine AE ?_;refine AD ?_;refine AA ?_;refine AT ?_;refine AT ?_
 revert b; intro b4
 refine BM (refGraph53_spec hT d) rfl rfl rdZ rfl rfl ?_;rintro _ σg hg;rw [if_pos hv] at hg
 obtain ⟨ug,rfl,hOg⟩:=hg
 have hAt:ArcsAt σg ug (arcsG qs cs bs hs d):=hOg.at
 obtain ⟨pg,kg,rfl⟩:=hOg.form
 have h:=vok hv
 have hEl:=ea_len qs cs bs hs d h
 have hAl:(arcsG qs cs bs hs d).length = (arcsE qs cs bs hs d).length:=by unfold arcsG; rw [List.length_map]
 have hM:=refMax_spec σg (.slice pg (arcsG qs cs bs hs d).length kg) (vsN qs d) (vtx d d.s d.r) (vtx d d.d d.e) (arcsG qs cs bs hs d) hAt (by omega)
 refine AB ?_;refine AM ?_;refine AM ?_;refine A2 ?_; rintro _ _ ⟨b,rfl,rfl⟩;refine AX ?_; rintro _ _ ⟨rfl,rfl⟩;refine AC ?_;refine AE ?_;refine AD ?_;refine AA ?_;refine AG ?_;refine AF ?_;refine AG ?_;refine AF ?_;refine AG ?_;refine AF ?_;refine AG ?_;refine AF ?_;refine BM hM rfl rfl rdZ rfl rfl ?_;rintro _ σf ⟨fs,F,m,e,rfl,hF,hm⟩
 obtain ⟨he,_⟩:=max_cut h (show MaxN qs cs bs hs d F m e from hm)
 subst he
 obtain ⟨pf,kf,rfl,_⟩:=hF.val Eng.encI_len
 refine AB ?_;refine AM ?_;refine AM ?_;refine AM ?_;refine AC ?_;refine AC ?_;refine AC ?_;refine AE ?_;refine AD ?_;refine AA ?_;refine AT ?_;refine AB ?_;refine AB ?_;refine AX ?_; rintro _ _ ⟨rfl,rfl⟩;refine AC ?_;refine AC ?_;refine AE ?_;exact AI (resSEE (b1:=b4) (T:=69) (v1:=[int (vsN qs d),.slice pg (arcsG qs cs bs hs d).length kg,int (vtx d d.s d.r),int (vtx d d.d d.e)]) rfl rfl rfl rfl rfl rfl (cells_own memZ)) rsubZ selZ ⟨pg,kg,pf,kf,F,m,σg,σf,hAt,hF,hm,rfl,rfl⟩
set_option maxHeartbeats 16000000 in
theorem refMost54_spec {ρ τ σ υ:PH} {pq pc pb ph:Option Addr} {kq kc kb kh:Nat} {qs:List Int} {cs:List Ct} {bs:List Bk} {hs:List Hd} (hT:TbAt ρ τ σ υ pq pc pb ph kq kc kb kh qs cs bs hs) (d:Dm) :
  Ans Tryz.prog (fv 10) [.agg #[.slice pq qs.length kq,.slice pc cs.length kc,.slice pb bs.length kb,.slice ph hs.length kh],.agg #[int d.s,int d.d,int d.v,int d.r,int d.e]] [ρ,τ,σ,υ] (fun r=>(validT qs cs bs hs d = true ∧ ∃ (F:List Int) (m:Int),MaxN qs cs bs hs d F m 0 ∧ r = .tuple #[int m,int 0]) ∨ (validT qs cs bs hs d = false ∧ r = .tuple #[int 0,int 1])):=by
 refine spec_in (cap:=[]) Tryz.func10 rfl rfl Tryz.ntmps10 rfl envZ (fun N β=>?_)
 refine AD ?_;refine AA ?_;refine BI (BK rfl) rfl rfl rfl ?_;rintro _ _ ⟨b1,rfl,rfl⟩;refine AS (ρ:=sng b1 _) takeZ ?_
 have ct:RdN (sng b1 (.cells #[.slice pq qs.length kq,.slice pc cs.length kc,.slice pb bs.length kb,.slice ph hs.length kh] 29 (0,0))) b1 0 [.slice pq qs.length kq,.slice pc cs.length kc,.slice pb bs.length kb,.slice ph hs.length kh]:=rdN_sng (vs:=[.slice pq qs.length kq,.slice pc cs.length kc,.slice pb bs.length kb,.slice ph hs.length kh])
 have ct0:rdc (sng b1 (.cells #[.slice pq qs.length kq,.slice pc cs.length kc,.slice pb bs.length kb,.slice ph hs.length kh] 29 (0,0))) b1 0 = some (.slice pq qs.length kq):=by rw [rdc_sng]; rfl
 have ct1:rdc (sng b1 (.cells #[.slice pq qs.length kq,.slice pc cs.length kc,.slice pb bs.length kb,.slice ph hs.length kh] 29 (0,0))) b1 1 = some (.slice pc cs.length kc):=by rw [rdc_sng]; rfl
 have ct2:rdc (sng b1 (.cells #[.slice pq qs.length kq,.slice pc cs.length kc,.slice pb bs.length kb,.slice ph hs.length kh] 29 (0,0))) b1 2 = some (.slice pb bs.length kb):=by rw [rdc_sng]; rfl
 have ct3:rdc (sng b1 (.cells #[.slice pq qs.length kq,.slice pc cs.length kc,.slice pb bs.length kb,.slice ph hs.length kh] 29 (0,0))) b1 3 = some (.slice ph hs.length kh):=by rw [rdc_sng]; rfl
 have ctp:RdP (sng b1 (.cells #[.slice pq qs.length kq,.slice pc cs.length kc,.slice pb bs.length kb,.slice ph hs.length kh] 29 (0,0))) b1 0 [.slice pq qs.length kq,.slice pc cs.length kc]:=rdP_sng (xs:=[.slice pq qs.length kq,.slice pc cs.length kc,.slice pb bs.length kb,.slice ph hs.length kh]) rfl
 refine BI (BK rfl) rfl rfl rfl ?_;rintro _ _ ⟨b2,rfl,rfl⟩;refine AS (ρ:=sng b2 _) takeZ ?_
 have cd:RdN (sng b2 (.cells #[int d.s,int d.d,int d.v,int d.r,int d.e] 31 (0,0))) b2 0 [int d.s,int d.d,int d.v,int d.r,int d.e]:=rdN_sng (vs:=[int d.s,int d.d,int d.v,int d.r,int d.e])
 have cd0:rdc (sng b2 (.cells #[int d.s,int d.d,int d.v,int d.r,int d.e] 31 (0,0))) b2 0 = some (int d.s):=by rw [rdc_sng]; rfl
 have cd1:rdc (sng b2 (.cells #[int d.s,int d.d,int d.v,int d.r,int d.e] 31 (0,0))) b2 1 = some (int d.d):=by rw [rdc_sng]; rfl
 have cd2:rdc (sng b2 (.cells #[int d.s,int d.d,int d.v,int d.r,int d.e] 31 (0,0))) b2 2 = some (int d.v):=by rw [rdc_sng]; rfl
 have cd3:rdc (sng b2 (.cells #[int d.s,int d.d,int d.v,int d.r,int d.e] 31 (0,0))) b2 3 = some (int d.r):=by rw [rdc_sng]; rfl
 have cd4:rdc (sng b2 (.cells #[int d.s,int d.d,int d.v,int d.r,int d.e] 31 (0,0))) b2 4 = some (int d.e):=by rw [rdc_sng]; rfl
 refine AC ?_;refine AC ?_;refine AE ?_;refine AD ?_;refine AD ?_;refine AA ?_;refine AT ?_;refine AT ?_;refine A4 (refCheck53_spec hT d) rfl rfl rdZ rfl rfl ?_;rintro _ rfl
 cases hv:validT qs cs bs hs d with
 | false =>
  refine BJ ?_;refine AE ?_;refine AO rfl ?_;refine AD ?_;refine AA ?_;refine AC ?_;refine AC ?_;refine AE ?_;exact AI (res2 rfl rfl rfl) rsubZ selZ ⟨rfl,.inr ⟨rfl,rfl⟩⟩
 | true =>
 refine BJ ?_;refine AE ?_;refine AN rfl ?_;refine AK ?_;refine AD ?_;refine AA ?_;refine AT ?_;refine AT ?_;refine BG (refmost_spec hT d hv) rfl rfl Takes.nil rdZ rfl rfl ?_;rintro _ _ ⟨pg,kg,pf,kf,F,m,σg,σf,hAt,hF,hm,rfl,rfl⟩;refine AB ?_;refine AM ?_;refine AM ?_;refine AM ?_;refine A2 ?_; rintro _ _ ⟨b,rfl,rfl⟩;refine AX ?_; rintro _ _ ⟨rfl,rfl⟩;refine AC ?_;refine AC ?_;refine AE ?_;refine AD ?_;refine AA ?_;refine AB ?_;refine AC ?_;refine AC ?_;refine AE ?_;exact AI (res2 rfl rfl rfl) rsubZ selZ ⟨rfl,.inl ⟨rfl,F,m,hm,rfl⟩⟩
end Go.Proofs.YtphehihohghfoaaGreat
/- What Paths hands back. No program in sight. No conditions. -/
namespace Go.Flow
def PathsOK (n:Int) (l:List Arc) (fl:List Int) (s t:Int) (ps:List (List Lk × Int)) (e:Int):Prop:=
  ((valueSpec n l fl s t).2 ≠ 0 ∧ e = (valueSpec n l fl s t).2 ∧ ps = []) ∨
  ((valueSpec n l fl s t).2 = 0 ∧ e = 0 ∧ ∃ r,RunP n.toNat l s.toNat t.toNat fl ps r)
theorem value_good {n s t:Int} {l:List Arc} {fl:List Int} (h:(valueSpec n l fl s t).2 = 0):∃ n' s' t':Nat,Good n l s t n' s' t' ∧ Flw n' l s' t' fl ∧ (valueSpec n l fl s t).1 = fval s l fl:=by
  obtain ⟨n',s',t',g,hF,hv⟩:=value_flw (F:=fl) (v:=(valueSpec n l fl s t).1) (by rw [← h])
  exact ⟨n',s',t',g,hF,hv⟩
theorem PathsOK.uniq {n s t e f:Int} {l:List Arc} {fl:List Int} {ps qs:List (List Lk × Int)} (h1:PathsOK n l fl s t ps e) (h2:PathsOK n l fl s t qs f):ps = qs ∧ e = f:=by
  rcases h1 with ⟨a1,a2,a3⟩ | ⟨a1,a2,r1,a3⟩ <;> rcases h2 with ⟨b1,b2,b3⟩ | ⟨b1,b2,r2,b3⟩
  · exact ⟨by rw [a3,b3],by rw [a2,b2]⟩
  · exact absurd b1 a1
  · exact absurd a1 b1
  · obtain ⟨n',s',t',g,_,_⟩:=value_good a1
    obtain ⟨rfl,rfl,rfl⟩:=And.intro g.en (And.intro g.es g.et)
    simp only [Int.toNat_natCast] at a3 b3
    exact ⟨(a3.uniq g.ok b3).1,by rw [a2,b2]⟩
theorem RunP.cons {n s t:Nat} {l:List Arc} {fl r:List Int} {p:List Lk × Int} {ps:List (List Lk × Int)} (h:RunP n l s t fl (p :: ps) r) :
    ∃ D,IsDist n t (pE l fl) D ∧ 0 ≤ D.getD s 0 ∧ p.1 = pP l fl D s ∧ p.2 = pRoom l fl D s ∧ RunP n l s t (pNext l fl D s) ps r:=by
  cases h with
  | step hD h0 hr=>exact ⟨_,hD,h0,rfl,rfl,hr⟩
theorem RunP.nil {n s t:Nat} {l:List Arc} {fl r:List Int} (h:RunP n l s t fl [] r):r = fl ∧ ∃ D,IsDist n t (pE l fl) D ∧ D.getD s 0 < 0:=by
  cases h with
  | done hD hn=>exact ⟨rfl,_,hD,hn⟩
end Go.Flow
namespace Go.Flow
/-! ### each path uses up an arc -/
def npos (l:List Int):Nat:=l.countP (fun x=>decide (0 < x))
theorem npos_le:∀ (a b:List Int),a.length = b.length → (∀ k:Nat,b.getD k 0 ≤ a.getD k 0) → npos b ≤ npos a
  | [],[],_,_=>Nat.le_refl _
  | x :: a,y :: b,hl,h=>by
    have ih:=npos_le a b (by simpa using hl) (fun k=>by simpa using h (k + 1))
    have h0:=h 0
    simp only [List.getD_cons_zero] at h0;unfold npos at ih ⊢;simp only [List.countP_cons]
    by_cases h1:0 < y
    · rw [if_pos (by simpa using h1),if_pos (by simp; omega)]; omega
    · rw [if_neg (by simpa using h1)]; omega
theorem npos_lt:∀ (a b:List Int),a.length = b.length → (∀ k:Nat,b.getD k 0 ≤ a.getD k 0) → ∀ j:Nat,0 < a.getD j 0 → b.getD j 0 ≤ 0 → npos b + 1 ≤ npos a
  | [],[],_,_,j,h1,_=>by simp at h1
  | x :: a,y :: b,hl,h,0,h1,h2=>by
    have ih:=npos_le a b (by simpa using hl) (fun k=>by simpa using h (k + 1))
    simp only [List.getD_cons_zero] at h1 h2;unfold npos at ih ⊢;simp only [List.countP_cons]
    rw [if_neg (by simp; omega),if_pos (by simpa using h1)]; omega
  | x :: a,y :: b,hl,h,j + 1,h1,h2=>by
    have ih:=npos_lt a b (by simpa using hl) (fun k=>by simpa using h (k + 1)) j (by simpa using h1) (by simpa using h2)
    have h0:=h 0
    simp only [List.getD_cons_zero] at h0;unfold npos at ih ⊢;simp only [List.countP_cons]
    by_cases h3:0 < y
    · rw [if_pos (by simpa using h3),if_pos (by simp; omega)]; omega
    · rw [if_neg (by simpa using h3)]; omega
theorem subP_le {room:Int} (h0:0 ≤ room) (rest:List Int) (x:Lk) (k:Nat):(subP room rest x).getD k 0 ≤ rest.getD k 0:=by
  unfold subP
  by_cases e:x.k = k
  · subst e
    by_cases hl:x.k < rest.length
    · rw [getD_set hl,if_pos rfl]; omega
    · rw [List.set_eq_of_length_le (by omega)]; exact Int.le_refl _
  · rw [getD_set' e]; exact Int.le_refl _
theorem subAll_le {room:Int} (h0:0 ≤ room):∀ (p:List Lk) (rest:List Int) (k:Nat),(subAll room rest p).getD k 0 ≤ rest.getD k 0
  | [],rest,k=>Int.le_refl _
  | x :: p,rest,k=>Int.le_trans (subAll_le h0 p (subP room rest x) k) (subP_le h0 rest x k)
theorem subAll_used {room:Int} (h0:0 ≤ room):∀ (p:List Lk) (rest:List Int) (x:Lk),x ∈ p → x.k < rest.length → (subAll room rest p).getD x.k 0 ≤ rest.getD x.k 0 - room
  | [],rest,x,hx,_=>by simp at hx
  | y :: p,rest,x,hx,hl=>by
    simp at hx
    rcases hx with rfl | hx
    · refine Int.le_trans (subAll_le h0 p (subP room rest x) x.k) ?_
      unfold subP;rw [getD_set hl,if_pos rfl]; exact Int.le_refl _
    · have:=subAll_used h0 p (subP room rest y) x hx (by rw [subP_len]; exact hl)
      have:=subP_le h0 rest y x.k
      show (subAll room (subP room rest y) p).getD x.k 0 ≤ _
      omega
theorem least_attained (rm:Nat → Int):∀ (p:List Lk) (m:Int),p.foldl (fun m x=>min m (rm x.k)) m = m ∨ ∃ x ∈ p,rm x.k = p.foldl (fun m x=>min m (rm x.k)) m
  | [],m=>.inl rfl
  | y :: p,m=>by
    simp only [List.foldl_cons]
    rcases least_attained rm p (min m (rm y.k)) with h | ⟨x,hx,h⟩
    · rw [h]
      by_cases hc:m ≤ rm y.k
      · left; omega
      · right; exact ⟨y,by simp,by omega⟩
    · right; exact ⟨x,by simp [hx],h⟩
theorem pNext_pos {n s t:Nat} {l:List Arc} (hok:∀ a ∈ l,okArc n a = true) (hs:s < n) (hst:s ≠ t) {fl D:List Int} (hf:Flw n l s t fl) (hD:IsDist n t (pE l fl) D) (h0:0 ≤ D.getD s 0):npos (pNext l fl D s) + 1 ≤ npos fl:=by
  obtain ⟨k,hk⟩:=Int.eq_ofNat_of_zero_le h0
  have hch:=path_chn (pl_lt hok) hD k s hs hk
  have hlen:(pP l fl D s).length = k:=path_len (pl_lt hok) hD k s hs hk
  have hpos:=(pNext_ok hok hs hst hf hD h0).2.1
  have hk0:k ≠ 0:=fun e=>by
    subst e
    exact hst (hD.zero s hs (by omega))
  have hatt:∃ x ∈ pP l fl D s,rmP fl x.k = pRoom l fl D s:=by
    rcases least_attained (rmP fl) (pP l fl D s) 1099511627776 with h | h
    · have hne:pP l fl D s ≠ []:=fun e=>by rw [e] at hlen; simp at hlen; omega
      obtain ⟨x,p,hxp⟩:=List.exists_cons_of_ne_nil hne
      refine ⟨x,by rw [hxp]; simp,?_⟩
      have hle:=(leastR_le (rmP fl) (pP l fl D s) 1099511627776).2 x (by rw [hxp]; simp)
      have hxP:x ∈ pP l fl D s:=by rw [hxp]; simp
      have hxm:=(hch.all x hxP).1.1
      obtain ⟨j,a,ha,rfl⟩:=plinks_iff.1 hxm
      have hjl:j < l.length:=(List.getElem?_eq_some_iff.1 ha).1
      have hfj:fl[j]? = some (fl.getD j 0):=by have:=hf.len; simp [List.getD_eq_getElem?_getD,show j < fl.length by omega]
      have hin:=inCap_get l fl hf.cap j a _ ha hfj
      have hka:=okArc_iff.1 (hok a (List.mem_of_getElem? ha))
      show fl.getD j 0 = _
      have h9:pRoom l fl D s = 1099511627776:=h
      have h10:pRoom l fl D s ≤ fl.getD j 0:=hle
      omega
    · exact h
  obtain ⟨x,hx,hxr⟩:=hatt
  have hxk:x.k < fl.length:=by rw [← hf.len]; exact pl_k (hch.all x hx).1.1
  refine npos_lt fl _ (by rw [subAll_len]) (fun k=>subAll_le (Int.le_of_lt hpos) _ _ k) x.k ?_ ?_
  · have h2:fl.getD x.k 0 = pRoom l fl D s:=hxr
    rw [h2]; exact hpos
  · have h1:=subAll_used (Int.le_of_lt hpos) (pP l fl D s) fl x hx hxk
    have h2:fl.getD x.k 0 = pRoom l fl D s:=hxr
    rw [h2,Int.sub_self] at h1;exact h1
theorem npos_len (l:List Int):npos l ≤ l.length:=List.countP_le_length
end Go.Flow
namespace Go.Flow
theorem RunP.small {n s t:Nat} {l:List Arc} (hok:∀ a ∈ l,okArc n a = true) (hs:s < n) (ht:t < n) (hst:s ≠ t) {fl r:List Int} {ps:List (List Lk × Int)} (h:RunP n l s t fl ps r):Flw n l s t fl → ps.length ≤ npos fl ∧ ∀ p ∈ ps,p.1.length ≤ n:=by
  induction h with
  | done=>intro _; simp
  | @step fl D r ps hD h0 _ ih =>
    intro hf
    obtain ⟨hN1,_,_⟩:=pNext_ok hok hs hst hf hD h0
    have hp:=pNext_pos hok hs hst hf hD h0
    obtain ⟨i1,i2⟩:=ih hN1
    refine ⟨by simp only [List.length_cons]; omega,fun p hp=>?_⟩
    simp at hp
    rcases hp with rfl | hp
    · obtain ⟨k,hk⟩:=Int.eq_ofNat_of_zero_le h0
      have h3:(pP l fl D s).length = k:=path_len (pl_lt hok) hD k s hs hk
      have h2:=hD.lt (fun x hx=>pl_lt hok x hx.1) ht hs
      dsimp only
      omega
    · exact i2 p hp
theorem paths_small {n s t e:Int} {l:List Arc} {fl:List Int} {ps:List (List Lk × Int)} (h:PathsOK n l fl s t ps e):ps.length ≤ 20000 ∧ ∀ p ∈ ps,p.1.length ≤ 2000:=by
  rcases h with ⟨_,_,rfl⟩ | ⟨a1,_,r,a3⟩
  · simp
  · obtain ⟨n',s',t',g,hF,_⟩:=value_good a1
    obtain ⟨rfl,rfl,rfl⟩:=And.intro g.en (And.intro g.es g.et)
    simp only [Int.toNat_natCast] at a3
    obtain ⟨h1,h2⟩:=a3.small g.ok g.sn g.tn g.ne hF
    have:=npos_len fl
    have:=hF.len
    have:=g.l2
    have:=g.n2
    exact ⟨by omega,fun p hp=>by have:=h2 p hp; omega⟩
end Go.Flow
/- Paths of the program. -/
namespace Go.Proofs.YtphehihohghfoaaGreat
open Go.Eng Go.Flow
set_option maxRecDepth 100000
set_option maxHeartbeats 4000000

theorem ints_one (l:List Int):∀ u ∈ l.flatMap Eng.encI,u.oneCell' = true:=by
 intro u hu
 rw [List.mem_flatMap] at hu
 obtain ⟨a,_,hu⟩:=hu
 simp only [Eng.encI,List.mem_cons,List.not_mem_nil,or_false] at hu;subst hu; rfl
theorem cloneInt_spec (ρ:PH) (v:Value) (l:List Int) (hv:IntsAt ρ v l) (hl:l.length ≤ 1000000) :
  Makes Tryz.prog (fv 65) [v] [ρ] (fun r σ=>OwnS 3 1 r l.length (l.flatMap Eng.encI) σ):=by
 have hv2:=hv
 obtain ⟨q,c,rfl,hr⟩:=hv.val Eng.encI_len
 refine spec_in (cap:=[]) Tryz.func65 rfl rfl Tryz.ntmps65 rfl envZ (fun N β=>?_)
 cases q with
 | none =>
  have hnil:l = []:=by
   cases l with
   | nil=>rfl
   | cons a l =>
    obtain ⟨b,o,e,_⟩:=hr 0 a rfl
    simp at e
  subst hnil;refine BV ?_;refine AD ?_;refine AA ?_;refine AC ?_;refine AE ?_;refine AD ?_;refine AD ?_;refine AA ?_;refine AB ?_
  focus ((refine' CR _ rfl rfl rfl _; rotate_left; (apply G0; exact rfl; exact rfl; exact rfl)))
  refine AE ?_;refine AO rfl ?_;refine AD ?_;refine AA ?_;refine AC ?_;refine AE ?_;exact AI (res1 rfl rfl) rsubZ selZ ⟨emp,OwnS.nil _ _,rfl⟩
 | some ad =>
  refine AD ?_;refine AA ?_;refine AC ?_;refine AE ?_;refine AD ?_;refine AD ?_;refine AA ?_;refine AB ?_
  focus ((refine' CR _ rfl rfl rfl _; rotate_left; (apply G1; exact rfl; exact rfl; exact rfl)))
  refine AE ?_;refine AN rfl ?_;refine AK ?_;refine AD ?_;refine AA ?_;refine A9 ?_; rintro _ _ ⟨b,rfl,rfl⟩;refine AB ?_
  rcases Nat.eq_zero_or_pos l.length with h0 | h0
  ·have hnil:l = []:=List.eq_nil_of_length_eq_zero h0
   subst hnil
   focus ((refine' CR _ rfl rfl rfl _; rotate_left; (apply FV; exact rfl; exact rfl; exact rfl; exact rfl; omega)))
   refine AC ?_;refine AE ?_;exact AI (res1 rfl rfl) rsubZ selZ ⟨_,OwnS.empty,rfl⟩
  ·obtain ⟨b2,o2,c2,e,hcell⟩:=SlAt.some hv2 h0
   simp only [Value.slice.injEq,Option.some.injEq,true_and] at e
   obtain ⟨rfl,rfl⟩:=e
   refine BI (BP (by_:=8) (s:=1) (news:=l.flatMap Eng.encI) rfl rfl rfl rfl rfl rfl rfl (OwnS.empty (b:=b)) takeZ (cellsR (ρ:=ρ) hcell memZ) (flat_len Eng.encI_len l) (ints_one l) h0 (by simp only [maxLen]; omega) (by omega)) rfl rfl rfl ?_
   rintro r1 _ ⟨σ,hO,rfl⟩;refine AC ?_;refine AE ?_;refine AI (res1 rfl rfl) rsubZ selZ ⟨σ,?_,rfl⟩
   simpa using hO
theorem OwnS.num {e:TypeId} {b n cap:Nat} {l:List Int} {ρ:PH} (h:OwnS e 1 (.slice (some ⟨b,0,none⟩) n cap) l.length (l.flatMap Eng.encI) ρ) {i:Nat} (hi:i < l.length):rdc ρ b i = some (int (l.getD i 0)):=by
 have hS:SlE Eng.encI 1 ρ (.slice (some ⟨b,0,none⟩) n cap) l:=h.at
 obtain ⟨p,c,e1,hr⟩:=hS.val Eng.encI_len
 simp only [Value.slice.injEq] at e1
 obtain ⟨b',o',e2,h2⟩:=hr.int (List.getElem?_eq_getElem hi)
 rw [← e1.1] at e2;simp only [Option.some.injEq,Addr.mk.injEq,and_true] at e2
 obtain ⟨rfl,rfl⟩:=e2
 rw [Nat.zero_add] at h2;rw [h2]
 simp [List.getD_eq_getElem?_getD,hi]
theorem OwnS.some_of {e:TypeId} {s:Nat} {v:Value} {l:List Int} {ρ:PH} (h:OwnS e s v l.length (l.flatMap Eng.encI) ρ) (h0:0 < l.length):∃ b cap,v = .slice (some ⟨b,0,none⟩) l.length cap:=by
 rcases h.block with ⟨_,h2,_⟩ | ⟨b,cap,cur,h2,_⟩
 ·rw [h2] at h0; simp at h0
 ·exact ⟨b,cap,h2⟩
abbrev roomP (b:Nat):Value:=.func (.func 67) #[] #[.pointer (some ⟨b,0,none⟩)]
theorem paths1_spec (ρ:PH) (b k:Nat) (T e:TypeId) (rv:Value) (rest:List Int) (hO:OwnS e 1 rv rest.length (rest.flatMap Eng.encI) ρ) (hk:k < rest.length) :
  Ans Tryz.prog (roomP b) [int k] [sng b (.cells #[rv] T (0,0)),ρ] (fun r=>r = int (rmP rest k)):=by
 obtain ⟨br,cap,rfl⟩:=OwnS.some_of hO (by omega)
 have c1:rdc (sng b (.cells #[.slice (some ⟨br,0,none⟩) rest.length cap] T (0,0))) b 0 = some (.slice (some ⟨br,0,none⟩) rest.length cap):=by rw [rdc_sng]; rfl
 have c2:=OwnS.num hO hk
 refine spec_in (cap:=[.pointer (some ⟨b,0,none⟩)]) Tryz.func67 rfl rfl Tryz.ntmps67 rfl envZ (fun N β=>?_)
 refine AD ?_;refine AA ?_;refine AC ?_;refine AE ?_;refine AD ?_;refine AA ?_;refine AF ?_;refine AB ?_;refine BH ?_;refine AF ?_;refine AC ?_;refine AE ?_;exact AI (res1 rfl rfl) rsubZ selZ ⟨rfl,rfl⟩

def encPV (x:Value × Int):List Value:=[x.1,int x.2]
theorem encPV_len (x:Value × Int):(encPV x).length = 2:=rfl
def ArcsIn (σ:PH) (es:List (Value × Int)) (ps:List (List Lk × Int)):Prop:=
 es.length = ps.length ∧ ∀ (i:Nat) (e:Value × Int) (p:List Lk × Int),es[i]? = some e → ps[i]? = some p → e.2 = p.2 ∧ IntsAt σ e.1 (ksOf p.1)
theorem ArcsIn.nil (σ:PH):ArcsIn σ [] []:=⟨rfl,by intro i e p h; simp at h⟩
theorem ArcsIn.sub {σ τ:PH} {es:List (Value × Int)} {ps:List (List Lk × Int)} (h:ArcsIn σ es ps) (hs:PH.sub σ τ):ArcsIn τ es ps:=⟨h.1,fun i e p h1 h2=>⟨(h.2 i e p h1 h2).1,hs.slE (h.2 i e p h1 h2).2⟩⟩
theorem ArcsIn.snoc {σ:PH} {es:List (Value × Int)} {ps:List (List Lk × Int)} {e:Value × Int} {p:List Lk × Int} (h:ArcsIn σ es ps) (h1:e.2 = p.2) (h2:IntsAt σ e.1 (ksOf p.1)):ArcsIn σ (es ++ [e]) (ps ++ [p]):=by
 refine ⟨by simp [h.1],fun i e' p' k1 k2=>?_⟩
 by_cases hi:i < es.length
 ·rw [List.getElem?_append_left hi] at k1
  rw [List.getElem?_append_left (by rw [← h.1]; exact hi)] at k2
  exact h.2 i e' p' k1 k2
 ·rw [List.getElem?_append_right (by omega)] at k1
  rw [List.getElem?_append_right (by rw [← h.1]; omega)] at k2
  have hz:i - es.length = 0:=by
   have:=(List.getElem?_eq_some_iff.1 k1).1
   simp at this; omega
  rw [hz] at k1;rw [← h.1,hz] at k2
  simp at k1 k2
  subst k1; subst k2;exact ⟨h1,h2⟩
def PathsAt (σ:PH) (u:Value) (ps:List (List Lk × Int)):Prop:=∃ es,SlE encPV 2 σ u es ∧ ArcsIn σ es ps

set_option maxHeartbeats 8000000 in
theorem flowPaths_spec (ρ σ:PH) (v u:Value) (n s t:Int) (l:List Arc) (fl:List Int) (hv:ArcsAt ρ v l) (hu:IntsAt σ u fl) (hl:l.length ≤ 1000000) :
  Makes Tryz.prog (fv 32) [int n,v,u,int s,int t] [ρ,σ] (fun r τ=>∃ w ps e,r = .tuple #[w,int e] ∧ PathsAt τ w ps ∧ PathsOK n l fl s t ps e):=by
 have hnil:PathsAt emp (.slice none 0 0) []:=⟨[],⟨rfl,.inl ⟨rfl,none,0,rfl⟩⟩,ArcsIn.nil _⟩
 have hv2:=hv
 obtain ⟨q,c,rfl,hr⟩:=hv.val encA_len
 refine spec_in (cap:=[]) Tryz.func32 rfl rfl Tryz.ntmps32 rfl envZ (fun N β=>?_)
 refine AD ?_;refine AA ?_;refine AC ?_;refine AC ?_;refine AE ?_;refine AD ?_;refine AD ?_;refine AA ?_;refine AB ?_;refine AB ?_;refine AB ?_;refine AB ?_;refine AB ?_;refine A4 (flowValue_spec ρ σ _ u n s t l fl hv2 hu hl) rfl rfl rdZ rfl rfl ?_;rintro _ rfl
 by_cases h0:(valueSpec n l fl s t).2 = 0
 rotate_left
 ·refine AB ?_
  refine AM ?_;refine AM ?_;refine AC ?_;refine AC ?_;refine AE ?_;refine AD ?_;refine AA ?_;refine AB ?_;refine CG ?_;refine AE ?_;refine AO rfl ?_;refine AD ?_;refine AA ?_;refine AB ?_;refine AC ?_;refine AC ?_;refine AE ?_;refine BV ?_;exact AI (res2 rfl rfl rfl) rsubZ selZ ⟨emp,⟨_,[],_,rfl,hnil,.inl ⟨h0,rfl,rfl⟩⟩,rfl⟩
 obtain ⟨n',s',t',g,hF0,_⟩:=value_good h0
 obtain ⟨rfl,rfl,rfl⟩:=And.intro g.en (And.intro g.es g.et)
 have hn2:=g.n2
 have hl2:=g.l2
 have hpl:=pl_lt g.ok
 have hcap:∀ a ∈ l,0 ≤ a.c ∧ a.c ≤ 1099511627776:=fun a ha=>by have:=okArc_iff.1 (g.ok a ha); omega
 have hpk:∀ x ∈ plinks l,x.f < n' ∧ x.t < n' ∧ x.k ≤ 40000:=fun x hx=>by have:=hpl x hx; have:=pl_k hx; omega
 have hGok:GOk n' (outsOf (plinks l)) (insOf (plinks l)):=GOk_of hn2 (by rw [plinks_len]; omega) hpk
 refine AB ?_;refine AM ?_;refine AM ?_;refine AC ?_;refine AC ?_;refine AE ?_;refine AD ?_;refine AA ?_;refine AB ?_;refine BE ?_;refine AE ?_;refine AN rfl ?_;refine AK ?_;refine AD ?_;refine AA ?_;refine AB ?_
 refine BM (cloneInt_spec σ u fl hu (by rw [← hF0.len]; omega)) rfl rfl rdZ rfl rfl ?_
 rintro rv ρr hO
 have hrv1:rv.oneCell' = true:=OwnS.one hO
 refine BI (FE rfl rfl) rfl rfl rfl ?_;rintro _ _ ⟨bb,rfl,rfl⟩;refine CM (EJ rfl rfl hrv1 rfl takeZ SetL.here) rfl rfl ?_;rintro _ _ ⟨rfl,rfl⟩;refine AE ?_;refine AD ?_;refine AA ?_;refine AB ?_;refine CF ?_;refine BG (newGraph_spec n' 67 [.pointer (some ⟨bb,0,none⟩)] hn2) rfl rfl takesZ rdZ rfl rfl ?_;rintro _ _ ⟨gb,ob,ib,rfl,rfl⟩;simp only [List.cons_append,List.nil_append]
 have hG0:=GBl_new gb ob ib n' (roomP bb)
 refine ET (n' + n') ?_;simp only [List.cons_append,List.nil_append];refine AC ?_;refine AE ?_;refine AD ?_;refine AD ?_;refine AA ?_;refine AB ?_;refine AV ?_;refine AB ?_;refine AE ?_;refine AP ?_
 refine BB [0,1,3,4,14,15,41,42] (X:=Nat × List PH) (0,_) (fun x=>x.1 ≤ l.length ∧ GBl gb ob ib n' (roomP bb) (plinks (l.take x.1)) x.2) (fun x=>[(43,int x.1)])
  (fun x=>sng bb (.cells #[rv] 22 (0,0)) :: ρr :: x.2) (fun x=>l.length - x.1) pickZ ⟨by simp,hG0⟩ covZ ?_ ?_
 ·refine Sel.cons takeZ (Sel.cons takeZ (Sel.cons takeZ (Sel.cons takeZ (Sel.cons takeZ ?_))))
  rw [List.replicate_append_replicate];exact Sel.refl
 rintro ⟨k,Hg⟩ ⟨hk,hG⟩
 dsimp only at hk hG ⊢
 by_cases hlt:k < l.length
 ·have hx:=List.getElem?_eq_getElem hlt
  obtain ⟨b',o,rfl,hA,h0',h1',h2'⟩:=arcRow hr hx
  obtain ⟨g1,g2,g3,g4,g5,g6,g7⟩:=okArc_iff.1 (g.ok l[k] (List.getElem_mem hlt))
  obtain ⟨f,hf⟩:=Int.eq_ofNat_of_zero_le g1
  obtain ⟨t2,ht2⟩:=Int.eq_ofNat_of_zero_le g3
  have hlr:=plinks_len (l.take k)
  have hlk:(l.take k).length = k:=by simp; omega
  have hsn:=plinks_snoc (l.take k) l[k]
  rw [← take_snoc' hlt,hlk,hf,ht2] at hsn;simp only [Int.toNat_natCast] at hsn;rw [hf,ht2] at hA
  have a1:=add_bl hG k f t2 (by omega) (by omega) (by omega)
  refine AD ?_;refine AA ?_;refine BD ?_;refine AE ?_;refine AD ?_;refine AO rfl ?_;refine AK ?_;refine AD ?_;refine AP ?_;refine AD ?_;refine AA ?_;refine AB ?_;refine A3 ?_;refine AT ?_;refine A2 ?_; rintro _ _ ⟨b,rfl,rfl⟩;refine AC ?_;refine AX ?_; rintro _ _ ⟨rfl,rfl⟩;refine AE ?_;refine AA ?_;refine AB ?_;refine AB ?_;refine AG ?_;refine AF ?_;refine AG ?_;refine AF ?_;refine BG a1 rfl rfl (Takes.skips [_,_,_] Takes.all) rdZ rfl rfl ?_;rintro _ H1 ⟨rfl,hG1⟩
  refine CS (H':=sng b (.cells #[int (f:Int),int (t2:Int),int l[k].c] 141 (0,0)) :: sng bb (.cells #[rv] 22 (0,0)) :: ρr :: H1) (by simpa using List.perm_append_comm (l₁:=H1) (l₂:=[_,_,_])) ?_
  refine AE ?_;refine AZ ?_;refine AA ?_;refine A7 ?_;refine AB ?_;refine AE ?_
  refine AU (k + 1,H1) ⟨by dsimp only; omega,?_⟩ (by dsimp only; omega) covZ (Sel.cons takeZ (Sel.cons takeZ (Sel.skip Sel.refl)))
  dsimp only
  rw [hsn];exact hG1
 rw [List.take_of_length_le (by omega)] at hG
 refine CS (H':=Hg ++ [sng bb (.cells #[rv] 22 (0,0)),ρr]) (by simpa using List.perm_append_comm (l₂:=Hg) (l₁:=[_,_])) ?_
 refine DX (fun γ hγ=>?_)
 have hGA:=hG.at hγ
 refine AS (ρ:=γ) takeZ ?_;refine BV ?_;refine BV ?_;refine AD ?_;refine AA ?_;refine AY ?_;refine AE ?_;refine AD ?_;refine AN rfl ?_;refine A5 rfl ?_;refine AD ?_;refine AA ?_;refine AC ?_;refine AE ?_;refine AP ?_
 refine BB [0,1,3,4,14,15] (X:=(List Int × List (List Lk × Int)) × ((Value × List (Value × Int)) × ((PH × PH) × PH))) ((fl,[]),((.slice none 0 0,[]),((emp,emp),ρr)))
  (fun x=>Flw n' l s' t' x.1.1 ∧ (∀ ps r,RunP n' l s' t' x.1.1 ps r → RunP n' l s' t' fl (x.1.2 ++ ps) r) ∧ OwnS 3 1 rv x.1.1.length (x.1.1.flatMap Eng.encI) x.2.2.2 ∧ OwnS 87 2 x.2.1.1 x.2.1.2.length (x.2.1.2.flatMap encPV) x.2.2.1.1 ∧ ArcsIn x.2.2.1.2 x.2.1.2 x.1.2 ∧ x.1.2.length + npos x.1.1 ≤ l.length)
  (fun x=>[(18,x.2.1.1)]) (fun x=>[sng bb (.cells #[rv] 22 (0,0)),x.2.2.2,x.2.2.1.1,x.2.2.1.2]) (fun x=>(fval s' l x.1.1 + 1099511627776 * (2 * (l.length:Int))).toNat)
  pickZ ⟨hF0,fun _ _ h=>h,hO,OwnS.nil _ _,ArcsIn.nil _,by have:=npos_len fl; have:=hF0.len; dsimp only [List.length_nil]; omega⟩ covZ selZ ?_
 rintro ⟨⟨rest,ps⟩,⟨⟨ov,es⟩,⟨⟨ρo,ρa⟩,ρ1⟩⟩⟩ ⟨hF,hrun,hO1,hOo,hAr,hcnt⟩
 dsimp only at hF hrun hO1 hOo hAr hcnt ⊢
 have hb0:=fval_bd s' l fl (inCap_small l _ hF0.len hF0.cap g.ok)
 have hb1:=fval_bd s' l rest (inCap_small l _ hF.len hF.cap g.ok)
 rw [← hF0.len] at hb0;rw [← hF.len] at hb1
 have hrm:∀ v x,v < n' → x ∈ insOf (plinks l) v → Ans Tryz.prog (roomP bb) [int x.k] [sng bb (.cells #[rv] 22 (0,0)),ρ1] (fun r=>r = int (rmP rest x.k)):=fun v x _ hx=>by
  have hm:x ∈ plinks l:=by unfold insOf at hx; exact (List.mem_filter.1 hx).1
  exact paths1_spec ρ1 bb x.k _ _ rv rest hO1 (by rw [← hF.len]; exact pl_k hm)
 refine AP ?_;refine AD ?_;refine AA ?_;refine AB ?_;refine AB ?_;refine AB ?_;refine BM (path_spec γ gb n' s' t' (outsOf (plinks l)) (insOf (plinks l)) (roomP bb) (rmP rest) _ hGA hGok g.sn g.tn hrm) rfl rfl rdZ rfl rfl ?_;rintro _ ρp ⟨D,pv,hD,rfl,hP⟩;rw [opens_opn hpl] at hD;rw [nxO_nxt] at hP
 by_cases hd0:0 ≤ D.getD s' 0
 rotate_left
 ·rw [decide_eq_false hd0]
  refine AB ?_;refine AM ?_;refine AM ?_;refine AC ?_;refine AC ?_;refine AE ?_;refine AD ?_;refine AD ?_;refine AA ?_;refine AB ?_;refine BJ ?_;refine AE ?_;refine AO rfl ?_;refine AD ?_;refine AA ?_;refine AB ?_;refine AC ?_;refine AC ?_;refine AE ?_
  refine DF (ρ:=ρo) takeZ (σ:=ρa) takeZ (fun δ k1 k2=>?_)
  refine AI (res2 rfl rfl rfl) rsubZ selZ ⟨δ,⟨ov,ps,0,rfl,⟨es,k1.slE hOo.at,hAr.sub k2⟩,.inr ⟨h0,rfl,rest,?_⟩⟩,rfl⟩
  have:=hrun [] rest (.done hD (by omega))
  simpa using this
 rw [decide_eq_true hd0]
 obtain ⟨hN1,hN2,hN3⟩:=pNext_ok g.ok g.sn g.ne hF hD hd0
 obtain ⟨k0,hk0⟩:=Int.eq_ofNat_of_zero_le hd0
 have hDn:=hD.lt (fun x hx=>hpl x hx.1) g.tn g.sn
 have hPl:(pP l rest D s').length = k0:=path_len hpl hD k0 s' g.sn hk0
 have hPm:∀ x ∈ pP l rest D s',x ∈ plinks l:=fun x hx=>((path_chn hpl hD k0 s' g.sn hk0).all x hx).1.1
 have hroom:pRoom l rest D s' ≤ 1099511627776:=(leastR_le _ _ _).1
 have hIn:IntsAt ρp pv (ksOf (pP l rest D s')):=ownInts (e:=3) (by rw [show (ksOf (pP l rest D s')).length = (pP l rest D s').length from by simp [ksOf]]; exact hP)
 have hlst:=least_spec γ ρp gb (roomP bb) pv (rmP rest) _ (pP l rest D s') hGA.r hIn (by omega) (fun x hx=>hrm x.t x (hpl x (hPm x hx)).2 (by unfold insOf; rw [List.mem_filter]; exact ⟨hPm x hx,by simp⟩))
 have hpv1:pv.oneCell' = true:=SlE.one hIn
 have hroom2:leastR (rmP rest) (pP l rest D s') ≤ 1099511627776:=hroom
 have hroom3:0 < leastR (rmP rest) (pP l rest D s'):=hN2
 obtain ⟨q2,c2,rfl,hr2⟩:=hIn.val Eng.encI_len
 have hkl:(ksOf (pP l rest D s')).length = (pP l rest D s').length:=by simp [ksOf]
 have hmu:=fval_bd s' l (pNext l rest D s') (inCap_small l _ hN1.len hN1.cap g.ok)
 rw [← hN1.len] at hmu;refine AB ?_;refine AM ?_;refine AM ?_;refine AC ?_;refine AC ?_;refine AE ?_;refine AD ?_;refine AD ?_;refine AA ?_;refine AB ?_;refine BJ ?_;refine AE ?_;refine AN rfl ?_;refine AK ?_;refine AD ?_;refine AA ?_;refine AB ?_;refine AB ?_;refine A4 hlst rfl rfl rdZ rfl rfl ?_;rintro _ rfl;refine AC ?_;refine AE ?_;refine AD ?_;refine AD ?_;refine AA ?_;refine AB ?_;refine AV ?_;refine AB ?_;refine AE ?_;refine AP ?_
 refine BB [0,1,3,4,14,15,18,19,21,69,70] (X:=Nat × PH) (0,ρ1) (fun x=>x.1 ≤ (pP l rest D s').length ∧ OwnS 3 1 rv (subAll (pRoom l rest D s') rest ((pP l rest D s').take x.1)).length ((subAll (pRoom l rest D s') rest ((pP l rest D s').take x.1)).flatMap Eng.encI) x.2) (fun x=>[(71,int x.1)])
  (fun x=>[sng bb (.cells #[rv] 22 (0,0)),x.2,ρo,ρa,ρp])
  (fun x=>(pP l rest D s').length - x.1) pickZ ⟨by dsimp only; omega,by simpa [subAll] using hO1⟩ covZ selZ ?_
 rintro ⟨i,ρ2⟩ ⟨hi,hO2⟩
 dsimp only at hi hO2 ⊢
 have hal:(subAll (pRoom l rest D s') rest ((pP l rest D s').take i)).length = l.length:=by rw [subAll_len]; exact hF.len.symm
 by_cases hlt2:i < (pP l rest D s').length
 ·have hx:(ksOf (pP l rest D s'))[i]? = some ((pP l rest D s')[i].k:Int):=by simp [ksOf,hlt2]
  obtain ⟨b,o,rfl,g0⟩:=hr2.int hx
  have hxm:=hPm _ (List.getElem_mem hlt2)
  have hxk:=pl_k hxm
  obtain ⟨br,cap,rfl⟩:=OwnS.some_of hO2 (by omega)
  have hnum:=OwnS.num hO2 (i:=(pP l rest D s')[i].k) (by omega)
  have hic:=inCap_get l _ (pTake_cap g.ok g.sn hF hD hd0 i) (pP l rest D s')[i].k (l[(pP l rest D s')[i].k]'(by omega)) ((subAll (pRoom l rest D s') rest ((pP l rest D s').take i)).getD (pP l rest D s')[i].k 0) (List.getElem?_eq_getElem (by omega)) (by rw [List.getD_eq_getElem?_getD,List.getElem?_eq_getElem (by omega)]; rfl)
  have hcc:=hcap _ (List.getElem_mem (show (pP l rest D s')[i].k < l.length by omega))
  have hsn:=subAll_snoc (pRoom l rest D s') rest ((pP l rest D s').take i) (pP l rest D s')[i]
  rw [← take_snoc' hlt2] at hsn;unfold subP at hsn;refine AD ?_;refine AA ?_;refine BD ?_;refine AE ?_;refine AD ?_;refine AO rfl ?_;refine AK ?_;refine AD ?_;refine AP ?_;refine AD ?_;refine AA ?_;refine BQ ?_;refine AF ?_;refine AC ?_;refine AE ?_;refine AA ?_;refine AF ?_;refine AB ?_;refine BH ?_;refine AF ?_;refine AB ?_;refine CY ?_;refine BH ?_
  refine CM (EK Eng.encI_len (a:=(subAll (pRoom l rest D s') rest ((pP l rest D s').take i)).getD (pP l rest D s')[i].k 0) (pP l rest D s')[i].k 0 ((subAll (pRoom l rest D s') rest ((pP l rest D s').take i)).getD (pP l rest D s')[i].k 0 - pRoom l rest D s') hO2 rfl (by omega) (by omega) (by rw [List.getD_eq_getElem?_getD,List.getElem?_eq_getElem (by omega)]; rfl) rfl rfl rfl rfl takeZ) rfl rfl ?_
  rintro _ _ ⟨rfl,ρ3,hO3,rfl⟩;refine AE ?_;refine AZ ?_;refine AA ?_;refine A7 ?_;refine AB ?_;refine AE ?_
  refine AU (i + 1,ρ3) ⟨by dsimp only; omega,?_⟩ (by dsimp only; omega) covZ selZ
  dsimp only
  rw [hsn];rw [List.length_set] at hO3 ⊢;exact hO3
 ·rw [List.take_of_length_le (by omega)] at hO2
  have hesl:=hAr.1
  have hnp:=pNext_pos g.ok g.sn g.ne hF hD hd0
  refine AD ?_;refine AA ?_;refine AY ?_;refine AE ?_;refine AD ?_;refine AN rfl ?_;refine A5 rfl ?_;refine AA ?_;refine AB ?_;refine AB ?_;refine AB ?_;refine BT ?_;refine A9 ?_; rintro _ _ ⟨b,rfl,rfl⟩
  refine BI (BP (by_:=32) (s:=2) (news:=[.slice q2 (ksOf (pP l rest D s')).length c2,int (pRoom l rest D s')]) rfl rfl rfl rfl rfl rfl rfl hOo takeZ (cells_own memZ) rfl (by (repeat (first | exact (fun v hv=>absurd hv List.not_mem_nil) | (refine List.forall_mem_cons.2 ⟨?_,?_⟩; (focus (first | exact rfl | assumption))))); first | done | fail) (by omega) (by simp only [maxLen]; omega) (by omega)) rfl rfl rfl ?_
  rintro q9 _ ⟨ρ4,hQ4,rfl⟩;refine AC ?_;refine AE ?_;refine AZ ?_
  refine DF (ρ:=ρa) takeZ (σ:=ρp) takeZ (fun δ k1 k2=>?_)
  refine AU ((pNext l rest D s',ps ++ [(pP l rest D s',pRoom l rest D s')]),((q9,es ++ [(.slice q2 (ksOf (pP l rest D s')).length c2,pRoom l rest D s')]),((ρ4,δ),ρ2))) ⟨hN1,?_,hO2,?_,(hAr.sub k1).snoc rfl (k2.slE hIn),?_⟩ (by dsimp only; omega) covZ selZ
  ·intro ps2 r hR
   have:=hrun _ r (.step hD hd0 hR)
   dsimp only
   rw [List.append_assoc];exact this
  ·dsimp only
   rw [List.length_append,List.flatMap_append];exact hQ4
  ·dsimp only
   rw [List.length_append,List.length_singleton];omega
end Go.Proofs.YtphehihohghfoaaGreat
/- The reference's list of arcs with what is left on each. No program in sight. No conditions. -/
namespace Go.Flow
def leftL (l:List Arc) (rest:List Int):List (Lk × Int):=(plinks l).map (fun x=>(x,rmP rest x.k))
theorem leftL_len (l:List Arc) (rest:List Int):(leftL l rest).length = l.length:=by simp [leftL,plinks_len]
theorem leftL_get {l:List Arc} {rest:List Int} {k:Nat} {x:Lk} (hx:(plinks l)[k]? = some x):(leftL l rest)[k]? = some (x,rmP rest k):=by
  unfold leftL;rw [List.getElem?_map,hx]
  simp [plinks_at l k x hx]
theorem leftL_set {l:List Arc} {rest:List Int} {k:Nat} {x:Lk} (y:Int) (hx:(plinks l)[k]? = some x) (hl:l.length = rest.length):(leftL l rest).set k (x,y) = leftL l (rest.set k y):=by
  have hkl:k < l.length:=by
    have:=(List.getElem?_eq_some_iff.1 hx).1
    rwa [plinks_len] at this
  apply List.ext_getElem?
  intro j
  rw [List.getElem?_set]
  by_cases e:k = j
  · subst e
    rw [if_pos rfl,leftL_len,if_pos hkl,leftL_get hx];unfold rmP
    rw [getD_set (by omega),if_pos rfl]
  · rw [if_neg e]
    by_cases hj:j < l.length
    · obtain ⟨z,hz⟩:∃ z,(plinks l)[j]? = some z:=⟨_,List.getElem?_eq_getElem (by rw [plinks_len]; exact hj)⟩
      rw [leftL_get hz,leftL_get hz];unfold rmP;rw [getD_set' e]
    · rw [List.getElem?_eq_none (by rw [leftL_len]; omega),List.getElem?_eq_none (by rw [leftL_len]; omega)]
theorem leftL_snoc {l:List Arc} {fl:List Int} {i:Nat} (h:i < l.length) (h2:i < fl.length):leftL (l.take (i + 1)) fl = leftL (l.take i) fl ++ [((⟨i,l[i].f.toNat,l[i].t.toNat⟩:Lk),fl[i])]:=by
  unfold leftL;rw [take_snoc' h,plinks_snoc,List.map_append]
  have hti:(l.take i).length = i:=by rw [List.length_take]; omega
  simp only [List.map_cons,List.map_nil,hti]
  congr 3
  unfold rmP
  simp [List.getD_eq_getElem?_getD,h2]
theorem rmP_le {n:Nat} {l:List Arc} {fl:List Int} (hok:∀ a ∈ l,okArc n a = true) (hl:l.length = fl.length) (hc:inCap l fl = true) {x:Lk} (hx:x ∈ plinks l):rmP fl x.k ≤ 1099511627776:=by
  obtain ⟨j,a,ha,rfl⟩:=plinks_iff.1 hx
  have hjl:j < l.length:=(List.getElem?_eq_some_iff.1 ha).1
  have hfj:fl[j]? = some (fl.getD j 0):=by simp [List.getD_eq_getElem?_getD,show j < fl.length by omega]
  have hin:=inCap_get l fl hc j a _ ha hfj
  have:=okArc_iff.1 (hok a (List.mem_of_getElem? ha))
  unfold rmP
  dsimp only
  omega
end Go.Flow
/- Paths of the reference; paths compared. -/
namespace Go.Proofs.YtphehihohghfoaaGreat
open Go.Eng Go.Flow
set_option maxRecDepth 100000
set_option maxHeartbeats 4000000

def encLkX (x:Lk × Int):List Value:=[int x.1.f,int x.1.t,int x.2]
theorem encLkX_len (x:Lk × Int):(encLkX x).length = 3:=rfl
theorem ownRow {α:Type} {enc:α → List Value} {s:Nat} (he:∀ x,(enc x).length = s) {e:TypeId} {b n cap:Nat} {l:List α} {ρ:PH} (h:OwnS e s (.slice (some ⟨b,0,none⟩) n cap) l.length (l.flatMap enc) ρ) {i:Nat} {x:α} (hx:l[i]? = some x):RdN ρ b (0 + i * s) (enc x):=by
 have hS:SlE enc s ρ (.slice (some ⟨b,0,none⟩) n cap) l:=h.at
 obtain ⟨p,c,e1,hr⟩:=hS.val he
 simp only [Value.slice.injEq] at e1
 obtain ⟨b',o',e2,h2⟩:=hr i x hx
 rw [← e1.1] at e2;simp only [Option.some.injEq,Addr.mk.injEq,and_true] at e2
 obtain ⟨rfl,rfl⟩:=e2
 exact h2
theorem encX_flat (l:List Arc) (rest:List Int):(leftL l rest).flatMap encLkX = (plinks l).flatMap (encR (rmP rest)):=by
 unfold leftL;rw [List.flatMap_map]
 rfl
theorem leftAt {e:TypeId} {v:Value} {l:List Arc} {rest:List Int} {ρ:PH} (h:OwnS e 3 v (leftL l rest).length ((leftL l rest).flatMap encLkX) ρ):SlE (encR (rmP rest)) 3 ρ v (plinks l):=by
 have h9:=h.at
 rw [encX_flat,leftL_len,← plinks_len] at h9;exact h9
set_option maxHeartbeats 8000000 in
theorem refPaths_spec (ρ σ:PH) (v u:Value) (n s t:Int) (l:List Arc) (fl:List Int) (hv:ArcsAt ρ v l) (hu:IntsAt σ u fl) (hl:l.length ≤ 1000000) :
  Makes Tryz.prog (fv 37) [int n,v,u,int s,int t] [ρ,σ] (fun r τ=>∃ w ps e,r = .tuple #[w,int e] ∧ PathsAt τ w ps ∧ PathsOK n l fl s t ps e):=by
 have hnil:PathsAt emp (.slice none 0 0) []:=⟨[],⟨rfl,.inl ⟨rfl,none,0,rfl⟩⟩,ArcsIn.nil _⟩
 have hv2:=hv
 have hu2:=hu
 obtain ⟨q,c,rfl,hr⟩:=hv.val encA_len
 obtain ⟨q1,c1,rfl,hr1⟩:=hu.val Eng.encI_len
 refine spec_in (cap:=[]) Tryz.func37 rfl rfl Tryz.ntmps37 rfl envZ (fun N β=>?_)
 refine AD ?_;refine AA ?_;refine AC ?_;refine AC ?_;refine AE ?_;refine AD ?_;refine AD ?_;refine AA ?_;refine AB ?_;refine AB ?_;refine AB ?_;refine AB ?_;refine AB ?_;refine A4 (refValue_spec ρ σ _ _ n s t l fl hv2 hu2 hl) rfl rfl rdZ rfl rfl ?_;rintro _ rfl
 by_cases h0:(valueSpec n l fl s t).2 = 0
 rotate_left
 ·refine AB ?_
  refine AM ?_;refine AM ?_;refine AC ?_;refine AC ?_;refine AE ?_;refine AD ?_;refine AA ?_;refine AB ?_;refine CG ?_;refine AE ?_;refine AO rfl ?_;refine AD ?_;refine AA ?_;refine AB ?_;refine AC ?_;refine AC ?_;refine AE ?_;refine BV ?_;exact AI (res2 rfl rfl rfl) rsubZ selZ ⟨emp,⟨_,[],_,rfl,hnil,.inl ⟨h0,rfl,rfl⟩⟩,rfl⟩
 obtain ⟨n',s',t',g,hF0,_⟩:=value_good h0
 obtain ⟨rfl,rfl,rfl⟩:=And.intro g.en (And.intro g.es g.et)
 have hn2:=g.n2
 have hl2:=g.l2
 have hpl:=pl_lt g.ok
 have hlen0:=hF0.len
 have hcap:∀ a ∈ l,0 ≤ a.c ∧ a.c ≤ 1099511627776:=fun a ha=>by have:=okArc_iff.1 (g.ok a ha); omega
 refine BV ?_;refine AB ?_;refine AM ?_;refine AM ?_;refine AC ?_;refine AC ?_;refine AE ?_;refine AD ?_;refine AA ?_;refine AB ?_;refine BE ?_;refine AE ?_;refine AN rfl ?_;refine AK ?_;refine AD ?_;refine AA ?_;refine AC ?_;refine AE ?_;refine AD ?_;refine AD ?_;refine AA ?_;refine AC ?_;refine AE ?_;refine AP ?_
 refine BB [0,1,2,3,4] (X:=Nat × (Value × PH)) (0,(.slice none 0 0,emp)) (fun x=>x.1 ≤ l.length ∧ OwnS 154 3 x.2.1 (leftL (l.take x.1) fl).length ((leftL (l.take x.1) fl).flatMap encLkX) x.2.2) (fun x=>[(14,x.2.1),(15,int x.1)]) (fun x=>[x.2.2]) (fun x=>l.length - x.1)
  pickZ ⟨by dsimp only; omega,OwnS.nil _ _⟩ covZ selZ ?_
 rintro ⟨k,⟨lv,ρl⟩⟩ ⟨hk,hOl⟩
 dsimp only at hk hOl ⊢
 by_cases hlt:k < l.length
 ·have hx:=List.getElem?_eq_getElem hlt
  obtain ⟨b',o,rfl,hA,h0',h1',h2'⟩:=arcRow hr hx
  have hlt1:k < fl.length:=by omega
  obtain ⟨b2,o2,rfl,g3'⟩:=hr1.int (List.getElem?_eq_getElem hlt1)
  obtain ⟨g1,g2,g3,g4,g5,g6,g7⟩:=okArc_iff.1 (g.ok l[k] (List.getElem_mem hlt))
  obtain ⟨f,hf⟩:=Int.eq_ofNat_of_zero_le g1
  obtain ⟨t2,ht2⟩:=Int.eq_ofNat_of_zero_le g3
  have hsn:=leftL_snoc (fl:=fl) hlt hlt1
  have hll:=leftL_len (l.take k) fl
  have hlk:(l.take k).length = k:=by simp; omega
  rw [hf,ht2] at hsn;simp only [Int.toNat_natCast] at hsn;rw [hf] at h0';rw [ht2] at h1';refine AD ?_;refine AD ?_;refine AA ?_;refine AB ?_;refine AB ?_;refine AV ?_;refine BD ?_;refine AE ?_;refine AO rfl ?_;refine AK ?_;refine AD ?_;refine AP ?_
  refine A6 (.q 0 (.q 1 (.q 2 (.q 3 (.q 4 (.q 5 (.q 6 (.q 7 (.q 8 (.q 9 (.q 10 (.q 11 (.q 12 (.q 13 (.q 14 (.q 15 (.l 16 .e (.l 17 .b (.l 18 .b .nil))))))))))))))))))) [] rfl (by kernel_rfl) selZ ?_
  refine AJ ?_;refine AJ ?_;refine AJ ?_;refine BC ?_;refine BY ?_;refine AR ?_;refine AJ ?_;refine AJ ?_;refine BC ?_;refine BX ?_;refine AR ?_;refine AJ ?_;refine AJ ?_;refine CE ?_;refine AR ?_;refine CD ?_;refine BN ?_; rintro _ _ ⟨b,rfl,rfl⟩;refine CL ?_;refine' a_b rfl _ rfl rfl rfl _ _
  rotate_left
  ·exact BP (by_:=24) (s:=3) (news:=[int (f:Int),int (t2:Int),int fl[k]]) rfl rfl rfl rfl rfl rfl rfl hOl takeZ (cells_own memZ) rfl (by (repeat (first | exact (fun v hv=>absurd hv List.not_mem_nil) | (refine List.forall_mem_cons.2 ⟨?_,?_⟩; (focus (first | exact rfl | assumption))))); first | done | fail) (by omega) (by simp only [maxLen]; omega) (by omega)
  ·rintro _ _ ⟨_,_,rfl⟩ w hw; exact hw.sel selZ
  rintro q9 _ ⟨ρ3,hQ3,rfl⟩;refine C5 ?_;refine A8 ?_;refine AZ ?_;refine AA ?_;refine AB ?_;refine A7 ?_;refine AC ?_;refine AE ?_
  refine AU (k + 1,(q9,ρ3)) ⟨by dsimp only; omega,?_⟩ (by dsimp only; omega) covZ selZ
  dsimp only
  rw [hsn,List.length_append,List.flatMap_append];exact hQ3
 rw [List.take_of_length_le (by omega)] at hOl
 refine BV ?_;refine BV ?_;refine AD ?_;refine AD ?_;refine AA ?_;refine AB ?_;refine AB ?_;refine AV ?_;refine AY ?_;refine AE ?_;refine AN rfl ?_;refine A5 rfl ?_;refine AD ?_;refine AA ?_;refine AC ?_;refine AE ?_;refine AD ?_;refine AP ?_
 refine BB [0,1,3,4,14] (X:=(List Int × List (List Lk × Int)) × ((Value × List (Value × Int)) × ((PH × PH) × PH))) ((fl,[]),((.slice none 0 0,[]),((emp,emp),ρl)))
  (fun x=>Flw n' l s' t' x.1.1 ∧ (∀ ps r,RunP n' l s' t' x.1.1 ps r → RunP n' l s' t' fl (x.1.2 ++ ps) r) ∧ OwnS 154 3 lv (leftL l x.1.1).length ((leftL l x.1.1).flatMap encLkX) x.2.2.2 ∧ OwnS 87 2 x.2.1.1 x.2.1.2.length (x.2.1.2.flatMap encPV) x.2.2.1.1 ∧ ArcsIn x.2.2.1.2 x.2.1.2 x.1.2 ∧ x.1.2.length + npos x.1.1 ≤ l.length)
  (fun x=>[(16,x.2.1.1)]) (fun x=>[x.2.2.2,x.2.2.1.1,x.2.2.1.2]) (fun x=>(fval s' l x.1.1 + 1099511627776 * (2 * (l.length:Int))).toNat)
  pickZ ⟨hF0,fun _ _ h=>h,hOl,OwnS.nil _ _,ArcsIn.nil _,by have:=npos_len fl; dsimp only [List.length_nil]; omega⟩ covZ selZ ?_
 rintro ⟨⟨rest,ps⟩,⟨⟨ov,es⟩,⟨⟨ρo,ρa⟩,ρ1⟩⟩⟩ ⟨hF,hrun,hO1,hOo,hAr,hcnt⟩
 dsimp only at hF hrun hO1 hOo hAr hcnt ⊢
 have hb1:=fval_bd s' l rest (inCap_small l _ hF.len hF.cap g.ok)
 rw [← hF.len] at hb1;refine AD ?_;refine AO rfl ?_;refine AK ?_;refine AP ?_;refine AD ?_;refine AA ?_;refine AB ?_;refine AB ?_;refine AB ?_;refine AB ?_
 refine BM (refPath_spec ρ1 lv n' s' t' (plinks l) (rmP rest) (leftAt hO1) hpl (plinks_at l) hn2 (by rw [plinks_len]; omega) g.sn g.tn) rfl rfl rdZ rfl rfl ?_
 rintro _ ρp ⟨D,pv,hD,rfl,hP⟩
 by_cases hd0:0 ≤ D.getD s' 0
 rotate_left
 ·have hpn:pathD (nxt (plinks l) (rmP rest) D) D s' = []:=pathD_end (by omega)
  obtain ⟨q2,c2,rfl⟩:∃ p c,pv = .slice p 0 c:=by
   have h9:=SlAt.cap hP.at
   rw [hpn] at h9;exact h9
  refine AB ?_;refine AM ?_;refine AM ?_;refine AC ?_;refine AC ?_;refine AE ?_;refine AD ?_;refine AD ?_;refine AA ?_;refine AB ?_;refine AV ?_;refine CJ ?_;refine AE ?_;refine AO rfl ?_;refine AD ?_;refine AA ?_;refine AB ?_;refine AC ?_;refine AC ?_;refine AE ?_
  refine DF (ρ:=ρo) takeZ (σ:=ρa) takeZ (fun δ k1 k2=>?_)
  refine AI (res2 rfl rfl rfl) rsubZ selZ ⟨δ,⟨ov,ps,0,rfl,⟨es,k1.slE hOo.at,hAr.sub k2⟩,.inr ⟨h0,rfl,rest,?_⟩⟩,rfl⟩
  have:=hrun [] rest (.done hD (by omega))
  simpa using this
 obtain ⟨hN1,hN2,hN3⟩:=pNext_ok g.ok g.sn g.ne hF hD hd0
 obtain ⟨k0,hk0⟩:=Int.eq_ofNat_of_zero_le hd0
 have hDn:=hD.lt (fun x hx=>hpl x hx.1) g.tn g.sn
 have hPl:(pP l rest D s').length = k0:=path_len hpl hD k0 s' g.sn hk0
 have hk1:k0 ≠ 0:=fun h=>by
  subst h
  exact g.ne (hD.zero s' g.sn (by omega))
 have hPm:∀ x ∈ pP l rest D s',x ∈ plinks l:=fun x hx=>((path_chn hpl hD k0 s' g.sn hk0).all x hx).1.1
 have hroom2:leastR (rmP rest) (pP l rest D s') ≤ 1099511627776:=(leastR_le _ _ _).1
 have hroom3:0 < leastR (rmP rest) (pP l rest D s'):=hN2
 have hrl2:rmin (rmP rest) (pathD (nxt (plinks l) (rmP rest) D) D s') = leastR (rmP rest) (pP l rest D s'):=rmin_least _ _ (fun h=>by rw [show pP l rest D s' = [] from h] at hPl; simp at hPl; omega) (fun x hx=>rmP_le g.ok hF.len hF.cap (hPm x hx))
 rw [hrl2]
 have hIn:IntsAt ρp pv (ksOf (pP l rest D s')):=ownInts (e:=3) (by rw [show (ksOf (pP l rest D s')).length = (pP l rest D s').length from by simp [ksOf]]; exact hP)
 have hpv1:pv.oneCell' = true:=SlE.one hIn
 obtain ⟨q2,c2,rfl,hr2⟩:=hIn.val Eng.encI_len
 have hkl:(ksOf (pP l rest D s')).length = (pP l rest D s').length:=by simp [ksOf]
 have hmu:=fval_bd s' l (pNext l rest D s') (inCap_small l _ hN1.len hN1.cap g.ok)
 rw [← hN1.len] at hmu;refine AB ?_;refine AM ?_;refine AM ?_;refine AC ?_;refine AC ?_;refine AE ?_;refine AD ?_;refine AD ?_;refine AA ?_;refine AB ?_;refine AV ?_;refine B8 ?_;refine AE ?_;refine AN rfl ?_;refine AK ?_;refine AD ?_;refine AD ?_;refine AA ?_;refine AC ?_;refine AE ?_;refine AP ?_
 refine BB [0,1,3,4,14,16,17,18] (X:=Nat × PH) (0,ρ1) (fun x=>x.1 ≤ (pP l rest D s').length ∧ OwnS 154 3 lv (leftL l (subAll (pRoom l rest D s') rest ((pP l rest D s').take x.1))).length ((leftL l (subAll (pRoom l rest D s') rest ((pP l rest D s').take x.1))).flatMap encLkX) x.2) (fun x=>[(19,int x.1)])
  (fun x=>[x.2,ρo,ρa,ρp]) (fun x=>(pP l rest D s').length - x.1) pickZ ⟨by dsimp only; omega,by simpa [subAll] using hO1⟩ covZ selZ ?_
 rintro ⟨i,ρ2⟩ ⟨hi,hO2⟩
 dsimp only at hi hO2 ⊢
 have hal:(subAll (pRoom l rest D s') rest ((pP l rest D s').take i)).length = l.length:=by rw [subAll_len]; exact hF.len.symm
 by_cases hlt2:i < (pP l rest D s').length
 ·have hx:(ksOf (pP l rest D s'))[i]? = some ((pP l rest D s')[i].k:Int):=by simp [ksOf,hlt2]
  obtain ⟨b,o,rfl,g0⟩:=hr2.int hx
  have hxm:=hPm _ (List.getElem_mem hlt2)
  have hxk:=pl_k hxm
  have hxa:(plinks l)[(pP l rest D s')[i].k]? = some (pP l rest D s')[i]:=by
   obtain ⟨j,a,ha,e⟩:=plinks_iff.1 hxm
   rw [plinks_get,e]
   dsimp only
   rw [ha]; rfl
  have hle:=leftL_get (rest:=subAll (pRoom l rest D s') rest ((pP l rest D s').take i)) hxa
  have hll:=leftL_len l (subAll (pRoom l rest D s') rest ((pP l rest D s').take i))
  rcases hO2.block with ⟨_,h2,_⟩ | ⟨br,cap,cur,rfl,_⟩
  ·rw [h2] at hll; simp at hll; omega
  have r1:=ownRow encLkX_len hO2 hle
  have r2:rdc ρ2 br (0 + (pP l rest D s')[i].k * 3 + 2) = some (int (rmP (subAll (pRoom l rest D s') rest ((pP l rest D s').take i)) (pP l rest D s')[i].k)):=r1.get (j:=2) rfl
  have hic:=inCap_get l _ (pTake_cap g.ok g.sn hF hD hd0 i) (pP l rest D s')[i].k (l[(pP l rest D s')[i].k]'(by omega)) ((subAll (pRoom l rest D s') rest ((pP l rest D s').take i)).getD (pP l rest D s')[i].k 0) (List.getElem?_eq_getElem (by omega)) (by rw [List.getD_eq_getElem?_getD,List.getElem?_eq_getElem (by omega)]; rfl)
  have hic2:0 ≤ rmP (subAll (pRoom l rest D s') rest ((pP l rest D s').take i)) (pP l rest D s')[i].k ∧ rmP (subAll (pRoom l rest D s') rest ((pP l rest D s').take i)) (pP l rest D s')[i].k ≤ l[(pP l rest D s')[i].k].c:=hic
  have hcc:=hcap _ (List.getElem_mem (show (pP l rest D s')[i].k < l.length by omega))
  have hsn:=subAll_snoc (pRoom l rest D s') rest ((pP l rest D s').take i) (pP l rest D s')[i]
  rw [← take_snoc' hlt2] at hsn;unfold subP at hsn
  have hset:=leftL_set (rest:=subAll (pRoom l rest D s') rest ((pP l rest D s').take i)) (rmP (subAll (pRoom l rest D s') rest ((pP l rest D s').take i)) (pP l rest D s')[i].k - leastR (rmP rest) (pP l rest D s')) hxa hal.symm
  refine AD ?_;refine AD ?_;refine AA ?_;refine AB ?_;refine AB ?_;refine AV ?_;refine BD ?_;refine AE ?_;refine AO rfl ?_;refine AK ?_;refine AD ?_;refine AP ?_;refine AA ?_;refine AB ?_;refine AB ?_;refine AB ?_;refine BQ ?_;refine AF ?_;refine A3 ?_;refine B0 ?_;refine AF ?_;refine AB ?_;refine CY ?_;refine A3 ?_;refine B0 ?_
  refine CM (EK encLkX_len (pP l rest D s')[i].k 2 ((pP l rest D s')[i],rmP (subAll (pRoom l rest D s') rest ((pP l rest D s').take i)) (pP l rest D s')[i].k - leastR (rmP rest) (pP l rest D s')) hO2 rfl (by rw [Nat.zero_add]; rfl) (by omega) hle rfl rfl rfl rfl takeZ) rfl rfl ?_
  rintro _ _ ⟨rfl,ρ3,hO3,rfl⟩;refine AE ?_;refine AZ ?_;refine AA ?_;refine AB ?_;refine A7 ?_;refine AC ?_;refine AE ?_
  refine AU (i + 1,ρ3) ⟨by dsimp only; omega,?_⟩ (by dsimp only; omega) covZ selZ
  dsimp only
  rw [hsn];rw [hset,leftL_len] at hO3;rw [leftL_len,leftL_len];exact hO3
 ·rw [List.take_of_length_le (by omega)] at hO2
  have hesl:=hAr.1
  have hnp:=pNext_pos g.ok g.sn g.ne hF hD hd0
  refine AD ?_;refine AD ?_;refine AA ?_;refine AB ?_;refine AB ?_;refine AV ?_;refine AY ?_;refine AE ?_;refine AN rfl ?_;refine A5 rfl ?_;refine AA ?_;refine AB ?_;refine AB ?_;refine AB ?_;refine BT ?_;refine A9 ?_; rintro _ _ ⟨b,rfl,rfl⟩
  refine BI (BP (by_:=32) (s:=2) (news:=[.slice q2 (ksOf (pP l rest D s')).length c2,int (leastR (rmP rest) (pP l rest D s'))]) rfl rfl rfl rfl rfl rfl rfl hOo takeZ (cells_own memZ) rfl (by (repeat (first | exact (fun v hv=>absurd hv List.not_mem_nil) | (refine List.forall_mem_cons.2 ⟨?_,?_⟩; (focus (first | exact rfl | assumption))))); first | done | fail) (by omega) (by simp only [maxLen]; omega) (by omega)) rfl rfl rfl ?_
  rintro q9 _ ⟨ρ4,hQ4,rfl⟩;refine AC ?_;refine AE ?_;refine AZ ?_
  refine DF (ρ:=ρa) takeZ (σ:=ρp) takeZ (fun δ k1 k2=>?_)
  refine AU ((pNext l rest D s',ps ++ [(pP l rest D s',pRoom l rest D s')]),((q9,es ++ [(.slice q2 (ksOf (pP l rest D s')).length c2,pRoom l rest D s')]),((ρ4,δ),ρ2))) ⟨hN1,?_,hO2,?_,(hAr.sub k1).snoc rfl (k2.slE hIn),?_⟩ (by dsimp only; omega) covZ selZ
  ·intro ps2 r hR
   have:=hrun _ r (.step hD hd0 hR)
   dsimp only
   rw [List.append_assoc];exact this
  ·dsimp only
   rw [List.length_append,List.flatMap_append];exact hQ4
  ·dsimp only
   rw [List.length_append,List.length_singleton];omega

end Go.Proofs.YtphehihohghfoaaGreat
/- A part of a flow's paths is a flow. No program in sight. No conditions. -/
namespace Go.Flow
def addP (m:Int) (part:List Int) (x:Lk):List Int:=part.set x.k (part.getD x.k 0 + m)
def addAll (m:Int) (part:List Int) (p:List Lk):List Int:=p.foldl (addP m) part
def addMany (qs:List (List Lk × Int)) (part:List Int):List Int:=qs.foldl (fun part q=>addAll q.2 part q.1) part
def quotaL:List (List Lk × Int) → Int → List (List Lk × Int)
  | [],_=>[]
  | p :: ps,v=>(p.1,min v p.2) :: quotaL ps (v - min v p.2)
def neededL:List (List Lk × Int) → Int → List (List Lk × Int)
  | [],_=>[]
  | p :: ps,v=>if v = 0 then [] else (p.1,min p.2 v) :: neededL ps (v - min p.2 v)
def restV:List (List Lk × Int) → Int → Int
  | [],v=>v
  | p :: ps,v=>restV ps (v - min v p.2)
theorem addP_len (m:Int) (part:List Int) (x:Lk):(addP m part x).length = part.length:=by simp [addP]
theorem addAll_len (m:Int):∀ (p:List Lk) (part:List Int),(addAll m part p).length = part.length
  | [],_=>rfl
  | x :: p,part=>by
    show (addAll m (addP m part x) p).length = _
    rw [addAll_len m p,addP_len]
theorem addMany_len:∀ (qs:List (List Lk × Int)) (part:List Int),(addMany qs part).length = part.length
  | [],_=>rfl
  | q :: qs,part=>by
    show (addMany qs (addAll q.2 part q.1)).length = _
    rw [addMany_len qs,addAll_len]
theorem addAll_snoc (m:Int) (part:List Int) (p:List Lk) (x:Lk):addAll m part (p ++ [x]) = addP m (addAll m part p) x:=by simp [addAll]
theorem addMany_snoc (part:List Int) (qs:List (List Lk × Int)) (q:List Lk × Int):addMany (qs ++ [q]) part = addAll q.2 (addMany qs part) q.1:=by simp [addMany]
theorem quotaL_len:∀ (ps:List (List Lk × Int)) (v:Int),(quotaL ps v).length = ps.length
  | [],_=>rfl
  | p :: ps,v=>by simp [quotaL,quotaL_len ps]
theorem quotaL_get:∀ (ps:List (List Lk × Int)) (v:Int) (j:Nat),(quotaL ps v)[j]? = (ps[j]?).map (fun p=>(p.1,min (restV (ps.take j) v) p.2))
  | [],_,_=>by simp [quotaL]
  | p :: ps,v,0=>by simp [quotaL,restV]
  | p :: ps,v,j + 1=>by
    simp only [quotaL,List.getElem?_cons_succ,List.take_succ_cons,restV];exact quotaL_get ps _ j
theorem restV_snoc:∀ (ps:List (List Lk × Int)) (v:Int) (p:List Lk × Int),restV (ps ++ [p]) v = restV ps v - min (restV ps v) p.2
  | [],v,p=>rfl
  | q :: ps,v,p=>by simp only [List.cons_append,restV]; exact restV_snoc ps _ p
theorem restV_bd:∀ (ps:List (List Lk × Int)) (v:Int),0 ≤ v → (∀ p ∈ ps,0 ≤ p.2) → 0 ≤ restV ps v ∧ restV ps v ≤ v
  | [],v,h,_=>⟨h,Int.le_refl _⟩
  | p :: ps,v,h,hp=>by
    have h1:=hp p (by simp)
    have h2:=restV_bd ps (v - min v p.2) (by omega) (fun q hq=>hp q (by simp [hq]))
    simp only [restV];omega
theorem addP_zero (part:List Int) (x:Lk):addP 0 part x = part:=by
  unfold addP;rw [Int.add_zero]
  by_cases h:x.k < part.length
  · apply List.ext_getElem?
    intro i
    rw [List.getElem?_set]
    split
    · rename_i e
      subst e
      simp [List.getD_eq_getElem?_getD,h]
    · rfl
  · rw [List.set_eq_of_length_le (by omega)]
theorem addAll_zero:∀ (p:List Lk) (part:List Int),addAll 0 part p = part
  | [],_=>rfl
  | x :: p,part=>by
    show addAll 0 (addP 0 part x) p = _
    rw [addP_zero,addAll_zero p]
theorem quota_zero:∀ (ps:List (List Lk × Int)),(∀ p ∈ ps,0 ≤ p.2) → ∀ q ∈ quotaL ps 0,q.2 = 0
  | [],_,q,hq=>by simp [quotaL] at hq
  | p :: ps,hp,q,hq=>by
    have h1:=hp p (by simp)
    simp only [quotaL,List.mem_cons] at hq
    rcases hq with rfl | hq
    · dsimp only; omega
    · rw [show (0:Int) - min 0 p.2 = 0 by omega] at hq
      exact quota_zero ps (fun q hq=>hp q (by simp [hq])) q hq
theorem addMany_zero:∀ (qs:List (List Lk × Int)) (part:List Int),(∀ q ∈ qs,q.2 = 0) → addMany qs part = part
  | [],_,_=>rfl
  | q :: qs,part,h=>by
    show addMany qs (addAll q.2 part q.1) = _
    rw [h q (by simp),addAll_zero,addMany_zero qs part (fun r hr=>h r (by simp [hr]))]
theorem needed_take:∀ (ps:List (List Lk × Int)) (v:Int),neededL ps v = (quotaL ps v).take (neededL ps v).length
  | [],_=>rfl
  | p :: ps,v=>by
    unfold neededL
    split
    · rfl
    · rw [List.length_cons,quotaL,List.take_succ_cons,Int.min_comm,← needed_take ps]
theorem needed_sum:∀ (ps:List (List Lk × Int)) (v:Int) (part:List Int),(∀ p ∈ ps,0 ≤ p.2) → addMany (neededL ps v) part = addMany (quotaL ps v) part
  | [],_,_,_=>rfl
  | p :: ps,v,part,h=>by
    unfold neededL
    split
    · rename_i e
      subst e;rw [addMany_zero _ _ (quota_zero _ h)]
      rfl
    · rw [quotaL,Int.min_comm]
      exact needed_sum ps _ _ (fun q hq=>h q (by simp [hq]))
theorem needed_len (ps:List (List Lk × Int)) (v:Int):(neededL ps v).length ≤ ps.length:=by
  have h:=congrArg List.length (needed_take ps v)
  rw [List.length_take,quotaL_len] at h;omega
theorem RunP.pos {n s t:Nat} {l:List Arc} (hok:∀ a ∈ l,okArc n a = true) (hs:s < n) (hst:s ≠ t) {fl r:List Int} {ps:List (List Lk × Int)} (h:RunP n l s t fl ps r):Flw n l s t fl → ∀ p ∈ ps,0 < p.2:=by
  induction h with
  | done=>intro _ p hp; simp at hp
  | step hD h0 _ ih =>
    intro hf p hp
    have:=pNext_ok hok hs hst hf hD h0
    simp only [List.mem_cons] at hp
    rcases hp with rfl | hp
    · exact this.2.1
    · exact ih this.1 p hp
theorem add_diff (m:Int) (F:List Int):∀ (p:List Lk) (fl:List Int),F.length = fl.length → (∀ x ∈ p,x.k < fl.length) → addAll m (diffL F fl) p = diffL F (subAll m fl p)
  | [],_,_,_=>rfl
  | x :: p,fl,hl,hp=>by
    have hx:=hp x (by simp)
    show addAll m (addP m (diffL F fl) x) p = diffL F (subAll m (subP m fl x) p)
    have e:addP m (diffL F fl) x = diffL F (subP m fl x):=by
      unfold addP subP
      exact diffL_set m (by omega) hx
    rw [e]
    exact add_diff m F p (subP m fl x) (by rw [subP_len]; exact hl) (fun y hy=>by rw [subP_len]; exact hp y (by simp [hy]))
section
variable {n s t:Nat} {l:List Arc}
theorem path_part (hok:∀ a ∈ l,okArc n a = true) (hs:s < n) {fl D:List Int} (hf:Flw n l s t fl) (hD:IsDist n t (pE l fl) D) (h0:0 ≤ D.getD s 0) {m:Int} (hm:0 ≤ m) (hm2:m ≤ pRoom l fl D s) (i:Nat) :
    inCap l (subAll m fl ((pP l fl D s).take i)) = true ∧ (∀ x ∈ pP l fl D s,x.k < l.length):=by
  obtain ⟨k,hk⟩:=Int.eq_ofNat_of_zero_le h0
  have hch:=path_chn (pl_lt hok) hD k s hs hk
  obtain ⟨w,hw⟩:=hch.take i
  refine ⟨(subAll_ok hok hm (E:=fun x=>pE l fl x ∧ D.getD x.t 0 = D.getD x.f 0 - 1 ∧ D.getD x.f 0 ≤ k) (fun x hx=>hx.1.1) hw fl hf.len hf.cap ((pP_arcs hok hs hD h0).sublist (List.take_sublist _ _)) (fun x hx=>Int.le_trans hm2 ((leastR_le _ _ _).2 x (List.mem_of_mem_take hx)))).1,fun x hx=>pl_k (hch.all x hx).1.1⟩
theorem path_flw (hok:∀ a ∈ l,okArc n a = true) (hs:s < n) (hst:s ≠ t) {fl D:List Int} (hf:Flw n l s t fl) (hD:IsDist n t (pE l fl) D) (h0:0 ≤ D.getD s 0) {m:Int} (hm:0 ≤ m) (hm2:m ≤ pRoom l fl D s) :
    Flw n l s t (subAll m fl (pP l fl D s)) ∧ fval s l (subAll m fl (pP l fl D s)) = fval s l fl - m:=by
  obtain ⟨k,hk⟩:=Int.eq_ofNat_of_zero_le h0
  have hch:=path_chn (pl_lt hok) hD k s hs hk
  obtain ⟨r1,r2⟩:=subAll_ok hok hm (E:=fun x=>pE l fl x ∧ D.getD x.t 0 = D.getD x.f 0 - 1 ∧ D.getD x.f 0 ≤ k) (fun x hx=>hx.1.1) hch fl hf.len hf.cap (pP_arcs hok hs hD h0) (fun x hx=>Int.le_trans hm2 ((leastR_le _ _ _).2 x hx))
  refine ⟨⟨by rw [subAll_len]; exact hf.len,r1,fun v hv h1 h2=>?_⟩,?_⟩
  · rw [r2 v,if_neg (Ne.symm h1),if_neg (Ne.symm h2),hf.bal v hv h1 h2]; rfl
  · rw [r2 s,if_pos rfl,if_neg (Ne.symm hst)]; omega
theorem quota_mid (hok:∀ a ∈ l,okArc n a = true) (hs:s < n) (hst:s ≠ t) {fl r:List Int} {ps:List (List Lk × Int)} (h:RunP n l s t fl ps r):Flw n l s t fl →
    ∀ (F:List Int),F.length = fl.length → (∀ k:Nat,fl.getD k 0 ≤ F.getD k 0) → ∀ (v:Int),0 ≤ v → ∀ (j i:Nat) (q:List Lk × Int),(quotaL ps v)[j]? = some q →
    ∃ fl',addAll q.2 (addMany ((quotaL ps v).take j) (diffL F fl)) (q.1.take i) = diffL F fl' ∧ fl'.length = fl.length ∧ inCap l fl' = true ∧ (∀ k:Nat,fl'.getD k 0 ≤ F.getD k 0):=by
  induction h with
  | done=>intro _ F _ _ v _ j i q hq; simp [quotaL] at hq
  | @step fl D r ps hD h0 hr ih =>
    intro hf F hl hle v hv j i q hq
    have hpos:=(pNext_ok hok hs hst hf hD h0).2.1
    have hnx:=(pNext_ok hok hs hst hf hD h0).1
    obtain ⟨p1,p2⟩:=path_part hok hs hf hD h0 (m:=min v (pRoom l fl D s)) (by omega) (by omega) i
    have hkl:∀ x ∈ pP l fl D s,x.k < fl.length:=fun x hx=>by rw [← hf.len]; exact p2 x hx
    cases j with
    | zero =>
      simp only [quotaL,List.getElem?_cons_zero,Option.some.injEq] at hq;subst hq
      refine ⟨subAll (min v (pRoom l fl D s)) fl ((pP l fl D s).take i),?_,subAll_len _ _ _,p1,fun k=>Int.le_trans (subAll_le (by omega) _ _ k) (hle k)⟩
      exact add_diff _ F _ fl hl (fun x hx=>hkl x (List.mem_of_mem_take hx))
    | succ j =>
      simp only [quotaL,List.getElem?_cons_succ] at hq
      have e:addMany ((quotaL ((pP l fl D s,pRoom l fl D s) :: ps) v).take (j + 1)) (diffL F fl) = addMany ((quotaL ps (v - min v (pRoom l fl D s))).take j) (diffL F (subAll (min v (pRoom l fl D s)) fl (pP l fl D s))):=by
        rw [quotaL,List.take_succ_cons]
        show addMany _ (addAll _ (diffL F fl) _) = _
        rw [add_diff _ F _ fl hl hkl]
      rw [e]
      by_cases hc:pRoom l fl D s ≤ v
      · rw [show min v (pRoom l fl D s) = pRoom l fl D s by omega] at hq ⊢
        obtain ⟨fl',a,b,c⟩:=ih hnx F (by rw [hl]; exact (subAll_len _ _ _).symm) (fun k=>Int.le_trans (subAll_le (by omega) _ _ k) (hle k)) (v - pRoom l fl D s) (by omega) j i q hq
        exact ⟨fl',a,by rw [b]; exact subAll_len _ _ _,c⟩
      · rw [show min v (pRoom l fl D s) = v by omega,Int.sub_self] at hq ⊢
        have hz:=quota_zero ps (fun p hp=>Int.le_of_lt (hr.pos hok hs hst hnx p hp))
        have hq0:=hz q (List.mem_of_getElem? hq)
        rw [addMany_zero _ _ (fun x hx=>hz x (List.mem_of_mem_take hx)),hq0,addAll_zero]
        obtain ⟨k1,k2⟩:=path_flw hok hs hst hf hD h0 hv (by omega)
        exact ⟨_,rfl,subAll_len _ _ _,k1.cap,fun k=>Int.le_trans (subAll_le hv _ _ k) (hle k)⟩
theorem quota_flow (hok:∀ a ∈ l,okArc n a = true) (hs:s < n) (ht:t < n) (hst:s ≠ t) {fl r:List Int} {ps:List (List Lk × Int)} (h:RunP n l s t fl ps r):Flw n l s t fl →
    ∀ (F:List Int),F.length = fl.length → (∀ k:Nat,fl.getD k 0 ≤ F.getD k 0) → ∀ (v:Int),0 ≤ v → v ≤ fval s l fl →
    ∃ fl',addMany (quotaL ps v) (diffL F fl) = diffL F fl' ∧ Flw n l s t fl' ∧ (∀ k:Nat,fl'.getD k 0 ≤ F.getD k 0) ∧ fval s l fl' = fval s l fl - v:=by
  induction h with
  | done hD hn =>
    intro hf F hl hle v hv hv2
    have:=rest_le0 hok hs ht hf hD hn
    exact ⟨_,rfl,hf,hle,by omega⟩
  | @step fl D r ps hD h0 hr ih =>
    intro hf F hl hle v hv hv2
    obtain ⟨hnx,hpos,hval⟩:=pNext_ok hok hs hst hf hD h0
    obtain ⟨p1,p2⟩:=path_part hok hs hf hD h0 (m:=min v (pRoom l fl D s)) (by omega) (by omega) 0
    have hkl:∀ x ∈ pP l fl D s,x.k < fl.length:=fun x hx=>by rw [← hf.len]; exact p2 x hx
    have e:addMany (quotaL ((pP l fl D s,pRoom l fl D s) :: ps) v) (diffL F fl) = addMany (quotaL ps (v - min v (pRoom l fl D s))) (diffL F (subAll (min v (pRoom l fl D s)) fl (pP l fl D s))):=by
      rw [quotaL]
      show addMany _ (addAll _ (diffL F fl) _) = _
      rw [add_diff _ F _ fl hl hkl]
    rw [e]
    by_cases hc:pRoom l fl D s ≤ v
    · rw [show min v (pRoom l fl D s) = pRoom l fl D s by omega]
      obtain ⟨fl',a,b,c,d⟩:=ih hnx F (by rw [hl]; exact (subAll_len _ _ _).symm) (fun k=>Int.le_trans (subAll_le (by omega) _ _ k) (hle k)) (v - pRoom l fl D s) (by omega) (by omega)
      exact ⟨fl',a,b,c,by omega⟩
    · rw [show min v (pRoom l fl D s) = v by omega,Int.sub_self]
      have hz:=quota_zero ps (fun p hp=>Int.le_of_lt (hr.pos hok hs hst hnx p hp))
      rw [addMany_zero _ _ hz]
      obtain ⟨k1,k2⟩:=path_flw hok hs hst hf hD h0 hv (by omega)
      exact ⟨_,rfl,k1,fun k=>Int.le_trans (subAll_le hv _ _ k) (hle k),k2⟩
theorem inCap_diff:∀ (l:List Arc) (F fl:List Int),F.length = fl.length → inCap l F = true → inCap l fl = true → (∀ k:Nat,fl.getD k 0 ≤ F.getD k 0) → inCap l (diffL F fl) = true
  | [],_,_,_,_,_,_=>by simp [inCap]
  | _ :: _,[],[],_,_,_,_=>by simp [inCap,diffL]
  | a :: l,x :: F,y :: fl,hl,h1,h2,h3=>by
    simp only [inCap,Bool.and_eq_true,decide_eq_true_eq] at h1 h2
    have k0:=h3 0
    simp only [List.getD_cons_zero] at k0
    have ih:=inCap_diff l F fl (by simpa using hl) h1.2 h2.2 (fun k=>by simpa using h3 (k + 1))
    simp only [diffL,List.zipWith_cons_cons,inCap,Bool.and_eq_true,decide_eq_true_eq] at ih ⊢
    exact ⟨by omega,ih⟩
theorem part_flow (hok:∀ a ∈ l,okArc n a = true) (hs:s < n) (ht:t < n) (hst:s ≠ t) {F r:List Int} {ps:List (List Lk × Int)} (h:RunP n l s t F ps r) (hF:Flw n l s t F) {v:Int} (hv:0 ≤ v) (hv2:v ≤ fval s l F) :
    Flw n l s t (addMany (quotaL ps v) (List.replicate l.length 0)) ∧ fval s l (addMany (quotaL ps v) (List.replicate l.length 0)) = v:=by
  obtain ⟨fl',a,b,c,d⟩:=quota_flow hok hs ht hst h hF F rfl (fun k=>Int.le_refl _) v hv hv2
  have hl:F.length = fl'.length:=by rw [← hF.len,b.len]
  rw [diffL_self,← hF.len] at a;rw [a]
  refine ⟨⟨by rw [diffL_len hl]; exact hF.len,inCap_diff l F fl' hl hF.cap b.cap c,fun u h1 h2 h3=>?_⟩,?_⟩
  · rw [fval_diff _ _ _ _ hl,hF.bal u h1 h2 h3,b.bal u h1 h2 h3]; rfl
  · rw [fval_diff _ _ _ _ hl,d]; omega
theorem part_mid (hok:∀ a ∈ l,okArc n a = true) (hs:s < n) (hst:s ≠ t) {F r:List Int} {ps:List (List Lk × Int)} (h:RunP n l s t F ps r) (hF:Flw n l s t F) {v:Int} (hv:0 ≤ v) {j i:Nat} {q:List Lk × Int} (hq:(quotaL ps v)[j]? = some q) :
    inCap l (addAll q.2 (addMany ((quotaL ps v).take j) (List.replicate l.length 0)) (q.1.take i)) = true ∧ (addAll q.2 (addMany ((quotaL ps v).take j) (List.replicate l.length 0)) (q.1.take i)).length = l.length:=by
  obtain ⟨fl',a,b,c,d⟩:=quota_mid hok hs hst h hF F rfl (fun k=>Int.le_refl _) v hv j i q hq
  rw [diffL_self,← hF.len] at a;rw [a]
  exact ⟨inCap_diff l F fl' b.symm hF.cap c d,by rw [diffL_len b.symm]; exact hF.len.symm⟩
theorem run_arcs (hok:∀ a ∈ l,okArc n a = true) (hs:s < n) (hst:s ≠ t) {F r:List Int} {ps:List (List Lk × Int)} (h:RunP n l s t F ps r):Flw n l s t F → ∀ p ∈ ps,∀ x ∈ p.1,x.k < l.length:=by
  induction h with
  | done=>intro _ p hp; simp at hp
  | step hD h0 _ ih =>
    intro hf p hp
    simp only [List.mem_cons] at hp
    rcases hp with rfl | hp
    · exact (path_part hok hs hf hD h0 (m:=0) (Int.le_refl _) (Int.le_of_lt (pNext_ok hok hs hst hf hD h0).2.1) 0).2
    · exact ih (pNext_ok hok hs hst hf hD h0).1 p hp
end
end Go.Flow
/- A range over a function whose iterator keeps numbers of its own. No conditions. -/
namespace Go.Eng
variable {C : Cx} {D : List Deferred} {R H T : List PH} {L : Env} {K : List It}
def IterW (P : Program) (gv : Value) (R1 HI : List PH) (xs : List (List Value)) : Prop :=
  ∀ (y : Value) (S : Type) (Own : S → List PH) (Inv : Nat → S → Prop) (Stop : S → Prop) (Ry : List PH),
    (∀ i σ vs, xs[i]? = some vs → Inv i σ → Spec P y vs Ry (Own σ) (fun v H' => ∃ σ', H' = Own σ' ∧ ((v = .bool true ∧ Inv (i + 1) σ') ∨ (v = .bool false ∧ Stop σ')))) →
    (∃ l, y = yv l) → ∀ σ, Inv 0 σ → Spec P gv [y] (R1 ++ Ry) (Own σ ++ HI) (fun _ H' => ∃ σ', H' = Own σ' ∧ (Inv xs.length σ' ∨ Stop σ'))
theorem F4 {P : Program} {Q : Exit → Act → World → Prop} {N : Bs} {M : Nat} {g : Operand} {gf : FuncId} {cap : List Value} {ps : List Nat} {assign body : Code} {X : Type} {R1 HI Hr : List PH} {xs : List (List Value)} {fn : Func} {gc : Code}
    (hg : evalE L g = some (.func (.func gf) #[] cap.toArray)) (hgf : P.funcs[gf]? = some fn) (hgb : fn.body = some gc) (hname : (fn.name == "runtime.NumGoroutine") = false)
    (hit : IterW P (.func (.func gf) #[] cap.toArray) R1 HI xs) (hR1 : ∀ ρ ∈ R1, ρ ∈ R)
    (I : Nat → X → Prop) (Hx : X → List PH) (J : Code → X → Prop) (x0 : X) (hx0 : Hx x0 = T) (hT : Takes H (T ++ HI) Hr) (h0 : I 0 x0)
    (hround : ∀ l (r : Loop) i x vs, xs[i]? = some vs → I i x → r.params = ps.toArray → r.assign = assign → r.body = body → r.state = .ready → r.pending = none → Frm M L ⟨r.tmps, []⟩ →
      Spec P (yv l) vs R (sng l (.loop r) :: Hx x) (fun v H' => ∃ x', (v = .bool true ∧ I (i + 1) x' ∧ H' = sng l (.loop r) :: Hx x') ∨ (v = .bool false ∧ ∃ c, J c x' ∧ H' = sng l (.loop { r with state := .done, pending := some c }) :: Hx x')))
    (hdone : ∀ b x, I xs.length x → JK ⟨none, P, Q, N, M⟩ (mk b :: D) R (sng b defO :: (Hx x ++ Hr)) L K)
    (hjump : ∀ b c x, J c x → JK ⟨none, P, Q, N, M⟩ (mk b :: D) R (sng b defO :: (Hx x ++ Hr)) L (.code c :: K)) :
    JK ⟨none, P, Q, N, M⟩ D R H L (.code (.rangeFunc g ps.toArray assign body) :: K) := by
  subst hx0
  refine ⟨fun a w hf hd hs => wpIn_rangeFunc (fun fnn _ => ?_)⟩
  let r : Loop := { state := .ready, pending := none, fn := fnn, tmps := a.tmps, params := ps.toArray, assign, body, defers := w.heap.size }
  let w1 : World := (w.alloc defO).alloc (.loop r)
  have hs2 := hT.sat hs
  have hs3 := (hs2.alloc defO).alloc (.loop r)
  have hl : (w.alloc defO).heap.size = w.heap.size + 1 := by simp
  rw [hl] at hs3
  refine ⟨w.heap.size + 1, [mk w.heap.size], w1, ⟨.fn (.func gf) cap.toArray, #[yv (w.heap.size + 1)]⟩, w1, gf, ([yv (w.heap.size + 1)] ++ cap).toArray, w1, ?_, ?_, fun _ _ => trivial, ?_, fun h => by simp [Fence.wide] at h, ?_⟩
  · simp [Instr.enterLoop, w1, r]
  · have hgv' : a.eval g = .func (.func gf) #[] cap.toArray := hf.on g _ hg
    have hc : a.eval (.const (yv (w.heap.size + 1))) = yv (w.heap.size + 1) := rfl
    simp [resolve, Deferred.ofValue, hgv', hc]
  · have hname' : ¬ fn.name = "runtime.NumGoroutine" := by simpa using hname
    simp [invoke, callFunc, program, Sem.run, bind, Sem.bind, pure, hgf, hgb, hname']
  · let Own : X × Option Code → List PH := fun σ => match σ.2 with
      | none => sng (w.heap.size + 1) (.loop r) :: Hx σ.1
      | some c => sng (w.heap.size + 1) (.loop { r with state := .done, pending := some c }) :: Hx σ.1
    have hspec := hit (yv (w.heap.size + 1)) (X × Option Code) Own (fun i σ => σ.2 = none ∧ I i σ.1) (fun σ => ∃ c, σ.2 = some c ∧ J c σ.1) R
      (fun i σ vs hvs ⟨h1, h2⟩ => by
        obtain ⟨x, o⟩ := σ
        simp only at h1 h2;subst h1;refine (hround (w.heap.size + 1) r i x vs hvs h2 rfl rfl rfl rfl rfl ⟨hf.size, hf.get⟩).mono ?_;rintro v H' ⟨x', ⟨e1, e2, e3⟩ | ⟨e1, c, e2, e3⟩⟩
        · exact ⟨(x', none), e3, .inl ⟨e1, rfl, e2⟩⟩
        · exact ⟨(x', some c), e3, .inr ⟨e1, c, rfl, e2⟩⟩)
      ⟨_, rfl⟩ (x0, none) ⟨rfl, h0⟩
    have hs4 : Sat N R ((Own (x0, none) ++ HI) ++ (sng w.heap.size defO :: Hr)) w1 := hs3.perm (by
      simp only [Own, List.cons_append]
      exact (List.perm_middle.symm).cons _)
    have hs5 : Sat N (R1 ++ R) (Own (x0, none) ++ HI) w1 := (hs4.rsub (R' := R1 ++ R) (fun ρ hρ => by
      rcases List.mem_append.1 hρ with h | h
      · exact hR1 ρ h
      · exact h)).left
    have hc := hspec N w1 hs5
    unfold CallsV at hc
    have hname' : ¬ fn.name = "runtime.NumGoroutine" := by simpa using hname
    have hrun : ((do let d ← Deferred.ofValue (.func (.func gf) #[] cap.toArray) [yv (w.heap.size + 1)].toArray; invoke d.target d.args : Sem Next).run P w1) = .ok (.enter gf ([yv (w.heap.size + 1)] ++ cap).toArray) w1 := by
      simp [Deferred.ofValue, invoke, callFunc, program, Sem.run, bind, Sem.bind, pure, hgf, hgb, hname']
    rw [hrun] at hc;simp only at hc
    refine CallsIn.mono (show CallsIn (wideR none) 0 P gf _ w1 _ from hc) ?_
    rintro e w3 ⟨v, rfl, H', ⟨⟨x, o⟩, rfl, hfin⟩, hu⟩
    have hs6 := hs4.upd hu
    have hfin' : ∃ r', r'.state ≠ .busy ∧ Own (x, o) = sng (w.heap.size + 1) (.loop r') :: Hx x ∧ ((r'.pending = none ∧ I xs.length x) ∨ ∃ c, r'.pending = some c ∧ J c x) := by
      rcases hfin with ⟨h1, h2⟩ | ⟨c, h1, h2⟩
      · simp only at h1 h2; subst h1; exact ⟨r, by simp [r], rfl, .inl ⟨rfl, h2⟩⟩
      · simp only at h1 h2; subst h1; exact ⟨{ r with state := .done, pending := some c }, by simp, rfl, .inr ⟨c, rfl, h2⟩⟩
    obtain ⟨r', hb, ho, hfin'⟩ := hfin'
    rw [ho] at hs6;simp only [List.cons_append] at hs6
    have hown := hs6.own Take.here
    have hend : (Instr.endLoop (w.heap.size + 1)).run P w3 = .ok r'.pending { w3 with heap := w3.heap.setIfInBounds (w.heap.size + 1) (.loop { r' with state := .exhausted }) } := by
      simp [Instr.endLoop, run_getLoop hown, run_setLoop hown, hb]
    refine ⟨r'.pending, _, hend, ?_⟩
    have hs7 : Sat N R (sng w.heap.size defO :: (Hx x ++ Hr)) { w3 with heap := w3.heap.setIfInBounds (w.heap.size + 1) (.loop { r' with state := .exhausted }) } :=
      ((hs6.turnAny (o' := .loop { r' with state := .exhausted }) Take.here).tail).perm List.perm_middle
    have hfr : Frm M L { a with defers := [mk w.heap.size] ++ a.defers } := ⟨hf.size, hf.get⟩
    have hdf : ({ a with defers := [mk w.heap.size] ++ a.defers } : Act).defers = mk w.heap.size :: D := by simp [hd]
    rcases hfin' with ⟨hp, hI⟩ | ⟨c, hp, hJ⟩
    · rw [hp] at hs7 ⊢
      exact (hdone w.heap.size x hI).run _ _ hfr hdf hs7
    · rw [hp] at hs7 ⊢
      exact (hjump w.heap.size c x hJ).run _ _ hfr hdf hs7

theorem yield_specE {P : Program} {l M : Nat} {r : Loop} {ps : List Nat} {vs : List Value} {L' : Env} {post : Value → List PH → Prop} {A B : Code} (ha : r.assign = A) (hb : r.body = B) (hf : Frm M L ⟨r.tmps, []⟩) (hps : r.params = ps.toArray) (hpl : ∀ p ∈ ps, p < M) (hL : PutI ps vs L L')
    (h : ∀ N β, JK ⟨some l, P, fun _ _ _ => False, N, M⟩ [] (β :: R) (sng l (.loop r) :: H) L' [.code A, .till (wpK ⟨some l, P, RQ P l N (β :: R) post, N, M⟩ [.sem (Instr.beginRound l), .code B] .normal)]) :
    Spec P (yv l) vs R (sng l (.loop r) :: H) post := by
  subst ha hb;exact yield_spec hf hps hpl hL h
end Go.Eng
namespace Go.Flow
theorem needed_get : ∀ (ps : List (List Lk × Int)) (v : Int) (k : Nat), (∀ j, j < k → restV (ps.take j) v ≠ 0) → ∀ p, ps[k]? = some p → restV (ps.take k) v ≠ 0 → (neededL ps v)[k]? = some (p.1, min p.2 (restV (ps.take k) v))
  | [], _, _, _, p, hp, _ => by simp at hp
  | q :: ps, v, 0, _, p, hp, h => by
    simp only [List.getElem?_cons_zero, Option.some.injEq] at hp;subst hp;simp only [List.take_zero, restV] at h ⊢;unfold neededL;rw [if_neg h]
    rfl
  | q :: ps, v, k + 1, hj, p, hp, h => by
    have h0 := hj 0 (by omega)
    simp only [List.take_zero, restV] at h0;simp only [List.getElem?_cons_succ] at hp;simp only [List.take_succ_cons, restV] at h ⊢;unfold neededL;rw [if_neg h0, List.getElem?_cons_succ, Int.min_comm q.2 v]
    exact needed_get ps _ k (fun j hk => by
      have := hj (j + 1) (by omega)
      simpa only [List.take_succ_cons, restV] using this) p hp h
theorem needed_stop : ∀ (ps : List (List Lk × Int)) (v : Int) (k : Nat), (∀ j, j < k → restV (ps.take j) v ≠ 0) → k ≤ ps.length → (k = ps.length ∨ restV (ps.take k) v = 0) → (neededL ps v).length = k
  | [], _, k, _, hk, _ => by simp at hk; subst hk; rfl
  | q :: ps, v, 0, _, _, h => by
    rcases h with h | h
    · simp at h
    · simp only [List.take_zero, restV] at h
      unfold neededL;rw [if_pos h]
      rfl
  | q :: ps, v, k + 1, hj, hk, h => by
    have h0 := hj 0 (by omega)
    simp only [List.take_zero, restV] at h0;unfold neededL
    rw [if_neg h0, List.length_cons, Int.min_comm q.2 v, needed_stop ps _ k (fun j hk => by
      have := hj (j + 1) (by omega)
      simpa only [List.take_succ_cons, restV] using this) (by simpa using hk) (by simpa [List.take_succ_cons, restV] using h)]
end Go.Flow
/- The least cut of the network. No program in sight. No conditions. -/
namespace Go.Step
open Go.Flow (MaxOK CutOK maxErr okEnds_iff run_cut RunR capacitySpec sideOf bget mem_sideOf sideOf_chk sideOf_len fval)
variable {qs:List Int} {cs:List Ct} {bs:List Bk} {hs:List Hd} {d:Dm}
def CutN (qs:List Int) (cs:List Ct) (bs:List Bk) (hs:List Hd) (d:Dm) (side:List Int) (c e:Int):Prop:=CutOK (vsN qs d) (arcsG qs cs bs hs d) (vtx d d.s d.r) (vtx d d.d d.e) side c e
theorem cut_facts (h:VOk qs cs bs hs d) (hv:validT qs cs bs hs d = true) {F side:List Int} {m e c e':Int} (hm:MaxN qs cs bs hs d F m e) (hc:CutN qs cs bs hs d side c e') :
    e' = 0 ∧ c = m ∧ sidesE qs cs bs hs d side = 0 ∧ vtx d d.s d.r ∈ side ∧ vtx d d.d d.e ∉ side ∧ side.length ≤ 1616:=by
  have hends:=okEnds_iff.1 h.ends
  have hvs:=h.vs
  have hchk:=h.chk
  obtain ⟨N,hN⟩:∃ N:Nat,vsN qs d = N:=⟨(vsN qs d).toNat,by omega⟩
  obtain ⟨S,hS⟩:∃ N:Nat,vtx d d.s d.r = N:=⟨(vtx d d.s d.r).toNat,by omega⟩
  obtain ⟨T,hT⟩:∃ N:Nat,vtx d d.d d.e = N:=⟨(vtx d d.d d.e).toNat,by omega⟩
  have hok:=h.ok
  unfold MaxN at hm;unfold CutN at hc
  have he:=max_err h
  rw [hN] at hok hchk hvs;rw [hN,hS,hT] at hm hends he hc
  rcases hm with ⟨a1,_⟩ | ⟨_,a2,a3,a4⟩
  · exact absurd he a1
  rcases hc with ⟨b1,_⟩ | ⟨_,b2,F',B,b3,b4,b5,b6⟩
  · exact absurd he b1
  simp only [Int.toNat_natCast] at a3 b3 b4 b5
  obtain ⟨f1,f2,f3,f4⟩:=run_cut hok (by omega) (by omega) (by omega) b3 b4
  have:=b3.uniq hok a3
  subst this
  have hl:=sideOf_len B N
  refine ⟨b2,by rw [b6,← f4,a4],?_,?_,?_,by rw [b5]; omega⟩
  · unfold sidesE
    rw [if_pos hv,hN];unfold capacitySpec
    rw [if_neg (fun h=>h hchk),if_neg (fun h=>h (by rw [b5]; exact sideOf_chk B N))]
  · rw [hS,b5,mem_sideOf]
    exact ⟨S,rfl,by omega,f2⟩
  · rw [hT,b5,mem_sideOf]
    rintro ⟨v,e1,_,e3⟩
    have:v = T:=by omega
    subst this;rw [f3] at e3
    simp at e3
end Go.Step
/- What a node gets and sends by the shipments of a flow. No program in sight. No conditions. -/
namespace Go.Step
open Go.Flow (Flw fval okArc okEnds_iff)
variable {qs:List Int} {cs:List Ct} {bs:List Bk} {hs:List Hd} {d:Dm}
theorem shipsE_flow (h:VOk qs cs bs hs d) (hv:validT qs cs bs hs d = true) {fl:List Int} {N S T:Nat} (hN:vsN qs d = N) (hS:vtx d d.s d.r = S) (hT:vtx d d.d d.e = T) (hf:Flw N (arcsG qs cs bs hs d) S T fl):shipsE qs cs bs hs d fl = 0:=by
  unfold shipsE;rw [if_pos hv,hN,hS,hT]
  have h1:=h.chk
  have h2:=h.ends
  rw [hN] at h1 h2;rw [hS,hT] at h2;unfold Go.Flow.valueSpec
  rw [if_neg (fun h=>h h1),if_neg (by rw [h2]; simp),if_neg (fun h=>h hf.len.symm),if_neg (by rw [hf.cap]; simp),if_neg]
  have hb:Go.Flow.balanced (N:Int).toNat (arcsG qs cs bs hs d) fl S T = true:=by
    unfold Go.Flow.balanced;rw [List.all_eq_true]
    intro v hv
    rw [decide_eq_true_eq]
    have hv':v < N:=by simpa using hv
    by_cases c1:v = S
    · exact .inl (by omega)
    · by_cases c2:v = T
      · exact .inr (.inl (by omega))
      · exact .inr (.inr (hf.bal v hv' c1 c2))
  rw [hb]
  simp
end Go.Step
/- What the planner answers. No program in sight. No conditions. -/
namespace Go.Step
open Go.Flow (MaxOK PathsOK Flw fval addMany quotaL RunP okEnds_iff)
abbrev PathL:=List (List Go.Flow.Lk × Int)
def partF (qs:List Int) (cs:List Ct) (bs:List Bk) (hs:List Hd) (d:Dm) (ps:PathL):List Int:=addMany (quotaL ps d.v) (List.replicate (arcsG qs cs bs hs d).length 0)
def PathN (qs:List Int) (cs:List Ct) (bs:List Bk) (hs:List Hd) (d:Dm) (F:List Int) (ps:PathL) (e:Int):Prop:=PathsOK (vsN qs d) (arcsG qs cs bs hs d) F (vtx d d.s d.r) (vtx d d.d d.e) ps e
def PlanOK (qs:List Int) (cs:List Ct) (bs:List Bk) (hs:List Hd) (d:Dm) (acc:Bool) (vol:Int) (ss:List Sh) (c:Cu):Prop:=
  ∃ F m,MaxN qs cs bs hs d F m 0 ∧ ((m < d.v ∧ acc = false ∧ vol = m ∧ ss = [] ∧ ∃ side k,CutN qs cs bs hs d side k 0 ∧ c = sidesC d qs.length side) ∨
    (d.v ≤ m ∧ acc = true ∧ vol = d.v ∧ c = [] ∧ ∃ ps,PathN qs cs bs hs d F ps 0 ∧ ss = shipsF (arcsE qs cs bs hs d) (partF qs cs bs hs d ps)))
variable {qs:List Int} {cs:List Ct} {bs:List Bk} {hs:List Hd} {d:Dm}
theorem MaxN.uniq {F G:List Int} {m k e f:Int} (h1:MaxN qs cs bs hs d F m e) (h2:MaxN qs cs bs hs d G k f):F = G ∧ m = k ∧ e = f:=MaxOK.uniq h1 h2
theorem PlanOK.uniq {acc acc':Bool} {vol vol':Int} {ss ss':List Sh} {c c':Cu} (h1:PlanOK qs cs bs hs d acc vol ss c) (h2:PlanOK qs cs bs hs d acc' vol' ss' c'):acc = acc' ∧ vol = vol' ∧ ss = ss' ∧ c = c':=by
  obtain ⟨F,m,hm,h1⟩:=h1
  obtain ⟨G,k,hk,h2⟩:=h2
  obtain ⟨rfl,rfl,_⟩:=hm.uniq hk
  rcases h1 with ⟨a1,a2,a3,a4,s1,k1,a5,a6⟩ | ⟨a1,a2,a3,a4,p1,a5,a6⟩ <;> rcases h2 with ⟨b1,b2,b3,b4,s2,k2,b5,b6⟩ | ⟨b1,b2,b3,b4,p2,b5,b6⟩
  · have:=(Go.Flow.CutOK.uniq a5 b5).1
    exact ⟨by rw [a2,b2],by rw [a3,b3],by rw [a4,b4],by rw [a6,b6,this]⟩
  · omega
  · omega
  · have:=(Go.Flow.PathsOK.uniq a5 b5).1
    exact ⟨by rw [a2,b2],by rw [a3,b3],by rw [a6,b6,this],by rw [a4,b4]⟩
theorem path_run (h:VOk qs cs bs hs d) (hv:validT qs cs bs hs d = true) {F:List Int} {m:Int} (hm:MaxN qs cs bs hs d F m 0) {ps:PathL} {e:Int} (hp:PathN qs cs bs hs d F ps e) :
    e = 0 ∧ ∃ N S T:Nat,vsN qs d = N ∧ vtx d d.s d.r = S ∧ vtx d d.d d.e = T ∧ S < N ∧ T < N ∧ S ≠ T ∧ (∀ a ∈ arcsG qs cs bs hs d,Go.Flow.okArc N a = true) ∧ Flw N (arcsG qs cs bs hs d) S T F ∧ m = fval S (arcsG qs cs bs hs d) F ∧ ∃ r,RunP N (arcsG qs cs bs hs d) S T F ps r:=by
  obtain ⟨_,N,S,T,hN,hS,hT,hf,hval,_⟩:=max_cut h hm
  have hsE:=shipsE_flow h hv hN hS hT hf
  have hends:=okEnds_iff.1 h.ends
  have hok:=h.ok
  unfold shipsE at hsE;rw [if_pos hv] at hsE;unfold PathN at hp;rw [hN,hS,hT] at hp hends hsE;rw [hN] at hok
  rcases hp with ⟨a1,_⟩ | ⟨_,a2,r,a3⟩
  · exact absurd hsE a1
  simp only [Int.toNat_natCast] at a3
  exact ⟨a2,N,S,T,hN,hS,hT,by omega,by omega,by omega,hok,hf,hval,r,a3⟩
theorem part_ok (h:VOk qs cs bs hs d) (hv:validT qs cs bs hs d = true) {F:List Int} {m:Int} (hm:MaxN qs cs bs hs d F m 0) {ps:PathL} (hp:PathN qs cs bs hs d F ps 0) (hle:d.v ≤ m) :
    ∃ N S T:Nat,vsN qs d = N ∧ vtx d d.s d.r = S ∧ vtx d d.d d.e = T ∧ Flw N (arcsG qs cs bs hs d) S T (partF qs cs bs hs d ps) ∧ fval S (arcsG qs cs bs hs d) (partF qs cs bs hs d ps) = d.v ∧ shipsE qs cs bs hs d (partF qs cs bs hs d ps) = 0:=by
  obtain ⟨_,N,S,T,hN,hS,hT,s1,s2,s3,hok,hf,hval,r,hr⟩:=path_run h hv hm hp
  have hdm:=h.dm
  unfold okDm at hdm
  obtain ⟨p1,p2⟩:=Go.Flow.part_flow hok s1 s2 s3 hr hf (v:=d.v) (by omega) (by omega)
  exact ⟨N,S,T,hN,hS,hT,p1,p2,shipsE_flow h hv hN hS hT p1⟩
open Go.Flow (addP addAll inCap getD_set inCap_get neededL needed_take quotaL_get restV) in
theorem part_step {l:List Arc} {P:List Int} {m:Int} {x:Go.Flow.Lk} (hc:∀ a ∈ l,a.c ≤ 1099511627776) (h1:inCap l P = true) (hl:P.length = l.length) (h2:inCap l (addP m P x) = true) (hk:x.k < l.length) :
    (0 ≤ P.getD x.k 0 ∧ P.getD x.k 0 ≤ 1099511627776) ∧ (0 ≤ P.getD x.k 0 + m ∧ P.getD x.k 0 + m ≤ 1099511627776):=by
  have ha:=List.getElem?_eq_getElem hk
  have hca:=hc _ (List.getElem_mem hk)
  have e1:P[x.k]? = some (P.getD x.k 0):=by simp [List.getD_eq_getElem?_getD,show x.k < P.length by omega]
  have e2:(addP m P x)[x.k]? = some (P.getD x.k 0 + m):=by
    unfold addP
    simp [show x.k < P.length by omega]
  have b1:=inCap_get l P h1 x.k _ _ ha e1
  have b2:=inCap_get l _ h2 x.k _ _ ha e2
  omega
open Go.Flow (neededL needed_take quotaL_get restV) in
theorem needed_at {ps:PathL} {v:Int} {i:Nat} {q:List Go.Flow.Lk × Int} (h:(neededL ps v)[i]? = some q):(neededL ps v).take i = (quotaL ps v).take i ∧ (neededL ps v).take (i + 1) = (quotaL ps v).take i ++ [q] ∧ (quotaL ps v)[i]? = some q ∧ ∃ p,ps[i]? = some p ∧ q.1 = p.1:=by
  have hi:=(List.getElem?_eq_some_iff.1 h).1
  have e:=needed_take ps v
  have e1:(neededL ps v).take i = (quotaL ps v).take i:=by
    have:=congrArg (List.take i) e
    rwa [List.take_take,Nat.min_eq_left (by omega)] at this
  have e2:(neededL ps v).take (i + 1) = (quotaL ps v).take (i + 1):=by
    have:=congrArg (List.take (i + 1)) e
    rwa [List.take_take,Nat.min_eq_left (by omega)] at this
  have e3:(quotaL ps v)[i]? = some q:=by
    have this:(neededL ps v)[i]? = ((quotaL ps v).take (neededL ps v).length)[i]?:=congrArg (fun l:PathL=>l[i]?) e
    rw [h,List.getElem?_take_of_lt hi] at this;exact this.symm
  refine ⟨e1,?_,e3,?_⟩
  · rw [e2]
    obtain ⟨h1,h2⟩:=List.getElem?_eq_some_iff.1 e3
    rw [List.take_succ_eq_append_getElem h1,h2]
  · rw [quotaL_get] at e3
    obtain ⟨p,h1,h2⟩:=Option.map_eq_some_iff.1 e3
    exact ⟨p,h1,by rw [← h2]⟩
end Go.Step
