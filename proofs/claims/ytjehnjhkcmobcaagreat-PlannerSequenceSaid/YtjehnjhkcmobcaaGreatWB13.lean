/- Texts of this proof, one after the other; no conditions. -/
import Derived.Test.YtjehnjhkcmobcaaGreatWB7
import Derived.Test.YtjehnjhkcmobcaaGreatWB12
import Derived.Test.YtjehnjhkcmobcaaGreatWB3
import Derived.Test.YtjehnjhkcmobcaaGreatWB9
import Derived.Test.YtjehnjhkcmobcaaGreatWB6
import Derived.Test.YtjehnjhkcmobcaaGreatWB5
import Derived.Test.YtjehnjhkcmobcaaGreatWB2
import Derived.Test.YtjehnjhkcmobcaaGreatWB10
import Derived.Test.YtjehnjhkcmobcaaGreatWB1
import Derived.Test.YtjehnjhkcmobcaaGreatWB11
set_option linter.all false
/- The chapter's example: its network, its maximum flows, their shipments, a cut. No program in sight. No conditions. -/
namespace Go.Step
open Go.Flow (Flw fval okArc capOf MaxOK inCap)
def eQ:List Int:=[0,1,0]
def eC:List Ct:=[⟨0,1,0,2,3,1,0⟩,⟨1,2,3,5,3,1,0⟩]
def eD:Dm:=⟨0,2,4,0,6⟩
def eF:List Int:=[3,0,0,0,0,0,0,0,1,1,0,0,0,0,0,0,0,3,1,3,3,1]
abbrev eK:Int:=1099511627776
def eA:List EA:=[⟨⟨0,1,eK⟩,-1,0⟩,⟨⟨1,2,eK⟩,-1,1⟩,⟨⟨2,3,eK⟩,-1,2⟩,⟨⟨3,4,eK⟩,-1,3⟩,⟨⟨4,5,eK⟩,-1,4⟩,⟨⟨5,6,eK⟩,-1,5⟩,
  ⟨⟨7,8,1⟩,-1,0⟩,⟨⟨8,9,1⟩,-1,1⟩,⟨⟨9,10,1⟩,-1,2⟩,⟨⟨10,11,1⟩,-1,3⟩,⟨⟨11,12,1⟩,-1,4⟩,⟨⟨12,13,1⟩,-1,5⟩,
  ⟨⟨14,15,eK⟩,-1,0⟩,⟨⟨15,16,eK⟩,-1,1⟩,⟨⟨16,17,eK⟩,-1,2⟩,⟨⟨17,18,eK⟩,-1,3⟩,⟨⟨18,19,eK⟩,-1,4⟩,⟨⟨19,20,eK⟩,-1,5⟩,
  ⟨⟨0,9,3⟩,0,0⟩,⟨⟨1,10,3⟩,0,1⟩,⟨⟨10,19,3⟩,1,3⟩,⟨⟨11,20,3⟩,1,4⟩]
theorem eValid:validT eQ eC [] [] eD = true:=by decide +kernel
theorem eArcs:arcsE eQ eC [] [] eD = eA:=by decide +kernel
theorem eVs:vsN eQ eD = 21:=by decide +kernel
theorem eS:vtx eD eD.s eD.r = 0:=by decide +kernel
theorem eT:vtx eD eD.d eD.e = 20:=by decide +kernel
theorem eG:arcsG eQ eC [] [] eD = eA.map (fun x=>x.a):=by unfold arcsG; rw [eArcs]
theorem eFlow:Flw 21 (arcsG eQ eC [] [] eD) 0 20 eF:=by
  rw [eG]
  exact ⟨by decide +kernel,by decide +kernel,by decide +kernel⟩
def eP (n t:Int):Bool:=decide (n = 0 ∨ (n = 1 ∧ t = 2))
theorem eCap:capB eQ eC [] [] eD eP = 4:=by
  decide +kernel
theorem eMax (hok:VOk eQ eC [] [] eD) {F:List Int} {m e:Int} (hm:MaxN eQ eC [] [] eD F m e):e = 0 ∧ m = 4 ∧ Flw 21 (arcsG eQ eC [] [] eD) 0 20 F ∧ fval 0 (arcsG eQ eC [] [] eD) F = 4:=by
  obtain ⟨h0,N,S,T,hN,hS,hT,hf,hv,P,p1,p2,hc⟩:=max_cut hok hm
  rw [eVs] at hN;rw [eS] at hS;rw [eT] at hT
  obtain rfl:N = 21:=by omega
  obtain rfl:S = 0:=by omega
  obtain rfl:T = 20:=by omega
  have a:fval 0 (arcsG eQ eC [] [] eD) F ≤ capB eQ eC [] [] eD eP:=flow_le_cap hok eVs eS eT hf (P:=eP) (by decide) (by decide)
  have b:fval 0 (arcsG eQ eC [] [] eD) eF ≤ capB eQ eC [] [] eD P:=flow_le_cap hok eVs eS eT eFlow p1 p2
  have c:fval 0 (arcsG eQ eC [] [] eD) eF = 4:=by rw [eG]; decide +kernel
  have hv':m = fval 0 (arcsG eQ eC [] [] eD) F:=hv
  rw [eCap] at a
  exact ⟨h0,by omega,hf,by omega⟩
end Go.Step
/- The example is awake. -/
namespace Go.Proofs.YtjehnjhkcmobcaaGreat
open Go.Eng Go.Step
set_option maxRecDepth 100000
set_option maxHeartbeats 4000000

end Go.Proofs.YtjehnjhkcmobcaaGreat
/- Joins and meets of cuts. -/
namespace Go.Proofs.YtjehnjhkcmobcaaGreat
open Go.Eng Go.Step
set_option maxRecDepth 100000
set_option maxHeartbeats 4000000

end Go.Proofs.YtjehnjhkcmobcaaGreat
/- Sets of the document: one more span, union. -/
namespace Go.Proofs.YtjehnjhkcmobcaaGreat
open Go.Eng Go.Step
set_option maxRecDepth 100000
set_option maxHeartbeats 4000000

end Go.Proofs.YtjehnjhkcmobcaaGreat
/- Sets of the document: intersection, equality. -/
namespace Go.Proofs.YtjehnjhkcmobcaaGreat
open Go.Eng Go.Step
set_option maxRecDepth 100000
set_option maxHeartbeats 4000000

end Go.Proofs.YtjehnjhkcmobcaaGreat
/- Joins and meets of the document. -/
namespace Go.Proofs.YtjehnjhkcmobcaaGreat
open Go.Eng Go.Step
set_option maxRecDepth 100000
set_option maxHeartbeats 4000000

end Go.Proofs.YtjehnjhkcmobcaaGreat
/- The arcs of the network, as the document lists them. No program in sight. No conditions. -/
namespace Go.Step
section
variable {qs:List Int} {cs:List Ct} {bs:List Bk} {hs:List Hd} {d:Dm}
end
end Go.Step
/- The document's arcs. -/
namespace Go.Proofs.YtjehnjhkcmobcaaGreat
open Go.Eng Go.Step
set_option maxRecDepth 100000
set_option maxHeartbeats 4000000

theorem refCheck53_spec {ρ τ σ υ:PH} {pq pc pb ph:Option Addr} {kq kc kb kh:Nat} {qs:List Int} {cs:List Ct} {bs:List Bk} {hs:List Hd} (hT:TbAt ρ τ σ υ pq pc pb ph kq kc kb kh qs cs bs hs) (d:Dm):Ans Tryz.prog (fv 23) [.agg #[.slice pq qs.length kq,.slice pc cs.length kc,.slice pb bs.length kb,.slice ph hs.length kh],.agg #[int d.s,int d.d,int d.v,int d.r,int d.e]] [ρ,τ,σ,υ] (fun r=>r = .bool (validT qs cs bs hs d)):=by
 have hct:=refChkTab_spec hT
 have hd:=demand53_spec pq pc kq kc qs.length cs.length d
 refine spec_in (cap:=[]) Tryz.func23 rfl rfl Tryz.ntmps23 rfl envZ (fun N β=>?_)
 refine Aa ?_;refine BH (BM rfl) rfl rfl rfl ?_;rintro _ _ ⟨b1,rfl,rfl⟩;refine AT (ρ:=sng b1 _) takeZ ?_
 have ct:=rdB b1 29 [.slice pq qs.length kq,.slice pc cs.length kc,.slice pb bs.length kb,.slice ph hs.length kh]
 have ct0:=rdC ct 0
 have ct1:=rdC ct 1
 have ct2:=rdC ct 2
 have ct3:=rdC ct 3
 have ctp:RdP (sng b1 (.cells #[.slice pq qs.length kq,.slice pc cs.length kc,.slice pb bs.length kb,.slice ph hs.length kh] 29 (0,0))) b1 0 [.slice pq qs.length kq,.slice pc cs.length kc]:=rdP_sng (xs:=[.slice pq qs.length kq,.slice pc cs.length kc,.slice pb bs.length kb,.slice ph hs.length kh]) rfl
 refine BH (BM rfl) rfl rfl rfl ?_;rintro _ _ ⟨b2,rfl,rfl⟩;refine AT (ρ:=sng b2 _) takeZ ?_
 have cd:=rdB b2 31 [int d.s,int d.d,int d.v,int d.r,int d.e]
 have cd0:=rdC cd 0
 have cd1:=rdC cd 1
 have cd2:=rdC cd 2
 have cd3:=rdC cd 3
 have cd4:=rdC cd 4
 refine Aaa ?_;refine Abp ?_;refine A3 hct rfl rfl rdZ rfl rfl ?_;rintro _ rfl
 by_cases hz:chkT qs cs bs hs = 0
 ·rw [hz]
  refine CT ?_;refine AB ?_;refine AG ?_;refine AS ?_;refine AS ?_;refine A3 hd rfl rfl rdZ rfl rfl ?_;rintro _ rfl
  have hV:validT qs cs bs hs d = okDmB qs.length d:=by unfold validT okDmB; simp [hz]
  rw [hV]
  cases okDmB qs.length d with
  | true =>
   refine Ab2 ?_;exact AI (res1 rfl rfl) rsubZ selZ ⟨rfl,rfl⟩
  | false =>
   refine Ab2 ?_;exact AI (res1 rfl rfl) rsubZ selZ ⟨rfl,rfl⟩
 ·have hV:validT qs cs bs hs d = false:=decide_eq_false (fun h=>hz h.1)
  rw [hV];refine CI ?_;refine Abg ?_;refine Ab4 ?_;exact AI (res1 rfl rfl) rsubZ selZ ⟨rfl,rfl⟩
end Go.Proofs.YtjehnjhkcmobcaaGreat
/- The document's network, its vertices and shipments. -/
namespace Go.Proofs.YtjehnjhkcmobcaaGreat
open Go.Eng Go.Step
set_option maxRecDepth 100000
set_option maxHeartbeats 4000000

theorem RdN.pre {ρ:PH} {b o:Nat} {xs ys:List Value} (h:RdN ρ b o (xs ++ ys)):RdP ρ b o xs:=⟨fun j v hv=>h j v (by
 have hl:=(List.getElem?_eq_some_iff.1 hv).1
 rw [List.getElem?_append_left hl]
 exact hv)⟩
theorem rowN {α:Type} {enc:α → List Value} {s:Nat} (he:∀ x,(enc x).length = s) {ρ:PH} {p:Option Addr} {k:Nat} {l:List α} (h:SlE enc s ρ (.slice p l.length k) l):RowsE enc s ρ p l:=by
 obtain ⟨_,_,e,hr⟩:=h.val he
 simp only [Value.slice.injEq] at e
 obtain ⟨rfl,_,_⟩:=e
 exact hr
set_option maxHeartbeats 16000000 in
theorem sameShips_spec (ρ τ:PH) (p p':Option Addr) (kk kk':Nat) (l:List Sh) (hv:ShAt ρ (.slice p l.length kk) l) (hw:ShAt τ (.slice p' l.length kk') l) (hl:l.length ≤ 1000000) :
  Ans Tryz.prog (fv 55) [.slice p l.length kk,.slice p' l.length kk'] [ρ,τ] (fun r=>r = .bool true):=by
 have hr:=rowN encX_len hv
 have hr':=rowN encX_len hw
 refine spec_in (cap:=[]) Tryz.func55 rfl rfl Tryz.ntmps55 rfl envZ (fun N β=>?_)
 refine Aak ?_;refine Aeu ?_;refine Abb ?_;refine AC ?_;refine Ae ?_
 refine BA [0,1] (0:Nat) (fun k=>k ≤ l.length) (fun k=>[(5,int k)]) (fun _=>[]) (fun k=>l.length - k) pickZ (by omega) covZ selZ ?_
 rintro k hk
 by_cases hlt:k < l.length
 ·have hx:=List.getElem?_eq_getElem hlt
  obtain ⟨b1,o1,rfl,hRd1⟩:=hr k _ hx
  obtain ⟨b2,o2,rfl,hRd2⟩:=hr' k _ hx
  generalize l[k] = x at hRd1 hRd2 hx
  refine Aec ?_;refine AC ?_
  refine A8 (.q 0 (.q 1 (.q 2 (.q 3 (.q 4 (.q 5 (.q 6 (.q 7 (.q 8 .nil))))))))) [] rfl (by kernel_rfl) Sel.nil ?_
  refine Aeg ?_;refine Aeg ?_
  focus ((refine' CR rfl _ rfl rfl rfl rfl _; rotate_left; (apply F9 [x.c,x.t,x.n] [x.c,x.t,x.n] (n:=3); exact rfl; exact rfl; kernel_rfl; kernel_rfl; kernel_rfl; exact rfl; exact rfl)))
  refine A5 ?_
  rw [show (!decide ([x.c,x.t,x.n] = [x.c,x.t,x.n])) = false by simp]
  skip
  refine Aae ?_;refine Adc ?_
  exact AX (k + 1) (by omega) (by omega) covZ selZ
 ·refine AC ?_
  refine Abn ?_;refine AV ?_;refine Aef ?_;refine Aak ?_;exact AI (res1 rfl rfl) rsubZ selZ ⟨rfl,rfl⟩
end Go.Proofs.YtjehnjhkcmobcaaGreat
/- The document's cuts. -/
namespace Go.Proofs.YtjehnjhkcmobcaaGreat
open Go.Eng Go.Step
set_option maxRecDepth 100000
set_option maxHeartbeats 4000000

end Go.Proofs.YtjehnjhkcmobcaaGreat
/- The reference: residual arcs, distances level by level, the first shortest path. -/
namespace Go.Proofs.YtjehnjhkcmobcaaGreat
open Go.Eng Go.Flow
set_option maxRecDepth 100000
set_option maxHeartbeats 4000000

end Go.Proofs.YtjehnjhkcmobcaaGreat
/- The reference's list of residual arcs, as it is filled; rooms are bounded. No program in sight. No conditions. -/
namespace Go.Flow
end Go.Flow
/- The reference: the list of residual arcs, the first shortest path. -/
namespace Go.Proofs.YtjehnjhkcmobcaaGreat
open Go.Eng Go.Flow
set_option maxRecDepth 100000
set_option maxHeartbeats 4000000

end Go.Proofs.YtjehnjhkcmobcaaGreat
/- The reference: the first shortest path. -/
namespace Go.Proofs.YtjehnjhkcmobcaaGreat
open Go.Eng Go.Flow
set_option maxRecDepth 100000
set_option maxHeartbeats 4000000

end Go.Proofs.YtjehnjhkcmobcaaGreat
/- The reference: Max, Cut. -/
namespace Go.Proofs.YtjehnjhkcmobcaaGreat
open Go.Eng Go.Flow
set_option maxRecDepth 100000
set_option maxHeartbeats 4000000

end Go.Proofs.YtjehnjhkcmobcaaGreat
/- Results that lie in memory: a struct and two or three numbers. -/
namespace Go.Eng
variable {L:Env} {R H:List PH}
theorem resSEEE {fn:Func} {N:Bs} {M:Nat} {P:Program} {t u u' u'' b1:Nat} {T:TypeId} {v1:List Value} {v2 v3 v4:Value} (hr:fn.results = #[.cell t T,.tmp u,.tmp u',.tmp u'']) (ht:look L t = some (.pointer (some ⟨b1,0,none⟩))) (hu:look L u = some v2) (hu':look L u' = some v3) (hu'':look L u'' = some v4) (a1:aggP P T = some true)
    (n1:szP P T = some v1.length) (c1:Cells N R H b1 0 v1):∀ a w,Frm M L a → Sat N R H w → (results fn a.tmps).run P w = .ok (.tuple #[.agg v1.toArray,v2,v3,v4]) w:=by
  intro a w hf hs
  have e1:a.tmps[t]?.getD undef = .pointer (some ⟨b1,0,none⟩):=by simpa using hf.get t _ ht
  have e2:a.tmps[u]?.getD undef = v2:=by simpa using hf.get u _ hu
  have e3:a.tmps[u']?.getD undef = v3:=by simpa using hf.get u' _ hu'
  have e4:a.tmps[u'']?.getD undef = v4:=by simpa using hf.get u'' _ hu''
  have l1:=run_loadCells_list (P:=P) (w:=w) ⟨b1,0,none⟩ v1 (fun j v hv=>by rw [Addr.add_lit]; exact c1 w hs j v hv)
  simp [results,hr,e1,e2,e3,e4,loadVar,run_isAgg a1,run_sizeOf n1,l1,asAddr]
end Go.Eng
/- How much can be brought. -/
namespace Go.Proofs.YtjehnjhkcmobcaaGreat
open Go.Eng Go.Step
set_option maxRecDepth 100000
set_option maxHeartbeats 4000000

set_option maxHeartbeats 32000000 in
theorem plMax_spec {ρ τ σ υ:PH} {pq pc pb ph:Option Addr} {kq kc kb kh:Nat} {qs:List Int} {cs:List Ct} {bs:List Bk} {hs:List Hd} (hT:TbAt ρ τ σ υ pq pc pb ph kq kc kb kh qs cs bs hs) (d:Dm) :
  Eng.Spec Tryz.prog (fv 28) [.agg #[.slice pq qs.length kq,.slice pc cs.length kc,.slice pb bs.length kb,.slice ph hs.length kh],.agg #[int d.s,int d.d,int d.v,int d.r,int d.e]] [ρ,τ,σ,υ] [] (fun r H'=>(validT qs cs bs hs d = true ∧ ∃ (pg:Option Addr) (kg:Nat) (pf:Option Addr) (kf:Nat) (F:List Int) (m:Int) (σg σf:PH),ArcsAt σg (.slice pg (arcsG qs cs bs hs d).length kg) (arcsG qs cs bs hs d) ∧ IntsAt σf (.slice pf F.length kf) F ∧ MaxN qs cs bs hs d F m 0 ∧ H' = [σg,σf] ∧ r = .tuple #[.agg #[int (vsN qs d),.slice pg (arcsG qs cs bs hs d).length kg,int (vtx d d.s d.r),int (vtx d d.d d.e)],.slice pf F.length kf,int m,int 0]) ∨ (validT qs cs bs hs d = false ∧ H' = [] ∧ r = .tuple #[.agg #[int 0,.slice none 0 0,int 0,int 0],.slice none 0 0,int 0,int 1])):=by
 refine spec_in (cap:=[]) Tryz.func28 rfl rfl Tryz.ntmps28 rfl envZ (fun N β=>?_)
 refine Aa ?_;refine BH (BM rfl) rfl rfl rfl ?_;rintro _ _ ⟨b1,rfl,rfl⟩;refine AT (ρ:=sng b1 _) takeZ ?_
 have ct:=rdB b1 29 [.slice pq qs.length kq,.slice pc cs.length kc,.slice pb bs.length kb,.slice ph hs.length kh]
 have ct0:=rdC ct 0
 have ct1:=rdC ct 1
 have ct2:=rdC ct 2
 have ct3:=rdC ct 3
 have ctp:RdP (sng b1 (.cells #[.slice pq qs.length kq,.slice pc cs.length kc,.slice pb bs.length kb,.slice ph hs.length kh] 29 (0,0))) b1 0 [.slice pq qs.length kq,.slice pc cs.length kc]:=rdP_sng (xs:=[.slice pq qs.length kq,.slice pc cs.length kc,.slice pb bs.length kb,.slice ph hs.length kh]) rfl
 refine BH (BM rfl) rfl rfl rfl ?_;rintro _ _ ⟨b2,rfl,rfl⟩;refine AT (ρ:=sng b2 _) takeZ ?_
 have cd:=rdB b2 31 [int d.s,int d.d,int d.v,int d.r,int d.e]
 have cd0:=rdC cd 0
 have cd1:=rdC cd 1
 have cd2:=rdC cd 2
 have cd3:=rdC cd 3
 have cd4:=rdC cd 4
 refine AY ?_; rintro _ _ ⟨b,rfl,rfl⟩;refine Acf ?_;refine Ace ?_
 revert b; intro b4
 refine CB (Graph_spec hT d) rfl rfl rdZ rfl rfl ?_;rintro _ σg hg
 cases hv:validT qs cs bs hs d with
 | false =>
  rw [hv,if_neg (by simp)] at hg
  obtain ⟨rfl,rfl⟩:=hg
  refine Abe ?_;refine AY ?_; rintro _ _ ⟨b,rfl,rfl⟩;refine AU ?_; rintro _ _ ⟨rfl,rfl⟩;refine Adx ?_;refine Ab9 ?_;refine Aa ?_;refine BR ?_;refine AU ?_; rintro _ _ ⟨rfl,rfl⟩;refine Acf ?_;exact AI (resSEEE (b1:=b4) (T:=75) (v1:=[int 0,.slice none 0 0,int 0,int 0]) rfl rfl rfl rfl rfl rfl rfl (cells_own memZ)) rsubZ selZ (.inr ⟨rfl,rfl,rfl⟩)
 | true =>
 rw [hv,if_pos rfl] at hg
 obtain ⟨ug,rfl,hOg⟩:=hg
 have hAt:ArcsAt σg ug (arcsG qs cs bs hs d):=hOg.at
 obtain ⟨pg,kg,rfl⟩:=hOg.form
 have h:=vok hv
 have hEl:=ea_len qs cs bs hs d h
 have hAl:(arcsG qs cs bs hs d).length = (arcsE qs cs bs hs d).length:=by unfold arcsG; rw [List.length_map]
 have hM:=flowMax_spec σg (.slice pg (arcsG qs cs bs hs d).length kg) (vsN qs d) (vtx d d.s d.r) (vtx d d.d d.e) (arcsG qs cs bs hs d) hAt (by omega)
 refine Abe ?_;refine AY ?_; rintro _ _ ⟨b,rfl,rfl⟩;refine AU ?_; rintro _ _ ⟨rfl,rfl⟩;refine Adx ?_;refine Abb ?_;refine Aao ?_;refine Aco ?_;refine Aac ?_;refine CB hM rfl rfl rdZ rfl rfl ?_;rintro _ σf ⟨fs,F,m,e,rfl,hF,hm⟩
 obtain ⟨he,_⟩:=max_cut h (show MaxN qs cs bs hs d F m e from hm)
 subst he
 obtain ⟨pf,kf,rfl,_⟩:=hF.val Eng.encI_len
 refine Abe ?_;refine AP ?_;refine Acf ?_;refine Aai ?_;refine Abb ?_;refine Abp ?_;refine Aa1 ?_;refine AU ?_; rintro _ _ ⟨rfl,rfl⟩;refine Acf ?_;exact AI (resSEEE (b1:=b4) (T:=75) (v1:=[int (vsN qs d),.slice pg (arcsG qs cs bs hs d).length kg,int (vtx d d.s d.r),int (vtx d d.d d.e)]) rfl rfl rfl rfl rfl rfl rfl (cells_own memZ)) rsubZ selZ (.inl ⟨rfl,pg,kg,pf,kf,F,m,σg,σf,hAt,hF,hm,rfl,rfl⟩)
set_option maxHeartbeats 16000000 in
theorem Most_spec {ρ τ σ υ:PH} {pq pc pb ph:Option Addr} {kq kc kb kh:Nat} {qs:List Int} {cs:List Ct} {bs:List Bk} {hs:List Hd} (hT:TbAt ρ τ σ υ pq pc pb ph kq kc kb kh qs cs bs hs) (d:Dm) :
  Ans Tryz.prog (fv 8) [.agg #[.slice pq qs.length kq,.slice pc cs.length kc,.slice pb bs.length kb,.slice ph hs.length kh],.agg #[int d.s,int d.d,int d.v,int d.r,int d.e]] [ρ,τ,σ,υ] (fun r=>(validT qs cs bs hs d = true ∧ ∃ (F:List Int) (m:Int),MaxN qs cs bs hs d F m 0 ∧ r = .tuple #[int m,int 0]) ∨ (validT qs cs bs hs d = false ∧ r = .tuple #[int 0,int 1])):=by
 refine spec_in (cap:=[]) Tryz.func8 rfl rfl Tryz.ntmps8 rfl envZ (fun N β=>?_)
 refine Aa ?_;refine BH (BM rfl) rfl rfl rfl ?_;rintro _ _ ⟨b1,rfl,rfl⟩;refine AT (ρ:=sng b1 _) takeZ ?_
 have ct:=rdB b1 29 [.slice pq qs.length kq,.slice pc cs.length kc,.slice pb bs.length kb,.slice ph hs.length kh]
 have ct0:=rdC ct 0
 have ct1:=rdC ct 1
 have ct2:=rdC ct 2
 have ct3:=rdC ct 3
 have ctp:RdP (sng b1 (.cells #[.slice pq qs.length kq,.slice pc cs.length kc,.slice pb bs.length kb,.slice ph hs.length kh] 29 (0,0))) b1 0 [.slice pq qs.length kq,.slice pc cs.length kc]:=rdP_sng (xs:=[.slice pq qs.length kq,.slice pc cs.length kc,.slice pb bs.length kb,.slice ph hs.length kh]) rfl
 refine BH (BM rfl) rfl rfl rfl ?_;rintro _ _ ⟨b2,rfl,rfl⟩;refine AT (ρ:=sng b2 _) takeZ ?_
 have cd:=rdB b2 31 [int d.s,int d.d,int d.v,int d.r,int d.e]
 have cd0:=rdC cd 0
 have cd1:=rdC cd 1
 have cd2:=rdC cd 2
 have cd3:=rdC cd 3
 have cd4:=rdC cd 4
 refine Aan ?_;refine Ace ?_;refine BC (plMax_spec hT d) rfl rfl Takes.nil rdZ rfl rfl ?_;rintro _ H' (⟨hv,pg,kg,pf,kf,F,m,σg,σf,hAt,hF,hm,rfl,rfl⟩ | ⟨hv,rfl,rfl⟩)
 ·refine AB ?_
  refine Aa6 ?_;refine Aa6 ?_;refine AY ?_; rintro _ _ ⟨b,rfl,rfl⟩;refine AU ?_; rintro _ _ ⟨rfl,rfl⟩;refine Acf ?_;refine Abn ?_;refine Aan ?_;exact AI (res2 rfl rfl rfl) rsubZ selZ ⟨rfl,.inl ⟨hv,F,m,hm,rfl⟩⟩
 ·refine AB ?_
  refine Aa6 ?_;refine Aa6 ?_;refine AY ?_; rintro _ _ ⟨b,rfl,rfl⟩;refine AU ?_; rintro _ _ ⟨rfl,rfl⟩;refine Acf ?_;refine Abn ?_;refine Aan ?_;exact AI (res2 rfl rfl rfl) rsubZ selZ ⟨rfl,.inr ⟨hv,rfl⟩⟩
end Go.Proofs.YtjehnjhkcmobcaaGreat
/- Paths of the program. -/
namespace Go.Proofs.YtjehnjhkcmobcaaGreat
open Go.Eng Go.Flow
set_option maxRecDepth 100000
set_option maxHeartbeats 4000000

theorem ints_one (l:List Int):∀ u ∈ l.flatMap Eng.encI,u.oneCell' = true:=by
 intro u hu
 rw [List.mem_flatMap] at hu
 obtain ⟨a,_,hu⟩:=hu
 simp only [Eng.encI,List.mem_cons,List.not_mem_nil,or_false] at hu;subst hu; rfl
theorem cloneInt_spec (ρ:PH) (v:Value) (l:List Int) (hv:IntsAt ρ v l) (hl:l.length ≤ 1000000) :
  Makes Tryz.prog (fv 72) [v] [ρ] (fun r σ=>OwnS 3 1 r l.length (l.flatMap Eng.encI) σ):=by
 have hv2:=hv
 obtain ⟨q,c,rfl,hr⟩:=hv.val Eng.encI_len
 refine spec_in (cap:=[]) Tryz.func72 rfl rfl Tryz.ntmps72 rfl envZ (fun N β=>?_)
 cases q with
 | none =>
  have hnil:l = []:=by
   cases l with
   | nil=>rfl
   | cons a l =>
    obtain ⟨b,o,e,_⟩:=hr 0 a rfl
    simp at e
  subst hnil;refine BY ?_;refine Aak ?_;refine Aai ?_
  focus ((refine' CH _ rfl rfl rfl _; rotate_left; (apply GZ; exact rfl; exact rfl; exact rfl)))
  refine Aa4 ?_;exact AI (res1 rfl rfl) rsubZ selZ ⟨emp,OwnS.nil _ _,rfl⟩
 | some ad =>
  refine Aak ?_;refine Aai ?_
  focus ((refine' CH _ rfl rfl rfl _; rotate_left; (apply G0; exact rfl; exact rfl; exact rfl)))
  refine Aaj ?_;refine Aa ?_;refine BD ?_; rintro _ _ ⟨b,rfl,rfl⟩;refine AB ?_
  rcases Nat.eq_zero_or_pos l.length with h0 | h0
  ·have hnil:l = []:=List.eq_nil_of_length_eq_zero h0
   subst hnil
   focus ((refine' CH _ rfl rfl rfl _; rotate_left; (apply FU; exact rfl; exact rfl; exact rfl; exact rfl; omega)))
   refine Aaa ?_;exact AI (res1 rfl rfl) rsubZ selZ ⟨_,OwnS.empty,rfl⟩
  ·obtain ⟨b2,o2,c2,e,hcell⟩:=SlAt.some hv2 h0
   simp only [Value.slice.injEq,Option.some.injEq,true_and] at e
   obtain ⟨rfl,rfl⟩:=e
   refine BH (B8 (by_:=8) (s:=1) (news:=l.flatMap Eng.encI) rfl rfl rfl rfl rfl rfl rfl (OwnS.empty (b:=b)) takeZ (cellsR (ρ:=ρ) hcell memZ) (flat_len Eng.encI_len l) (ints_one l) h0 (by simp only [maxLen]; omega) (by omega)) rfl rfl rfl ?_
   rintro r1 _ ⟨σ,hO,rfl⟩;refine Aaa ?_;refine AI (res1 rfl rfl) rsubZ selZ ⟨σ,?_,rfl⟩
   simpa using hO
theorem OwnS.num {e:TypeId} {b n cap:Nat} {l:List Int} {ρ:PH} (h:OwnS e 1 (.slice (some ⟨b,0,none⟩) n cap) l.length (l.flatMap Eng.encI) ρ) {i:Nat} (hi:i < l.length):rdc ρ b i = some (int (l.getD i 0)):=by
 have hS:SlE Eng.encI 1 ρ (.slice (some ⟨b,0,none⟩) n cap) l:=h.at
 obtain ⟨p,c,e1,hr⟩:=hS.val Eng.encI_len
 simp only [Value.slice.injEq] at e1
 obtain ⟨b',o',e2,h2⟩:=hr.int (List.getElem?_eq_getElem hi)
 rw [← e1.1] at e2;simp only [Option.some.injEq,Addr.mk.injEq,and_true] at e2
 obtain ⟨rfl,rfl⟩:=e2
 rw [Nat.zero_add] at h2;rw [h2]
 simp [List.getD_eq_getElem?_getD,hi]
theorem OwnS.some_of {e:TypeId} {s:Nat} {v:Value} {l:List Int} {ρ:PH} (h:OwnS e s v l.length (l.flatMap Eng.encI) ρ) (h0:0 < l.length):∃ b cap,v = .slice (some ⟨b,0,none⟩) l.length cap:=by
 rcases h.block with ⟨_,h2,_⟩ | ⟨b,cap,cur,h2,_⟩
 ·rw [h2] at h0; simp at h0
 ·exact ⟨b,cap,h2⟩
abbrev roomP (b:Nat):Value:=.func (.func 74) #[] #[.pointer (some ⟨b,0,none⟩)]
theorem paths1_spec (ρ:PH) (b k:Nat) (T e:TypeId) (rv:Value) (rest:List Int) (hO:OwnS e 1 rv rest.length (rest.flatMap Eng.encI) ρ) (hk:k < rest.length) :
  Ans Tryz.prog (roomP b) [int k] [sng b (.cells #[rv] T (0,0)),ρ] (fun r=>r = int (rmP rest k)):=by
 obtain ⟨br,cap,rfl⟩:=OwnS.some_of hO (by omega)
 have c1:rdc (sng b (.cells #[.slice (some ⟨br,0,none⟩) rest.length cap] T (0,0))) b 0 = some (.slice (some ⟨br,0,none⟩) rest.length cap):=by rw [rdc_sng]; rfl
 have c2:=OwnS.num hO hk
 refine spec_in (cap:=[.pointer (some ⟨b,0,none⟩)]) Tryz.func74 rfl rfl Tryz.ntmps74 rfl envZ (fun N β=>?_)
 refine Aak ?_;refine Adi ?_;refine Ad8 ?_;refine Aaa ?_;exact AI (res1 rfl rfl) rsubZ selZ ⟨rfl,rfl⟩

def encPV (x:Value × Int):List Value:=[x.1,int x.2]
theorem encPV_len (x:Value × Int):(encPV x).length = 2:=rfl
def ArcsIn (σ:PH) (es:List (Value × Int)) (ps:List (List Lk × Int)):Prop:=
 es.length = ps.length ∧ ∀ (i:Nat) (e:Value × Int) (p:List Lk × Int),es[i]? = some e → ps[i]? = some p → e.2 = p.2 ∧ IntsAt σ e.1 (ksOf p.1)
theorem ArcsIn.nil (σ:PH):ArcsIn σ [] []:=⟨rfl,by intro i e p h; simp at h⟩
theorem ArcsIn.sub {σ τ:PH} {es:List (Value × Int)} {ps:List (List Lk × Int)} (h:ArcsIn σ es ps) (hs:PH.sub σ τ):ArcsIn τ es ps:=⟨h.1,fun i e p h1 h2=>⟨(h.2 i e p h1 h2).1,hs.slE (h.2 i e p h1 h2).2⟩⟩
theorem ArcsIn.snoc {σ:PH} {es:List (Value × Int)} {ps:List (List Lk × Int)} {e:Value × Int} {p:List Lk × Int} (h:ArcsIn σ es ps) (h1:e.2 = p.2) (h2:IntsAt σ e.1 (ksOf p.1)):ArcsIn σ (es ++ [e]) (ps ++ [p]):=by
 refine ⟨by simp [h.1],fun i e' p' k1 k2=>?_⟩
 by_cases hi:i < es.length
 ·rw [List.getElem?_append_left hi] at k1
  rw [List.getElem?_append_left (by rw [← h.1]; exact hi)] at k2
  exact h.2 i e' p' k1 k2
 ·rw [List.getElem?_append_right (by omega)] at k1
  rw [List.getElem?_append_right (by rw [← h.1]; omega)] at k2
  have hz:i - es.length = 0:=by
   have:=(List.getElem?_eq_some_iff.1 k1).1
   simp at this; omega
  rw [hz] at k1;rw [← h.1,hz] at k2
  simp at k1 k2
  subst k1; subst k2;exact ⟨h1,h2⟩
def PathsAt (σ:PH) (u:Value) (ps:List (List Lk × Int)):Prop:=∃ es,SlE encPV 2 σ u es ∧ ArcsIn σ es ps

set_option maxHeartbeats 8000000 in
theorem flowPaths_spec (ρ σ:PH) (v u:Value) (n s t:Int) (l:List Arc) (fl:List Int) (hv:ArcsAt ρ v l) (hu:IntsAt σ u fl) (hl:l.length ≤ 1000000) :
  Makes Tryz.prog (fv 31) [int n,v,u,int s,int t] [ρ,σ] (fun r τ=>∃ w ps e,r = .tuple #[w,int e] ∧ PathsAt τ w ps ∧ PathsOK n l fl s t ps e):=by
 have hnil:PathsAt emp (.slice none 0 0) []:=⟨[],⟨rfl,.inl ⟨rfl,none,0,rfl⟩⟩,ArcsIn.nil _⟩
 have hv2:=hv
 obtain ⟨q,c,rfl,hr⟩:=hv.val encA_len
 refine spec_in (cap:=[]) Tryz.func31 rfl rfl Tryz.ntmps31 rfl envZ (fun N β=>?_)
 refine Acj ?_;refine Aai ?_;refine Aa1 ?_;refine Aa1 ?_;refine A3 (flowValue_spec ρ σ _ u n s t l fl hv2 hu hl) rfl rfl rdZ rfl rfl ?_;rintro _ rfl
 by_cases h0:(valueSpec n l fl s t).2 = 0
 rotate_left
 ·refine AB ?_
  refine Aa6 ?_;refine Aan ?_;refine Aad ?_;refine Ab9 ?_;refine Adf ?_;refine BY ?_;exact AI (res2 rfl rfl rfl) rsubZ selZ ⟨emp,⟨_,[],_,rfl,hnil,.inl ⟨h0,rfl,rfl⟩⟩,rfl⟩
 obtain ⟨n',s',t',g,hF0,_⟩:=value_good h0
 obtain ⟨rfl,rfl,rfl⟩:=And.intro g.en (And.intro g.es g.et)
 have hn2:=g.n2
 have hl2:=g.l2
 have hpl:=pl_lt g.ok
 have hcap:∀ a ∈ l,0 ≤ a.c ∧ a.c ≤ 1099511627776:=fun a ha=>by have:=okArc_iff.1 (g.ok a ha); omega
 have hpk:∀ x ∈ plinks l,x.f < n' ∧ x.t < n' ∧ x.k ≤ 40000:=fun x hx=>by have:=hpl x hx; have:=pl_k hx; omega
 have hGok:GOk n' (outsOf (plinks l)) (insOf (plinks l)):=GOk_of hn2 (by rw [plinks_len]; omega) hpk
 refine Ac7 ?_;refine Abb ?_;refine Aad ?_
 refine CB (cloneInt_spec σ u fl hu (by rw [← hF0.len]; omega)) rfl rfl rdZ rfl rfl ?_
 rintro rv ρr hO
 have hrv1:rv.oneCell' = true:=OwnS.one hO
 refine BH (FC rfl rfl) rfl rfl rfl ?_;rintro _ _ ⟨bb,rfl,rfl⟩;refine B5 (EH rfl rfl hrv1 rfl takeZ SetL.here) rfl rfl ?_;rintro _ _ ⟨rfl,rfl⟩;refine Adh ?_;refine CA ?_;refine BC (newGraph_spec n' 74 [.pointer (some ⟨bb,0,none⟩)] hn2) rfl rfl takesZ rdZ rfl rfl ?_;rintro _ _ ⟨gb,ob,ib,rfl,rfl⟩;simp only [List.cons_append,List.nil_append]
 have hG0:=GBl_new gb ob ib n' (roomP bb)
 refine ES (n' + n') ?_;simp only [List.cons_append,List.nil_append];refine Ad5 ?_
 refine BA [0,1,3,4,14,15,41,42] (X:=Nat × List PH) (0,_) (fun x=>x.1 ≤ l.length ∧ GBl gb ob ib n' (roomP bb) (plinks (l.take x.1)) x.2) (fun x=>[(43,int x.1)])
  (fun x=>sng bb (.cells #[rv] 22 (0,0)) :: ρr :: x.2) (fun x=>l.length - x.1) pickZ ⟨by simp,hG0⟩ covZ ?_ ?_
 ·refine Sel.cons takeZ (Sel.cons takeZ (Sel.cons takeZ (Sel.cons takeZ (Sel.cons takeZ ?_))))
  rw [List.replicate_append_replicate];exact Sel.refl
 rintro ⟨k,Hg⟩ ⟨hk,hG⟩
 dsimp only at hk hG ⊢
 by_cases hlt:k < l.length
 ·have hx:=List.getElem?_eq_getElem hlt
  obtain ⟨b',o,rfl,hA,h0',h1',h2'⟩:=arcRow hr hx
  obtain ⟨g1,g2,g3,g4,g5,g6,g7⟩:=okArc_iff.1 (g.ok l[k] (List.getElem_mem hlt))
  obtain ⟨f,hf⟩:=Int.eq_ofNat_of_zero_le g1
  obtain ⟨t2,ht2⟩:=Int.eq_ofNat_of_zero_le g3
  have hlr:=plinks_len (l.take k)
  have hlk:(l.take k).length = k:=by simp; omega
  have hsn:=plinks_snoc (l.take k) l[k]
  rw [← take_snoc' hlt,hlk,hf,ht2] at hsn;simp only [Int.toNat_natCast] at hsn;rw [hf,ht2] at hA
  have a1:=add_bl hG k f t2 (by omega) (by omega) (by omega)
  refine Ado ?_;refine AY ?_; rintro _ _ ⟨b,rfl,rfl⟩;refine AD ?_;refine AU ?_; rintro _ _ ⟨rfl,rfl⟩;refine Adt ?_;refine AB ?_;refine Aa5 ?_;refine BC a1 rfl rfl (Takes.skips [_,_,_] Takes.all) rdZ rfl rfl ?_;rintro _ H1 ⟨rfl,hG1⟩
  refine CS (H':=sng b (.cells #[int (f:Int),int (t2:Int),int l[k].c] 157 (0,0)) :: sng bb (.cells #[rv] 22 (0,0)) :: ρr :: H1) (by simpa using List.perm_append_comm (l₁:=H1) (l₂:=[_,_,_])) ?_
  refine Adj ?_
  refine AX (k + 1,H1) ⟨by dsimp only; omega,?_⟩ (by dsimp only; omega) covZ (Sel.cons takeZ (Sel.cons takeZ (Sel.skip Sel.refl)))
  dsimp only
  rw [hsn];exact hG1
 rw [List.take_of_length_le (by omega)] at hG
 refine CS (H':=Hg ++ [sng bb (.cells #[rv] 22 (0,0)),ρr]) (by simpa using List.perm_append_comm (l₂:=Hg) (l₁:=[_,_])) ?_
 refine DU (fun γ hγ=>?_)
 have hGA:=hG.at hγ
 refine AT (ρ:=γ) takeZ ?_;refine BY ?_;refine BY ?_;refine Abl ?_;refine Ae ?_
 refine BA [0,1,3,4,14,15] (X:=(List Int × List (List Lk × Int)) × ((Value × List (Value × Int)) × ((PH × PH) × PH))) ((fl,[]),((.slice none 0 0,[]),((emp,emp),ρr)))
  (fun x=>Flw n' l s' t' x.1.1 ∧ (∀ ps r,RunP n' l s' t' x.1.1 ps r → RunP n' l s' t' fl (x.1.2 ++ ps) r) ∧ OwnS 3 1 rv x.1.1.length (x.1.1.flatMap Eng.encI) x.2.2.2 ∧ OwnS 163 2 x.2.1.1 x.2.1.2.length (x.2.1.2.flatMap encPV) x.2.2.1.1 ∧ ArcsIn x.2.2.1.2 x.2.1.2 x.1.2 ∧ x.1.2.length + npos x.1.1 ≤ l.length)
  (fun x=>[(18,x.2.1.1)]) (fun x=>[sng bb (.cells #[rv] 22 (0,0)),x.2.2.2,x.2.2.1.1,x.2.2.1.2]) (fun x=>(fval s' l x.1.1 + 1099511627776 * (2 * (l.length:Int))).toNat)
  pickZ ⟨hF0,fun _ _ h=>h,hO,OwnS.nil _ _,ArcsIn.nil _,by have:=npos_len fl; have:=hF0.len; dsimp only [List.length_nil]; omega⟩ covZ selZ ?_
 rintro ⟨⟨rest,ps⟩,⟨⟨ov,es⟩,⟨⟨ρo,ρa⟩,ρ1⟩⟩⟩ ⟨hF,hrun,hO1,hOo,hAr,hcnt⟩
 dsimp only at hF hrun hO1 hOo hAr hcnt ⊢
 have hb0:=fval_bd s' l fl (inCap_small l _ hF0.len hF0.cap g.ok)
 have hb1:=fval_bd s' l rest (inCap_small l _ hF.len hF.cap g.ok)
 rw [← hF0.len] at hb0;rw [← hF.len] at hb1
 have hrm:∀ v x,v < n' → x ∈ insOf (plinks l) v → Ans Tryz.prog (roomP bb) [int x.k] [sng bb (.cells #[rv] 22 (0,0)),ρ1] (fun r=>r = int (rmP rest x.k)):=fun v x _ hx=>by
  have hm:x ∈ plinks l:=by unfold insOf at hx; exact (List.mem_filter.1 hx).1
  exact paths1_spec ρ1 bb x.k _ _ rv rest hO1 (by rw [← hF.len]; exact pl_k hm)
 refine AO ?_;refine Aad ?_;refine Aa1 ?_;refine CB (path_spec γ gb n' s' t' (outsOf (plinks l)) (insOf (plinks l)) (roomP bb) (rmP rest) _ hGA hGok g.sn g.tn hrm) rfl rfl rdZ rfl rfl ?_;rintro _ ρp ⟨D,pv,hD,rfl,hP⟩;rw [opens_opn hpl] at hD;rw [nxO_nxt] at hP
 by_cases hd0:0 ≤ D.getD s' 0
 rotate_left
 ·rw [decide_eq_false hd0]
  refine Acc ?_;refine Ad1 ?_;refine Adf ?_
  refine DE (ρ:=ρo) takeZ (σ:=ρa) takeZ (fun δ k1 k2=>?_)
  refine AI (res2 rfl rfl rfl) rsubZ selZ ⟨δ,⟨ov,ps,0,rfl,⟨es,k1.slE hOo.at,hAr.sub k2⟩,.inr ⟨h0,rfl,rest,?_⟩⟩,rfl⟩
  have:=hrun [] rest (.done hD (by omega))
  simpa using this
 rw [decide_eq_true hd0]
 obtain ⟨hN1,hN2,hN3⟩:=pNext_ok g.ok g.sn g.ne hF hD hd0
 obtain ⟨k0,hk0⟩:=Int.eq_ofNat_of_zero_le hd0
 have hDn:=hD.lt (fun x hx=>hpl x hx.1) g.tn g.sn
 have hPl:(pP l rest D s').length = k0:=path_len hpl hD k0 s' g.sn hk0
 have hPm:∀ x ∈ pP l rest D s',x ∈ plinks l:=fun x hx=>((path_chn hpl hD k0 s' g.sn hk0).all x hx).1.1
 have hroom:pRoom l rest D s' ≤ 1099511627776:=(leastR_le _ _ _).1
 have hIn:IntsAt ρp pv (ksOf (pP l rest D s')):=ownInts (e:=3) (by rw [show (ksOf (pP l rest D s')).length = (pP l rest D s').length from by simp [ksOf]]; exact hP)
 have hlst:=least_spec γ ρp gb (roomP bb) pv (rmP rest) _ (pP l rest D s') hGA.r hIn (by omega) (fun x hx=>hrm x.t x (hpl x (hPm x hx)).2 (by unfold insOf; rw [List.mem_filter]; exact ⟨hPm x hx,by simp⟩))
 have hpv1:pv.oneCell' = true:=SlE.one hIn
 have hroom2:leastR (rmP rest) (pP l rest D s') ≤ 1099511627776:=hroom
 have hroom3:0 < leastR (rmP rest) (pP l rest D s'):=hN2
 obtain ⟨q2,c2,rfl,hr2⟩:=hIn.val Eng.encI_len
 have hkl:(ksOf (pP l rest D s')).length = (pP l rest D s').length:=by simp [ksOf]
 have hmu:=fval_bd s' l (pNext l rest D s') (inCap_small l _ hN1.len hN1.cap g.ok)
 rw [← hN1.len] at hmu;refine Acc ?_;refine Acb ?_;refine Abn ?_;refine A3 hlst rfl rfl rdZ rfl rfl ?_;rintro _ rfl;refine Ad5 ?_
 refine BA [0,1,3,4,14,15,18,19,21,69,70] (X:=Nat × PH) (0,ρ1) (fun x=>x.1 ≤ (pP l rest D s').length ∧ OwnS 3 1 rv (subAll (pRoom l rest D s') rest ((pP l rest D s').take x.1)).length ((subAll (pRoom l rest D s') rest ((pP l rest D s').take x.1)).flatMap Eng.encI) x.2) (fun x=>[(71,int x.1)])
  (fun x=>[sng bb (.cells #[rv] 22 (0,0)),x.2,ρo,ρa,ρp])
  (fun x=>(pP l rest D s').length - x.1) pickZ ⟨by dsimp only; omega,by simpa [subAll] using hO1⟩ covZ selZ ?_
 rintro ⟨i,ρ2⟩ ⟨hi,hO2⟩
 dsimp only at hi hO2 ⊢
 have hal:(subAll (pRoom l rest D s') rest ((pP l rest D s').take i)).length = l.length:=by rw [subAll_len]; exact hF.len.symm
 by_cases hlt2:i < (pP l rest D s').length
 ·have hx:(ksOf (pP l rest D s'))[i]? = some ((pP l rest D s')[i].k:Int):=by simp [ksOf,hlt2]
  obtain ⟨b,o,rfl,g0⟩:=hr2.int hx
  have hxm:=hPm _ (List.getElem_mem hlt2)
  have hxk:=pl_k hxm
  obtain ⟨br,cap,rfl⟩:=OwnS.some_of hO2 (by omega)
  have hnum:=OwnS.num hO2 (i:=(pP l rest D s')[i].k) (by omega)
  have hic:=inCap_get l _ (pTake_cap g.ok g.sn hF hD hd0 i) (pP l rest D s')[i].k (l[(pP l rest D s')[i].k]'(by omega)) ((subAll (pRoom l rest D s') rest ((pP l rest D s').take i)).getD (pP l rest D s')[i].k 0) (List.getElem?_eq_getElem (by omega)) (by rw [List.getD_eq_getElem?_getD,List.getElem?_eq_getElem (by omega)]; rfl)
  have hcc:=hcap _ (List.getElem_mem (show (pP l rest D s')[i].k < l.length by omega))
  have hsn:=subAll_snoc (pRoom l rest D s') rest ((pP l rest D s').take i) (pP l rest D s')[i]
  rw [← take_snoc' hlt2] at hsn;unfold subP at hsn;refine Ac6 ?_;refine Aaa ?_;refine AA ?_;refine Ach ?_;refine B9 ?_;refine Ach ?_;refine CN ?_;refine B9 ?_
  refine B5 (EJ Eng.encI_len (a:=(subAll (pRoom l rest D s') rest ((pP l rest D s').take i)).getD (pP l rest D s')[i].k 0) (pP l rest D s')[i].k 0 ((subAll (pRoom l rest D s') rest ((pP l rest D s').take i)).getD (pP l rest D s')[i].k 0 - pRoom l rest D s') hO2 rfl (by omega) (by omega) (by rw [List.getD_eq_getElem?_getD,List.getElem?_eq_getElem (by omega)]; rfl) rfl rfl rfl rfl takeZ) rfl rfl ?_
  rintro _ _ ⟨rfl,ρ3,hO3,rfl⟩;refine Adj ?_
  refine AX (i + 1,ρ3) ⟨by dsimp only; omega,?_⟩ (by dsimp only; omega) covZ selZ
  dsimp only
  rw [hsn];rw [List.length_set] at hO3 ⊢;exact hO3
 ·rw [List.take_of_length_le (by omega)] at hO2
  have hesl:=hAr.1
  have hnp:=pNext_pos g.ok g.sn g.ne hF hD hd0
  refine Abl ?_;refine Acv ?_;refine AB ?_;refine BR ?_;refine BD ?_; rintro _ _ ⟨b,rfl,rfl⟩
  refine BH (B8 (by_:=32) (s:=2) (news:=[.slice q2 (ksOf (pP l rest D s')).length c2,int (pRoom l rest D s')]) rfl rfl rfl rfl rfl rfl rfl hOo takeZ (cells_own memZ) rfl (by (repeat (first | exact (fun v hv=>absurd hv List.not_mem_nil) | (refine List.forall_mem_cons.2 ⟨?_,?_⟩; (focus (first | exact rfl | assumption))))); first | done | fail) (by omega) (by simp only [maxLen]; omega) (by omega)) rfl rfl rfl ?_
  rintro q9 _ ⟨ρ4,hQ4,rfl⟩;refine Aaa ?_;refine A2 ?_
  refine DE (ρ:=ρa) takeZ (σ:=ρp) takeZ (fun δ k1 k2=>?_)
  refine AX ((pNext l rest D s',ps ++ [(pP l rest D s',pRoom l rest D s')]),((q9,es ++ [(.slice q2 (ksOf (pP l rest D s')).length c2,pRoom l rest D s')]),((ρ4,δ),ρ2))) ⟨hN1,?_,hO2,?_,(hAr.sub k1).snoc rfl (k2.slE hIn),?_⟩ (by dsimp only; omega) covZ selZ
  ·intro ps2 r hR
   have:=hrun _ r (.step hD hd0 hR)
   dsimp only
   rw [List.append_assoc];exact this
  ·dsimp only
   rw [List.length_append,List.flatMap_append];exact hQ4
  ·dsimp only
   rw [List.length_append,List.length_singleton];omega
end Go.Proofs.YtjehnjhkcmobcaaGreat
/- The reference's list of arcs with what is left on each. No program in sight. No conditions. -/
namespace Go.Flow
end Go.Flow
/- Paths of the reference; paths compared. -/
namespace Go.Proofs.YtjehnjhkcmobcaaGreat
open Go.Eng Go.Flow
set_option maxRecDepth 100000
set_option maxHeartbeats 4000000

end Go.Proofs.YtjehnjhkcmobcaaGreat
/- A range over a function whose iterator keeps numbers of its own. No conditions. -/
namespace Go.Eng
variable {C : Cx} {D : List Deferred} {R H T : List PH} {L : Env} {K : List It}
def IterW (P : Program) (gv : Value) (R1 HI : List PH) (xs : List (List Value)) : Prop :=
  ∀ (y : Value) (S : Type) (Own : S → List PH) (Inv : Nat → S → Prop) (Stop : S → Prop) (Ry : List PH),
    (∀ i σ vs, xs[i]? = some vs → Inv i σ → Spec P y vs Ry (Own σ) (fun v H' => ∃ σ', H' = Own σ' ∧ ((v = .bool true ∧ Inv (i + 1) σ') ∨ (v = .bool false ∧ Stop σ')))) →
    (∃ l, y = yv l) → ∀ σ, Inv 0 σ → Spec P gv [y] (R1 ++ Ry) (Own σ ++ HI) (fun _ H' => ∃ σ', H' = Own σ' ∧ (Inv xs.length σ' ∨ Stop σ'))
theorem F3 {P : Program} {Q : Exit → Act → World → Prop} {N : Bs} {M : Nat} {g : Operand} {gf : FuncId} {cap : List Value} {ps : List Nat} {assign body : Code} {X : Type} {R1 HI Hr : List PH} {xs : List (List Value)} {fn : Func} {gc : Code}
    (hg : evalE L g = some (.func (.func gf) #[] cap.toArray)) (hgf : P.funcs[gf]? = some fn) (hgb : fn.body = some gc) (hname : (fn.name == "runtime.NumGoroutine") = false)
    (hit : IterW P (.func (.func gf) #[] cap.toArray) R1 HI xs) (hR1 : ∀ ρ ∈ R1, ρ ∈ R)
    (I : Nat → X → Prop) (Hx : X → List PH) (J : Code → X → Prop) (x0 : X) (hx0 : Hx x0 = T) (hT : Takes H (T ++ HI) Hr) (h0 : I 0 x0)
    (hround : ∀ l (r : Loop) i x vs, xs[i]? = some vs → I i x → r.params = ps.toArray → r.assign = assign → r.body = body → r.state = .ready → r.pending = none → Frm M L ⟨r.tmps, []⟩ →
      Spec P (yv l) vs R (sng l (.loop r) :: Hx x) (fun v H' => ∃ x', (v = .bool true ∧ I (i + 1) x' ∧ H' = sng l (.loop r) :: Hx x') ∨ (v = .bool false ∧ ∃ c, J c x' ∧ H' = sng l (.loop { r with state := .done, pending := some c }) :: Hx x')))
    (hdone : ∀ b x, I xs.length x → JK ⟨none, P, Q, N, M⟩ (mk b :: D) R (sng b defO :: (Hx x ++ Hr)) L K)
    (hjump : ∀ b c x, J c x → JK ⟨none, P, Q, N, M⟩ (mk b :: D) R (sng b defO :: (Hx x ++ Hr)) L (.code c :: K)) :
    JK ⟨none, P, Q, N, M⟩ D R H L (.code (.rangeFunc g ps.toArray assign body) :: K) := by
  subst hx0
  refine ⟨fun a w hf hd hs => wpIn_rangeFunc (fun fnn _ => ?_)⟩
  let r : Loop := { state := .ready, pending := none, fn := fnn, tmps := a.tmps, params := ps.toArray, assign, body, defers := w.heap.size }
  let w1 : World := (w.alloc defO).alloc (.loop r)
  have hs2 := hT.sat hs
  have hs3 := (hs2.alloc defO).alloc (.loop r)
  have hl : (w.alloc defO).heap.size = w.heap.size + 1 := by simp
  rw [hl] at hs3
  refine ⟨w.heap.size + 1, [mk w.heap.size], w1, ⟨.fn (.func gf) cap.toArray, #[yv (w.heap.size + 1)]⟩, w1, gf, ([yv (w.heap.size + 1)] ++ cap).toArray, w1, ?_, ?_, fun _ _ => trivial, ?_, fun h => by simp [Fence.wide] at h, ?_⟩
  · simp [Instr.enterLoop, w1, r]
  · have hgv' : a.eval g = .func (.func gf) #[] cap.toArray := hf.on g _ hg
    have hc : a.eval (.const (yv (w.heap.size + 1))) = yv (w.heap.size + 1) := rfl
    simp [resolve, Deferred.ofValue, hgv', hc]
  · have hname' : ¬ fn.name = "runtime.NumGoroutine" := by simpa using hname
    simp [invoke, callFunc, program, Sem.run, bind, Sem.bind, pure, hgf, hgb, hname']
  · let Own : X × Option Code → List PH := fun σ => match σ.2 with
      | none => sng (w.heap.size + 1) (.loop r) :: Hx σ.1
      | some c => sng (w.heap.size + 1) (.loop { r with state := .done, pending := some c }) :: Hx σ.1
    have hspec := hit (yv (w.heap.size + 1)) (X × Option Code) Own (fun i σ => σ.2 = none ∧ I i σ.1) (fun σ => ∃ c, σ.2 = some c ∧ J c σ.1) R
      (fun i σ vs hvs ⟨h1, h2⟩ => by
        obtain ⟨x, o⟩ := σ
        simp only at h1 h2;subst h1;refine (hround (w.heap.size + 1) r i x vs hvs h2 rfl rfl rfl rfl rfl ⟨hf.size, hf.get⟩).mono ?_;rintro v H' ⟨x', ⟨e1, e2, e3⟩ | ⟨e1, c, e2, e3⟩⟩
        · exact ⟨(x', none), e3, .inl ⟨e1, rfl, e2⟩⟩
        · exact ⟨(x', some c), e3, .inr ⟨e1, c, rfl, e2⟩⟩)
      ⟨_, rfl⟩ (x0, none) ⟨rfl, h0⟩
    have hs4 : Sat N R ((Own (x0, none) ++ HI) ++ (sng w.heap.size defO :: Hr)) w1 := hs3.perm (by
      simp only [Own, List.cons_append]
      exact (List.perm_middle.symm).cons _)
    have hs5 : Sat N (R1 ++ R) (Own (x0, none) ++ HI) w1 := (hs4.rsub (R' := R1 ++ R) (fun ρ hρ => by
      rcases List.mem_append.1 hρ with h | h
      · exact hR1 ρ h
      · exact h)).left
    have hc := hspec N w1 hs5
    unfold CallsV at hc
    have hname' : ¬ fn.name = "runtime.NumGoroutine" := by simpa using hname
    have hrun : ((do let d ← Deferred.ofValue (.func (.func gf) #[] cap.toArray) [yv (w.heap.size + 1)].toArray; invoke d.target d.args : Sem Next).run P w1) = .ok (.enter gf ([yv (w.heap.size + 1)] ++ cap).toArray) w1 := by
      simp [Deferred.ofValue, invoke, callFunc, program, Sem.run, bind, Sem.bind, pure, hgf, hgb, hname']
    rw [hrun] at hc;simp only at hc
    refine CallsIn.mono (show CallsIn (wideR none) 0 P gf _ w1 _ from hc) ?_
    rintro e w3 ⟨v, rfl, H', ⟨⟨x, o⟩, rfl, hfin⟩, hu⟩
    have hs6 := hs4.upd hu
    have hfin' : ∃ r', r'.state ≠ .busy ∧ Own (x, o) = sng (w.heap.size + 1) (.loop r') :: Hx x ∧ ((r'.pending = none ∧ I xs.length x) ∨ ∃ c, r'.pending = some c ∧ J c x) := by
      rcases hfin with ⟨h1, h2⟩ | ⟨c, h1, h2⟩
      · simp only at h1 h2; subst h1; exact ⟨r, by simp [r], rfl, .inl ⟨rfl, h2⟩⟩
      · simp only at h1 h2; subst h1; exact ⟨{ r with state := .done, pending := some c }, by simp, rfl, .inr ⟨c, rfl, h2⟩⟩
    obtain ⟨r', hb, ho, hfin'⟩ := hfin'
    rw [ho] at hs6;simp only [List.cons_append] at hs6
    have hown := hs6.own Take.here
    have hend : (Instr.endLoop (w.heap.size + 1)).run P w3 = .ok r'.pending { w3 with heap := w3.heap.setIfInBounds (w.heap.size + 1) (.loop { r' with state := .exhausted }) } := by
      simp [Instr.endLoop, run_getLoop hown, run_setLoop hown, hb]
    refine ⟨r'.pending, _, hend, ?_⟩
    have hs7 : Sat N R (sng w.heap.size defO :: (Hx x ++ Hr)) { w3 with heap := w3.heap.setIfInBounds (w.heap.size + 1) (.loop { r' with state := .exhausted }) } :=
      ((hs6.turnAny (o' := .loop { r' with state := .exhausted }) Take.here).tail).perm List.perm_middle
    have hfr : Frm M L { a with defers := [mk w.heap.size] ++ a.defers } := ⟨hf.size, hf.get⟩
    have hdf : ({ a with defers := [mk w.heap.size] ++ a.defers } : Act).defers = mk w.heap.size :: D := by simp [hd]
    rcases hfin' with ⟨hp, hI⟩ | ⟨c, hp, hJ⟩
    · rw [hp] at hs7 ⊢
      exact (hdone w.heap.size x hI).run _ _ hfr hdf hs7
    · rw [hp] at hs7 ⊢
      exact (hjump w.heap.size c x hJ).run _ _ hfr hdf hs7

theorem yield_specE {P : Program} {l M : Nat} {r : Loop} {ps : List Nat} {vs : List Value} {L' : Env} {post : Value → List PH → Prop} {A B : Code} (ha : r.assign = A) (hb : r.body = B) (hf : Frm M L ⟨r.tmps, []⟩) (hps : r.params = ps.toArray) (hpl : ∀ p ∈ ps, p < M) (hL : PutI ps vs L L')
    (h : ∀ N β, JK ⟨some l, P, fun _ _ _ => False, N, M⟩ [] (β :: R) (sng l (.loop r) :: H) L' [.code A, .till (wpK ⟨some l, P, RQ P l N (β :: R) post, N, M⟩ [.sem (Instr.beginRound l), .code B] .normal)]) :
    Spec P (yv l) vs R (sng l (.loop r) :: H) post := by
  subst ha hb;exact yield_spec hf hps hpl hL h
end Go.Eng
namespace Go.Flow
theorem needed_get : ∀ (ps : List (List Lk × Int)) (v : Int) (k : Nat), (∀ j, j < k → restV (ps.take j) v ≠ 0) → ∀ p, ps[k]? = some p → restV (ps.take k) v ≠ 0 → (neededL ps v)[k]? = some (p.1, min p.2 (restV (ps.take k) v))
  | [], _, _, _, p, hp, _ => by simp at hp
  | q :: ps, v, 0, _, p, hp, h => by
    simp only [List.getElem?_cons_zero, Option.some.injEq] at hp;subst hp;simp only [List.take_zero, restV] at h ⊢;unfold neededL;rw [if_neg h]
    rfl
  | q :: ps, v, k + 1, hj, p, hp, h => by
    have h0 := hj 0 (by omega)
    simp only [List.take_zero, restV] at h0;simp only [List.getElem?_cons_succ] at hp;simp only [List.take_succ_cons, restV] at h ⊢;unfold neededL;rw [if_neg h0, List.getElem?_cons_succ, Int.min_comm q.2 v]
    exact needed_get ps _ k (fun j hk => by
      have := hj (j + 1) (by omega)
      simpa only [List.take_succ_cons, restV] using this) p hp h
theorem needed_stop : ∀ (ps : List (List Lk × Int)) (v : Int) (k : Nat), (∀ j, j < k → restV (ps.take j) v ≠ 0) → k ≤ ps.length → (k = ps.length ∨ restV (ps.take k) v = 0) → (neededL ps v).length = k
  | [], _, k, _, hk, _ => by simp at hk; subst hk; rfl
  | q :: ps, v, 0, _, _, h => by
    rcases h with h | h
    · simp at h
    · simp only [List.take_zero, restV] at h
      unfold neededL;rw [if_pos h]
      rfl
  | q :: ps, v, k + 1, hj, hk, h => by
    have h0 := hj 0 (by omega)
    simp only [List.take_zero, restV] at h0;unfold neededL
    rw [if_neg h0, List.length_cons, Int.min_comm q.2 v, needed_stop ps _ k (fun j hk => by
      have := hj (j + 1) (by omega)
      simpa only [List.take_succ_cons, restV] using this) (by simpa using hk) (by simpa [List.take_succ_cons, restV] using h)]
end Go.Flow
/- The paths that are needed. -/
namespace Go.Proofs.YtjehnjhkcmobcaaGreat
open Go.Eng Go.Step Go.Flow
set_option maxRecDepth 100000
set_option maxHeartbeats 4000000

theorem pathsV {τ:PH} {es:List (Value × Int)} {ps:PathL} (h:ArcsIn τ es ps) {i:Nat} {e:Value × Int} (he:es[i]? = some e):∃ (q:List Go.Flow.Lk × Int) (a:Option Addr) (c:Nat),ps[i]? = some q ∧ e.2 = q.2 ∧ e.1 = .slice a q.1.length c ∧ IntsAt τ (.slice a (ksOf q.1).length c) (ksOf q.1):=by
 have hi:=(List.getElem?_eq_some_iff.1 he).1
 have hil:i < ps.length:=by rw [← h.1]; exact hi
 have hq:=List.getElem?_eq_getElem hil
 obtain ⟨h1,h2⟩:=h.2 i e _ he hq
 generalize ps[i] = q at hq h1 h2
 obtain ⟨a,c,e1,_⟩:=h2.val Eng.encI_len
 have hl:(ksOf q.1).length = q.1.length:=by unfold ksOf; rw [List.length_map]
 exact ⟨_,a,c,hq,h1,by rw [e1,hl],by rw [← e1]; exact h2⟩
set_option maxHeartbeats 32000000 in
theorem needed_iter (τ:PH) (p:Option Addr) (kk:Nat) (es:List (Value × Int)) (ps:PathL) (hes:SlE encPV 2 τ (.slice p es.length kk) es) (hai:ArcsIn τ es ps) (b1 b2:Nat) (v:Int) (hv:0 ≤ v ∧ v ≤ 1099511627776) (hps:∀ q ∈ ps,0 ≤ q.2) (hl:ps.length ≤ 20000) :
  IterW Tryz.prog (.func (.func 78) #[] #[.pointer (some ⟨b1,0,none⟩),.pointer (some ⟨b2,0,none⟩)]) [sng b1 (.cells #[.slice p es.length kk] 82 (0,0)),τ] [sng b2 (.cells #[int v] 3 (0,0))] (List.zipWith (fun e q=>[e.1,int q.2]) es (neededL ps v)):=by
 intro y S Own Inv Stop Ry hy hyl σ0 hI0
 obtain ⟨yl,rfl⟩:=hyl
 have c1:rdc (sng b1 (.cells #[.slice p es.length kk] 82 (0,0))) b1 0 = some (.slice p es.length kk):=by rw [rdc_sng]; rfl
 have hr:=rowN encPV_len hes
 have hel:=hai.1
 have hxl:∀ k,(neededL ps v).length = k → k ≤ ps.length → (List.zipWith (fun (e:Value × Int) (q:List Go.Flow.Lk × Int)=>[e.1,int q.2]) es (neededL ps v)).length = k:=fun k h1 h2=>by
  rw [List.length_zipWith,h1];omega
 simp only [List.cons_append,List.nil_append]
 refine spec_in (cap:=[.pointer (some ⟨b1,0,none⟩),.pointer (some ⟨b2,0,none⟩)]) Tryz.func78 rfl rfl Tryz.ntmps78 rfl envZ (fun N β=>?_)
 refine CS (H':=sng b2 (.cells #[int v] 3 (0,0)) :: Own σ0) (List.perm_append_comm (l₂:=[_])) ?_;refine Abk ?_;refine Ada ?_
 refine BA [0,1,2,7,8] (X:=Nat × S) (0,σ0) (fun z=>z.1 ≤ ps.length ∧ (∀ j,j < z.1 → restV (ps.take j) v ≠ 0) ∧ Inv z.1 z.2) (fun z=>[(9,int z.1)]) (fun z=>sng b2 (.cells #[int (restV (ps.take z.1) v)] 3 (0,0)) :: Own z.2) (fun z=>ps.length - z.1) pickZ ⟨by dsimp only; omega,fun j hj=>by dsimp only at hj; omega,hI0⟩ covZ Sel.refl ?_
 rintro ⟨k,σ'⟩ ⟨hk,hlf,hI⟩
 dsimp only at hk hlf hI ⊢
 by_cases hlt:k < ps.length
 rotate_left
 ·have hke:k = ps.length:=by omega
  have hx:=hxl k (needed_stop ps v k hlf hk (.inl hke)) hk
  refine Abl ?_
  exact CO (res0 rfl) (fun _ h=>h) (Sel.skip Sel.refl) ⟨σ',rfl,.inl (by rw [hx]; exact hI)⟩
 have hx:=List.getElem?_eq_getElem (show k < es.length by omega)
 obtain ⟨q,a,c,hq,e2,e1,_⟩:=pathsV hai hx
 have hqm:=hps q (List.mem_of_getElem? hq)
 have hlb:=restV_bd (ps.take k) v hv.1 (fun r hr=>hps r (List.mem_of_mem_take hr))
 have hnext:restV (ps.take (k + 1)) v = restV (ps.take k) v - min q.2 (restV (ps.take k) v):=by
  obtain ⟨h1,h2⟩:=List.getElem?_eq_some_iff.1 hq
  rw [List.take_succ_eq_append_getElem h1,h2,restV_snoc,Int.min_comm]
 have hstop:=fun h0=>hxl k (needed_stop ps v k hlf hk (.inr h0)) hk
 have hget:=needed_get ps v k hlf q hq
 obtain ⟨b6,o6,ep,hrd⟩:=hr k _ hx
 rw [show encPV es[k] = [.slice a q.1.length c,int q.2] by unfold encPV; rw [e1,e2]] at hrd
 have hyk:=fun h0=>hy k σ' [.slice a q.1.length c,int (min q.2 (restV (ps.take k) v))] (by rw [List.getElem?_zipWith,hx,hget h0,← e1]) hI
 have hlf2:restV (ps.take k) v ≠ 0 → ∀ j,j < k + 1 → restV (ps.take j) v ≠ 0:=fun h0 j hj=>by
  by_cases hjk:j < k
  ·exact hlf j hjk
  ·have:j = k:=by omega
   subst this;exact h0
 generalize restV (ps.take k) v = L0 at hlb hnext hstop hget hyk hlf2
 subst ep
 by_cases h0:L0 = 0
 ·have hx2:=hstop h0
  refine Ab1 ?_;refine AY ?_; rintro _ _ ⟨b,rfl,rfl⟩;refine AU ?_; rintro _ _ ⟨rfl,rfl⟩;refine Aal ?_;refine Abk ?_;refine Aea ?_
  exact AI (res0 rfl) (fun _ h=>h) (Sel.skip (Sel.skip Sel.refl)) ⟨σ',rfl,.inl (by rw [hx2]; exact hI)⟩
 refine Ab1 ?_;refine AY ?_; rintro _ _ ⟨b,rfl,rfl⟩;refine AU ?_; rintro _ _ ⟨rfl,rfl⟩;refine Aal ?_;refine Abk ?_;refine CI ?_;refine Aaj ?_;refine Aao ?_;refine AF ?_;refine FH ?_;refine Aaa ?_;refine Adi ?_;refine CN ?_;refine BF ?_; rintro _ _ ⟨rfl,rfl⟩;refine Adh ?_;refine Aac ?_;refine AB ?_
 refine BC (hyk h0) rfl rfl (Takes.skip (Takes.skip Takes.all)) (fun τ hτ=>.inl (by simp [hτ])) rfl rfl ?_
 rintro _ H' ⟨σ3,rfl,⟨rfl,hI3⟩ | ⟨rfl,hSt⟩⟩
 ·refine CS (H':=_ :: _ :: Own σ3) (List.perm_append_comm (l₂:=[_,_])) ?_
  refine Acb ?_;refine Aa0 ?_
  refine AX (k + 1,σ3) ⟨by dsimp only; omega,hlf2 h0,hI3⟩ (by dsimp only; omega) covZ ?_
  dsimp only
  rw [hnext]
  first | exact Sel.cons .here (Sel.skip Sel.refl) | exact Sel.skip Sel.refl | exact Sel.cons (.there .here) Sel.refl
 ·refine BE ?_
  refine Aah ?_
  exact AI (res0 rfl) (fun _ h=>h) Sel.left ⟨σ3,rfl,.inr hSt⟩
theorem needed_spec (p:Option Addr) (n kk:Nat) (v:Int) :
  Eng.Spec Tryz.prog (fv 32) [.slice p n kk,int v] [] [] (fun r H'=>∃ b1 b2,r = .func (.func 78) #[] #[.pointer (some ⟨b1,0,none⟩),.pointer (some ⟨b2,0,none⟩)] ∧ H' = [sng b1 (.cells #[.slice p n kk] 82 (0,0)),sng b2 (.cells #[int v] 3 (0,0))]):=by
 refine spec_in (cap:=[]) Tryz.func32 rfl rfl Tryz.ntmps32 rfl envZ (fun N β=>?_)
 refine Aa ?_;refine EL ?_; rintro _ _ ⟨b,rfl,rfl⟩;refine EL ?_; rintro _ _ ⟨b,rfl,rfl⟩;refine Aaa ?_;refine Aa ?_;refine CA ?_;refine Aaa ?_;exact AI (res1 rfl rfl) rsubZ selZ ⟨_,_,rfl,rfl⟩
theorem flat_encI:∀ l:List Int,l.flatMap Eng.encI = l.map int
 | []=>rfl
 | a :: l=>by rw [List.flatMap_cons,flat_encI l]; rfl
theorem ints_at {b:Nat} {t:TypeId} {fr:Nat × Nat} {c:Nat} (l:List Int):IntsAt (sng b (.cells (ints l) t fr)) (.slice (some ⟨b,0,none⟩) l.length c) l:=by
 have:=slE_sng (enc:=Eng.encI) (s:=1) Eng.encI_len (b:=b) (l:=l) (t:=t) (fr:=fr) (c:=c)
 rwa [show elems Eng.encI l = ints l by unfold elems ints; rw [flat_encI]] at this
def AnsAt (σ1 σ2 σ3:PH) (r:Value) (acc:Bool) (vol:Int) (ss:List Sh) (c:Cu):Prop:=
 ∃ (p1:Option Addr) (k1:Nat) (L:List Sq) (p2:Option Addr) (k2:Nat),r = .agg #[.bool acc,int vol,.slice p1 ss.length k1,.slice p2 L.length k2] ∧ ShAt σ1 (.slice p1 ss.length k1) ss ∧ CutL σ2 σ3 (.slice p2 L.length k2) L ∧ cuL L = c
theorem nilCut:CutL emp emp (.slice none 0 0) []:=⟨⟨rfl,.inl ⟨rfl,none,0,rfl⟩⟩,by simp⟩
theorem nilSh:ShAt emp (.slice none 0 0) []:=⟨rfl,.inl ⟨rfl,none,0,rfl⟩⟩
set_option maxHeartbeats 64000000 in
theorem Plan_spec {ρ τ σ υ:PH} {pq pc pb ph:Option Addr} {kq kc kb kh:Nat} {qs:List Int} {cs:List Ct} {bs:List Bk} {hs:List Hd} (hT:TbAt ρ τ σ υ pq pc pb ph kq kc kb kh qs cs bs hs) (d:Dm):Eng.Spec Tryz.prog (fv 9) [.agg #[.slice pq qs.length kq,.slice pc cs.length kc,.slice pb bs.length kb,.slice ph hs.length kh],.agg #[int d.s,int d.d,int d.v,int d.r,int d.e]] [ρ,τ,σ,υ] [] (fun r H'=>(validT qs cs bs hs d = true ∧ ∃ (acc:Bool) (vol:Int) (ss:List Sh) (c:Cu) (a:Value) (σ1 σ2 σ3:PH),r = .tuple #[a,int 0] ∧ H' = [σ1,σ2,σ3] ∧ PlanOK qs cs bs hs d acc vol ss c ∧ AnsAt σ1 σ2 σ3 a acc vol ss c) ∨ (validT qs cs bs hs d = false ∧ H' = [] ∧ r = .tuple #[.agg #[.bool false,int 0,.slice none 0 0,.slice none 0 0],int 1])):=by
 refine spec_in (cap:=[]) Tryz.func9 rfl rfl Tryz.ntmps9 rfl envZ (fun N β=>?_)
 refine Aa ?_;refine BH (BM rfl) rfl rfl rfl ?_;rintro _ _ ⟨b1,rfl,rfl⟩;refine AT (ρ:=sng b1 _) takeZ ?_
 have ct:=rdB b1 29 [.slice pq qs.length kq,.slice pc cs.length kc,.slice pb bs.length kb,.slice ph hs.length kh]
 have ct0:=rdC ct 0
 have ct1:=rdC ct 1
 have ct2:=rdC ct 2
 have ct3:=rdC ct 3
 have ctp:RdP (sng b1 (.cells #[.slice pq qs.length kq,.slice pc cs.length kc,.slice pb bs.length kb,.slice ph hs.length kh] 29 (0,0))) b1 0 [.slice pq qs.length kq,.slice pc cs.length kc]:=rdP_sng (xs:=[.slice pq qs.length kq,.slice pc cs.length kc,.slice pb bs.length kb,.slice ph hs.length kh]) rfl
 refine BH (BM rfl) rfl rfl rfl ?_;rintro _ _ ⟨b2,rfl,rfl⟩;refine AT (ρ:=sng b2 _) takeZ ?_
 have cd:=rdB b2 31 [int d.s,int d.d,int d.v,int d.r,int d.e]
 have cd0:=rdC cd 0
 have cd1:=rdC cd 1
 have cd2:=rdC cd 2
 have cd3:=rdC cd 3
 have cd4:=rdC cd 4
 refine BY ?_;refine BY ?_;refine BY ?_;refine AY ?_; rintro _ _ ⟨b,rfl,rfl⟩;refine Aaa ?_;refine Ace ?_
 revert b; intro b4
 refine BC (plMax_spec hT d) rfl rfl Takes.nil rdZ rfl rfl ?_;rintro _ H' (⟨hv,pg,kg,pf,kf,F,m,σg,σf,hAt,hF,hm,rfl,rfl⟩ | ⟨hv,rfl,rfl⟩)
 rotate_left
 ·refine AB ?_
  refine Aa6 ?_;refine Aa6 ?_;refine AY ?_; rintro _ _ ⟨b,rfl,rfl⟩;refine AU ?_; rintro _ _ ⟨rfl,rfl⟩;refine Acf ?_;refine Aai ?_;refine Ab9 ?_;refine Aa ?_;refine BR ?_;refine AB ?_;refine AU ?_; rintro _ _ ⟨rfl,rfl⟩;refine Aaa ?_;exact AI (resSE (b1:=b4) (T:=42) (v1:=[.bool false,int 0,.slice none 0 0,.slice none 0 0]) rfl rfl rfl rfl rfl (cells_own memZ)) rsubZ selZ (.inr ⟨hv,rfl,rfl⟩)
 have h:=vok hv
 have hEl:=ea_len qs cs bs hs d h
 have hAl:(arcsG qs cs bs hs d).length = (arcsE qs cs bs hs d).length:=by unfold arcsG; rw [List.length_map]
 refine AT (ρ:=σg) takeZ ?_;refine AT (ρ:=σf) takeZ ?_;refine Abe ?_;refine Aa6 ?_;refine AY ?_; rintro _ _ ⟨b,rfl,rfl⟩;refine AU ?_; rintro _ _ ⟨rfl,rfl⟩;refine Acf ?_;refine Aai ?_;refine Abb ?_;refine Ac8 ?_;refine AB ?_
 revert b; intro bg
 by_cases hd:m < d.v
 ·have hK:=flowCut_spec σg (.slice pg (arcsG qs cs bs hs d).length kg) (vsN qs d) (vtx d d.s d.r) (vtx d d.d d.e) (arcsG qs cs bs hs d) hAt (by omega)
  refine CQ ?_;refine Aah ?_;refine Aao ?_;refine Aco ?_;refine Aac ?_;refine CB hK rfl rfl rdZ rfl rfl ?_;rintro _ σk ⟨fs,side,c0,e0,rfl,hI,hk⟩
  obtain ⟨pk,kk2,rfl,_⟩:=hI.val Eng.encI_len
  have hkN:CutN qs cs bs hs d side c0 e0:=hk
  obtain ⟨k1,k2,k3,k4,k5,k6⟩:=cut_facts h hv hm hkN
  subst k1 k2;refine AT (ρ:=σk) takeZ ?_
  have hD:=Sides_spec hT d σk _ side hI (by omega)
  rw [k3,if_pos rfl] at hD;refine Abe ?_;refine AP ?_;refine Acf ?_;refine Aai ?_;refine Abb ?_;refine Ace ?_;refine AB ?_;refine BC hD rfl rfl Takes.nil rdZ rfl rfl ?_;rintro _ _ ⟨L,w,σ3,χ3,rfl,rfl,hL,hCL⟩
  obtain ⟨p2,k2,rfl,_⟩:=hCL.1.val encQ_len
  refine Abo ?_;refine Abn ?_;refine BR ?_;refine AB ?_;refine AU ?_; rintro _ _ ⟨rfl,rfl⟩;refine Aaa ?_;exact AI (resSE (b1:=b4) (T:=42) (v1:=[.bool false,int c0,.slice none 0 0,.slice p2 L.length k2]) rfl rfl rfl rfl rfl (cells_own memZ)) rsubZ selZ (.inl ⟨hv,false,c0,[],sidesC d qs.length side,_,emp,σ3,χ3,rfl,rfl,⟨F,c0,hm,.inl ⟨hd,rfl,rfl,rfl,side,c0,hkN,rfl⟩⟩,⟨none,0,L,p2,k2,rfl,nilSh,hCL,hL⟩⟩)
 have hP:=flowPaths_spec σg σf (.slice pg (arcsG qs cs bs hs d).length kg) (.slice pf F.length kf) (vsN qs d) (vtx d d.s d.r) (vtx d d.d d.e) (arcsG qs cs bs hs d) F hAt hF (by omega)
 refine B0 ?_;refine Aaj ?_;refine Aao ?_;refine Aac ?_;refine Aa5 ?_;refine CB hP rfl rfl rdZ rfl rfl ?_;rintro _ τp ⟨w,ps,e,rfl,hPA,hPO⟩
 have hPN:PathN qs cs bs hs d F ps e:=hPO
 obtain ⟨he,_⟩:=path_run h hv hm hPN
 subst he
 obtain ⟨_,N0,S0,T0,hN,hS,hT0,s1,s2,s3,hok,hfw,hmv,rr,hrun⟩:=path_run h hv hm hPN
 have hdm:=h.dm
 unfold okDm at hdm
 have hps0:∀ q ∈ ps,0 ≤ q.2:=fun q hq=>Int.le_of_lt (hrun.pos hok s1 s3 hfw q hq)
 have hsm:=paths_small hPO
 obtain ⟨_,_,_,_,_,_,_,_,hse⟩:=part_ok h hv hm hPN (show d.v ≤ m by omega)
 have hmid:=fun (j i:Nat) (q:List Go.Flow.Lk × Int) (hq:(quotaL ps d.v)[j]? = some q)=>part_mid (i:=i) hok s1 s3 hrun hfw (v:=d.v) (by omega) hq
 have harc:=run_arcs hok s1 s3 hrun hfw
 have hcapb:∀ a ∈ arcsG qs cs bs hs d,a.c ≤ 1099511627776:=fun a ha=>(okArc_iff.1 (hok a ha)).2.2.2.2.2.2
 obtain ⟨es,hes,hai⟩:=hPA
 obtain ⟨pp,kp,rfl,_⟩:=hes.val encPV_len
 refine AT (ρ:=τp) takeZ ?_
 have hlZ:(List.replicate (arcsG qs cs bs hs d).length (0:Int)).length = (arcsG qs cs bs hs d).length:=List.length_replicate
 have hfin:addMany (neededL ps d.v) (List.replicate (arcsG qs cs bs hs d).length 0) = partF qs cs bs hs d ps:=needed_sum ps d.v _ hps0
 refine Acc ?_;refine Abb ?_;refine Aao ?_;refine AV ?_;refine D3 ?_; rintro _ _ ⟨b,rfl,rfl⟩;refine B6 ?_; rintro _ _ ⟨b,rfl,rfl⟩;refine BF ?_; rintro _ _ ⟨rfl,rfl⟩;refine AE ?_;refine Aai ?_;refine Aac ?_
 revert b; intro bp
 revert b; intro bz
 refine AT (ρ:=sng bp _) takeZ ?_
 have bpf:rdc (sng bp (.cells #[.slice (some ⟨bz,0,none⟩) (arcsG qs cs bs hs d).length (arcsG qs cs bs hs d).length] 22 (0,0))) bp 0 = some (.slice (some ⟨bz,0,none⟩) (arcsG qs cs bs hs d).length (arcsG qs cs bs hs d).length):=by rw [rdc_sng]; rfl
 refine BC (needed_spec pp es.length kp d.v) rfl rfl Takes.nil (fun τ hτ=>by simp at hτ) rfl rfl ?_
 rintro _ _ ⟨b5,b6,rfl,rfl⟩;refine AT (ρ:=sng b5 _) takeZ ?_;refine AE ?_;refine AO ?_
 refine F3 (gf:=78) (cap:=[.pointer (some ⟨b5,0,none⟩),.pointer (some ⟨b6,0,none⟩)]) (ps:=[90,91]) (X:=List Int) rfl Tryz.func78 rfl rfl
  (needed_iter τp pp kp es ps hes hai b5 b6 d.v (by omega) hps0 hsm.1) ?_
  (fun i x=>x = addMany ((neededL ps d.v).take i) (List.replicate (arcsG qs cs bs hs d).length 0))
  (fun x=>[sng bz (.cells (ints x) 3 (0,0))]) (fun _ _=>False) (List.replicate (arcsG qs cs bs hs d).length 0) rfl takesZ rfl ?_ ?_ ?_
 ·intro σ' hσ
  simp only [List.mem_cons,List.not_mem_nil,or_false] at hσ ⊢
  rcases hσ with h | h <;> simp [h]
 ·rintro lo r i x vs hvs hx hps has hbd hst hpe hfr
  obtain ⟨st,pe,fnn,tm,prm,asg,bdy,df⟩:=r
  simp only at hps has hbd hst hpe hfr;subst hps hst hpe;rw [List.getElem?_zipWith] at hvs
  cases he:es[i]? with
  | none=>simp [he] at hvs
  | some e =>
  cases hq:(neededL ps d.v)[i]? with
  | none=>simp [he,hq] at hvs
  | some q =>
  simp only [he,hq,Option.some.injEq] at hvs;subst hvs
  obtain ⟨n1,n2,n3,p0,n4,n5⟩:=needed_at hq
  obtain ⟨q',a,c,hq',e2,e1,hIa⟩:=pathsV hai he
  rw [n4] at hq'
  obtain rfl:=Option.some.inj hq'
  rw [← n5] at e1 hIa
  have hmid2:=fun j=>hmid i j q n3
  have hark:=fun x hx=>harc p0 (List.mem_of_getElem? n4) x (by rw [← n5]; exact hx)
  subst hx;rw [n1,n2,e1];simp only [addMany_snoc]
  generalize addMany ((quotaL ps d.v).take i) (List.replicate (arcsG qs cs bs hs d).length 0) = P0 at hmid2
  obtain ⟨_,_,ea,hra⟩:=hIa.val Eng.encI_len
  simp only [Value.slice.injEq] at ea
  obtain ⟨rfl,_,rfl⟩:=ea
  have hql:(ksOf q.1).length = q.1.length:=by unfold ksOf; rw [List.length_map]
  have hq2:=(hsm.2 p0 (List.mem_of_getElem? n4))
  rw [← n5] at hq2
  refine yield_specE has hbd hfr rfl (by intro p hp; simp at hp; omega) putiZ (fun N' β'=>?_)
  refine Aak ?_;refine AA ?_;refine Aaa ?_;refine CY rfl rfl ?_;refine C7 takeZ rfl ?_;refine AO ?_;refine Aad ?_;refine Ada ?_
  refine BA [15,17,92,93] (0:Nat) (fun j=>j ≤ q.1.length) (fun j=>[(94,int j)]) (fun j=>[sng bz (.cells (ints (addAll q.2 P0 (q.1.take j))) 3 (0,0)),sng lo (.loop { state:=.busy,pending:=none,fn:=fnn,tmps:=tm,params:=[90,91].toArray,assign:=asg,body:=bdy,defers:=df })]) (fun j=>q.1.length - j) pickZ (by omega) covZ selZ ?_
  rintro j hj
  by_cases hlt:j < q.1.length
  rotate_left
  ·rw [List.take_of_length_le (by omega)]
   refine Abl ?_;refine A2 ?_;exact B4 takeZ rsubZ selZ ⟨addAll q.2 P0 q.1,.inl ⟨rfl,rfl,rfl⟩⟩
  have hx:=List.getElem?_eq_getElem hlt
  have hm1:=hmid2 j
  have hm2:=hmid2 (j + 1)
  rw [List.take_succ_eq_append_getElem hlt,addAll_snoc] at hm2
  have hxk:=hark _ (List.getElem_mem hlt)
  have hta:addAll q.2 P0 (q.1.take (j + 1)) = addP q.2 (addAll q.2 P0 (q.1.take j)) q.1[j]:=by rw [List.take_succ_eq_append_getElem hlt,addAll_snoc]
  have hkx:(ksOf q.1)[j]? = some ((q.1[j].k:Nat):Int):=by unfold ksOf; rw [List.getElem?_map,hx]; rfl
  obtain ⟨b7,o7,ep,gk⟩:=hra.int hkx
  generalize addAll q.2 P0 (q.1.take j) = P at hm1 hm2 hta
  generalize q.1[j] = y at hx hm2 hxk hta gk hkx
  obtain ⟨s4,s5⟩:=part_step hcapb hm1.1 hm1.2 hm2.1 hxk
  have hPl:=hm1.2
  subst ep;refine Ac6 ?_;refine Aaa ?_;refine AA ?_;refine Ach ?_;refine B9 ?_;refine Ach ?_;refine CG ?_;refine B9 ?_;refine DF ?_; rintro _ _ ⟨rfl,rfl⟩;refine Adj ?_
  refine AX (j + 1) (by omega) (by omega) covZ ?_
  rw [hta];exact selZ
 ·rintro b9 x hx
  have hxl:(List.zipWith (fun (e:Value × Int) (q:List Go.Flow.Lk × Int)=>[e.1,int q.2]) es (neededL ps d.v)).length = (neededL ps d.v).length:=by
   have:=needed_len ps d.v
   have:=hai.1
   rw [List.length_zipWith];omega
  rw [hxl,List.take_length,hfin] at hx;subst hx
  have hpl2:(partF qs cs bs hs d ps).length = (arcsG qs cs bs hs d).length:=by unfold partF; rw [addMany_len,hlZ]
  have hIz:IntsAt (sng bz (.cells (ints (partF qs cs bs hs d ps)) 3 (0,0))) (.slice (some ⟨bz,0,none⟩) (arcsG qs cs bs hs d).length (arcsG qs cs bs hs d).length) (partF qs cs bs hs d ps):=by
   rw [← hpl2];exact ints_at _
  have hSh:=Shipments_spec hT d _ _ _ hIz
  rw [hse,show shipsR qs cs bs hs d (partF qs cs bs hs d ps) = shipsF (arcsE qs cs bs hs d) (partF qs cs bs hs d ps) by unfold shipsR; rw [if_pos hse]] at hSh
  refine AT (ρ:=sng bz _) takeZ ?_;refine A2 ?_;refine Ace ?_;refine AF ?_;refine CB hSh rfl rfl rdZ rfl rfl ?_;rintro _ σs ⟨us,rfl,hOs⟩
  have hSs:ShAt σs us (shipsF (arcsE qs cs bs hs d) (partF qs cs bs hs d ps)):=hOs.at
  obtain ⟨p1,k1,rfl⟩:=hOs.form
  refine Abo ?_;refine Ad0 ?_;refine BR ?_;refine AB ?_;refine AU ?_; rintro _ _ ⟨rfl,rfl⟩;refine Aaa ?_
  refine EG (v:=.tuple #[.agg #[.bool true,int d.v,.slice p1 (shipsF (arcsE qs cs bs hs d) (partF qs cs bs hs d ps)).length k1,.slice none 0 0],int 0]) (Marks.cons takeZ .nil) ?_ rsubZ ?_ (.inl ⟨hv,true,d.v,shipsF (arcsE qs cs bs hs d) (partF qs cs bs hs d ps),[],_,σs,emp,emp,rfl,rfl,⟨F,m,hm,.inr ⟨by omega,rfl,rfl,rfl,ps,hPN,rfl⟩⟩,⟨p1,k1,[],none,0,rfl,hSs,nilCut,rfl⟩⟩)
  ·exact resSE (b1:=b4) (T:=42) (v1:=[.bool true,int d.v,.slice p1 (shipsF (arcsE qs cs bs hs d) (partF qs cs bs hs d ps)).length k1,.slice none 0 0]) rfl rfl rfl rfl rfl (cells_own memZ)
  ·exact selZ
 ·rintro _ _ _ h; exact h.elim
end Go.Proofs.YtjehnjhkcmobcaaGreat
/- Demands answered one after the other. No program in sight. No conditions. -/
namespace Go.Step
structure An where
  acc:Bool
  vol:Int
  ss:List Sh
  c:Cu
def PlanA (qs:List Int) (cs:List Ct) (bs:List Bk) (hs:List Hd) (d:Dm) (a:An):Prop:=PlanOK qs cs bs hs d a.acc a.vol a.ss a.c
def MxS (qs:List Int) (cs:List Ct):List Bk → List Hd → List Dm → List An → List Bk → List Hd → Prop
  | bs,hs,[],an,bs',hs'=>an = [] ∧ bs' = bs ∧ hs' = hs
  | bs,hs,d :: ds,an,bs',hs'=>∃ a as1 bs1 hs1,an = a :: as1 ∧ validT qs cs bs hs d = true ∧ PlanA qs cs bs hs d a ∧ RsvR qs cs bs hs a.ss 0 bs1 hs1 ∧ MxS qs cs bs1 hs1 ds as1 bs' hs'
section
variable {qs:List Int} {cs:List Ct}
theorem PlanA.uniq {bs:List Bk} {hs:List Hd} {d:Dm} {a b:An} (h1:PlanA qs cs bs hs d a) (h2:PlanA qs cs bs hs d b):a = b:=by
  obtain ⟨a1,a2,a3,a4⟩:=a
  obtain ⟨b1,b2,b3,b4⟩:=b
  obtain ⟨e1,e2,e3,e4⟩:=PlanOK.uniq h1 h2
  dsimp only at e1 e2 e3 e4
  rw [e1,e2,e3,e4]
theorem MxS.uniq:∀ {ds:List Dm} {bs:List Bk} {hs:List Hd} {an an':List An} {b b':List Bk} {h h':List Hd},MxS qs cs bs hs ds an b h → MxS qs cs bs hs ds an' b' h' → an = an' ∧ b = b' ∧ h = h'
  | [],_,_,_,_,_,_,_,_,⟨x1,x2,x3⟩,⟨y1,y2,y3⟩=>⟨by rw [x1,y1],by rw [x2,y2],by rw [x3,y3]⟩
  | d :: ds,_,_,_,_,_,_,_,_,⟨a,as1,b1,h1,e,_,p,r,s⟩,⟨a',as2,b2,h2,e',_,p',r',s'⟩=>by
    subst e;subst e'
    obtain rfl:=p.uniq p'
    obtain ⟨_,rfl,rfl⟩:=r.uniq r'
    obtain ⟨rfl,rfl,rfl⟩:=MxS.uniq s s'
    exact ⟨rfl,rfl,rfl⟩
theorem MxS.snoc {d:Dm} {a:An}:∀ {ds:List Dm} {bs:List Bk} {hs:List Hd} {an:List An} {b b':List Bk} {h h':List Hd},MxS qs cs bs hs ds an b h → validT qs cs b h d = true → PlanA qs cs b h d a → RsvR qs cs b h a.ss 0 b' h' → MxS qs cs bs hs (ds ++ [d]) (an ++ [a]) b' h'
  | [],_,_,_,_,_,_,_,⟨x1,x2,x3⟩,hv,p,r=>by
    subst x1;subst x2;subst x3;exact ⟨a,[],_,_,rfl,hv,p,r,rfl,rfl,rfl⟩
  | d' :: ds,_,_,_,_,_,_,_,⟨a',as1,b1,h1,e,v,p',r',s⟩,hv,p,r=>by
    subst e;exact ⟨a',as1 ++ [a],b1,h1,rfl,v,p',r',MxS.snoc s hv p r⟩
theorem MxS.len:∀ {ds:List Dm} {bs:List Bk} {hs:List Hd} {an:List An} {b:List Bk} {h:List Hd},MxS qs cs bs hs ds an b h → an.length = ds.length
  | [],_,_,_,_,_,⟨x1,_,_⟩=>by rw [x1]; rfl
  | d :: ds,_,_,_,_,_,⟨a,as1,b1,h1,e,v,p,r,s⟩=>by
    rw [e,List.length_cons,List.length_cons,MxS.len s]
theorem MxS.take (k:Nat):∀ {ds:List Dm} {bs:List Bk} {hs:List Hd} {an:List An} {b:List Bk} {h:List Hd},MxS qs cs bs hs ds an b h → ∃ b' h',MxS qs cs bs hs (ds.take k) (an.take k) b' h':=by
  induction k with
  | zero=>intro ds bs hs an b h _; exact ⟨bs,hs,by rw [List.take_zero]; exact ⟨List.take_zero,rfl,rfl⟩⟩
  | succ k ih =>
    intro ds bs hs an b h hS
    match ds,hS with
    | [],⟨x1,_,_⟩=>exact ⟨bs,hs,by subst x1; exact ⟨rfl,rfl,rfl⟩⟩
    | d :: ds,⟨a,as1,b1,h1,e,v,p,r,s⟩ =>
      obtain ⟨b',h',s'⟩:=ih s
      subst e;exact ⟨b',h',a,_,b1,h1,rfl,v,p,r,s'⟩
theorem MxS.at:∀ {k:Nat} {ds:List Dm} {bs:List Bk} {hs:List Hd} {an:List An} {b:List Bk} {h:List Hd} {d:Dm},MxS qs cs bs hs ds an b h → ds[k]? = some d →
    ∃ as1 b1 h1 a b2 h2,MxS qs cs bs hs (ds.take k) as1 b1 h1 ∧ validT qs cs b1 h1 d = true ∧ PlanA qs cs b1 h1 d a ∧ RsvR qs cs b1 h1 a.ss 0 b2 h2 ∧ an[k]? = some a:=by
  intro k
  induction k with
  | zero =>
    intro ds bs hs an b h d hS hd
    match ds,hS with
    | [],_=>simp at hd
    | d' :: ds,⟨a,as1,b1,h1,e,v,p,r,s⟩ =>
      simp at hd
      subst hd;subst e;exact ⟨[],bs,hs,a,b1,h1,⟨rfl,rfl,rfl⟩,v,p,r,rfl⟩
  | succ k ih =>
    intro ds bs hs an b h d hS hd
    match ds,hS with
    | [],_=>simp at hd
    | d' :: ds,⟨a,as1,b1,h1,e,v,p,r,s⟩ =>
      rw [List.getElem?_cons_succ] at hd
      obtain ⟨as2,b3,h3,a3,b4,h4,s3,v3,p3,r3,g3⟩:=ih s hd
      subst e
      exact ⟨a :: as2,b3,h3,a3,b4,h4,⟨a,as2,b1,h1,rfl,v,p,r,s3⟩,v3,p3,r3,by rw [List.getElem?_cons_succ]; exact g3⟩
def MtxR (qs:List Int) (cs:List Ct) (bs:List Bk) (hs:List Hd) (ds:List Dm) (an:List An) (e:Int):Prop:=
  (e = 0 ∧ ∃ b h,MxS qs cs bs hs ds an b h) ∨
  (e ≠ 0 ∧ an = [] ∧ ∃ k d b1 h1 as1,ds[k]? = some d ∧ MxS qs cs bs hs (ds.take k) as1 b1 h1 ∧ ((validT qs cs b1 h1 d = false ∧ e = 1) ∨ (validT qs cs b1 h1 d = true ∧ ∃ a b2 h2,PlanA qs cs b1 h1 d a ∧ RsvR qs cs b1 h1 a.ss e b2 h2)))
variable {bs:List Bk} {hs:List Hd}
theorem mtx_stop {ds ds':List Dm} {as1 as2:List An} {b1 b:List Bk} {h1 h:List Hd} {k:Nat} {d:Dm} {e:Int} (he:e ≠ 0) (hd:ds[k]? = some d) (hs1:MxS qs cs bs hs (ds.take k) as1 b1 h1) (hf:(validT qs cs b1 h1 d = false ∧ e = 1) ∨ (validT qs cs b1 h1 d = true ∧ ∃ a b2 h2,PlanA qs cs b1 h1 d a ∧ RsvR qs cs b1 h1 a.ss e b2 h2))
    (h2:MxS qs cs bs hs ds' as2 b h) (h3:ds'[k]? = some d) (h4:ds'.take k = ds.take k):False:=by
  obtain ⟨as3,b3,h3',a3,b4,h4',s3,v3,p3,r3,_⟩:=MxS.at h2 h3
  rw [h4] at s3
  obtain ⟨_,rfl,rfl⟩:=hs1.uniq s3
  rcases hf with ⟨hf,_⟩ | ⟨_,a,b2,h2',p,r⟩
  · rw [v3] at hf; simp at hf
  · obtain rfl:=p.uniq p3
    exact he (r.uniq r3).1
theorem MtxR.uniq {ds:List Dm} {an an':List An} {e e':Int} (h1:MtxR qs cs bs hs ds an e) (h2:MtxR qs cs bs hs ds an' e'):e = e' ∧ an = an':=by
  rcases h1 with ⟨rfl,b,h,s⟩ | ⟨he,rfl,k,d,b1,h1,as1,hd,s,hf⟩ <;> rcases h2 with ⟨rfl,b',h',s'⟩ | ⟨he',rfl,k',d',b1',h1',as1',hd',s',hf'⟩
  · exact ⟨rfl,(s.uniq s').1⟩
  · exact (mtx_stop he' hd' s' hf' s hd' rfl).elim
  · exact (mtx_stop he hd s hf s' hd rfl).elim
  · rcases Nat.lt_trichotomy k k' with hk | hk | hk
    · exact (mtx_stop he hd s hf s' (by rw [List.getElem?_take_of_lt hk]; exact hd) (by rw [List.take_take,Nat.min_eq_left (by omega)])).elim
    · subst hk
      rw [hd] at hd'
      obtain rfl:=Option.some.inj hd'
      obtain ⟨_,rfl,rfl⟩:=s.uniq s'
      refine ⟨?_,rfl⟩
      rcases hf with ⟨v,rfl⟩ | ⟨v,a,b2,h2,p,r⟩ <;> rcases hf' with ⟨v',rfl⟩ | ⟨v',a',b2',h2',p',r'⟩
      · rfl
      · rw [v] at v'; simp at v'
      · rw [v] at v'; simp at v'
      · obtain rfl:=p.uniq p'
        exact (r.uniq r').1
    · exact (mtx_stop he' hd' s' hf' s (by rw [List.getElem?_take_of_lt hk]; exact hd') (by rw [List.take_take,Nat.min_eq_left (by omega)])).elim
theorem rsvR_zero {l:List Sh} {bs':List Bk} {hs':List Hd} (h:RsvR qs cs bs hs l 0 bs' hs'):firstE (rsvE cs bs l) l.length = 0 ∧ chkT qs cs bs' hs' = 0 ∧ ∃ R,RsvOK qs cs bs hs l R bs' hs':=by
  rcases h with ⟨_,h,_⟩ | ⟨h0,⟨a,h,_⟩ | ⟨hE,⟨_,h,_⟩ | ⟨_,R,bs1,hs1,hk,⟨_,h,_⟩ | ⟨⟨l1,l2⟩,⟨_,h,_⟩ | ⟨hz,_,rfl,rfl⟩⟩⟩⟩⟩
  · exact absurd h (by decide)
  · exact absurd h.symm a
  · exact absurd h (by decide)
  · exact absurd h (by decide)
  · exact absurd h (by decide)
  · obtain ⟨p,b,_⟩:=chkT_ok h0
    refine ⟨hE,?_,R,hk⟩;unfold chkT
    rw [if_neg (by rw [p]; simp),if_neg (by rw [rsv_bks b hE hk l1]; simp)]
    exact hz
theorem lvN_nil (cs:List Ct) (n:Int):lvN cs n [] = []:=by
  have:=lvN_len cs n []
  exact List.eq_nil_of_length_eq_zero (by simpa using this)
theorem holdsA_nil (cs:List Ct):∀ k,holdsA cs [] k = []
  | 0=>rfl
  | k + 1=>by
    show holdsA cs [] k ++ _ = _
    rw [holdsA_nil cs k]
    have e:holdsN cs (k:Int) [] = []:=by
      unfold holdsN;rw [lvN_nil]
      rfl
    rw [e]
    split <;> rfl
theorem rsv_nil (h0:chkT qs cs bs hs = 0):RsvR qs cs bs hs [] 0 bs hs:=by
  obtain ⟨p,b,hh⟩:=chkT_ok h0
  obtain ⟨lb,b2⟩:=chkB_ok b
  have h3:hs.length ≤ 512 ∧ firstE (hdE qs.length hs) hs.length = 0:=by
    have h:=hh
    unfold chkH at h
    rw [if_neg (by rw [p]; simp)] at h
    by_cases c1:512 < hs.length
    · rw [if_pos c1] at h; omega
    · rw [if_neg c1] at h
      refine ⟨by omega,?_⟩
      by_cases c2:firstE (hdE qs.length hs) hs.length = 0
      · exact c2
      · rw [if_pos c2] at h; exact absurd h c2
  refine .inr ⟨h0,.inr ⟨rfl,.inr ⟨?_,[],bs,hs,⟨List.nodup_nil,fun b=>⟨fun h=>by simp at h,fun h=>?_⟩,by rw [List.append_nil],?_,by rw [holdsA_nil,List.append_nil],sortH_of h3.2⟩,.inr ⟨⟨lb,h3.1⟩,.inr ⟨hh,rfl,rfl,rfl⟩⟩⟩⟩⟩
  · rintro ⟨n,_,h⟩
    unfold negN at h;rw [lvN_nil] at h
    simp at h
  · obtain ⟨_,h1,h2,_⟩:=h
    have:=h2 b.a (Int.le_refl _) h1
    simp [ticksS] at this
  · refine (bks_apart b2).imp_of_mem (fun {x y} hx hy h=>?_)
    obtain ⟨_,_,_,_,k1,_⟩:=bkE_ok b2 x hx
    rw [cmpBk_lt];omega
theorem plan_reserve {d:Dm} {a:An} {e:Int} {b':List Bk} {h':List Hd} (hv:validT qs cs bs hs d = true) (h:VOk qs cs bs hs d) (hp:PlanA qs cs bs hs d a) (hR:RsvR qs cs bs hs a.ss e b' h'):e = 0 ∨ e = 4:=by
  obtain ⟨F,m,hm,⟨_,_,_,hs0,_⟩ | ⟨hle,_,_,_,ps,hq,hss⟩⟩:=hp
  · rw [hs0] at hR
    exact .inl (hR.uniq (rsv_nil (of_decide_eq_true hv).1)).1
  · have hfl:=ships_part h hv hm hq hle
    rw [← hss] at hfl
    have hdm:=h.dm
    unfold okDm at hdm
    rcases flow_reserve hv h hfl (by omega) hR with h | ⟨h,_⟩
    · exact .inr h
    · exact .inl h
theorem plan_vol {d:Dm} {a:An} (hp:PlanA qs cs bs hs d a):(a.acc = true → a.vol = d.v) ∧ (a.acc = false → a.vol < d.v):=by
  obtain ⟨F,m,hm,⟨h1,h2,h3,_⟩ | ⟨_,h2,h3,_⟩⟩:=hp
  · exact ⟨fun h=>by rw [h2] at h; simp at h,fun _=>by omega⟩
  · exact ⟨fun _=>h3,fun h=>by rw [h2] at h; simp at h⟩
theorem valid_of {d:Dm} (h:chkT qs cs bs hs = 0) (hd:okDm qs.length d):validT qs cs bs hs d = true:=decide_eq_true ⟨h,hd⟩
theorem MxS.valid:∀ {ds:List Dm} {bs:List Bk} {hs:List Hd} {an:List An} {b:List Bk} {h:List Hd},chkT qs cs bs hs = 0 → MxS qs cs bs hs ds an b h → chkT qs cs b h = 0
  | [],_,_,_,_,_,h0,⟨_,x2,x3⟩=>by rw [x2,x3]; exact h0
  | d :: ds,_,_,_,_,_,h0,⟨a,as1,b1,h1,e,v,p,r,s⟩=>MxS.valid (rsvR_zero r).2.1 s
theorem MxS.later:∀ {ds:List Dm} {bs:List Bk} {hs:List Hd} {an:List An} {b:List Bk} {h:List Hd},MxS qs cs bs hs ds an b h → ∀ a ∈ an,∀ x ∈ a.ss,bookedB bs x.c x.t = false
  | [],_,_,_,_,_,⟨x1,_,_⟩=>by rw [x1]; simp
  | d :: ds,bs,hs,_,_,_,⟨a,as1,b1,h1,e,v,p,r,s⟩=>by
    subst e
    obtain ⟨hE,_,R,hk⟩:=rsvR_zero r
    obtain ⟨f1,f2⟩:=rsv_facts hE
    obtain ⟨k1,_⟩:=rsv_booked hk (ticks_nodup f2)
    intro a' ha x hx
    rcases List.mem_cons.1 ha with rfl | ha
    · exact (f1 x hx).2
    · have:=MxS.later s a' ha x hx
      cases hb:bookedB bs x.c x.t with
      | false=>rfl
      | true=>rw [k1 _ _ hb] at this; simp at this
def ticksA (an:List An):List (Int × Int):=an.flatMap (fun a=>ticksS a.ss)
theorem MxS.ticks:∀ {ds:List Dm} {bs:List Bk} {hs:List Hd} {an:List An} {b:List Bk} {h:List Hd},MxS qs cs bs hs ds an b h → (ticksA an).Nodup
  | [],_,_,_,_,_,⟨x1,_,_⟩=>by rw [x1]; exact List.nodup_nil
  | d :: ds,bs,hs,_,_,_,⟨a,as1,b1,h1,e,v,p,r,s⟩=>by
    subst e
    obtain ⟨hE,_,R,hk⟩:=rsvR_zero r
    obtain ⟨f1,f2⟩:=rsv_facts hE
    obtain ⟨_,k2⟩:=rsv_booked hk (ticks_nodup f2)
    have e:ticksA (a :: as1) = ticksS a.ss ++ ticksA as1:=rfl
    rw [e,List.nodup_append]
    refine ⟨ticks_nodup f2,MxS.ticks s,fun x hx y hy hxy=>?_⟩
    subst hxy
    obtain ⟨c,t⟩:=x
    obtain ⟨z,hz,e1,e2⟩:=mem_ticks.1 hx
    obtain ⟨a',ha',hx'⟩:=List.mem_flatMap.1 hy
    obtain ⟨z',hz',e3,e4⟩:=mem_ticks.1 hx'
    have h1:=k2 z hz
    have h2:=MxS.later s a' ha' z' hz'
    rw [e3,e4,← e1,← e2,h1] at h2
    simp at h2
theorem mtx_err {ds:List Dm} {an:List An} {e:Int} (hok:∀ d ∈ ds,validT qs cs bs hs d = true) (hvk:∀ (b:List Bk) (h:List Hd) (d:Dm),validT qs cs b h d = true → VOk qs cs b h d) (h:MtxR qs cs bs hs ds an e):e = 0 ∨ e = 4:=by
  rcases h with ⟨h,_⟩ | ⟨he,_,k,d,b1,h1,as1,hd,s,hf⟩
  · exact .inl h
  · have hdv:=hok d (List.mem_of_getElem? hd)
    have h0:=(of_decide_eq_true hdv).1
    have hv1:=valid_of (MxS.valid h0 s) (of_decide_eq_true hdv).2
    rcases hf with ⟨hf,_⟩ | ⟨_,a,b2,h2,p,r⟩
    · rw [hv1] at hf; simp at hf
    · exact plan_reserve hv1 (hvk _ _ _ hv1) p r
theorem ticks_at {l:List Sh} {j:Nat} {x:Sh} (h:l[j]? = some x):(ticksS l)[j]? = some (x.c,x.t):=by
  unfold ticksS;rw [List.getElem?_map,h]
  rfl
theorem ticks_new {an:List An} (h:(ticksA an).Nodup) {i:Nat} {a:An} (hi:an[i]? = some a) {j:Nat} {x:Sh} (hx:a.ss[j]? = some x):(x.c,x.t) ∉ ticksA (an.take i) ++ (ticksS a.ss).take j:=by
  obtain ⟨hl,e⟩:=List.getElem?_eq_some_iff.1 hi
  have e1:an = an.take i ++ (a :: an.drop (i + 1)):=by
    rw [← e,← List.drop_eq_getElem_cons hl,List.take_append_drop]
  obtain ⟨hjt,e3⟩:=List.getElem?_eq_some_iff.1 (ticks_at hx)
  have e4:ticksS a.ss = (ticksS a.ss).take j ++ ((x.c,x.t) :: (ticksS a.ss).drop (j + 1)):=by
    rw [← e3,← List.drop_eq_getElem_cons hjt,List.take_append_drop]
  have e5:ticksA an = (ticksA (an.take i) ++ (ticksS a.ss).take j) ++ ((x.c,x.t) :: ((ticksS a.ss).drop (j + 1) ++ ticksA (an.drop (i + 1)))):=by
    conv=>lhs; rw [e1]
    have e6:ticksA (an.take i ++ a :: an.drop (i + 1)) = ticksA (an.take i) ++ (ticksS a.ss ++ ticksA (an.drop (i + 1))):=by
      unfold ticksA;rw [List.flatMap_append,List.flatMap_cons]
    rw [e6]
    conv=>lhs; rw [e4]
    simp
  rw [e5,List.nodup_append] at h
  intro hm
  exact h.2.2 _ hm _ (List.mem_cons_self ..) rfl
theorem ticks_next {an:List An} {i:Nat} {a:An} (hi:an[i]? = some a):ticksA (an.take (i + 1)) = ticksA (an.take i) ++ ticksS a.ss:=by
  obtain ⟨hl,e⟩:=List.getElem?_eq_some_iff.1 hi
  rw [List.take_succ_eq_append_getElem hl,e];unfold ticksA;rw [List.flatMap_append]
  simp
end
end Go.Step
/- Something to be read: in what is never written, or in what the call made. No conditions. -/
namespace Go.Eng
variable {C:Cx} {D:List Deferred} {R H:List PH} {L:Env} {K:List It}
theorem EZ {P:PH → Prop} {σ χ:PH} {H':List PH} (hσ:Mem σ R) (t:Take χ H H') (h:P σ ∨ P χ) (k:∀ σ',P σ' → JK C D (σ' :: R) H' L K):JK C D R H L K:=by
  rcases h with h | h
  · refine ⟨fun a w hf hd hs=>(k σ h).run a w hf hd ?_⟩
    have h1:=(hs.take t).tail
    refine ⟨h1.sz,fun ρ hρ=>?_,h1.h,h1.hd,fun ρ hρ=>?_⟩
    · simp at hρ
      rcases hρ with rfl | hρ
      · exact h1.r _ hσ.mem
      · exact h1.r ρ hρ
    · simp at hρ
      rcases hρ with rfl | hρ
      · exact h1.rd _ hσ.mem
      · exact h1.rd ρ hρ
  · exact AT t (k χ h)
end Go.Eng
/- What was read is left; a slice with its room. No conditions. -/
namespace Go.Eng
variable {C:Cx} {D:List Deferred} {R H:List PH} {L:Env} {K:List It}
theorem E0 {σ:PH} (h:JK C D R H L K):JK C D (σ :: R) H L K:=
  ⟨fun a w hf hd hs=>h.run a w hf hd ⟨hs.sz,fun ρ hρ=>hs.r ρ (List.mem_cons_of_mem _ hρ),hs.h,hs.hd,fun ρ hρ=>hs.rd ρ (List.mem_cons_of_mem _ hρ)⟩⟩
theorem OwnS.formC {e:TypeId} {s n:Nat} {v:Value} {xs:List Value} {ρ:PH} (h:OwnS e s v n xs ρ):∃ p c,v = .slice p n c ∧ n ≤ c:=by
  obtain ⟨_,⟨rfl,rfl,_⟩ | ⟨b,cap,cur,rfl,_,h1,_⟩⟩:=h
  · exact ⟨none,0,rfl,Nat.le_refl _⟩
  · exact ⟨_,cap,rfl,h1⟩
theorem Sat.left_out {N:Bs} {w:World}:∀ {H':List PH},Sat N R (H' ++ H) w → Sat N R H w:=fun {H'} h =>
  ⟨h.sz,h.r,fun ρ hρ=>h.h ρ (List.mem_append.2 (.inr hρ)),(List.pairwise_append.1 h.hd).2.1,fun ρ hρ σ hσ=>h.rd ρ hρ σ (List.mem_append.2 (.inr hσ))⟩
theorem HA {Hf R1:List PH} {ps ls done:List Nat} {i d:Nat} {plan:Pl} {all:Array Oper} {f:Value} {vs:List Value} {x:Operand} {xs:Array Operand} {ts:Array TypeId} {ty:TypeId} {pos:String} {aft:Array Edge} {g:Option (Nat × Bool)} {post:Value → List PH → Prop} (ho:all[i]? = some ⟨some d,.call ⟨.value x,xs,ts⟩,ty,pos,aft,g⟩) (hs:Spec C.P f vs R1 [] post) (hf:evalE L x = some f) (ha:evalEs L xs.toList = some vs) (hr:RdOK R1 R H) (hg:wantE all L ⟨some d,.call ⟨.value x,xs,ts⟩,ty,pos,aft,g⟩ = some true) (hM:Nat.blt d C.M = true)
    (h:∀ v H',post v H' → DJ C D R Hf (H' ++ H) ((d,v) :: L) all (i :: done) ps (i :: ls) plan K):ActOK C D R Hf H L all done ps ls i .e plan K:=
  a_e ho (loud_call hs hf ha Takes.nil hr) hg rfl hM (fun v H' ⟨H1',e,hp⟩ w hw=>by subst e; exact hw.left_out) (fun v H' ⟨H1',e,hp⟩=>by subst e; exact h v H1' hp)
end Go.Eng
/- Demands answered one after the other. -/
namespace Go.Proofs.YtjehnjhkcmobcaaGreat
open Go.Eng Go.Step
set_option maxRecDepth 100000
set_option maxHeartbeats 4000000

def encD (d:Dm):List Value:=[int d.s,int d.d,int d.v,int d.r,int d.e]
theorem encD_len (d:Dm):(encD d).length = 5:=rfl
def enc4 (x:Value × Value × Value × Value):List Value:=[x.1,x.2.1,x.2.2.1,x.2.2.2]
theorem enc4_len (x:Value × Value × Value × Value):(enc4 x).length = 4:=rfl
theorem AnsAt.sub {σ1 σ2 σ3 γ:PH} {r:Value} {acc:Bool} {vol:Int} {ss:List Sh} {c:Cu} (h:AnsAt σ1 σ2 σ3 r acc vol ss c) (h1:PH.sub σ1 γ) (h2:PH.sub σ2 γ) (h3:PH.sub σ3 γ):AnsAt γ γ γ r acc vol ss c:=by
 obtain ⟨p1,k1,L,p2,k2,e,hS,hC,hL⟩:=h
 exact ⟨p1,k1,L,p2,k2,e,h1.slE hS,⟨h2.slE hC.1,fun x hx=>⟨h3.slE (hC.2 x hx).1,(hC.2 x hx).2⟩⟩,hL⟩
def AnsL (γ:PH) (raw:List (Value × Value × Value × Value)) (an:List An):Prop:=
 raw.length = an.length ∧ ∀ (i:Nat) (x:Value × Value × Value × Value) (a:An),raw[i]? = some x → an[i]? = some a → AnsAt γ γ γ (.agg #[x.1,x.2.1,x.2.2.1,x.2.2.2]) a.acc a.vol a.ss a.c
theorem AnsL.nil (γ:PH):AnsL γ [] []:=⟨rfl,fun i x a h=>by simp at h⟩
theorem AnsL.snoc {γ g:PH} {raw:List (Value × Value × Value × Value)} {an:List An} {x:Value × Value × Value × Value} {a:An} (h:AnsL γ raw an) (hs:PH.sub γ g) (hx:AnsAt g g g (.agg #[x.1,x.2.1,x.2.2.1,x.2.2.2]) a.acc a.vol a.ss a.c):AnsL g (raw ++ [x]) (an ++ [a]):=by
 refine ⟨by rw [List.length_append,List.length_append,h.1]; rfl,fun i y b h1 h2=>?_⟩
 by_cases hi:i < raw.length
 ·rw [List.getElem?_append_left hi] at h1
  rw [List.getElem?_append_left (by rw [← h.1]; exact hi)] at h2
  exact (h.2 i y b h1 h2).sub hs hs hs
 ·rw [List.getElem?_append_right (by omega)] at h1
  rw [List.getElem?_append_right (by rw [← h.1]; omega),← h.1] at h2
  have hz:i - raw.length = 0:=by
   have:=(List.getElem?_eq_some_iff.1 h1).1
   simp at this
   omega
  rw [hz] at h1 h2
  simp at h1 h2
  subst h1;subst h2;exact hx
theorem AnsL.take {γ:PH} {raw:List (Value × Value × Value × Value)} {an:List An} (k:Nat) (h:AnsL γ raw an):AnsL γ (raw.take k) (an.take k):=by
 refine ⟨by rw [List.length_take,List.length_take,h.1],fun i x a h1 h2=>?_⟩
 have hi:=(List.getElem?_eq_some_iff.1 h1).1
 rw [List.length_take] at hi
 rw [List.getElem?_take_of_lt (by omega)] at h1 h2
 exact h.2 i x a h1 h2
theorem plan_len {qs:List Int} {cs:List Ct} {bs:List Bk} {hs:List Hd} {d:Dm} (h:VOk qs cs bs hs d) {acc:Bool} {vol:Int} {ss:List Sh} {c:Cu} (hp:PlanOK qs cs bs hs d acc vol ss c):ss.length ≤ 500000 ∧ c.length ≤ 1000000:=by
 have hEl:=h.len
 obtain ⟨F,m,hm,hp⟩:=hp
 rcases hp with ⟨_,_,_,rfl,side,k,_,rfl⟩ | ⟨_,_,_,rfl,ps,_,rfl⟩
 ·exact ⟨by simp,by rw [sidesC_len]; have:=h.nq; omega⟩
 ·have hl:=shipsF_len (arcsE qs cs bs hs d) (partF qs cs bs hs d ps)
  exact ⟨by omega,by simp⟩
set_option maxHeartbeats 64000000 in
theorem Matrix_spec {ρ τ σ υ:PH} (δ:PH) {pq pc pb ph:Option Addr} {kq kc kb kh:Nat} {qs:List Int} {cs:List Ct} {bs:List Bk} {hs:List Hd} (hT:TbAt ρ τ σ υ pq pc pb ph kq kc kb kh qs cs bs hs) (v:Value) (l:List Dm) (hv:SlE encD 5 δ v l) (hll:l.length ≤ 1000) :
  Eng.Spec Tryz.prog (fv 16) [.agg #[.slice pq qs.length kq,.slice pc cs.length kc,.slice pb bs.length kb,.slice ph hs.length kh],v] [ρ,τ,σ,υ,δ] [] (fun r H'=>∃ (pu:Option Addr) (ku:Nat) (e:Int) (raw:List (Value × Value × Value × Value)) (an:List An) (σu γ:PH),r = .tuple #[.slice pu raw.length ku,int e] ∧ H' = [σu,γ] ∧ raw.length ≤ ku ∧ SlE enc4 4 σu (.slice pu raw.length ku) raw ∧ AnsL γ raw an ∧ MtxR qs cs bs hs l an e):=by
 obtain ⟨pl,kl,rfl,hr⟩:=hv.val encD_len
 refine spec_in (cap:=[]) Tryz.func16 rfl rfl Tryz.ntmps16 rfl envZ (fun N β=>?_)
 refine Aa ?_;refine BH (BM rfl) rfl rfl rfl ?_;rintro _ _ ⟨b2,rfl,rfl⟩;refine BY ?_;refine BY ?_;refine BY ?_;refine BY ?_;refine Aan ?_;refine Acy ?_
 refine BA [2,11,12] (X:=Nat × List An × (Value × List (Value × Value × Value × Value) × PH) × PH × (List Bk × List Hd) × ((Option Addr × Nat) × PH) × ((Option Addr × Nat) × PH)) (0,[],(.slice none 0 0,[],emp),emp,(bs,hs),((pb,kb),emp),((ph,kh),emp)) (fun x=>x.1 ≤ l.length ∧ MxS qs cs bs hs (l.take x.1) x.2.1 x.2.2.2.2.1.1 x.2.2.2.2.1.2 ∧ OwnS 42 4 x.2.2.1.1 x.2.2.1.2.1.length (x.2.2.1.2.1.flatMap enc4) x.2.2.1.2.2 ∧ AnsL x.2.2.2.1 x.2.2.1.2.1 x.2.1 ∧ (SlE encB 4 σ (.slice x.2.2.2.2.2.1.1.1 x.2.2.2.2.1.1.length x.2.2.2.2.2.1.1.2) x.2.2.2.2.1.1 ∨ SlE encB 4 x.2.2.2.2.2.1.2 (.slice x.2.2.2.2.2.1.1.1 x.2.2.2.2.1.1.length x.2.2.2.2.2.1.1.2) x.2.2.2.2.1.1) ∧ (HdAt υ (.slice x.2.2.2.2.2.2.1.1 x.2.2.2.2.1.2.length x.2.2.2.2.2.2.1.2) x.2.2.2.2.1.2 ∨ HdAt x.2.2.2.2.2.2.2 (.slice x.2.2.2.2.2.2.1.1 x.2.2.2.2.1.2.length x.2.2.2.2.2.2.1.2) x.2.2.2.2.1.2) ∧ x.2.2.2.2.1.1.length ≤ 9223372036854775807 ∧ x.2.2.2.2.1.2.length ≤ 9223372036854775807) (fun x=>[(13,int x.1),(6,x.2.2.1.1)]) (fun x=>[sng b2 (.cells #[.slice pq qs.length kq,.slice pc cs.length kc,.slice x.2.2.2.2.2.1.1.1 x.2.2.2.2.1.1.length x.2.2.2.2.2.1.1.2,.slice x.2.2.2.2.2.2.1.1 x.2.2.2.2.1.2.length x.2.2.2.2.2.2.1.2] 29 (0,0)),x.2.2.1.2.2,x.2.2.2.1,x.2.2.2.2.2.1.2,x.2.2.2.2.2.2.2]) (fun x=>l.length - x.1) pickZ ⟨by dsimp only; omega,⟨rfl,rfl,rfl⟩,OwnS.nil _ _,AnsL.nil _,.inl hT.hb,.inl hT.hh,hT.lb,hT.lh⟩ covZ selZ ?_
 rintro ⟨k,an,⟨u,raw,σu⟩,γ,⟨bs1,hs1⟩,⟨⟨p5,k5⟩,χb⟩,⟨⟨p6,k6⟩,χh⟩⟩ ⟨hk,hS,hO,hA,hB,hH,lb1,lh1⟩
 dsimp only at hk hS hO hA hB hH lb1 lh1 ⊢
 by_cases hlt:k < l.length
 rotate_left
 ·have hke:k = l.length:=by omega
  rw [hke,List.take_length] at hS
  obtain ⟨pu,ku,rfl,hcu⟩:=hO.formC
  refine Abl ?_;refine Adf ?_;exact AI (res2 rfl rfl rfl) rsubZ selZ ⟨pu,ku,0,raw,an,σu,γ,rfl,rfl,hcu,hO.at,hA,.inl ⟨rfl,bs1,hs1,hS⟩⟩
 have hx:=List.getElem?_eq_getElem hlt
 have hrl:raw.length ≤ 1000:=by
  have h1:=hA.1
  have h2:=hS.len
  rw [List.length_take] at h2;omega
 have hsn:l.take (k + 1) = l.take k ++ [l[k]]:=List.take_succ_eq_append_getElem hlt
 obtain ⟨b15,o15,rfl,hrd⟩:=hr k _ hx
 generalize l[k] = d at hx hsn hrd
 have hrd2:RdN δ b15 (o15 + k * 5) [int d.s,int d.d,int d.v,int d.r,int d.e]:=hrd
 refine EZ (P:=fun x=>SlE encB 4 x (.slice p5 bs1.length k5) bs1) (σ:=σ) (χ:=χb) memZ takeZ hB (fun σ' hB'=>?_)
 refine EZ (P:=fun x=>HdAt x (.slice p6 hs1.length k6) hs1) (σ:=υ) (χ:=χh) memZ takeZ hH (fun υ' hH'=>?_)
 have hT1:TbAt ρ τ σ' υ' pq pc p5 p6 kq kc k5 k6 qs cs bs1 hs1:=⟨hT.hq,hT.hc,hT.hcap,hT.lq,hT.lc,hB',lb1,hH',lh1⟩
 refine Ab1 ?_;refine AY ?_; rintro _ _ ⟨b,rfl,rfl⟩;refine AU ?_; rintro _ _ ⟨rfl,rfl⟩;refine AE ?_;refine Ace ?_
 revert b; intro b8
 refine BC (Plan_spec hT1 d) rfl rfl Takes.nil rdZ rfl rfl ?_;rintro _ _ (⟨hvd,acc,vol,ss,c,a,σ1,σ2,σ3,rfl,rfl,hP,hAn⟩ | ⟨hvd,rfl,rfl⟩)
 rotate_left
 ·refine AB ?_
  refine Aa6 ?_;refine AY ?_; rintro _ _ ⟨b,rfl,rfl⟩;refine AU ?_; rintro _ _ ⟨rfl,rfl⟩;refine Adx ?_;refine Ab9 ?_;refine Adf ?_
  exact AI (res2 rfl rfl rfl) rsubZ selZ ⟨none,0,1,[],[],σu,γ,rfl,rfl,Nat.le_refl _,⟨rfl,.inl ⟨rfl,none,0,rfl⟩⟩,AnsL.nil _,.inr ⟨by decide,rfl,k,d,bs1,hs1,an,hx,hS,.inl ⟨hvd,rfl⟩⟩⟩
 have hpl:=plan_len (vok hvd) hP
 have hAn2:=hAn
 obtain ⟨p1,k1,L,p2,k2,rfl,hSh,hC,hcL⟩:=hAn2
 refine Abe ?_;refine AY ?_; rintro _ _ ⟨b,rfl,rfl⟩;refine AU ?_; rintro _ _ ⟨rfl,rfl⟩;refine Adx ?_;refine Abb ?_;refine Aad ?_;refine AS ?_;refine BD ?_; rintro _ _ ⟨b,rfl,rfl⟩
 revert b; intro b9
 refine BH (B8 (by_:=64) (s:=4) (news:=[.bool acc,int vol,.slice p1 ss.length k1,.slice p2 L.length k2]) rfl rfl rfl rfl rfl rfl rfl hO takeZ (cells_own memZ) rfl (by (repeat (first | exact (fun v hv=>absurd hv List.not_mem_nil) | (refine List.forall_mem_cons.2 ⟨?_,?_⟩; (focus (first | exact rfl | assumption))))); first | done | fail) (by omega) (by simp only [maxLen]; omega) (by omega)) rfl rfl rfl ?_
 rintro u1 _ ⟨σu1,hO1,rfl⟩;refine Aaa ?_;refine Abp ?_;refine Aac ?_;refine BC (Reserve_spec σ1 hT1 _ ss hSh hpl.1) rfl rfl Takes.nil rdZ rfl rfl ?_;rintro _ _ (⟨e,he,rfl,rfl,hR⟩ | ⟨bs2,hs2,p7,k7,p8,k8,σ7,σ8,rfl,rfl,hR,l5,l6,hB2,hH2⟩)
 ·refine AB ?_
  refine Aa6 ?_;refine AU ?_; rintro _ _ ⟨rfl,rfl⟩;refine Aej ?_;refine Adf ?_;exact AI (res2 rfl rfl rfl) rsubZ selZ ⟨none,0,e,[],[],σu1,γ,rfl,rfl,Nat.le_refl _,⟨rfl,.inl ⟨rfl,none,0,rfl⟩⟩,AnsL.nil _,.inr ⟨he,rfl,k,d,bs1,hs1,an,hx,hS,.inr ⟨hvd,⟨acc,vol,ss,c⟩,[],[],hP,hR⟩⟩⟩
 refine Abe ?_;refine AU ?_; rintro _ _ ⟨rfl,rfl⟩;refine Ad4 ?_;refine Aa0 ?_
 refine DE (ρ:=γ) (σ:=σ1) takeZ takeZ (fun g1 a1 a2=>?_)
 refine DE (ρ:=g1) (σ:=σ2) takeZ takeZ (fun g2 a3 a4=>?_)
 refine DE (ρ:=g2) (σ:=σ3) takeZ takeZ (fun g3 a5 a6=>?_)
 refine E0 (E0 ?_)
 refine AX (k + 1,an ++ [⟨acc,vol,ss,c⟩],(u1,raw ++ [(.bool acc,int vol,.slice p1 ss.length k1,.slice p2 L.length k2)],σu1),g3,(bs2,hs2),((p7,k7),σ7),((p8,k8),σ8)) ⟨by dsimp only; omega,?_,?_,?_,.inr hB2,.inr hH2,by dsimp only; omega,by dsimp only; omega⟩ (by dsimp only; omega) covZ selZ
 ·dsimp only
  rw [hsn];exact hS.snoc hvd hP hR
 ·dsimp only
  rw [List.length_append,List.flatMap_append];exact hO1
 ·dsimp only
  refine hA.snoc ((a1.trans a3).trans a5) ?_;exact hAn.sub ((a2.trans a3).trans a5) (a4.trans a5) a6
end Go.Proofs.YtjehnjhkcmobcaaGreat
/- The document's plan; answers compared. -/
namespace Go.Proofs.YtjehnjhkcmobcaaGreat
open Go.Eng Go.Step Go.Flow
set_option maxRecDepth 100000
set_option maxHeartbeats 4000000

set_option maxHeartbeats 16000000 in
theorem sameAnswer_spec (σ1 σ2 σ3 σ4 σ5 σ6:PH) (a a':Value) (acc:Bool) (vol:Int) (ss:List Sh) (c:Cu) (h1:AnsAt σ1 σ2 σ3 a acc vol ss c) (h2:AnsAt σ4 σ5 σ6 a' acc vol ss c) (hl:ss.length ≤ 1000000) (hc:c.length ≤ 1000000) :
  Ans Tryz.prog (fv 20) [a,a'] [σ1,σ2,σ3,σ4,σ5,σ6] (fun r=>r = .bool true):=by
 obtain ⟨p1,k1,L,p2,k2,rfl,hS,hC,hL⟩:=h1
 obtain ⟨p3,k3,L',p4,k4,rfl,hS',hC',hL'⟩:=h2
 have hLl:L.length ≤ 1000000:=by have:=congrArg List.length hL; rw [List.length_map] at this; omega
 have hsc:=exSameCut_spec σ2 σ3 σ5 σ6 p2 p4 k2 k4 L L' hC hC' (by rw [hL,hL']) hLl
 have hss:=sameShips_spec σ1 σ4 p1 p3 k1 k3 ss hS hS' hl
 refine spec_in (cap:=[]) Tryz.func20 rfl rfl Tryz.ntmps20 rfl envZ (fun N β=>?_)
 refine Aa ?_;refine BH (BM rfl) rfl rfl rfl ?_;rintro _ _ ⟨b1,rfl,rfl⟩;refine AT (ρ:=sng b1 _) takeZ ?_
 have ca:=rdB b1 42 [.bool acc,int vol,.slice p1 ss.length k1,.slice p2 L.length k2]
 have ca0:=rdC ca 0
 have ca1:=rdC ca 1
 have ca2:=rdC ca 2
 have ca3:=rdC ca 3
 refine BH (BM rfl) rfl rfl rfl ?_;rintro _ _ ⟨b2,rfl,rfl⟩;refine AT (ρ:=sng b2 _) takeZ ?_
 have cb:=rdB b2 42 [.bool acc,int vol,.slice p3 ss.length k3,.slice p4 L'.length k4]
 have cb0:=rdC cb 0
 have cb1:=rdC cb 1
 have cb2:=rdC cb 2
 have cb3:=rdC cb 3
 cases acc with
 | true =>
  refine Aen ?_;refine EX ?_;refine Aa5 ?_;refine CT ?_;refine Acw ?_
  rw [show (true == true) = true from rfl]
  skip
  refine A3 hss rfl rfl rdZ rfl rfl ?_;rintro _ rfl;refine Acw ?_;refine A3 hsc rfl rfl rdZ rfl rfl ?_;rintro _ rfl;refine Ab2 ?_;exact AI (res1 rfl rfl) rsubZ selZ ⟨rfl,rfl⟩
 | false =>
  refine Aen ?_;refine EX ?_;refine Aa5 ?_;refine CT ?_;refine Acw ?_
  rw [show (false == false) = true from rfl]
  skip
  refine A3 hss rfl rfl rdZ rfl rfl ?_;rintro _ rfl;refine Acw ?_;refine A3 hsc rfl rfl rdZ rfl rfl ?_;rintro _ rfl;refine Ab2 ?_;exact AI (res1 rfl rfl) rsubZ selZ ⟨rfl,rfl⟩
end Go.Proofs.YtjehnjhkcmobcaaGreat
/- How much can be brought until when. No program in sight. No conditions. -/
namespace Go.Step
variable {qs:List Int} {cs:List Ct} {bs:List Bk} {hs:List Hd} {d:Dm}
def atE (d:Dm) (t:Int):Dm:=⟨d.s,d.d,d.v,d.r,t⟩
open Classical in
noncomputable def mostV (qs:List Int) (cs:List Ct) (bs:List Bk) (hs:List Hd) (d:Dm):Int:=if h:∃ m F,MaxN qs cs bs hs d F m 0 then Classical.choose h else 0
theorem mostV_eq {F:List Int} {m:Int} (hm:MaxN qs cs bs hs d F m 0):mostV qs cs bs hs d = m:=by
  have h:∃ m F,MaxN qs cs bs hs d F m 0:=⟨m,F,hm⟩
  unfold mostV;rw [dif_pos h]
  obtain ⟨G,hG⟩:=Classical.choose_spec h
  exact (hG.uniq hm).2.1
noncomputable def mostK (qs:List Int) (cs:List Ct) (bs:List Bk) (hs:List Hd) (d:Dm) (k:Nat):Int:=if k = 0 then 0 else mostV qs cs bs hs (atE d (d.r + k))
noncomputable def curveK (qs:List Int) (cs:List Ct) (bs:List Bk) (hs:List Hd) (d:Dm):Nat → List Lv
  | 0=>[]
  | k + 1=>curveK qs cs bs hs d k ++ (if mostK qs cs bs hs d (k + 1) ≠ mostK qs cs bs hs d k then [⟨d.r + (k + 1:Nat),mostK qs cs bs hs d (k + 1)⟩] else [])
theorem curveK_len (qs:List Int) (cs:List Ct) (bs:List Bk) (hs:List Hd) (d:Dm):∀ k,(curveK qs cs bs hs d k).length ≤ k
  | 0=>Nat.le_refl _
  | k + 1=>by
    have:=curveK_len qs cs bs hs d k
    unfold curveK;rw [List.length_append]
    split <;> simp <;> omega
theorem valid_at (hv:validT qs cs bs hs d = true) {k:Nat} (h1:d.r + (k + 1:Nat) ≤ d.e):validT qs cs bs hs (atE d (d.r + (k + 1:Nat))) = true:=by
  obtain ⟨h,hd⟩:=of_decide_eq_true hv
  refine decide_eq_true ⟨h,?_⟩;unfold okDm at hd ⊢;unfold atE
  dsimp only
  omega
theorem mostK_eq {k:Nat} {F:List Int} {m:Int} (hm:MaxN qs cs bs hs (atE d (d.r + (k + 1:Nat))) F m 0):mostK qs cs bs hs d (k + 1) = m:=by
  unfold mostK
  rw [if_neg (by omega)]
  exact mostV_eq hm
end Go.Step
/- Curves. -/
namespace Go.Proofs.YtjehnjhkcmobcaaGreat
open Go.Eng Go.Step
set_option maxRecDepth 100000
set_option maxHeartbeats 4000000

set_option maxHeartbeats 32000000 in
theorem Curve_spec {ρ τ σ υ:PH} {pq pc pb ph:Option Addr} {kq kc kb kh:Nat} {qs:List Int} {cs:List Ct} {bs:List Bk} {hs:List Hd} (hT:TbAt ρ τ σ υ pq pc pb ph kq kc kb kh qs cs bs hs) (d:Dm):Makes Tryz.prog (fv 25) [.agg #[.slice pq qs.length kq,.slice pc cs.length kc,.slice pb bs.length kb,.slice ph hs.length kh],.agg #[int d.s,int d.d,int d.v,int d.r,int d.e]] [ρ,τ,σ,υ] (fun r χ=>∃ u,r = .tuple #[u,int (if validT qs cs bs hs d = true then 0 else 1)] ∧ OwnS 72 2 u (if validT qs cs bs hs d = true then curveK qs cs bs hs d (d.e - d.r).toNat else []).length ((if validT qs cs bs hs d = true then curveK qs cs bs hs d (d.e - d.r).toNat else []).flatMap encV) χ ∧ (validT qs cs bs hs d = true → ∀ j,j < (d.e - d.r).toNat → ∃ F m,MaxN qs cs bs hs (atE d (d.r + ((j + 1:Nat):Int))) F m 0)):=by
 refine spec_in (cap:=[]) Tryz.func25 rfl rfl Tryz.ntmps25 rfl envZ (fun N β=>?_)
 refine Aa ?_;refine BH (BM rfl) rfl rfl rfl ?_;rintro _ _ ⟨b1,rfl,rfl⟩;refine AT (ρ:=sng b1 _) takeZ ?_
 have ct:=rdB b1 29 [.slice pq qs.length kq,.slice pc cs.length kc,.slice pb bs.length kb,.slice ph hs.length kh]
 have ct0:=rdC ct 0
 have ct1:=rdC ct 1
 have ct2:=rdC ct 2
 have ct3:=rdC ct 3
 have ctp:RdP (sng b1 (.cells #[.slice pq qs.length kq,.slice pc cs.length kc,.slice pb bs.length kb,.slice ph hs.length kh] 29 (0,0))) b1 0 [.slice pq qs.length kq,.slice pc cs.length kc]:=rdP_sng (xs:=[.slice pq qs.length kq,.slice pc cs.length kc,.slice pb bs.length kb,.slice ph hs.length kh]) rfl
 refine BH (BM rfl) rfl rfl rfl ?_;rintro _ _ ⟨b2,rfl,rfl⟩;refine AT (ρ:=sng b2 _) takeZ ?_
 have cd:=rdB b2 31 [int d.s,int d.d,int d.v,int d.r,int d.e]
 have cd0:=rdC cd 0
 have cd1:=rdC cd 1
 have cd2:=rdC cd 2
 have cd3:=rdC cd 3
 have cd4:=rdC cd 4
 refine BY ?_;refine Aan ?_;refine AC ?_;refine Ace ?_;refine CB (Graph_spec hT d) rfl rfl rdZ rfl rfl ?_;rintro _ σg hg
 by_cases hv:validT qs cs bs hs d = true
 rotate_left
 ·rw [if_neg hv] at hg
  obtain ⟨rfl,rfl⟩:=hg
  rw [if_neg hv,if_neg hv];refine Abe ?_;refine AY ?_; rintro _ _ ⟨b,rfl,rfl⟩;refine AU ?_; rintro _ _ ⟨rfl,rfl⟩;refine Aej ?_;refine Acj ?_
  exact AI (res2 rfl rfl rfl) rsubZ selZ ⟨emp,⟨_,rfl,OwnS.nil _ _,fun hh=>absurd hh hv⟩,rfl⟩
 rw [if_pos hv] at hg
 obtain ⟨ug,rfl,hOg⟩:=hg
 obtain ⟨pg,kg,rfl⟩:=hOg.form
 rw [if_pos hv,if_pos hv]
 have h:=vok hv
 have hdm:=h.dm
 unfold okDm at hdm;refine Abe ?_;refine AY ?_; rintro _ _ ⟨b,rfl,rfl⟩;refine AU ?_; rintro _ _ ⟨rfl,rfl⟩;refine Ad4 ?_;refine Aak ?_;refine Aak ?_;refine Ac8 ?_;refine CG ?_;refine Aaa ?_;refine AO ?_
 refine BA [2,3] (X:=Nat × Value × PH) (0,.slice none 0 0,emp) (fun z=>z.1 ≤ (d.e - d.r).toNat ∧ (∀ j,j < z.1 → ∃ F m,MaxN qs cs bs hs (atE d (d.r + ((j + 1:Nat):Int))) F m 0) ∧ OwnS 72 2 z.2.1 (curveK qs cs bs hs d z.1).length ((curveK qs cs bs hs d z.1).flatMap encV) z.2.2) (fun z=>[(10,int (d.r + (z.1 + 1:Nat))),(9,int (mostK qs cs bs hs d z.1)),(8,z.2.1)]) (fun z=>[z.2.2]) (fun z=>(d.e - d.r).toNat - z.1) pickZ ⟨by dsimp only; omega,fun j hj=>by dsimp only at hj; omega,OwnS.nil _ _⟩ covZ selZ ?_
 rintro ⟨k,u,σo⟩ ⟨hk,hex,hO⟩
 dsimp only at hk hex hO ⊢
 by_cases hlt:k < (d.e - d.r).toNat
 rotate_left
 ·have hke:k = (d.e - d.r).toNat:=by omega
  subst hke;refine Aai ?_;refine Aac ?_;refine CZ ?_;refine Ac3 ?_;refine Adf ?_
  exact AI (res2 rfl rfl rfl) rsubZ selZ ⟨σo,⟨u,rfl,hO,fun _=>hex⟩,rfl⟩
 have hv2:validT qs cs bs hs ⟨d.s,d.d,d.v,d.r,d.r + (k + 1:Nat)⟩ = true:=valid_at hv (by omega)
 have hM:=Most_spec hT ⟨d.s,d.d,d.v,d.r,d.r + (k + 1:Nat)⟩
 have hcl:=curveK_len qs cs bs hs d k
 have hcn:curveK qs cs bs hs d (k + 1) = curveK qs cs bs hs d k ++ (if mostK qs cs bs hs d (k + 1) ≠ mostK qs cs bs hs d k then [⟨d.r + (k + 1:Nat),mostK qs cs bs hs d (k + 1)⟩] else []):=rfl
 have hnx:d.r + ((k + 1:Nat):Int) + 1 = d.r + (((k + 1) + 1:Nat):Int):=by omega
 refine Aai ?_;refine Aac ?_;refine CU ?_;refine Acm ?_;refine Abp ?_;refine AY ?_; rintro _ _ ⟨b,rfl,rfl⟩;refine AU ?_; rintro _ _ ⟨rfl,rfl⟩;refine Adh ?_;refine AG ?_;refine BF ?_; rintro _ _ ⟨rfl,rfl⟩;refine AE ?_;refine Ace ?_
 revert b; intro bd
 refine A3 hM rfl rfl rdZ rfl rfl ?_;rintro _ (⟨_,F,m,hm,rfl⟩ | ⟨hv3,rfl⟩)
 rotate_left
 ·rw [hv2] at hv3; simp at hv3
 have hex2:∀ j,j < k + 1 → ∃ F m,MaxN qs cs bs hs (atE d (d.r + ((j + 1:Nat):Int))) F m 0:=fun j hj=>by
  by_cases hjk:j < k
  ·exact hex j hjk
  ·have:j = k:=by omega
   subst this;exact ⟨F,m,hm⟩
 have hmk:mostK qs cs bs hs d (k + 1) = m:=mostK_eq hm
 rw [hmk] at hcn
 generalize mostK qs cs bs hs d k = M0 at hcn
 generalize curveK qs cs bs hs d k = C0 at hO hcl hcn
 by_cases hc:m = M0
 ·rw [if_neg (fun hh=>hh hc),List.append_nil] at hcn
  refine Acc ?_;refine Abb ?_;refine Abn ?_;refine Abb ?_;refine Aca ?_;refine CG ?_;refine Aaa ?_
  refine AX (k + 1,u,σo) ⟨by dsimp only; omega,hex2,by dsimp only; rw [hcn]; exact hO⟩ (by dsimp only; omega) ?_ selZ
  dsimp only
  rw [hmk,← hnx,hc];exact covZ
 ·rw [if_pos hc] at hcn
  refine Acc ?_;refine Abb ?_;refine Abn ?_;refine Ab9 ?_;refine Aad ?_;refine Aa1 ?_;refine BR ?_;refine BD ?_; rintro _ _ ⟨b,rfl,rfl⟩
  refine BH (B8 (by_:=16) (s:=2) (news:=[int (d.r + ((k + 1:Nat):Int)),int m]) rfl rfl rfl rfl rfl rfl rfl hO takeZ (cells_own memZ) rfl (by (repeat (first | exact (fun v hv=>absurd hv List.not_mem_nil) | (refine List.forall_mem_cons.2 ⟨?_,?_⟩; (focus (first | exact rfl | assumption))))); first | done | fail) (by omega) (by simp only [maxLen]; omega) (by omega)) rfl rfl rfl ?_
  rintro u1 _ ⟨σ1,hO1,rfl⟩;refine Aaa ?_;refine AA ?_;refine AB ?_;refine Aaa ?_;refine Aca ?_;refine CG ?_;refine Aaa ?_
  refine AX (k + 1,u1,σ1) ⟨by dsimp only; omega,hex2,?_⟩ (by dsimp only; omega) ?_ selZ
  ·dsimp only
   rw [hcn,List.length_append,List.flatMap_append];exact hO1
  ·dsimp only
   rw [hmk,← hnx];exact covZ
end Go.Proofs.YtjehnjhkcmobcaaGreat
/- Where a node can store more, of the program. -/
namespace Go.Proofs.YtjehnjhkcmobcaaGreat
open Go.Eng Go.Step
set_option maxRecDepth 100000
set_option maxHeartbeats 4000000

end Go.Proofs.YtjehnjhkcmobcaaGreat
/- Where a node can store more, of the program: Free. -/
namespace Go.Proofs.YtjehnjhkcmobcaaGreat
open Go.Eng Go.Step
set_option maxRecDepth 100000
set_option maxHeartbeats 4000000

end Go.Proofs.YtjehnjhkcmobcaaGreat
/- Where a node can store more, of the reference. -/
namespace Go.Proofs.YtjehnjhkcmobcaaGreat
open Go.Eng Go.Step
set_option maxRecDepth 100000
set_option maxHeartbeats 4000000

end Go.Proofs.YtjehnjhkcmobcaaGreat
/- Free spans, of the reference; lists compared. -/
namespace Go.Proofs.YtjehnjhkcmobcaaGreat
open Go.Eng Go.Step
set_option maxRecDepth 100000
set_option maxHeartbeats 4000000

theorem equalV_spec (ρ τ:PH) (v w:Value) (l m:List Lv) (hv:LvAt ρ v l) (hw:LvAt τ w m) (hl:l.length ≤ 9223372036854775807) :
  Ans Tryz.prog (fv 27) [v,w] [ρ,τ] (fun r=>r = .bool (decide (l = m))):=by
 obtain ⟨q,c,rfl,hr⟩:=hv.val encV_len
 obtain ⟨q',c',rfl,hr'⟩:=hw.val encV_len
 refine spec_in (cap:=[]) Tryz.func27 rfl rfl Tryz.ntmps27 rfl envZ (fun N β=>?_)
 by_cases hlen:l.length = m.length
 rotate_left
 ·refine AC ?_
  refine AA ?_;refine Aaa ?_;refine Aeu ?_;refine CK ?_;refine Aa4 ?_
  exact AI (res1 rfl rfl) rsubZ selZ ⟨rfl,by rw [decide_eq_false (fun h=>hlen (by rw [h]))]⟩
 refine Aak ?_;refine Aeu ?_;refine Abb ?_;refine Abt ?_
 refine BA [0,1,12] (0:Nat) (fun k=>k ≤ l.length ∧ l.take k = m.take k) (fun k=>[(13,int k)]) (fun _=>[]) (fun k=>l.length - k) pickZ ⟨by omega,by simp⟩ covZ selZ ?_
 rintro k ⟨hk,hI⟩
 by_cases hlt:k < l.length
 ·have hx:=List.getElem?_eq_getElem hlt
  have hx':=List.getElem?_eq_getElem (show k < m.length by omega)
  obtain ⟨b1,o1,rfl,hRd1,_⟩:=lvRow hr hx
  obtain ⟨b2,o2,rfl,hRd2,_⟩:=lvRow hr' hx'
  refine Ab3 ?_;refine Abi ?_
  refine A8 (.q 0 (.q 1 (.q 2 (.q 3 (.q 4 (.q 5 (.q 6 (.q 7 (.q 8 .nil))))))))) [] rfl (by kernel_rfl) Sel.nil ?_
  refine Aeg ?_;refine Aeg ?_
  focus ((refine' CR rfl _ rfl rfl rfl rfl _; rotate_left; (apply F9 [l[k].a,l[k].v] [m[k].a,m[k].v] (n:=2); exact rfl; exact rfl; kernel_rfl; kernel_rfl; kernel_rfl; exact rfl; exact rfl)))
  refine A5 ?_
  by_cases he:l[k] = m[k]
  ·rw [he]
   rw [show (!decide ([m[k].a,m[k].v] = [m[k].a,m[k].v])) = false by simp]
   skip
   refine Aae ?_;refine Aa0 ?_
   refine AX (k + 1) ⟨by omega,?_⟩ (by omega) covZ selZ
   rw [List.take_succ_eq_append_getElem hlt,List.take_succ_eq_append_getElem (show k < m.length by omega),hI,he]
  ·have hne:¬ ([l[k].a,l[k].v] = [m[k].a,m[k].v]):=fun h=>he (by
    simp only [List.cons.injEq,and_true] at h
    generalize l[k] = x at *
    generalize m[k] = y at *
    obtain ⟨x1,x2⟩:=x
    obtain ⟨y1,y2⟩:=y
    simp only at h
    rw [h.1,h.2])
   rw [show (!decide ([l[k].a,l[k].v] = [m[k].a,m[k].v])) = true by simp only [decide_eq_false hne,Bool.not_false]]
   skip
   refine AM rfl ?_;refine Aak ?_
   exact AI (res1 rfl rfl) rsubZ selZ ⟨rfl,by rw [decide_eq_false (fun h=>he (by subst h; rfl))]⟩
 ·rw [List.take_of_length_le (by omega),List.take_of_length_le (by omega)] at hI
  refine Abl ?_;refine Aak ?_
  exact AI (res1 rfl rfl) rsubZ selZ ⟨rfl,by rw [decide_eq_true hI]⟩
end Go.Proofs.YtjehnjhkcmobcaaGreat
