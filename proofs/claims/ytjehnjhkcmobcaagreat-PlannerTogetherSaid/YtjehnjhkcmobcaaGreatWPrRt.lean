/- Texts of this proof, one after the other; no conditions. -/
import Derived.Test.YtjehnjhkcmobcaaGreatWB12
import Derived.Test.YtjehnjhkcmobcaaGreatWB3
import Derived.Test.YtjehnjhkcmobcaaGreatWB6
import Derived.Test.YtjehnjhkcmobcaaGreatWB7
import Derived.Test.YtjehnjhkcmobcaaGreatWB9
import Derived.Test.YtjehnjhkcmobcaaGreatWB10
import Derived.Test.YtjehnjhkcmobcaaGreatWB2
import Derived.Test.YtjehnjhkcmobcaaGreatWB1
import Derived.Test.YtjehnjhkcmobcaaGreatWB5
import Derived.Test.YtjehnjhkcmobcaaGreatWB8
import Derived.Test.YtjehnjhkcmobcaaGreatWB11
set_option linter.all false
/- Joins and meets of the document. -/
namespace Go.Proofs.YtjehnjhkcmobcaaGreat
open Go.Eng Go.Step
set_option maxRecDepth 100000
set_option maxHeartbeats 4000000

end Go.Proofs.YtjehnjhkcmobcaaGreat
/- The arcs of the network, as the document lists them. No program in sight. No conditions. -/
namespace Go.Step
section
variable {qs:List Int} {cs:List Ct} {bs:List Bk} {hs:List Hd} {d:Dm}
end
end Go.Step
/- The document's arcs. -/
namespace Go.Proofs.YtjehnjhkcmobcaaGreat
open Go.Eng Go.Step
set_option maxRecDepth 100000
set_option maxHeartbeats 4000000

theorem refCheck53_spec {ρ τ σ υ:PH} {pq pc pb ph:Option Addr} {kq kc kb kh:Nat} {qs:List Int} {cs:List Ct} {bs:List Bk} {hs:List Hd} (hT:TbAt ρ τ σ υ pq pc pb ph kq kc kb kh qs cs bs hs) (d:Dm):Ans Tryz.prog (fv 23) [.agg #[.slice pq qs.length kq,.slice pc cs.length kc,.slice pb bs.length kb,.slice ph hs.length kh],.agg #[int d.s,int d.d,int d.v,int d.r,int d.e]] [ρ,τ,σ,υ] (fun r=>r = .bool (validT qs cs bs hs d)):=by
 have hct:=refChkTab_spec hT
 have hd:=demand53_spec pq pc kq kc qs.length cs.length d
 refine spec_in (cap:=[]) Tryz.func23 rfl rfl Tryz.ntmps23 rfl envZ (fun N β=>?_)
 refine Aa ?_;refine BJ (BO rfl) rfl rfl rfl ?_;rintro _ _ ⟨b1,rfl,rfl⟩;refine AS (ρ:=sng b1 _) takeZ ?_
 have ct:=rdB b1 29 [.slice pq qs.length kq,.slice pc cs.length kc,.slice pb bs.length kb,.slice ph hs.length kh]
 have ct0:=rdC ct 0
 have ct1:=rdC ct 1
 have ct2:=rdC ct 2
 have ct3:=rdC ct 3
 have ctp:RdP (sng b1 (.cells #[.slice pq qs.length kq,.slice pc cs.length kc,.slice pb bs.length kb,.slice ph hs.length kh] 29 (0,0))) b1 0 [.slice pq qs.length kq,.slice pc cs.length kc]:=rdP_sng (xs:=[.slice pq qs.length kq,.slice pc cs.length kc,.slice pb bs.length kb,.slice ph hs.length kh]) rfl
 refine BJ (BO rfl) rfl rfl rfl ?_;rintro _ _ ⟨b2,rfl,rfl⟩;refine AS (ρ:=sng b2 _) takeZ ?_
 have cd:=rdB b2 31 [int d.s,int d.d,int d.v,int d.r,int d.e]
 have cd0:=rdC cd 0
 have cd1:=rdC cd 1
 have cd2:=rdC cd 2
 have cd3:=rdC cd 3
 have cd4:=rdC cd 4
 refine Aab ?_;refine Abm ?_;refine A4 hct rfl rfl rdZ rfl rfl ?_;rintro _ rfl
 by_cases hz:chkT qs cs bs hs = 0
 ·rw [hz]
  refine CT ?_;refine AB ?_;refine Aeo ?_;refine AT ?_;refine A4 hd rfl rfl rdZ rfl rfl ?_;rintro _ rfl
  have hV:validT qs cs bs hs d = okDmB qs.length d:=by unfold validT okDmB; simp [hz]
  rw [hV]
  cases okDmB qs.length d with
  | true =>
   refine Abz ?_;exact AI (res1 rfl rfl) rsubZ selZ ⟨rfl,rfl⟩
  | false =>
   refine Abz ?_;exact AI (res1 rfl rfl) rsubZ selZ ⟨rfl,rfl⟩
 ·have hV:validT qs cs bs hs d = false:=decide_eq_false (fun h=>hz h.1)
  rw [hV];refine CH ?_;refine Abh ?_;refine Ab0 ?_;exact AI (res1 rfl rfl) rsubZ selZ ⟨rfl,rfl⟩
end Go.Proofs.YtjehnjhkcmobcaaGreat
/- The document's network, its vertices and shipments. -/
namespace Go.Proofs.YtjehnjhkcmobcaaGreat
open Go.Eng Go.Step
set_option maxRecDepth 100000
set_option maxHeartbeats 4000000

theorem RdN.pre {ρ:PH} {b o:Nat} {xs ys:List Value} (h:RdN ρ b o (xs ++ ys)):RdP ρ b o xs:=⟨fun j v hv=>h j v (by
 have hl:=(List.getElem?_eq_some_iff.1 hv).1
 rw [List.getElem?_append_left hl]
 exact hv)⟩
theorem rowN {α:Type} {enc:α → List Value} {s:Nat} (he:∀ x,(enc x).length = s) {ρ:PH} {p:Option Addr} {k:Nat} {l:List α} (h:SlE enc s ρ (.slice p l.length k) l):RowsE enc s ρ p l:=by
 obtain ⟨_,_,e,hr⟩:=h.val he
 simp only [Value.slice.injEq] at e
 obtain ⟨rfl,_,_⟩:=e
 exact hr
end Go.Proofs.YtjehnjhkcmobcaaGreat
/- The document's cuts. -/
namespace Go.Proofs.YtjehnjhkcmobcaaGreat
open Go.Eng Go.Step
set_option maxRecDepth 100000
set_option maxHeartbeats 4000000

end Go.Proofs.YtjehnjhkcmobcaaGreat
/- The reference: residual arcs, distances level by level, the first shortest path. -/
namespace Go.Proofs.YtjehnjhkcmobcaaGreat
open Go.Eng Go.Flow
set_option maxRecDepth 100000
set_option maxHeartbeats 4000000

end Go.Proofs.YtjehnjhkcmobcaaGreat
/- The reference's list of residual arcs, as it is filled; rooms are bounded. No program in sight. No conditions. -/
namespace Go.Flow
end Go.Flow
/- The reference: the list of residual arcs, the first shortest path. -/
namespace Go.Proofs.YtjehnjhkcmobcaaGreat
open Go.Eng Go.Flow
set_option maxRecDepth 100000
set_option maxHeartbeats 4000000

end Go.Proofs.YtjehnjhkcmobcaaGreat
/- The reference: the first shortest path. -/
namespace Go.Proofs.YtjehnjhkcmobcaaGreat
open Go.Eng Go.Flow
set_option maxRecDepth 100000
set_option maxHeartbeats 4000000

end Go.Proofs.YtjehnjhkcmobcaaGreat
/- The reference: Max, Cut. -/
namespace Go.Proofs.YtjehnjhkcmobcaaGreat
open Go.Eng Go.Flow
set_option maxRecDepth 100000
set_option maxHeartbeats 4000000

end Go.Proofs.YtjehnjhkcmobcaaGreat
/- Results that lie in memory: a struct and two or three numbers. -/
namespace Go.Eng
variable {L:Env} {R H:List PH}
theorem resSEEE {fn:Func} {N:Bs} {M:Nat} {P:Program} {t u u' u'' b1:Nat} {T:TypeId} {v1:List Value} {v2 v3 v4:Value} (hr:fn.results = #[.cell t T,.tmp u,.tmp u',.tmp u'']) (ht:look L t = some (.pointer (some ⟨b1,0,none⟩))) (hu:look L u = some v2) (hu':look L u' = some v3) (hu'':look L u'' = some v4) (a1:aggP P T = some true)
    (n1:szP P T = some v1.length) (c1:Cells N R H b1 0 v1):∀ a w,Frm M L a → Sat N R H w → (results fn a.tmps).run P w = .ok (.tuple #[.agg v1.toArray,v2,v3,v4]) w:=by
  intro a w hf hs
  have e1:a.tmps[t]?.getD undef = .pointer (some ⟨b1,0,none⟩):=by simpa using hf.get t _ ht
  have e2:a.tmps[u]?.getD undef = v2:=by simpa using hf.get u _ hu
  have e3:a.tmps[u']?.getD undef = v3:=by simpa using hf.get u' _ hu'
  have e4:a.tmps[u'']?.getD undef = v4:=by simpa using hf.get u'' _ hu''
  have l1:=run_loadCells_list (P:=P) (w:=w) ⟨b1,0,none⟩ v1 (fun j v hv=>by rw [Addr.add_lit]; exact c1 w hs j v hv)
  simp [results,hr,e1,e2,e3,e4,loadVar,run_isAgg a1,run_sizeOf n1,l1,asAddr]
end Go.Eng
/- How much can be brought. -/
namespace Go.Proofs.YtjehnjhkcmobcaaGreat
open Go.Eng Go.Step
set_option maxRecDepth 100000
set_option maxHeartbeats 4000000

set_option maxHeartbeats 32000000 in
theorem plMax_spec {ρ τ σ υ:PH} {pq pc pb ph:Option Addr} {kq kc kb kh:Nat} {qs:List Int} {cs:List Ct} {bs:List Bk} {hs:List Hd} (hT:TbAt ρ τ σ υ pq pc pb ph kq kc kb kh qs cs bs hs) (d:Dm) :
  Eng.Spec Tryz.prog (fv 28) [.agg #[.slice pq qs.length kq,.slice pc cs.length kc,.slice pb bs.length kb,.slice ph hs.length kh],.agg #[int d.s,int d.d,int d.v,int d.r,int d.e]] [ρ,τ,σ,υ] [] (fun r H'=>(validT qs cs bs hs d = true ∧ ∃ (pg:Option Addr) (kg:Nat) (pf:Option Addr) (kf:Nat) (F:List Int) (m:Int) (σg σf:PH),ArcsAt σg (.slice pg (arcsG qs cs bs hs d).length kg) (arcsG qs cs bs hs d) ∧ IntsAt σf (.slice pf F.length kf) F ∧ MaxN qs cs bs hs d F m 0 ∧ H' = [σg,σf] ∧ r = .tuple #[.agg #[int (vsN qs d),.slice pg (arcsG qs cs bs hs d).length kg,int (vtx d d.s d.r),int (vtx d d.d d.e)],.slice pf F.length kf,int m,int 0]) ∨ (validT qs cs bs hs d = false ∧ H' = [] ∧ r = .tuple #[.agg #[int 0,.slice none 0 0,int 0,int 0],.slice none 0 0,int 0,int 1])):=by
 refine spec_in (cap:=[]) Tryz.func28 rfl rfl Tryz.ntmps28 rfl envZ (fun N β=>?_)
 refine Aa ?_;refine BJ (BO rfl) rfl rfl rfl ?_;rintro _ _ ⟨b1,rfl,rfl⟩;refine AS (ρ:=sng b1 _) takeZ ?_
 have ct:=rdB b1 29 [.slice pq qs.length kq,.slice pc cs.length kc,.slice pb bs.length kb,.slice ph hs.length kh]
 have ct0:=rdC ct 0
 have ct1:=rdC ct 1
 have ct2:=rdC ct 2
 have ct3:=rdC ct 3
 have ctp:RdP (sng b1 (.cells #[.slice pq qs.length kq,.slice pc cs.length kc,.slice pb bs.length kb,.slice ph hs.length kh] 29 (0,0))) b1 0 [.slice pq qs.length kq,.slice pc cs.length kc]:=rdP_sng (xs:=[.slice pq qs.length kq,.slice pc cs.length kc,.slice pb bs.length kb,.slice ph hs.length kh]) rfl
 refine BJ (BO rfl) rfl rfl rfl ?_;rintro _ _ ⟨b2,rfl,rfl⟩;refine AS (ρ:=sng b2 _) takeZ ?_
 have cd:=rdB b2 31 [int d.s,int d.d,int d.v,int d.r,int d.e]
 have cd0:=rdC cd 0
 have cd1:=rdC cd 1
 have cd2:=rdC cd 2
 have cd3:=rdC cd 3
 have cd4:=rdC cd 4
 refine AX ?_; rintro _ _ ⟨b,rfl,rfl⟩;refine Ace ?_;refine Ab9 ?_
 revert b; intro b4
 refine CB (Graph_spec hT d) rfl rfl rdZ rfl rfl ?_;rintro _ σg hg
 cases hv:validT qs cs bs hs d with
 | false =>
  rw [hv,if_neg (by simp)] at hg
  obtain ⟨rfl,rfl⟩:=hg
  refine Aa8 ?_;refine AX ?_; rintro _ _ ⟨b,rfl,rfl⟩;refine AU ?_; rintro _ _ ⟨rfl,rfl⟩;refine Acz ?_;refine Acd ?_;refine Aa ?_;refine BQ ?_;refine AU ?_; rintro _ _ ⟨rfl,rfl⟩;refine Ace ?_;exact AI (resSEEE (b1:=b4) (T:=75) (v1:=[int 0,.slice none 0 0,int 0,int 0]) rfl rfl rfl rfl rfl rfl rfl (cells_own memZ)) rsubZ selZ (.inr ⟨rfl,rfl,rfl⟩)
 | true =>
 rw [hv,if_pos rfl] at hg
 obtain ⟨ug,rfl,hOg⟩:=hg
 have hAt:ArcsAt σg ug (arcsG qs cs bs hs d):=hOg.at
 obtain ⟨pg,kg,rfl⟩:=hOg.form
 have h:=vok hv
 have hEl:=ea_len qs cs bs hs d h
 have hAl:(arcsG qs cs bs hs d).length = (arcsE qs cs bs hs d).length:=by unfold arcsG; rw [List.length_map]
 have hM:=flowMax_spec σg (.slice pg (arcsG qs cs bs hs d).length kg) (vsN qs d) (vtx d d.s d.r) (vtx d d.d d.e) (arcsG qs cs bs hs d) hAt (by omega)
 refine Aa8 ?_;refine AX ?_; rintro _ _ ⟨b,rfl,rfl⟩;refine AU ?_; rintro _ _ ⟨rfl,rfl⟩;refine Acz ?_;refine Abb ?_;refine Ac ?_;refine Aem ?_;refine CB hM rfl rfl rdZ rfl rfl ?_;rintro _ σf ⟨fs,F,m,e,rfl,hF,hm⟩
 obtain ⟨he,_⟩:=max_cut h (show MaxN qs cs bs hs d F m e from hm)
 subst he
 obtain ⟨pf,kf,rfl,_⟩:=hF.val Eng.encI_len
 refine Aa8 ?_;refine AO ?_;refine Ace ?_;refine Aaj ?_;refine Abb ?_;refine Abm ?_;refine Aa1 ?_;refine AU ?_; rintro _ _ ⟨rfl,rfl⟩;refine Ace ?_;exact AI (resSEEE (b1:=b4) (T:=75) (v1:=[int (vsN qs d),.slice pg (arcsG qs cs bs hs d).length kg,int (vtx d d.s d.r),int (vtx d d.d d.e)]) rfl rfl rfl rfl rfl rfl rfl (cells_own memZ)) rsubZ selZ (.inl ⟨rfl,pg,kg,pf,kf,F,m,σg,σf,hAt,hF,hm,rfl,rfl⟩)
set_option maxHeartbeats 16000000 in
theorem Most_spec {ρ τ σ υ:PH} {pq pc pb ph:Option Addr} {kq kc kb kh:Nat} {qs:List Int} {cs:List Ct} {bs:List Bk} {hs:List Hd} (hT:TbAt ρ τ σ υ pq pc pb ph kq kc kb kh qs cs bs hs) (d:Dm) :
  Ans Tryz.prog (fv 8) [.agg #[.slice pq qs.length kq,.slice pc cs.length kc,.slice pb bs.length kb,.slice ph hs.length kh],.agg #[int d.s,int d.d,int d.v,int d.r,int d.e]] [ρ,τ,σ,υ] (fun r=>(validT qs cs bs hs d = true ∧ ∃ (F:List Int) (m:Int),MaxN qs cs bs hs d F m 0 ∧ r = .tuple #[int m,int 0]) ∨ (validT qs cs bs hs d = false ∧ r = .tuple #[int 0,int 1])):=by
 refine spec_in (cap:=[]) Tryz.func8 rfl rfl Tryz.ntmps8 rfl envZ (fun N β=>?_)
 refine Aa ?_;refine BJ (BO rfl) rfl rfl rfl ?_;rintro _ _ ⟨b1,rfl,rfl⟩;refine AS (ρ:=sng b1 _) takeZ ?_
 have ct:=rdB b1 29 [.slice pq qs.length kq,.slice pc cs.length kc,.slice pb bs.length kb,.slice ph hs.length kh]
 have ct0:=rdC ct 0
 have ct1:=rdC ct 1
 have ct2:=rdC ct 2
 have ct3:=rdC ct 3
 have ctp:RdP (sng b1 (.cells #[.slice pq qs.length kq,.slice pc cs.length kc,.slice pb bs.length kb,.slice ph hs.length kh] 29 (0,0))) b1 0 [.slice pq qs.length kq,.slice pc cs.length kc]:=rdP_sng (xs:=[.slice pq qs.length kq,.slice pc cs.length kc,.slice pb bs.length kb,.slice ph hs.length kh]) rfl
 refine BJ (BO rfl) rfl rfl rfl ?_;rintro _ _ ⟨b2,rfl,rfl⟩;refine AS (ρ:=sng b2 _) takeZ ?_
 have cd:=rdB b2 31 [int d.s,int d.d,int d.v,int d.r,int d.e]
 have cd0:=rdC cd 0
 have cd1:=rdC cd 1
 have cd2:=rdC cd 2
 have cd3:=rdC cd 3
 have cd4:=rdC cd 4
 refine Aan ?_;refine Ab9 ?_;refine BB (plMax_spec hT d) rfl rfl Takes.nil rdZ rfl rfl ?_;rintro _ H' (⟨hv,pg,kg,pf,kf,F,m,σg,σf,hAt,hF,hm,rfl,rfl⟩ | ⟨hv,rfl,rfl⟩)
 ·refine AB ?_
  refine Aa5 ?_;refine Aa5 ?_;refine AX ?_; rintro _ _ ⟨b,rfl,rfl⟩;refine AU ?_; rintro _ _ ⟨rfl,rfl⟩;refine Ace ?_;refine Abq ?_;refine Aan ?_;exact AI (res2 rfl rfl rfl) rsubZ selZ ⟨rfl,.inl ⟨hv,F,m,hm,rfl⟩⟩
 ·refine AB ?_
  refine Aa5 ?_;refine Aa5 ?_;refine AX ?_; rintro _ _ ⟨b,rfl,rfl⟩;refine AU ?_; rintro _ _ ⟨rfl,rfl⟩;refine Ace ?_;refine Abq ?_;refine Aan ?_;exact AI (res2 rfl rfl rfl) rsubZ selZ ⟨rfl,.inr ⟨hv,rfl⟩⟩
end Go.Proofs.YtjehnjhkcmobcaaGreat
/- Paths of the program. -/
namespace Go.Proofs.YtjehnjhkcmobcaaGreat
open Go.Eng Go.Flow
set_option maxRecDepth 100000
set_option maxHeartbeats 4000000

theorem ints_one (l:List Int):∀ u ∈ l.flatMap Eng.encI,u.oneCell' = true:=by
 intro u hu
 rw [List.mem_flatMap] at hu
 obtain ⟨a,_,hu⟩:=hu
 simp only [Eng.encI,List.mem_cons,List.not_mem_nil,or_false] at hu;subst hu; rfl
theorem cloneInt_spec (ρ:PH) (v:Value) (l:List Int) (hv:IntsAt ρ v l) (hl:l.length ≤ 1000000) :
  Makes Tryz.prog (fv 72) [v] [ρ] (fun r σ=>OwnS 3 1 r l.length (l.flatMap Eng.encI) σ):=by
 have hv2:=hv
 obtain ⟨q,c,rfl,hr⟩:=hv.val Eng.encI_len
 refine spec_in (cap:=[]) Tryz.func72 rfl rfl Tryz.ntmps72 rfl envZ (fun N β=>?_)
 cases q with
 | none =>
  have hnil:l = []:=by
   cases l with
   | nil=>rfl
   | cons a l =>
    obtain ⟨b,o,e,_⟩:=hr 0 a rfl
    simp at e
  subst hnil;refine B4 ?_;refine Ad3 ?_
  focus ((refine' CI _ rfl rfl rfl _; rotate_left; (apply GT; exact rfl; exact rfl; exact rfl)))
  refine Aa4 ?_;exact AI (res1 rfl rfl) rsubZ selZ ⟨emp,OwnS.nil _ _,rfl⟩
 | some ad =>
  refine Ad3 ?_
  focus ((refine' CI _ rfl rfl rfl _; rotate_left; (apply GU; exact rfl; exact rfl; exact rfl)))
  refine Aai ?_;refine Aa ?_;refine BD ?_; rintro _ _ ⟨b,rfl,rfl⟩;refine AB ?_
  rcases Nat.eq_zero_or_pos l.length with h0 | h0
  ·have hnil:l = []:=List.eq_nil_of_length_eq_zero h0
   subst hnil
   focus ((refine' CI _ rfl rfl rfl _; rotate_left; (apply FR; exact rfl; exact rfl; exact rfl; exact rfl; omega)))
   refine Aab ?_;exact AI (res1 rfl rfl) rsubZ selZ ⟨_,OwnS.empty,rfl⟩
  ·obtain ⟨b2,o2,c2,e,hcell⟩:=SlAt.some hv2 h0
   simp only [Value.slice.injEq,Option.some.injEq,true_and] at e
   obtain ⟨rfl,rfl⟩:=e
   refine BJ (B8 (by_:=8) (s:=1) (news:=l.flatMap Eng.encI) rfl rfl rfl rfl rfl rfl rfl (OwnS.empty (b:=b)) takeZ (cellsR (ρ:=ρ) hcell memZ) (flat_len Eng.encI_len l) (ints_one l) h0 (by simp only [maxLen]; omega) (by omega)) rfl rfl rfl ?_
   rintro r1 _ ⟨σ,hO,rfl⟩;refine Aab ?_;refine AI (res1 rfl rfl) rsubZ selZ ⟨σ,?_,rfl⟩
   simpa using hO
theorem OwnS.num {e:TypeId} {b n cap:Nat} {l:List Int} {ρ:PH} (h:OwnS e 1 (.slice (some ⟨b,0,none⟩) n cap) l.length (l.flatMap Eng.encI) ρ) {i:Nat} (hi:i < l.length):rdc ρ b i = some (int (l.getD i 0)):=by
 have hS:SlE Eng.encI 1 ρ (.slice (some ⟨b,0,none⟩) n cap) l:=h.at
 obtain ⟨p,c,e1,hr⟩:=hS.val Eng.encI_len
 simp only [Value.slice.injEq] at e1
 obtain ⟨b',o',e2,h2⟩:=hr.int (List.getElem?_eq_getElem hi)
 rw [← e1.1] at e2;simp only [Option.some.injEq,Addr.mk.injEq,and_true] at e2
 obtain ⟨rfl,rfl⟩:=e2
 rw [Nat.zero_add] at h2;rw [h2]
 simp [List.getD_eq_getElem?_getD,hi]
theorem OwnS.some_of {e:TypeId} {s:Nat} {v:Value} {l:List Int} {ρ:PH} (h:OwnS e s v l.length (l.flatMap Eng.encI) ρ) (h0:0 < l.length):∃ b cap,v = .slice (some ⟨b,0,none⟩) l.length cap:=by
 rcases h.block with ⟨_,h2,_⟩ | ⟨b,cap,cur,h2,_⟩
 ·rw [h2] at h0; simp at h0
 ·exact ⟨b,cap,h2⟩
abbrev roomP (b:Nat):Value:=.func (.func 74) #[] #[.pointer (some ⟨b,0,none⟩)]
theorem paths1_spec (ρ:PH) (b k:Nat) (T e:TypeId) (rv:Value) (rest:List Int) (hO:OwnS e 1 rv rest.length (rest.flatMap Eng.encI) ρ) (hk:k < rest.length) :
  Ans Tryz.prog (roomP b) [int k] [sng b (.cells #[rv] T (0,0)),ρ] (fun r=>r = int (rmP rest k)):=by
 obtain ⟨br,cap,rfl⟩:=OwnS.some_of hO (by omega)
 have c1:rdc (sng b (.cells #[.slice (some ⟨br,0,none⟩) rest.length cap] T (0,0))) b 0 = some (.slice (some ⟨br,0,none⟩) rest.length cap):=by rw [rdc_sng]; rfl
 have c2:=OwnS.num hO hk
 refine spec_in (cap:=[.pointer (some ⟨b,0,none⟩)]) Tryz.func74 rfl rfl Tryz.ntmps74 rfl envZ (fun N β=>?_)
 refine Aak ?_;refine Ac7 ?_;refine Ad6 ?_;refine Aab ?_;exact AI (res1 rfl rfl) rsubZ selZ ⟨rfl,rfl⟩

def encPV (x:Value × Int):List Value:=[x.1,int x.2]
theorem encPV_len (x:Value × Int):(encPV x).length = 2:=rfl
def ArcsIn (σ:PH) (es:List (Value × Int)) (ps:List (List Lk × Int)):Prop:=
 es.length = ps.length ∧ ∀ (i:Nat) (e:Value × Int) (p:List Lk × Int),es[i]? = some e → ps[i]? = some p → e.2 = p.2 ∧ IntsAt σ e.1 (ksOf p.1)
theorem ArcsIn.nil (σ:PH):ArcsIn σ [] []:=⟨rfl,by intro i e p h; simp at h⟩
theorem ArcsIn.sub {σ τ:PH} {es:List (Value × Int)} {ps:List (List Lk × Int)} (h:ArcsIn σ es ps) (hs:PH.sub σ τ):ArcsIn τ es ps:=⟨h.1,fun i e p h1 h2=>⟨(h.2 i e p h1 h2).1,hs.slE (h.2 i e p h1 h2).2⟩⟩
theorem ArcsIn.snoc {σ:PH} {es:List (Value × Int)} {ps:List (List Lk × Int)} {e:Value × Int} {p:List Lk × Int} (h:ArcsIn σ es ps) (h1:e.2 = p.2) (h2:IntsAt σ e.1 (ksOf p.1)):ArcsIn σ (es ++ [e]) (ps ++ [p]):=by
 refine ⟨by simp [h.1],fun i e' p' k1 k2=>?_⟩
 by_cases hi:i < es.length
 ·rw [List.getElem?_append_left hi] at k1
  rw [List.getElem?_append_left (by rw [← h.1]; exact hi)] at k2
  exact h.2 i e' p' k1 k2
 ·rw [List.getElem?_append_right (by omega)] at k1
  rw [List.getElem?_append_right (by rw [← h.1]; omega)] at k2
  have hz:i - es.length = 0:=by
   have:=(List.getElem?_eq_some_iff.1 k1).1
   simp at this; omega
  rw [hz] at k1;rw [← h.1,hz] at k2
  simp at k1 k2
  subst k1; subst k2;exact ⟨h1,h2⟩
def PathsAt (σ:PH) (u:Value) (ps:List (List Lk × Int)):Prop:=∃ es,SlE encPV 2 σ u es ∧ ArcsIn σ es ps

set_option maxHeartbeats 8000000 in
theorem flowPaths_spec (ρ σ:PH) (v u:Value) (n s t:Int) (l:List Arc) (fl:List Int) (hv:ArcsAt ρ v l) (hu:IntsAt σ u fl) (hl:l.length ≤ 1000000) :
  Makes Tryz.prog (fv 31) [int n,v,u,int s,int t] [ρ,σ] (fun r τ=>∃ w ps e,r = .tuple #[w,int e] ∧ PathsAt τ w ps ∧ PathsOK n l fl s t ps e):=by
 have hnil:PathsAt emp (.slice none 0 0) []:=⟨[],⟨rfl,.inl ⟨rfl,none,0,rfl⟩⟩,ArcsIn.nil _⟩
 have hv2:=hv
 obtain ⟨q,c,rfl,hr⟩:=hv.val encA_len
 refine spec_in (cap:=[]) Tryz.func31 rfl rfl Tryz.ntmps31 rfl envZ (fun N β=>?_)
 refine Acj ?_;refine Aaj ?_;refine Aa1 ?_;refine Aa1 ?_;refine A4 (flowValue_spec ρ σ _ u n s t l fl hv2 hu hl) rfl rfl rdZ rfl rfl ?_;rintro _ rfl
 by_cases h0:(valueSpec n l fl s t).2 = 0
 rotate_left
 ·refine AB ?_
  refine Aa5 ?_;refine Aan ?_;refine Aad ?_;refine Acd ?_;refine Ad4 ?_;refine B4 ?_;exact AI (res2 rfl rfl rfl) rsubZ selZ ⟨emp,⟨_,[],_,rfl,hnil,.inl ⟨h0,rfl,rfl⟩⟩,rfl⟩
 obtain ⟨n',s',t',g,hF0,_⟩:=value_good h0
 obtain ⟨rfl,rfl,rfl⟩:=And.intro g.en (And.intro g.es g.et)
 have hn2:=g.n2
 have hl2:=g.l2
 have hpl:=pl_lt g.ok
 have hcap:∀ a ∈ l,0 ≤ a.c ∧ a.c ≤ 1099511627776:=fun a ha=>by have:=okArc_iff.1 (g.ok a ha); omega
 have hpk:∀ x ∈ plinks l,x.f < n' ∧ x.t < n' ∧ x.k ≤ 40000:=fun x hx=>by have:=hpl x hx; have:=pl_k hx; omega
 have hGok:GOk n' (outsOf (plinks l)) (insOf (plinks l)):=GOk_of hn2 (by rw [plinks_len]; omega) hpk
 refine Ac1 ?_;refine Abb ?_;refine Aad ?_
 refine CB (cloneInt_spec σ u fl hu (by rw [← hF0.len]; omega)) rfl rfl rdZ rfl rfl ?_
 rintro rv ρr hO
 have hrv1:rv.oneCell' = true:=OwnS.one hO
 refine BJ (E9 rfl rfl) rfl rfl rfl ?_;rintro _ _ ⟨bb,rfl,rfl⟩;refine B7 (EF rfl rfl hrv1 rfl takeZ SetL.here) rfl rfl ?_;rintro _ _ ⟨rfl,rfl⟩;refine AE ?_;refine Aad ?_;refine B9 ?_;refine BB (newGraph_spec n' 74 [.pointer (some ⟨bb,0,none⟩)] hn2) rfl rfl takesZ rdZ rfl rfl ?_;rintro _ _ ⟨gb,ob,ib,rfl,rfl⟩;simp only [List.cons_append,List.nil_append]
 have hG0:=GBl_new gb ob ib n' (roomP bb)
 refine EQ (n' + n') ?_;simp only [List.cons_append,List.nil_append];refine Aea ?_
 refine BA [0,1,3,4,14,15,41,42] (X:=Nat × List PH) (0,_) (fun x=>x.1 ≤ l.length ∧ GBl gb ob ib n' (roomP bb) (plinks (l.take x.1)) x.2) (fun x=>[(43,int x.1)])
  (fun x=>sng bb (.cells #[rv] 22 (0,0)) :: ρr :: x.2) (fun x=>l.length - x.1) pickZ ⟨by simp,hG0⟩ covZ ?_ ?_
 ·refine Sel.cons takeZ (Sel.cons takeZ (Sel.cons takeZ (Sel.cons takeZ (Sel.cons takeZ ?_))))
  rw [List.replicate_append_replicate];exact Sel.refl
 rintro ⟨k,Hg⟩ ⟨hk,hG⟩
 dsimp only at hk hG ⊢
 by_cases hlt:k < l.length
 ·have hx:=List.getElem?_eq_getElem hlt
  obtain ⟨b',o,rfl,hA,h0',h1',h2'⟩:=arcRow hr hx
  obtain ⟨g1,g2,g3,g4,g5,g6,g7⟩:=okArc_iff.1 (g.ok l[k] (List.getElem_mem hlt))
  obtain ⟨f,hf⟩:=Int.eq_ofNat_of_zero_le g1
  obtain ⟨t2,ht2⟩:=Int.eq_ofNat_of_zero_le g3
  have hlr:=plinks_len (l.take k)
  have hlk:(l.take k).length = k:=by simp; omega
  have hsn:=plinks_snoc (l.take k) l[k]
  rw [← take_snoc' hlt,hlk,hf,ht2] at hsn;simp only [Int.toNat_natCast] at hsn;rw [hf,ht2] at hA
  have a1:=add_bl hG k f t2 (by omega) (by omega) (by omega)
  refine Ad0 ?_;refine AX ?_; rintro _ _ ⟨b,rfl,rfl⟩;refine AD ?_;refine AU ?_; rintro _ _ ⟨rfl,rfl⟩;refine Adi ?_;refine AB ?_;refine Aa7 ?_;refine BB a1 rfl rfl (Takes.skips [_,_,_] Takes.all) rdZ rfl rfl ?_;rintro _ H1 ⟨rfl,hG1⟩
  refine CS (H':=sng b (.cells #[int (f:Int),int (t2:Int),int l[k].c] 157 (0,0)) :: sng bb (.cells #[rv] 22 (0,0)) :: ρr :: H1) (by simpa using List.perm_append_comm (l₁:=H1) (l₂:=[_,_,_])) ?_
  refine Adn ?_
  refine AY (k + 1,H1) ⟨by dsimp only; omega,?_⟩ (by dsimp only; omega) covZ (Sel.cons takeZ (Sel.cons takeZ (Sel.skip Sel.refl)))
  dsimp only
  rw [hsn];exact hG1
 rw [List.take_of_length_le (by omega)] at hG
 refine CS (H':=Hg ++ [sng bb (.cells #[rv] 22 (0,0)),ρr]) (by simpa using List.perm_append_comm (l₂:=Hg) (l₁:=[_,_])) ?_
 refine DR (fun γ hγ=>?_)
 have hGA:=hG.at hγ
 refine AS (ρ:=γ) takeZ ?_;refine B4 ?_;refine B4 ?_;refine Aew ?_;refine AP ?_
 refine BA [0,1,3,4,14,15] (X:=(List Int × List (List Lk × Int)) × ((Value × List (Value × Int)) × ((PH × PH) × PH))) ((fl,[]),((.slice none 0 0,[]),((emp,emp),ρr)))
  (fun x=>Flw n' l s' t' x.1.1 ∧ (∀ ps r,RunP n' l s' t' x.1.1 ps r → RunP n' l s' t' fl (x.1.2 ++ ps) r) ∧ OwnS 3 1 rv x.1.1.length (x.1.1.flatMap Eng.encI) x.2.2.2 ∧ OwnS 163 2 x.2.1.1 x.2.1.2.length (x.2.1.2.flatMap encPV) x.2.2.1.1 ∧ ArcsIn x.2.2.1.2 x.2.1.2 x.1.2 ∧ x.1.2.length + npos x.1.1 ≤ l.length)
  (fun x=>[(18,x.2.1.1)]) (fun x=>[sng bb (.cells #[rv] 22 (0,0)),x.2.2.2,x.2.2.1.1,x.2.2.1.2]) (fun x=>(fval s' l x.1.1 + 1099511627776 * (2 * (l.length:Int))).toNat)
  pickZ ⟨hF0,fun _ _ h=>h,hO,OwnS.nil _ _,ArcsIn.nil _,by have:=npos_len fl; have:=hF0.len; dsimp only [List.length_nil]; omega⟩ covZ selZ ?_
 rintro ⟨⟨rest,ps⟩,⟨⟨ov,es⟩,⟨⟨ρo,ρa⟩,ρ1⟩⟩⟩ ⟨hF,hrun,hO1,hOo,hAr,hcnt⟩
 dsimp only at hF hrun hO1 hOo hAr hcnt ⊢
 have hb0:=fval_bd s' l fl (inCap_small l _ hF0.len hF0.cap g.ok)
 have hb1:=fval_bd s' l rest (inCap_small l _ hF.len hF.cap g.ok)
 rw [← hF0.len] at hb0;rw [← hF.len] at hb1
 have hrm:∀ v x,v < n' → x ∈ insOf (plinks l) v → Ans Tryz.prog (roomP bb) [int x.k] [sng bb (.cells #[rv] 22 (0,0)),ρ1] (fun r=>r = int (rmP rest x.k)):=fun v x _ hx=>by
  have hm:x ∈ plinks l:=by unfold insOf at hx; exact (List.mem_filter.1 hx).1
  exact paths1_spec ρ1 bb x.k _ _ rv rest hO1 (by rw [← hF.len]; exact pl_k hm)
 refine AP ?_;refine Aad ?_;refine Aa1 ?_;refine CB (path_spec γ gb n' s' t' (outsOf (plinks l)) (insOf (plinks l)) (roomP bb) (rmP rest) _ hGA hGok g.sn g.tn hrm) rfl rfl rdZ rfl rfl ?_;rintro _ ρp ⟨D,pv,hD,rfl,hP⟩;rw [opens_opn hpl] at hD;rw [nxO_nxt] at hP
 by_cases hd0:0 ≤ D.getD s' 0
 rotate_left
 ·rw [decide_eq_false hd0]
  refine Ab8 ?_;refine Adm ?_;refine Ad4 ?_
  refine D0 (ρ:=ρo) takeZ (σ:=ρa) takeZ (fun δ k1 k2=>?_)
  refine AI (res2 rfl rfl rfl) rsubZ selZ ⟨δ,⟨ov,ps,0,rfl,⟨es,k1.slE hOo.at,hAr.sub k2⟩,.inr ⟨h0,rfl,rest,?_⟩⟩,rfl⟩
  have:=hrun [] rest (.done hD (by omega))
  simpa using this
 rw [decide_eq_true hd0]
 obtain ⟨hN1,hN2,hN3⟩:=pNext_ok g.ok g.sn g.ne hF hD hd0
 obtain ⟨k0,hk0⟩:=Int.eq_ofNat_of_zero_le hd0
 have hDn:=hD.lt (fun x hx=>hpl x hx.1) g.tn g.sn
 have hPl:(pP l rest D s').length = k0:=path_len hpl hD k0 s' g.sn hk0
 have hPm:∀ x ∈ pP l rest D s',x ∈ plinks l:=fun x hx=>((path_chn hpl hD k0 s' g.sn hk0).all x hx).1.1
 have hroom:pRoom l rest D s' ≤ 1099511627776:=(leastR_le _ _ _).1
 have hIn:IntsAt ρp pv (ksOf (pP l rest D s')):=ownInts (e:=3) (by rw [show (ksOf (pP l rest D s')).length = (pP l rest D s').length from by simp [ksOf]]; exact hP)
 have hlst:=least_spec γ ρp gb (roomP bb) pv (rmP rest) _ (pP l rest D s') hGA.r hIn (by omega) (fun x hx=>hrm x.t x (hpl x (hPm x hx)).2 (by unfold insOf; rw [List.mem_filter]; exact ⟨hPm x hx,by simp⟩))
 have hpv1:pv.oneCell' = true:=SlE.one hIn
 have hroom2:leastR (rmP rest) (pP l rest D s') ≤ 1099511627776:=hroom
 have hroom3:0 < leastR (rmP rest) (pP l rest D s'):=hN2
 obtain ⟨q2,c2,rfl,hr2⟩:=hIn.val Eng.encI_len
 have hkl:(ksOf (pP l rest D s')).length = (pP l rest D s').length:=by simp [ksOf]
 have hmu:=fval_bd s' l (pNext l rest D s') (inCap_small l _ hN1.len hN1.cap g.ok)
 rw [← hN1.len] at hmu;refine Ab8 ?_;refine Acb ?_;refine Abq ?_;refine A4 hlst rfl rfl rdZ rfl rfl ?_;rintro _ rfl;refine Aea ?_
 refine BA [0,1,3,4,14,15,18,19,21,69,70] (X:=Nat × PH) (0,ρ1) (fun x=>x.1 ≤ (pP l rest D s').length ∧ OwnS 3 1 rv (subAll (pRoom l rest D s') rest ((pP l rest D s').take x.1)).length ((subAll (pRoom l rest D s') rest ((pP l rest D s').take x.1)).flatMap Eng.encI) x.2) (fun x=>[(71,int x.1)])
  (fun x=>[sng bb (.cells #[rv] 22 (0,0)),x.2,ρo,ρa,ρp])
  (fun x=>(pP l rest D s').length - x.1) pickZ ⟨by dsimp only; omega,by simpa [subAll] using hO1⟩ covZ selZ ?_
 rintro ⟨i,ρ2⟩ ⟨hi,hO2⟩
 dsimp only at hi hO2 ⊢
 have hal:(subAll (pRoom l rest D s') rest ((pP l rest D s').take i)).length = l.length:=by rw [subAll_len]; exact hF.len.symm
 by_cases hlt2:i < (pP l rest D s').length
 ·have hx:(ksOf (pP l rest D s'))[i]? = some ((pP l rest D s')[i].k:Int):=by simp [ksOf,hlt2]
  obtain ⟨b,o,rfl,g0⟩:=hr2.int hx
  have hxm:=hPm _ (List.getElem_mem hlt2)
  have hxk:=pl_k hxm
  obtain ⟨br,cap,rfl⟩:=OwnS.some_of hO2 (by omega)
  have hnum:=OwnS.num hO2 (i:=(pP l rest D s')[i].k) (by omega)
  have hic:=inCap_get l _ (pTake_cap g.ok g.sn hF hD hd0 i) (pP l rest D s')[i].k (l[(pP l rest D s')[i].k]'(by omega)) ((subAll (pRoom l rest D s') rest ((pP l rest D s').take i)).getD (pP l rest D s')[i].k 0) (List.getElem?_eq_getElem (by omega)) (by rw [List.getD_eq_getElem?_getD,List.getElem?_eq_getElem (by omega)]; rfl)
  have hcc:=hcap _ (List.getElem_mem (show (pP l rest D s')[i].k < l.length by omega))
  have hsn:=subAll_snoc (pRoom l rest D s') rest ((pP l rest D s').take i) (pP l rest D s')[i]
  rw [← take_snoc' hlt2] at hsn;unfold subP at hsn;refine Ac0 ?_;refine Aab ?_;refine AA ?_;refine Acf ?_;refine B6 ?_;refine Acf ?_;refine CN ?_;refine B6 ?_
  refine B7 (EG Eng.encI_len (a:=(subAll (pRoom l rest D s') rest ((pP l rest D s').take i)).getD (pP l rest D s')[i].k 0) (pP l rest D s')[i].k 0 ((subAll (pRoom l rest D s') rest ((pP l rest D s').take i)).getD (pP l rest D s')[i].k 0 - pRoom l rest D s') hO2 rfl (by omega) (by omega) (by rw [List.getD_eq_getElem?_getD,List.getElem?_eq_getElem (by omega)]; rfl) rfl rfl rfl rfl takeZ) rfl rfl ?_
  rintro _ _ ⟨rfl,ρ3,hO3,rfl⟩;refine Adn ?_
  refine AY (i + 1,ρ3) ⟨by dsimp only; omega,?_⟩ (by dsimp only; omega) covZ selZ
  dsimp only
  rw [hsn];rw [List.length_set] at hO3 ⊢;exact hO3
 ·rw [List.take_of_length_le (by omega)] at hO2
  have hesl:=hAr.1
  have hnp:=pNext_pos g.ok g.sn g.ne hF hD hd0
  refine Abn ?_;refine Acq ?_;refine AB ?_;refine BQ ?_;refine BD ?_; rintro _ _ ⟨b,rfl,rfl⟩
  refine BJ (B8 (by_:=32) (s:=2) (news:=[.slice q2 (ksOf (pP l rest D s')).length c2,int (pRoom l rest D s')]) rfl rfl rfl rfl rfl rfl rfl hOo takeZ (cells_own memZ) rfl (by (repeat (first | exact (fun v hv=>absurd hv List.not_mem_nil) | (refine List.forall_mem_cons.2 ⟨?_,?_⟩; (focus (first | exact rfl | assumption))))); first | done | fail) (by omega) (by simp only [maxLen]; omega) (by omega)) rfl rfl rfl ?_
  rintro q9 _ ⟨ρ4,hQ4,rfl⟩;refine Aab ?_;refine A2 ?_
  refine D0 (ρ:=ρa) takeZ (σ:=ρp) takeZ (fun δ k1 k2=>?_)
  refine AY ((pNext l rest D s',ps ++ [(pP l rest D s',pRoom l rest D s')]),((q9,es ++ [(.slice q2 (ksOf (pP l rest D s')).length c2,pRoom l rest D s')]),((ρ4,δ),ρ2))) ⟨hN1,?_,hO2,?_,(hAr.sub k1).snoc rfl (k2.slE hIn),?_⟩ (by dsimp only; omega) covZ selZ
  ·intro ps2 r hR
   have:=hrun _ r (.step hD hd0 hR)
   dsimp only
   rw [List.append_assoc];exact this
  ·dsimp only
   rw [List.length_append,List.flatMap_append];exact hQ4
  ·dsimp only
   rw [List.length_append,List.length_singleton];omega
end Go.Proofs.YtjehnjhkcmobcaaGreat
/- The reference's list of arcs with what is left on each. No program in sight. No conditions. -/
namespace Go.Flow
end Go.Flow
/- Paths of the reference; paths compared. -/
namespace Go.Proofs.YtjehnjhkcmobcaaGreat
open Go.Eng Go.Flow
set_option maxRecDepth 100000
set_option maxHeartbeats 4000000

end Go.Proofs.YtjehnjhkcmobcaaGreat
/- A range over a function whose iterator keeps numbers of its own. No conditions. -/
namespace Go.Eng
variable {C : Cx} {D : List Deferred} {R H T : List PH} {L : Env} {K : List It}
def IterW (P : Program) (gv : Value) (R1 HI : List PH) (xs : List (List Value)) : Prop :=
  ∀ (y : Value) (S : Type) (Own : S → List PH) (Inv : Nat → S → Prop) (Stop : S → Prop) (Ry : List PH),
    (∀ i σ vs, xs[i]? = some vs → Inv i σ → Spec P y vs Ry (Own σ) (fun v H' => ∃ σ', H' = Own σ' ∧ ((v = .bool true ∧ Inv (i + 1) σ') ∨ (v = .bool false ∧ Stop σ')))) →
    (∃ l, y = yv l) → ∀ σ, Inv 0 σ → Spec P gv [y] (R1 ++ Ry) (Own σ ++ HI) (fun _ H' => ∃ σ', H' = Own σ' ∧ (Inv xs.length σ' ∨ Stop σ'))
theorem FY {P : Program} {Q : Exit → Act → World → Prop} {N : Bs} {M : Nat} {g : Operand} {gf : FuncId} {cap : List Value} {ps : List Nat} {assign body : Code} {X : Type} {R1 HI Hr : List PH} {xs : List (List Value)} {fn : Func} {gc : Code}
    (hg : evalE L g = some (.func (.func gf) #[] cap.toArray)) (hgf : P.funcs[gf]? = some fn) (hgb : fn.body = some gc) (hname : (fn.name == "runtime.NumGoroutine") = false)
    (hit : IterW P (.func (.func gf) #[] cap.toArray) R1 HI xs) (hR1 : ∀ ρ ∈ R1, ρ ∈ R)
    (I : Nat → X → Prop) (Hx : X → List PH) (J : Code → X → Prop) (x0 : X) (hx0 : Hx x0 = T) (hT : Takes H (T ++ HI) Hr) (h0 : I 0 x0)
    (hround : ∀ l (r : Loop) i x vs, xs[i]? = some vs → I i x → r.params = ps.toArray → r.assign = assign → r.body = body → r.state = .ready → r.pending = none → Frm M L ⟨r.tmps, []⟩ →
      Spec P (yv l) vs R (sng l (.loop r) :: Hx x) (fun v H' => ∃ x', (v = .bool true ∧ I (i + 1) x' ∧ H' = sng l (.loop r) :: Hx x') ∨ (v = .bool false ∧ ∃ c, J c x' ∧ H' = sng l (.loop { r with state := .done, pending := some c }) :: Hx x')))
    (hdone : ∀ b x, I xs.length x → JK ⟨none, P, Q, N, M⟩ (mk b :: D) R (sng b defO :: (Hx x ++ Hr)) L K)
    (hjump : ∀ b c x, J c x → JK ⟨none, P, Q, N, M⟩ (mk b :: D) R (sng b defO :: (Hx x ++ Hr)) L (.code c :: K)) :
    JK ⟨none, P, Q, N, M⟩ D R H L (.code (.rangeFunc g ps.toArray assign body) :: K) := by
  subst hx0
  refine ⟨fun a w hf hd hs => wpIn_rangeFunc (fun fnn _ => ?_)⟩
  let r : Loop := { state := .ready, pending := none, fn := fnn, tmps := a.tmps, params := ps.toArray, assign, body, defers := w.heap.size }
  let w1 : World := (w.alloc defO).alloc (.loop r)
  have hs2 := hT.sat hs
  have hs3 := (hs2.alloc defO).alloc (.loop r)
  have hl : (w.alloc defO).heap.size = w.heap.size + 1 := by simp
  rw [hl] at hs3
  refine ⟨w.heap.size + 1, [mk w.heap.size], w1, ⟨.fn (.func gf) cap.toArray, #[yv (w.heap.size + 1)]⟩, w1, gf, ([yv (w.heap.size + 1)] ++ cap).toArray, w1, ?_, ?_, fun _ _ => trivial, ?_, fun h => by simp [Fence.wide] at h, ?_⟩
  · simp [Instr.enterLoop, w1, r]
  · have hgv' : a.eval g = .func (.func gf) #[] cap.toArray := hf.on g _ hg
    have hc : a.eval (.const (yv (w.heap.size + 1))) = yv (w.heap.size + 1) := rfl
    simp [resolve, Deferred.ofValue, hgv', hc]
  · have hname' : ¬ fn.name = "runtime.NumGoroutine" := by simpa using hname
    simp [invoke, callFunc, program, Sem.run, bind, Sem.bind, pure, hgf, hgb, hname']
  · let Own : X × Option Code → List PH := fun σ => match σ.2 with
      | none => sng (w.heap.size + 1) (.loop r) :: Hx σ.1
      | some c => sng (w.heap.size + 1) (.loop { r with state := .done, pending := some c }) :: Hx σ.1
    have hspec := hit (yv (w.heap.size + 1)) (X × Option Code) Own (fun i σ => σ.2 = none ∧ I i σ.1) (fun σ => ∃ c, σ.2 = some c ∧ J c σ.1) R
      (fun i σ vs hvs ⟨h1, h2⟩ => by
        obtain ⟨x, o⟩ := σ
        simp only at h1 h2;subst h1;refine (hround (w.heap.size + 1) r i x vs hvs h2 rfl rfl rfl rfl rfl ⟨hf.size, hf.get⟩).mono ?_;rintro v H' ⟨x', ⟨e1, e2, e3⟩ | ⟨e1, c, e2, e3⟩⟩
        · exact ⟨(x', none), e3, .inl ⟨e1, rfl, e2⟩⟩
        · exact ⟨(x', some c), e3, .inr ⟨e1, c, rfl, e2⟩⟩)
      ⟨_, rfl⟩ (x0, none) ⟨rfl, h0⟩
    have hs4 : Sat N R ((Own (x0, none) ++ HI) ++ (sng w.heap.size defO :: Hr)) w1 := hs3.perm (by
      simp only [Own, List.cons_append]
      exact (List.perm_middle.symm).cons _)
    have hs5 : Sat N (R1 ++ R) (Own (x0, none) ++ HI) w1 := (hs4.rsub (R' := R1 ++ R) (fun ρ hρ => by
      rcases List.mem_append.1 hρ with h | h
      · exact hR1 ρ h
      · exact h)).left
    have hc := hspec N w1 hs5
    unfold CallsV at hc
    have hname' : ¬ fn.name = "runtime.NumGoroutine" := by simpa using hname
    have hrun : ((do let d ← Deferred.ofValue (.func (.func gf) #[] cap.toArray) [yv (w.heap.size + 1)].toArray; invoke d.target d.args : Sem Next).run P w1) = .ok (.enter gf ([yv (w.heap.size + 1)] ++ cap).toArray) w1 := by
      simp [Deferred.ofValue, invoke, callFunc, program, Sem.run, bind, Sem.bind, pure, hgf, hgb, hname']
    rw [hrun] at hc;simp only at hc
    refine CallsIn.mono (show CallsIn (wideR none) 0 P gf _ w1 _ from hc) ?_
    rintro e w3 ⟨v, rfl, H', ⟨⟨x, o⟩, rfl, hfin⟩, hu⟩
    have hs6 := hs4.upd hu
    have hfin' : ∃ r', r'.state ≠ .busy ∧ Own (x, o) = sng (w.heap.size + 1) (.loop r') :: Hx x ∧ ((r'.pending = none ∧ I xs.length x) ∨ ∃ c, r'.pending = some c ∧ J c x) := by
      rcases hfin with ⟨h1, h2⟩ | ⟨c, h1, h2⟩
      · simp only at h1 h2; subst h1; exact ⟨r, by simp [r], rfl, .inl ⟨rfl, h2⟩⟩
      · simp only at h1 h2; subst h1; exact ⟨{ r with state := .done, pending := some c }, by simp, rfl, .inr ⟨c, rfl, h2⟩⟩
    obtain ⟨r', hb, ho, hfin'⟩ := hfin'
    rw [ho] at hs6;simp only [List.cons_append] at hs6
    have hown := hs6.own Take.here
    have hend : (Instr.endLoop (w.heap.size + 1)).run P w3 = .ok r'.pending { w3 with heap := w3.heap.setIfInBounds (w.heap.size + 1) (.loop { r' with state := .exhausted }) } := by
      simp [Instr.endLoop, run_getLoop hown, run_setLoop hown, hb]
    refine ⟨r'.pending, _, hend, ?_⟩
    have hs7 : Sat N R (sng w.heap.size defO :: (Hx x ++ Hr)) { w3 with heap := w3.heap.setIfInBounds (w.heap.size + 1) (.loop { r' with state := .exhausted }) } :=
      ((hs6.turnAny (o' := .loop { r' with state := .exhausted }) Take.here).tail).perm List.perm_middle
    have hfr : Frm M L { a with defers := [mk w.heap.size] ++ a.defers } := ⟨hf.size, hf.get⟩
    have hdf : ({ a with defers := [mk w.heap.size] ++ a.defers } : Act).defers = mk w.heap.size :: D := by simp [hd]
    rcases hfin' with ⟨hp, hI⟩ | ⟨c, hp, hJ⟩
    · rw [hp] at hs7 ⊢
      exact (hdone w.heap.size x hI).run _ _ hfr hdf hs7
    · rw [hp] at hs7 ⊢
      exact (hjump w.heap.size c x hJ).run _ _ hfr hdf hs7

theorem yield_specE {P : Program} {l M : Nat} {r : Loop} {ps : List Nat} {vs : List Value} {L' : Env} {post : Value → List PH → Prop} {A B : Code} (ha : r.assign = A) (hb : r.body = B) (hf : Frm M L ⟨r.tmps, []⟩) (hps : r.params = ps.toArray) (hpl : ∀ p ∈ ps, p < M) (hL : PutI ps vs L L')
    (h : ∀ N β, JK ⟨some l, P, fun _ _ _ => False, N, M⟩ [] (β :: R) (sng l (.loop r) :: H) L' [.code A, .till (wpK ⟨some l, P, RQ P l N (β :: R) post, N, M⟩ [.sem (Instr.beginRound l), .code B] .normal)]) :
    Spec P (yv l) vs R (sng l (.loop r) :: H) post := by
  subst ha hb;exact yield_spec hf hps hpl hL h
end Go.Eng
namespace Go.Flow
theorem needed_get : ∀ (ps : List (List Lk × Int)) (v : Int) (k : Nat), (∀ j, j < k → restV (ps.take j) v ≠ 0) → ∀ p, ps[k]? = some p → restV (ps.take k) v ≠ 0 → (neededL ps v)[k]? = some (p.1, min p.2 (restV (ps.take k) v))
  | [], _, _, _, p, hp, _ => by simp at hp
  | q :: ps, v, 0, _, p, hp, h => by
    simp only [List.getElem?_cons_zero, Option.some.injEq] at hp;subst hp;simp only [List.take_zero, restV] at h ⊢;unfold neededL;rw [if_neg h]
    rfl
  | q :: ps, v, k + 1, hj, p, hp, h => by
    have h0 := hj 0 (by omega)
    simp only [List.take_zero, restV] at h0;simp only [List.getElem?_cons_succ] at hp;simp only [List.take_succ_cons, restV] at h ⊢;unfold neededL;rw [if_neg h0, List.getElem?_cons_succ, Int.min_comm q.2 v]
    exact needed_get ps _ k (fun j hk => by
      have := hj (j + 1) (by omega)
      simpa only [List.take_succ_cons, restV] using this) p hp h
theorem needed_stop : ∀ (ps : List (List Lk × Int)) (v : Int) (k : Nat), (∀ j, j < k → restV (ps.take j) v ≠ 0) → k ≤ ps.length → (k = ps.length ∨ restV (ps.take k) v = 0) → (neededL ps v).length = k
  | [], _, k, _, hk, _ => by simp at hk; subst hk; rfl
  | q :: ps, v, 0, _, _, h => by
    rcases h with h | h
    · simp at h
    · simp only [List.take_zero, restV] at h
      unfold neededL;rw [if_pos h]
      rfl
  | q :: ps, v, k + 1, hj, hk, h => by
    have h0 := hj 0 (by omega)
    simp only [List.take_zero, restV] at h0;unfold neededL
    rw [if_neg h0, List.length_cons, Int.min_comm q.2 v, needed_stop ps _ k (fun j hk => by
      have := hj (j + 1) (by omega)
      simpa only [List.take_succ_cons, restV] using this) (by simpa using hk) (by simpa [List.take_succ_cons, restV] using h)]
end Go.Flow
/- The paths that are needed. -/
namespace Go.Proofs.YtjehnjhkcmobcaaGreat
open Go.Eng Go.Step Go.Flow
set_option maxRecDepth 100000
set_option maxHeartbeats 4000000

theorem pathsV {τ:PH} {es:List (Value × Int)} {ps:PathL} (h:ArcsIn τ es ps) {i:Nat} {e:Value × Int} (he:es[i]? = some e):∃ (q:List Go.Flow.Lk × Int) (a:Option Addr) (c:Nat),ps[i]? = some q ∧ e.2 = q.2 ∧ e.1 = .slice a q.1.length c ∧ IntsAt τ (.slice a (ksOf q.1).length c) (ksOf q.1):=by
 have hi:=(List.getElem?_eq_some_iff.1 he).1
 have hil:i < ps.length:=by rw [← h.1]; exact hi
 have hq:=List.getElem?_eq_getElem hil
 obtain ⟨h1,h2⟩:=h.2 i e _ he hq
 generalize ps[i] = q at hq h1 h2
 obtain ⟨a,c,e1,_⟩:=h2.val Eng.encI_len
 have hl:(ksOf q.1).length = q.1.length:=by unfold ksOf; rw [List.length_map]
 exact ⟨_,a,c,hq,h1,by rw [e1,hl],by rw [← e1]; exact h2⟩
set_option maxHeartbeats 32000000 in
theorem needed_iter (τ:PH) (p:Option Addr) (kk:Nat) (es:List (Value × Int)) (ps:PathL) (hes:SlE encPV 2 τ (.slice p es.length kk) es) (hai:ArcsIn τ es ps) (b1 b2:Nat) (v:Int) (hv:0 ≤ v ∧ v ≤ 1099511627776) (hps:∀ q ∈ ps,0 ≤ q.2) (hl:ps.length ≤ 20000) :
  IterW Tryz.prog (.func (.func 78) #[] #[.pointer (some ⟨b1,0,none⟩),.pointer (some ⟨b2,0,none⟩)]) [sng b1 (.cells #[.slice p es.length kk] 82 (0,0)),τ] [sng b2 (.cells #[int v] 3 (0,0))] (List.zipWith (fun e q=>[e.1,int q.2]) es (neededL ps v)):=by
 intro y S Own Inv Stop Ry hy hyl σ0 hI0
 obtain ⟨yl,rfl⟩:=hyl
 have c1:rdc (sng b1 (.cells #[.slice p es.length kk] 82 (0,0))) b1 0 = some (.slice p es.length kk):=by rw [rdc_sng]; rfl
 have hr:=rowN encPV_len hes
 have hel:=hai.1
 have hxl:∀ k,(neededL ps v).length = k → k ≤ ps.length → (List.zipWith (fun (e:Value × Int) (q:List Go.Flow.Lk × Int)=>[e.1,int q.2]) es (neededL ps v)).length = k:=fun k h1 h2=>by
  rw [List.length_zipWith,h1];omega
 simp only [List.cons_append,List.nil_append]
 refine spec_in (cap:=[.pointer (some ⟨b1,0,none⟩),.pointer (some ⟨b2,0,none⟩)]) Tryz.func78 rfl rfl Tryz.ntmps78 rfl envZ (fun N β=>?_)
 refine CS (H':=sng b2 (.cells #[int v] 3 (0,0)) :: Own σ0) (List.perm_append_comm (l₂:=[_])) ?_;refine Abk ?_;refine Abe ?_
 refine BA [0,1,2,7,8] (X:=Nat × S) (0,σ0) (fun z=>z.1 ≤ ps.length ∧ (∀ j,j < z.1 → restV (ps.take j) v ≠ 0) ∧ Inv z.1 z.2) (fun z=>[(9,int z.1)]) (fun z=>sng b2 (.cells #[int (restV (ps.take z.1) v)] 3 (0,0)) :: Own z.2) (fun z=>ps.length - z.1) pickZ ⟨by dsimp only; omega,fun j hj=>by dsimp only at hj; omega,hI0⟩ covZ Sel.refl ?_
 rintro ⟨k,σ'⟩ ⟨hk,hlf,hI⟩
 dsimp only at hk hlf hI ⊢
 by_cases hlt:k < ps.length
 rotate_left
 ·have hke:k = ps.length:=by omega
  have hx:=hxl k (needed_stop ps v k hlf hk (.inl hke)) hk
  refine Abn ?_
  exact CO (res0 rfl) (fun _ h=>h) (Sel.skip Sel.refl) ⟨σ',rfl,.inl (by rw [hx]; exact hI)⟩
 have hx:=List.getElem?_eq_getElem (show k < es.length by omega)
 obtain ⟨q,a,c,hq,e2,e1,_⟩:=pathsV hai hx
 have hqm:=hps q (List.mem_of_getElem? hq)
 have hlb:=restV_bd (ps.take k) v hv.1 (fun r hr=>hps r (List.mem_of_mem_take hr))
 have hnext:restV (ps.take (k + 1)) v = restV (ps.take k) v - min q.2 (restV (ps.take k) v):=by
  obtain ⟨h1,h2⟩:=List.getElem?_eq_some_iff.1 hq
  rw [List.take_succ_eq_append_getElem h1,h2,restV_snoc,Int.min_comm]
 have hstop:=fun h0=>hxl k (needed_stop ps v k hlf hk (.inr h0)) hk
 have hget:=needed_get ps v k hlf q hq
 obtain ⟨b6,o6,ep,hrd⟩:=hr k _ hx
 rw [show encPV es[k] = [.slice a q.1.length c,int q.2] by unfold encPV; rw [e1,e2]] at hrd
 have hyk:=fun h0=>hy k σ' [.slice a q.1.length c,int (min q.2 (restV (ps.take k) v))] (by rw [List.getElem?_zipWith,hx,hget h0,← e1]) hI
 have hlf2:restV (ps.take k) v ≠ 0 → ∀ j,j < k + 1 → restV (ps.take j) v ≠ 0:=fun h0 j hj=>by
  by_cases hjk:j < k
  ·exact hlf j hjk
  ·have:j = k:=by omega
   subst this;exact h0
 generalize restV (ps.take k) v = L0 at hlb hnext hstop hget hyk hlf2
 subst ep
 by_cases h0:L0 = 0
 ·have hx2:=hstop h0
  refine Ab2 ?_;refine AX ?_; rintro _ _ ⟨b,rfl,rfl⟩;refine AU ?_; rintro _ _ ⟨rfl,rfl⟩;refine Aam ?_;refine Abk ?_;refine Adx ?_
  exact AI (res0 rfl) (fun _ h=>h) (Sel.skip (Sel.skip Sel.refl)) ⟨σ',rfl,.inl (by rw [hx2]; exact hI)⟩
 refine Ab2 ?_;refine AX ?_; rintro _ _ ⟨b,rfl,rfl⟩;refine AU ?_; rintro _ _ ⟨rfl,rfl⟩;refine Aam ?_;refine Abk ?_;refine CH ?_;refine Aai ?_;refine Aao ?_;refine AF ?_;refine FE ?_;refine Aab ?_;refine Ac7 ?_;refine CN ?_;refine BE ?_; rintro _ _ ⟨rfl,rfl⟩;refine AE ?_;refine Adc ?_;refine AB ?_
 refine BB (hyk h0) rfl rfl (Takes.skip (Takes.skip Takes.all)) (fun τ hτ=>.inl (by simp [hτ])) rfl rfl ?_
 rintro _ H' ⟨σ3,rfl,⟨rfl,hI3⟩ | ⟨rfl,hSt⟩⟩
 ·refine CS (H':=_ :: _ :: Own σ3) (List.perm_append_comm (l₂:=[_,_])) ?_
  refine Acb ?_;refine Aa0 ?_
  refine AY (k + 1,σ3) ⟨by dsimp only; omega,hlf2 h0,hI3⟩ (by dsimp only; omega) covZ ?_
  dsimp only
  rw [hnext]
  first | exact Sel.cons .here (Sel.skip Sel.refl) | exact Sel.skip Sel.refl | exact Sel.cons (.there .here) Sel.refl
 ·refine BF ?_
  refine Aah ?_
  exact AI (res0 rfl) (fun _ h=>h) Sel.left ⟨σ3,rfl,.inr hSt⟩
theorem needed_spec (p:Option Addr) (n kk:Nat) (v:Int) :
  Eng.Spec Tryz.prog (fv 32) [.slice p n kk,int v] [] [] (fun r H'=>∃ b1 b2,r = .func (.func 78) #[] #[.pointer (some ⟨b1,0,none⟩),.pointer (some ⟨b2,0,none⟩)] ∧ H' = [sng b1 (.cells #[.slice p n kk] 82 (0,0)),sng b2 (.cells #[int v] 3 (0,0))]):=by
 refine spec_in (cap:=[]) Tryz.func32 rfl rfl Tryz.ntmps32 rfl envZ (fun N β=>?_)
 refine Aa ?_;refine EJ ?_; rintro _ _ ⟨b,rfl,rfl⟩;refine EJ ?_; rintro _ _ ⟨b,rfl,rfl⟩;refine Aab ?_;refine Aa ?_;refine B9 ?_;refine Aab ?_;exact AI (res1 rfl rfl) rsubZ selZ ⟨_,_,rfl,rfl⟩
theorem flat_encI:∀ l:List Int,l.flatMap Eng.encI = l.map int
 | []=>rfl
 | a :: l=>by rw [List.flatMap_cons,flat_encI l]; rfl
theorem ints_at {b:Nat} {t:TypeId} {fr:Nat × Nat} {c:Nat} (l:List Int):IntsAt (sng b (.cells (ints l) t fr)) (.slice (some ⟨b,0,none⟩) l.length c) l:=by
 have:=slE_sng (enc:=Eng.encI) (s:=1) Eng.encI_len (b:=b) (l:=l) (t:=t) (fr:=fr) (c:=c)
 rwa [show elems Eng.encI l = ints l by unfold elems ints; rw [flat_encI]] at this
def AnsAt (σ1 σ2 σ3:PH) (r:Value) (acc:Bool) (vol:Int) (ss:List Sh) (c:Cu):Prop:=
 ∃ (p1:Option Addr) (k1:Nat) (L:List Sq) (p2:Option Addr) (k2:Nat),r = .agg #[.bool acc,int vol,.slice p1 ss.length k1,.slice p2 L.length k2] ∧ ShAt σ1 (.slice p1 ss.length k1) ss ∧ CutL σ2 σ3 (.slice p2 L.length k2) L ∧ cuL L = c
theorem nilCut:CutL emp emp (.slice none 0 0) []:=⟨⟨rfl,.inl ⟨rfl,none,0,rfl⟩⟩,by simp⟩
theorem nilSh:ShAt emp (.slice none 0 0) []:=⟨rfl,.inl ⟨rfl,none,0,rfl⟩⟩
set_option maxHeartbeats 64000000 in
theorem Plan_spec {ρ τ σ υ:PH} {pq pc pb ph:Option Addr} {kq kc kb kh:Nat} {qs:List Int} {cs:List Ct} {bs:List Bk} {hs:List Hd} (hT:TbAt ρ τ σ υ pq pc pb ph kq kc kb kh qs cs bs hs) (d:Dm):Eng.Spec Tryz.prog (fv 9) [.agg #[.slice pq qs.length kq,.slice pc cs.length kc,.slice pb bs.length kb,.slice ph hs.length kh],.agg #[int d.s,int d.d,int d.v,int d.r,int d.e]] [ρ,τ,σ,υ] [] (fun r H'=>(validT qs cs bs hs d = true ∧ ∃ (acc:Bool) (vol:Int) (ss:List Sh) (c:Cu) (a:Value) (σ1 σ2 σ3:PH),r = .tuple #[a,int 0] ∧ H' = [σ1,σ2,σ3] ∧ PlanOK qs cs bs hs d acc vol ss c ∧ AnsAt σ1 σ2 σ3 a acc vol ss c) ∨ (validT qs cs bs hs d = false ∧ H' = [] ∧ r = .tuple #[.agg #[.bool false,int 0,.slice none 0 0,.slice none 0 0],int 1])):=by
 refine spec_in (cap:=[]) Tryz.func9 rfl rfl Tryz.ntmps9 rfl envZ (fun N β=>?_)
 refine Aa ?_;refine BJ (BO rfl) rfl rfl rfl ?_;rintro _ _ ⟨b1,rfl,rfl⟩;refine AS (ρ:=sng b1 _) takeZ ?_
 have ct:=rdB b1 29 [.slice pq qs.length kq,.slice pc cs.length kc,.slice pb bs.length kb,.slice ph hs.length kh]
 have ct0:=rdC ct 0
 have ct1:=rdC ct 1
 have ct2:=rdC ct 2
 have ct3:=rdC ct 3
 have ctp:RdP (sng b1 (.cells #[.slice pq qs.length kq,.slice pc cs.length kc,.slice pb bs.length kb,.slice ph hs.length kh] 29 (0,0))) b1 0 [.slice pq qs.length kq,.slice pc cs.length kc]:=rdP_sng (xs:=[.slice pq qs.length kq,.slice pc cs.length kc,.slice pb bs.length kb,.slice ph hs.length kh]) rfl
 refine BJ (BO rfl) rfl rfl rfl ?_;rintro _ _ ⟨b2,rfl,rfl⟩;refine AS (ρ:=sng b2 _) takeZ ?_
 have cd:=rdB b2 31 [int d.s,int d.d,int d.v,int d.r,int d.e]
 have cd0:=rdC cd 0
 have cd1:=rdC cd 1
 have cd2:=rdC cd 2
 have cd3:=rdC cd 3
 have cd4:=rdC cd 4
 refine B4 ?_;refine B4 ?_;refine B4 ?_;refine AX ?_; rintro _ _ ⟨b,rfl,rfl⟩;refine Aab ?_;refine Ab9 ?_
 revert b; intro b4
 refine BB (plMax_spec hT d) rfl rfl Takes.nil rdZ rfl rfl ?_;rintro _ H' (⟨hv,pg,kg,pf,kf,F,m,σg,σf,hAt,hF,hm,rfl,rfl⟩ | ⟨hv,rfl,rfl⟩)
 rotate_left
 ·refine AB ?_
  refine Aa5 ?_;refine Aa5 ?_;refine AX ?_; rintro _ _ ⟨b,rfl,rfl⟩;refine AU ?_; rintro _ _ ⟨rfl,rfl⟩;refine Ace ?_;refine Aaj ?_;refine Acd ?_;refine Aa ?_;refine BQ ?_;refine AB ?_;refine AU ?_; rintro _ _ ⟨rfl,rfl⟩;refine Aab ?_;exact AI (resSE (b1:=b4) (T:=42) (v1:=[.bool false,int 0,.slice none 0 0,.slice none 0 0]) rfl rfl rfl rfl rfl (cells_own memZ)) rsubZ selZ (.inr ⟨hv,rfl,rfl⟩)
 have h:=vok hv
 have hEl:=ea_len qs cs bs hs d h
 have hAl:(arcsG qs cs bs hs d).length = (arcsE qs cs bs hs d).length:=by unfold arcsG; rw [List.length_map]
 refine AS (ρ:=σg) takeZ ?_;refine AS (ρ:=σf) takeZ ?_;refine Aa8 ?_;refine Aa5 ?_;refine AX ?_; rintro _ _ ⟨b,rfl,rfl⟩;refine AU ?_; rintro _ _ ⟨rfl,rfl⟩;refine Ace ?_;refine Aaj ?_;refine Adv ?_;refine Acg ?_
 revert b; intro bg
 by_cases hd:m < d.v
 ·have hK:=flowCut_spec σg (.slice pg (arcsG qs cs bs hs d).length kg) (vsN qs d) (vtx d d.s d.r) (vtx d d.d d.e) (arcsG qs cs bs hs d) hAt (by omega)
  refine CQ ?_;refine Aah ?_;refine Ac ?_;refine Aem ?_;refine CB hK rfl rfl rdZ rfl rfl ?_;rintro _ σk ⟨fs,side,c0,e0,rfl,hI,hk⟩
  obtain ⟨pk,kk2,rfl,_⟩:=hI.val Eng.encI_len
  have hkN:CutN qs cs bs hs d side c0 e0:=hk
  obtain ⟨k1,k2,k3,k4,k5,k6⟩:=cut_facts h hv hm hkN
  subst k1 k2;refine AS (ρ:=σk) takeZ ?_
  have hD:=Sides_spec hT d σk _ side hI (by omega)
  rw [k3,if_pos rfl] at hD;refine Aa8 ?_;refine AO ?_;refine Ace ?_;refine Aaj ?_;refine Abb ?_;refine Ab9 ?_;refine AB ?_;refine BB hD rfl rfl Takes.nil rdZ rfl rfl ?_;rintro _ _ ⟨L,w,σ3,χ3,rfl,rfl,hL,hCL⟩
  obtain ⟨p2,k2,rfl,_⟩:=hCL.1.val encQ_len
  refine Abl ?_;refine Abq ?_;refine BQ ?_;refine AB ?_;refine AU ?_; rintro _ _ ⟨rfl,rfl⟩;refine Aab ?_;exact AI (resSE (b1:=b4) (T:=42) (v1:=[.bool false,int c0,.slice none 0 0,.slice p2 L.length k2]) rfl rfl rfl rfl rfl (cells_own memZ)) rsubZ selZ (.inl ⟨hv,false,c0,[],sidesC d qs.length side,_,emp,σ3,χ3,rfl,rfl,⟨F,c0,hm,.inl ⟨hd,rfl,rfl,rfl,side,c0,hkN,rfl⟩⟩,⟨none,0,L,p2,k2,rfl,nilSh,hCL,hL⟩⟩)
 have hP:=flowPaths_spec σg σf (.slice pg (arcsG qs cs bs hs d).length kg) (.slice pf F.length kf) (vsN qs d) (vtx d d.s d.r) (vtx d d.d d.e) (arcsG qs cs bs hs d) F hAt hF (by omega)
 refine BZ ?_;refine Aai ?_;refine Ac ?_;refine Aa7 ?_;refine CB hP rfl rfl rdZ rfl rfl ?_;rintro _ τp ⟨w,ps,e,rfl,hPA,hPO⟩
 have hPN:PathN qs cs bs hs d F ps e:=hPO
 obtain ⟨he,_⟩:=path_run h hv hm hPN
 subst he
 obtain ⟨_,N0,S0,T0,hN,hS,hT0,s1,s2,s3,hok,hfw,hmv,rr,hrun⟩:=path_run h hv hm hPN
 have hdm:=h.dm
 unfold okDm at hdm
 have hps0:∀ q ∈ ps,0 ≤ q.2:=fun q hq=>Int.le_of_lt (hrun.pos hok s1 s3 hfw q hq)
 have hsm:=paths_small hPO
 obtain ⟨_,_,_,_,_,_,_,_,hse⟩:=part_ok h hv hm hPN (show d.v ≤ m by omega)
 have hmid:=fun (j i:Nat) (q:List Go.Flow.Lk × Int) (hq:(quotaL ps d.v)[j]? = some q)=>part_mid (i:=i) hok s1 s3 hrun hfw (v:=d.v) (by omega) hq
 have harc:=run_arcs hok s1 s3 hrun hfw
 have hcapb:∀ a ∈ arcsG qs cs bs hs d,a.c ≤ 1099511627776:=fun a ha=>(okArc_iff.1 (hok a ha)).2.2.2.2.2.2
 obtain ⟨es,hes,hai⟩:=hPA
 obtain ⟨pp,kp,rfl,_⟩:=hes.val encPV_len
 refine AS (ρ:=τp) takeZ ?_
 have hlZ:(List.replicate (arcsG qs cs bs hs d).length (0:Int)).length = (arcsG qs cs bs hs d).length:=List.length_replicate
 have hfin:addMany (neededL ps d.v) (List.replicate (arcsG qs cs bs hs d).length 0) = partF qs cs bs hs d ps:=needed_sum ps d.v _ hps0
 refine Ab8 ?_;refine Abb ?_;refine Aao ?_;refine AW ?_;refine DY ?_; rintro _ _ ⟨b,rfl,rfl⟩;refine B0 ?_; rintro _ _ ⟨b,rfl,rfl⟩;refine BE ?_; rintro _ _ ⟨rfl,rfl⟩;refine AE ?_;refine Aef ?_
 revert b; intro bp
 revert b; intro bz
 refine AS (ρ:=sng bp _) takeZ ?_
 have bpf:rdc (sng bp (.cells #[.slice (some ⟨bz,0,none⟩) (arcsG qs cs bs hs d).length (arcsG qs cs bs hs d).length] 22 (0,0))) bp 0 = some (.slice (some ⟨bz,0,none⟩) (arcsG qs cs bs hs d).length (arcsG qs cs bs hs d).length):=by rw [rdc_sng]; rfl
 refine BB (needed_spec pp es.length kp d.v) rfl rfl Takes.nil (fun τ hτ=>by simp at hτ) rfl rfl ?_
 rintro _ _ ⟨b5,b6,rfl,rfl⟩;refine AS (ρ:=sng b5 _) takeZ ?_;refine AE ?_;refine AP ?_
 refine FY (gf:=78) (cap:=[.pointer (some ⟨b5,0,none⟩),.pointer (some ⟨b6,0,none⟩)]) (ps:=[90,91]) (X:=List Int) rfl Tryz.func78 rfl rfl
  (needed_iter τp pp kp es ps hes hai b5 b6 d.v (by omega) hps0 hsm.1) ?_
  (fun i x=>x = addMany ((neededL ps d.v).take i) (List.replicate (arcsG qs cs bs hs d).length 0))
  (fun x=>[sng bz (.cells (ints x) 3 (0,0))]) (fun _ _=>False) (List.replicate (arcsG qs cs bs hs d).length 0) rfl takesZ rfl ?_ ?_ ?_
 ·intro σ' hσ
  simp only [List.mem_cons,List.not_mem_nil,or_false] at hσ ⊢
  rcases hσ with h | h <;> simp [h]
 ·rintro lo r i x vs hvs hx hps has hbd hst hpe hfr
  obtain ⟨st,pe,fnn,tm,prm,asg,bdy,df⟩:=r
  simp only at hps has hbd hst hpe hfr;subst hps hst hpe;rw [List.getElem?_zipWith] at hvs
  cases he:es[i]? with
  | none=>simp [he] at hvs
  | some e =>
  cases hq:(neededL ps d.v)[i]? with
  | none=>simp [he,hq] at hvs
  | some q =>
  simp only [he,hq,Option.some.injEq] at hvs;subst hvs
  obtain ⟨n1,n2,n3,p0,n4,n5⟩:=needed_at hq
  obtain ⟨q',a,c,hq',e2,e1,hIa⟩:=pathsV hai he
  rw [n4] at hq'
  obtain rfl:=Option.some.inj hq'
  rw [← n5] at e1 hIa
  have hmid2:=fun j=>hmid i j q n3
  have hark:=fun x hx=>harc p0 (List.mem_of_getElem? n4) x (by rw [← n5]; exact hx)
  subst hx;rw [n1,n2,e1];simp only [addMany_snoc]
  generalize addMany ((quotaL ps d.v).take i) (List.replicate (arcsG qs cs bs hs d).length 0) = P0 at hmid2
  obtain ⟨_,_,ea,hra⟩:=hIa.val Eng.encI_len
  simp only [Value.slice.injEq] at ea
  obtain ⟨rfl,_,rfl⟩:=ea
  have hql:(ksOf q.1).length = q.1.length:=by unfold ksOf; rw [List.length_map]
  have hq2:=(hsm.2 p0 (List.mem_of_getElem? n4))
  rw [← n5] at hq2
  refine yield_specE has hbd hfr rfl (by intro p hp; simp at hp; omega) putiZ (fun N' β'=>?_)
  refine Aak ?_;refine AA ?_;refine Aab ?_;refine CX rfl rfl ?_;refine C7 takeZ rfl ?_;refine AP ?_;refine Aad ?_;refine Abe ?_
  refine BA [15,17,92,93] (0:Nat) (fun j=>j ≤ q.1.length) (fun j=>[(94,int j)]) (fun j=>[sng bz (.cells (ints (addAll q.2 P0 (q.1.take j))) 3 (0,0)),sng lo (.loop { state:=.busy,pending:=none,fn:=fnn,tmps:=tm,params:=[90,91].toArray,assign:=asg,body:=bdy,defers:=df })]) (fun j=>q.1.length - j) pickZ (by omega) covZ selZ ?_
  rintro j hj
  by_cases hlt:j < q.1.length
  rotate_left
  ·rw [List.take_of_length_le (by omega)]
   refine Abn ?_;refine A2 ?_;exact BY takeZ rsubZ selZ ⟨addAll q.2 P0 q.1,.inl ⟨rfl,rfl,rfl⟩⟩
  have hx:=List.getElem?_eq_getElem hlt
  have hm1:=hmid2 j
  have hm2:=hmid2 (j + 1)
  rw [List.take_succ_eq_append_getElem hlt,addAll_snoc] at hm2
  have hxk:=hark _ (List.getElem_mem hlt)
  have hta:addAll q.2 P0 (q.1.take (j + 1)) = addP q.2 (addAll q.2 P0 (q.1.take j)) q.1[j]:=by rw [List.take_succ_eq_append_getElem hlt,addAll_snoc]
  have hkx:(ksOf q.1)[j]? = some ((q.1[j].k:Nat):Int):=by unfold ksOf; rw [List.getElem?_map,hx]; rfl
  obtain ⟨b7,o7,ep,gk⟩:=hra.int hkx
  generalize addAll q.2 P0 (q.1.take j) = P at hm1 hm2 hta
  generalize q.1[j] = y at hx hm2 hxk hta gk hkx
  obtain ⟨s4,s5⟩:=part_step hcapb hm1.1 hm1.2 hm2.1 hxk
  have hPl:=hm1.2
  subst ep;refine Ac0 ?_;refine Aab ?_;refine AA ?_;refine Acf ?_;refine B6 ?_;refine Acf ?_;refine CE ?_;refine B6 ?_;refine DD ?_; rintro _ _ ⟨rfl,rfl⟩;refine Adn ?_
  refine AY (j + 1) (by omega) (by omega) covZ ?_
  rw [hta];exact selZ
 ·rintro b9 x hx
  have hxl:(List.zipWith (fun (e:Value × Int) (q:List Go.Flow.Lk × Int)=>[e.1,int q.2]) es (neededL ps d.v)).length = (neededL ps d.v).length:=by
   have:=needed_len ps d.v
   have:=hai.1
   rw [List.length_zipWith];omega
  rw [hxl,List.take_length,hfin] at hx;subst hx
  have hpl2:(partF qs cs bs hs d ps).length = (arcsG qs cs bs hs d).length:=by unfold partF; rw [addMany_len,hlZ]
  have hIz:IntsAt (sng bz (.cells (ints (partF qs cs bs hs d ps)) 3 (0,0))) (.slice (some ⟨bz,0,none⟩) (arcsG qs cs bs hs d).length (arcsG qs cs bs hs d).length) (partF qs cs bs hs d ps):=by
   rw [← hpl2];exact ints_at _
  have hSh:=Shipments_spec hT d _ _ _ hIz
  rw [hse,show shipsR qs cs bs hs d (partF qs cs bs hs d ps) = shipsF (arcsE qs cs bs hs d) (partF qs cs bs hs d ps) by unfold shipsR; rw [if_pos hse]] at hSh
  refine AS (ρ:=sng bz _) takeZ ?_;refine A2 ?_;refine Ab9 ?_;refine AF ?_;refine CB hSh rfl rfl rdZ rfl rfl ?_;rintro _ σs ⟨us,rfl,hOs⟩
  have hSs:ShAt σs us (shipsF (arcsE qs cs bs hs d) (partF qs cs bs hs d ps)):=hOs.at
  obtain ⟨p1,k1,rfl⟩:=hOs.form
  refine Abl ?_;refine Acg ?_;refine BQ ?_;refine AB ?_;refine AU ?_; rintro _ _ ⟨rfl,rfl⟩;refine Aab ?_
  refine EE (v:=.tuple #[.agg #[.bool true,int d.v,.slice p1 (shipsF (arcsE qs cs bs hs d) (partF qs cs bs hs d ps)).length k1,.slice none 0 0],int 0]) (Marks.cons takeZ .nil) ?_ rsubZ ?_ (.inl ⟨hv,true,d.v,shipsF (arcsE qs cs bs hs d) (partF qs cs bs hs d ps),[],_,σs,emp,emp,rfl,rfl,⟨F,m,hm,.inr ⟨by omega,rfl,rfl,rfl,ps,hPN,rfl⟩⟩,⟨p1,k1,[],none,0,rfl,hSs,nilCut,rfl⟩⟩)
  ·exact resSE (b1:=b4) (T:=42) (v1:=[.bool true,int d.v,.slice p1 (shipsF (arcsE qs cs bs hs d) (partF qs cs bs hs d ps)).length k1,.slice none 0 0]) rfl rfl rfl rfl rfl (cells_own memZ)
  ·exact selZ
 ·rintro _ _ _ h; exact h.elim
end Go.Proofs.YtjehnjhkcmobcaaGreat
/- The document's plan; answers compared. -/
namespace Go.Proofs.YtjehnjhkcmobcaaGreat
open Go.Eng Go.Step Go.Flow
set_option maxRecDepth 100000
set_option maxHeartbeats 4000000

end Go.Proofs.YtjehnjhkcmobcaaGreat
/- How much can be brought until when. No program in sight. No conditions. -/
namespace Go.Step
variable {qs:List Int} {cs:List Ct} {bs:List Bk} {hs:List Hd} {d:Dm}
def atE (d:Dm) (t:Int):Dm:=⟨d.s,d.d,d.v,d.r,t⟩
open Classical in
noncomputable def mostV (qs:List Int) (cs:List Ct) (bs:List Bk) (hs:List Hd) (d:Dm):Int:=if h:∃ m F,MaxN qs cs bs hs d F m 0 then Classical.choose h else 0
theorem mostV_eq {F:List Int} {m:Int} (hm:MaxN qs cs bs hs d F m 0):mostV qs cs bs hs d = m:=by
  have h:∃ m F,MaxN qs cs bs hs d F m 0:=⟨m,F,hm⟩
  unfold mostV;rw [dif_pos h]
  obtain ⟨G,hG⟩:=Classical.choose_spec h
  exact (hG.uniq hm).2.1
noncomputable def mostK (qs:List Int) (cs:List Ct) (bs:List Bk) (hs:List Hd) (d:Dm) (k:Nat):Int:=if k = 0 then 0 else mostV qs cs bs hs (atE d (d.r + k))
noncomputable def curveK (qs:List Int) (cs:List Ct) (bs:List Bk) (hs:List Hd) (d:Dm):Nat → List Lv
  | 0=>[]
  | k + 1=>curveK qs cs bs hs d k ++ (if mostK qs cs bs hs d (k + 1) ≠ mostK qs cs bs hs d k then [⟨d.r + (k + 1:Nat),mostK qs cs bs hs d (k + 1)⟩] else [])
theorem curveK_len (qs:List Int) (cs:List Ct) (bs:List Bk) (hs:List Hd) (d:Dm):∀ k,(curveK qs cs bs hs d k).length ≤ k
  | 0=>Nat.le_refl _
  | k + 1=>by
    have:=curveK_len qs cs bs hs d k
    unfold curveK;rw [List.length_append]
    split <;> simp <;> omega
theorem valid_at (hv:validT qs cs bs hs d = true) {k:Nat} (h1:d.r + (k + 1:Nat) ≤ d.e):validT qs cs bs hs (atE d (d.r + (k + 1:Nat))) = true:=by
  obtain ⟨h,hd⟩:=of_decide_eq_true hv
  refine decide_eq_true ⟨h,?_⟩;unfold okDm at hd ⊢;unfold atE
  dsimp only
  omega
theorem mostK_eq {k:Nat} {F:List Int} {m:Int} (hm:MaxN qs cs bs hs (atE d (d.r + (k + 1:Nat))) F m 0):mostK qs cs bs hs d (k + 1) = m:=by
  unfold mostK
  rw [if_neg (by omega)]
  exact mostV_eq hm
end Go.Step
/- Curves. -/
namespace Go.Proofs.YtjehnjhkcmobcaaGreat
open Go.Eng Go.Step
set_option maxRecDepth 100000
set_option maxHeartbeats 4000000

set_option maxHeartbeats 32000000 in
theorem Curve_spec {ρ τ σ υ:PH} {pq pc pb ph:Option Addr} {kq kc kb kh:Nat} {qs:List Int} {cs:List Ct} {bs:List Bk} {hs:List Hd} (hT:TbAt ρ τ σ υ pq pc pb ph kq kc kb kh qs cs bs hs) (d:Dm):Makes Tryz.prog (fv 25) [.agg #[.slice pq qs.length kq,.slice pc cs.length kc,.slice pb bs.length kb,.slice ph hs.length kh],.agg #[int d.s,int d.d,int d.v,int d.r,int d.e]] [ρ,τ,σ,υ] (fun r χ=>∃ u,r = .tuple #[u,int (if validT qs cs bs hs d = true then 0 else 1)] ∧ OwnS 72 2 u (if validT qs cs bs hs d = true then curveK qs cs bs hs d (d.e - d.r).toNat else []).length ((if validT qs cs bs hs d = true then curveK qs cs bs hs d (d.e - d.r).toNat else []).flatMap encV) χ ∧ (validT qs cs bs hs d = true → ∀ j,j < (d.e - d.r).toNat → ∃ F m,MaxN qs cs bs hs (atE d (d.r + ((j + 1:Nat):Int))) F m 0)):=by
 refine spec_in (cap:=[]) Tryz.func25 rfl rfl Tryz.ntmps25 rfl envZ (fun N β=>?_)
 refine Aa ?_;refine BJ (BO rfl) rfl rfl rfl ?_;rintro _ _ ⟨b1,rfl,rfl⟩;refine AS (ρ:=sng b1 _) takeZ ?_
 have ct:=rdB b1 29 [.slice pq qs.length kq,.slice pc cs.length kc,.slice pb bs.length kb,.slice ph hs.length kh]
 have ct0:=rdC ct 0
 have ct1:=rdC ct 1
 have ct2:=rdC ct 2
 have ct3:=rdC ct 3
 have ctp:RdP (sng b1 (.cells #[.slice pq qs.length kq,.slice pc cs.length kc,.slice pb bs.length kb,.slice ph hs.length kh] 29 (0,0))) b1 0 [.slice pq qs.length kq,.slice pc cs.length kc]:=rdP_sng (xs:=[.slice pq qs.length kq,.slice pc cs.length kc,.slice pb bs.length kb,.slice ph hs.length kh]) rfl
 refine BJ (BO rfl) rfl rfl rfl ?_;rintro _ _ ⟨b2,rfl,rfl⟩;refine AS (ρ:=sng b2 _) takeZ ?_
 have cd:=rdB b2 31 [int d.s,int d.d,int d.v,int d.r,int d.e]
 have cd0:=rdC cd 0
 have cd1:=rdC cd 1
 have cd2:=rdC cd 2
 have cd3:=rdC cd 3
 have cd4:=rdC cd 4
 refine B4 ?_;refine Aan ?_;refine AC ?_;refine Ab9 ?_;refine CB (Graph_spec hT d) rfl rfl rdZ rfl rfl ?_;rintro _ σg hg
 by_cases hv:validT qs cs bs hs d = true
 rotate_left
 ·rw [if_neg hv] at hg
  obtain ⟨rfl,rfl⟩:=hg
  rw [if_neg hv,if_neg hv];refine Aa8 ?_;refine AX ?_; rintro _ _ ⟨b,rfl,rfl⟩;refine AU ?_; rintro _ _ ⟨rfl,rfl⟩;refine Aev ?_;refine Acj ?_
  exact AI (res2 rfl rfl rfl) rsubZ selZ ⟨emp,⟨_,rfl,OwnS.nil _ _,fun hh=>absurd hh hv⟩,rfl⟩
 rw [if_pos hv] at hg
 obtain ⟨ug,rfl,hOg⟩:=hg
 obtain ⟨pg,kg,rfl⟩:=hOg.form
 rw [if_pos hv,if_pos hv]
 have h:=vok hv
 have hdm:=h.dm
 unfold okDm at hdm;refine Aa8 ?_;refine AX ?_; rintro _ _ ⟨b,rfl,rfl⟩;refine AU ?_; rintro _ _ ⟨rfl,rfl⟩;refine Aa6 ?_;refine Abb ?_;refine Aak ?_;refine Aak ?_;refine Aer ?_;refine CE ?_;refine Aab ?_;refine AP ?_
 refine BA [2,3] (X:=Nat × Value × PH) (0,.slice none 0 0,emp) (fun z=>z.1 ≤ (d.e - d.r).toNat ∧ (∀ j,j < z.1 → ∃ F m,MaxN qs cs bs hs (atE d (d.r + ((j + 1:Nat):Int))) F m 0) ∧ OwnS 72 2 z.2.1 (curveK qs cs bs hs d z.1).length ((curveK qs cs bs hs d z.1).flatMap encV) z.2.2) (fun z=>[(10,int (d.r + (z.1 + 1:Nat))),(9,int (mostK qs cs bs hs d z.1)),(8,z.2.1)]) (fun z=>[z.2.2]) (fun z=>(d.e - d.r).toNat - z.1) pickZ ⟨by dsimp only; omega,fun j hj=>by dsimp only at hj; omega,OwnS.nil _ _⟩ covZ selZ ?_
 rintro ⟨k,u,σo⟩ ⟨hk,hex,hO⟩
 dsimp only at hk hex hO ⊢
 by_cases hlt:k < (d.e - d.r).toNat
 rotate_left
 ·have hke:k = (d.e - d.r).toNat:=by omega
  subst hke;refine Aef ?_;refine CY ?_;refine Ac6 ?_;refine Ad4 ?_
  exact AI (res2 rfl rfl rfl) rsubZ selZ ⟨σo,⟨u,rfl,hO,fun _=>hex⟩,rfl⟩
 have hv2:validT qs cs bs hs ⟨d.s,d.d,d.v,d.r,d.r + (k + 1:Nat)⟩ = true:=valid_at hv (by omega)
 have hM:=Most_spec hT ⟨d.s,d.d,d.v,d.r,d.r + (k + 1:Nat)⟩
 have hcl:=curveK_len qs cs bs hs d k
 have hcn:curveK qs cs bs hs d (k + 1) = curveK qs cs bs hs d k ++ (if mostK qs cs bs hs d (k + 1) ≠ mostK qs cs bs hs d k then [⟨d.r + (k + 1:Nat),mostK qs cs bs hs d (k + 1)⟩] else []):=rfl
 have hnx:d.r + ((k + 1:Nat):Int) + 1 = d.r + (((k + 1) + 1:Nat):Int):=by omega
 refine Aef ?_;refine CU ?_;refine Acs ?_;refine Abm ?_;refine AX ?_; rintro _ _ ⟨b,rfl,rfl⟩;refine AU ?_; rintro _ _ ⟨rfl,rfl⟩;refine AE ?_;refine Aad ?_;refine AG ?_;refine BE ?_; rintro _ _ ⟨rfl,rfl⟩;refine AE ?_;refine Ab9 ?_
 revert b; intro bd
 refine A4 hM rfl rfl rdZ rfl rfl ?_;rintro _ (⟨_,F,m,hm,rfl⟩ | ⟨hv3,rfl⟩)
 rotate_left
 ·rw [hv2] at hv3; simp at hv3
 have hex2:∀ j,j < k + 1 → ∃ F m,MaxN qs cs bs hs (atE d (d.r + ((j + 1:Nat):Int))) F m 0:=fun j hj=>by
  by_cases hjk:j < k
  ·exact hex j hjk
  ·have:j = k:=by omega
   subst this;exact ⟨F,m,hm⟩
 have hmk:mostK qs cs bs hs d (k + 1) = m:=mostK_eq hm
 rw [hmk] at hcn
 generalize mostK qs cs bs hs d k = M0 at hcn
 generalize curveK qs cs bs hs d k = C0 at hO hcl hcn
 by_cases hc:m = M0
 ·rw [if_neg (fun hh=>hh hc),List.append_nil] at hcn
  refine Ab8 ?_;refine Abb ?_;refine Abq ?_;refine Abb ?_;refine Ach ?_;refine CE ?_;refine Aab ?_
  refine AY (k + 1,u,σo) ⟨by dsimp only; omega,hex2,by dsimp only; rw [hcn]; exact hO⟩ (by dsimp only; omega) ?_ selZ
  dsimp only
  rw [hmk,← hnx,hc];exact covZ
 ·rw [if_pos hc] at hcn
  refine Ab8 ?_;refine Abb ?_;refine Abq ?_;refine Acd ?_;refine Aad ?_;refine Aa1 ?_;refine BQ ?_;refine BD ?_; rintro _ _ ⟨b,rfl,rfl⟩
  refine BJ (B8 (by_:=16) (s:=2) (news:=[int (d.r + ((k + 1:Nat):Int)),int m]) rfl rfl rfl rfl rfl rfl rfl hO takeZ (cells_own memZ) rfl (by (repeat (first | exact (fun v hv=>absurd hv List.not_mem_nil) | (refine List.forall_mem_cons.2 ⟨?_,?_⟩; (focus (first | exact rfl | assumption))))); first | done | fail) (by omega) (by simp only [maxLen]; omega) (by omega)) rfl rfl rfl ?_
  rintro u1 _ ⟨σ1,hO1,rfl⟩;refine Aab ?_;refine AA ?_;refine AB ?_;refine Aab ?_;refine Ach ?_;refine CE ?_;refine Aab ?_
  refine AY (k + 1,u1,σ1) ⟨by dsimp only; omega,hex2,?_⟩ (by dsimp only; omega) ?_ selZ
  ·dsimp only
   rw [hcn,List.length_append,List.flatMap_append];exact hO1
  ·dsimp only
   rw [hmk,← hnx];exact covZ
end Go.Proofs.YtjehnjhkcmobcaaGreat
/- Where a node can store more, of the program. -/
namespace Go.Proofs.YtjehnjhkcmobcaaGreat
open Go.Eng Go.Step
set_option maxRecDepth 100000
set_option maxHeartbeats 4000000

end Go.Proofs.YtjehnjhkcmobcaaGreat
/- Where a node can store more, of the program: Free. -/
namespace Go.Proofs.YtjehnjhkcmobcaaGreat
open Go.Eng Go.Step
set_option maxRecDepth 100000
set_option maxHeartbeats 4000000

end Go.Proofs.YtjehnjhkcmobcaaGreat
/- Where a node can store more, of the reference. -/
namespace Go.Proofs.YtjehnjhkcmobcaaGreat
open Go.Eng Go.Step
set_option maxRecDepth 100000
set_option maxHeartbeats 4000000

end Go.Proofs.YtjehnjhkcmobcaaGreat
/- Free spans, of the reference; lists compared. -/
namespace Go.Proofs.YtjehnjhkcmobcaaGreat
open Go.Eng Go.Step
set_option maxRecDepth 100000
set_option maxHeartbeats 4000000

theorem equalV_spec (ρ τ:PH) (v w:Value) (l m:List Lv) (hv:LvAt ρ v l) (hw:LvAt τ w m) (hl:l.length ≤ 9223372036854775807) :
  Ans Tryz.prog (fv 27) [v,w] [ρ,τ] (fun r=>r = .bool (decide (l = m))):=by
 obtain ⟨q,c,rfl,hr⟩:=hv.val encV_len
 obtain ⟨q',c',rfl,hr'⟩:=hw.val encV_len
 refine spec_in (cap:=[]) Tryz.func27 rfl rfl Tryz.ntmps27 rfl envZ (fun N β=>?_)
 by_cases hlen:l.length = m.length
 rotate_left
 ·refine AC ?_
  refine AA ?_;refine Acz ?_;refine AW ?_;refine Ada ?_;refine CL ?_;refine Aa4 ?_
  exact AI (res1 rfl rfl) rsubZ selZ ⟨rfl,by rw [decide_eq_false (fun h=>hlen (by rw [h]))]⟩
 refine Ad3 ?_;refine AW ?_;refine Ada ?_;refine Abb ?_;refine Abt ?_
 refine BA [0,1,12] (0:Nat) (fun k=>k ≤ l.length ∧ l.take k = m.take k) (fun k=>[(13,int k)]) (fun _=>[]) (fun k=>l.length - k) pickZ ⟨by omega,by simp⟩ covZ selZ ?_
 rintro k ⟨hk,hI⟩
 by_cases hlt:k < l.length
 ·have hx:=List.getElem?_eq_getElem hlt
  have hx':=List.getElem?_eq_getElem (show k < m.length by omega)
  obtain ⟨b1,o1,rfl,hRd1,_⟩:=lvRow hr hx
  obtain ⟨b2,o2,rfl,hRd2,_⟩:=lvRow hr' hx'
  refine Ab7 ?_;refine Abi ?_
  refine A8 (.q 0 (.q 1 (.q 2 (.q 3 (.q 4 (.q 5 (.q 6 (.q 7 (.q 8 .nil))))))))) [] rfl (by kernel_rfl) Sel.nil ?_
  refine Adu ?_;refine BX ?_;refine Adu ?_;refine BX ?_
  focus ((refine' CR rfl _ rfl rfl rfl rfl _; rotate_left; (apply q_neS [l[k].a,l[k].v] [m[k].a,m[k].v] (n:=2); exact rfl; exact rfl; kernel_rfl; kernel_rfl; kernel_rfl; exact rfl; exact rfl)))
  refine A5 ?_
  by_cases he:l[k] = m[k]
  ·rw [he]
   rw [show (!decide ([m[k].a,m[k].v] = [m[k].a,m[k].v])) = false by simp]
   skip
   refine Aae ?_;refine Aa0 ?_
   refine AY (k + 1) ⟨by omega,?_⟩ (by omega) covZ selZ
   rw [List.take_succ_eq_append_getElem hlt,List.take_succ_eq_append_getElem (show k < m.length by omega),hI,he]
  ·have hne:¬ ([l[k].a,l[k].v] = [m[k].a,m[k].v]):=fun h=>he (by
    simp only [List.cons.injEq,and_true] at h
    generalize l[k] = x at *
    generalize m[k] = y at *
    obtain ⟨x1,x2⟩:=x
    obtain ⟨y1,y2⟩:=y
    simp only at h
    rw [h.1,h.2])
   rw [show (!decide ([l[k].a,l[k].v] = [m[k].a,m[k].v])) = true by simp only [decide_eq_false hne,Bool.not_false]]
   skip
   refine AM rfl ?_;refine Aak ?_
   exact AI (res1 rfl rfl) rsubZ selZ ⟨rfl,by rw [decide_eq_false (fun h=>he (by subst h; rfl))]⟩
 ·rw [List.take_of_length_le (by omega),List.take_of_length_le (by omega)] at hI
  refine Aew ?_
  exact AI (res1 rfl rfl) rsubZ selZ ⟨rfl,by rw [decide_eq_true hI]⟩
end Go.Proofs.YtjehnjhkcmobcaaGreat
/- The planner's example. No program in sight. No conditions. -/
namespace Go.Step
open Go.Flow (Flw fval inCap)
def e9:List Int:=[9,1,9]
def eD5:Dm:=⟨0,2,5,0,6⟩
theorem e9Valid:validT e9 eC [] [] eD = true:=by decide +kernel
theorem e9Valid5:validT e9 eC [] [] eD5 = true:=by decide +kernel
theorem e9Arcs:arcsE e9 eC [] [] eD = eA:=by decide +kernel
theorem e9Arcs5:arcsE e9 eC [] [] eD5 = eA:=by decide +kernel
theorem e9G:arcsG e9 eC [] [] eD = arcsG eQ eC [] [] eD:=by rw [eG]; unfold arcsG; rw [e9Arcs]
theorem e9G5:arcsG e9 eC [] [] eD5 = arcsG eQ eC [] [] eD:=by rw [eG]; unfold arcsG; rw [e9Arcs5]
theorem e9Max (hok:VOk eQ eC [] [] eD) {F:List Int} {m e:Int} (hm:MaxN e9 eC [] [] eD F m e):m = 4:=by
  have h:MaxN eQ eC [] [] eD F m e:=by
    unfold MaxN at hm ⊢;rw [e9G] at hm;exact hm
  exact (eMax hok h).2.1
theorem e9Max5 (hok:VOk eQ eC [] [] eD) {F:List Int} {m e:Int} (hm:MaxN e9 eC [] [] eD5 F m e):m = 4:=by
  have h:MaxN eQ eC [] [] eD F m e:=by
    unfold MaxN at hm ⊢;rw [e9G5] at hm;exact hm
  exact (eMax hok h).2.1
def eL:List Sh:=[⟨0,0,1⟩,⟨0,1,3⟩,⟨1,3,3⟩,⟨1,4,1⟩]
theorem eShipsL {F:List Int} (hf:Flw 21 (arcsG eQ eC [] [] eD) 0 20 F) (hv:fval 0 (arcsG eQ eC [] [] eD) F = 4):shipsF eA F = eL:=by
  rw [eG] at hf hv
  have hl:=hf.len
  have hc:=hf.cap
  have e0:=hf.bal 1 (by omega) (by omega) (by omega)
  have e7:=hf.bal 7 (by omega) (by omega) (by omega)
  have e8:=hf.bal 8 (by omega) (by omega) (by omega)
  have e9:=hf.bal 9 (by omega) (by omega) (by omega)
  have e10:=hf.bal 10 (by omega) (by omega) (by omega)
  have e11:=hf.bal 11 (by omega) (by omega) (by omega)
  have e12:=hf.bal 12 (by omega) (by omega) (by omega)
  have e13:=hf.bal 13 (by omega) (by omega) (by omega)
  have e2:=hf.bal 2 (by omega) (by omega) (by omega)
  have e3:=hf.bal 3 (by omega) (by omega) (by omega)
  have e4:=hf.bal 4 (by omega) (by omega) (by omega)
  have e5:=hf.bal 5 (by omega) (by omega) (by omega)
  have e6:=hf.bal 6 (by omega) (by omega) (by omega)
  clear hf
  match F,hl with
  | [a0,a1,a2,a3,a4,a5,a6,a7,a8,a9,a10,a11,a12,a13,a14,a15,a16,a17,a18,a19,a20,a21],_ =>
    simp [eA,fval] at hv e0 e7 e8 e9 e10 e11 e12 e13 e2 e3 e4 e5 e6
    simp [eA,inCap] at hc
    have h18:a18 = 1:=by omega
    have h19:a19 = 3:=by omega
    have h20:a20 = 3:=by omega
    have h21:a21 = 1:=by omega
    subst h18 h19 h20 h21
    simp [eA,shipsF,eL]
theorem e9Plan (hq:VOk eQ eC [] [] eD) (hok:VOk e9 eC [] [] eD) {acc:Bool} {vol:Int} {ss:List Sh} {c:Cu} (hp:PlanOK e9 eC [] [] eD acc vol ss c):acc = true ∧ vol = 4 ∧ ss = eL ∧ c = []:=by
  obtain ⟨F,m,hm,hp⟩:=hp
  have h4:=e9Max hq hm
  subst h4
  rcases hp with ⟨a1,_⟩ | ⟨a1,a2,a3,a4,ps,a5,a6⟩
  · exact absurd a1 (by decide)
  refine ⟨a2,a3,?_,a4⟩
  obtain ⟨N,S,T,hN,hS,hT,hf,hv,_⟩:=part_ok hok e9Valid hm a5 a1
  have n1 : N = 21 := by have : vsN e9 eD = 21 := by decide +kernel
                         omega
  have n2 : S = 0 := by have : vtx eD eD.s eD.r = 0 := eS
                        omega
  have n3 : T = 20 := by have : vtx eD eD.d eD.e = 20 := eT
                         omega
  subst n1 n2 n3;rw [e9G] at hf hv;rw [a6,e9Arcs];exact eShipsL hf hv
theorem e9Plan5 (hq:VOk eQ eC [] [] eD) {acc:Bool} {vol:Int} {ss:List Sh} {c:Cu} (hp:PlanOK e9 eC [] [] eD5 acc vol ss c):acc = false ∧ vol = 4 ∧ c.length = 3:=by
  obtain ⟨F,m,hm,hp⟩:=hp
  have h4:=e9Max5 hq hm
  subst h4
  rcases hp with ⟨a1,a2,a3,a4,side,k,_,a6⟩ | ⟨a1,_⟩
  · exact ⟨a2,a3,by rw [a6,sidesC_len]; rfl⟩
  · exact absurd a1 (by decide)
theorem max_val {qs:List Int} {cs:List Ct} {bs:List Bk} {hs:List Hd} {d:Dm} (h:VOk qs cs bs hs d) {F fl:List Int} {m e v:Int} {N S T:Nat} (hm:MaxN qs cs bs hs d F m e) (hN:vsN qs d = N) (hS:vtx d d.s d.r = S) (hT:vtx d d.d d.e = T) (hf:Flw N (arcsG qs cs bs hs d) S T fl) (hv:fval S (arcsG qs cs bs hs d) fl = v) {P:Int → Int → Bool} (h1:P d.s d.r = true) (h2:P d.d d.e = false) (hc:capB qs cs bs hs d P = v):m = v:=by
  obtain ⟨_,N',S',T',hN',hS',hT',hf',hv',P',p1,p2,p3⟩:=max_cut h hm
  have a:=flow_le_cap h hN' hS' hT' hf' h1 h2
  have b:=flow_le_cap h hN hS hT hf p1 p2
  omega
theorem e9Flow5:Flw 18 (arcsG e9 eC [] [] (atE eD 5)) 0 17 [3,0,0,0,0,0,0,0,0,0,0,0,0,0,0,0,3,3]:=by
  refine ⟨by decide +kernel,by decide +kernel,?_⟩
  have:∀ v:Fin 18,v.1 ≠ 0 → v.1 ≠ 17 → fval v.1 (arcsG e9 eC [] [] (atE eD 5)) [3,0,0,0,0,0,0,0,0,0,0,0,0,0,0,0,3,3] = 0:=by decide +kernel
  exact fun v hv h1 h2=>this ⟨v,hv⟩ h1 h2
theorem e9Curve (hq:VOk eQ eC [] [] eD) (hok:∀ j:Nat,j < 6 → VOk e9 eC [] [] (atE eD (eD.r + ((j + 1:Nat):Int)))) (hex:∀ j:Nat,j < 6 → ∃ F m,MaxN e9 eC [] [] (atE eD (eD.r + ((j + 1:Nat):Int))) F m 0):curveK e9 eC [] [] eD 6 = [⟨5,3⟩,⟨6,4⟩]:=by
  have hz:∀ j:Nat,j < 6 → capB e9 eC [] [] (atE eD (eD.r + ((j + 1:Nat):Int))) (fun n _=>decide (n ≠ 2)) = 0 → mostK e9 eC [] [] eD (j + 1) = 0:=fun j hj hc=>by
    obtain ⟨F,m,hm⟩:=hex j hj
    rw [mostK_eq hm]
    have h0:=max_nonneg (hok j hj) hm
    obtain ⟨_,N,S,T,hN,hS,hT,hf,hv,_⟩:=max_cut (hok j hj) hm
    have:=flow_le_cap (hok j hj) hN hS hT hf (P:=fun n _=>decide (n ≠ 2)) rfl rfl
    omega
  have m0:mostK e9 eC [] [] eD 0 = 0:=rfl
  have m1:=hz 0 (by omega) (by decide +kernel)
  have m2:=hz 1 (by omega) (by decide +kernel)
  have m3:=hz 2 (by omega) (by decide +kernel)
  have m4:=hz 3 (by omega) (by decide +kernel)
  have m5:mostK e9 eC [] [] eD 5 = 3:=by
    obtain ⟨F,m,hm⟩:=hex 4 (by omega)
    rw [show (5:Nat) = 4 + 1 from rfl,mostK_eq hm]
    exact max_val (hok 4 (by omega)) hm (N:=18) (S:=0) (T:=17) (by decide +kernel) (by decide +kernel) (by decide +kernel) e9Flow5 (by decide +kernel) (P:=fun n _=>decide (n ≠ 2)) rfl rfl (by decide +kernel)
  have m6:mostK e9 eC [] [] eD 6 = 4:=by
    obtain ⟨F,m,hm⟩:=hex 5 (by omega)
    rw [show (6:Nat) = 5 + 1 from rfl,mostK_eq hm]
    exact e9Max hq hm
  unfold curveK curveK curveK curveK curveK curveK curveK;simp only [m0,m1,m2,m3,m4,m5,m6]
  decide
end Go.Step
/- The example is awake. -/
namespace Go.Proofs.YtjehnjhkcmobcaaGreat
open Go.Eng Go.Step
set_option maxRecDepth 100000
set_option maxHeartbeats 4000000

theorem equalX_spec (ρ τ:PH) (v w:Value) (l m:List Sh) (hv:ShAt ρ v l) (hw:ShAt τ w m) (hl:l.length ≤ 9223372036854775807) :
  Ans Tryz.prog (fv 26) [v,w] [ρ,τ] (fun r=>r = .bool (decide (l = m))):=by
 obtain ⟨q,c,rfl,hr⟩:=hv.val encX_len
 obtain ⟨q',c',rfl,hr'⟩:=hw.val encX_len
 refine spec_in (cap:=[]) Tryz.func26 rfl rfl Tryz.ntmps26 rfl envZ (fun N β=>?_)
 by_cases hlen:l.length = m.length
 rotate_left
 ·refine AC ?_
  refine AA ?_;refine Acz ?_;refine AW ?_;refine Ada ?_;refine CL ?_;refine Aa4 ?_
  exact AI (res1 rfl rfl) rsubZ selZ ⟨rfl,by rw [decide_eq_false (fun h=>hlen (by rw [h]))]⟩
 refine Ad3 ?_;refine AW ?_;refine Ada ?_;refine Abb ?_;refine Abt ?_
 refine BA [0,1,12] (0:Nat) (fun k=>k ≤ l.length ∧ l.take k = m.take k) (fun k=>[(13,int k)]) (fun _=>[]) (fun k=>l.length - k) pickZ ⟨by omega,by simp⟩ covZ selZ ?_
 rintro k ⟨hk,hI⟩
 by_cases hlt:k < l.length
 ·have hx:=List.getElem?_eq_getElem hlt
  have hx':=List.getElem?_eq_getElem (show k < m.length by omega)
  obtain ⟨b1,o1,rfl,hRd1,_⟩:=shRow hr hx
  obtain ⟨b2,o2,rfl,hRd2,_⟩:=shRow hr' hx'
  refine Ab7 ?_;refine Abi ?_
  refine A8 (.q 0 (.q 1 (.q 2 (.q 3 (.q 4 (.q 5 (.q 6 (.q 7 (.q 8 .nil))))))))) [] rfl (by kernel_rfl) Sel.nil ?_
  refine Adu ?_;refine BX ?_;refine Adu ?_;refine BX ?_
  focus ((refine' CR rfl _ rfl rfl rfl rfl _; rotate_left; (apply q_neS [l[k].c,l[k].t,l[k].n] [m[k].c,m[k].t,m[k].n] (n:=3); exact rfl; exact rfl; kernel_rfl; kernel_rfl; kernel_rfl; exact rfl; exact rfl)))
  refine A5 ?_
  by_cases he:l[k] = m[k]
  ·rw [he]
   rw [show (!decide ([m[k].c,m[k].t,m[k].n] = [m[k].c,m[k].t,m[k].n])) = false by simp]
   skip
   refine Aae ?_;refine Aa0 ?_
   refine AY (k + 1) ⟨by omega,?_⟩ (by omega) covZ selZ
   rw [List.take_succ_eq_append_getElem hlt,List.take_succ_eq_append_getElem (show k < m.length by omega),hI,he]
  ·have hne:¬ ([l[k].c,l[k].t,l[k].n] = [m[k].c,m[k].t,m[k].n]):=fun h=>he (by
    simp only [List.cons.injEq,and_true] at h
    generalize l[k] = x at *
    generalize m[k] = y at *
    obtain ⟨x1,x2,x3⟩:=x
    obtain ⟨y1,y2,y3⟩:=y
    simp only at h
    rw [h.1,h.2.1,h.2.2])
   rw [show (!decide ([l[k].c,l[k].t,l[k].n] = [m[k].c,m[k].t,m[k].n])) = true by simp only [decide_eq_false hne,Bool.not_false]]
   skip
   refine AM rfl ?_;refine Aak ?_
   exact AI (res1 rfl rfl) rsubZ selZ ⟨rfl,by rw [decide_eq_false (fun h=>he (by subst h; rfl))]⟩
 ·rw [List.take_of_length_le (by omega),List.take_of_length_le (by omega)] at hI
  refine Aew ?_
  exact AI (res1 rfl rfl) rsubZ selZ ⟨rfl,by rw [decide_eq_true hI]⟩
theorem example54_spec:Eng.Spec Tryz.prog (fv 24) [] [] [] (fun r H'=>∃ bq bc,r = .tuple #[.agg #[.slice (some ⟨bq,0,none⟩) 3 3,.slice (some ⟨bc,0,none⟩) 2 2,.slice none 0 0,.slice none 0 0],.agg #[int 0,int 2,int 4,int 0,int 6]] ∧ H' = [sng bq (.cells #[int 9,int 1,int 9] 3 (0,0)),sng bc (.cells #[int 0,int 1,int 0,int 2,int 3,int 1,int 0,int 1,int 2,int 3,int 5,int 3,int 1,int 0] 114 (0,0))]):=by
 refine spec_in (cap:=[]) Tryz.func24 rfl rfl Tryz.ntmps24 rfl envZ (fun N β=>?_)
 refine Aa ?_;refine AX ?_; rintro _ _ ⟨b,rfl,rfl⟩;refine AX ?_; rintro _ _ ⟨b,rfl,rfl⟩;refine AE ?_;refine Aa ?_;refine BD ?_; rintro _ _ ⟨b,rfl,rfl⟩;refine BQ ?_;refine BQ ?_
 focus ((refine' BJ _ rfl rfl rfl _; rotate_left; (focus (apply C6; exact rfl; exact rfl; exact rfl; exact rfl; exact rfl; exact (by (repeat (first | exact (fun v hv=>absurd hv List.not_mem_nil) | (refine List.forall_mem_cons.2 ⟨?_,?_⟩; (focus (first | exact rfl | assumption))))); first | done | fail); exact Flat.agg7 (Flat.agg7 Flat.nil); exact rfl)); rintro _ _ ⟨b,rfl,rfl⟩))
 refine BQ ?_
 revert b; intro bc
 revert b; intro bq
 revert b; intro bd
 revert b; intro bt
 refine CI (BN (out:=[.slice (some ⟨bq,0,none⟩) 3 3,.slice (some ⟨bc,0,none⟩) 2 2,.slice none 0 0,.slice none 0 0]) rfl rfl rfl rfl rfl) rfl rfl rfl ?_;refine BQ ?_;refine AU ?_; rintro _ _ ⟨rfl,rfl⟩;refine AU ?_; rintro _ _ ⟨rfl,rfl⟩;refine AE ?_;exact AI (resS2 (b1:=bt) (b2:=bd) (T:=29) (U:=31) (v1:=[.slice (some ⟨bq,0,none⟩) 3 3,.slice (some ⟨bc,0,none⟩) 2 2,.slice none 0 0,.slice none 0 0]) (v2:=[int 0,int 2,int 4,int 0,int 6]) rfl rfl rfl rfl rfl rfl rfl (cells_own memZ) (cells_own memZ)) rsubZ selZ ⟨bq,bc,rfl,rfl⟩
set_option maxHeartbeats 64000000 in
theorem awake54_spec:Ans Tryz.prog (fv 7) [] [] (fun r=>r = .bool true):=by
 have hq:=vok eValid
 have hok:=vok e9Valid
 have hoks:∀ j:Nat,j < 6 → VOk e9 eC [] [] (atE eD (eD.r + ((j + 1:Nat):Int))):=fun j hj=>vok (valid_at e9Valid (show (0:Int) + ((j + 1:Nat):Int) ≤ 6 by omega))
 refine spec_in (cap:=[]) Tryz.func7 rfl rfl Tryz.ntmps7 rfl envZ (fun N β=>?_)
 refine B4 ?_;refine Aak ?_;refine Aa ?_;refine BB example54_spec rfl rfl Takes.nil rdZ rfl rfl ?_;rintro _ _ ⟨bq,bc,rfl,rfl⟩;refine AS (ρ:=sng bq (.cells #[int 9,int 1,int 9] 3 (0,0))) takeZ ?_;refine AS (ρ:=sng bc (.cells #[int 0,int 1,int 0,int 2,int 3,int 1,int 0,int 1,int 2,int 3,int 5,int 3,int 1,int 0] 114 (0,0))) takeZ ?_;refine AS (ρ:=emp) takeZ ?_;refine Aa8 ?_;refine AX ?_; rintro _ _ ⟨b,rfl,rfl⟩;refine AX ?_; rintro _ _ ⟨b,rfl,rfl⟩;refine AU ?_; rintro _ _ ⟨rfl,rfl⟩;refine AU ?_; rintro _ _ ⟨rfl,rfl⟩;refine AE ?_;refine Ab9 ?_
 revert b; intro bd
 revert b; intro bt
 refine AS (ρ:=sng bt _) takeZ ?_
 have ct:=rdB bt 29 [.slice (some ⟨bq,0,none⟩) 3 3,.slice (some ⟨bc,0,none⟩) 2 2,.slice none 0 0,.slice none 0 0]
 have hT:TbAt (sng bq (.cells #[int 9,int 1,int 9] 3 (0,0))) (sng bc (.cells #[int 0,int 1,int 0,int 2,int 3,int 1,int 0,int 1,int 2,int 3,int 5,int 3,int 1,int 0] 114 (0,0))) emp emp (some ⟨bq,0,none⟩) (some ⟨bc,0,none⟩) none none 3 2 0 0 e9 eC [] []:=
  ⟨slE_sng (l:=e9) Eng.encI_len,slE_sng (l:=eC) encC_len,by decide,by decide,by decide,⟨rfl,.inl ⟨rfl,none,0,rfl⟩⟩,by decide,⟨rfl,.inl ⟨rfl,none,0,rfl⟩⟩,by decide⟩
 refine BB (Plan_spec hT eD) rfl rfl Takes.nil rdZ rfl rfl ?_;rintro _ _ (⟨_,acc,vol,ss,c,a,σ1,σ2,σ3,rfl,rfl,hPO,p1,k1,L,p2,k2,rfl,hS,hC,hL⟩ | ⟨hv,_⟩)
 rotate_left
 ·rw [e9Valid] at hv; simp at hv
 obtain ⟨rfl,rfl,rfl,rfl⟩:=e9Plan hq hok hPO
 refine AS (ρ:=σ1) takeZ ?_;refine Aa8 ?_;refine AX ?_; rintro _ _ ⟨b,rfl,rfl⟩;refine AU ?_; rintro _ _ ⟨rfl,rfl⟩;refine Aab ?_;refine Ab9 ?_;refine CB (Curve_spec hT eD) rfl rfl rdZ rfl rfl ?_;rintro _ χc ⟨uc,rfl,hOc,hex⟩;rw [if_pos e9Valid] at hOc
 have hcv:curveK e9 eC [] [] eD (eD.e - eD.r).toNat = [⟨5,3⟩,⟨6,4⟩]:=e9Curve hq hoks (fun j hj=>hex e9Valid j hj)
 rw [hcv] at hOc
 have hLc:LvAt χc uc [⟨5,3⟩,⟨6,4⟩]:=hOc.at
 obtain ⟨pu,ku,rfl⟩:=hOc.form
 refine AS (ρ:=χc) takeZ ?_;rw [if_pos e9Valid];refine Abl ?_;refine Aa ?_;refine AG ?_;refine BE ?_; rintro _ _ ⟨rfl,rfl⟩;refine AE ?_;refine Ab9 ?_;refine BB (Plan_spec hT eD5) rfl rfl Takes.nil rdZ rfl rfl ?_;rintro _ _ (⟨_,acc,vol,ss,c,a,σ4,σ5,σ6,rfl,rfl,hPO5,p3,k3,L5,p4,k4,rfl,hS5,hC5,hL5⟩ | ⟨hv,_⟩)
 rotate_left
 ·rw [e9Valid5] at hv; simp at hv
 obtain ⟨rfl,rfl,hcl⟩:=e9Plan5 hq hPO5
 have hLl:L5.length = 3:=by rw [← hcl,← hL5,List.length_map]
 rw [hLl];refine Aa8 ?_;refine AX ?_; rintro _ _ ⟨b,rfl,rfl⟩;refine AU ?_; rintro _ _ ⟨rfl,rfl⟩;refine Aa6 ?_;refine CT ?_;refine Aa1 ?_;refine CT ?_;refine AN ?_;refine Aa1 ?_;refine CT ?_;refine Acy ?_;refine BQ ?_;refine BQ ?_;refine BQ ?_;refine BQ ?_;refine BD ?_; rintro _ _ ⟨b,rfl,rfl⟩
 revert b; intro bx
 have hx:=equalX_spec σ1 (sng bx (.cells #[int 0,int 0,int 1,int 0,int 1,int 3,int 1,int 3,int 3,int 1,int 4,int 1] 62 (0,0))) (.slice p1 eL.length k1) (.slice (some ⟨bx,0,none⟩) 4 4) eL eL hS (slE_sng (l:=eL) encX_len) (by decide)
 rw [decide_eq_true rfl] at hx;refine A4 hx rfl rfl rdZ rfl rfl ?_;rintro _ rfl;refine AN ?_;refine Aa1 ?_;refine BQ ?_;refine BQ ?_;refine BD ?_; rintro _ _ ⟨b,rfl,rfl⟩
 revert b; intro by_
 have hy:=equalV_spec χc (sng by_ (.cells #[int 5,int 3,int 6,int 4] 72 (0,0))) _ (.slice (some ⟨by_,0,none⟩) 2 2) [⟨5,3⟩,⟨6,4⟩] [⟨5,3⟩,⟨6,4⟩] hLc (slE_sng (l:=[(⟨5,3⟩:Lv),⟨6,4⟩]) encV_len) (by decide)
 rw [decide_eq_true rfl] at hy;refine A4 hy rfl rfl rdZ rfl rfl ?_;rintro _ rfl;refine Acy ?_;refine BF ?_;refine Acy ?_;refine CT ?_;refine Acy ?_;refine AW ?_;refine CT ?_;refine Abz ?_;exact AI (res1 rfl rfl) rsubZ selZ ⟨rfl,rfl⟩
end Go.Proofs.YtjehnjhkcmobcaaGreat
/- Law PlannerAnswers. -/
namespace Go.Proofs.YtjehnjhkcmobcaaGreat
open Go.Eng Go.Step
set_option maxRecDepth 100000
set_option maxHeartbeats 4000000

theorem great54_spec (pq pc pb ph:Option Addr) (kq kc kb kh nq nc nb nh:Nat) (d:Dm):Ans Tryz.prog (fv 15) [.agg #[.slice pq nq kq,.slice pc nc kc,.slice pb nb kb,.slice ph nh kh],.agg #[int d.s,int d.d,int d.v,int d.r,int d.e]] [] (fun r=>∃ b,r = .bool b):=by
 refine spec_in (cap:=[]) Tryz.func15 rfl rfl Tryz.ntmps15 rfl envZ (fun N β=>?_)
 refine Aa ?_;refine BJ (BO rfl) rfl rfl rfl ?_;rintro _ _ ⟨b1,rfl,rfl⟩;refine AS (ρ:=sng b1 _) takeZ ?_
 have c:=rdB b1 29 [.slice pq nq kq,.slice pc nc kc,.slice pb nb kb,.slice ph nh kh]
 have c0:=rdC c 0
 have c1:=rdC c 1
 have c2:=rdC c 2
 have c3:=rdC c 3
 refine BJ (BO rfl) rfl rfl rfl ?_;rintro _ _ ⟨b2,rfl,rfl⟩;refine AS (ρ:=sng b2 _) takeZ ?_
 have cd:=rdB b2 31 [int d.s,int d.d,int d.v,int d.r,int d.e]
 have cd0:=rdC cd 0
 have cd1:=rdC cd 1
 have cd2:=rdC cd 2
 have cd3:=rdC cd 3
 have cd4:=rdC cd 4
 refine Aab ?_;refine Ab9 ?_;refine A4 (great53_spec pq pc pb ph kq kc kb kh nq nc nb nh d) rfl rfl rdZ rfl rfl ?_;rintro _ ⟨b,rfl⟩;refine Aab ?_;exact AI (res1 rfl rfl) rsubZ selZ ⟨rfl,b,rfl⟩
theorem fine54_spec {ρ τ σ υ:PH} {pq pc pb ph:Option Addr} {kq kc kb kh:Nat} {qs:List Int} {cs:List Ct} {bs:List Bk} {hs:List Hd} (hT:TbAt ρ τ σ υ pq pc pb ph kq kc kb kh qs cs bs hs) (d:Dm):Ans Tryz.prog (fv 6) [.agg #[.slice pq qs.length kq,.slice pc cs.length kc,.slice pb bs.length kb,.slice ph hs.length kh],.agg #[int d.s,int d.d,int d.v,int d.r,int d.e]] [ρ,τ,σ,υ] (fun r=>∃ b,r = .bool b ∧ (b = true → validT qs cs bs hs d = true)):=by
 refine spec_in (cap:=[]) Tryz.func6 rfl rfl Tryz.ntmps6 rfl envZ (fun N β=>?_)
 refine Aa ?_;refine BJ (BO rfl) rfl rfl rfl ?_;rintro _ _ ⟨b1,rfl,rfl⟩;refine AS (ρ:=sng b1 _) takeZ ?_
 have ct:=rdB b1 29 [.slice pq qs.length kq,.slice pc cs.length kc,.slice pb bs.length kb,.slice ph hs.length kh]
 have ct0:=rdC ct 0
 have ct1:=rdC ct 1
 have ct2:=rdC ct 2
 have ct3:=rdC ct 3
 have ctp:RdP (sng b1 (.cells #[.slice pq qs.length kq,.slice pc cs.length kc,.slice pb bs.length kb,.slice ph hs.length kh] 29 (0,0))) b1 0 [.slice pq qs.length kq,.slice pc cs.length kc]:=rdP_sng (xs:=[.slice pq qs.length kq,.slice pc cs.length kc,.slice pb bs.length kb,.slice ph hs.length kh]) rfl
 refine BJ (BO rfl) rfl rfl rfl ?_;rintro _ _ ⟨b2,rfl,rfl⟩;refine AS (ρ:=sng b2 _) takeZ ?_
 have cd:=rdB b2 31 [int d.s,int d.d,int d.v,int d.r,int d.e]
 have cd0:=rdC cd 0
 have cd1:=rdC cd 1
 have cd2:=rdC cd 2
 have cd3:=rdC cd 3
 have cd4:=rdC cd 4
 refine Aab ?_;refine Ab9 ?_;refine A4 (great54_spec pq pc pb ph kq kc kb kh qs.length cs.length bs.length hs.length d) rfl rfl rdZ rfl rfl ?_;rintro _ ⟨b,rfl⟩
 cases b with
 | true =>
  refine BF ?_;refine Abf ?_;refine Ab0 ?_
  exact AI (res1 rfl rfl) rsubZ selZ ⟨rfl,false,rfl,fun h=>by simp at h⟩
 | false =>
 refine BF ?_;refine AB ?_;refine AT ?_;refine AT ?_;refine A4 (refCheck53_spec hT d) rfl rfl rdZ rfl rfl ?_;rintro _ rfl;refine Abz ?_
 exact AI (res1 rfl rfl) rsubZ selZ ⟨rfl,validT qs cs bs hs d,rfl,fun h=>h⟩
end Go.Proofs.YtjehnjhkcmobcaaGreat
/- The network of a demand does not lean on its volume. No program in sight. No conditions. -/
namespace Go.Step
theorem waitA_vol {qs:List Int} {hs:List Hd} {d:Dm} (v:Int):∀ m,waitA qs hs ⟨d.s,d.d,v,d.r,d.e⟩ m = waitA qs hs d m
  | 0=>rfl
  | m + 1=>by
    unfold waitA;rw [waitA_vol v m]
    rfl
theorem conN_vol {cs:List Ct} {bs:List Bk} {d:Dm} (v:Int) (i:Nat):conN cs bs ⟨d.s,d.d,v,d.r,d.e⟩ i = conN cs bs d i:=by
  unfold conN
  cases cs[i]? with
  | none=>rfl
  | some c=>rfl
theorem conA_vol {cs:List Ct} {bs:List Bk} {d:Dm} (v:Int):∀ m,conA cs bs ⟨d.s,d.d,v,d.r,d.e⟩ m = conA cs bs d m
  | 0=>rfl
  | m + 1=>by
    unfold conA;rw [conA_vol v m,conN_vol]
theorem max_vol {qs:List Int} {cs:List Ct} {bs:List Bk} {hs:List Hd} {d:Dm} {F:List Int} {m e:Int} (v:Int) (h:MaxN qs cs bs hs d F m e):MaxN qs cs bs hs ⟨d.s,d.d,v,d.r,d.e⟩ F m e:=by
  have e1:arcsG qs cs bs hs ⟨d.s,d.d,v,d.r,d.e⟩ = arcsG qs cs bs hs d:=by
    unfold arcsG arcsE;rw [waitA_vol,conA_vol]
  unfold MaxN;rw [e1];exact h
end Go.Step
/- Law PlannerTogether. -/
namespace Go.Proofs.YtjehnjhkcmobcaaGreat
open Go.Eng Go.Step
set_option maxRecDepth 100000
set_option maxHeartbeats 4000000

set_option maxHeartbeats 64000000 in
theorem together_law {ρ τ σ υ:PH} {pq pc pb ph:Option Addr} {kq kc kb kh:Nat} {qs:List Int} {cs:List Ct} {bs:List Bk} {hs:List Hd} (hT:TbAt ρ τ σ υ pq pc pb ph kq kc kb kh qs cs bs hs) (d:Dm) (z:Int) (hz:0 ≤ z ∧ z ≤ 65535) :
  Ans Tryz.prog (fv 3) [.agg #[.slice pq qs.length kq,.slice pc cs.length kc,.slice pb bs.length kb,.slice ph hs.length kh],.agg #[int d.s,int d.d,int d.v,int d.r,int d.e],.int .u16 z] [ρ,τ,σ,υ] (fun r=>r = .bool true):=by
 have hf:=fine54_spec hT d
 have hlq:=hT.lq
 refine spec_in (cap:=[]) Tryz.func3 rfl rfl Tryz.ntmps3 rfl envZ (fun N β=>?_)
 refine Aa ?_;refine BJ (BO rfl) rfl rfl rfl ?_;rintro _ _ ⟨b1,rfl,rfl⟩;refine AS (ρ:=sng b1 _) takeZ ?_
 have ct:=rdB b1 29 [.slice pq qs.length kq,.slice pc cs.length kc,.slice pb bs.length kb,.slice ph hs.length kh]
 have ct0:=rdC ct 0
 have ct1:=rdC ct 1
 have ct2:=rdC ct 2
 have ct3:=rdC ct 3
 have ctp:RdP (sng b1 (.cells #[.slice pq qs.length kq,.slice pc cs.length kc,.slice pb bs.length kb,.slice ph hs.length kh] 29 (0,0))) b1 0 [.slice pq qs.length kq,.slice pc cs.length kc]:=rdP_sng (xs:=[.slice pq qs.length kq,.slice pc cs.length kc,.slice pb bs.length kb,.slice ph hs.length kh]) rfl
 refine BJ (BO rfl) rfl rfl rfl ?_;rintro _ _ ⟨b2,rfl,rfl⟩;refine Abi ?_;refine Ab9 ?_;refine A4 hf rfl rfl rdZ rfl rfl ?_;rintro _ ⟨fb,rfl,hfb⟩
 cases fb with
 | false =>
  refine Adm ?_;refine Aa ?_;refine A4 awake54_spec rfl rfl rdZ rfl rfl ?_;rintro _ rfl;refine Aab ?_;exact AI (res1 rfl rfl) rsubZ selZ ⟨rfl,rfl⟩
 | true =>
 have hv:=hfb rfl
 have h:=vok hv
 have hdm:=h.dm
 unfold okDm at hdm
 have hnf:¬ validT qs cs bs hs d = false:=by rw [hv]; simp
 refine Acb ?_;refine Ab9 ?_;refine A4 (Most_spec hT d) rfl rfl rdZ rfl rfl ?_;rintro _ (⟨_,F,m,hm,rfl⟩ | ⟨h1,_⟩)
 rotate_left
 ·exact absurd h1 hnf
 have hm0:=max_nonneg h hm
 have hms:=max_small h hm
 by_cases hmz:m = 0
 ·subst hmz
  refine Ab8 ?_;refine Acv ?_;refine Adx ?_;refine Aa ?_;refine A4 awake54_spec rfl rfl rdZ rfl rfl ?_;rintro _ rfl;refine Aab ?_;exact AI (res1 rfl rfl) rsubZ selZ ⟨rfl,rfl⟩
 obtain ⟨r,hr⟩:∃ r,r = z % m:=⟨_,rfl⟩
 have hr0:0 ≤ r:=by rw [hr]; exact Int.emod_nonneg _ hmz
 have hr1:r < m:=by rw [hr]; exact Int.emod_lt_of_pos _ (by omega)
 obtain ⟨v1,hv1⟩:∃ v1,v1 = 1 + r:=⟨_,rfl⟩
 refine Ab8 ?_;refine Acv ?_;refine CH ?_;refine Aai ?_;refine Aad ?_;refine F7 ?_;refine AB ?_;refine zq_rem ?_;refine CE ?_;refine AG ?_
 focus ((rw [← hr]))
 focus ((rw [← hv1]))
 refine BE ?_; rintro _ _ ⟨rfl,rfl⟩;refine AE ?_;refine Ab9 ?_
 have hd1:okDm qs.length ⟨d.s,d.d,v1,d.r,d.e⟩:=by
  unfold okDm
  dsimp only
  omega
 have hvd:=valid_dm hv hd1
 have hvk:=vok hvd
 refine AS (ρ:=sng b2 (.cells #[int d.s,int d.d,int v1,int d.r,int d.e] 31 (0,0))) takeZ ?_
 have cd:=rdB b2 31 [int d.s,int d.d,int v1,int d.r,int d.e]
 have cd2:=rdC cd 2
 skip
 refine BB (Plan_spec hT ⟨d.s,d.d,v1,d.r,d.e⟩) rfl rfl Takes.nil rdZ rfl rfl ?_;rintro _ _ (⟨_,acc,vol,ss,c,a,σ1,σ2,σ3,rfl,rfl,hP,p1,k1,L,p2,k2,rfl,hS,hC,hL⟩ | ⟨h1,_⟩)
 rotate_left
 ·rw [hvd] at h1; simp at h1
 refine AS (ρ:=σ1) takeZ ?_
 obtain ⟨F2,m2,hm2,hP⟩:=hP
 obtain ⟨eF,em,_⟩:=hm2.uniq (max_vol v1 hm)
 subst em
 rcases hP with ⟨hlt,_⟩ | ⟨hle,rfl,hvol,rfl,ps,hp,hss⟩
 ·dsimp only at hlt
  omega
 replace hvol:v1 = vol:=hvol.symm
 subst hvol
 have hsl:ss.length ≤ 500000:=by
  have hEl:=hvk.len
  have hl:=shipsF_len (arcsE qs cs bs hs ⟨d.s,d.d,v1,d.r,d.e⟩) (partF qs cs bs hs ⟨d.s,d.d,v1,d.r,d.e⟩ ps)
  rw [← hss] at hl;omega
 have hfl:=ships_part hvk hvd hm2 hp hle
 rw [← hss] at hfl;clear hss
 have hRs:=Reserve_spec σ1 hT _ ss hS hsl
 refine Aa8 ?_;refine AX ?_; rintro _ _ ⟨b,rfl,rfl⟩;refine AU ?_; rintro _ _ ⟨rfl,rfl⟩;refine Acz ?_;refine Adq ?_;refine BF ?_;refine Abg ?_;refine Abm ?_;refine Aac ?_;refine BB hRs rfl rfl Takes.nil rdZ rfl rfl ?_;rintro _ _ (⟨e,he,rfl,rfl,hR⟩ | ⟨bs',hs',p5,k5,p6,k6,σ5,σ6,rfl,rfl,hR,l5,l6,hB,hH⟩)
 ·rcases flow_reserve hvd hvk hfl (by dsimp only; omega) hR with rfl | ⟨rfl,_⟩
  rotate_left
  ·exact absurd rfl he
  refine Aa8 ?_;refine AX ?_; rintro _ _ ⟨b,rfl,rfl⟩;refine AU ?_; rintro _ _ ⟨rfl,rfl⟩;refine Acz ?_;refine CL ?_;refine Abu ?_;refine Aah ?_;refine Aad ?_;refine CT ?_;refine AB ?_;refine A4 awake54_spec rfl rfl rdZ rfl rfl ?_;rintro _ rfl;refine Abz ?_;exact AI (res1 rfl rfl) rsubZ selZ ⟨rfl,rfl⟩
 refine AS (ρ:=σ5) takeZ ?_;refine AS (ρ:=σ6) takeZ ?_
 rcases flow_reserve hvd hvk hfl (by dsimp only; omega) hR with h4 | ⟨_,R,hRO,_,_,hc2,hv2⟩
 ·omega
 have hT2:TbAt ρ τ σ5 σ6 pq pc p5 p6 kq kc k5 k6 qs cs bs' hs':=⟨hT.hq,hT.hc,hT.hcap,hT.lq,hT.lc,hB,by omega,hH,by omega⟩
 have hct:=chkTab_spec hT2
 rw [hc2] at hct;refine Aa8 ?_;refine AX ?_; rintro _ _ ⟨b,rfl,rfl⟩;refine AU ?_; rintro _ _ ⟨rfl,rfl⟩;refine Acz ?_;refine BI ?_;refine AB ?_;refine AT ?_;refine A4 hct rfl rfl rdZ rfl rfl ?_;rintro _ rfl;refine BI ?_;refine Abg ?_;refine Ab9 ?_;refine A4 (Most_spec hT2 ⟨d.s,d.d,v1,d.r,d.e⟩) rfl rfl rdZ rfl rfl ?_;rintro _ (⟨_,F3,m3,hm3,rfl⟩ | ⟨h1,_⟩)
 rotate_left
 ·rw [hv2] at h1; simp at h1
 have hfin:=reserve_most hvd hvk hfl (by dsimp only; omega) hRO l5 l6 (vok hv2) hm2 hm3 (by omega)
 have hm30:=max_nonneg (vok hv2) hm3
 dsimp only at hfin
 refine Ac1 ?_;refine CT ?_;refine AB ?_;refine Aaf ?_;refine CE ?_;refine AB ?_;refine CU ?_;refine AN ?_;refine AB ?_;refine A4 awake54_spec rfl rfl rdZ rfl rfl ?_;rintro _ rfl;refine Abz ?_;exact AI (res1 rfl rfl) rsubZ selZ ⟨rfl,rfl⟩
end Go.Proofs.YtjehnjhkcmobcaaGreat
/- The rows: each law, for every input. -/
namespace Go.Proofs.YtjehnjhkcmobcaaGreat
open Go.Eng Go.Step
set_option maxRecDepth 100000
set_option maxHeartbeats 4000000
open Go.ChangeShapes Go.WideShapes Go.ChangeAt Go.RowKit

set_option maxRecDepth 100000 in
theorem plannerTogether_lifted (os:Os) (started:os.Started) (H:Type) (enc:TypeId × Value → H) :
  ReturnsInHanded {} Tryz.checked os 3 .any (Rows.plannerTogetherSpec.pre6 enc Tryz.prog Tryz.f3 Rows.plannerTogetherRow.domain false) (Rows.plannerTogetherSpec.post enc Tryz.prog Tryz.f3 false true false false):=by
 refine returnsInHanded_of_change (C:=Tryz.checked) Tryz.own started (by kernel_rfl) Tryz.func3
  (ChangeSpec.witness6 (enc:=enc) (C:=Tryz.checked) false ⟨#[],#[.agg #[.slice none 0 0,.slice none 0 0,.slice none 0 0,.slice none 0 0],.agg #[.int .i64 0,.int .i64 0,.int .i64 0,.int .i64 0,.int .i64 0],.int .u16 0],[]⟩ 8 (by kernel_rfl) (by kernel_rfl) (by kernel_rfl) (by kernel_rfl)) ?_
 intro W base args ds gs before hval0 hW hcnd _
 have hval:∀ (j:Nat) t v,Tryz.f3.params[j]? = some t → args[j]? = some v → Value.okWide Tryz.prog W .any base t v:=hval0
 have hW':=hW
 obtain ⟨p,q,hA0,hV,rfl,hfz,hnd⟩:=hW
 have hA:DataW.TrodAll enc Tryz.prog W 0 (fun _=>true) true Tryz.f3.params.toList args.toList ds p:=hA0
 rw [Tryz.params3] at hA hval
 obtain ⟨v0,vs0,d0,ds0,p0,q0,hargs,rfl,rfl,h0,r0⟩:=trodAll_cons hA
 obtain ⟨v1,vs1,d1,ds1,p1,q1,rfl,rfl,rfl,h1,r1⟩:=trodAll_cons r0
 obtain ⟨v2,vs2,d2,ds2,p2,q2,rfl,rfl,rfl,h2,r2⟩:=trodAll_cons r1
 obtain ⟨rfl,rfl,rfl⟩:=trodAll_nil r2
 obtain rfl:args = #[v0,v1,v2]:=by cases args; simp_all
 obtain ⟨rfl,rfl⟩:=trodVars_none hV
 have lt0:∀ x ∈ p0,x.block < W.heap.size:=by obtain ⟨m,hm⟩:=h0; exact DataW.trod_lt m _ _ _ hm
 have lt1:∀ x ∈ p1,x.block < W.heap.size:=by obtain ⟨m,hm⟩:=h1; exact DataW.trod_lt m _ _ _ hm
 have lt2:∀ x ∈ p2,x.block < W.heap.size:=by obtain ⟨m,hm⟩:=h2; exact DataW.trod_lt m _ _ _ hm
 have hlaw:Ans Tryz.prog (fv 3) [v0,v1,v2] [heapPH W] (fun v=>v = .bool true):=by
  obtain ⟨pq,pc,pb,ph,kq,kc,kb,kh,qs,cs,bs,hs,rfl,hT⟩:=tables_of (hval 0 _ v0 rfl rfl) (RdT.of h0)
  obtain ⟨d,rfl,id0,id1,id2,id3,id4⟩:=demand_of (hval 1 _ v1 rfl rfl) (RdT.of h1)
  obtain ⟨z,rfl,_,_,wz⟩:=open_int Tryz.underlying32 (hval 2 _ v2 rfl rfl) h2
  exact (together_law hT d z (wf_u16 wz)).rsub (fun _ h=>by simpa using h)
 refine (law_calls Tryz.func3 rfl rfl hlaw).mono fun e W' ⟨he,bel⟩=>?_
 subst he
 exact ⟨_,rfl,_,_,_,[],_,[],hW',trodAll_mk1 (shut_bool Tryz.underlying4 _),(trodAll_cons_mk (Below.trod Tryz.laidOut (by kernel_rfl) (of_decide_eq_true (by kernel_rfl)) h0 bel lt0) (trodAll_cons_mk (Below.trod Tryz.laidOut (by kernel_rfl) (of_decide_eq_true (by kernel_rfl)) h1 bel lt1) (trodAll_cons_mk (Below.trod Tryz.laidOut (by kernel_rfl) (of_decide_eq_true (by kernel_rfl)) h2 bel lt2) trodAll_mk0))),rfl,bel.frame _,fun h=>by cases h⟩
theorem plannerTogether_holds:Rows.PlannerTogetherSaid:=
 OpenClaim.holds_of_wide 3 Tryz.f3 rfl rfl rfl rfl rfl rfl rfl ⟨rfl,rfl,rfl,rfl,rfl⟩ rfl rfl rfl rfl rfl (by kernel_rfl) Tryz.func3 (by kernel_rfl)
  (of_decide_eq_true (by kernel_rfl)) (by unfold Func.isWrapper; first | (rw [if_pos (by decide +kernel)]; kernel_rfl) | (rw [if_neg (by decide +kernel)]; exact ⟨rfl,rfl⟩))
  (fun os started H enc _=>plannerTogether_lifted os started H enc)
end Go.Proofs.YtjehnjhkcmobcaaGreat
