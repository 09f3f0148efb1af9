/- Texts of this proof, one after the other; no conditions. -/
import Derived.Test.YtphehihohghfoaaGreatWB11
import Derived.Test.YtphehihohghfoaaGreatWB3
import Derived.Test.YtphehihohghfoaaGreatWB9
import Derived.Test.YtphehihohghfoaaGreatWB2
import Derived.Test.YtphehihohghfoaaGreatWB8
set_option linter.all false
/- The document's network, its vertices and shipments. -/
namespace Go.Proofs.YtphehihohghfoaaGreat
open Go.Eng Go.Step
set_option maxRecDepth 100000
set_option maxHeartbeats 4000000

theorem RdN.pre {ρ:PH} {b o:Nat} {xs ys:List Value} (h:RdN ρ b o (xs ++ ys)):RdP ρ b o xs:=⟨fun j v hv=>h j v (by
 have hl:=(List.getElem?_eq_some_iff.1 hv).1
 rw [List.getElem?_append_left hl]
 exact hv)⟩
theorem rowN {α:Type} {enc:α → List Value} {s:Nat} (he:∀ x,(enc x).length = s) {ρ:PH} {p:Option Addr} {k:Nat} {l:List α} (h:SlE enc s ρ (.slice p l.length k) l):RowsE enc s ρ p l:=by
 obtain ⟨_,_,e,hr⟩:=h.val he
 simp only [Value.slice.injEq] at e
 obtain ⟨rfl,_,_⟩:=e
 exact hr
set_option maxHeartbeats 32000000 in
theorem refGraph53_spec {ρ τ σ υ:PH} {pq pc pb ph:Option Addr} {kq kc kb kh:Nat} {qs:List Int} {cs:List Ct} {bs:List Bk} {hs:List Hd} (hT:TbAt ρ τ σ υ pq pc pb ph kq kc kb kh qs cs bs hs) (d:Dm) :
  Makes Tryz.prog (fv 54) [.agg #[.slice pq qs.length kq,.slice pc cs.length kc,.slice pb bs.length kb,.slice ph hs.length kh],.agg #[int d.s,int d.d,int d.v,int d.r,int d.e]] [ρ,τ,σ,υ] (fun r χ'=>if validT qs cs bs hs d = true then ∃ u,r = .tuple #[.agg #[int (vsN qs d),u,int (vtx d d.s d.r),int (vtx d d.d d.e)],int 0] ∧ OwnS 141 3 u (arcsG qs cs bs hs d).length ((arcsG qs cs bs hs d).flatMap encA) χ' else r = .tuple #[.agg #[int 0,.slice none 0 0,int 0,int 0],int 1] ∧ χ' = emp):=by
 refine spec_in (cap:=[]) Tryz.func54 rfl rfl Tryz.ntmps54 rfl envZ (fun N β=>?_)
 refine AD ?_;refine AA ?_;refine BI (BK rfl) rfl rfl rfl ?_;rintro _ _ ⟨b1,rfl,rfl⟩;refine AS (ρ:=sng b1 _) takeZ ?_
 have ct:RdN (sng b1 (.cells #[.slice pq qs.length kq,.slice pc cs.length kc,.slice pb bs.length kb,.slice ph hs.length kh] 29 (0,0))) b1 0 [.slice pq qs.length kq,.slice pc cs.length kc,.slice pb bs.length kb,.slice ph hs.length kh]:=rdN_sng (vs:=[.slice pq qs.length kq,.slice pc cs.length kc,.slice pb bs.length kb,.slice ph hs.length kh])
 have ct0:rdc (sng b1 (.cells #[.slice pq qs.length kq,.slice pc cs.length kc,.slice pb bs.length kb,.slice ph hs.length kh] 29 (0,0))) b1 0 = some (.slice pq qs.length kq):=by rw [rdc_sng]; rfl
 have ct1:rdc (sng b1 (.cells #[.slice pq qs.length kq,.slice pc cs.length kc,.slice pb bs.length kb,.slice ph hs.length kh] 29 (0,0))) b1 1 = some (.slice pc cs.length kc):=by rw [rdc_sng]; rfl
 have ct2:rdc (sng b1 (.cells #[.slice pq qs.length kq,.slice pc cs.length kc,.slice pb bs.length kb,.slice ph hs.length kh] 29 (0,0))) b1 2 = some (.slice pb bs.length kb):=by rw [rdc_sng]; rfl
 have ct3:rdc (sng b1 (.cells #[.slice pq qs.length kq,.slice pc cs.length kc,.slice pb bs.length kb,.slice ph hs.length kh] 29 (0,0))) b1 3 = some (.slice ph hs.length kh):=by rw [rdc_sng]; rfl
 have ctp:RdP (sng b1 (.cells #[.slice pq qs.length kq,.slice pc cs.length kc,.slice pb bs.length kb,.slice ph hs.length kh] 29 (0,0))) b1 0 [.slice pq qs.length kq,.slice pc cs.length kc]:=rdP_sng (xs:=[.slice pq qs.length kq,.slice pc cs.length kc,.slice pb bs.length kb,.slice ph hs.length kh]) rfl
 refine BI (BK rfl) rfl rfl rfl ?_;rintro _ _ ⟨b2,rfl,rfl⟩;refine AS (ρ:=sng b2 _) takeZ ?_
 have cd:RdN (sng b2 (.cells #[int d.s,int d.d,int d.v,int d.r,int d.e] 31 (0,0))) b2 0 [int d.s,int d.d,int d.v,int d.r,int d.e]:=rdN_sng (vs:=[int d.s,int d.d,int d.v,int d.r,int d.e])
 have cd0:rdc (sng b2 (.cells #[int d.s,int d.d,int d.v,int d.r,int d.e] 31 (0,0))) b2 0 = some (int d.s):=by rw [rdc_sng]; rfl
 have cd1:rdc (sng b2 (.cells #[int d.s,int d.d,int d.v,int d.r,int d.e] 31 (0,0))) b2 1 = some (int d.d):=by rw [rdc_sng]; rfl
 have cd2:rdc (sng b2 (.cells #[int d.s,int d.d,int d.v,int d.r,int d.e] 31 (0,0))) b2 2 = some (int d.v):=by rw [rdc_sng]; rfl
 have cd3:rdc (sng b2 (.cells #[int d.s,int d.d,int d.v,int d.r,int d.e] 31 (0,0))) b2 3 = some (int d.r):=by rw [rdc_sng]; rfl
 have cd4:rdc (sng b2 (.cells #[int d.s,int d.d,int d.v,int d.r,int d.e] 31 (0,0))) b2 4 = some (int d.e):=by rw [rdc_sng]; rfl
 refine BV ?_;refine A2 ?_; rintro _ _ ⟨b,rfl,rfl⟩;refine AC ?_;refine AE ?_;refine AD ?_;refine AD ?_;refine AA ?_;refine AT ?_;refine AT ?_
 revert b; intro b4
 refine A4 (refCheck53_spec hT d) rfl rfl rdZ rfl rfl ?_;rintro _ rfl
 cases hv:validT qs cs bs hs d with
 | false =>
  refine BJ ?_;refine AE ?_;refine AO rfl ?_;refine AD ?_;refine AA ?_;refine BT ?_;refine AX ?_; rintro _ _ ⟨rfl,rfl⟩;refine AC ?_;refine AE ?_
  exact AI (resSE (b1:=b4) (T:=69) (v1:=[int 0,.slice none 0 0,int 0,int 0]) rfl rfl rfl rfl rfl (cells_own memZ)) rsubZ selZ ⟨emp,by (try dsimp only); rw [if_neg (by simp)]; exact ⟨rfl,rfl⟩,rfl⟩
 | true =>
 have h:=vok hv
 have hdm:=h.dm
 unfold okDm at hdm
 have hnq:=h.nq
 have hvs:=h.vs
 have hmul:(qs.length:Int) * (d.e - d.r + 1) = vsN qs d:=rfl
 have hv1:=refVtx_spec d d.s d.r (by omega) (by omega) (by omega)
 have hv2:=refVtx_spec d d.d d.e (by omega) (by omega) (by omega)
 have hEl:=ea_len qs cs bs hs d h
 have hone:∀ z n (xs:List Value) (χ:PH),OwnS 141 3 z n xs χ → z.oneCell' = true:=fun z n xs χ h=>by obtain ⟨_,_,rfl⟩:=h.form; rfl
 refine BJ ?_;refine AE ?_;refine AN rfl ?_;refine AK ?_;refine AD ?_
 refine E9 (X:=Nat) [2,3,4] (fun _=>True) (fun x=>[(6,.pointer (some ⟨x,0,none⟩))]) (fun x=>[sng x (.cells #[int (vsN qs d),.slice none 0 0,int (vtx d d.s d.r),int (vtx d d.d d.e)] 69 (0,0)),sng b4 (.cells #[int 0,.slice none 0 0,int 0,int 0] 69 (0,0)),emp]) pickZ ?_ ?_
 ·refine A6 (.q 0 (.q 1 (.q 2 (.q 3 (.q 4 (.q 5 (.q 6 (.q 7 (.q 8 (.q 9 (.q 10 (.q 11 (.q 12 (.q 13 (.q 14 (.q 15 (.q 17 (.q 18 (.q 19 (.q 20 (.q 21 (.l2 16 .e (.l2 22 .e (.q 23 (.l 24 .e (.l 25 .b .nil))) 24 .e (.l 22 .e (.q 23 (.l 25 .b .nil)))) 24 .e (.l 16 .e (.l 22 .e (.q 23 (.l 25 .b .nil)))))))))))))))))))))))))) [] rfl (by kernel_rfl) Sel.nil ?_
  repeat' (first
   | (refine AR ?_)
   | (refine A0 ?_)
   | (refine DA ?_)
   | (refine CW ?_)
   | (refine DN ?_)
   | (refine zd_mul ?_)
   | (refine BL ?_)
   | (refine CD ?_)
   | (focus ((refine CL (CB rfl hv1 rfl rfl rdZ rfl rfl ?_); rintro _ rfl)))
   | (focus ((refine CB rfl hv1 rfl rfl rdZ rfl rfl ?_; rintro _ rfl)))
   | (refine A8 ?_)
   | (refine FS ?_ ?_)
   | (focus ((refine CL (CB rfl hv2 rfl rfl rdZ rfl rfl ?_); rintro _ rfl)))
   | (focus ((refine CB rfl hv2 rfl rfl rdZ rfl rfl ?_; rintro _ rfl)))
   | (focus ((refine CL ?_; refine' FJ rfl _ rfl rfl _ _; rotate_left; (focus (apply DC; exact rfl; exact rfl; exact takeZ; exact (by (repeat (first | exact (fun v hv=>absurd hv List.not_mem_nil) | (refine List.forall_mem_cons.2 ⟨?_,?_⟩; (focus (first | exact rfl | assumption))))); first | done | fail); exact rfl; exact rfl)); (focus (rintro _ _ ⟨_,rfl⟩ w hw; exact hw.sel Sel.nil)); rintro _ _ ⟨rfl,rfl⟩)))
   | (refine DI ?_; rintro _ _ ⟨b,rfl,rfl⟩)
   | (refine E0 ?_; rintro _ _ ⟨b,rfl,rfl⟩)
   | fail)
  all_goals (rw [hmul]; refine D7 _ trivial covZ selZ)
 rintro b6 _;refine AD ?_;refine AA ?_;refine AT ?_;refine AT ?_;refine BM (refArcs_spec hT d h) rfl rfl rdZ rfl rfl ?_;rintro ua χa hOa
 have hSa:SlE encRA 5 χa ua (arcsE qs cs bs hs d):=hOa.at
 obtain ⟨pa,ka,rfl⟩:=hOa.form
 have hra:=rowN encRA_len hSa
 refine AS (ρ:=χa) takeZ ?_
 have hAG:arcsG qs cs bs hs d = (arcsE qs cs bs hs d).map (fun x=>x.a):=rfl
 rw [hAG]
 generalize arcsE qs cs bs hs d = L at hEl hOa hSa hra
 clear hAG;refine AC ?_;refine AE ?_;refine AD ?_;refine AD ?_;refine AA ?_;refine AC ?_;refine AE ?_;refine AP ?_
 refine BB [2,3,4,6,7] (X:=Nat × Value × PH) (0,.slice none 0 0,emp) (fun z=>z.1 ≤ L.length ∧ OwnS 141 3 z.2.1 (L.take z.1).length ((L.take z.1).flatMap (fun e=>encA e.a)) z.2.2) (fun z=>[(8,int z.1)]) (fun z=>[sng b6 (.cells #[int (vsN qs d),z.2.1,int (vtx d d.s d.r),int (vtx d d.d d.e)] 69 (0,0)),sng b4 (.cells #[int 0,.slice none 0 0,int 0,int 0] 69 (0,0)),z.2.2]) (fun z=>L.length - z.1) pickZ ⟨by dsimp only; omega,OwnS.nil _ _⟩ covZ selZ ?_
 rintro ⟨k,u,σ1⟩ ⟨hk,hO⟩
 dsimp only at hk hO ⊢
 have hu1:=hone _ _ _ _ hO
 by_cases hlt:k < L.length
 rotate_left
 ·rw [List.take_of_length_le (by omega)] at hO
  have hO2:OwnS 141 3 u (L.map (fun x=>x.a)).length ((L.map (fun x=>x.a)).flatMap encA) σ1:=by
   rw [List.length_map,List.flatMap_map];exact hO
  refine AD ?_;refine AD ?_;refine AA ?_;refine AB ?_;refine AB ?_;refine AV ?_;refine AY ?_;refine AE ?_;refine AN rfl ?_;refine A5 rfl ?_;refine AD ?_;refine AA ?_;refine AT ?_;refine AX ?_; rintro _ _ ⟨rfl,rfl⟩;refine AC ?_;refine AE ?_
  exact AI (resSE (b1:=b4) (T:=69) (v1:=[int (vsN qs d),u,int (vtx d d.s d.r),int (vtx d d.d d.e)]) rfl rfl rfl rfl rfl (cells_own memZ)) rsubZ selZ ⟨σ1,by (try dsimp only); rw [if_pos rfl]; exact ⟨u,rfl,hO2⟩,rfl⟩
 have hx:=List.getElem?_eq_getElem hlt
 have hti:=List.take_succ_eq_append_getElem hlt
 have hil:(L.take k).length ≤ 1000000:=by rw [List.length_take]; omega
 obtain ⟨b7,o7,epa,hrd⟩:=hra k _ hx
 generalize L[k] = x at hx hti hrd
 generalize L.take k = O at hO hti hil
 have px:=RdN.pre (xs:=[int x.a.f,int x.a.t,int x.a.c]) (ys:=[int x.c,int x.t]) hrd
 clear hrd;subst epa;refine AD ?_;refine AD ?_;refine AA ?_;refine AB ?_;refine AB ?_;refine AV ?_;refine BD ?_;refine AE ?_;refine AO rfl ?_;refine AK ?_;refine AD ?_;refine AP ?_
 refine A6 (.q 0 (.q 1 (.q 2 (.q 3 (.q 4 (.q 5 (.q 6 (.l 7 .e (.l 8 .b (.q 9 (.l 10 .b .nil))))))))))) [] rfl (by kernel_rfl) Sel.nil ?_
 refine A0 ?_;refine AR ?_;refine AJ ?_;refine AJ ?_;refine BC ?_;refine BY ?_;refine BL ?_;refine BN ?_; rintro _ _ ⟨b,rfl,rfl⟩
 refine CL (a_b rfl (BP (by_:=24) (s:=3) (news:=[int x.a.f,int x.a.t,int x.a.c]) rfl rfl rfl rfl rfl rfl rfl hO takeZ (cells_own memZ) rfl (by (repeat (first | exact (fun v hv=>absurd hv List.not_mem_nil) | (refine List.forall_mem_cons.2 ⟨?_,?_⟩; (focus (first | exact rfl | assumption))))); first | done | fail) (by omega) (by simp only [maxLen]; omega) (by omega)) rfl rfl rfl (fun _ _ _ w hw=>hw.sel Sel.nil) ?_)
 rintro u1 _ ⟨σ2,hO1,rfl⟩
 have hu2:=hone _ _ _ _ hO1
 refine A0 ?_;refine DL ?_; rintro _ _ ⟨rfl,rfl⟩;refine A8 ?_;refine AZ ?_;refine AA ?_;refine AB ?_;refine A7 ?_;refine AC ?_;refine AE ?_
 refine AU (k + 1,u1,σ2) ⟨by dsimp only; omega,?_⟩ (by dsimp only; omega) covZ selZ
 dsimp only
 rw [hti,List.length_append,List.flatMap_append];exact hO1
set_option maxHeartbeats 16000000 in
theorem sameShips_spec (ρ τ:PH) (p p':Option Addr) (kk kk':Nat) (l:List Sh) (hv:ShAt ρ (.slice p l.length kk) l) (hw:ShAt τ (.slice p' l.length kk') l) (hl:l.length ≤ 1000000) :
  Ans Tryz.prog (fv 40) [.slice p l.length kk,.slice p' l.length kk'] [ρ,τ] (fun r=>r = .bool true):=by
 have hr:=rowN encX_len hv
 have hr':=rowN encX_len hw
 refine spec_in (cap:=[]) Tryz.func40 rfl rfl Tryz.ntmps40 rfl envZ (fun N β=>?_)
 refine AD ?_;refine AA ?_;refine AC ?_;refine AE ?_;refine AD ?_;refine AD ?_;refine AA ?_;refine AB ?_;refine AV ?_;refine AB ?_;refine AV ?_;refine BE ?_;refine AE ?_;refine AN rfl ?_;refine AK ?_;refine AD ?_;refine AD ?_;refine AA ?_;refine AC ?_;refine AE ?_;refine AP ?_
 refine BB [0,1] (0:Nat) (fun k=>k ≤ l.length) (fun k=>[(5,int k)]) (fun _=>[]) (fun k=>l.length - k) pickZ (by omega) covZ selZ ?_
 rintro k hk
 by_cases hlt:k < l.length
 ·have hx:=List.getElem?_eq_getElem hlt
  obtain ⟨b1,o1,rfl,hRd1⟩:=hr k _ hx
  obtain ⟨b2,o2,rfl,hRd2⟩:=hr' k _ hx
  generalize l[k] = x at hRd1 hRd2 hx
  refine AD ?_;refine AD ?_;refine AA ?_;refine AB ?_;refine AB ?_;refine AV ?_;refine BD ?_;refine AE ?_;refine AO rfl ?_;refine AK ?_;refine AD ?_;refine AP ?_;refine AD ?_
  refine A6 (.q 0 (.q 1 (.q 2 (.q 3 (.q 4 (.q 5 (.q 6 (.q 7 (.q 8 .nil))))))))) [] rfl (by kernel_rfl) Sel.nil ?_
  refine AJ ?_;refine AJ ?_;refine BC ?_;refine BL ?_;refine AJ ?_;refine AJ ?_;refine BC ?_;refine BL ?_
  focus ((refine' CV rfl _ rfl rfl rfl rfl _; rotate_left; (apply F8 [x.c,x.t,x.n] [x.c,x.t,x.n] (n:=3); exact rfl; exact rfl; kernel_rfl; kernel_rfl; kernel_rfl; exact rfl; exact rfl)))
  refine A8 ?_
  rw [show (!decide ([x.c,x.t,x.n] = [x.c,x.t,x.n])) = false by simp]
  skip
  refine AN rfl ?_;refine AK ?_;refine AZ ?_;refine AA ?_;refine AB ?_;refine A7 ?_;refine AC ?_;refine AE ?_
  exact AU (k + 1) (by omega) (by omega) covZ selZ
 ·refine AD ?_
  refine AD ?_;refine AA ?_;refine AB ?_;refine AB ?_;refine AV ?_;refine AY ?_;refine AE ?_;refine AN rfl ?_;refine A5 rfl ?_;refine AD ?_;refine AA ?_;refine AC ?_;refine AE ?_;exact AI (res1 rfl rfl) rsubZ selZ ⟨rfl,rfl⟩
set_option maxHeartbeats 32000000 in
theorem refShips53_spec {ρ τ σ υ:PH} {pq pc pb ph:Option Addr} {kq kc kb kh:Nat} {qs:List Int} {cs:List Ct} {bs:List Bk} {hs:List Hd} (hT:TbAt ρ τ σ υ pq pc pb ph kq kc kb kh qs cs bs hs) (d:Dm) (ω:PH) (u0:Value) (fl:List Int) (hu:IntsAt ω u0 fl) :
  Makes Tryz.prog (fv 38) [.agg #[.slice pq qs.length kq,.slice pc cs.length kc,.slice pb bs.length kb,.slice ph hs.length kh],.agg #[int d.s,int d.d,int d.v,int d.r,int d.e],u0] [ρ,τ,σ,υ,ω] (fun r χ=>∃ u,r = .tuple #[u,int (shipsE qs cs bs hs d fl)] ∧ OwnS 55 3 u (shipsR qs cs bs hs d fl).length ((shipsR qs cs bs hs d fl).flatMap encX) χ):=by
 obtain ⟨pf,kf,rfl,hrf⟩:=hu.val Eng.encI_len
 refine spec_in (cap:=[]) Tryz.func38 rfl rfl Tryz.ntmps38 rfl envZ (fun N β=>?_)
 refine AD ?_;refine AA ?_;refine BI (BK rfl) rfl rfl rfl ?_;rintro _ _ ⟨b1,rfl,rfl⟩;refine AS (ρ:=sng b1 _) takeZ ?_
 have ct:RdN (sng b1 (.cells #[.slice pq qs.length kq,.slice pc cs.length kc,.slice pb bs.length kb,.slice ph hs.length kh] 29 (0,0))) b1 0 [.slice pq qs.length kq,.slice pc cs.length kc,.slice pb bs.length kb,.slice ph hs.length kh]:=rdN_sng (vs:=[.slice pq qs.length kq,.slice pc cs.length kc,.slice pb bs.length kb,.slice ph hs.length kh])
 have ct0:rdc (sng b1 (.cells #[.slice pq qs.length kq,.slice pc cs.length kc,.slice pb bs.length kb,.slice ph hs.length kh] 29 (0,0))) b1 0 = some (.slice pq qs.length kq):=by rw [rdc_sng]; rfl
 have ct1:rdc (sng b1 (.cells #[.slice pq qs.length kq,.slice pc cs.length kc,.slice pb bs.length kb,.slice ph hs.length kh] 29 (0,0))) b1 1 = some (.slice pc cs.length kc):=by rw [rdc_sng]; rfl
 have ct2:rdc (sng b1 (.cells #[.slice pq qs.length kq,.slice pc cs.length kc,.slice pb bs.length kb,.slice ph hs.length kh] 29 (0,0))) b1 2 = some (.slice pb bs.length kb):=by rw [rdc_sng]; rfl
 have ct3:rdc (sng b1 (.cells #[.slice pq qs.length kq,.slice pc cs.length kc,.slice pb bs.length kb,.slice ph hs.length kh] 29 (0,0))) b1 3 = some (.slice ph hs.length kh):=by rw [rdc_sng]; rfl
 have ctp:RdP (sng b1 (.cells #[.slice pq qs.length kq,.slice pc cs.length kc,.slice pb bs.length kb,.slice ph hs.length kh] 29 (0,0))) b1 0 [.slice pq qs.length kq,.slice pc cs.length kc]:=rdP_sng (xs:=[.slice pq qs.length kq,.slice pc cs.length kc,.slice pb bs.length kb,.slice ph hs.length kh]) rfl
 refine BI (BK rfl) rfl rfl rfl ?_;rintro _ _ ⟨b2,rfl,rfl⟩;refine AS (ρ:=sng b2 _) takeZ ?_
 have cd:RdN (sng b2 (.cells #[int d.s,int d.d,int d.v,int d.r,int d.e] 31 (0,0))) b2 0 [int d.s,int d.d,int d.v,int d.r,int d.e]:=rdN_sng (vs:=[int d.s,int d.d,int d.v,int d.r,int d.e])
 have cd0:rdc (sng b2 (.cells #[int d.s,int d.d,int d.v,int d.r,int d.e] 31 (0,0))) b2 0 = some (int d.s):=by rw [rdc_sng]; rfl
 have cd1:rdc (sng b2 (.cells #[int d.s,int d.d,int d.v,int d.r,int d.e] 31 (0,0))) b2 1 = some (int d.d):=by rw [rdc_sng]; rfl
 have cd2:rdc (sng b2 (.cells #[int d.s,int d.d,int d.v,int d.r,int d.e] 31 (0,0))) b2 2 = some (int d.v):=by rw [rdc_sng]; rfl
 have cd3:rdc (sng b2 (.cells #[int d.s,int d.d,int d.v,int d.r,int d.e] 31 (0,0))) b2 3 = some (int d.r):=by rw [rdc_sng]; rfl
 have cd4:rdc (sng b2 (.cells #[int d.s,int d.d,int d.v,int d.r,int d.e] 31 (0,0))) b2 4 = some (int d.e):=by rw [rdc_sng]; rfl
 refine AC ?_;refine AC ?_;refine AE ?_;refine AD ?_;refine AA ?_;refine A9 ?_; rintro _ _ ⟨b,rfl,rfl⟩;refine AC ?_;refine AE ?_;refine AD ?_;refine AA ?_;refine AT ?_;refine AT ?_
 revert b; intro b8
 refine BM (refGraph53_spec hT d) rfl rfl rdZ rfl rfl ?_;rintro _ σg hg
 cases hv:validT qs cs bs hs d with
 | false =>
  rw [hv,if_neg (by simp)] at hg
  obtain ⟨rfl,rfl⟩:=hg
  have hE:shipsE qs cs bs hs d fl = 1:=by unfold shipsE; rw [if_neg (by simp [hv])]
  have hR:shipsR qs cs bs hs d fl = []:=by unfold shipsR; rw [hE,if_neg (by omega)]
  rw [hE,hR];refine AB ?_;refine AM ?_;refine AM ?_;refine A2 ?_; rintro _ _ ⟨b,rfl,rfl⟩;refine AX ?_; rintro _ _ ⟨rfl,rfl⟩;refine AC ?_;refine AE ?_;refine AD ?_;refine AD ?_;refine AA ?_;refine AB ?_;refine CG ?_;refine AE ?_;refine AO rfl ?_;refine AD ?_;refine AA ?_;refine AB ?_;refine AB ?_;refine AC ?_;refine AC ?_;refine AE ?_;exact AI (res2 rfl rfl rfl) rsubZ selZ ⟨_,⟨_,rfl,OwnS.empty⟩,rfl⟩
 | true =>
 rw [hv,if_pos rfl] at hg
 obtain ⟨ug,rfl,hOg⟩:=hg
 have hAt:ArcsAt σg ug (arcsG qs cs bs hs d):=hOg.at
 obtain ⟨pg,kg,rfl⟩:=hOg.form
 have hEv:shipsE qs cs bs hs d fl = (Go.Flow.valueSpec (vsN qs d) (arcsG qs cs bs hs d) fl (vtx d d.s d.r) (vtx d d.d d.e)).2:=by unfold shipsE; rw [if_pos hv]
 have h:=vok hv
 have hEl:=ea_len qs cs bs hs d h
 have hAl:(arcsG qs cs bs hs d).length = (arcsE qs cs bs hs d).length:=by unfold arcsG; rw [List.length_map]
 refine AS (ρ:=σg) takeZ ?_;refine AB ?_;refine AM ?_;refine AM ?_;refine A2 ?_; rintro _ _ ⟨b,rfl,rfl⟩;refine AX ?_; rintro _ _ ⟨rfl,rfl⟩;refine AC ?_;refine AE ?_;refine AD ?_;refine AD ?_;refine AA ?_;refine AB ?_;refine BE ?_;refine AE ?_;refine AN rfl ?_;refine AK ?_;refine AD ?_;refine AD ?_;refine AA ?_;refine AG ?_;refine AF ?_;refine AG ?_;refine AF ?_;refine AB ?_;refine AG ?_;refine AF ?_;refine AG ?_;refine AF ?_
 revert b; intro bg
 have hval:=refValue_spec σg ω _ _ (vsN qs d) (vtx d d.s d.r) (vtx d d.d d.e) (arcsG qs cs bs hs d) fl hAt hu (by omega)
 skip
 refine A4 hval rfl rfl rdZ rfl rfl ?_;rintro _ rfl;rw [← hEv]
 generalize (Go.Flow.valueSpec (vsN qs d) (arcsG qs cs bs hs d) fl (vtx d d.s d.r) (vtx d d.d d.e)).1 = vv
 by_cases hz:shipsE qs cs bs hs d fl = 0
 rotate_left
 ·have hR:shipsR qs cs bs hs d fl = []:=by unfold shipsR; rw [if_neg hz]
  rw [hR];refine AB ?_;refine AM ?_;refine AM ?_;refine AC ?_;refine AC ?_;refine AE ?_;refine AD ?_;refine AA ?_;refine AB ?_;refine CG ?_;refine AE ?_;refine AO rfl ?_;refine AD ?_;refine AA ?_;refine AB ?_;refine AB ?_;refine AC ?_;refine AC ?_;refine AE ?_;exact AI (res2 rfl rfl rfl) rsubZ selZ ⟨_,⟨_,rfl,OwnS.empty⟩,rfl⟩
 have hR:shipsR qs cs bs hs d fl = shipsF (arcsE qs cs bs hs d) fl:=by unfold shipsR; rw [if_pos hz]
 have hfl:=shipsE_len hv hz
 rw [hz,hR];refine AB ?_;refine AM ?_;refine AM ?_;refine AC ?_;refine AC ?_;refine AE ?_;refine AD ?_;refine AA ?_;refine AB ?_;refine BE ?_;refine AE ?_;refine AN rfl ?_;refine AK ?_;refine AD ?_;refine AA ?_;refine AT ?_;refine AT ?_;refine BM (refArcs_spec hT d h) rfl rfl rdZ rfl rfl ?_;rintro ua χa hOa
 have hSa:SlE encRA 5 χa ua (arcsE qs cs bs hs d):=hOa.at
 obtain ⟨pa,ka,rfl⟩:=hOa.form
 have hra:=rowN encRA_len hSa
 refine AS (ρ:=χa) takeZ ?_;clear hAl hAt hval hOg hEv hR
 generalize arcsE qs cs bs hs d = L at hEl hOa hSa hra hfl
 refine AC ?_;refine AE ?_;refine AD ?_;refine AD ?_;refine AA ?_;refine AC ?_;refine AE ?_;refine AP ?_
 refine BB [2,13] (X:=Nat × Value × PH) (0,.slice (some ⟨b8,0,none⟩) 0 0,sng b8 (.cells #[] 55 (0,0))) (fun z=>z.1 ≤ L.length ∧ OwnS 55 3 z.2.1 (shipsF (L.take z.1) (fl.take z.1)).length ((shipsF (L.take z.1) (fl.take z.1)).flatMap encX) z.2.2) (fun z=>[(14,int z.1),(8,z.2.1)]) (fun z=>[z.2.2]) (fun z=>L.length - z.1) pickZ ⟨by dsimp only; omega,OwnS.empty⟩ covZ selZ ?_
 rintro ⟨k,u,σ1⟩ ⟨hk,hO⟩
 dsimp only at hk hO ⊢
 by_cases hlt:k < L.length
 rotate_left
 ·rw [List.take_of_length_le (by omega),List.take_of_length_le (by omega)] at hO
  refine AD ?_;refine AD ?_;refine AA ?_;refine AB ?_;refine AB ?_;refine AV ?_;refine AY ?_;refine AE ?_;refine AN rfl ?_;refine A5 rfl ?_;refine AD ?_;refine AA ?_;refine AB ?_;refine AC ?_;refine AC ?_;refine AE ?_;exact AI (res2 rfl rfl rfl) rsubZ selZ ⟨σ1,⟨u,rfl,hO⟩,rfl⟩
 have hx:=List.getElem?_eq_getElem hlt
 have hy:=List.getElem?_eq_getElem (show k < fl.length by omega)
 have hnx:=shipsF_next hfl hx hy
 have hsl:=shipsF_len (L.take k) (fl.take k)
 rw [List.length_take] at hsl
 obtain ⟨bo,oo,epf,gf⟩:=hrf.int hy
 obtain ⟨b7,o7,epa,hrd⟩:=hra k _ hx
 have r3:rdc χa b7 (o7 + k * 5 + 3) = some (int L[k].c):=hrd.get (j:=3) rfl
 have r4:rdc χa b7 (o7 + k * 5 + 4) = some (int L[k].t):=hrd.get (j:=4) rfl
 clear hrd
 generalize shipsF (L.take k) (fl.take k) = O at hO hsl hnx
 generalize L[k] = x at hx hnx r3 r4
 generalize fl[k] = y at hy gf hnx
 subst epf epa
 by_cases hc:0 ≤ x.c
 ·by_cases hy0:0 < y
  ·rw [if_pos ⟨hc,hy0⟩] at hnx
   refine AD ?_;refine AD ?_;refine AA ?_;refine AB ?_;refine AB ?_;refine AV ?_;refine BD ?_;refine AE ?_;refine AO rfl ?_;refine AK ?_;refine AD ?_;refine AP ?_;refine AD ?_;refine AA ?_;refine AB ?_;refine AB ?_;refine A3 ?_;refine B0 ?_;refine AF ?_;refine CK ?_;refine AB ?_;refine AB ?_;refine AB ?_;refine BQ ?_;refine AF ?_;refine CP ?_;refine AQ ?_;refine AE ?_;refine AO rfl ?_
   refine A6 (.q 0 (.q 1 (.q 2 (.q 3 (.q 4 (.q 5 (.q 6 (.q 7 (.q 8 (.q 9 (.q 10 (.q 11 (.q 12 (.q 13 (.q 14 (.q 15 (.l 16 .e (.l 17 .b (.l 18 .b .nil))))))))))))))))))) [] rfl (by kernel_rfl) Sel.nil ?_
   refine AJ ?_;refine AJ ?_;refine AJ ?_;refine BC ?_;refine BX ?_;refine AR ?_;refine AJ ?_;refine AJ ?_;refine BC ?_;refine BX ?_;refine AR ?_;refine AJ ?_;refine AJ ?_;refine CE ?_;refine AR ?_;refine CD ?_;refine BN ?_; rintro _ _ ⟨b,rfl,rfl⟩
   refine CL (a_b rfl (BP (by_:=24) (s:=3) (news:=[int x.c,int x.t,int y]) rfl rfl rfl rfl rfl rfl rfl hO takeZ (cells_own memZ) rfl (by (repeat (first | exact (fun v hv=>absurd hv List.not_mem_nil) | (refine List.forall_mem_cons.2 ⟨?_,?_⟩; (focus (first | exact rfl | assumption))))); first | done | fail) (by omega) (by simp only [maxLen]; omega) (by omega)) rfl rfl rfl (fun _ _ _ w hw=>hw.sel Sel.nil) ?_)
   rintro u1 _ ⟨σ2,hO2,rfl⟩;refine C5 ?_;refine A8 ?_;refine AZ ?_;refine AA ?_;refine AB ?_;refine A7 ?_;refine AC ?_;refine AE ?_
   refine AU (k + 1,u1,σ2) ⟨by dsimp only; omega,?_⟩ (by dsimp only; omega) covZ selZ
   dsimp only
   rw [hnx,List.length_append,List.flatMap_append];exact hO2
  ·rw [if_neg (fun h=>hy0 h.2),List.append_nil] at hnx
   refine AD ?_;refine AD ?_;refine AA ?_;refine AB ?_;refine AB ?_;refine AV ?_;refine BD ?_;refine AE ?_;refine AO rfl ?_;refine AK ?_;refine AD ?_;refine AP ?_;refine AD ?_;refine AA ?_;refine AB ?_;refine AB ?_;refine A3 ?_;refine B0 ?_;refine AF ?_;refine CK ?_;refine AB ?_;refine AB ?_;refine AB ?_;refine BQ ?_;refine AF ?_;refine B4 ?_;refine AQ ?_;refine AE ?_;refine AN rfl ?_;refine AK ?_;refine AZ ?_;refine AA ?_;refine AB ?_;refine A7 ?_;refine AC ?_;refine AE ?_
   refine AU (k + 1,u,σ1) ⟨by dsimp only; omega,?_⟩ (by dsimp only; omega) covZ selZ
   dsimp only
   rw [hnx];exact hO
 ·rw [if_neg (fun h=>hc h.1),List.append_nil] at hnx
  refine AD ?_;refine AD ?_;refine AA ?_;refine AB ?_;refine AB ?_;refine AV ?_;refine BD ?_;refine AE ?_;refine AO rfl ?_;refine AK ?_;refine AD ?_;refine AP ?_;refine AD ?_;refine AA ?_;refine AB ?_;refine AB ?_;refine A3 ?_;refine B0 ?_;refine AF ?_;refine BO ?_;refine AB ?_;refine AH rfl rfl rfl ?_;refine AH rfl rfl rfl ?_;refine AH rfl rfl rfl ?_;refine AH rfl rfl rfl ?_;refine AH rfl rfl rfl ?_;refine AL ?_;refine AE ?_;refine AN rfl ?_;refine AK ?_;refine AZ ?_;refine AA ?_;refine AB ?_;refine A7 ?_;refine AC ?_;refine AE ?_
  refine AU (k + 1,u,σ1) ⟨by dsimp only; omega,?_⟩ (by dsimp only; omega) covZ selZ
  dsimp only
  rw [hnx];exact hO
end Go.Proofs.YtphehihohghfoaaGreat
/- Distances found level by level, over all links again and again; the first link that leads nearer; what is reached by n rounds. No program in sight. No conditions. -/
namespace Go.Flow
structure LInv (n t : Nat) (E : Lk → Prop) (D : List Int) (d : Nat) (pre : List Lk) : Prop where
  len : D.length = n
  low : ∀ v, v < n → -1 ≤ D.getD v 0
  hi : ∀ v, v < n → D.getD v 0 ≤ (d : Int) + 1
  at0 : D.getD t 0 = 0
  zero : ∀ v, v < n → D.getD v 0 = 0 → v = t
  step : ∀ v, v < n → 0 < D.getD v 0 → ∃ x, E x ∧ x.f = v ∧ D.getD x.t 0 = D.getD v 0 - 1
  old : ∀ x, E x → 0 ≤ D.getD x.t 0 → D.getD x.t 0 < (d : Int) → 0 ≤ D.getD x.f 0 ∧ D.getD x.f 0 ≤ D.getD x.t 0 + 1
  pre0 : ∀ x ∈ pre, E x → D.getD x.t 0 = (d : Int) → 0 ≤ D.getD x.f 0
section
variable {n t : Nat} {E : Lk → Prop} {D : List Int} {d : Nat}
theorem LInv.start (ht : t < n) : LInv n t E ((List.replicate n (-1)).set t 0) 0 [] ∧ ∀ v, v < n → ((List.replicate n (-1 : Int)).set t 0).getD v 0 ≤ ((0 : Nat) : Int) := by
  have hg : ∀ v, v < n → ((List.replicate n (-1 : Int)).set t 0).getD v 0 = if t = v then 0 else -1 := fun v hv => by
    rw [getD_set (by simpa using ht)]
    split
    · rfl
    · exact getD_rep hv _
  have hlt : ∀ v, v < n → ((List.replicate n (-1 : Int)).set t 0).getD v 0 ≤ 0 := fun v hv => by rw [hg v hv]; split <;> omega
  refine ⟨⟨by simp, fun v hv => by rw [hg v hv]; split <;> omega, fun v hv => by have := hlt v hv; omega, by rw [hg t ht]; simp, fun v hv h => ?_, fun v hv h => by have := hlt v hv; omega, fun x _ h1 h2 => by omega, by simp⟩, hlt⟩
  rw [hg v hv] at h
  split at h
  · rename_i e; exact e.symm
  · omega
theorem LInv.skip {pre : List Lk} {x : Lk} (h : LInv n t E D d pre) (hx : E x → D.getD x.t 0 = (d : Int) → 0 ≤ D.getD x.f 0) : LInv n t E D d (pre ++ [x]) :=
  ⟨h.len, h.low, h.hi, h.at0, h.zero, h.step, h.old, fun y hy => by
    rcases List.mem_append.1 hy with hy | hy
    · exact h.pre0 y hy
    · rw [List.mem_singleton.1 hy]; exact hx⟩
theorem LInv.mark {pre : List Lk} {x : Lk} (h : LInv n t E D d pre) (hE : E x) (hxf : x.f < n) (hd : D.getD x.t 0 = (d : Int)) (hneg : D.getD x.f 0 = -1) : LInv n t E (D.set x.f ((d : Int) + 1)) d (pre ++ [x]) := by
  have hl : x.f < D.length := by rw [h.len]; exact hxf
  have hg : ∀ v, (D.set x.f ((d : Int) + 1)).getD v 0 = if x.f = v then (d : Int) + 1 else D.getD v 0 := fun v => getD_set hl
  have hne : x.f ≠ x.t := fun e => by rw [e] at hneg; omega
  have htf : x.f ≠ t := fun e => by rw [e, h.at0] at hneg; omega
  refine ⟨by simp [h.len], fun v hv => ?_, fun v hv => ?_, ?_, fun v hv h0 => ?_, fun v hv h0 => ?_, fun y hy h1 h2 => ?_, fun y hy hyE h1 => ?_⟩
  · rw [hg]; have := h.low v hv; split <;> omega
  · rw [hg]; have := h.hi v hv; split <;> omega
  · rw [hg, if_neg htf]; exact h.at0
  · rw [hg] at h0
    split at h0
    · omega
    · exact h.zero v hv h0
  · rw [hg] at h0 ⊢
    split at h0
    · rename_i e
      refine ⟨x, hE, e, ?_⟩;rw [if_pos e, hg, if_neg hne, hd]; omega
    · rename_i e
      obtain ⟨y, hy, hyf, hyt⟩ := h.step v hv h0
      refine ⟨y, hy, hyf, ?_⟩;rw [if_neg e, hg]
      split
      · rename_i e2; rw [← e2, hneg] at hyt; omega
      · exact hyt
  · rw [hg] at h1 h2 ⊢
    split at h1
    · rename_i e; rw [if_pos e] at h2; omega
    · rename_i e
      rw [if_neg e] at h2
      have := h.old y hy h1 h2
      rw [hg y.t, if_neg e]
      split
      · rename_i e2; rw [← e2, hneg] at this; omega
      · exact this
  · rw [hg] at h1 ⊢
    split
    · omega
    · rename_i e
      split at h1
      · omega
      · rcases List.mem_append.1 hy with hy | hy
        · exact h.pre0 y hy hyE h1
        · rw [List.mem_singleton.1 hy] at e; exact absurd rfl e
theorem LInv.next {ls : List Lk} {pre : List Lk} (hsub : ∀ x, E x → x ∈ ls) (hE : ∀ x, E x → x.f < n ∧ x.t < n) (hp : ∀ x ∈ ls, x ∈ pre) (h : LInv n t E D d pre) : LInv n t E D (d + 1) [] :=
  ⟨h.len, h.low, fun v hv => by have := h.hi v hv; omega, h.at0, h.zero, h.step, fun x hx h1 h2 => by
    by_cases e : D.getD x.t 0 = (d : Int)
    · have := h.pre0 x (hp x (hsub x hx)) hx e
      have := h.hi x.f (hE x hx).1
      omega
    · exact h.old x hx h1 (by omega), by simp⟩
theorem LInv.dist (hE : ∀ x, E x → x.f < n ∧ x.t < n) (h : LInv n t E D (d + 1) []) (hno : ∀ v, v < n → D.getD v 0 ≤ (d : Int)) : IsDist n t E D :=
  ⟨h.len, h.low, h.at0, h.zero, fun x hx h1 => h.old x hx h1 (by have := hno x.t (hE x hx).2; omega), h.step⟩
end
def rmin (rm : Nat → Int) : List Lk → Int
  | [] => 0
  | x :: p => p.foldl (fun m y => if rm y.k < m then rm y.k else m) (rm x.k)
theorem rmin_snoc (rm : Nat → Int) (p : List Lk) (x : Lk) : rmin rm (p ++ [x]) = if p = [] ∨ rm x.k < rmin rm p then rm x.k else rmin rm p := by
  cases p with
  | nil => simp [rmin]
  | cons y p => simp [rmin]
theorem rmin_least (rm : Nat → Int) (p : List Lk) (hp : p ≠ []) (hb : ∀ x ∈ p, rm x.k ≤ 1099511627776) : rmin rm p = leastR rm p := by
  cases p with
  | nil => exact absurd rfl hp
  | cons x p =>
    simp only [rmin, leastR, List.foldl_cons]
    have h0 : min 1099511627776 (rm x.k) = rm x.k := by have := hb x (by simp); omega
    rw [h0];clear hb hp h0
    generalize rm x.k = m
    induction p generalizing m with
    | nil => rfl
    | cons y p ih =>
      simp only [List.foldl_cons]
      rw [show (if rm y.k < m then rm y.k else m) = min m (rm y.k) from by split <;> omega]
      exact ih _
def atPl (ls : List Lk) : Prop := ∀ (i : Nat) (x : Lk), ls[i]? = some x → x.k = i
theorem rlinks_at (l : List Arc) : atPl (rlinks l) := fun i x hx => by
  have hlt : i < (rlinks l).length := (List.getElem?_eq_some_iff.1 hx).1
  rw [rlinks_len] at hlt
  obtain ⟨y, hy, e⟩ := rlinks_get hlt
  rw [hx] at hy
  obtain rfl := Option.some.inj hy
  exact e
theorem plinks_at (l : List Arc) : atPl (plinks l) := fun i x hx => by
  rw [plinks_get, Option.map_eq_some_iff] at hx
  obtain ⟨a, _, rfl⟩ := hx
  rfl
inductive RchN (E : Lk → Prop) (s : Nat) : Nat → Nat → Prop
  | refl {k : Nat} : RchN E s k s
  | step {k : Nat} {x : Lk} : RchN E s k x.f → E x → RchN E s (k + 1) x.t
theorem RchN.mono {E : Lk → Prop} {s k m v : Nat} (h : RchN E s k v) (hk : k ≤ m) : RchN E s m v := by
  induction h generalizing m with
  | refl => exact .refl
  | step _ hx ih =>
    obtain ⟨m', rfl⟩ : ∃ m', m = m' + 1 := ⟨m - 1, by omega⟩
    exact .step (ih (by omega)) hx
structure KInv (n s : Nat) (E : Lk → Prop) (B : List Bool) (r : Nat) (pre : List Lk) : Prop where
  len : B.length = n
  snd : ∀ v, v < n → bget B v = true → Rch E s v
  cmp : ∀ v, v < n → RchN E s r v → bget B v = true
  pre0 : ∀ x ∈ pre, E x → RchN E s r x.f → bget B x.t = true
section
variable {n s : Nat} {E : Lk → Prop} {B : List Bool} {r : Nat}
theorem KInv.start (hs : s < n) : KInv n s E ((List.replicate n false).set s true) 0 [] := by
  have hl : s < (List.replicate n false).length := by simpa using hs
  refine ⟨by simp, fun v _ h => ?_, fun v hv h => ?_, by simp⟩
  · rw [bget_set hl, bget_rep] at h
    split at h
    · rename_i e; rw [← e]; exact .refl
    · simp at h
  · cases h with
    | refl => rw [bget_set hl]; simp
theorem KInv.skip {pre : List Lk} {x : Lk} (h : KInv n s E B r pre) (hx : E x → bget B x.f = false) (hE : ∀ x, E x → x.f < n ∧ x.t < n) : KInv n s E B r (pre ++ [x]) :=
  ⟨h.len, h.snd, h.cmp, fun y hy hyE hr => by
    rcases List.mem_append.1 hy with hy | hy
    · exact h.pre0 y hy hyE hr
    · rw [List.mem_singleton.1 hy] at hyE hr ⊢
      have := h.cmp x.f (hE x hyE).1 hr
      rw [hx hyE] at this; simp at this⟩
theorem KInv.mark {pre : List Lk} {x : Lk} (h : KInv n s E B r pre) (hx : E x) (hxt : x.t < n) (hxf : x.f < n) (hb : bget B x.f = true) : KInv n s E (B.set x.t true) r (pre ++ [x]) := by
  have hl : x.t < B.length := by rw [h.len]; exact hxt
  have hg : ∀ u, bget B u = true → bget (B.set x.t true) u = true := fun u hu => by rw [bget_set hl]; split <;> simp [hu]
  refine ⟨by simp [h.len], fun v hv hv2 => ?_, fun v hv hr => hg v (h.cmp v hv hr), fun y hy hyE hr => ?_⟩
  · rw [bget_set hl] at hv2
    split at hv2
    · rename_i e; rw [← e]; exact .step (h.snd x.f hxf hb) hx
    · exact h.snd v hv hv2
  · rcases List.mem_append.1 hy with hy | hy
    · exact hg _ (h.pre0 y hy hyE hr)
    · rw [List.mem_singleton.1 hy, bget_set hl]; simp
theorem KInv.next {ls pre : List Lk} (hsub : ∀ x, E x → x ∈ ls) (hp : ∀ x ∈ ls, x ∈ pre) (hs : s < n) (h : KInv n s E B r pre) : KInv n s E B (r + 1) [] :=
  ⟨h.len, h.snd, fun v hv hr => by
    cases hr with
    | refl => exact h.cmp s hs .refl
    | @step _ x hr hx => exact h.pre0 x (hp x (hsub x hx)) hx hr, by simp⟩
end
theorem pigeon : ∀ (n : Nat) (f : List Nat), f.Nodup → (∀ v ∈ f, v < n) → f.length ≤ n
  | 0, f, _, h => by
    cases f with
    | nil => simp
    | cons a f => exact absurd (h a (by simp)) (by omega)
  | n + 1, f, hn, h => by
    have h1 := pigeon n (f.erase n) (hn.erase n) (fun v hv => by
      have h2 := (hn.mem_erase_iff).1 hv
      have := h v h2.2
      have := h2.1
      omega)
    rw [List.length_erase] at h1
    split at h1 <;> omega
theorem rchN_of {n s : Nat} {E : Lk → Prop} (hE : ∀ x, E x → x.f < n ∧ x.t < n) (hs : s < n) {v : Nat} (h : Rch E s v) : RchN E s n v := by
  -- the sets of what is reached by k links grow, or stay for ever
  let S : Nat → Nat → Prop := fun k v => RchN E s k v
  have key : ∀ k, (∀ v, S (k + 1) v → S k v) ∨ ∃ f : List Nat, f.length = k + 2 ∧ f.Nodup ∧ ∀ v ∈ f, v < n ∧ S (k + 1) v := by
    intro k
    induction k with
    | zero =>
      by_cases hc : ∀ v, S 1 v → S 0 v
      · exact .inl hc
      · right
        simp only [Classical.not_forall] at hc
        obtain ⟨v, h1, h2⟩ := hc
        have hvn : v < n := by cases h1 with
          | refl => exact hs
          | step _ hx => exact (hE _ hx).2
        refine ⟨[v, s], rfl, ?_, ?_⟩
        · simp only [List.nodup_cons, List.mem_singleton, List.not_mem_nil, not_false_eq_true, List.nodup_nil, and_true]
          rintro rfl;exact h2 .refl
        · intro u hu
          simp at hu
          rcases hu with rfl | rfl
          · exact ⟨hvn, h1⟩
          · exact ⟨hs, .refl⟩
    | succ k ih =>
      by_cases hc : ∀ v, S (k + 2) v → S (k + 1) v
      · exact .inl hc
      · rcases ih with ih | ⟨f, f1, f2, f3⟩
        · -- nothing new came before: nothing new can come
          exfalso
          apply hc
          intro v hv
          cases hv with
          | refl => exact .refl
          | step hr hx => exact .step (ih _ hr) hx
        · right
          simp only [Classical.not_forall] at hc
          obtain ⟨v, h1, h2⟩ := hc
          have hvn : v < n := by cases h1 with
            | refl => exact hs
            | step _ hx => exact (hE _ hx).2
          refine ⟨v :: f, by simp [f1], List.nodup_cons.2 ⟨fun hm => h2 (f3 v hm).2, f2⟩, ?_⟩
          intro u hu
          simp at hu
          rcases hu with rfl | hu
          · exact ⟨hvn, h1⟩
          · exact ⟨(f3 u hu).1, (f3 u hu).2.mono (by omega)⟩
  have hcl : ∀ v, S (n + 1) v → S n v := by
    rcases key n with h | ⟨f, f1, f2, f3⟩
    · exact h
    · exfalso
      have : f.length ≤ n := pigeon n f f2 (fun v hv => (f3 v hv).1)
      omega
  induction h with
  | refl => exact .refl
  | step _ hx ih => exact hcl _ (.step ih hx)
theorem KInv.reach {n s : Nat} {E : Lk → Prop} {B : List Bool} (hE : ∀ x, E x → x.f < n ∧ x.t < n) (hs : s < n) (h : KInv n s E B n []) : IsReach n E s (bget B) :=
  fun v hv => ⟨h.snd v hv, fun hr => h.cmp v hv (rchN_of hE hs hr)⟩
end Go.Flow
/- The example of the chapter; the laws on maximum flows, cuts and paths, in plain words. No program in sight. No conditions. -/
namespace Go.Flow
/-! ### the laws -/
section
variable {n s t:Int} {l:List Arc}
theorem value_flw {F:List Int} {v:Int} (h:valueSpec n l F s t = (v,0)):∃ n' s' t':Nat,Good n l s t n' s' t' ∧ Flw n' l s' t' F ∧ v = fval s l F:=by
  unfold valueSpec at h
  split at h
  · rename_i h1; simp only [Prod.mk.injEq] at h; exact absurd h.2 h1
  · rename_i h1
    split at h
    · simp at h
    · rename_i h2
      split at h
      · simp at h
      · rename_i h3
        split at h
        · simp at h
        · rename_i h4
          split at h
          · simp at h
          · rename_i h5
            simp only [Prod.mk.injEq,and_true] at h
            have hm:maxErr n l s t = 0:=by
              unfold maxErr
              rw [if_neg h1,if_pos (by simpa using h2)]
            obtain ⟨n',s',t',g⟩:=maxErr_good hm
            obtain ⟨rfl,rfl,rfl⟩:=And.intro g.en (And.intro g.es g.et)
            refine ⟨n',s',t',g,⟨by omega,by simpa using h4,fun v hv g1 g2=>?_⟩,h.symm⟩
            simp only [Bool.not_eq_false] at h5;unfold balanced at h5;rw [List.all_eq_true] at h5
            have:=h5 v (by simpa using hv)
            rw [decide_eq_true_eq] at this
            rcases this with h | h | h
            · exact absurd (by omega) g1
            · exact absurd (by omega) g2
            · exact h
theorem side_chk (B:List Bool) (n:Nat):∀ (k:Nat),k ≤ n → ∀ (r:List Int) (p:Option Int),(∀ q,p = some q → ∃ m:Nat,q = m ∧ m < k) → sideChk n p (((List.range' k (n - k)).filter (fun v=>bget B v)).map (fun (v:Nat)=>(v:Int))) = 0:=by
  intro k hk r p hp
  generalize hd:n - k = d
  induction d generalizing k p with
  | zero=>simp [sideChk]
  | succ d ih =>
    rw [List.range'_succ,List.filter_cons]
    split
    · simp only [List.map_cons,sideChk]
      rw [if_neg (by omega),if_neg]
      · exact ih (k + 1) (by omega) _ (fun q hq=>⟨k,by simpa using hq.symm,by omega⟩) (by omega)
      · cases p with
        | none=>simp
        | some q =>
          obtain ⟨m,rfl,hm⟩:=hp q rfl
          simp; omega
    · exact ih (k + 1) (by omega) _ (fun q hq=>by obtain ⟨m,h1,h2⟩:=hp q hq; exact ⟨m,h1,by omega⟩) (by omega)
theorem sideOf_chk (B:List Bool) (n:Nat):sideChk n none (sideOf B n) = 0:=by
  have:=side_chk B n 0 (by omega) [] none (by simp)
  rw [Nat.sub_zero,← List.range_eq_range'] at this;exact this
theorem side_capacity {n' s' t':Nat} {B:List Bool} (g:Good n l s t n' s' t') (hB:B.length = n' ∨ True):capacitySpec n l (sideOf B n') = (capOf (bget B) l,0):=by
  obtain ⟨rfl,rfl,rfl⟩:=And.intro g.en (And.intro g.es g.et)
  unfold capacitySpec
  rw [if_neg (by rw [g.chk]; simp),if_neg (by rw [sideOf_chk]; simp)]
  congr 1
  apply capOf_congr (n:=n') _ l g.ok
  intro v hv
  cases hb:bget B v with
  | true=>rw [decide_eq_true (mem_sideOf.2 ⟨v,rfl,hv,hb⟩)]
  | false =>
    apply decide_eq_false
    intro hm
    obtain ⟨u,h1,_,h3⟩:=mem_sideOf.1 hm
    have:u = v:=by omega
    subst this;rw [hb] at h3; simp at h3
end
end Go.Flow
/- Searches in slices of numbers; the example of the chapter. -/
namespace Go.Proofs.YtphehihohghfoaaGreat
open Go.Eng Go.Flow
set_option maxRecDepth 100000
set_option maxHeartbeats 4000000

end Go.Proofs.YtphehihohghfoaaGreat
/- The document's cuts. -/
namespace Go.Proofs.YtphehihohghfoaaGreat
open Go.Eng Go.Step
set_option maxRecDepth 100000
set_option maxHeartbeats 4000000

set_option maxHeartbeats 16000000 in
theorem refNormal_spec (ρ:PH) (p:Option Addr) (kk:Nat) (l:Iv) (hv:SpAt ρ (.slice p l.length kk) l) (hl:l.length ≤ 1000) (hok:∀ x ∈ l,okSp x) :
  Makes Tryz.prog (fv 75) [.slice p l.length kk] [ρ] (fun r σ=>∃ u,r = .tuple #[u,int 0] ∧ OwnS 93 2 u (insAll [] l).length ((insAll [] l).flatMap encS) σ):=by
 have hr:=rowN encS_len hv
 refine spec_in (cap:=[]) Tryz.func75 rfl rfl Tryz.ntmps75 rfl envZ (fun N β=>?_)
 refine AD ?_;refine AA ?_;refine AC ?_;refine AC ?_;refine AE ?_;refine AD ?_;refine AD ?_;refine AA ?_;refine AB ?_;refine AV ?_;refine B4 ?_;refine AE ?_;refine AN rfl ?_;refine AK ?_;refine AD ?_;refine AA ?_;refine A9 ?_; rintro _ _ ⟨b,rfl,rfl⟩;refine AC ?_;refine AE ?_;refine AD ?_;refine AD ?_;refine AA ?_;refine AC ?_;refine AE ?_;refine AP ?_
 revert b; intro bo
 refine BB [0] (X:=Nat × Value × PH) (0,.slice (some ⟨bo,0,none⟩) 0 0,sng bo (.cells #[] 93 (0,0))) (fun z=>z.1 ≤ l.length ∧ OwnS 93 2 z.2.1 (insAll [] (l.take z.1)).length ((insAll [] (l.take z.1)).flatMap encS) z.2.2) (fun z=>[(5,int z.1),(4,z.2.1)]) (fun z=>[z.2.2]) (fun z=>l.length - z.1) pickZ ⟨by dsimp only; omega,OwnS.empty⟩ covZ selZ ?_
 rintro ⟨k,u,σ⟩ ⟨hk,hO⟩
 dsimp only at hk hO ⊢
 by_cases hlt:k < l.length
 rotate_left
 ·rw [List.take_of_length_le (by omega)] at hO
  refine AD ?_;refine AD ?_;refine AA ?_;refine AB ?_;refine AB ?_;refine AV ?_;refine AY ?_;refine AE ?_;refine AN rfl ?_;refine A5 rfl ?_;refine AD ?_;refine AA ?_;refine AB ?_;refine AC ?_;refine AC ?_;refine AE ?_;exact AI (res2 rfl rfl rfl) rsubZ selZ ⟨σ,⟨u,rfl,hO⟩,rfl⟩
 have hx:=List.getElem?_eq_getElem hlt
 have hm:=hok _ (List.getElem_mem hlt)
 have hti:insAll [] (l.take (k + 1)) = insI (insAll [] (l.take k)) l[k]:=by
  rw [List.take_succ_eq_append_getElem hlt];unfold insAll;rw [List.foldl_append]
  rfl
 have hil:=(insAll_ok (b:=l.take k) (a:=[]) ⟨by simp,List.Pairwise.nil⟩ (fun x hx=>(hok x (List.mem_of_mem_take hx)).1)).2.2
 rw [List.length_take] at hil;simp only [List.length_nil] at hil
 obtain ⟨b7,o7,rfl,hrd⟩:=hr k _ hx
 generalize insAll [] (l.take k) = O at hO hti hil
 generalize l[k] = x at hx hm hti hrd
 have hV:=refIvValid_spec x
 rw [decide_eq_true hm] at hV
 have hI:=refIvInsert_spec σ u O x (show SpAt σ u O from hO.at) hO.capOK (by omega)
 have hrd2:RdN ρ b7 (o7 + k * 2) [int x.1,int x.2]:=hrd
 refine AD ?_;refine AD ?_;refine AA ?_;refine AB ?_;refine AB ?_;refine AV ?_;refine BD ?_;refine AE ?_;refine AO rfl ?_;refine AK ?_;refine AD ?_;refine AP ?_;refine AD ?_;refine AD ?_;refine AA ?_;refine AB ?_;refine AB ?_;refine A3 ?_;refine AT ?_;refine A4 hV rfl rfl rdZ rfl rfl ?_;rintro _ rfl;refine BJ ?_;refine AE ?_;refine AN rfl ?_;refine AK ?_;refine AA ?_;refine AB ?_;refine AB ?_;refine AB ?_;refine A3 ?_;refine AT ?_;refine BM hI rfl rfl rdZ rfl rfl ?_;rintro u1 σ1 hO1;refine AC ?_;refine AE ?_;refine AZ ?_;refine AA ?_;refine AB ?_;refine A7 ?_;refine AC ?_;refine AE ?_
 refine AU (k + 1,u1,σ1) ⟨by dsimp only; omega,?_⟩ (by dsimp only; omega) covZ selZ
 dsimp only
 rw [hti];exact hO1
set_option maxHeartbeats 64000000 in
theorem refSides_spec {ρ τ σ υ:PH} {pq pc pb ph:Option Addr} {kq kc kb kh:Nat} {qs:List Int} {cs:List Ct} {bs:List Bk} {hs:List Hd} (hT:TbAt ρ τ σ υ pq pc pb ph kq kc kb kh qs cs bs hs) (d:Dm) (ω:PH) (u0:Value) (side:List Int) (hu:IntsAt ω u0 side) (hsl:side.length ≤ 1000000) :
  Eng.Spec Tryz.prog (fv 36) [.agg #[.slice pq qs.length kq,.slice pc cs.length kc,.slice pb bs.length kb,.slice ph hs.length kh],.agg #[int d.s,int d.d,int d.v,int d.r,int d.e],u0] [ρ,τ,σ,υ,ω] [] (fun r H'=>∃ (L:List Sq) (u:Value) (σ' χ':PH),r = .tuple #[u,int (sidesE qs cs bs hs d side)] ∧ H' = [σ',χ'] ∧ cuL L = (if sidesE qs cs bs hs d side = 0 then sidesC d qs.length side else []) ∧ CutL σ' χ' u L):=by
 obtain ⟨pf,kf,rfl,hrf⟩:=hu.val Eng.encI_len
 refine spec_in (cap:=[]) Tryz.func36 rfl rfl Tryz.ntmps36 rfl envZ (fun N β=>?_)
 refine AD ?_;refine AA ?_;refine BI (BK rfl) rfl rfl rfl ?_;rintro _ _ ⟨b1,rfl,rfl⟩;refine AS (ρ:=sng b1 _) takeZ ?_
 have ct:RdN (sng b1 (.cells #[.slice pq qs.length kq,.slice pc cs.length kc,.slice pb bs.length kb,.slice ph hs.length kh] 29 (0,0))) b1 0 [.slice pq qs.length kq,.slice pc cs.length kc,.slice pb bs.length kb,.slice ph hs.length kh]:=rdN_sng (vs:=[.slice pq qs.length kq,.slice pc cs.length kc,.slice pb bs.length kb,.slice ph hs.length kh])
 have ct0:rdc (sng b1 (.cells #[.slice pq qs.length kq,.slice pc cs.length kc,.slice pb bs.length kb,.slice ph hs.length kh] 29 (0,0))) b1 0 = some (.slice pq qs.length kq):=by rw [rdc_sng]; rfl
 have ct1:rdc (sng b1 (.cells #[.slice pq qs.length kq,.slice pc cs.length kc,.slice pb bs.length kb,.slice ph hs.length kh] 29 (0,0))) b1 1 = some (.slice pc cs.length kc):=by rw [rdc_sng]; rfl
 have ct2:rdc (sng b1 (.cells #[.slice pq qs.length kq,.slice pc cs.length kc,.slice pb bs.length kb,.slice ph hs.length kh] 29 (0,0))) b1 2 = some (.slice pb bs.length kb):=by rw [rdc_sng]; rfl
 have ct3:rdc (sng b1 (.cells #[.slice pq qs.length kq,.slice pc cs.length kc,.slice pb bs.length kb,.slice ph hs.length kh] 29 (0,0))) b1 3 = some (.slice ph hs.length kh):=by rw [rdc_sng]; rfl
 have ctp:RdP (sng b1 (.cells #[.slice pq qs.length kq,.slice pc cs.length kc,.slice pb bs.length kb,.slice ph hs.length kh] 29 (0,0))) b1 0 [.slice pq qs.length kq,.slice pc cs.length kc]:=rdP_sng (xs:=[.slice pq qs.length kq,.slice pc cs.length kc,.slice pb bs.length kb,.slice ph hs.length kh]) rfl
 refine BI (BK rfl) rfl rfl rfl ?_;rintro _ _ ⟨b2,rfl,rfl⟩;refine AS (ρ:=sng b2 _) takeZ ?_
 have cd:RdN (sng b2 (.cells #[int d.s,int d.d,int d.v,int d.r,int d.e] 31 (0,0))) b2 0 [int d.s,int d.d,int d.v,int d.r,int d.e]:=rdN_sng (vs:=[int d.s,int d.d,int d.v,int d.r,int d.e])
 have cd0:rdc (sng b2 (.cells #[int d.s,int d.d,int d.v,int d.r,int d.e] 31 (0,0))) b2 0 = some (int d.s):=by rw [rdc_sng]; rfl
 have cd1:rdc (sng b2 (.cells #[int d.s,int d.d,int d.v,int d.r,int d.e] 31 (0,0))) b2 1 = some (int d.d):=by rw [rdc_sng]; rfl
 have cd2:rdc (sng b2 (.cells #[int d.s,int d.d,int d.v,int d.r,int d.e] 31 (0,0))) b2 2 = some (int d.v):=by rw [rdc_sng]; rfl
 have cd3:rdc (sng b2 (.cells #[int d.s,int d.d,int d.v,int d.r,int d.e] 31 (0,0))) b2 3 = some (int d.r):=by rw [rdc_sng]; rfl
 have cd4:rdc (sng b2 (.cells #[int d.s,int d.d,int d.v,int d.r,int d.e] 31 (0,0))) b2 4 = some (int d.e):=by rw [rdc_sng]; rfl
 refine BV ?_;refine AC ?_;refine AC ?_;refine AE ?_;refine AD ?_;refine AA ?_;refine AT ?_;refine AT ?_;refine BM (refGraph53_spec hT d) rfl rfl rdZ rfl rfl ?_;rintro _ σg hg
 cases hv:validT qs cs bs hs d with
 | false =>
  rw [hv,if_neg (by simp)] at hg
  obtain ⟨rfl,rfl⟩:=hg
  have hE:sidesE qs cs bs hs d side = 1:=by unfold sidesE; rw [if_neg (by simp [hv])]
  rw [hE];refine AB ?_;refine AM ?_;refine AM ?_;refine A2 ?_; rintro _ _ ⟨b,rfl,rfl⟩;refine AX ?_; rintro _ _ ⟨rfl,rfl⟩;refine AC ?_;refine AE ?_;refine AD ?_;refine AD ?_;refine AA ?_;refine AB ?_;refine CG ?_;refine AE ?_;refine AO rfl ?_;refine AD ?_;refine AA ?_;refine A9 ?_; rintro _ _ ⟨b,rfl,rfl⟩;refine AB ?_;refine AC ?_;refine AC ?_;refine AE ?_
  exact AI (res2 rfl rfl rfl) rsubZ selZ ⟨[],_,sng b (.cells #[] 91 (0,0)),emp,rfl,rfl,by rw [if_neg (by omega)]; rfl,(OwnS.empty (e:=91) (size:=1)).at,by simp⟩
 | true =>
 rw [hv,if_pos rfl] at hg
 obtain ⟨ug,rfl,hOg⟩:=hg
 have hAt:ArcsAt σg ug (arcsG qs cs bs hs d):=hOg.at
 obtain ⟨pg,kg,rfl⟩:=hOg.form
 have hEv:sidesE qs cs bs hs d side = (Go.Flow.capacitySpec (vsN qs d) (arcsG qs cs bs hs d) side).2:=by unfold sidesE; rw [if_pos hv]
 have h:=vok hv
 have hdm:=h.dm
 unfold okDm at hdm
 have hnq:=h.nq
 have hEl:=ea_len qs cs bs hs d h
 have hAl:(arcsG qs cs bs hs d).length = (arcsE qs cs bs hs d).length:=by unfold arcsG; rw [List.length_map]
 refine AS (ρ:=σg) takeZ ?_;refine AB ?_;refine AM ?_;refine AM ?_;refine A2 ?_; rintro _ _ ⟨b,rfl,rfl⟩;refine AX ?_; rintro _ _ ⟨rfl,rfl⟩;refine AC ?_;refine AE ?_;refine AD ?_;refine AD ?_;refine AA ?_;refine AB ?_;refine BE ?_;refine AE ?_;refine AN rfl ?_;refine AK ?_;refine AD ?_;refine AD ?_;refine AA ?_;refine AG ?_;refine AF ?_;refine AG ?_;refine AF ?_;refine AB ?_
 revert b; intro bg
 have hval:=refCapacity_spec σg ω (.slice pg (arcsG qs cs bs hs d).length kg) (.slice pf side.length kf) (vsN qs d) (arcsG qs cs bs hs d) side hAt hu (by omega) (by omega)
 skip
 refine A4 hval rfl rfl rdZ rfl rfl ?_;rintro _ rfl;rw [← hEv]
 generalize (Go.Flow.capacitySpec (vsN qs d) (arcsG qs cs bs hs d) side).1 = vv
 by_cases hz:sidesE qs cs bs hs d side = 0
 rotate_left
 ·rw [if_neg hz]
  refine AB ?_;refine AM ?_;refine AM ?_;refine AC ?_;refine AC ?_;refine AE ?_;refine AD ?_;refine AA ?_;refine AB ?_;refine CG ?_;refine AE ?_;refine AO rfl ?_;refine AD ?_;refine AA ?_;refine A9 ?_; rintro _ _ ⟨b,rfl,rfl⟩;refine AB ?_;refine AC ?_;refine AC ?_;refine AE ?_
  exact AI (res2 rfl rfl rfl) rsubZ selZ ⟨[],_,sng b (.cells #[] 91 (0,0)),emp,rfl,rfl,rfl,(OwnS.empty (e:=91) (size:=1)).at,by simp⟩
 rw [if_pos hz]
 have hin:=sidesE_in hv hz
 have hasc:=sidesE_asc hv hz
 have hw:wd d = d.e - d.r + 1:=rfl
 rw [hz];refine AB ?_;refine AM ?_;refine AM ?_;refine AC ?_;refine AC ?_;refine AE ?_;refine AD ?_;refine AA ?_;refine AB ?_;refine BE ?_;refine AE ?_;refine AN rfl ?_;refine AK ?_;refine AD ?_;refine AA ?_;refine AG ?_;refine AF ?_;refine AG ?_;refine AF ?_;refine CY ?_;refine CC ?_;refine AC ?_;refine AE ?_;refine AD ?_;refine AA ?_;refine A9 ?_; rintro _ _ ⟨b,rfl,rfl⟩;refine AC ?_;refine AE ?_;refine AD ?_;refine AD ?_;refine AA ?_;refine AC ?_;refine AE ?_;refine AP ?_
 revert b; intro bo
 refine BB [2,3,4,12] (X:=Nat × List Sq × Value × PH × PH) (0,[],.slice (some ⟨bo,0,none⟩) 0 0,sng bo (.cells #[] 91 (0,0)),emp) (fun x=>x.1 ≤ qs.length ∧ cuL x.2.1 = sidesC d x.1 side ∧ OwnS 91 1 x.2.2.1 x.2.1.length (x.2.1.flatMap encQ) x.2.2.2.1 ∧ ∀ z ∈ x.2.1,SpAt x.2.2.2.2 (.slice z.1.1 z.2.length z.1.2) z.2 ∧ z.2.length ≤ 9223372036854775807) (fun x=>[(14,int x.1),(13,x.2.2.1)]) (fun x=>[x.2.2.2.1,x.2.2.2.2]) (fun x=>qs.length - x.1) pickZ ⟨by dsimp only; omega,rfl,OwnS.empty,by simp⟩ covZ selZ ?_
 rintro ⟨n,L,u,σo,χo⟩ ⟨hn,hL,hO,hS⟩
 dsimp only at hn hL hO hS ⊢
 have hLl:L.length ≤ qs.length:=by
  have:=congrArg List.length hL
  rw [List.length_map,sidesC_len] at this;omega
 by_cases hlt:n < qs.length
 rotate_left
 ·have hne:n = qs.length:=by omega
  subst hne;refine AD ?_;refine AD ?_;refine AA ?_;refine AB ?_;refine AG ?_;refine AG ?_;refine AF ?_;refine AV ?_;refine AY ?_;refine AE ?_;refine AN rfl ?_;refine A5 rfl ?_;refine AD ?_;refine AA ?_;refine AB ?_;refine AC ?_;refine AC ?_;refine AE ?_;exact AI (res2 rfl rfl rfl) rsubZ selZ ⟨L,u,σo,χo,rfl,rfl,hL,hO.at,hS⟩
 have hnext:sidesC d (n + 1) side = sidesC d n side ++ [sideI d side n]:=by unfold sidesC; rw [List.range_succ,List.map_append]; rfl
 refine AD ?_;refine AD ?_;refine AA ?_;refine AB ?_;refine AG ?_;refine AG ?_;refine AF ?_;refine AV ?_;refine BD ?_;refine AE ?_;refine AO rfl ?_;refine AK ?_;refine AD ?_;refine AP ?_;refine AD ?_;refine AA ?_;refine A9 ?_; rintro _ _ ⟨b,rfl,rfl⟩;refine AC ?_;refine AE ?_;refine AD ?_;refine AD ?_;refine AA ?_;refine AC ?_;refine AE ?_;refine AP ?_
 revert b; intro bl
 refine BB [2,3,4,12,13,14] (X:=Nat × Value × PH) (0,.slice (some ⟨bl,0,none⟩) 0 0,sng bl (.cells #[] 93 (0,0))) (fun z=>z.1 ≤ side.length ∧ OwnS 93 2 z.2.1 (singI d n (side.take z.1)).length ((singI d n (side.take z.1)).flatMap encS) z.2.2) (fun z=>[(16,int z.1),(15,z.2.1)]) (fun z=>[z.2.2,σo,χo]) (fun z=>side.length - z.1) pickZ ⟨by dsimp only; omega,OwnS.empty⟩ covZ selZ ?_
 rintro ⟨k,wl,σl⟩ ⟨hk,hOl⟩
 dsimp only at hk hOl ⊢
 have hsgl:=singI_small h (side:=side.take k) (hasc.sublist (List.take_sublist _ _)) n
 by_cases hlk:k < side.length
 ·have hx:=List.getElem?_eq_getElem hlk
  have hxi:=hin _ (List.getElem_mem hlk)
  have hnx:=singI_next d n hlk
  obtain ⟨bq,oq,epf,gf⟩:=hrf.int hx
  have hm0:=Int.emod_nonneg side[k] (show d.e - d.r + 1 ≠ 0 by omega)
  have hm1:=Int.emod_lt_of_pos side[k] (show 0 < d.e - d.r + 1 by omega)
  have hvs:=h.vs
  rw [hw] at hnx
  generalize side[k] = v at hx hxi hnx gf hm0 hm1
  generalize singI d n (side.take k) = S at hOl hnx hsgl
  subst epf
  by_cases hc:v / (d.e - d.r + 1) = n
  ·rw [if_pos hc] at hnx
   refine AD ?_;refine AD ?_;refine AA ?_;refine AB ?_;refine AB ?_;refine AV ?_;refine BD ?_;refine AE ?_;refine AO rfl ?_;refine AK ?_;refine AD ?_;refine AP ?_;refine AD ?_;refine AA ?_;refine AB ?_;refine AB ?_;refine BQ ?_;refine AF ?_;refine AB ?_;refine GN ?_;refine AB ?_;refine CJ ?_;refine AE ?_;refine AO rfl ?_;refine AD ?_
   refine A6 (.q 0 (.q 1 (.q 2 (.q 3 (.q 4 (.q 5 (.q 6 (.q 7 (.q 8 (.q 9 .nil)))))))))) [] rfl (by kernel_rfl) Sel.nil ?_
   refine A0 ?_;refine AR ?_;refine AJ ?_;refine AJ ?_;refine CE ?_;refine AR ?_;refine AJ ?_;refine zd_rem ?_;refine CW ?_;refine BW ?_;refine A8 ?_;refine AA ?_;refine AB ?_;refine AB ?_;refine AB ?_;refine CC ?_;refine BT ?_;refine A9 ?_; rintro _ _ ⟨b,rfl,rfl⟩
   refine BI (BP (by_:=16) (s:=2) (news:=[int (d.r + v % (d.e - d.r + 1)),int (d.r + v % (d.e - d.r + 1) + 1)]) rfl rfl rfl rfl rfl rfl rfl hOl takeZ (cells_own memZ) rfl (by (repeat (first | exact (fun v hv=>absurd hv List.not_mem_nil) | (refine List.forall_mem_cons.2 ⟨?_,?_⟩; (focus (first | exact rfl | assumption))))); first | done | fail) (by omega) (by simp only [maxLen]; omega) (by omega)) rfl rfl rfl ?_
   rintro u1 _ ⟨σ1,hO1,rfl⟩;refine AC ?_;refine AE ?_;refine AZ ?_;refine AA ?_;refine AB ?_;refine A7 ?_;refine AC ?_;refine AE ?_
   refine AU (k + 1,u1,σ1) ⟨by dsimp only; omega,?_⟩ (by dsimp only; omega) covZ selZ
   dsimp only
   rw [hnx,List.length_append,List.flatMap_append];exact hO1
  ·rw [if_neg hc,List.append_nil] at hnx
   refine AD ?_;refine AD ?_;refine AA ?_;refine AB ?_;refine AB ?_;refine AV ?_;refine BD ?_;refine AE ?_;refine AO rfl ?_;refine AK ?_;refine AD ?_;refine AP ?_;refine AD ?_;refine AA ?_;refine AB ?_;refine AB ?_;refine BQ ?_;refine AF ?_;refine AB ?_;refine GN ?_;refine AB ?_;refine B8 ?_;refine AE ?_;refine AN rfl ?_;refine AK ?_;refine AZ ?_;refine AA ?_;refine AB ?_;refine A7 ?_;refine AC ?_;refine AE ?_
   refine AU (k + 1,wl,σl) ⟨by dsimp only; omega,?_⟩ (by dsimp only; omega) covZ selZ
   dsimp only
   rw [hnx];exact hOl
 rw [List.take_of_length_le (by omega)] at hOl hsgl
 have hSl:SpAt σl wl (singI d n side):=hOl.at
 obtain ⟨pl,kl,rfl⟩:=hOl.form
 have hsok:∀ x ∈ singI d n side,okSp x:=fun x hx=>by
  unfold singI at hx
  obtain ⟨v,hv1,rfl⟩:=List.mem_map.1 hx
  have hv2:=hin v (List.mem_filter.1 hv1).1
  have hm0:=Int.emod_nonneg v (show wd d ≠ 0 by omega)
  have hm1:=Int.emod_lt_of_pos v (show 0 < wd d by omega)
  exact ⟨by dsimp only; omega,by dsimp only; omega,by dsimp only; omega⟩
 have hN:=refNormal_spec σl pl kl (singI d n side) hSl (by omega) hsok
 have hIe:insAll [] (singI d n side) = sideI d side n:=rfl
 have hIl:=sideI_small h side n
 rw [hIe] at hN
 generalize sideI d side n = I0 at hN hIl hnext
 refine AD ?_;refine AD ?_;refine AA ?_;refine AB ?_;refine AB ?_;refine AV ?_;refine AY ?_;refine AE ?_;refine AN rfl ?_;refine A5 rfl ?_;refine AD ?_;refine AA ?_;refine AB ?_;refine BM hN rfl rfl rdZ rfl rfl ?_;rintro _ σi ⟨ui,rfl,hOi⟩
 obtain ⟨pi,ci,rfl⟩:=hOi.form
 refine AB ?_;refine AM ?_;refine AM ?_;refine AC ?_;refine AE ?_;refine AA ?_;refine AB ?_;refine AB ?_;refine A9 ?_; rintro _ _ ⟨b,rfl,rfl⟩
 refine BI (BP (by_:=24) (s:=1) (news:=[.slice pi I0.length ci]) rfl rfl rfl rfl rfl rfl rfl hO takeZ (cells_own memZ) rfl (by (repeat (first | exact (fun v hv=>absurd hv List.not_mem_nil) | (refine List.forall_mem_cons.2 ⟨?_,?_⟩; (focus (first | exact rfl | assumption))))); first | done | fail) (by omega) (by simp only [maxLen]; omega) (by omega)) rfl rfl rfl ?_
 rintro u1 _ ⟨σ1,hO1,rfl⟩;refine AC ?_;refine AE ?_;refine AZ ?_;refine AA ?_;refine AB ?_;refine A7 ?_;refine AC ?_;refine AE ?_
 refine DF (ρ:=σi) (σ:=χo) takeZ takeZ (fun χ1 s1 s2=>?_)
 refine AU (n + 1,L ++ [((pi,ci),I0)],u1,σ1,χ1) ⟨by dsimp only; omega,?_,?_,fun z hz=>?_⟩ (by dsimp only; omega) covZ selZ
 ·dsimp only
  rw [hnext,← hL];exact List.map_append
 ·dsimp only
  rw [List.length_append,List.flatMap_append];exact hO1
 ·rcases List.mem_append.1 hz with hz | hz
  ·exact ⟨(hS z hz).1.mono s2,(hS z hz).2⟩
  ·obtain rfl:=List.mem_singleton.1 hz
   exact ⟨SlE.mono (show SpAt σi _ _ from hOi.at) s1,by dsimp only; omega⟩
end Go.Proofs.YtphehihohghfoaaGreat
/- The reference: residual arcs, distances level by level, the first shortest path. -/
namespace Go.Proofs.YtphehihohghfoaaGreat
open Go.Eng Go.Flow
set_option maxRecDepth 100000
set_option maxHeartbeats 4000000

def encR (rm:Nat → Int) (x:Lk):List Value:=[int x.f,int x.t,int (rm x.k)]
theorem encR_len (rm:Nat → Int) (x:Lk):(encR rm x).length = 3:=rfl
theorem lrRow {rm:Nat → Int} {ρ:PH} {p:Option Addr} {l:List Lk} (h:RowsE (encR rm) 3 ρ p l) {i:Nat} {x:Lk} (hx:l[i]? = some x) :
  ∃ b o,p = some ⟨b,o,none⟩ ∧ rdc ρ b (o + i * 3) = some (int x.f) ∧ rdc ρ b (o + i * 3 + 1) = some (int x.t) ∧ rdc ρ b (o + i * 3 + 2) = some (int (rm x.k)):=by
 obtain ⟨b,o,e,hr⟩:=h i x hx
 exact ⟨b,o,e,hr.get0,hr.get (j:=1) rfl,hr.get (j:=2) rfl⟩
set_option maxHeartbeats 8000000 in
theorem refDistances_spec (ρ:PH) (v:Value) (n t:Nat) (ls:List Lk) (rm:Nat → Int) (hv:SlE (encR rm) 3 ρ v ls) (hls:∀ x ∈ ls,x.f < n ∧ x.t < n) (hn:n ≤ 2000) (hl:ls.length ≤ 40000) (ht:t < n) :
  Makes Tryz.prog (fv 108) [int n,v,int t] [ρ] (fun r σ=>∃ b D,r = .slice (some ⟨b,0,none⟩) n n ∧ σ = sng b (.cells (ints D) 3 (0,0)) ∧ IsDist n t (opn ls rm) D):=by
 obtain ⟨q,c,rfl,hr⟩:=hv.val (encR_len rm)
 have hE:∀ x,opn ls rm x → x.f < n ∧ x.t < n:=fun x hx=>hls x hx.1
 refine spec_in (cap:=[]) Tryz.func108 rfl rfl Tryz.ntmps108 rfl envZ (fun N β=>?_)
 refine AD ?_;refine AA ?_;refine AC ?_;refine AE ?_;refine AD ?_;refine AA ?_;refine AB ?_;refine C8 ?_; rintro _ _ ⟨b,rfl,rfl⟩;refine AC ?_;refine AE ?_;refine AD ?_;refine AD ?_;refine AA ?_;refine AC ?_;refine AE ?_;refine AP ?_
 revert b; intro bd
 rw [show List.replicate n (0:Int) = List.replicate 0 (-1) ++ List.replicate (n - 0) 0 from by simp]
 refine BB [0,1,2,7] (0:Nat) (fun k=>k ≤ n) (fun k=>[(8,int k)]) (fun k=>[sng bd (.cells (ints (List.replicate k (-1) ++ List.replicate (n - k) 0)) 3 (0,0))]) (fun k=>n - k) pickZ (by omega) covZ selZ ?_
 intro k hk
 have hfl:(List.replicate k (-1:Int) ++ List.replicate (n - k) 0).length = n:=by simp; omega
 by_cases hlt:k < n
 ·have hf:=fillL n k hlt
  refine AD ?_;refine AD ?_;refine AA ?_;refine AB ?_;refine AB ?_;refine BD ?_;refine AE ?_;refine AO rfl ?_;refine AK ?_;refine AD ?_;refine AP ?_;refine AA ?_;refine AB ?_;refine AB ?_;refine BH ?_;refine CQ ?_; rintro _ _ ⟨rfl,rfl⟩;refine AE ?_;refine AZ ?_;refine AA ?_;refine AB ?_;refine A7 ?_;refine AC ?_;refine AE ?_
  refine AU (k + 1) (by omega) (by omega) covZ ?_
  rw [← hf];exact selZ
 obtain rfl:k = n:=by omega
 rw [Nat.sub_self,List.replicate_zero,List.append_nil] at hfl ⊢
 obtain ⟨hs0,hs1⟩:=LInv.start (E:=opn ls rm) ht
 refine AD ?_;refine AD ?_;refine AA ?_;refine AB ?_;refine AB ?_;refine AY ?_;refine AE ?_;refine AN rfl ?_;refine A5 rfl ?_;refine AD ?_;refine AA ?_;refine AB ?_;refine AB ?_;refine BH ?_;refine CQ ?_; rintro _ _ ⟨rfl,rfl⟩;refine AE ?_;refine AD ?_;refine AA ?_;refine AC ?_;refine AE ?_;refine AD ?_;refine AD ?_;refine AA ?_;refine AC ?_;refine AE ?_;refine AP ?_
 refine BB [0,1,2,7] (X:=Nat × (Bool × List Int)) (0,(true,(List.replicate k (-1:Int)).set t 0)) (fun x=>LInv k t (opn ls rm) x.2.2 x.1 [] ∧ (x.2.1 = true → (∀ v,v < k → x.2.2.getD v 0 ≤ (x.1:Int)) ∧ x.1 + unl x.2.2 ≤ k) ∧ (x.2.1 = false → IsDist k t (opn ls rm) x.2.2))
  (fun x=>[(10,int x.1),(9,.bool x.2.1)]) (fun x=>[sng bd (.cells (ints x.2.2) 3 (0,0))]) (fun x=>2 * unl x.2.2 + (if x.2.1 = true then 1 else 0)) pickZ ⟨hs0,fun _=>⟨hs1,by have:=unl_start ht; dsimp only; omega⟩,by simp⟩ covZ selZ ?_
 rintro ⟨d,⟨found,D⟩⟩ ⟨hI,hT,hF⟩
 dsimp only at hI hT hF ⊢
 cases found with
 | false =>
  have hD:=hF rfl
  refine AD ?_;refine AD ?_;refine AA ?_;refine AB ?_;refine AE ?_;refine AN rfl ?_;refine A5 rfl ?_;refine AD ?_;refine AA ?_;refine AB ?_;refine AC ?_;refine AE ?_;exact AI (res1 rfl rfl) rsubZ selZ ⟨_,⟨bd,D,rfl,rfl,hD⟩,rfl⟩
 | true =>
  obtain ⟨hT1,hT2⟩:=hT rfl
  refine AD ?_;refine AD ?_;refine AA ?_;refine AB ?_;refine AE ?_;refine AO rfl ?_;refine AK ?_;refine AD ?_;refine AP ?_;refine AD ?_;refine AA ?_;refine AC ?_;refine AE ?_;refine AD ?_;refine AA ?_;refine AC ?_;refine AE ?_;refine AP ?_
  refine BB [0,1,2,7,10] (X:=Nat × (Bool × List Int)) (0,(false,D)) (fun x=>x.1 ≤ ls.length ∧ LInv k t (opn ls rm) x.2.2 d (ls.take x.1) ∧ (x.2.1 = true → d + 1 + unl x.2.2 ≤ k ∧ unl x.2.2 + 1 ≤ unl D) ∧ (x.2.1 = false → x.2.2 = D))
   (fun x=>[(11,int x.1),(9,.bool x.2.1)]) (fun x=>[sng bd (.cells (ints x.2.2) 3 (0,0))]) (fun x=>ls.length - x.1) pickZ ⟨by dsimp only; omega,by simpa using hI,by simp,fun _=>rfl⟩ covZ selZ ?_
  rintro ⟨i,⟨fnd,D1⟩⟩ ⟨hi,hI1,hT3,hF3⟩
  dsimp only at hi hI1 hT3 hF3 ⊢
  have hDl:D1.length = k:=hI1.len
  have hdk:d ≤ k:=by omega
  by_cases hlt2:i < ls.length
  ·have hx:=List.getElem?_eq_getElem hlt2
   obtain ⟨b,o,rfl,g0,g1,g2⟩:=lrRow hr hx
   have hxn:=hls ls[i] (List.getElem_mem hlt2)
   have htk:=take_snoc' hlt2
   have hlow:=hI1.low ls[i].f hxn.1
   by_cases hp:0 < rm ls[i].k
   ·have hop:opn ls rm ls[i]:=⟨List.getElem_mem hlt2,hp⟩
    by_cases hd:D1.getD ls[i].t 0 = (d:Int)
    ·by_cases hneg:D1.getD ls[i].f 0 = -1
     ·have hm:=hI1.mark hop hxn.1 hd hneg
      have hu:=unl_set (D:=D1) (i:=ls[i].f) (x:=(d:Int) + 1) (by omega) (by omega) (by omega)
      have hfin:d + 1 + unl (D1.set ls[i].f ((d:Int) + 1)) ≤ k ∧ unl (D1.set ls[i].f ((d:Int) + 1)) + 1 ≤ unl D:=by
       cases fnd with
       | true=>have:=hT3 rfl; omega
       | false=>have:=hF3 rfl; subst this; omega
      refine AD ?_;refine AD ?_;refine AA ?_;refine AB ?_;refine AB ?_;refine AV ?_;refine BD ?_;refine AE ?_;refine AO rfl ?_;refine AK ?_;refine AD ?_;refine AP ?_;refine AD ?_;refine AA ?_;refine AB ?_;refine AB ?_;refine A3 ?_;refine B0 ?_;refine AF ?_;refine CP ?_;refine AB ?_;refine AB ?_;refine AB ?_;refine AB ?_;refine A3 ?_;refine B0 ?_;refine AF ?_;refine BH ?_;refine AF ?_;refine AB ?_;refine CJ ?_;refine AQ ?_;refine AB ?_;refine AB ?_;refine AB ?_;refine AB ?_;refine A3 ?_;refine CH ?_;refine AF ?_;refine BH ?_;refine AF ?_;refine CJ ?_;refine AQ ?_;refine AE ?_;refine AO rfl ?_;refine AD ?_;refine AA ?_;refine AB ?_;refine AB ?_;refine AB ?_;refine A3 ?_;refine CH ?_;refine AF ?_;refine AB ?_;refine A7 ?_;refine BH ?_;refine CQ ?_; rintro _ _ ⟨rfl,rfl⟩;refine AE ?_;refine AA ?_;refine AC ?_;refine AE ?_;refine AZ ?_;refine AA ?_;refine AB ?_;refine A7 ?_;refine AC ?_
      refine AE ?_
      refine AU (i + 1,(true,_)) ⟨by dsimp only; omega,?_,fun _=>hfin,by simp⟩ (by dsimp only; omega) covZ selZ
      dsimp only
      rw [htk]; exact hm
     ·have hm:=hI1.skip (x:=ls[i]) (fun _ _=>by omega)
      refine AD ?_;refine AD ?_;refine AA ?_;refine AB ?_;refine AB ?_;refine AV ?_;refine BD ?_;refine AE ?_;refine AO rfl ?_;refine AK ?_;refine AD ?_;refine AP ?_;refine AD ?_;refine AA ?_;refine AB ?_;refine AB ?_;refine A3 ?_;refine B0 ?_;refine AF ?_;refine CP ?_;refine AB ?_;refine AB ?_;refine AB ?_;refine AB ?_;refine A3 ?_;refine B0 ?_;refine AF ?_;refine BH ?_;refine AF ?_;refine AB ?_;refine CJ ?_;refine AQ ?_;refine AB ?_;refine AB ?_;refine AB ?_;refine AB ?_;refine A3 ?_;refine CH ?_;refine AF ?_;refine BH ?_;refine AF ?_;refine B8 ?_;refine AQ ?_;refine AE ?_;refine AN rfl ?_;refine AK ?_;refine AZ ?_;refine AA ?_;refine AB ?_;refine A7 ?_;refine AC ?_;refine AE ?_
      refine AU (i + 1,(fnd,D1)) ⟨by dsimp only; omega,?_,hT3,hF3⟩ (by dsimp only; omega) covZ selZ
      dsimp only
      rw [htk]; exact hm
    ·have hm:=hI1.skip (x:=ls[i]) (fun _ h=>absurd h hd)
     refine AD ?_;refine AD ?_;refine AA ?_;refine AB ?_;refine AB ?_;refine AV ?_;refine BD ?_;refine AE ?_;refine AO rfl ?_;refine AK ?_;refine AD ?_;refine AP ?_;refine AD ?_;refine AA ?_;refine AB ?_;refine AB ?_;refine A3 ?_;refine B0 ?_;refine AF ?_;refine CP ?_;refine AB ?_;refine AB ?_;refine AB ?_;refine AB ?_;refine A3 ?_;refine B0 ?_;refine AF ?_;refine BH ?_;refine AF ?_;refine AB ?_;refine B8 ?_;refine AQ ?_;refine AB ?_;refine AH rfl rfl rfl ?_;refine AH rfl rfl rfl ?_;refine AH rfl rfl rfl ?_;refine AH rfl rfl rfl ?_;refine AH rfl rfl rfl ?_;refine AH rfl rfl rfl ?_;refine AH rfl rfl rfl ?_;refine AH rfl rfl rfl ?_;refine AH rfl rfl rfl ?_;refine AL ?_;refine AE ?_;refine AN rfl ?_;refine AK ?_;refine AZ ?_;refine AA ?_;refine AB ?_;refine A7 ?_;refine AC ?_;refine AE ?_
     refine AU (i + 1,(fnd,D1)) ⟨by dsimp only; omega,?_,hT3,hF3⟩ (by dsimp only; omega) covZ selZ
     dsimp only
     rw [htk]; exact hm
   ·have hm:=hI1.skip (x:=ls[i]) (fun h _=>absurd h.2 hp)
    refine AD ?_;refine AD ?_;refine AA ?_;refine AB ?_;refine AB ?_;refine AV ?_;refine BD ?_;refine AE ?_;refine AO rfl ?_;refine AK ?_;refine AD ?_;refine AP ?_;refine AD ?_;refine AA ?_;refine AB ?_;refine AB ?_;refine A3 ?_;refine B0 ?_;refine AF ?_;refine B4 ?_;refine AB ?_;refine AH rfl rfl rfl ?_;refine AH rfl rfl rfl ?_;refine AH rfl rfl rfl ?_;refine AH rfl rfl rfl ?_;refine AH rfl rfl rfl ?_;refine AH rfl rfl rfl ?_;refine AH rfl rfl rfl ?_;refine AH rfl rfl rfl ?_;refine AH rfl rfl rfl ?_;refine AH rfl rfl rfl ?_;refine AL ?_;refine AB ?_;refine AH rfl rfl rfl ?_;refine AH rfl rfl rfl ?_;refine AH rfl rfl rfl ?_;refine AH rfl rfl rfl ?_;refine AH rfl rfl rfl ?_;refine AH rfl rfl rfl ?_;refine AH rfl rfl rfl ?_;refine AH rfl rfl rfl ?_;refine AH rfl rfl rfl ?_;refine AL ?_;refine AE ?_;refine AN rfl ?_;refine AK ?_;refine AZ ?_;refine AA ?_;refine AB ?_;refine A7 ?_
    refine AC ?_;refine AE ?_
    refine AU (i + 1,(fnd,D1)) ⟨by dsimp only; omega,?_,hT3,hF3⟩ (by dsimp only; omega) covZ selZ
    dsimp only
    rw [htk]; exact hm
  ·rw [List.take_of_length_le (by omega)] at hI1
   have hnx:=hI1.next (ls:=ls) (fun x hx=>hx.1) hE (fun x hx=>hx)
   refine AD ?_;refine AD ?_;refine AA ?_;refine AB ?_;refine AB ?_;refine AV ?_;refine AY ?_;refine AE ?_;refine AN rfl ?_;refine A5 rfl ?_;refine AZ ?_;refine AA ?_;refine AB ?_;refine A7 ?_;refine AC ?_;refine AE ?_
   refine AU (d + 1,(fnd,D1)) ⟨hnx,fun h=>⟨fun v hv=>by have:=hnx.hi v hv; have:=hI1.hi v hv; dsimp only; omega,by have:=hT3 h; dsimp only; omega⟩,fun h=>?_⟩ ?_ covZ selZ
   ·dsimp only at h ⊢
    have e:=hF3 h
    subst e
    exact hnx.dist hE (fun v hv=>hT1 v hv)
   ·dsimp only
    cases fnd with
    | true=>have:=hT3 rfl; simp; omega
    | false=>have:=hF3 rfl; subst this; simp
end Go.Proofs.YtphehihohghfoaaGreat
/- Bounds on what Max hands back; a capacity raised. No program in sight. No conditions. -/
namespace Go.Flow
end Go.Flow
/- The reference's list of residual arcs, as it is filled; rooms are bounded. No program in sight. No conditions. -/
namespace Go.Flow
def zLk (l:List Arc):Lk:=⟨2 * l.length,0,0⟩
theorem rm_zLk (l:List Arc) (fl:List Int) (h:fl.length = l.length):rmR l fl (zLk l).k = 0:=by
  unfold rmR zLk
  dsimp only
  rw [if_pos (by omega),show 2 * l.length / 2 = l.length from by omega,List.getD_eq_getElem?_getD,List.getElem?_eq_none (by omega),List.getD_eq_getElem?_getD,List.getElem?_eq_none (by omega)]
  rfl
def fillR (l:List Arc) (i:Nat):List Lk:=rlinks (l.take i) ++ List.replicate (2 * l.length - 2 * i) (zLk l)
theorem fillR_zero (l:List Arc):fillR l 0 = List.replicate (2 * l.length) (zLk l):=by simp [fillR,rlinks,rlFrom]
theorem fillR_len (l:List Arc) {i:Nat} (h:i ≤ l.length):(fillR l i).length = 2 * l.length:=by
  unfold fillR;rw [List.length_append,rlinks_len,List.length_replicate,List.length_take];omega
theorem fillR_end (l:List Arc):fillR l l.length = rlinks l:=by simp [fillR]
theorem fillR_step {l:List Arc} {i:Nat} (h:i < l.length):((fillR l i).set (2 * i) ⟨2 * i,l[i].f.toNat,l[i].t.toNat⟩).set (2 * i + 1) ⟨2 * i + 1,l[i].t.toNat,l[i].f.toNat⟩ = fillR l (i + 1):=by
  have hlen:(rlinks (l.take i)).length = 2 * i:=by rw [rlinks_len,List.length_take]; omega
  unfold fillR;rw [take_snoc' h,rlinks_snoc]
  obtain ⟨r,hr⟩:∃ r,2 * l.length - 2 * i = r + 2:=⟨2 * l.length - 2 * i - 2,by omega⟩
  have hr2:2 * l.length - 2 * (i + 1) = r:=by omega
  have hti:(l.take i).length = i:=by rw [List.length_take]; omega
  rw [hr,hr2,List.replicate_succ,List.replicate_succ,List.set_append_right _ _ (by omega),List.set_append_right _ _ (by omega),hlen,hti]
  rw [show 2 * i - 2 * i = 0 from by omega,show 2 * i + 1 - 2 * i = 1 from by omega]
  simp
theorem rmR_le {n:Nat} {l:List Arc} {fl:List Int} (hok:∀ a ∈ l,okArc n a = true) (hl:l.length = fl.length) (hc:inCap l fl = true) {x:Lk} (hx:x ∈ rlinks l):rmR l fl x.k ≤ 1099511627776:=by
  obtain ⟨j,a,ha,hxe⟩:=rlinks_iff.1 hx
  have hjl:j < l.length:=(List.getElem?_eq_some_iff.1 ha).1
  have hfj:fl[j]? = some (fl.getD j 0):=by simp [List.getD_eq_getElem?_getD,show j < fl.length by omega]
  have hlj:l.getD j default = a:=by simp [List.getD_eq_getElem?_getD,ha]
  have hin:=inCap_get l fl hc j a _ ha hfj
  have:=okArc_iff.1 (hok a (List.mem_of_getElem? ha))
  unfold rmR
  rcases hxe with rfl | rfl
  · dsimp only
    rw [if_pos (by omega),show 2 * j / 2 = j from by omega,hlj]; omega
  · dsimp only
    rw [if_neg (by omega),show (2 * j + 1) / 2 = j from by omega]; omega
theorem find_at {α:Type} {p:α → Bool}:∀ {l:List α} {x:α},l.find? p = some x → ∃ i:Nat,l[i]? = some x ∧ p x = true ∧ ∀ (j:Nat) (y:α),j < i → l[j]? = some y → p y = false
  | [],x,h=>by simp at h
  | a :: l,x,h=>by
    rw [List.find?_cons] at h
    cases hp:p a with
    | true =>
      rw [hp] at h
      simp at h; subst h
      exact ⟨0,rfl,hp,fun j y hj=>by omega⟩
    | false =>
      rw [hp] at h;simp only at h
      obtain ⟨i,h1,h2,h3⟩:=find_at h
      refine ⟨i + 1,by simpa using h1,h2,fun j y hj hy=>?_⟩
      cases j with
      | zero=>simp at hy; subst hy; exact hp
      | succ j=>exact h3 j y (by omega) (by simpa using hy)
end Go.Flow
/- The reference: the list of residual arcs, the first shortest path. -/
namespace Go.Proofs.YtphehihohghfoaaGreat
open Go.Eng Go.Flow
set_option maxRecDepth 100000
set_option maxHeartbeats 4000000

set_option maxHeartbeats 8000000 in
theorem refResidual_spec (ρ σ:PH) (v u:Value) (n:Nat) (l:List Arc) (fl:List Int) (hv:ArcsAt ρ v l) (hu:IntsAt σ u fl) (hl:l.length ≤ 20000) (hfl:fl.length = l.length) (hok:∀ a ∈ l,okArc n a = true) (hc:inCap l fl = true) :
  Makes Tryz.prog (fv 73) [v,u] [ρ,σ] (fun r τ=>∃ b,r = .slice (some ⟨b,0,none⟩) (2 * l.length) (2 * l.length) ∧ τ = sng b (.cells (elems (encR (rmR l fl)) (rlinks l)) 154 (0,0))):=by
 obtain ⟨q,c,rfl,hr⟩:=hv.val encA_len
 obtain ⟨q2,c2,rfl,hr2⟩:=hu.val Eng.encI_len
 have hz0:=rm_zLk l fl hfl
 have hze:encR (rmR l fl) (zLk l) = [int 0,int 0,int 0]:=by unfold encR; rw [hz0]; rfl
 refine spec_in (cap:=[]) Tryz.func73 rfl rfl Tryz.ntmps73 rfl envZ (fun N β=>?_)
 refine AD ?_;refine AA ?_;refine AC ?_;refine AE ?_;refine AD ?_;refine AA ?_;refine AB ?_;refine AV ?_;refine zq_dbl ?_
 refine BI (GX (enc:=encR (rmR l fl)) (s:=3) (by_:=24) (zLk l) rfl rfl rfl rfl rfl rfl (by rw [hze]; rfl) rfl (by omega) (by omega)) rfl rfl rfl ?_
 rintro _ _ ⟨b,rfl,rfl⟩;rw [← fillR_zero];refine AC ?_;refine AE ?_;refine AD ?_;refine AD ?_;refine AA ?_;refine AC ?_;refine AE ?_;refine AP ?_
 refine BB [0,1,5] (0:Nat) (fun i=>i ≤ l.length) (fun i=>[(6,int i)]) (fun i=>[sng b (.cells (elems (encR (rmR l fl)) (fillR l i)) 154 (0,0))]) (fun i=>l.length - i) pickZ (by omega) covZ selZ ?_
 intro i hi
 by_cases hlt:i < l.length
 ·have hx:=List.getElem?_eq_getElem hlt
  obtain ⟨b1,o1,rfl,hA,g0,g1,g2⟩:=arcRow hr hx
  have hlt2:i < fl.length:=by omega
  obtain ⟨b2,o2,rfl,g3⟩:=hr2.int (List.getElem?_eq_getElem hlt2)
  have hin:=inCap_get l fl hc i l[i] fl[i] hx (List.getElem?_eq_getElem hlt2)
  obtain ⟨k1,k2,k3,k4,k5,k6,k7⟩:=okArc_iff.1 (hok l[i] (List.getElem_mem hlt))
  obtain ⟨f,hf⟩:=Int.eq_ofNat_of_zero_le k1
  obtain ⟨t,ht⟩:=Int.eq_ofNat_of_zero_le k3
  have hst:=fillR_step hlt
  have hlen:=fillR_len l (i:=i) (by omega)
  rw [hf,ht] at hst;simp only [Int.toNat_natCast] at hst;rw [hf] at g0;rw [ht] at g1
  have e1:encR (rmR l fl) ⟨2 * i,f,t⟩ = [int f,int t,int (l[i].c - fl[i])]:=by
   unfold encR rmR
   dsimp only
   rw [if_pos (by omega),show 2 * i / 2 = i from by omega,List.getD_eq_getElem?_getD,hx,List.getD_eq_getElem?_getD,List.getElem?_eq_getElem hlt2]
   rfl
  have e2:encR (rmR l fl) ⟨2 * i + 1,t,f⟩ = [int t,int f,int fl[i]]:=by
   unfold encR rmR
   dsimp only
   rw [if_neg (by omega),show (2 * i + 1) / 2 = i from by omega,List.getD_eq_getElem?_getD,List.getElem?_eq_getElem hlt2]
   rfl
  refine AD ?_;refine AD ?_;refine AA ?_;refine AB ?_;refine AB ?_;refine AV ?_;refine BD ?_;refine AE ?_;refine AO rfl ?_;refine AK ?_;refine AD ?_;refine AP ?_;refine AD ?_
  refine A6 (.q 0 (.q 1 (.q 2 (.q 3 (.q 4 (.q 5 (.q 6 (.q 7 (.q 8 (.q 9 (.q 10 (.q 11 (.q 12 (.q 13 (.q 14 (.q 15 (.q 16 (.q 17 (.q 18 (.q 19 (.q 20 (.q 21 (.q 22 (.q 23 (.q 24 (.l 25 .b .nil)))))))))))))))))))))))))) [] rfl (by kernel_rfl) selZ ?_
  refine AJ ?_;refine AJ ?_;refine GM ?_;refine AJ ?_;refine AJ ?_;refine BC ?_;refine BY ?_;refine AR ?_;refine AJ ?_;refine AJ ?_;refine BC ?_;refine BX ?_;refine AR ?_;refine AJ ?_;refine AJ ?_;refine BC ?_;refine BX ?_;refine AR ?_;refine AJ ?_;refine AJ ?_;refine CE ?_;refine AR ?_;refine DN ?_;refine CD ?_;refine BC ?_;refine CL ?_;refine' FJ rfl _ rfl rfl _ _
  rotate_left
  ·exact FG (encR_len _) (a:=⟨2 * i,f,t⟩) (2 * i) rfl (Nat.zero_add _) (by rw [e1]; rfl) (by rw [e1]; exact (by (repeat (first | exact (fun v hv=>absurd hv List.not_mem_nil) | (refine List.forall_mem_cons.2 ⟨?_,?_⟩; (focus (first | exact rfl | assumption))))); first | done | fail)) rfl takeZ (by omega)
  ·rintro _ _ ⟨_,rfl⟩ w hw; exact hw.sel selZ
  rintro _ _ ⟨rfl,rfl⟩;refine A8 ?_
  skip
  refine A6 (.q 0 (.q 1 (.q 2 (.q 3 (.q 4 (.q 5 (.q 6 (.q 7 (.q 8 (.q 9 (.q 10 (.q 11 (.q 12 (.q 13 (.q 14 (.q 15 (.q 16 (.q 17 (.q 18 (.q 19 (.l 20 .b .nil))))))))))))))))))))) [] rfl (by kernel_rfl) selZ ?_
  refine AJ ?_;refine AJ ?_;refine GM ?_;refine zd_inc ?_;refine AJ ?_;refine AJ ?_;refine BC ?_;refine BX ?_;refine AR ?_;refine AJ ?_;refine AJ ?_;refine BC ?_;refine BY ?_;refine AR ?_;refine AJ ?_;refine AJ ?_;refine CE ?_;refine AR ?_;refine CD ?_;refine BC ?_;refine CL ?_;refine' FJ rfl _ rfl rfl _ _
  rotate_left
  ·exact FG (encR_len _) (a:=⟨2 * i + 1,t,f⟩) (2 * i + 1) rfl (Nat.zero_add _) (by rw [e2]; rfl) (by rw [e2]; exact (by (repeat (first | exact (fun v hv=>absurd hv List.not_mem_nil) | (refine List.forall_mem_cons.2 ⟨?_,?_⟩; (focus (first | exact rfl | assumption))))); first | done | fail)) rfl takeZ (by rw [List.length_set]; omega)
  ·rintro _ _ ⟨_,rfl⟩ w hw; exact hw.sel selZ
  rintro _ _ ⟨rfl,rfl⟩;refine A8 ?_;refine AZ ?_;refine AA ?_;refine AB ?_;refine A7 ?_;refine AC ?_;refine AE ?_
  refine AU (i + 1) (by omega) (by omega) covZ ?_
  rw [← hst];exact selZ
 ·obtain rfl:i = l.length:=by omega
  rw [fillR_end];refine AD ?_;refine AD ?_;refine AA ?_;refine AB ?_;refine AB ?_;refine AV ?_;refine AY ?_;refine AE ?_;refine AN rfl ?_;refine A5 rfl ?_;refine AD ?_;refine AA ?_;refine AB ?_;refine AC ?_;refine AE ?_;exact AI (res1 rfl rfl) rsubZ selZ ⟨_,⟨b,rfl,rfl⟩,rfl⟩
end Go.Proofs.YtphehihohghfoaaGreat
/- The reference: the first shortest path. -/
namespace Go.Proofs.YtphehihohghfoaaGreat
open Go.Eng Go.Flow
set_option maxRecDepth 100000
set_option maxHeartbeats 4000000

set_option maxHeartbeats 8000000 in
theorem refPath_spec (ρ:PH) (v:Value) (n s t:Nat) (ls:List Lk) (rm:Nat → Int) (hv:SlE (encR rm) 3 ρ v ls) (hls:∀ x ∈ ls,x.f < n ∧ x.t < n) (hat:atPl ls) (hn:n ≤ 2000) (hl:ls.length ≤ 40000) (hs:s < n) (ht:t < n) :
  Makes Tryz.prog (fv 77) [int n,v,int s,int t] [ρ] (fun r σ=>∃ D pv,IsDist n t (opn ls rm) D ∧ r = .tuple #[pv,int (rmin rm (pathD (nxt ls rm D) D s))] ∧ OwnS 3 1 pv (pathD (nxt ls rm D) D s).length ((ksOf (pathD (nxt ls rm D) D s)).map int) σ):=by
 have hv2:=hv
 obtain ⟨q,c,rfl,hr⟩:=hv.val (encR_len rm)
 have hE:∀ x,opn ls rm x → x.f < n ∧ x.t < n:=fun x hx=>hls x hx.1
 refine spec_in (cap:=[]) Tryz.func77 rfl rfl Tryz.ntmps77 rfl envZ (fun N β=>?_)
 refine BV ?_;refine AD ?_;refine AA ?_;refine AC ?_;refine AC ?_;refine AE ?_;refine AD ?_;refine AA ?_;refine AB ?_;refine AB ?_;refine AB ?_;refine BM (refDistances_spec ρ _ n t ls rm hv2 hls hn hl ht) rfl rfl rdZ rfl rfl ?_;rintro _ ρD ⟨bD,D,rfl,rfl,hD⟩
 have hDl:=hD.len
 have hlow:=hD.low s hs
 by_cases hneg:D.getD s 0 = -1
 ·refine AC ?_
  refine AE ?_;refine AD ?_;refine AD ?_;refine AA ?_;refine AB ?_;refine AB ?_;refine BH ?_;refine AF ?_;refine CJ ?_;refine AE ?_;refine AO rfl ?_;refine AD ?_;refine AA ?_;refine AC ?_;refine AC ?_;refine AE ?_;refine AI (res2 rfl rfl rfl) rsubZ selZ ⟨emp,⟨D,.slice none 0 0,hD,?_,?_⟩,rfl⟩
  ·rw [pathD_end (by omega)]; rfl
  ·rw [pathD_end (by omega)]; exact OwnS.nil _ _
 refine AC ?_;refine AE ?_;refine AD ?_;refine AD ?_;refine AA ?_;refine AB ?_;refine AB ?_;refine BH ?_;refine AF ?_;refine B8 ?_;refine AE ?_;refine AN rfl ?_;refine AK ?_;refine AD ?_;refine AA ?_;refine AC ?_;refine AE ?_;refine AD ?_;refine AA ?_;refine AC ?_;refine AE ?_;refine AD ?_;refine AD ?_;refine AA ?_;refine AB ?_;refine AC ?_;refine AE ?_;refine AP ?_
 have hub:=hD.lt hE ht hs
 refine BB [0,1,2,3,10] ((([]:List Lk),s),(.slice none 0 0,emp)) (X:=(List Lk × Nat) × (Value × PH))
  (fun x=>x.1.2 < n ∧ 0 ≤ D.getD x.1.2 0 ∧ pathD (nxt ls rm D) D s = x.1.1 ++ pathD (nxt ls rm D) D x.1.2 ∧ OwnS 3 1 x.2.1 x.1.1.length ((ksOf x.1.1).map int) x.2.2 ∧ x.1.1.length + (D.getD x.1.2 0).toNat ≤ n)
  (fun x=>[(11,x.2.1),(12,int (rmin rm x.1.1)),(13,int x.1.2)]) (fun x=>[sng bD (.cells (ints D) 3 (0,0)),x.2.2]) (fun x=>(D.getD x.1.2 0).toNat)
  pickZ ⟨hs,by dsimp only; omega,rfl,OwnS.nil _ _,by dsimp only [List.length_nil]; omega⟩ covZ selZ ?_
 rintro ⟨⟨pre,w⟩,⟨pv,ρp⟩⟩ ⟨hw,hd0,hpre,hP,hln⟩
 dsimp only at hw hd0 hpre hP hln ⊢
 by_cases hwt:w = t
 ·refine AD ?_
  refine AD ?_;refine AA ?_;refine AB ?_;refine AB ?_;refine BE ?_;refine AE ?_;refine AN rfl ?_;refine A5 rfl ?_;refine AD ?_;refine AA ?_;refine AB ?_;refine AB ?_;refine AC ?_;refine AC ?_;refine AE ?_;refine AI (res2 rfl rfl rfl) rsubZ selZ ⟨ρp,⟨D,pv,hD,?_,?_⟩,rfl⟩
  ·rw [hpre,pathD_end (by rw [hwt,hD.at0]; omega),List.append_nil]
  ·rw [hpre,pathD_end (by rw [hwt,hD.at0]; omega),List.append_nil]; exact hP
 have hdw:0 < D.getD w 0:=by
  by_cases h0:D.getD w 0 = 0
  ·exact absurd (hD.zero w hw h0) hwt
  ·omega
 obtain ⟨x0,hx0,hx0f,hx0o,hx0d⟩:=nxt_some hls hD hw hdw
 obtain ⟨i0,hi0,hp0,hno⟩:=find_at hx0
 have hk0:=hat i0 x0 hi0
 have hi0l:i0 < ls.length:=(List.getElem?_eq_some_iff.1 hi0).1
 have hx0n:=hls x0 hx0o.1
 have hwub:=hD.lt hE ht hw
 obtain ⟨pb,pc,rfl⟩:∃ p c,pv = .slice p pre.length c:=SlAt.cap hP.at
 refine AD ?_;refine AD ?_;refine AA ?_;refine AB ?_;refine AB ?_;refine CG ?_;refine AE ?_;refine AO rfl ?_;refine AK ?_;refine AP ?_;refine AD ?_;refine AA ?_;refine AC ?_;refine AE ?_;refine AD ?_;refine AP ?_
 refine BB [0,1,2,3,10,11,12,13] (0:Nat) (fun i=>i ≤ i0) (fun i=>[(14,int i)]) (fun _=>[sng bD (.cells (ints D) 3 (0,0)),ρp]) (fun i=>i0 - i) pickZ (by omega) covZ selZ ?_
 intro i hi
 have hlt:i < ls.length:=by omega
 have hx:=List.getElem?_eq_getElem hlt
 obtain ⟨b1,o1,rfl,g0,g1,g2⟩:=lrRow hr hx
 have hxn:=hls ls[i] (List.getElem_mem hlt)
 have hxlo:=hD.low ls[i].t hxn.2
 have hxub:=hD.lt hE ht hxn.2
 by_cases hii:i = i0
 ·subst hii
  rw [hx] at hi0
  obtain rfl:=Option.some.inj hi0
  have hrp:=hx0o.2
  refine AD ?_;refine AD ?_
  refine A6 (.q 0 (.q 1 (.q 2 (.q 3 (.q 4 (.q 5 (.q 6 (.q 7 (.q 8 (.q 9 (.q 10 (.q 11 (.q 12 (.q 13 (.q 14 (.q 15 (.q 16 (.q 17 (.q 18 (.q 19 (.q 20 (.q 21 (.q 22 (.q 23 (.q 24 (.q 25 (.q 26 (.q 27 (.q 28 (.q 29 (.q 30 .nil))))))))))))))))))))))))))))))) [] rfl (by kernel_rfl) selZ ?_
  refine AJ ?_;refine AJ ?_;refine BC ?_;refine BX ?_;refine AR ?_;refine DS ?_;refine AJ ?_;refine AJ ?_;refine AJ ?_;refine BC ?_;refine BY ?_;refine AR ?_;refine AJ ?_;refine FY ?_;refine BU ?_;refine AJ ?_;refine AJ ?_;refine AJ ?_;refine AJ ?_;refine BC ?_;refine BX ?_;refine AR ?_;refine B7 ?_;refine AR ?_;refine AJ ?_;refine AJ ?_;refine B7 ?_;refine AR ?_;refine DN ?_;refine FY ?_;refine BU ?_;refine A8 ?_
  have hsn:=rmin_snoc rm pre ls[i]
  have hksn:(ksOf (pre ++ [ls[i]])).map int = (ksOf pre).map int ++ [int (i:Int)]:=by simp [ksOf,hk0]
  have hfin:∀ (q9:Value) (ρ3:PH),OwnS 3 1 q9 (pre.length + 1) ((ksOf pre).map int ++ [int (i:Int)]) ρ3 → OwnS 3 1 q9 (pre ++ [ls[i]]).length ((ksOf (pre ++ [ls[i]])).map int) ρ3:=fun q9 ρ3 h=>by
   rw [hksn,List.length_append]; exact h
  by_cases hup:pre = [] ∨ rm ls[i].k < rmin rm pre
  ·rw [if_pos hup] at hsn
   by_cases hpn:pre.length = 0
   ·refine AN rfl ?_
    refine A5 rfl ?_;refine AD ?_;refine AD ?_;refine AA ?_;refine AB ?_;refine AV ?_;refine CJ ?_;refine AB ?_;refine AH rfl rfl rfl ?_;refine AH rfl rfl rfl ?_;refine AH rfl rfl rfl ?_;refine AH rfl rfl rfl ?_;refine AH rfl rfl rfl ?_;refine AH rfl rfl rfl ?_;refine AH rfl rfl rfl ?_;refine AQ ?_;refine AE ?_;refine AO rfl ?_;refine AA ?_;refine AB ?_;refine AB ?_;refine A3 ?_;refine B0 ?_;refine AF ?_;refine AC ?_;refine AE ?_;refine AD ?_;refine AA ?_;refine AB ?_;refine AB ?_;refine A9 ?_; rintro _ _ ⟨b,rfl,rfl⟩
    refine BI (BP (by_:=8) (s:=1) (news:=[int (i:Int)]) rfl rfl rfl rfl rfl rfl rfl hP takeZ (cells_own memZ) rfl (by (repeat (first | exact (fun v hv=>absurd hv List.not_mem_nil) | (refine List.forall_mem_cons.2 ⟨?_,?_⟩; (focus (first | exact rfl | assumption))))); first | done | fail) (by omega) (by simp only [maxLen]; omega) (by omega)) rfl rfl rfl ?_
    rintro q9 _ ⟨ρ3,hQ3,rfl⟩;refine AC ?_;refine AE ?_;refine AA ?_;refine AB ?_;refine AB ?_;refine A3 ?_;refine B0 ?_;refine AF ?_;refine AC ?_;refine AE ?_;refine AZ ?_
    refine AU ((pre ++ [ls[i]],ls[i].t),(q9,ρ3)) ⟨hx0n.2,by dsimp only; omega,?_,hfin q9 ρ3 hQ3,?_⟩ (by dsimp only; omega) ?_ selZ
    ·dsimp only
     rw [hpre,pathD_step hx0 hdw hx0d,List.append_assoc]; rfl
    ·dsimp only
     rw [List.length_append,List.length_singleton]; omega
    ·dsimp only
     rw [hsn];exact covZ
   ·have hup2:rm ls[i].k < rmin rm pre:=by
     rcases hup with h | h
     ·rw [h] at hpn; simp at hpn
     ·exact h
    refine AN rfl ?_;refine A5 rfl ?_;refine AD ?_;refine AD ?_;refine AA ?_;refine AB ?_;refine AV ?_;refine B8 ?_;refine AB ?_;refine AB ?_;refine AB ?_;refine A3 ?_;refine B0 ?_;refine AF ?_;refine AB ?_;refine BD ?_;refine AL ?_;refine AE ?_;refine AO rfl ?_;refine AA ?_;refine AB ?_;refine AB ?_;refine A3 ?_;refine B0 ?_;refine AF ?_;refine AC ?_;refine AE ?_;refine AD ?_;refine AA ?_;refine AB ?_;refine AB ?_;refine A9 ?_; rintro _ _ ⟨b,rfl,rfl⟩
    refine BI (BP (by_:=8) (s:=1) (news:=[int (i:Int)]) rfl rfl rfl rfl rfl rfl rfl hP takeZ (cells_own memZ) rfl (by (repeat (first | exact (fun v hv=>absurd hv List.not_mem_nil) | (refine List.forall_mem_cons.2 ⟨?_,?_⟩; (focus (first | exact rfl | assumption))))); first | done | fail) (by omega) (by simp only [maxLen]; omega) (by omega)) rfl rfl rfl ?_
    rintro q9 _ ⟨ρ3,hQ3,rfl⟩;refine AC ?_;refine AE ?_;refine AA ?_;refine AB ?_;refine AB ?_;refine A3 ?_;refine B0 ?_;refine AF ?_;refine AC ?_;refine AE ?_;refine AZ ?_
    refine AU ((pre ++ [ls[i]],ls[i].t),(q9,ρ3)) ⟨hx0n.2,by dsimp only; omega,?_,hfin q9 ρ3 hQ3,?_⟩ (by dsimp only; omega) ?_ selZ
    ·dsimp only
     rw [hpre,pathD_step hx0 hdw hx0d,List.append_assoc]; rfl
    ·dsimp only
     rw [List.length_append,List.length_singleton]; omega
    ·dsimp only
     rw [hsn];exact covZ
  ·rw [if_neg hup] at hsn
   simp only [not_or] at hup
   have hpn:pre.length ≠ 0:=fun h=>hup.1 (List.eq_nil_of_length_eq_zero h)
   have hup2:=hup.2
   refine AN rfl ?_;refine A5 rfl ?_;refine AD ?_;refine AD ?_;refine AA ?_;refine AB ?_;refine AV ?_;refine B8 ?_;refine AB ?_;refine AB ?_;refine AB ?_;refine A3 ?_;refine B0 ?_;refine AF ?_;refine AB ?_;refine AY ?_;refine AL ?_;refine AE ?_;refine AN rfl ?_;refine AK ?_;refine AD ?_;refine AA ?_;refine AB ?_;refine AB ?_;refine A9 ?_; rintro _ _ ⟨b,rfl,rfl⟩
   refine BI (BP (by_:=8) (s:=1) (news:=[int (i:Int)]) rfl rfl rfl rfl rfl rfl rfl hP takeZ (cells_own memZ) rfl (by (repeat (first | exact (fun v hv=>absurd hv List.not_mem_nil) | (refine List.forall_mem_cons.2 ⟨?_,?_⟩; (focus (first | exact rfl | assumption))))); first | done | fail) (by omega) (by simp only [maxLen]; omega) (by omega)) rfl rfl rfl ?_
   rintro q9 _ ⟨ρ3,hQ3,rfl⟩;refine AC ?_;refine AE ?_;refine AA ?_;refine AB ?_;refine AB ?_;refine A3 ?_;refine B0 ?_;refine AF ?_;refine AC ?_;refine AE ?_;refine AZ ?_
   refine AU ((pre ++ [ls[i]],ls[i].t),(q9,ρ3)) ⟨hx0n.2,by dsimp only; omega,?_,hfin q9 ρ3 hQ3,?_⟩ (by dsimp only; omega) ?_ selZ
   ·dsimp only
    rw [hpre,pathD_step hx0 hdw hx0d,List.append_assoc]; rfl
   ·dsimp only
    rw [List.length_append,List.length_singleton]; omega
   ·dsimp only
    rw [hsn];exact covZ
 ·have hnoi:=hno i ls[i] (by omega) hx
  by_cases h1:0 < rm ls[i].k
  ·by_cases h2:ls[i].f = w
   ·have h3:D.getD ls[i].t 0 ≠ D.getD w 0 - 1:=fun h=>by
     rw [decide_eq_true h1,decide_eq_true h2] at hnoi;unfold near at hnoi;rw [decide_eq_true h] at hnoi
     simp at hnoi
    refine AD ?_;refine AD ?_
    refine A6 (.q 0 (.q 1 (.q 2 (.q 3 (.q 4 (.q 5 (.q 6 (.q 7 (.q 8 (.q 9 (.q 10 (.q 11 (.q 12 (.q 13 (.q 14 (.q 15 (.q 16 (.q 17 (.q 18 (.q 19 (.q 20 (.q 21 (.q 22 (.q 23 (.q 24 (.q 25 (.q 26 (.q 27 (.q 28 (.q 29 (.q 30 .nil))))))))))))))))))))))))))))))) [] rfl (by kernel_rfl) selZ ?_
    refine AJ ?_;refine AJ ?_;refine BC ?_;refine BX ?_;refine AR ?_;refine DS ?_;refine AJ ?_;refine AJ ?_;refine AJ ?_;refine BC ?_;refine BY ?_;refine AR ?_;refine AJ ?_;refine FY ?_;refine BU ?_;refine AJ ?_;refine AJ ?_;refine AJ ?_;refine AJ ?_;refine BC ?_;refine BX ?_;refine AR ?_;refine B7 ?_;refine AR ?_;refine AJ ?_;refine AJ ?_;refine B7 ?_;refine AR ?_;refine DN ?_;refine zd_ne ?_;refine BU ?_;refine A8 ?_;refine AO rfl ?_;refine AK ?_;refine AP ?_;refine AA ?_;refine AB ?_;refine A7 ?_;refine AC ?_;refine AE ?_;refine AZ ?_
    exact AU (i + 1) (by omega) (by omega) covZ selZ
   ·refine AD ?_
    refine AD ?_
    refine A6 (.q 0 (.q 1 (.q 2 (.q 3 (.q 4 (.q 5 (.q 6 (.q 7 (.q 8 (.q 9 (.q 10 (.q 11 (.q 12 (.q 13 (.q 14 (.q 15 (.q 16 (.q 17 (.q 18 (.q 19 (.q 20 (.q 21 (.q 22 (.q 23 (.q 24 (.q 25 (.q 26 (.q 27 (.q 28 (.q 29 (.q 30 .nil))))))))))))))))))))))))))))))) [] rfl (by kernel_rfl) selZ ?_
    refine AJ ?_;refine AJ ?_;refine BC ?_;refine BX ?_;refine AR ?_;refine DS ?_;refine AJ ?_;refine AJ ?_;refine AJ ?_;refine BC ?_;refine BY ?_;refine AR ?_;refine AJ ?_;refine zd_ne ?_;refine BU ?_;refine AJ ?_;refine AW rfl rfl rfl rfl rfl ?_;refine AW rfl rfl rfl rfl rfl ?_;refine AW rfl rfl rfl rfl rfl ?_;refine AW rfl rfl rfl rfl rfl ?_;refine AW rfl rfl rfl rfl rfl ?_;refine AW rfl rfl rfl rfl rfl ?_;refine AW rfl rfl rfl rfl rfl ?_;refine AW rfl rfl rfl rfl rfl ?_;refine AW rfl rfl rfl rfl rfl ?_;refine AW rfl rfl rfl rfl rfl ?_;refine AW rfl rfl rfl rfl rfl ?_;refine AW rfl rfl rfl rfl rfl ?_;refine AW rfl rfl rfl rfl rfl ?_;refine AW rfl rfl rfl rfl rfl ?_;refine BR ?_;refine A8 ?_;refine AO rfl ?_;refine AK ?_;refine AP ?_;refine AA ?_;refine AB ?_;refine A7 ?_;refine AC ?_;refine AE ?_;refine AZ ?_
    exact AU (i + 1) (by omega) (by omega) covZ selZ
  ·refine AD ?_
   refine AD ?_
   refine A6 (.q 0 (.q 1 (.q 2 (.q 3 (.q 4 (.q 5 (.q 6 (.q 7 (.q 8 (.q 9 (.q 10 (.q 11 (.q 12 (.q 13 (.q 14 (.q 15 (.q 16 (.q 17 (.q 18 (.q 19 (.q 20 (.q 21 (.q 22 (.q 23 (.q 24 (.q 25 (.q 26 (.q 27 (.q 28 (.q 29 (.q 30 .nil))))))))))))))))))))))))))))))) [] rfl (by kernel_rfl) selZ ?_
   refine AJ ?_;refine AJ ?_;refine BC ?_;refine BX ?_;refine AR ?_;refine E8 ?_;refine AJ ?_;refine AW rfl rfl rfl rfl rfl ?_;refine AW rfl rfl rfl rfl rfl ?_;refine AW rfl rfl rfl rfl rfl ?_;refine AW rfl rfl rfl rfl rfl ?_;refine AW rfl rfl rfl rfl rfl ?_;refine AW rfl rfl rfl rfl rfl ?_;refine AW rfl rfl rfl rfl rfl ?_;refine BR ?_;refine AJ ?_;refine AW rfl rfl rfl rfl rfl ?_;refine AW rfl rfl rfl rfl rfl ?_;refine AW rfl rfl rfl rfl rfl ?_;refine AW rfl rfl rfl rfl rfl ?_;refine AW rfl rfl rfl rfl rfl ?_;refine AW rfl rfl rfl rfl rfl ?_;refine AW rfl rfl rfl rfl rfl ?_;refine AW rfl rfl rfl rfl rfl ?_;refine AW rfl rfl rfl rfl rfl ?_;refine AW rfl rfl rfl rfl rfl ?_;refine AW rfl rfl rfl rfl rfl ?_;refine AW rfl rfl rfl rfl rfl ?_;refine AW rfl rfl rfl rfl rfl ?_;refine AW rfl rfl rfl rfl rfl ?_;refine BR ?_;refine A8 ?_;refine AO rfl ?_;refine AK ?_;refine AP ?_;refine AA ?_
   refine AB ?_;refine A7 ?_;refine AC ?_;refine AE ?_;refine AZ ?_
   exact AU (i + 1) (by omega) (by omega) covZ selZ
end Go.Proofs.YtphehihohghfoaaGreat
/- The reference: Max, Cut. -/
namespace Go.Proofs.YtphehihohghfoaaGreat
open Go.Eng Go.Flow
set_option maxRecDepth 100000
set_option maxHeartbeats 4000000

set_option maxHeartbeats 8000000 in
theorem refMax_spec (ρ:PH) (v:Value) (n s t:Int) (l:List Arc) (hv:ArcsAt ρ v l) (hl:l.length ≤ 1000000) :
  Makes Tryz.prog (fv 55) [int n,v,int s,int t] [ρ] (fun r σ=>∃ fs F m e,r = .tuple #[fs,int m,int e] ∧ IntsAt σ fs F ∧ MaxOK n l s t F m e):=by
 have hnil:IntsAt emp (.slice none 0 0) []:=⟨rfl,.inl ⟨rfl,none,0,rfl⟩⟩
 have hv2:=hv
 obtain ⟨q,c,rfl,hr⟩:=hv.val encA_len
 refine spec_in (cap:=[]) Tryz.func55 rfl rfl Tryz.ntmps55 rfl envZ (fun N β=>?_)
 refine AD ?_;refine AA ?_;refine AC ?_;refine AC ?_;refine AC ?_;refine AE ?_;refine AD ?_;refine AD ?_;refine AA ?_;refine AB ?_;refine AB ?_;refine AB ?_;refine AB ?_;refine A4 (refEnds_spec ρ _ n s t l hv2 hl) rfl rfl rdZ rfl rfl ?_;rintro _ rfl
 have hme:maxErr n l s t = (if chk n l ≠ 0 then chk n l else if okEnds n s t = true then 0 else 2):=rfl
 rw [← hme]
 by_cases h0:maxErr n l s t = 0
 rotate_left
 ·refine AC ?_
  refine AE ?_;refine AD ?_;refine AA ?_;refine AB ?_;refine CG ?_;refine AE ?_;refine AO rfl ?_;refine AD ?_;refine AA ?_;refine AB ?_;refine AC ?_;refine AC ?_;refine AC ?_;refine AE ?_;refine BV ?_;exact AI (res3 rfl rfl rfl rfl) rsubZ selZ ⟨emp,⟨_,[],0,_,rfl,hnil,.inl ⟨h0,rfl,rfl,rfl⟩⟩,rfl⟩
 rw [h0]
 obtain ⟨n',s',t',g⟩:=maxErr_good h0
 obtain ⟨rfl,rfl,rfl⟩:=And.intro g.en (And.intro g.es g.et)
 have hn2:=g.n2
 have hl2:=g.l2
 have hrl:=rl_lt g.ok
 have hcap:∀ a ∈ l,0 ≤ a.c ∧ a.c ≤ 1099511627776:=fun a ha=>by have:=okArc_iff.1 (g.ok a ha); omega
 refine AC ?_;refine AE ?_;refine AD ?_;refine AA ?_;refine AB ?_;refine BE ?_;refine AE ?_;refine AN rfl ?_;refine AK ?_;refine AD ?_;refine AA ?_;refine AB ?_;refine AV ?_;refine C8 ?_; rintro _ _ ⟨b,rfl,rfl⟩;refine AC ?_;refine AE ?_;refine AD ?_;refine AA ?_;refine AC ?_;refine AE ?_;refine AD ?_;refine AP ?_
 revert b; intro bf
 refine BB [0,1,2,3,12] (List.replicate l.length (0:Int)) (fun fl=>Flw n' l s' t' fl ∧ ∀ F,RunR n' l s' t' fl F → RunR n' l s' t' (List.replicate l.length 0) F) (fun fl=>[(13,int (fval s' l fl))])
  (fun fl=>[sng bf (.cells (ints fl) 3 (0,0))]) (fun fl=>(1099511627776 * (2 * (l.length:Int)) - fval s' l fl).toNat) pickZ ⟨flw_zeros g.ok,fun _ h=>h⟩ (by rw [fval_zeros]; exact covZ) selZ ?_
 rintro fl ⟨hF,hrun⟩
 dsimp only
 have hIf:IntsAt (sng bf (.cells (ints fl) 3 (0,0))) (.slice (some ⟨bf,0,none⟩) l.length l.length) fl:=by rw [hF.len]; exact intsAt_sng
 have hb0:=fval_bd s' l fl (inCap_small l _ hF.len hF.cap g.ok)
 rw [← hF.len] at hb0;refine AD ?_;refine AO rfl ?_;refine AK ?_;refine AP ?_;refine AD ?_;refine AA ?_;refine AB ?_;refine AB ?_;refine AB ?_;refine BM (refResidual_spec ρ _ _ _ n' l fl hv2 hIf g.l2 hF.len.symm g.ok hF.cap) rfl rfl rdZ rfl rfl ?_;rintro _ τ ⟨br,rfl,rfl⟩
 have hSl:SlE (encR (rmR l fl)) 3 (sng br (.cells (elems (encR (rmR l fl)) (rlinks l)) 154 (0,0))) (.slice (some ⟨br,0,none⟩) (2 * l.length) (2 * l.length)) (rlinks l):=by
  have h9:=slE_sng (encR_len (rmR l fl)) (b:=br) (l:=rlinks l) (t:=154) (fr:=(0,0)) (c:=2 * l.length)
  rw [rlinks_len] at h9;exact h9
 refine AB ?_;refine AB ?_
 refine BM (refPath_spec _ _ n' s' t' (rlinks l) (rmR l fl) hSl hrl (rlinks_at l) g.n2 (by rw [rlinks_len]; omega) g.sn g.tn) rfl rfl rdZ rfl rfl ?_
 rintro _ ρp ⟨D,pv,hD,rfl,hP⟩
 by_cases hd0:0 ≤ D.getD s' 0
 rotate_left
 ·have hpn:pathD (nxt (rlinks l) (rmR l fl) D) D s' = []:=pathD_end (by omega)
  obtain ⟨q2,c2,rfl⟩:∃ p c,pv = .slice p 0 c:=by
   have h9:=SlAt.cap hP.at
   rw [hpn] at h9;exact h9
  refine AB ?_;refine AM ?_;refine AM ?_;refine AC ?_;refine AC ?_;refine AE ?_;refine AD ?_;refine AD ?_;refine AA ?_;refine AB ?_;refine AV ?_;refine CJ ?_;refine AE ?_;refine AO rfl ?_;refine AD ?_;refine AA ?_;refine AB ?_;refine AB ?_;refine AC ?_;refine AC ?_;refine AC ?_;refine AE ?_
  exact AI (res3 rfl rfl rfl rfl) rsubZ selZ ⟨_,⟨_,fl,_,_,rfl,hIf,.inr ⟨h0,rfl,hrun fl (.done hD (by omega)),rfl⟩⟩,rfl⟩
 obtain ⟨hN1,hN2,hN3⟩:=rNext_ok g.ok g.sn g.ne hF hD hd0
 obtain ⟨k0,hk0⟩:=Int.eq_ofNat_of_zero_le hd0
 have hDn:=hD.lt (fun x hx=>hrl x hx.1) g.tn g.sn
 have hPl:(rP l fl D s').length = k0:=path_len hrl hD k0 s' g.sn hk0
 have hk1:k0 ≠ 0:=fun h=>by
  subst h
  exact g.ne (hD.zero s' g.sn (by omega))
 have hPm:∀ x ∈ rP l fl D s',x ∈ rlinks l:=fun x hx=>((path_chn hrl hD k0 s' g.sn hk0).all x hx).1.1
 have hroom:leastR (rmR l fl) (rP l fl D s') ≤ 1099511627776:=(leastR_le _ _ _).1
 have hrl2:rmin (rmR l fl) (rP l fl D s') = leastR (rmR l fl) (rP l fl D s'):=rmin_least _ _ (fun h=>by rw [h] at hPl; simp at hPl; omega) (fun x hx=>rmR_le g.ok hF.len hF.cap (hPm x hx))
 rw [hrl2]
 have hIn:IntsAt ρp pv (ksOf (rP l fl D s')):=ownInts (e:=3) (by rw [show (ksOf (rP l fl D s')).length = (rP l fl D s').length from by simp [ksOf]]; exact hP)
 obtain ⟨q2,c2,rfl,hr2⟩:=hIn.val Eng.encI_len
 have hkl:(ksOf (rP l fl D s')).length = (rP l fl D s').length:=by simp [ksOf]
 have hmu:=fval_bd s' l (rNext l fl D s') (inCap_small l _ hN1.len hN1.cap g.ok)
 rw [← hN1.len] at hmu;refine AB ?_;refine AM ?_;refine AM ?_;refine AC ?_;refine AC ?_;refine AE ?_;refine AD ?_;refine AD ?_;refine AA ?_;refine AB ?_;refine AV ?_;refine B8 ?_;refine AE ?_;refine AN rfl ?_;refine AK ?_;refine AD ?_;refine AD ?_;refine AA ?_;refine AC ?_;refine AE ?_;refine AP ?_
 refine BB [0,1,2,3,12,13,14,15] (0:Nat) (fun i=>i ≤ (rP l fl D s').length) (fun i=>[(16,int i)])
  (fun i=>[sng bf (.cells (ints (augAll (leastR (rmR l fl) (rP l fl D s')) fl ((rP l fl D s').take i))) 3 (0,0)),ρp])
  (fun i=>(rP l fl D s').length - i) pickZ (by omega) covZ selZ ?_
 intro i hi
 by_cases hlt:i < (rP l fl D s').length
 ·have hx:(ksOf (rP l fl D s'))[i]? = some ((rP l fl D s')[i].k:Int):=by simp [ksOf,hlt]
  obtain ⟨b,o,rfl,g0⟩:=hr2.int hx
  have hxm:=hPm _ (List.getElem_mem hlt)
  have hxk:=(rlinks_mem g.ok hxm).2.2
  have hal:(augAll (leastR (rmR l fl) (rP l fl D s')) fl ((rP l fl D s').take i)).length = l.length:=by rw [augAll_len]; exact hF.len.symm
  have hic:=inCap_get l _ (rTake_cap g.ok g.sn hF hD hd0 i) ((rP l fl D s')[i].k / 2) (l[(rP l fl D s')[i].k / 2]'(by omega)) ((augAll (leastR (rmR l fl) (rP l fl D s')) fl ((rP l fl D s').take i)).getD ((rP l fl D s')[i].k / 2) 0) (List.getElem?_eq_getElem (by omega)) (by rw [List.getD_eq_getElem?_getD,List.getElem?_eq_getElem (by omega)]; rfl)
  have hcc:=hcap _ (List.getElem_mem (show (rP l fl D s')[i].k / 2 < l.length by omega))
  have hsn:=augAll_snoc (leastR (rmR l fl) (rP l fl D s')) fl ((rP l fl D s').take i) (rP l fl D s')[i]
  rw [← take_snoc' hlt] at hsn;unfold augR at hsn
  by_cases hp:(rP l fl D s')[i].k % 2 = 0
  ·rw [if_pos hp] at hsn
   refine AD ?_;refine AD ?_;refine AA ?_;refine AB ?_;refine AB ?_;refine AV ?_;refine BD ?_;refine AE ?_;refine AO rfl ?_;refine AK ?_;refine AD ?_;refine AP ?_;refine AD ?_;refine AA ?_;refine AB ?_;refine AB ?_;refine BQ ?_;refine AF ?_;refine EE ?_;refine CJ ?_;refine AE ?_;refine AO rfl ?_;refine AA ?_;refine AB ?_;refine AB ?_;refine AB ?_;refine BQ ?_;refine AF ?_;refine ED ?_;refine BH ?_;refine AF ?_;refine AB ?_;refine CC ?_;refine BH ?_;refine CQ ?_; rintro _ _ ⟨rfl,rfl⟩;refine AE ?_;refine AZ ?_;refine AA ?_;refine AB ?_;refine A7 ?_;refine AC ?_;refine AE ?_
   refine AU (i + 1) (by omega) (by omega) covZ ?_
   rw [hsn];exact selZ
  ·rw [if_neg hp] at hsn
   refine AD ?_;refine AD ?_;refine AA ?_;refine AB ?_;refine AB ?_;refine AV ?_;refine BD ?_;refine AE ?_;refine AO rfl ?_;refine AK ?_;refine AD ?_;refine AP ?_;refine AD ?_;refine AA ?_;refine AB ?_;refine AB ?_;refine BQ ?_;refine AF ?_;refine EE ?_;refine B8 ?_;refine AE ?_;refine AN rfl ?_;refine AA ?_;refine AB ?_;refine AB ?_;refine AB ?_;refine BQ ?_;refine AF ?_;refine ED ?_;refine BH ?_;refine AF ?_;refine AB ?_;refine CY ?_;refine BH ?_;refine CQ ?_; rintro _ _ ⟨rfl,rfl⟩;refine AE ?_;refine AZ ?_;refine AA ?_;refine AB ?_;refine A7 ?_;refine AC ?_;refine AE ?_
   refine AU (i + 1) (by omega) (by omega) covZ ?_
   rw [hsn];exact selZ
 ·refine AD ?_
  refine AD ?_;refine AA ?_;refine AB ?_;refine AB ?_;refine AV ?_;refine AY ?_;refine AE ?_;refine AN rfl ?_;refine A5 rfl ?_;refine AA ?_;refine AB ?_;refine AB ?_;refine CC ?_;refine AC ?_;refine AE ?_;refine AZ ?_
  refine AU (rNext l fl D s') ⟨hN1,fun F hR=>hrun F (.step hD hd0 hR)⟩ (by omega) (by rw [hN3]; exact covZ) ?_
  rw [List.take_of_length_le (by omega)]
  exact selZ

set_option maxHeartbeats 8000000 in
theorem refCut_spec (ρ:PH) (v:Value) (n s t:Int) (l:List Arc) (hv:ArcsAt ρ v l) (hl:l.length ≤ 1000000) :
  Makes Tryz.prog (fv 35) [int n,v,int s,int t] [ρ] (fun r σ=>∃ fs side c e,r = .tuple #[fs,int c,int e] ∧ IntsAt σ fs side ∧ CutOK n l s t side c e):=by
 have hnil:IntsAt emp (.slice none 0 0) []:=⟨rfl,.inl ⟨rfl,none,0,rfl⟩⟩
 refine spec_in (cap:=[]) Tryz.func35 rfl rfl Tryz.ntmps35 rfl envZ (fun N β=>?_)
 refine AD ?_;refine AA ?_;refine AC ?_;refine AC ?_;refine AC ?_;refine AE ?_;refine AD ?_;refine AA ?_;refine AB ?_;refine AB ?_;refine AB ?_;refine AB ?_;refine BM (refMax_spec ρ v n s t l hv hl) rfl rfl rdZ rfl rfl ?_;rintro _ σ1 ⟨fs,F,m,e,rfl,hI1,hM⟩
 rcases hM with ⟨a1,rfl,rfl,rfl⟩ | ⟨h0,rfl,hR,rfl⟩
 ·refine AB ?_
  refine AM ?_;refine AM ?_;refine AM ?_;refine AC ?_;refine AC ?_;refine AC ?_;refine AE ?_;refine AD ?_;refine AD ?_;refine AA ?_;refine AB ?_;refine CG ?_;refine AE ?_;refine AO rfl ?_;refine AD ?_;refine AA ?_;refine AB ?_;refine AC ?_;refine AC ?_;refine AC ?_;refine AE ?_;refine BV ?_;exact AI (res3 rfl rfl rfl rfl) rsubZ selZ ⟨emp,⟨_,[],0,_,rfl,hnil,.inl ⟨a1,rfl,rfl,rfl⟩⟩,rfl⟩
 obtain ⟨n',s',t',g⟩:=maxErr_good h0
 have g':=g
 obtain ⟨rfl,rfl,rfl⟩:=And.intro g.en (And.intro g.es g.et)
 simp only [Int.toNat_natCast] at hR
 have hn2:=g.n2
 have hl2:=g.l2
 have hsn:=g.sn
 have hrl:=rl_lt g.ok
 have hF:=(hR.flw g.ok g.sn g.ne (flw_zeros g.ok)).1
 have hE:∀ x,rE l F x → x.f < n' ∧ x.t < n':=fun x hx=>hrl x hx.1
 have hrep:(List.replicate n' false).length = n':=by simp
 have hlen:=rlinks_len l
 refine AB ?_;refine AM ?_;refine AM ?_;refine AM ?_;refine AC ?_;refine AC ?_;refine AC ?_;refine AE ?_;refine AD ?_;refine AD ?_;refine AA ?_;refine AB ?_;refine BE ?_;refine AE ?_;refine AN rfl ?_;refine AK ?_;refine AD ?_;refine AA ?_;refine AB ?_;refine AB ?_;refine BM (refResidual_spec ρ σ1 v fs n' l F hv hI1 g.l2 hF.len.symm g.ok hF.cap) rfl rfl rdZ rfl rfl ?_;rintro _ τ ⟨br,rfl,rfl⟩;refine AS (ρ:=sng br _) takeZ ?_
 have hSl:SlE (encR (rmR l F)) 3 (sng br (.cells (elems (encR (rmR l F)) (rlinks l)) 154 (0,0))) (.slice (some ⟨br,0,none⟩) (2 * l.length) (2 * l.length)) (rlinks l):=by
  have h9:=slE_sng (encR_len (rmR l F)) (b:=br) (l:=rlinks l) (t:=154) (fr:=(0,0)) (c:=2 * l.length)
  rw [rlinks_len] at h9;exact h9
 have hrows:∀ i x,(rlinks l)[i]? = some x → rdc (sng br (.cells (elems (encR (rmR l F)) (rlinks l)) 154 (0,0))) br (0 + i * 3) = some (int x.f) ∧ rdc (sng br (.cells (elems (encR (rmR l F)) (rlinks l)) 154 (0,0))) br (0 + i * 3 + 1) = some (int x.t) ∧ rdc (sng br (.cells (elems (encR (rmR l F)) (rlinks l)) 154 (0,0))) br (0 + i * 3 + 2) = some (int (rmR l F x.k)):=fun i x hx=>by
  obtain ⟨p,c,e1,hr⟩:=hSl.val (encR_len _)
  obtain ⟨b1,o1,e2,k0,k1,k2⟩:=lrRow hr hx
  simp only [Value.slice.injEq] at e1;rw [← e1.1] at e2;simp only [Option.some.injEq,Addr.mk.injEq,and_true] at e2
  obtain ⟨rfl,rfl⟩:=e2
  exact ⟨k0,k1,k2⟩
 refine AC ?_;refine AE ?_;refine AD ?_;refine AA ?_;refine AB ?_;refine D6 ?_; rintro _ _ ⟨b,rfl,rfl⟩;refine AC ?_;refine AE ?_;refine AD ?_;refine AA ?_;refine AB ?_;refine AB ?_;refine BH ?_;refine CZ ?_; rintro _ _ ⟨rfl,rfl⟩;refine AE ?_;refine AD ?_;refine AD ?_;refine AA ?_;refine AC ?_;refine AE ?_;refine AP ?_
 revert b; intro bm
 refine BB [0,1,2,3,14,15] (X:=Nat × List Bool) (0,(List.replicate n' false).set s' true) (fun x=>x.1 ≤ n' ∧ KInv n' s' (rE l F) x.2 x.1 []) (fun x=>[(16,int x.1)]) (fun x=>[sng bm (.cells (bools x.2) 4 (0,0))]) (fun x=>n' - x.1)
  pickZ ⟨by dsimp only; omega,KInv.start hsn⟩ covZ selZ ?_
 rintro ⟨r,B⟩ ⟨hr1,hK⟩
 dsimp only at hr1 hK ⊢
 by_cases hlt:r < n'
 ·refine AD ?_
  refine AD ?_;refine AA ?_;refine AB ?_;refine AB ?_;refine BD ?_;refine AE ?_;refine AO rfl ?_;refine AK ?_;refine AD ?_;refine AP ?_;refine AD ?_;refine AA ?_;refine AC ?_;refine AE ?_;refine AP ?_
  refine BB [0,1,2,3,14,15,16] (X:=Nat × List Bool) (0,B) (fun x=>x.1 ≤ (rlinks l).length ∧ KInv n' s' (rE l F) x.2 r ((rlinks l).take x.1)) (fun x=>[(17,int x.1)]) (fun x=>[sng bm (.cells (bools x.2) 4 (0,0))]) (fun x=>(rlinks l).length - x.1)
   pickZ ⟨by dsimp only; omega,by simpa using hK⟩ covZ selZ ?_
  rintro ⟨i,B1⟩ ⟨hi,hK1⟩
  dsimp only at hi hK1 ⊢
  have hBl1:B1.length = n':=hK1.len
  by_cases hlt2:i < (rlinks l).length
  ·have hx:=List.getElem?_eq_getElem hlt2
   obtain ⟨g0,g1,g2⟩:=hrows i _ hx
   have hxn:=hrl _ (List.getElem_mem hlt2)
   have htk:=take_snoc' hlt2
   have hbx:=bget_some (B:=B1) (v:=(rlinks l)[i].f) (by omega)
   by_cases hp:0 < rmR l F (rlinks l)[i].k
   ·cases hb:bget B1 (rlinks l)[i].f with
    | true =>
     rw [hb] at hbx
     have hm:=hK1.mark (x:=(rlinks l)[i]) ⟨List.getElem_mem hlt2,hp⟩ hxn.2 hxn.1 hb
     refine AD ?_;refine AD ?_;refine AA ?_;refine AB ?_;refine AB ?_;refine AV ?_;refine BD ?_;refine AE ?_;refine AO rfl ?_;refine AK ?_;refine AD ?_;refine AP ?_;refine AD ?_;refine AA ?_;refine AB ?_;refine AB ?_;refine A3 ?_;refine B0 ?_;refine AF ?_;refine CP ?_;refine AB ?_;refine AB ?_;refine AB ?_;refine AB ?_;refine A3 ?_;refine CH ?_;refine AF ?_;refine BH ?_;refine AF ?_;refine AQ ?_;refine AE ?_;refine AO rfl ?_;refine AA ?_;refine AB ?_;refine AB ?_;refine AB ?_;refine A3 ?_;refine B0 ?_;refine AF ?_;refine BH ?_;refine CZ ?_; rintro _ _ ⟨rfl,rfl⟩;refine AE ?_;refine AZ ?_;refine AA ?_;refine AB ?_;refine A7 ?_;refine AC ?_;refine AE ?_
     refine AU (i + 1,_) ⟨by dsimp only; omega,?_⟩ (by dsimp only; omega) covZ selZ
     dsimp only
     rw [htk]; exact hm
    | false =>
     rw [hb] at hbx
     have hm:=hK1.skip (x:=(rlinks l)[i]) (fun _=>hb) hE
     refine AD ?_;refine AD ?_;refine AA ?_;refine AB ?_;refine AB ?_;refine AV ?_;refine BD ?_;refine AE ?_;refine AO rfl ?_;refine AK ?_;refine AD ?_;refine AP ?_;refine AD ?_;refine AA ?_;refine AB ?_;refine AB ?_;refine A3 ?_;refine B0 ?_;refine AF ?_;refine CP ?_;refine AB ?_;refine AB ?_;refine AB ?_;refine AB ?_;refine A3 ?_;refine CH ?_;refine AF ?_;refine BH ?_;refine AF ?_;refine AQ ?_;refine AE ?_;refine AN rfl ?_;refine AK ?_;refine AZ ?_;refine AA ?_;refine AB ?_;refine A7 ?_;refine AC ?_;refine AE ?_
     refine AU (i + 1,B1) ⟨by dsimp only; omega,?_⟩ (by dsimp only; omega) covZ selZ
     dsimp only
     rw [htk]; exact hm
   ·have hm:=hK1.skip (x:=(rlinks l)[i]) (fun h=>absurd h.2 hp) hE
    refine AD ?_;refine AD ?_;refine AA ?_;refine AB ?_;refine AB ?_;refine AV ?_;refine BD ?_;refine AE ?_;refine AO rfl ?_;refine AK ?_;refine AD ?_;refine AP ?_;refine AD ?_;refine AA ?_;refine AB ?_;refine AB ?_;refine A3 ?_;refine B0 ?_;refine AF ?_;refine B4 ?_;refine AB ?_;refine AH rfl rfl rfl ?_;refine AH rfl rfl rfl ?_;refine AH rfl rfl rfl ?_;refine AH rfl rfl rfl ?_;refine AH rfl rfl rfl ?_;refine AH rfl rfl rfl ?_;refine AH rfl rfl rfl ?_;refine AH rfl rfl rfl ?_;refine AL ?_;refine AE ?_;refine AN rfl ?_;refine AK ?_;refine AZ ?_;refine AA ?_;refine AB ?_;refine A7 ?_;refine AC ?_;refine AE ?_
    refine AU (i + 1,B1) ⟨by dsimp only; omega,?_⟩ (by dsimp only; omega) covZ selZ
    dsimp only
    rw [htk]; exact hm
  ·rw [List.take_of_length_le (by omega)] at hK1
   have hnx:=hK1.next (ls:=rlinks l) (fun x hx=>hx.1) (fun x hx=>hx) hsn
   refine AD ?_;refine AD ?_;refine AA ?_;refine AB ?_;refine AB ?_;refine AV ?_;refine AY ?_;refine AE ?_;refine AN rfl ?_;refine A5 rfl ?_;refine AZ ?_;refine AA ?_;refine AB ?_;refine A7 ?_;refine AC ?_;refine AE ?_
   exact AU (r + 1,B1) ⟨by dsimp only; omega,hnx⟩ (by dsimp only; omega) covZ selZ
 obtain rfl:r = n':=by omega
 have hreach:=hK.reach hE hsn
 have hBl:=hK.len
 refine BV ?_;refine AD ?_;refine AD ?_;refine AA ?_;refine AB ?_;refine AB ?_;refine AY ?_;refine AE ?_;refine AN rfl ?_;refine A5 rfl ?_;refine AD ?_;refine AA ?_;refine AC ?_;refine AE ?_;refine AD ?_;refine AD ?_;refine AA ?_;refine AC ?_;refine AE ?_;refine AP ?_
 refine BB [0,1,15] (X:=Nat × (Value × PH)) (0,(.slice none 0 0,emp)) (fun x=>x.1 ≤ r ∧ OwnS 3 1 x.2.1 (sideOf B x.1).length ((sideOf B x.1).map int) x.2.2) (fun x=>[(18,x.2.1),(19,int x.1)])
  (fun x=>[sng bm (.cells (bools B) 4 (0,0)),x.2.2]) (fun x=>r - x.1) pickZ ⟨by dsimp only; omega,OwnS.nil _ _⟩ covZ selZ ?_
 rintro ⟨k,⟨sv,ρs⟩⟩ ⟨hk,hS⟩
 dsimp only at hk hS ⊢
 have hsl:=sideOf_len B k
 have hsu:=sideOf_succ B k
 by_cases hlt3:k < r
 ·have hbk:=bget_some (B:=B) (v:=k) (by omega)
  cases hb:bget B k with
  | true =>
   rw [hb] at hbk hsu;rw [if_pos rfl] at hsu;refine AD ?_;refine AD ?_;refine AA ?_;refine AB ?_;refine AB ?_;refine BD ?_;refine AE ?_;refine AO rfl ?_;refine AK ?_;refine AD ?_;refine AP ?_;refine AD ?_;refine AA ?_;refine AB ?_;refine AB ?_;refine BH ?_;refine AF ?_;refine AE ?_;refine AO rfl ?_;refine AA ?_;refine AB ?_;refine AB ?_;refine A9 ?_; rintro _ _ ⟨b,rfl,rfl⟩
   refine BI (BP (by_:=8) (s:=1) (news:=[int (k:Int)]) rfl rfl rfl rfl rfl rfl rfl hS takeZ (cells_own memZ) rfl (by (repeat (first | exact (fun v hv=>absurd hv List.not_mem_nil) | (refine List.forall_mem_cons.2 ⟨?_,?_⟩; (focus (first | exact rfl | assumption))))); first | done | fail) (by omega) (by simp only [maxLen]; omega) (by omega)) rfl rfl rfl ?_
   rintro q9 _ ⟨ρ3,hQ3,rfl⟩;refine AC ?_;refine AE ?_;refine AZ ?_;refine AA ?_;refine AB ?_;refine A7 ?_;refine AC ?_;refine AE ?_
   refine AU (k + 1,(q9,ρ3)) ⟨by dsimp only; omega,?_⟩ (by dsimp only; omega) covZ selZ
   dsimp only
   rw [hsu,List.map_append,List.length_append];exact hQ3
  | false =>
   rw [hb] at hbk hsu
   rw [if_neg (by simp),List.append_nil] at hsu
   refine AD ?_;refine AD ?_;refine AA ?_;refine AB ?_;refine AB ?_;refine BD ?_;refine AE ?_;refine AO rfl ?_;refine AK ?_;refine AD ?_;refine AP ?_;refine AD ?_;refine AA ?_;refine AB ?_;refine AB ?_;refine BH ?_;refine AF ?_;refine AE ?_;refine AN rfl ?_;refine AK ?_;refine AZ ?_;refine AA ?_;refine AB ?_;refine A7 ?_;refine AC ?_;refine AE ?_
   refine AU (k + 1,(sv,ρs)) ⟨by dsimp only; omega,?_⟩ (by dsimp only; omega) covZ selZ
   dsimp only
   rw [hsu];exact hS
 ·obtain rfl:k = r:=by omega
  have hIs:=ownInts (e:=3) (l:=sideOf B k) hS
  refine AD ?_;refine AD ?_;refine AA ?_;refine AB ?_;refine AB ?_;refine AY ?_;refine AE ?_;refine AN rfl ?_;refine A5 rfl ?_;refine AD ?_;refine AA ?_;refine AB ?_;refine AB ?_;refine AB ?_
  refine A4 (refCapacity_spec ρ ρs v sv k l (sideOf B k) hv hIs hl (by omega)) rfl rfl rdZ rfl rfl ?_
  rintro _ rfl;rw [side_capacity g' (.inr trivial)]
  dsimp only
  refine AB ?_;refine AM ?_;refine AM ?_;refine AC ?_;refine AC ?_;refine AE ?_;refine AD ?_;refine AA ?_;refine AB ?_;refine AB ?_;refine AB ?_;refine AC ?_;refine AC ?_;refine AC ?_;refine AE ?_;exact AI (res3 rfl rfl rfl rfl) rsubZ selZ ⟨_,⟨sv,sideOf B k,_,_,rfl,hIs,.inr ⟨h0,rfl,F,B,hR,hreach,rfl,rfl⟩⟩,rfl⟩
end Go.Proofs.YtphehihohghfoaaGreat
