/- Texts of this proof, one after the other; no conditions. -/
import Derived.Test.YtnijkofdlepfjaaGreatWA
import Derived.Lib.RowBridge
import Derived.Laws.Externs
import Derived.Test.YtnijkofdlepfjaaGreatWB5
import Derived.Test.YtnijkofdlepfjaaGreatWB3
import Derived.Test.YtnijkofdlepfjaaGreatWB6
import Derived.Test.YtnijkofdlepfjaaGreatWB4
import Derived.Test.YtnijkofdlepfjaaGreatWB2
import Derived.Test.YtnijkofdlepfjaaGreatWB1
set_option linter.all false
namespace Go.Proofs.YtnijkofdlepfjaaGreat
open Go.Eng Go.Step
set_option maxRecDepth 100000
set_option maxHeartbeats 64000000
def aJu (q:Rq):List Value:=[int q.src,int q.dst,int q.size,int q.rdy,int q.dln,int q.pri,.bool q.cus]
def uI (v:Value):List Value:=[v]
theorem aL1 (v:Value):(uI v).length=1:=rfl
structure aCb (γ:PH) (raw:List Value) (L:List (List (Int × Int))):Prop where
 len:raw.length=L.length
 get:∀ (i:Nat) (l:List (Int × Int)),L[i]?=some l->∃ q k,raw[i]?=some (Value.slice q l.length k)/\SlE kX 2 γ (.slice q l.length k) l
theorem aCb.nil:aCb emp [] []:=⟨rfl,fun i l h=>by simp at h⟩
theorem aCb.snoc {γ δ χ:PH} {raw:List Value} {L:List (List (Int × Int))} (h:aCb γ raw L) (s1:PH.sub γ δ) {v:Value} {l:List (Int × Int)} (hv:SlE kX 2 χ v l) (s2:PH.sub χ δ):aCb δ (raw ++ [v]) (L ++ [l]):=by
 refine ⟨by rw [aB,aB,h.len]; rfl,fun i l' hl=>?_⟩
 by_cases hi:i<L.length
 ·rw [cM hi] at hl
  obtain ⟨q,k,e1,e2⟩:=h.get i l' hl
  exact ⟨q,k,by rw [cM (by rw [h.len]; exact hi)]; exact e1,e2.mono s1⟩
 ·have hi2:=(aC.1 hl).1
  rw [aB,bM] at hi2
  have:i=L.length:=by omega
  subst this
  rw [bY (by omega),Nat.sub_self] at hl
  obtain rfl:l=l':=by simpa using hl
  obtain ⟨p,c,rfl,_⟩:=SlE.val (enc:=kX) mZ hv
  refine ⟨p,c,?_,hv.mono s2⟩
  rw [bY (by rw [h.len]; omega),h.len,Nat.sub_self]
  rfl
theorem aCb.sps {γ δ χ:PH} {raw:List Value} {L:List (List (Int × Int))} (h:aCb γ raw L) {T:TypeId} {v:Value} (hO:fS T 1 v raw.length (raw.flatMap uI) χ) (s1:PH.sub γ δ) (s2:PH.sub χ δ):∃ p k,v=.slice p L.length k/\aSz δ p L:=by
 obtain ⟨p,k,e,hr⟩:=SlE.val (enc:=uI) aL1 (show SlE uI 1 χ v raw from hO.at)
 refine ⟨p,k,by rw [e,h.len],fun i l hl=>?_⟩
 obtain ⟨q,c,e1,e2⟩:=h.get i l hl
 obtain ⟨b,o,e3,hrd⟩:=hr i _ e1
 have:=s2.rdc (hrd.get0 (v:=.slice q l.length c) (vs:=[]))
 rw [fJ] at this;exact ⟨b,o,q,c,e3,this,e2.mono s1⟩
theorem aL2 {α:Type} {enc:α->List Value} {s:Nat} {ρ γ:PH} {p:Option Addr} {l:List α} (h:nH enc s ρ p l) (hs:PH.sub ρ γ):nH enc s γ p l:=fun i x hx=>by
 obtain ⟨b,o,e,hr⟩:=h i x hx
 exact ⟨b,o,e,fun j v hv=>hs.rdc (hr j v hv)⟩
theorem mO {ρ τ:PH} {pq pc:Option Addr} {kq kc:Nat} {qs:List Int} {cs:List Ct} {q:Rq} (hq:gC ρ (.slice pq qs.length kq) qs) (hc:jW τ (.slice pc cs.length kc) cs) (hcap:cs.length<=kc) (lq:qs.length<=9223372036854775807) (lc:cs.length<=9223372036854775807) (hp:gD qs cs=0) (ho:nF qs.length q) :
  Ans Tryz.prog (fv 29) [.agg #[.slice pq qs.length kq,.slice pc cs.length kc],.agg #[int q.src,int q.dst,int q.size,int q.rdy,int q.dln,int q.pri,.bool q.cus]] [ρ,τ] (fun r=>r=int 0):=by
 obtain ⟨⟨a1,a2,a3,a4⟩,a5,⟨a6,a7,a8,a9,a10⟩,a11,a12⟩:=ho
 have hck:=iD ρ τ pq pc kq kc qs cs hq hc hcap lq lc
 rw [hp] at hck
 refine A8 Tryz.func29 Tryz.ntmps29 fun N β=>?_
 refine Aa ?_
 refine BF fun b2 cp=>?_
 refine BF fun b3 bx57=>?_
 have p0:=rdC cp 0
 have r0:=rdC bx57 0
 have r1:=rdC bx57 1
 have r2:=rdC bx57 2
 have r3:=rdC bx57 3
 have r4:=rdC bx57 4
 have r5:=rdC bx57 5
 refine Aeh ?_;refine Aaa ?_;refine Aap ?_;refine Aar ?_;refine A5 hck ?_;refine BN ?_;refine Aaa ?_;refine AJ rfl ?_;refine Aan ?_;refine BD ?_;refine Aas ?_;refine AB ?_;refine CP ?_;refine Ac1 ?_;refine BD ?_;refine Ac1 ?_;refine AB ?_;refine CP ?_;refine Acf ?_;refine AJ rfl ?_;refine Abr ?_;refine B3 ?_;refine Aaa ?_;refine AJ rfl ?_;refine Aan ?_;refine BD ?_;refine Aas ?_;refine B7 ?_;refine Ac1 ?_;refine BD ?_;refine AT ?_;refine Abf ?_;refine B7 ?_;refine Ac1 ?_;refine B7 ?_;refine Acf ?_;refine AJ rfl ?_;refine Aan ?_;refine BD ?_;refine Aas ?_;refine B7 ?_;refine Acf ?_;refine AJ rfl ?_;refine AK ?_;refine BB ?_;refine Aam ?_;exact AV ⟨rfl,rfl⟩
theorem qI {ρ τ σ υ:PH} {pq pc pb ph:Option Addr} {kq kc kb kh:Nat} {qs:List Int} {cs:List Ct} {bs:List Bk} {hs:List Hd} {q:Rq} (hT:oF ρ τ σ υ pq pc pb ph kq kc kb kh qs cs bs hs) (hK:TOK qs cs bs hs q) :
  jM Tryz.prog (fv 37) [.agg #[.slice pq qs.length kq,.slice pc cs.length kc,.slice pb bs.length kb,.slice ph hs.length kh],.agg #[int q.src,int q.dst,int q.size,int q.rdy,int q.dln,int q.pri,.bool q.cus]] [ρ,τ,σ,υ] (fun r χ=>∃ A,r=.tuple #[gp A,.bool true]/\aJp χ τ A (fW qs cs bs hs q)):=by
 obtain ⟨hp,hb0,hh⟩:=jQ hK.t
 have hct:=rM hT
 rw [hK.t] at hct
 have hcr:=mO (q:=q) hT.hq hT.hc hT.hcap hT.lq hT.lc hp hK.q
 have hlq:=hK.lq
 have hlc:=hK.lc
 have hlq1:=(aB3 hp).1.1
 have hsz:1<=q.size/\q.size<=65536:=⟨hK.q.2.2.1.1,hK.q.2.2.1.2.1⟩
 refine A8 Tryz.func37 Tryz.ntmps37 fun N β=>?_
 refine Aa ?_
 refine BF fun b2 ct=>?_
 refine BF fun b3 cr=>?_
 have ct0:=rdC ct 0
 have ct1:=rdC ct 1
 have ct2:=rdC ct 2
 have ct3:=rdC ct 3
 have ctp:=rdQ (xs:=[_,_]) ct
 have r2:=rdC cr 2
 refine Aaq ?_;refine AC ?_;refine Aar ?_;refine A5 hct ?_;refine BN ?_;refine AB ?_;refine Ab4 ?_;refine AI ?_;refine A5 hcr ?_;refine BN ?_;refine Abe ?_;refine Abs ?_;refine CN (CW (out:=[.slice pq qs.length kq,.slice pc cs.length kc,.slice pb bs.length kb,.slice ph hs.length kh,int q.src,int q.dst,int q.size,int q.rdy,int q.dln,int q.pri,.bool q.cus,.slice none 0 0,.slice none 0 0,.slice none 0 0]) rfl rfl rfl rfl rfl) rfl rfl rfl ?_
 refine BV fun bG=>?_
 refine B9 ?_;refine B9 ?_;refine B9 ?_;refine Aba ?_;refine Aa ?_;refine AG ?_;refine Aac ?_;refine Abh ?_
 refine BE [2,3,4,6,32,33] (X:=(Nat × List Value) × ((Value × PH) × (Value × PH) × PH)) ((0,[]),((.slice none 0 0,emp),(.slice none 0 0,emp),emp)) (fun z=>z.1.1<=cs.length/\fS 201 1 z.2.1.1 z.1.2.length (z.1.2.flatMap uI) z.2.1.2/\fS 3 1 z.2.2.1.1 ((cs.take z.1.1).map (fun c=>kC c q.size)).length (((cs.take z.1.1).map (fun c=>kC c q.size)).flatMap Eng.encI) z.2.2.1.2/\aCb z.2.2.2 z.1.2 ((List.range z.1.1).map (iW cs bs))) (fun z=>[(34,int z.1.1)]) (fun z=>[sng bG (.cells #[.slice pq qs.length kq,.slice pc cs.length kc,.slice pb bs.length kb,.slice ph hs.length kh,int q.src,int q.dst,int q.size,int q.rdy,int q.dln,int q.pri,.bool q.cus,z.2.1.1,.slice none 0 0,z.2.2.1.1] 200 (0,0)),z.2.1.2,z.2.2.1.2,z.2.2.2]) (fun z=>cs.length-z.1.1) fT ⟨by dsimp only; omega,fS.nil _ _,fS.nil _ _,aCb.nil⟩ fP fK ?_
 rintro ⟨⟨k,raw⟩,⟨⟨gv,χg⟩,⟨dv,χd⟩,γ⟩⟩ ⟨hk,hOg,hOd,hR⟩
 dsimp only at hk hOg hOd hR ⊢
 have hg1:=kL _ _ _ _ hOg
 have hd1:=kL _ _ _ _ hOd
 have hrl:=hR.len
 rw [aU,List.length_range] at hrl
 by_cases hlt:k<cs.length
 ·have hx:=aA hlt
  have hck:=(Go.Step.chkPl_ct hp (aF hx)).1
  have hfr:=aJs hT k _ hx hb0
  have hdu:=aJm cs[k] q.size hck hsz
  have hdl:((cs.take k).map (fun c=>kC c q.size)).length=k:=by rw [aU,aL]; omega
  have hdn:(cs.take (k+1)).map (fun c=>kC c q.size)=(cs.take k).map (fun c=>kC c q.size) ++ [kC cs[k] q.size]:=by rw [cV,hx,cX]; rfl
  have hgn:(List.range (k+1)).map (iW cs bs)=(List.range k).map (iW cs bs) ++ [iW cs bs k]:=by rw [List.range_succ,cX]; rfl
  generalize (cs.take k).map (fun c=>kC c q.size)=Ds at hOd hdl hdn
  generalize iW cs bs k=F at hfr hgn
  obtain ⟨bq,oq,rfl,hrd⟩:=oC hT.rc hx
  generalize cs[k]=c at hx hck hdu hdn hrd
  refine Aa8 ?_;refine Aab ?_;refine Aa9 ?_
  refine A3 fun b=>?_
  refine AD ?_;refine Aa6 ?_;refine Acz ?_;refine Aac ?_;refine AB ?_
  revert b; intro b8
  refine B4 hfr rfl rfl rdZ rfl rfl ?_;rintro _ χ ⟨u,rfl,hO⟩
  obtain ⟨pu,ku,rfl⟩:=hO.form
  have hSu:SlE kX 2 χ (.slice pu F.length ku) F:=hO.at
  refine Ab7 ?_;refine Aar ?_;refine Aac ?_;refine A5 hdu ?_;refine Ab7 ?_
  generalize kC c q.size=dd at hdn
  refine DG (X:=(Value × PH) × (Value × PH)) [2,3,4,6,32,33,34] (fun x=>fS 201 1 x.1.1 (raw ++ [Value.slice pu F.length ku]).length ((raw ++ [Value.slice pu F.length ku]).flatMap uI) x.1.2/\fS 3 1 x.2.1 (Ds ++ [dd]).length ((Ds ++ [dd]).flatMap Eng.encI) x.2.2) (fun _=>[]) (fun x=>[sng bG (.cells #[.slice pq qs.length kq,.slice (some ⟨bq,oq,none⟩) cs.length kc,.slice pb bs.length kb,.slice ph hs.length kh,int q.src,int q.dst,int q.size,int q.rdy,int q.dln,int q.pri,.bool q.cus,x.1.1,.slice none 0 0,x.2.1] 200 (0,0)),x.1.2,x.2.2,γ,χ]) fT ?_ ?_
  ·refine A9 (.p 0 (.p 1 (.q 2 (.q 3 (.q 4 (.q 5 (.q 6 (.p 9 (.p 10 (.p 11 (.p 12 (.p 13 (.l2 7 .e (.l2 8 .b (.l 14 .e (.l 15 .b (.q 16 (.q 17 (.l 18 .b (.q 19 (.q 20 (.l 21 .b .nil)))))))) 14 .e (.l 8 .b (.l 15 .b (.q 16 (.q 17 (.l 18 .b (.q 19 (.q 20 (.l 21 .b .nil))))))))) 14 .e (.l 7 .e (.l 8 .b (.l 15 .b (.q 16 (.q 17 (.l 18 .b (.q 19 (.q 20 (.l 21 .b .nil)))))))))))))))))))))) [sng bG _] rfl (by kernel_rfl) fK ?_
   repeat' (first
    | (refine AP ?_)
    | (refine AN ?_)
    | (refine AR ?_)
    | (refine A4 ?_)
    | (refine CG ?_)
    | (refine EJ ?_)
    | (refine DW ?_)
    | (refine EM ?_)
    | (refine EP ?_ ?_)
    | (refine BY fun b=>?_)
    | (refine D4 fun b=>?_)
    | fail)
   all_goals (try refine BZ ?_)
   all_goals (refine' a_b rfl _ rfl rfl rfl _ _; rotate_left; (focus (exact CA (by_:=24) (s:=1) (news:=[Value.slice pu F.length ku]) rfl rfl rfl rfl rfl rfl rfl hOg fL (fR gN) rfl iF (by omega) (by simp only [maxLen]; omega) (by omega))); (focus (rintro _ _ ⟨_,_,rfl⟩ w hw; exact hw.sel fK)); rintro q1 _ ⟨ρ1,hQ1,rfl⟩)
   all_goals have h1:=kL _ _ _ _ hQ1
   repeat' (first
    | (refine BY fun b=>?_)
    | fail)
   all_goals (refine BZ ?_; refine' a_b rfl _ rfl rfl rfl _ _; rotate_left; (focus (exact CA (by_:=8) (s:=1) (news:=[int dd]) rfl rfl rfl rfl rfl rfl rfl hOd fL (fR gN) rfl iF (by omega) (by simp only [maxLen]; omega) (by omega))); (focus (rintro _ _ ⟨_,_,rfl⟩ w hw; exact hw.sel fK)); rintro q2 _ ⟨ρ2,hQ2,rfl⟩)
   all_goals have h2:=kL _ _ _ _ hQ2
   repeat' (first
    | (refine AR ?_)
    | (refine A4 ?_)
    | fail)
   all_goals (refine BZ ?_; refine' F9 rfl _ rfl (.inr ⟨rfl,rfl⟩) (by kernel_rfl) (Hf':=[]) _ _; rotate_left; (focus (apply EC; exact rfl; exact rfl; exact h1; exact rfl; exact fL; (focus (repeat (first|exact uR.here|apply uR.there)); done))); (focus (rintro _ _ ⟨_,rfl⟩ w hw; exact hw.sel fK)); rintro _ _ ⟨rfl,rfl⟩)
   repeat' (first
    | (refine AR ?_)
    | (refine A4 ?_)
    | (refine BC ?_)
    | (refine CI ?_)
    | fail)
   all_goals exact CK ((q1,ρ1),(q2,ρ2)) ⟨by rw [aB,aX]; exact hQ1,by rw [aB,aX]; exact hQ2⟩ fP fK
  rintro ⟨⟨q1,ρ1⟩,⟨q2,ρ2⟩⟩ ⟨hQ1,hQ2⟩
  dsimp only at hQ1 hQ2 ⊢
  refine DF (ρ:=γ) (σ:=χ) fL fL (fun δ s1 s2=>?_)
  refine Aa3 ?_
  refine AZ ((k+1,raw ++ [Value.slice pu F.length ku]),((q1,ρ1),(q2,ρ2),δ)) ⟨by dsimp only; omega,hQ1,?_,?_⟩ (by dsimp only; omega) fP fK
  ·dsimp only
   rw [hdn]; exact hQ2
  ·dsimp only
   rw [hgn]; exact hR.snoc s1 hSu s2
 have hke:k=cs.length:=by omega
 subst hke;rw [bJ] at hOd;refine B9 ?_;refine B9 ?_;refine Abp ?_;refine AC ?_;refine Aa ?_;refine AG ?_;refine Aac ?_;refine Abh ?_
 refine BE [2,3,4,6,78,79] (X:=(Nat × List Value) × ((Value × PH) × PH)) ((0,[]),((.slice none 0 0,emp),emp)) (fun z=>z.1.1<=qs.length/\fS 201 1 z.2.1.1 z.1.2.length (z.1.2.flatMap uI) z.2.1.2/\aCb z.2.2 z.1.2 ((List.range z.1.1).map (fun n=>jH (qs.getD n 0) q.size (lvH hs n)))) (fun z=>[(80,int z.1.1)]) (fun z=>[sng bG (.cells #[.slice pq qs.length kq,.slice pc cs.length kc,.slice pb bs.length kb,.slice ph hs.length kh,int q.src,int q.dst,int q.size,int q.rdy,int q.dln,int q.pri,.bool q.cus,gv,z.2.1.1,dv] 200 (0,0)),z.2.1.2,z.2.2,χg,χd,γ]) (fun z=>qs.length-z.1.1) fT ⟨by dsimp only; omega,fS.nil _ _,aCb.nil⟩ fP fK ?_
 rintro ⟨⟨k,raw2⟩,⟨⟨rv,χr⟩,γ2⟩⟩ ⟨hk,hOr,hR2⟩
 dsimp only at hk hOr hR2 ⊢
 have hr1:=kL _ _ _ _ hOr
 have hrl2:=hR2.len
 rw [aU,List.length_range] at hrl2
 by_cases hlt:k<qs.length
 ·have hfr:=aEm ρ τ υ pq pc kq kc qs cs _ hs (k:Int) q.size hT.hq hT.hc hT.hcap hT.lq hT.lc hT.hh hT.lh
  have hfe:kO qs cs hs (k:Int) q.size=(jH (qs.getD k 0) q.size (lvH hs k),0):=by
   unfold kO
   rw [if_neg (by simp [hh]),if_neg (by omega),cL]
  rw [hfe] at hfr
  dsimp only at hfr
  have hgn:(List.range (k+1)).map (fun n:Nat=>jH (qs.getD n 0) q.size (lvH hs n))=(List.range k).map (fun n:Nat=>jH (qs.getD n 0) q.size (lvH hs n)) ++ [jH (qs.getD k 0) q.size (lvH hs k)]:=by rw [List.range_succ,cX]; rfl
  generalize jH (qs.getD k 0) q.size (lvH hs k)=R at hfr hgn
  refine Ado ?_;refine Acz ?_;refine Aac ?_;refine Aas ?_;refine B4 hfr rfl rfl rdZ rfl rfl ?_;rintro _ χ ⟨u,rfl,hO⟩
  obtain ⟨pu,ku,rfl⟩:=hO.form
  have hSu:SlE kX 2 χ (.slice pu R.length ku) R:=hO.at
  refine Ab7 ?_;refine Abu ?_;refine BO ?_;refine Aac ?_;refine AB ?_
  refine BW fun b=>?_
  refine CR (CA (by_:=24) (s:=1) (news:=[Value.slice pu R.length ku]) rfl rfl rfl rfl rfl rfl rfl hOr fL (fR gN) rfl iF (by omega) (by simp only [maxLen]; omega) (by omega)) rfl rfl rfl ?_
  rintro q1 _ ⟨ρ1,hQ1,rfl⟩
  have h1:=kL _ _ _ _ hQ1
  refine Acj ?_;refine Abx ?_;refine Aa3 ?_
  refine DF (ρ:=γ2) (σ:=χ) fL fL (fun δ s1 s2=>?_)
  refine AZ ((k+1,raw2 ++ [Value.slice pu R.length ku]),((q1,ρ1),δ)) ⟨by dsimp only; omega,?_,?_⟩ (by dsimp only; omega) fP fK
  ·dsimp only
   rw [aB,aX]; exact hQ1
  ·dsimp only
   rw [hgn]; exact hR2.snoc s1 hSu s2
 have hke:k=qs.length:=by omega
 subst hke;refine Abp ?_;refine Aab ?_;refine Aaq ?_
 refine ER (A:=[sng bG (.cells #[.slice pq qs.length kq,.slice pc cs.length kc,.slice pb bs.length kb,.slice ph hs.length kh,int q.src,int q.dst,int q.size,int q.rdy,int q.dln,int q.pri,.bool q.cus,gv,rv,dv] 200 (0,0)),χr,γ2,χg,χd,γ]) (B:=[]) (fun δ hδ=>?_)
 have sB:=hδ _ (.head _)
 have sr:=hδ χr (by simp)
 have s2:=hδ γ2 (by simp)
 have sg:=hδ χg (by simp)
 have sd:=hδ χd (by simp)
 have s1:=hδ γ (by simp)
 obtain ⟨pg,kg,rfl,hpg⟩:=hR.sps hOg s1 sg
 obtain ⟨pr,kr,rfl,hpr⟩:=hR2.sps hOr s2 sr
 obtain ⟨pd,kd,rfl,hpd⟩:=SlE.val (enc:=Eng.encI) Eng.encI_len (show SlE Eng.encI 1 χd dv (cs.map (fun c=>kC c q.size)) from hOd.at)
 have cell:∀ i v,[.slice pq qs.length kq,.slice pc cs.length kc,.slice pb bs.length kb,.slice ph hs.length kh,int q.src,int q.dst,int q.size,int q.rdy,int q.dln,int q.pri,.bool q.cus,.slice pg ((List.range cs.length).map (iW cs bs)).length kg,.slice pr ((List.range qs.length).map (fun n:Nat=>jH (qs.getD n 0) q.size (lvH hs n))).length kr,.slice pd (cs.map (fun c=>kC c q.size)).length kd][i]?=some v->rdc δ bG i=some v:=fun i v hv=>sB.rdc (by rw [kE]; simpa using hv)
 refine A2 (mB rfl rfl rfl) fQ fK ⟨δ,⟨⟨bG,pq,qs.length,kq,pc,kc,pg,kg,pr,kr,pd,kd⟩,rfl,?_⟩,rfl⟩
 exact ⟨cell 0 _ rfl,by simp [fW],cell 1 _ rfl,cell 4 _ rfl,cell 5 _ rfl,cell 7 _ rfl,cell 8 _ rfl,cell 10 _ rfl,cell 11 _ rfl,cell 12 _ rfl,cell 13 _ rfl,hT.rc,hpg,hpr,aL2 hpd sd⟩
end Go.Proofs.YtnijkofdlepfjaaGreat
namespace Go.Step
section
theorem aEn {fr fr' d:Int} (hd:0<=d) (hf:fr'<=fr):∀ {L:List (Int × Int)},L.Pairwise (fun x y=>x.2<y.1)->∀ {b:Int},vS fr d L=some b->∃ b',vS fr' d L=some b'/\b'<=b
  | [],_,b,h=>by cases h
  | p::l,hP,b,h=>by
    obtain ⟨h1,h2⟩:=aW.1 hP
    unfold vS at h ⊢
    by_cases c:max p.1 fr+d<=p.2
    · rw [if_pos c] at h
      cases h
      rw [if_pos (by omega)]
      exact ⟨_,rfl,by omega⟩
    · rw [if_neg c] at h
      by_cases c':max p.1 fr'+d<=p.2
      · rw [if_pos c']
        obtain ⟨q,hq,rfl,_⟩:=sM h
        have:=h1 q hq
        exact ⟨_,rfl,by omega⟩
      · rw [if_neg c']
        exact aEn hd hf h2 h
theorem aPb {G:Gr} (hg:GOK G) (ha:∀ i,(G.gaps.getD i []).Pairwise (fun x y=>x.2<y.1)) {i:Nat} {c:Ct} {fr fr':Int} (hf:fr'<=fr) {h:Hp} (hh:oV G i c fr=some h):∃ h',oV G i c fr'=some h'/\h'.a<=h.a/\h'.e<=h.e:=by
  have hd:0<=G.dur.getD i 0:=by
    rw [aI]
    cases e:G.dur[i]? with
    | none=>simp
    | some d=>have:=hg.dur d (aF e); simp; omega
  unfold oV at hh ⊢;rw [aQ] at hh
  obtain ⟨b,h1,rfl⟩:=hh
  obtain ⟨b',h2,h3⟩:=aEn hd hf (ha i) h1
  rw [h2]
  exact ⟨_,rfl,by dsimp only; omega,by dsimp only; omega⟩
theorem rS {G:Gr} (hg:GOK G) (ha:∀ i,(G.gaps.getD i []).Pairwise (fun x y=>x.2<y.1)) {x y:Lb} (hn:y.n=x.n) (ht:y.t=x.t) (hxy:y.a<=x.a) {m:Lb × Hp} (hm:m∈mvs G x):∃ m'∈mvs G y,m'.1.n=m.1.n/\m'.1.f=m.1.f/\m'.1.t=m.1.t/\m'.1.a<=m.1.a:=by
  obtain ⟨k,c,r,hc,hf,hr,hh,he,h1,h2,h3⟩:=oN hm
  obtain ⟨h',e1,e2,e3⟩:=aPb hg ha (show max y.a r.1<=max x.a r.1 by omega) hh
  have hl:jR G c h'<=jR G c m.2:=by unfold jR; split <;> omega
  refine ⟨_,aLv hc (by rw [hf,hn]) hr e1 (by omega) (by omega) (fun h=>by have:=h3 h; omega),?_⟩
  rw [he];exact ⟨rfl,rfl,rfl,e2⟩
structure Ext (G G':Gr):Prop where
  rooms:G'.rooms=G.rooms
  q:G'.q=G.q
  mv:∀ x m,m∈mvs G x->m∈mvs G' x
theorem Ext.refl (G:Gr):Ext G G:=⟨rfl,rfl,fun _ _ h=>h⟩
theorem Ext.begs {G G':Gr} (h:Ext G G'):begs G'=begs G:=by unfold Go.Step.begs; rw [h.rooms,h.q]
theorem Ext.fine {G G':Gr} (h:Ext G G') {x:Lb}:qE G' x↔qE G x:=by unfold qE; rw [h.rooms,h.q]
theorem nQ {G:Gr} (hg:GOK G) {x y:Lb} (hx:qE G x) (hy:qE G y) (hs:iP y x=true):y.t=x.t:=by
  obtain ⟨e1,e2⟩:=fY.1 hs
  obtain ⟨_,x1,x2,x3,x4,x5⟩:=hx
  obtain ⟨_,y1,y2,y3,y4,y5⟩:=hy
  rw [e1,e2] at y3
  have hr:∃ l,G.rooms.getD x.n.toNat []=l/\l.Pairwise (fun p q=>p.2<q.1)/\∀ p∈l,p.1<p.2:=by
    have hlt:x.n.toNat<G.rooms.length:=by omega
    have h:=aA hlt
    refine ⟨_,rfl,?_⟩;rw [aI,h,cO]
    have:=hg.room _ (aF h)
    exact ⟨this.2.1,fun p hp=>(this.2.2 p hp).2.1⟩
  obtain ⟨l,hl,hp,h0⟩:=hr
  rw [hl] at x3 y3
  obtain ⟨i,hi,ei⟩:=bB x3
  obtain ⟨j,hj,ej⟩:=bB y3
  have hii:=h0 _ x3
  have hjj:=h0 _ y3
  dsimp only at hii hjj
  rcases fE i j with h|h|h
  · have:=aZ.1 hp i j hi hj h
    rw [ei,ej] at this
    dsimp only at this
    omega
  · subst h
    rw [ei] at ej
    simpa using (congrArg Prod.snd ej).symm
  · have:=aZ.1 hp j i hj hi h
    rw [ei,ej] at this
    dsimp only at this
    omega
theorem aNi {G G':Gr} (hg:GOK G') (ha:∀ i,(G'.gaps.getD i []).Pairwise (fun x y=>x.2<y.1)) (hE:Ext G G') {L:List Lb} (hL:iQ G' L) {x:Lb} (h:aBz G x):aC9 L x/\aBz G' x:=by
  induction h with
  | beg h =>
    rw [← hE.begs] at h;exact ⟨hL.beg _ h,.beg h⟩
  | mv hx hm hn ih =>
    obtain ⟨⟨y,hy,hs,hle⟩,hr⟩:=ih
    have hm':=hE.mv _ _ hm
    obtain ⟨e1,e2⟩:=fY.1 hs
    have ht:=nQ hg (gQ hg hr) (gQ hg (hL.rch y hy)) hs
    obtain ⟨m',h1,f1,f2,f3,f4⟩:=rS hg ha e1 ht hle hm'
    rw [← hE.q] at hn
    obtain ⟨z,hz,hs2,hz2⟩:=hL.clo y hy m' h1 (by rw [f1]; exact hn)
    obtain ⟨g1,g2⟩:=fY.1 hs2
    exact ⟨⟨z,hz,fY.2 ⟨by rw [g1,f1],by rw [g2,f2]⟩,by omega⟩,.mv hr hm' hn⟩
theorem xX (G:Gr):∀ (l:List (Lb × Hp)) (o:Option Int),(∀ b,o=some b->∃ a,l.foldl (qQ G) o=some a/\a<=b)/\(∀ m∈l,m.1.n=G.q.dst->∃ a,l.foldl (qQ G) o=some a/\a<=m.1.a)/\(∀ a,l.foldl (qQ G) o=some a->o=some a\/∃ m∈l,m.1.n=G.q.dst/\m.1.a=a)
  | [],o=>⟨fun b h=>⟨b,by simp [h],by omega⟩,fun m h=>(by cases h),fun a h=>.inl (by simpa using h)⟩
  | x::l,o=>by
    obtain ⟨h1,h2,h3⟩:=xX G l (qQ G o x)
    have k1:∀ b,o=some b->∃ a,qQ G o x=some a/\a<=b:=fun b hb=>by
      subst hb
      by_cases c:x.1.n=G.q.dst
      · by_cases c2:x.1.a<b
        · exact ⟨_,aAb c c2,by omega⟩
        · exact ⟨_,aAc c c2,by omega⟩
      · exact ⟨_,aGb c _,by omega⟩
    have k2:x.1.n=G.q.dst->∃ a,qQ G o x=some a/\a<=x.1.a:=fun c=>by
      cases o with
      | none=>exact ⟨_,xQ c,by omega⟩
      | some b =>
        by_cases c2:x.1.a<b
        · exact ⟨_,aAb c c2,by omega⟩
        · exact ⟨_,aAc c c2,by omega⟩
    have k3:∀ a,qQ G o x=some a->o=some a\/(x.1.n=G.q.dst/\x.1.a=a):=fun a h=>by
      by_cases c:x.1.n=G.q.dst
      · cases o with
        | none=>rw [xQ c] at h; cases h; exact .inr ⟨c,rfl⟩
        | some b =>
          by_cases c2:x.1.a<b
          · rw [aAb c c2] at h; cases h; exact .inr ⟨c,rfl⟩
          · rw [aAc c c2] at h; exact .inl h
      · rw [aGb c] at h; exact .inl h
    refine ⟨fun b hb=>?_,fun m hm hn=>?_,fun a ha=>?_⟩
    · obtain ⟨a,e1,e2⟩:=k1 b hb
      obtain ⟨a',e3,e4⟩:=h1 a e1
      exact ⟨a',e3,by omega⟩
    · rcases aE.1 hm with rfl|hm
      · obtain ⟨a,e1,e2⟩:=k2 hn
        obtain ⟨a',e3,e4⟩:=h1 a e1
        exact ⟨a',e3,by omega⟩
      · exact h2 m hm hn
    · rcases h3 a ha with h|⟨m,hm,hn⟩
      · rcases k3 a h with h|⟨h,h'⟩
        · exact .inl h
        · exact .inr ⟨x,by simp,h,h'⟩
      · exact .inr ⟨m,by simp [hm],hn⟩
theorem aGh {G:Gr} {l:List Lb} {x:Lb} {m:Lb × Hp} (hx:x∈l) (hm:m∈mvs G x) (hn:m.1.n=G.q.dst):∃ a,jG G l=some a/\a<=m.1.a:=(xX G _ none).2.1 m (dB.2 ⟨x,hx,hm⟩) hn
theorem vY {G:Gr} {l:List Lb} {a:Int} (h:jG G l=some a):∃ x∈l,∃ m∈mvs G x,m.1.n=G.q.dst/\m.1.a=a:=by
  rcases (xX G _ none).2.2 a h with h|⟨m,hm,hn⟩
  · cases h
  · obtain ⟨x,hx,hmx⟩:=dB.1 hm
    exact ⟨x,hx,m,hmx,hn⟩
theorem aS8 {G G':Gr} (hg:GOK G') (ha:∀ i,(G'.gaps.getD i []).Pairwise (fun x y=>x.2<y.1)) (hE:Ext G G') {L L':List Lb} (hL:iQ G L) (hL':iQ G' L') {a:Int} (h:jG G L=some a):∃ a',jG G' L'=some a'/\a'<=a:=by
  obtain ⟨x,hx,m,hm,hn,rfl⟩:=vY h
  obtain ⟨⟨y,hy,hs,hle⟩,hr⟩:=aNi hg ha hE hL' (hL.rch x hx)
  have ht:=nQ hg (gQ hg hr) (gQ hg (hL'.rch y hy)) hs
  obtain ⟨m',h1,f1,f2,f3,f4⟩:=rS hg ha (fY.1 hs).1 ht hle (hE.mv _ _ hm)
  obtain ⟨a',e1,e2⟩:=aGh hy h1 (by rw [f1,hE.q]; exact hn)
  exact ⟨a',e1,by omega⟩
def aS9 (L:List Lb) (x:Lb):Bool:=L.any (fun y=>decide (y.n=x.n/\y.f=x.f/\y.t=x.t/\y.a<=x.a))
structure VerL (G:Gr) (L:List Lb):Prop where
  fine:∀ x∈L,qE G x
  beg:∀ x∈begs G,aS9 L x=true
  mv:∀ x∈L,∀ m∈mvs G x,m.1.n≠G.q.dst/\aS9 L m.1=true
theorem aNj {G:Gr} (hg:GOK G) {L:List Lb} (hF:∀ x∈L,qE G x) {x:Lb} (hx:qE G x) (h:aC9 L x):aS9 L x=true:=by
  obtain ⟨y,hy,hs,hle⟩:=h
  have ht:=nQ hg hx (hF y hy) hs
  unfold aS9;rw [eW];exact ⟨y,hy,decide_eq_true ⟨(fY.1 hs).1,(fY.1 hs).2,ht,hle⟩⟩
theorem aTa {G G':Gr} (hg:GOK G') (ha:∀ i,(G'.gaps.getD i []).Pairwise (fun x y=>x.2<y.1)) (hE:Ext G G') {L1 L:List Lb} (h1:iQ G' L1) (h:jG G' L1=none) (hL:iQ G' L):VerL G L:=by
  have hF:∀ x∈L,qE G' x:=fun x hx=>gQ hg (hL.rch x hx)
  have hno:∀ x∈L,∀ m∈mvs G' x,m.1.n≠G'.q.dst:=fun x hx m hm hn=>by
    obtain ⟨a,e,_⟩:=aGh hx hm hn
    obtain ⟨a',e',_⟩:=aS8 hg ha (Ext.refl G') hL h1 e
    rw [h] at e'
    cases e'
  refine ⟨fun x hx=>hE.fine.1 (hF x hx),fun x hx=>?_,fun x hx m hm=>?_⟩
  · rw [← hE.begs] at hx
    exact aNj hg hF (vT hg hx) (hL.beg x hx)
  · have hm':=hE.mv _ _ hm
    have hn:=hno x hx m hm'
    refine ⟨by rw [← hE.q]; exact hn,aNj hg hF (rN hg hm' hn) (hL.clo x hx m hm' hn)⟩
section
variable {qs:List Int} {cs:List Ct} {bs:List Bk} {hs:List Hd} {q:Rq} {c:Ct}
end
end
theorem aGi {L:List Lb} (h:L.Pairwise (fun x y=>iP x y=false)) {y z:Lb} (hy:y∈L) (hz:z∈L) (hs:iP z y=true):z=y:=by
  obtain ⟨i,hi,rfl⟩:=bB hy
  obtain ⟨j,hj,rfl⟩:=bB hz
  rcases fE i j with c|c|c
  · have:=aZ.1 h i j hi hj c
    rw [fY.2 ⟨(fY.1 hs).1.symm,(fY.1 hs).2.symm⟩] at this
    cases this
  · subst c; rfl
  · have:=aZ.1 h j i hj hi c
    rw [hs] at this
    cases this
theorem aTb {G:Gr} (hg:GOK G) (ha:∀ i,(G.gaps.getD i []).Pairwise (fun x y=>x.2<y.1)) {L:List Lb} (hL:iQ G L) {y:Lb} (hy:y∈L):y∈begs G\/∃ x∈L,∃ m∈mvs G x,m.1=y:=by
  cases hL.rch y hy with
  | beg h=>exact .inl h
  | @mv x0 m0 hx hm hn =>
    right
    obtain ⟨⟨x,hxL,hs,hle⟩,hr⟩:=aNi hg ha (Ext.refl G) hL hx
    have ht:=nQ hg (gQ hg hr) (gQ hg (hL.rch x hxL)) hs
    obtain ⟨m,h1,f1,f2,f3,f4⟩:=rS hg ha (fY.1 hs).1 ht hle hm
    obtain ⟨z,hz,hs2,hz2⟩:=hL.clo x hxL m h1 (by rw [f1]; exact hn)
    have hzy:z=m0.1:=aGi hL.dis hy hz (fY.2 ⟨by rw [(fY.1 hs2).1,f1],by rw [(fY.1 hs2).2,f2]⟩)
    subst hzy;refine ⟨x,hxL,m,h1,?_⟩
    have e4:m.1.a=m0.1.a:=by omega
    generalize m.1=u at f1 f2 f3 e4
    obtain ⟨n,f,t,a⟩:=u
    dsimp only at f1 f2 f3 e4
    subst f1 f2 f3 e4
    rfl
structure MvOK (G:Gr) (x:Lb) (m:Lb × Hp) (k:Nat) (c:Ct):Prop where
  ct:G.cs[k]?=some c
  hc:m.2.c=k
  fr:c.f=x.n
  to:c.t=m.1.n
  lv:jR G c m.2<=x.t
  ar:m.2.a=m.1.a
  dl:m.2.a<=G.q.dln
  ag:m.2.a=m.2.e+c.g
  en:m.2.e=m.2.b+G.dur.getD k 0
  ta:x.a<=m.2.b
  tf:m.1.f<=m.2.b
  be:m.2.b<m.2.e
  gap:∃ p∈G.gaps.getD k [],p.1<=m.2.b/\m.2.e<=p.2
  rm:m.1.n≠G.q.dst->m.1.a<m.1.t
theorem mv_ok {G:Gr} (hg:GOK G) {x:Lb} {m:Lb × Hp} (h:m∈mvs G x):∃ k c,MvOK G x m k c:=by
  obtain ⟨k,c,r,hc,hf,hr,hh,he,h1,h2,h3⟩:=oN h
  obtain ⟨e1,e2,e3,e4,e5,e6,e7⟩:=aAa hg hc hh
  have hgap:∃ p∈G.gaps.getD k [],p.1<=m.2.b/\m.2.e<=p.2:=by
    have hh':=hh
    unfold oV at hh';rw [aQ] at hh'
    obtain ⟨b,hb,eb⟩:=hh'
    obtain ⟨p,hp,q1,q2⟩:=sM hb
    rw [← eb]
    dsimp only
    exact ⟨p,hp,by omega,by omega⟩
  obtain ⟨⟨mn,mf,mt,ma⟩,hp⟩:=m
  simp only [Lb.mk.injEq] at he
  obtain ⟨rfl,rfl,rfl,rfl⟩:=he
  dsimp only at hh h1 h2 h3 e1 e2 e3 e4 e5 e6 e7 hgap
  exact ⟨k,c,hc,e1,hf,rfl,h1,rfl,h2,e6,e7,by dsimp only; omega,by dsimp only; omega,e4,hgap,h3⟩
structure aPc (G G':Gr):Prop where
  q:G'.q=G.q
  cs:G'.cs=G.cs
  dur:G'.dur=G.dur
  gaps:∀ i,∀ p'∈G'.gaps.getD i [],∃ p∈G.gaps.getD i [],p.1<=p'.1/\p'.2<=p.2
  rooms:∀ n:Nat,∀ p'∈G'.rooms.getD n [],∃ p∈G.rooms.getD n [],p.1<=p'.1/\p'.2<=p.2
theorem aGj {fr d:Int} (hd:0<=d):∀ {L:List (Int × Int)},L.Pairwise (fun x y=>x.2<y.1)->∀ {p:Int × Int},p∈L->max p.1 fr+d<=p.2->∃ b,vS fr d L=some b/\b<=max p.1 fr
  | [],_,p,h,_=>by cases h
  | x::l,hP,p,hp,hle=>by
    obtain ⟨h1,h2⟩:=aW.1 hP
    unfold vS
    by_cases c:max x.1 fr+d<=x.2
    · rw [if_pos c]
      refine ⟨_,rfl,?_⟩
      rcases aE.1 hp with rfl|hp
      · omega
      · have:=h1 p hp; omega
    · rw [if_neg c]
      rcases aE.1 hp with rfl|hp
      · exact absurd hle c
      · exact aGj hd h2 hp hle
theorem aPd {G G':Gr} (hg:GOK G) (ha:∀ i,(G.gaps.getD i []).Pairwise (fun x y=>x.2<y.1)) (hL:aPc G G') {i:Nat} {c:Ct} {fr fr':Int} (hf:fr<=fr') {h':Hp} (hh:oV G' i c fr'=some h'):∃ h,oV G i c fr=some h/\h.a<=h'.a/\h.e<=h'.e:=by
  have hd:0<=G.dur.getD i 0:=by
    rw [aI]
    cases e:G.dur[i]? with
    | none=>simp
    | some d=>have:=hg.dur d (aF e); simp; omega
  unfold oV at hh ⊢;rw [aQ] at hh
  obtain ⟨b',h1,rfl⟩:=hh
  rw [hL.dur] at h1
  obtain ⟨p',hp',rfl,hle⟩:=sM h1
  obtain ⟨p,hp,c1,c2⟩:=hL.gaps i p' hp'
  obtain ⟨b,e1,e2⟩:=aGj (fr:=fr) hd (ha i) hp (by omega)
  rw [e1];refine ⟨_,rfl,?_,?_⟩
  · dsimp only; rw [hL.dur]; omega
  · dsimp only; rw [hL.dur]; omega
theorem aJv {G G':Gr} (hL:aPc G G') (n:Int) {p':Int × Int} (h:p'∈iE G' n):∃ p∈iE G n,p.1<=p'.1/\p'.2<=p.2:=by
  unfold iE at h ⊢;rw [hL.q] at h
  split
  · rename_i c
    rw [if_pos c] at h
    exact ⟨p',h,by omega,by omega⟩
  · rename_i c
    rw [if_neg c] at h;exact hL.rooms _ p' h
def uJ (y x:Lb):Prop:=y.n=x.n/\y.f<=x.f/\x.t<=y.t/\y.a<=x.a
theorem aJw {G G':Gr} (hg:GOK G) (ha:∀ i,(G.gaps.getD i []).Pairwise (fun x y=>x.2<y.1)) (hL:aPc G G') {x y:Lb} (hy:uJ y x) {m':Lb × Hp} (hm:m'∈mvs G' x):∃ m∈mvs G y,uJ m.1 m'.1:=by
  obtain ⟨y1,y2,y3,y4⟩:=hy
  obtain ⟨k,c,r',hc,hf,hr,hh,he,h1,h2,h3⟩:=oN hm
  obtain ⟨r,hr2,r1,r2⟩:=aJv hL c.t hr
  obtain ⟨h,e1,e2,e3⟩:=aPd hg ha hL (show max y.a r.1<=max x.a r'.1 by omega) hh
  have hl:jR G c h<=jR G' c m'.2:=by unfold jR; rw [hL.q]; split <;> omega
  rw [hL.cs] at hc;rw [hL.q] at h2 h3
  refine ⟨_,aLv hc (by rw [hf,y1]) hr2 e1 (by omega) (by omega) (fun q=>by have:=h3 q; omega),?_⟩
  rw [he];exact ⟨rfl,r1,r2,e2⟩
theorem aTc {G G':Gr} (hg:GOK G) (ha:∀ i,(G.gaps.getD i []).Pairwise (fun x y=>x.2<y.1)) (hE:aPc G G') {L:List Lb} (hL:iQ G L) {x:Lb} (h:aBz G' x):∃ y∈L,uJ y x:=by
  induction h with
  | beg h =>
    unfold begs at h;rw [bE] at h
    obtain ⟨p',hp',rfl⟩:=h
    rw [bT,aJ,decide_eq_true_eq,decide_eq_true_eq] at hp'
    obtain ⟨hm,c1,c2⟩:=hp'
    rw [hE.q] at hm c1 c2
    obtain ⟨p,hp,d1,d2⟩:=hE.rooms _ p' hm
    have hb:(⟨G.q.src,p.1,p.2,G.q.rdy⟩:Lb)∈begs G:=by
      unfold begs;rw [bE]
      exact ⟨p,bT.2 ⟨hp,by rw [aJ,decide_eq_true_eq,decide_eq_true_eq]; omega⟩,rfl⟩
    obtain ⟨y,hy,hs,hle⟩:=hL.beg _ hb
    have ht:=nQ hg (vT hg hb) (gQ hg (hL.rch y hy)) hs
    obtain ⟨e1,e2⟩:=fY.1 hs
    dsimp only at e1 e2 hle ht
    refine ⟨y,hy,?_,?_,?_,?_⟩
    · dsimp only; rw [e1,hE.q]
    · dsimp only; omega
    · dsimp only; omega
    · dsimp only; rw [hE.q]; exact hle
  | mv hx hm hn ih =>
    obtain ⟨y,hy,hay⟩:=ih
    obtain ⟨m,hm2,a1,a2,a3,a4⟩:=aJw hg ha hE hay hm
    rw [hE.q] at hn
    have hn2:m.1.n≠G.q.dst:=by rw [a1]; exact hn
    obtain ⟨z,hz,hs,hle⟩:=hL.clo y hy m hm2 hn2
    have ht:=nQ hg (rN hg hm2 hn2) (gQ hg (hL.rch z hz)) hs
    obtain ⟨e1,e2⟩:=fY.1 hs
    exact ⟨z,hz,by rw [e1,a1],by omega,by omega,by omega⟩
theorem aCc {G G':Gr} (hg:GOK G) (ha:∀ i,(G.gaps.getD i []).Pairwise (fun x y=>x.2<y.1)) (hE:aPc G G') {L L':List Lb} (hL:iQ G L) (hL':iQ G' L') {a':Int} (h:jG G' L'=some a'):∃ a,jG G L=some a/\a<=a':=by
  obtain ⟨x,hx,m,hm,hn,rfl⟩:=vY h
  obtain ⟨y,hy,hay⟩:=aTc hg ha hE hL (hL'.rch x hx)
  obtain ⟨m2,h1,f1,f2,f3,f4⟩:=aJw hg ha hE hay hm
  obtain ⟨a,e1,e2⟩:=aGh hy h1 (by rw [f1,← hE.q]; exact hn)
  exact ⟨a,e1,by omega⟩
theorem aL3 {l:List (Int × Int)} (h:tJ l) {lo hi:Int} (hb:∀ z∈l,lo<=z.1/\z.2<=hi):rK lo hi l:=⟨fun s hs=>⟨(hb s hs).1,h.1 s hs,(hb s hs).2⟩,h.2⟩
theorem aNk {hs hs':List Hd} {n Q s:Int} {nq:Nat} (hok:∀ h∈hs,lN nq h) (hok':∀ h∈hs',lN nq h) (hl:hs.length<=600) (hl':hs'.length<=600) (hsub:∀ t,stored hs n t<=stored hs' n t):∀ p'∈jH Q s (lvH hs' n),∃ p∈jH Q s (lvH hs n),p.1<=p'.1/\p'.2<=p.2:=fun p' hp=>by
  obtain ⟨a1,a2⟩:=oE (n:=n) (Q:=Q) (s:=s) hok hl
  obtain ⟨b1,b2⟩:=oE (n:=n) (Q:=Q) (s:=s) hok' hl'
  have ho:=b1.ok p' hp
  refine aNc a1 ho.2.1 (fun t h1 h2=>?_)
  have hc:Cov (jH Q s (lvH hs' n)) t:=⟨p',hp,h1,h2⟩
  rw [b2 t (by omega) (by omega)] at hc
  rw [a2 t (by omega) (by omega)]
  have:=hsub t
  omega
theorem zE {l:List Bk} {c t:Int}:vR l c t=true↔∃ y∈l,y.c=c/\y.a<=t/\t<y.b:=by
  unfold vR kK;rw [eW]
  constructor
  · rintro ⟨s,hs,h⟩
    obtain ⟨y,hy,rfl⟩:=bE.1 hs
    rw [bT,decide_eq_true_eq] at hy;rw [aJ,decide_eq_true_eq,decide_eq_true_eq] at h;exact ⟨y,hy.1,hy.2,h⟩
  · rintro ⟨y,hy,hc,h1,h2⟩
    refine ⟨(y.a,y.b),bE.2 ⟨y,bT.2 ⟨hy,decide_eq_true hc⟩,rfl⟩,?_⟩;rw [aJ,decide_eq_true_eq,decide_eq_true_eq];exact ⟨h1,h2⟩
theorem aW8 {cs:List Ct} {l:List Bk} (hok:∀ y∈l,aF7 cs y) (hp:l.Pairwise (fun x y=>x.c<y.c\/(x.c=y.c/\x.b<=y.a))):gK (bkE cs l) l.length=0:=by
  refine uA (fun k hk=>?_)
  rw [aF8 (aA hk),if_neg (by rw [(aEg cs _).2 (hok _ (cP hk))]; simp)]
  by_cases h0:k=0
  · rw [if_pos h0]
  rw [if_neg h0,aI,aA (show k-1<l.length by omega),cO]
  have h1:=aZ.1 hp (k-1) k (by omega) hk (by omega)
  obtain ⟨_,c,_,_,h2,_⟩:=hok _ (cP (show k-1<l.length by omega))
  unfold aSx
  rw [if_neg (fun h=>h ((aBx _ _).2 (by omega))),if_neg (by omega)]
section
section
variable {qs:List Int} {cs:List Ct} {bs:List Bk} {hs:List Hd} {R bs':List Bk} {hs':List Hd}
theorem oO {a b:List Hd} (h:a.Perm b) (n t:Int):stored a n t=stored b n t:=by
  induction h with
  | nil=>rfl
  | cons x _ ih=>simp only [stored,ih]
  | swap x y l=>simp only [stored]; omega
  | trans _ _ h1 h2=>exact h1.trans h2
end
section
variable {qs:List Int} {cs:List Ct} {bs:List Bk} {hs:List Hd} {v:Int}
end
end
structure Tk where
  k:Int
  q:Rq
  hops:List Hp
def aCd (cs:List Ct) (i:Int):Ct:=cs.getD i.toNat ⟨0,0,0,0,0,0,0⟩
theorem lZ {cs:List Ct} {k:Nat} {c:Ct} (h:cs[k]?=some c):aCd cs (k:Int)=c:=by
  unfold aCd; rw [cL,aI,h]; rfl
def jS (cs:List Ct) (q:Rq) (h:Hp):Int:=if q.cus then h.e+2*(aCd cs h.c).g else h.e
def aJx (cs:List Ct) (q:Rq) (n t:Int) (h:Hp) (k:Nat) (c:Ct):Prop:=cs[k]?=some c/\h.c=k/\c.f=n/\n≠q.dst/\t<=h.b/\c.s<=h.b/\h.e<=c.e/\h.e=h.b+kC c q.size/\h.a=h.e+c.g
def qN (cs:List Ct) (q:Rq):Int->Int->List Hp->Prop
  | n,_,[]=>n=q.dst
  | n,t,h::l=>(∃ (k:Nat) (c:Ct),aJx cs q n t h k c)/\qN cs q (aCd cs h.c).t h.a l
def uK (cs:List Ct):Int->Int->List Hp->List ((Int × Int) × Hp)
  | _,_,[]=>[]
  | n,t,h::l=>((n,t),h)::uK cs (aCd cs h.c).t h.a l
theorem aJy (cs:List Ct):∀ (l:List Hp) (n t:Int),(uK cs n t l).length=l.length
  | [],_,_=>rfl
  | h::l,n,t=>by simp [uK,aJy cs l]
theorem aNl {cs:List Ct} {q:Rq}:∀ {l:List Hp} {n t:Int},qN cs q n t l->∀ (i:Nat) (x:(Int × Int) × Hp),(uK cs n t l)[i]?=some x->∃ k c,aJx cs q x.1.1 x.1.2 x.2 k c
  | [],_,_,_,i,x,hx=>by simp [uK] at hx
  | h::l,n,t,⟨hh,hc⟩,0,x,hx=>by simp [uK] at hx; subst hx; exact hh
  | h::l,n,t,⟨hh,hc⟩,i+1,x,hx=>aNl hc i x (by simpa [uK] using hx)
theorem aCe {cs:List Ct} {q:Rq}:∀ {l:List Hp} {n t:Int} {h:Hp},qN cs q n t l->l.getLast?=some h->∃ (k:Nat) (c:Ct),cs[k]?=some c/\h.c=k/\c.t=q.dst
  | [],_,_,_,_,hl=>by simp at hl
  | [g],n,t,h,⟨⟨k,c,hh⟩,hc⟩,hl=>by
    simp at hl
    subst hl;refine ⟨k,c,hh.1,hh.2.1,?_⟩
    have:(aCd cs g.c).t=q.dst:=hc
    rw [hh.2.1,lZ hh.1] at this;exact this
  | g::g'::l,n,t,h,⟨_,hc⟩,hl=>aCe hc (by rw [List.getLast?_cons_cons] at hl; exact hl)
structure rT (cs:List Ct) (q:Rq) (l:List Hp):Prop where
  ne:l≠[]
  len:l.length<=1000
  ch:qN cs q q.src q.rdy l
  ar:∀ h,l.getLast?=some h->h.a<=q.dln
def hZ (cs:List Ct) (q:Rq) (k:Int):Int->Int->List Hp->List Hd
  | _,_,[]=>[]
  | n,f,h::l=>⟨n,f,jS cs q h,q.size,k⟩::hZ cs q k (aCd cs h.c).t h.b l
def qJ (k:Int) (h:Hp):Bk:=⟨h.c,h.b,h.e,k⟩
def aCf (x:Tk):List Bk:=x.hops.map (qJ x.k)
def aPe (cs:List Ct) (x:Tk):List Hd:=hZ cs x.q x.k x.q.src x.q.rdy x.hops
def jJ (T:List Tk):List Bk:=T.flatMap aCf
def jB (cs:List Ct) (T:List Tk):List Hd:=T.flatMap (aPe cs)
def apB (x y:Bk):Prop:=x.c=y.c->x.b<=y.a\/y.b<=x.a
theorem aCg {x y:Bk} (h:apB x y):apB y x:=fun e=>(h e.symm).symm
def BkW (l:List Bk):Prop:=l.Pairwise (fun x y=>qM x y<=0)
theorem rU (x y:Bk):qM x y<=0↔x.c<y.c\/(x.c=y.c/\x.a<=y.a):=by
  unfold qM
  rcases nP x.c y.c [gZ x.a y.a] with ⟨h1,e⟩|⟨h1,e⟩|⟨h1,e⟩
  · rw [e]; omega
  · rw [e]
    rcases nP x.a y.a [] with ⟨h2,e⟩|⟨h2,e⟩|⟨h2,e⟩
    · rw [e]; omega
    · rw [e]; simp only [orI]; omega
    · rw [e]; omega
  · rw [e]; omega
theorem nB {c:Ct} {s:Int} (hc:iC c=0) (hs:1<=s/\s<=65536):1<=kC c s/\kC c s<=40000000:=⟨(aAe hc hs).1,(aAe hc hs).2.1⟩
theorem mA {c:Ct} (h:iC c=0):1<=c.g/\c.g<=1048576/\0<=c.s/\c.s<c.e/\c.e<=1099511627776-2*c.g/\0<=c.f/\0<=c.t:=by
  unfold iC at h
  split at h
  · omega
  · rename_i hk
    split at h
    · omega
    · split at h
      · omega
      · unfold aBp at hk
        omega
section
variable {qs:List Int} {cs:List Ct} {q:Rq}
theorem aEo (hp:gD qs cs=0) (hq:1<=q.size/\q.size<=65536) {k:Int} (hk:0<=k/\k<=1152921504606846976):∀ {l:List Hp} {n t:Int},qN cs q n t l->∀ y∈l.map (qJ k),aF7 cs y
  | [],_,_,_,y,hy=>by cases hy
  | h::l,n,t,⟨⟨i,c,h1,h2,h3,h4,h5,h6,h7,h8,h9⟩,hc⟩,y,hy=>by
    rw [dK] at hy
    rcases aE.1 hy with rfl|hy
    · have hck:=(chkPl_ct hp (aF h1)).1
      have hd:=nB (s:=q.size) hck hq
      have hl:=(aC.1 h1).1
      refine ⟨⟨?_,?_,hk.1,hk.2⟩,c,?_,h6,?_,h7⟩
      · show 0<=h.c; omega
      · show h.c<cs.length; omega
      · show cs[h.c.toNat]?=some c; rw [h2,cL]; exact h1
      · show h.b<h.e; omega
    · exact aEo hp hq hk hc y hy
theorem aEp (hp:gD qs cs=0) (hq:1<=q.size/\q.size<=65536) {k:Int} (hk:0<=k/\k<=1152921504606846976):∀ {l:List Hp} {n t f:Int},qN cs q n t l->0<=f/\f<=t->∀ y∈hZ cs q k n f l,lN qs.length y
  | [],_,_,_,_,_,y,hy=>by cases hy
  | h::l,n,t,f,⟨⟨i,c,h1,h2,h3,h4,h5,h6,h7,h8,h9⟩,hc⟩,hf,y,hy=>by
    have hck:=(chkPl_ct hp (aF h1))
    have hd:=nB (s:=q.size) hck.1 hq
    have hg:=mA hck.1
    unfold hZ at hy
    rcases aE.1 hy with rfl|hy
    · have hlv:h.e<=jS cs q h/\jS cs q h<=h.e+2*c.g:=by
        unfold jS; rw [h2,lZ h1]; split <;> omega
      refine ⟨⟨?_,?_⟩,⟨hf.1,?_,?_⟩,hq,hk⟩ <;> dsimp only <;> omega
    · exact aEp hp hq hk hc (by omega) y hy
theorem aEq {a b:List Hd} (h:a.Perm b) (hf:vN qs a=true):vN qs b=true:=by
  rw [vP] at hf ⊢
  intro x hx
  rw [← oO h];exact hf x (h.mem_iff.2 hx)
/-! what is stored at any time fits,if it fits where holds begin -/
theorem qK {n t s:Int}:∀ {l:List Hd},(∀ x∈l,0<=x.s)->(∀ x∈l,x.n=n->x.a<=t->t<x.b->x.a<=s/\s<x.b)->stored l n t<=stored l n s
  | [],_,_=>cH _
  | h::l,hz,H=>by
    have ih:=qK (l:=l) (fun x hx=>hz x (by simp [hx])) (fun x hx=>H x (by simp [hx]))
    have h0:=hz h (by simp)
    have h1:=H h (by simp)
    unfold stored
    by_cases c:h.n=n/\h.a<=t/\t<h.b
    · have:=h1 c.1 c.2.1 c.2.2
      rw [if_pos c,if_pos ⟨c.1,this⟩]; omega
    · rw [if_neg c]; split <;> omega
theorem vZ {n t:Int}:∀ {l:List Hd},(∀ x∈l,¬ (x.n=n/\x.a<=t/\t<x.b))->stored l n t=0
  | [],_=>rfl
  | h::l,H=>by
    unfold stored
    rw [if_neg (H h (by simp)),vZ (fun x hx=>H x (by simp [hx]))]; rfl
theorem aCh {n t:Int}:∀ (l:List Hd),(∀ x∈l,¬ (x.n=n/\x.a<=t/\t<x.b))\/∃ h∈l,(h.n=n/\h.a<=t/\t<h.b)/\∀ x∈l,x.n=n/\x.a<=t/\t<x.b->x.a<=h.a
  | []=>.inl (fun x hx=>by cases hx)
  | y::l=>by
    rcases aCh (n:=n) (t:=t) l with h|⟨h,hh,h1,h2⟩
    · by_cases c:y.n=n/\y.a<=t/\t<y.b
      · refine .inr ⟨y,by simp,c,fun x hx hc=>?_⟩
        rcases aE.1 hx with rfl|hx
        · exact cH _
        · exact absurd hc (h x hx)
      · refine .inl (fun x hx=>?_)
        rcases aE.1 hx with rfl|hx
        · exact c
        · exact h x hx
    · by_cases c:(y.n=n/\y.a<=t/\t<y.b)/\h.a<=y.a
      · refine .inr ⟨y,by simp,c.1,fun x hx hc=>?_⟩
        rcases aE.1 hx with rfl|hx
        · exact cH _
        · have:=h2 x hx hc; omega
      · refine .inr ⟨h,by simp [hh],h1,fun x hx hc=>?_⟩
        rcases aE.1 hx with rfl|hx
        · have:¬ h.a<=x.a:=fun h=>c ⟨hc,h⟩
          omega
        · exact h2 x hx hc
theorem aU1 {l:List Hd} (hz:∀ x∈l,0<=x.s) (hf:vN qs l=true) {n t:Int} (hn:0<=qs.getD n.toNat 0):stored l n t<=qs.getD n.toNat 0:=by
  rcases aCh (n:=n) (t:=t) l with h|⟨h,hh,h1,h2⟩
  · rw [vZ h]; exact hn
  · have h3:=vP.1 hf h hh
    rw [h1.1] at h3
    refine Int.le_trans (qK hz (fun x hx e1 e2 e3=>?_)) h3
    have:=h2 x hx ⟨e1,e2,e3⟩
    omega
end
end Go.Step
namespace Go.Eng
variable {C:Cx} {D:List Deferred} {R H:List PH} {L:Env} {K:List It}
theorem aEr {fn:Func} {N:Bs} {M:Nat} {P:Program} {t b1:Nat} {T:TypeId} {v1:Value} (hr:fn.results = #[.cell t T]) (ht:look L t=some (.pointer (some ⟨b1,0,none⟩))) (a1:lP P T=some false)
    (c1:aG8 N R H b1 0 v1):∀ a w,Frm M L a->Sat N R H w->(results fn a.tmps).run P w=.ok v1 w:=by
  intro a w hf hs
  have e1:a.tmps[t]?.getD undef=.pointer (some ⟨b1,0,none⟩):=by simpa using hf.get t _ ht
  simp [results,hr,e1,loadVar,run_isAgg a1,c1 w hs,asAddr]
end Go.Eng
namespace Go.Proofs.YtnijkofdlepfjaaGreat
open Go.Eng Go.Step
set_option maxRecDepth 100000
set_option maxHeartbeats 64000000
section
theorem aGk (c:Ct) (b s:Int) (hc:iC c=0) (hs:1<=s/\s<=65536) (h1:c.s<=b) (h2:b+kC c s<=c.e):Ans Tryz.prog (fv 270) [.agg #[int c.f,int c.t,int c.s,int c.e,int c.r,int c.g,int c.l],int b,int s] [] (fun r=>r=.bool true):=by
 have hdu:=aEj c s hc hs
 have hd:=nB hc hs
 have hg:=mA hc
 refine A8 Tryz.func270 Tryz.ntmps270 fun N β=>?_
 refine Aa ?_
 refine BF fun b2 cb=>?_
 have cb2:=rdC cb 2
 have cb3:=rdC cb 3
 refine Aba ?_
 refine A9 (.q 0 (.q 1 (.q 2 (.q 3 (.q 4 (.q 5 (.q 6 (.q 7 (.q 8 (.q 9 (.l 10 .e (.q 11 (.q 12 (.q 13 (.q 14 .nil))))))))))))))) [] rfl (by kernel_rfl) fK ?_
 refine AP ?_;refine Aaj ?_;refine G2 ?_;refine Aa0 ?_;refine Aaj ?_;refine Aef ?_;refine BZ (BQ rfl hdu rfl rfl rdZ rfl rfl ?_);rintro _ rfl;refine ES ?_;refine G1 ?_;refine BU ?_;refine Ac ?_
 skip
 exact AV ⟨rfl,rfl⟩
theorem aJz (c:Ct) (b s:Int) (hc:iC c=0) (hs:1<=s/\s<=65536) (h1:c.s<=b) (h2:b+kC c s<=c.e):Ans Tryz.prog (fv 231) [.agg #[int c.f,int c.t,int c.s,int c.e,int c.r,int c.g,int c.l],int b,int s] [] (fun r=>r=.bool true):=by
 have hck:=aB5 c s hc hs
 have hfi:=aGk c b s hc hs h1 h2
 refine A8 Tryz.func231 Tryz.ntmps231 fun N β=>?_
 refine Aa ?_
 refine BF fun b2 cb=>?_
 refine Aaa ?_;refine Ad4 ?_;refine A5 hck ?_;refine CJ ?_;refine AB ?_;refine AI ?_;refine Aal ?_;refine A5 hfi ?_;refine Ac0 ?_;exact AV ⟨rfl,rfl⟩
section
variable {ρ τ:PH} {pq pc:Option Addr} {kq kc:Nat} {qs:List Int} {cs:List Ct} {q:Rq}
theorem aL4 (hq:gC ρ (.slice pq qs.length kq) qs) (hc:jW τ (.slice pc cs.length kc) cs) (hcap:cs.length<=kc) (lq:qs.length<=9223372036854775807) (lc:cs.length<=9223372036854775807) (hp:gD qs cs=0) (hs:1<=q.size/\q.size<=65536) {i:Nat} {c:Ct} (hi:cs[i]?=some c) (t0:Int) (hb:0<=t0/\t0<=1099511627776) :
  Ans Tryz.prog (fv 232) [.agg #[.slice pq qs.length kq,.slice pc cs.length kc],.agg #[int q.src,int q.dst,int q.size,int q.rdy,int q.dln,int q.pri,.bool q.cus],int (i:Int),int t0] [τ] (fun r=>r=.agg #[int (i:Int),int t0,int (t0+kC c q.size),int (t0+kC c q.size+c.g)]):=by
 have hck:=(chkPl_ct hp).2 c (aF hi)
 have hdu:=aJm c q.size hck.1 hs
 have hd:=nB hck.1 hs
 have hg:=mA hck.1
 have hil:=(aC.1 hi).1
 obtain ⟨_,_,e,hrc⟩:=hc.val iU
 simp only [aN] at e
 obtain ⟨rfl,_,rfl⟩:=e
 obtain ⟨bq,oq,rfl,hrd⟩:=oC hrc hi
 refine A8 Tryz.func232 Tryz.ntmps232 fun N β=>?_
 refine Aa ?_
 refine BF fun b4 bx94=>?_
 refine BF fun b5 bx96=>?_
 refine CT fun b8=>?_
 have cp1:=rdC bx94 1
 have cr2:=rdC bx96 2
 refine AE ?_;refine Acm ?_;refine Aa9 ?_
 refine A3 fun b=>?_
 refine Aa6 ?_;refine Aar ?_;refine Aac ?_
 revert b; intro b
 refine A5 hdu ?_;refine Ab7 ?_;refine Aee ?_;refine CF ?_;refine Aal ?_;refine CF ?_;refine Aac ?_;refine CF ?_;refine CB ?_;refine Aa6 ?_;exact A2 (zB (b1:=b8) (T:=62) (v1:=[int (i:Int),int t0,int (t0+kC c q.size),int (t0+kC c q.size+c.g)]) rfl rfl rfl rfl (fR gN)) fQ fK ⟨rfl,rfl⟩
theorem aDb (hq:gC ρ (.slice pq qs.length kq) qs) (hc:jW τ (.slice pc cs.length kc) cs) (hcap:cs.length<=kc) (lq:qs.length<=9223372036854775807) (lc:cs.length<=9223372036854775807) (hp:gD qs cs=0) (hs:1<=q.size/\q.size<=65536) {n0 t0:Int} {h:Hp} {k:Nat} {c:Ct} (hh:aJx cs q n0 t0 h k c) :
  Ans Tryz.prog (fv 173) [.agg #[.slice pq qs.length kq,.slice pc cs.length kc],.agg #[int q.src,int q.dst,int q.size,int q.rdy,int q.dln,int q.pri,.bool q.cus],.agg #[int n0,int t0],.agg #[int h.c,int h.b,int h.e,int h.a]] [τ] (fun r=>r=int 0):=by
 obtain ⟨hi,h2,h3,h4,h5,h6,h7,h8,h9⟩:=hh
 have hck:=(chkPl_ct hp).2 c (aF hi)
 have hg:=mA hck.1
 obtain ⟨hc0,hb0,he0,ha0⟩:=h
 dsimp only at h2 h3 h4 h5 h6 h7 h8 h9 ⊢
 subst h2 h8 h9
 have hfi:=aJz c hb0 q.size hck.1 hs h6 (by omega)
 have hro:=aL4 hq hc hcap lq lc hp hs hi hb0 ⟨by omega,by have:=nB hck.1 hs; omega⟩
 have hil:=(aC.1 hi).1
 obtain ⟨_,_,e,hrc⟩:=hc.val iU
 simp only [aN] at e
 obtain ⟨rfl,_,rfl⟩:=e
 obtain ⟨bq,oq,rfl,hrd⟩:=oC hrc hi
 refine A8 Tryz.func173 Tryz.ntmps173 fun N β=>?_
 refine Aa ?_
 refine BF fun b4 cp=>?_
 refine BF fun b5 cr=>?_
 refine BF fun b6 bx169=>?_
 refine BF fun b7 ch=>?_
 have cp1:=rdC cp 1
 have cr1:=rdC cr 1
 have cr2:=rdC cr 2
 have cl0:=rdC bx169 0
 have cl1:=rdC bx169 1
 have ch0:=rdC ch 0
 have ch1:=rdC ch 1
 refine Ad1 ?_;refine BD ?_;refine Abf ?_;refine A6 ?_;refine CP ?_;refine Abe ?_;refine Abr ?_;refine Aa9 ?_
 refine A3 fun b=>?_
 refine Adb ?_;refine AM ?_;refine Abr ?_;refine BN ?_;refine Abf ?_;refine B3 ?_;refine Acf ?_;refine AJ rfl ?_;refine Abr ?_;refine BD ?_;refine Aaa ?_;refine AJ rfl ?_;refine Aar ?_;refine Ad0 ?_
 revert b; intro b9
 refine A5 hfi ?_;refine BX ?_;refine Aaa ?_;refine AJ rfl ?_;refine AC ?_
 refine A9 (.q 0 (.q 1 (.q 2 (.q 3 (.q 4 (.q 5 (.q 6 (.l 7 .e (.q 8 (.q 9 .nil)))))))))) [] rfl (by kernel_rfl) fK ?_
 refine A7 ?_;refine A7 ?_;refine A7 ?_;refine Abj ?_;refine BZ (BQ rfl hro rfl rfl rdZ rfl rfl ?_);rintro _ rfl
 focus ((refine' CX rfl _ rfl rfl rfl rfl _; rotate_left; (apply G0 [(k:Int),hb0,hb0+kC c q.size,hb0+kC c q.size+c.g] [(k:Int),hb0,hb0+kC c q.size,hb0+kC c q.size+c.g] (n:=4); exact rfl; exact rfl; kernel_rfl; kernel_rfl; kernel_rfl; exact rfl; exact rfl)))
 refine Ac ?_
 rw [show (!decide ([(k:Int),hb0,hb0+kC c q.size,hb0+kC c q.size+c.g]=[(k:Int),hb0,hb0+kC c q.size,hb0+kC c q.size+c.g]))=false by simp]
 skip
 refine AJ rfl ?_;refine AK ?_;refine BB ?_;refine Aam ?_;exact AV ⟨rfl,rfl⟩
end
end
theorem aDc {pq pc:Option Addr} {kq kc:Nat} {qs:List Int} {cs:List Ct} {q:Rq} (pv:Option Addr) (nv cv:Nat):Eng.Spec Tryz.prog (fv 172) [.agg #[.slice pq qs.length kq,.slice pc cs.length kc],.agg #[int q.src,int q.dst,int q.size,int q.rdy,int q.dln,int q.pri,.bool q.cus],.slice pv nv cv] [] [] (fun r H'=>∃ c1 c2 c3,r=.func (.func 230) #[] #[.pointer (some ⟨c1,0,none⟩),.pointer (some ⟨c2,0,none⟩),.pointer (some ⟨c3,0,none⟩)]/\H'=[sng c2 (.cells #[.slice pv nv cv] 56 (0,0)),sng c1 (.cells #[int q.src,int q.dst,int q.size,int q.rdy,int q.dln,int q.pri,.bool q.cus] 38 (0,0)),sng c3 (.cells #[.slice pq qs.length kq,.slice pc cs.length kc] 25 (0,0))]):=by
 refine A8 Tryz.func172 Tryz.ntmps172 fun N β=>?_
 refine Aa ?_
 refine BV fun c3=>?_
 refine BV fun c1=>?_
 refine C3 fun c2=>?_
 refine Aaa ?_;refine Adj ?_;refine Aaa ?_;exact AV ⟨c1,c2,c3,rfl,rfl⟩
theorem aDd {ρ τ:PH} {pq pc:Option Addr} {kq kc:Nat} {qs:List Int} {cs:List Ct} {q:Rq} {lam:PH} (hq:gC ρ (.slice pq qs.length kq) qs) (hc:jW τ (.slice pc cs.length kc) cs) (hcap:cs.length<=kc) (lq:qs.length<=9223372036854775807) (lc:cs.length<=9223372036854775807) (hp:gD qs cs=0) {pv:Option Addr} {cv:Nat} {l:List Hp} (hv:SlE gE 4 lam (.slice pv l.length cv) l) (hl:l.length<=1000) (hch:qN cs q q.src q.rdy l) (c1 c2 c3:Nat) :
  aP4 Tryz.prog (.func (.func 230) #[] #[.pointer (some ⟨c1,0,none⟩),.pointer (some ⟨c2,0,none⟩),.pointer (some ⟨c3,0,none⟩)]) [sng c1 (.cells #[int q.src,int q.dst,int q.size,int q.rdy,int q.dln,int q.pri,.bool q.cus] 38 (0,0)),sng c2 (.cells #[.slice pv l.length cv] 56 (0,0)),sng c3 (.cells #[.slice pq qs.length kq,.slice pc cs.length kc] 25 (0,0)),τ,lam] ((uK cs q.src q.rdy l).map (fun x=>[.agg #[int x.1.1,int x.1.2],.agg (gE x.2).toArray])):=by
 intro y S Own Inv Stop Ry hy hyl σ0 hI0
 obtain ⟨yl,rfl⟩:=hyl
 obtain ⟨_,_,e,hrv⟩:=SlE.val gJ hv
 simp only [aN] at e
 obtain ⟨rfl,_,rfl⟩:=e
 obtain ⟨_,_,e,hrc⟩:=hc.val iU
 simp only [aN] at e
 obtain ⟨rfl,_,rfl⟩:=e
 have bx38_3:=rdB c1 38 [int q.src,int q.dst,int q.size,int q.rdy,int q.dln,int q.pri,.bool q.cus]
 have f0:=rdC bx38_3 0
 have f3:=rdC bx38_3 3
 have bx40_3:=rdB c2 56 [.slice pv l.length cv]
 have g0:=rdC bx40_3 0
 have bx41_3:=rdB c3 25 [.slice pq qs.length kq,.slice pc cs.length kc]
 have p1:=rdC bx41_3 1
 simp only [aG,aH]
 refine CU [.pointer (some ⟨c1,0,none⟩),.pointer (some ⟨c2,0,none⟩),.pointer (some ⟨c3,0,none⟩)] Tryz.func230 Tryz.ntmps230 fun N β=>?_
 refine Abr ?_;refine CB ?_
 refine A3 fun b=>?_
 refine Aa6 ?_;refine Abb ?_;refine Abh ?_
 revert b; intro b5
 refine BE [0,1,2,3,5,13,14] (X:=(Nat × (Int × Int)) × S) ((0,(q.src,q.rdy)),σ0) (fun z=>z.1.1<=l.length/\(uK cs q.src q.rdy l).drop z.1.1=uK cs z.1.2.1 z.1.2.2 (l.drop z.1.1)/\qN cs q z.1.2.1 z.1.2.2 (l.drop z.1.1)/\Inv z.1.1 z.2) (fun z=>[(15,int (z.1.1:Int))]) (fun z=>sng b5 (.cells #[int z.1.2.1,int z.1.2.2] 290 (0,0))::Own z.2) (fun z=>l.length-z.1.1) fT ⟨cA _,rfl,hch,hI0⟩ fP Sel.refl ?_
 rintro ⟨⟨k,⟨n1,t1⟩⟩,σ1⟩ ⟨hk,hd,hcn,hI⟩
 dsimp only at hk hd hcn hI ⊢
 by_cases hlt:k<l.length
 rotate_left
 ·have hke:k=l.length:=by omega
  subst hke;refine Abp ?_
  refine BJ (gY rfl) (fun _ h=>h) (Sel.skip Sel.refl) ⟨σ1,rfl,.inl ?_⟩
  rw [aU,aJy];exact hI
 have hdk:l.drop k=l[k]::l.drop (k+1):=bU hlt
 rw [hdk] at hd hcn
 have hx:=aA hlt
 obtain ⟨bl,ol,rfl,hrd⟩:=hrv k _ hx
 generalize l[k]=h at hd hcn hx hrd
 obtain ⟨⟨i,c,hh⟩,hcn⟩:=hcn
 have hi:=hh.1
 have hil:=(aC.1 hi).1
 have hcc:(aCd cs h.c).t=c.t:=by rw [hh.2.1,lZ hi]
 rw [hcc] at hcn
 obtain ⟨bq,oq,rfl,hrq⟩:=oC hrc hi
 have q1:rdc τ bq (oq+i*7+1)=some (int c.t):=hrq.get (j:=1) rfl
 have hat:(uK cs q.src q.rdy l)[k]?=some ((n1,t1),h):=by
  have e:((uK cs q.src q.rdy l).drop k)[0]?=some ((n1,t1),h):=by rw [hd]; rfl
  rw [dX] at e
  simpa using e
 have hd2:(uK cs q.src q.rdy l).drop (k+1)=uK cs c.t h.a (l.drop (k+1)):=by
  rw [← List.drop_drop,hd,← hcc]; rfl
 have hya:=hy _ σ1 [.agg #[int n1,int t1],.agg (gE h).toArray] (by rw [aY,hat]; rfl) hI
 have hhc:=hh.2.1
 obtain ⟨hc0,hb0,he0,ha0⟩:=h
 dsimp only at hhc hcn hd2
 subst hhc
 have hrd:RdN lam bl (ol+k*4) [int (i:Int),int hb0,int he0,int ha0]:=hrd
 refine Ab2 ?_
 refine A3 fun b=>?_
 refine Aa6 ?_;refine Aag ?_;refine AI ?_;refine AI ?_
 revert b; intro b7
 refine AW (ρ:=sng b7 _) fL ?_
 have mw:=rdB b7 62 [int (i:Int),int hb0,int he0,int ha0]
 have m0:=rdC mw 0
 have m3:=rdC mw 3
 skip
 refine BG hya rfl rfl (gA.skip gA.all) (fun τ hτ=>.inl (by simp [hτ])) rfl rfl ?_
 rintro _ H' ⟨σ3,rfl,⟨rfl,hI3⟩|⟨rfl,hSt⟩⟩
 ·refine DM (H':=_::Own σ3) (cS (l₂:=[_])) ?_
  refine BX ?_;refine Aas ?_;refine BD ?_;refine AT ?_;refine Abf ?_;refine A6 ?_;refine CP ?_;refine Abe ?_
  refine A9 (.q 0 (.q 1 (.q 2 (.q 3 (.q 4 (.q 5 (.q 6 (.q 7 (.q 8 (.q 9 (.l 10 .b .nil))))))))))) [] rfl (by kernel_rfl) Sel.nil ?_
  refine Abj ?_;refine Ael ?_;refine Aaj ?_;refine EW ?_;refine BZ ?_;refine' D7 rfl _ rfl rfl _ _
  rotate_left
  ·apply DB; exact rfl; exact rfl; exact fL; exact iF; exact rfl; exact rfl
  ·rintro _ _ ⟨_,rfl⟩ w hw; exact hw.sel Sel.nil
  rintro _ _ ⟨rfl,rfl⟩;refine BC ?_;refine Ad5 ?_
  exact AZ ((k+1,(c.t,ha0)),σ3) ⟨by dsimp only; omega,hd2,hcn,hI3⟩ (by dsimp only; omega) fP (Sel.cons .here Sel.refl)
 ·refine DM (H':=_::Own σ3) (cS (l₂:=[_])) ?_
  refine BX ?_;refine Acd ?_;refine AY ?_;refine Aec ?_;refine Aci ?_
  exact A2 (gY rfl) (fun _ h=>bS _ h) (Sel.skip Sel.refl) ⟨σ3,rfl,.inr hSt⟩
theorem zN {ρ τ:PH} {pq pc:Option Addr} {kq kc:Nat} {qs:List Int} {cs:List Ct} {q:Rq} {lam:PH} (hq:gC ρ (.slice pq qs.length kq) qs) (hc:jW τ (.slice pc cs.length kc) cs) (hcap:cs.length<=kc) (lq:qs.length<=9223372036854775807) (lc:cs.length<=9223372036854775807) (hp:gD qs cs=0) (ho:nF qs.length q) {pv:Option Addr} {cv:Nat} {l:List Hp} (hv:SlE gE 4 lam (.slice pv l.length cv) l) (hr:rT cs q l) :
  Ans Tryz.prog (fv 106) [.agg #[.slice pq qs.length kq,.slice pc cs.length kc],.agg #[int q.src,int q.dst,int q.size,int q.rdy,int q.dln,int q.pri,.bool q.cus],.slice pv l.length cv] [ρ,τ,lam] (fun r=>r=int 0):=by
 obtain ⟨hne,hlen,hch,har⟩:=hr
 have hs:1<=q.size/\q.size<=65536:=⟨ho.2.2.1.1,ho.2.2.1.2.1⟩
 have hcr:=mO (q:=q) hq hc hcap lq lc hp ho
 have hpl:=aDc (pq:=pq) (pc:=pc) (kq:=kq) (kc:=kc) (qs:=qs) (cs:=cs) (q:=q) pv l.length cv
 have hit:=fun c1 c2 c3=>aDd hq hc hcap lq lc hp hv hlen hch c1 c2 c3
 have hck:=fun {n0 t0:Int} {h:Hp} {k:Nat} {c:Ct} (hh:aJx cs q n0 t0 h k c)=>aDb hq hc hcap lq lc hp hs hh
 have hl0:0<l.length:=List.length_pos_iff.2 hne
 have hlast:l.getLast?=some l[l.length-1]:=by rw [eD,aA]
 obtain ⟨kl,cl,e1,e2,e3⟩:=aCe hch hlast
 have hdl:=har _ hlast
 have hil:=(aC.1 e1).1
 have hxl:=aA (show l.length-1<l.length by omega)
 have hok:=aNl hch
 generalize uK cs q.src q.rdy l=X at hit hok
 obtain ⟨_,_,e,hrv⟩:=SlE.val gJ hv
 simp only [aN] at e
 obtain ⟨rfl,_,rfl⟩:=e
 obtain ⟨_,_,e,hrc⟩:=hc.val iU
 simp only [aN] at e
 obtain ⟨rfl,_,rfl⟩:=e
 obtain ⟨bl,ol,rfl,hrl⟩:=hrv _ _ hxl
 obtain ⟨bq,oq,rfl,hrq⟩:=oC hrc e1
 have q1:rdc τ bq (oq+kl*7+1)=some (int cl.t):=hrq.get (j:=1) rfl
 generalize l[l.length-1]=h at e2 hdl hrl
 obtain ⟨hc0,hb0,he0,ha0⟩:=h
 dsimp only at e2 hdl
 subst e2
 have hrl:RdN lam bl (ol+(l.length-1)*4) [int (kl:Int),int hb0,int he0,int ha0]:=hrl
 refine A8 Tryz.func106 Tryz.ntmps106 fun N β=>?_
 refine Aa ?_
 refine BV fun b3=>?_
 refine BV fun b4=>?_
 refine CR (DH rfl rfl) rfl rfl rfl ?_;rintro _ _ ⟨b6,rfl,rfl⟩;refine AW (ρ:=sng b3 _) fL ?_;refine AW (ρ:=sng b4 _) fL ?_
 have cp:=rdB b3 25 [.slice pq qs.length kq,.slice (some ⟨bq,oq,none⟩) cs.length kc]
 have cp1:=rdC cp 1
 have cr:=rdB b4 38 [int q.src,int q.dst,int q.size,int q.rdy,int q.dln,int q.pri,.bool q.cus]
 have cr1:=rdC cr 1
 have cr4:=rdC cr 4
 refine Aak ?_;refine Abs ?_;refine A5 hcr ?_;refine Adp ?_;refine A6 ?_;refine Acy ?_;refine Aag ?_;refine Ade ?_;refine Aai ?_;refine AC ?_;refine Abs ?_;refine AB ?_;refine BG hpl rfl rfl fU rdZ rfl rfl ?_;rintro _ _ ⟨c1,c2,c3,rfl,rfl⟩;simp only [aG,aH];refine AW (ρ:=sng c2 _) fL ?_;refine AW (ρ:=sng c1 _) fL ?_;refine AW (ρ:=sng c3 _) fL ?_;refine Ad3 ?_
 refine DL (gf:=230) (cap:=[.pointer (some ⟨c1,0,none⟩),.pointer (some ⟨c2,0,none⟩),.pointer (some ⟨c3,0,none⟩)]) (ps:=[25,26]) (X:=Unit) rfl Tryz.func230 rfl rfl
  (hit c1 c2 c3) ?_ (fun _ _=>True) (fun _=>[]) (fun _ _=>False) () rfl fU trivial ?_ ?_ ?_
 ·intro σ' hσ
  simp only [aE,bD,or_false] at hσ ⊢
  rcases hσ with h|h|h|h|h <;> simp [h]
 ·rintro lo r j _ vs hvs _ hps has hbd hst hpe hfr
  obtain ⟨st,pe,fnn,tm,prm,asg,bdy,df⟩:=r
  simp only at hps has hbd hst hpe hfr;subst hps has hbd hst hpe;rw [aY] at hvs
  obtain ⟨x,hx,rfl⟩:=aQ.1 hvs
  obtain ⟨k,c,hh⟩:=hok j x hx
  have hc1:=hck hh
  refine lF hfr rfl (by intro p hp; simp at hp; omega) aBm (fun N' β'=>?_)
  obtain ⟨⟨n1,t1⟩,⟨xc,xb,xe,xa⟩⟩:=x
  dsimp only at hc1 ⊢
  unfold gE
  dsimp only
  refine Aa ?_
  refine CT fun b7=>?_
  refine Aa6 ?_;refine AA ?_
  refine A3 fun b=>?_
  refine Aa6 ?_
  revert b; intro b8
  refine C7 rfl rfl ?_;refine DI fL rfl ?_;refine AW (ρ:=sng b7 _) fL ?_;refine AW (ρ:=sng b8 _) fL ?_
  have w7:=rdB b7 290 [int n1,int t1]
  have w8:=rdB b8 62 [int xc,int xb,int xe,int xa]
  refine AM ?_;refine Abs ?_;refine AI ?_;refine AI ?_;refine A5 hc1 ?_;refine Ac7 ?_;refine BB ?_;exact CD fL fQ fK ⟨(),.inl ⟨rfl,trivial,rfl⟩⟩
 ·rintro bm _ _
  simp only [aG,aH];refine BB ?_;refine Aaw ?_;refine A6 ?_;refine B6 ?_;refine Aa9 ?_
  refine A3 fun b=>?_
  refine Adb ?_;refine AC ?_
  revert b; intro b10
  refine AW (ρ:=sng b10 _) fL ?_
  have bx352_3:=rdB b10 62 [int (kl:Int),int hb0,int he0,int ha0]
  have z0:=rdC bx352_3 0
  have z3:=rdC bx352_3 3
  refine A9 P3Z [] rfl (by kernel_rfl) fK ?_
  refine Abj ?_;refine Ael ?_;refine Aaj ?_;refine FL ?_;refine Ach ?_;refine AC ?_;refine Abr ?_;refine B7 ?_;refine Aai ?_;refine Aa ?_;refine Abx ?_;exact FA (uQ.cons fL .nil) (aEr (b1:=b6) (T:=33) (v1:=int 0) rfl rfl rfl (jV gN rfl)) fQ fK ⟨rfl,rfl⟩
 ·rintro bm cc o' hf
  exact hf.elim
end Go.Proofs.YtnijkofdlepfjaaGreat
namespace Go.Sym
variable {α:Type}
structure Cmp (cmp:α->α->Int):Prop where
  trans:∀ {x y z},cmp x y<=0->cmp y z<=0->cmp x z<=0
  tot:∀ {x y},¬ cmp y x<0->cmp x y<=0
abbrev Srt (cmp:α->α->Int) (l:List α):Prop:=l.Pairwise (fun x y=>cmp x y<=0)
theorem aGl (A B C:List α) (x y:α):((A ++ x::B ++ y::C).set A.length y).set (A.length+B.length+1) x=A ++ y::B ++ x::C:=by
  have e1:(A ++ x::B ++ y::C).set A.length y=A ++ y::B ++ y::C:=by
    rw [aR,List.set_append_right _ _ (aK _),Nat.sub_self,aR]
    rfl
  rw [e1,List.set_append_right _ _ (by simp; omega)]
  have:A.length+B.length+1-(A ++ y::B).length=0:=by simp; omega
  rw [this]
  rfl
theorem aTd (A B C:List α) (x y:α):((A ++ x::B ++ y::C).set (A.length+B.length+1) x).set A.length y=A ++ y::B ++ x::C:=by
  rw [List.set_comm _ _ (by omega)]
  exact aGl A B C x y
theorem aTe (A C:List α) (x y:α):((A ++ x::y::C).set A.length y).set (A.length+1) x=A ++ y::x::C:=by
  have:=aGl A [] C x y
  simpa using this
theorem aPf (A C:List α) (x y:α):((A ++ x::y::C).set (A.length+1) x).set A.length y=A ++ y::x::C:=by
  have:=aTd A [] C x y
  simpa using this
section
variable {cmp:α->α->Int} (hc:Cmp cmp)
include hc
theorem aNm {A B:List α} (hA:Srt cmp A) (hB:Srt cmp B) (h:∀ x,A.getLast?=some x->∀ y,B.head?=some y->cmp x y<=0):Srt cmp (A ++ B):=by
  refine cC.2 ⟨hA,hB,fun x hx y hy=>?_⟩
  obtain ⟨A',a,rfl⟩:∃ A' a,A=A' ++ [a]:=by
    rcases List.eq_nil_or_concat A with rfl|⟨A',a,rfl⟩
    · cases hx
    · exact ⟨A',a,by simp⟩
  cases B with
  | nil=>cases hy
  | cons b B =>
    have h1:=h a (by simp) b (by simp)
    have h2:cmp x b<=0:=by
      rcases aM.1 hx with hx|hx
      · exact hc.trans ((cC.1 hA).2.2 x hx a (by simp)) h1
      · simp at hx; subst hx; exact h1
    rcases aE.1 hy with rfl|hy
    · exact h2
    · exact hc.trans h2 ((aW.1 hB).1 y hy)
theorem wA {A B:List α} {e:α} (h:Srt cmp (A ++ B)) (h1:∀ x,A.getLast?=some x->cmp x e<=0) (h2:∀ y,B.head?=some y->cmp e y<=0):Srt cmp (A ++ e::B):=by
  obtain ⟨hA,hB,hAB⟩:=cC.1 h
  have hE:Srt cmp (e::B):=by
    have:=aNm hc (A:=[e]) (by simp) hB (fun x hx y hy=>by simp at hx; subst hx; exact h2 y hy)
    exact this
  exact aNm hc hA hE (fun x hx y hy=>by simp at hy; subst hy; exact h1 x hx)
theorem aTf {U V:List α} (hU:Srt cmp U) (hV:Srt cmp V) {h s:Nat} (hsu:s<=U.length) (hsh:s<=h) (hhv:h<=V.length+s)
    (c1:∀ x y,0<s->U[s-1]?=some x->V[h-s]?=some y->cmp x y<=0) (c2:∀ x y,s<h->V[h-s-1]?=some x->U[s]?=some y->cmp x y<=0) :
    ∀ x∈U.take s ++ V.take (h-s),∀ y∈U.drop s ++ V.drop (h-s),cmp x y<=0:=by
  have sp:∀ {W:List α} {k:Nat},Srt cmp W->∀ x∈W.take k,∀ y∈W.drop k,cmp x y<=0:=fun {W k} hW=>by
    rw [← bH k W] at hW;exact (cC.1 hW).2.2
  have lo:∀ {W:List α} {k:Nat} {x:α},Srt cmp W->x∈W.take k->∃ z,W[k-1]?=some z/\0<k/\(k-1<W.length->(x=z\/cmp x z<=0))\/W.length<k:=fun {W k x} hW hx=>by
    rcases dP W.length k with hk|hk
    · exact ⟨x,.inr hk⟩
    · obtain ⟨i,hi,rfl⟩:=bB hx
      rw [aL] at hi
      have h0:k-1<W.length:=by omega
      refine ⟨W[k-1],.inl ⟨aA h0,by omega,fun _=>?_⟩⟩
      rw [List.getElem_take]
      by_cases e:i=k-1
      · subst e; exact .inl rfl
      · exact .inr (aZ.1 hW i (k-1) (by omega) h0 (by omega))
  have hi:∀ {W:List α} {k:Nat} {y:α},Srt cmp W->y∈W.drop k->∃ z,W[k]?=some z/\(y=z\/cmp z y<=0):=fun {W k y} hW hy=>by
    obtain ⟨i,hi,rfl⟩:=bB hy
    rw [cB] at hi
    have h0:k<W.length:=by omega
    refine ⟨W[k],aA h0,?_⟩;rw [List.getElem_drop]
    by_cases e:i=0
    · subst e; exact .inl rfl
    · exact .inr (aZ.1 hW k (k+i) h0 (by omega) (by omega))
  intro x hx y hy
  rcases aM.1 hx with hx|hx <;> rcases aM.1 hy with hy|hy
  · exact sp hU x hx y hy
  · obtain ⟨z,hz|hz⟩:=lo hU hx
    · obtain ⟨z1,z2,z3⟩:=hz
      obtain ⟨u,u1,u2⟩:=hi hV hy
      have h1:=c1 z u z2 z1 u1
      have h2:cmp x u<=0:=by
        rcases z3 (by omega) with rfl|h3
        · exact h1
        · exact hc.trans h3 h1
      rcases u2 with rfl|u2
      · exact h2
      · exact hc.trans h2 u2
    · omega
  · obtain ⟨z,hz|hz⟩:=lo hV hx
    · obtain ⟨z1,z2,z3⟩:=hz
      obtain ⟨u,u1,u2⟩:=hi hU hy
      have h1:=c2 z u (by omega) z1 u1
      have h2:cmp x u<=0:=by
        rcases z3 (by omega) with rfl|h3
        · exact h1
        · exact hc.trans h3 h1
      rcases u2 with rfl|u2
      · exact h2
      · exact hc.trans h2 u2
    · omega
  · exact sp hV x hx y hy
theorem aCi {A B A' B':List α} (hA:Srt cmp A') (hB:Srt cmp B') (pA:A'.Perm A) (pB:B'.Perm B) (h:∀ x∈A,∀ y∈B,cmp x y<=0):Srt cmp (A' ++ B'):=
  cC.2 ⟨hA,hB,fun x hx y hy=>h x (pA.mem_iff.1 hx) y (pB.mem_iff.1 hy)⟩
end
inductive Blk (cmp:α->α->Int) (n:Nat):List α->Prop
  | last {l:List α}:l.length<=n->Srt cmp l->Blk cmp n l
  | cons {u r:List α}:u.length=n->Srt cmp u->Blk cmp n r->Blk cmp n (u ++ r)
def Beg (cmp:α->α->Int) (n:Nat) (D:List α):Prop:=∀ r,Blk cmp n r->Blk cmp n (D ++ r)
theorem Beg.nil {cmp:α->α->Int} {n:Nat}:Beg cmp n []:=fun r h=>h
theorem Beg.snoc {cmp:α->α->Int} {n:Nat} {D u:List α} (h:Beg cmp n D) (hu:u.length=n) (hs:Srt cmp u):Beg cmp n (D ++ u):=fun r hr=>by
  rw [aR];exact h _ (.cons hu hs hr)
theorem Beg.done {cmp:α->α->Int} {n:Nat} {D u:List α} (h:Beg cmp n D) (hu:u.length<=n) (hs:Srt cmp u):Blk cmp n (D ++ u):=h u (.last hu hs)
theorem Blk.small {cmp:α->α->Int} {n:Nat} {l:List α} (h:Blk cmp n l) (hl:l.length<=n) (hn:0<n):Srt cmp l:=by
  cases h with
  | last _ h=>exact h
  | @cons u r hu hs hr =>
    rw [aB] at hl
    have:r=[]:=bW.1 (by omega)
    subst this
    simpa using hs
theorem Blk.two {cmp:α->α->Int} {n:Nat} {l:List α} (h:Blk cmp n l) (hn:0<n) (hl:n<l.length):Srt cmp (l.take n)/\(l.length<2*n->Srt cmp (l.drop n))/\(2*n<=l.length->Srt cmp ((l.drop n).take n)/\Blk cmp n (l.drop (2*n))):=by
  cases h with
  | last h _=>omega
  | @cons u r hu hs hr =>
    have e1:(u ++ r).take n=u:=by rw [← hu,List.take_left']; rfl
    have e2:(u ++ r).drop n=r:=by rw [← hu,List.drop_left']; rfl
    have e3:(u ++ r).drop (2*n)=r.drop n:=by rw [show 2*n=n+n by omega,← List.drop_drop,e2]
    rw [aB] at hl ⊢;rw [e1,e2,e3]
    refine ⟨hs,fun h2=>?_,fun h2=>?_⟩
    · exact hr.small (by omega) hn
    · cases hr with
      | last h3 h4 =>
        have:r.length=n:=by omega
        rw [bV (by omega),cE (by omega)]
        exact ⟨h4,.last (by simp) .nil⟩
      | @cons v r' hv hs' hr' =>
        rw [← hv,List.take_left' rfl,List.drop_left' rfl];rw [hv];exact ⟨hs',hr'⟩
end Go.Sym
namespace Go.Eng
def OwA {α:Type} (enc:α->List Value) (s:Nat) (e:TypeId) (b c n:Nat) (l:List α) (σ:PH):Prop:=l.length=n/\fS e s (.slice (some ⟨b,0,none⟩) n c) n (l.flatMap enc) σ
section
variable {α:Type} {enc:α->List Value} {s:Nat} {e:TypeId} {b c n:Nat} {l:List α} {σ:PH}
theorem OwA.row (he:∀ x,(enc x).length=s) (h:OwA enc s e b c n l σ) {i:Nat} {x:α} (hx:l[i]?=some x):RdN σ b (0+i*s) (enc x):=by
  obtain ⟨rfl,h⟩:=h
  have hS:SlE enc s σ (.slice (some ⟨b,0,none⟩) l.length c) l:=h.at
  obtain ⟨p,c',e1,hr⟩:=hS.val he
  simp only [aN] at e1
  obtain ⟨b',o',e2,h2⟩:=hr i x hx
  rw [← e1.1] at e2;simp only [aD,eI,and_true] at e2
  obtain ⟨rfl,rfl⟩:=e2
  exact h2
theorem OwA.cast (h:OwA enc s e b c n l σ) {m:List α} (e':m=l):OwA enc s e b c n m σ:=by subst e'; exact h
variable {C:Cx} {R H:List PH} {L:Env}
theorem CO {dst:Option Tmp} {ty:TypeId} {pos:String} {aft:Array Edge} {g:Option (Nat × Bool)} (he:∀ x,(enc x).length=s) {t:TypeId} {x y:Operand} {o:Nat} {a:α} {H':List PH} (i:Nat)
    (hO:OwA enc s e b c n l σ) (h:fM L x=some (.pointer (some ⟨b,o,none⟩))) (ho:o=0+i*s) (hv:fM L y=some (.agg (enc a).toArray)) (h1:∀ v∈enc a,v.oneCell'=true)
    (hn:szP C.P t=some s) (ht:gU σ H H') (hi:i<n) :
    iX C R H L ⟨dst,.store t x y,ty,pos,aft,g⟩ (fun u H2=>u=undef/\∃ σ',OwA enc s e b c n (l.set i a) σ'/\H2=σ'::H'):=by
  obtain ⟨rfl,hO⟩:=hO
  refine ⟨fun a' w hx hs next Q hn'=>(DU he i hO h (by omega) hv h1 hn ht hi).run a' w hx hs next Q (fun v H2 w' hp hw=>hn' v H2 w' ?_ hw)⟩
  obtain ⟨rfl,ρ',h2,rfl⟩:=hp
  rw [cQ] at h2;exact ⟨rfl,ρ',⟨cQ ..,h2⟩,rfl⟩
end
end Go.Eng
namespace Go.Sym
variable {α:Type}
theorem xY {F G:List α} {x:α} {i:Nat} (hi:i=F.length):(F ++ x::G)[i]?=some x:=by subst hi; simp
theorem aTg {F M G:List α} {x y:α} {i:Nat} (hi:i=F.length):(F ++ x::M ++ y::G)[i]?=some x:=by subst hi; simp
theorem xZ {F G:List α} {x y:α} {i:Nat} (hi:i=F.length+1):(F ++ x::y::G)[i]?=some y:=by
  subst hi
  rw [bY (by omega)]
  simp
theorem aTh {F M G:List α} {x y:α} {j:Nat} (hj:j=F.length+M.length+1):(F ++ x::M ++ y::G)[j]?=some y:=by
  subst hj
  rw [bY (by simp; omega)]
  have:F.length+M.length+1-(F ++ x::M).length=0:=by simp; omega
  rw [this]; rfl
theorem aTi {F G:List α} {x y:α} {i:Nat} (hi:i=F.length):((F ++ x::y::G).set i y).set (i+1) x=F ++ y::x::G:=by subst hi; exact aTe F G x y
theorem aGm {F G:List α} {x y:α} {i j:Nat} (hi:i=F.length) (hj:j=F.length+1):((F ++ x::y::G).set j x).set i y=F ++ y::x::G:=by subst hi hj; exact aPf F G x y
theorem aTj {F M G:List α} {x y:α} {i j:Nat} (hi:i=F.length) (hj:j=F.length+M.length+1):((F ++ x::M ++ y::G).set i y).set j x=F ++ y::M ++ x::G:=by subst hi hj; exact aGl F M G x y
def swK (P A M B Q:List α) (k:Nat):List α:=P ++ (B.take k ++ A.drop k) ++ M ++ (A.take k ++ B.drop k) ++ Q
theorem aJ0 (P A M B Q:List α):swK P A M B Q 0=P ++ A ++ M ++ B ++ Q:=by simp [swK]
theorem aNn {P A M B Q:List α} {n:Nat} (hA:A.length=n) (hB:B.length=n):swK P A M B Q n=P ++ B ++ M ++ A ++ Q:=by
  unfold swK
  rw [bV (by omega),bV (by omega),cE (by omega),cE (by omega)]
  simp
theorem aJ1 {P A M B Q:List α} {n k:Nat} (hA:A.length=n) (hB:B.length=n) (hk:k<n) :
    ∃ x y F M2 G,swK P A M B Q k=F ++ x::M2 ++ y::G/\swK P A M B Q (k+1)=F ++ y::M2 ++ x::G/\F.length=P.length+k/\F.length+M2.length+1=P.length+n+M.length+k:=by
  have ha:A.drop k=A[k]::A.drop (k+1):=bU (by omega)
  have hb:B.drop k=B[k]::B.drop (k+1):=bU (by omega)
  have ta:A.take (k+1)=A.take k ++ [A[k]]:=aV (by omega)
  have tb:B.take (k+1)=B.take k ++ [B[k]]:=aV (by omega)
  refine ⟨A[k],B[k],P ++ B.take k,A.drop (k+1) ++ M ++ A.take k,B.drop (k+1) ++ Q,?_,?_,?_,?_⟩
  · unfold swK; rw [ha,hb]; simp only [aR,aG,aH]
  · unfold swK; rw [ta,tb]; simp only [aR,aG,aH]
  · rw [aB,aL]; omega
  · simp only [aB,aL,cB]; omega
structure tA (m:Nat) (F D:List α) (i j:Nat):Prop where
  ex:∃ P A B Q,D=P ++ A ++ B ++ Q/\F=P ++ B ++ A ++ Q/\P.length+i=m/\A.length=i/\B.length=j
  pi:0<i
  pj:0<j
theorem tA.le {m:Nat} {F D:List α} {i j:Nat} (h:tA m F D i j):i<=m/\m+j<=D.length:=by
  obtain ⟨⟨P,A,B,Q,rfl,rfl,h1,h2,h3⟩,hi,hj⟩:=h
  simp only [aB];omega
theorem tA.start {P A B Q:List α} {a m b:Nat} (ha:P.length=a) (hm:a+A.length=m) (hb:m+B.length=b) (h1:0<A.length) (h2:0<B.length):tA m (P ++ B ++ A ++ Q) (P ++ A ++ B ++ Q) (m-a) (b-m):=
  ⟨⟨P,A,B,Q,rfl,rfl,by omega,by omega,by omega⟩,by omega,by omega⟩
theorem tA.left {m:Nat} {F D:List α} {i j:Nat} (h:tA m F D i j) (hij:j<i):∃ P A M B Q,D=P ++ A ++ M ++ B ++ Q/\P.length=m-i/\A.length=j/\B.length=j/\P.length+j+M.length=m/\tA m F (P ++ B ++ M ++ A ++ Q) (i-j) j:=by
  obtain ⟨⟨P,A,B,Q,rfl,rfl,h1,h2,h3⟩,hi,hj⟩:=h
  have hA:A.take j ++ A.drop j=A:=bH j A
  have l1:(A.take j).length=j:=by rw [aL]; omega
  have l2:(A.drop j).length=i-j:=by rw [cB]; omega
  refine ⟨P,A.take j,A.drop j,B,Q,?_,by omega,l1,h3,by omega,⟨P ++ B,A.drop j,A.take j,Q,by simp,?_,by rw [aB]; omega,l2,l1⟩,by omega,hj⟩
  · conv=>lhs; rw [← hA]
    simp
  · conv=>lhs; rw [← hA]
    simp
theorem tA.right {m:Nat} {F D:List α} {i j:Nat} (h:tA m F D i j) (hij:i<j):∃ P A M B Q,D=P ++ A ++ M ++ B ++ Q/\P.length=m-i/\A.length=i/\B.length=i/\P.length+i+M.length=m+j-i/\tA m F (P ++ B ++ M ++ A ++ Q) i (j-i):=by
  obtain ⟨⟨P,A,B,Q,rfl,rfl,h1,h2,h3⟩,hi,hj⟩:=h
  have hB:B.take (j-i) ++ B.drop (j-i)=B:=bH _ B
  have l1:(B.take (j-i)).length=j-i:=by rw [aL]; omega
  have l2:(B.drop (j-i)).length=i:=by rw [cB]; omega
  refine ⟨P,A,B.take (j-i),B.drop (j-i),Q,?_,by omega,h2,l2,by omega,⟨P,B.drop (j-i),B.take (j-i),A ++ Q,by simp,?_,by omega,l2,l1⟩,hi,by omega⟩
  · conv=>lhs; rw [← hB]
    simp
  · conv=>lhs; rw [← hB]
    simp
theorem tA.last {m:Nat} {F D:List α} {i:Nat} (h:tA m F D i i):∃ P A B Q,D=P ++ A ++ [] ++ B ++ Q/\P.length=m-i/\A.length=i/\B.length=i/\P.length+i=m/\F=P ++ B ++ [] ++ A ++ Q:=by
  obtain ⟨⟨P,A,B,Q,rfl,rfl,h1,h2,h3⟩,hi,hj⟩:=h
  exact ⟨P,A,B,Q,by simp,by omega,h2,h3,h1,by simp⟩
theorem aPg {P U V Q:List α} {a i:Nat} {x:α} (ha:P.length=a) (hi:a<=i) (h:U[i-a]?=some x):(P ++ U ++ V ++ Q)[i]?=some x:=by
  have:=(aC.1 h).1
  rw [aR,aR,bY (by omega),ha,cM (by omega)]
  exact h
theorem aPh {P U V Q:List α} {m i:Nat} {x:α} (ha:P.length+U.length=m) (hi:m<=i) (h:V[i-m]?=some x):(P ++ U ++ V ++ Q)[i]?=some x:=by
  have:=(aC.1 h).1
  rw [aR,bY (by rw [aB]; omega),aB,ha,cM (by omega)]
  exact h
def shF (P:List α) (u:α) (V Q:List α) (k:Nat):List α:=P ++ V.take k ++ u::V.drop k ++ Q
theorem wB {P V Q:List α} {u:α} {k:Nat} (hk:k<V.length):∃ y F G,shF P u V Q k=F ++ u::y::G/\shF P u V Q (k+1)=F ++ y::u::G/\F.length=P.length+k:=by
  have hd:V.drop k=V[k]::V.drop (k+1):=bU hk
  have ht:V.take (k+1)=V.take k ++ [V[k]]:=aV hk
  refine ⟨V[k],P ++ V.take k,V.drop (k+1) ++ Q,?_,?_,?_⟩
  · unfold shF; rw [hd]; simp only [aR,aG,aH]
  · unfold shF; rw [ht]; simp only [aR,aG,aH]
  · rw [aB,aL]; omega
theorem wC {P V Q:List α} {u:α} (k:Nat):∃ W,shF P u V Q k=P ++ W ++ Q/\W.Perm (u::V)/\W=V.take k ++ u::V.drop k:=by
  refine ⟨V.take k ++ u::V.drop k,?_,?_,rfl⟩
  · unfold shF; simp only [aR,aG]
  · have:=eT (a:=u) (l₁:=V.take k) (l₂:=V.drop k)
    rwa [bH] at this
section
variable {cmp:α->α->Int} (hc:Cmp cmp)
include hc
theorem aGn {V:List α} {u:α} {k:Nat} (hk:k<=V.length) (hV:Srt cmp V) (h1:∀ y,0<k->V[k-1]?=some y->cmp y u<=0) (h2:∀ y,V[k]?=some y->cmp u y<=0):Srt cmp (V.take k ++ u::V.drop k):=by
  refine wA hc (by rw [bH]; exact hV) (fun x hx=>?_) (fun y hy=>?_)
  · by_cases h0:0<k
    · refine h1 x h0 ?_
      rw [eD,aL,dU hk,cJ (by omega)] at hx
      exact hx
    · have:k=0:=by omega
      subst this; simp at hx
  · rw [List.head?_eq_getElem?,dX] at hy
    exact h2 y (by simpa using hy)
end
end Go.Sym
namespace Go.Eng
section
variable {C:Cx} {D:List Deferred} {R H:List PH} {L:Env} {K:List It}
section
variable {dst:Option Tmp} {ty:TypeId} {pos:String} {aft:Array Edge} {g:Option (Nat × Bool)}
theorem aTk {n:Int} (h:0<=n/\n<=18446744073709551615):IntKind.u64.wrap n=n:=by
  have e:IntKind.u64.wrap n=n % 18446744073709551616:=by
    show (let m:=n % (2 ^ IntKind.u64.bits:Int); if IntKind.u64.signed && m≥(2 ^ (IntKind.u64.bits-1):Int) then m-(2 ^ IntKind.u64.bits:Int) else m)=_
    rfl
  rw [e]; omega
theorem E3 {s d:TypeId} {x:Operand} {n:Nat} (h:fM L x=some (.int .i64 (n:Int))) (hs:(C.P.underlying s).isSome=true) (hd:aAi C.P d=some .u64) (hn:n<=18446744073709551615) :
    fO C R H L ⟨dst,.convert s d x,ty,pos,aft,g⟩ (.int .u64 (n:Int)):=FU h hs hd (aTk ⟨by omega,by omega⟩)
theorem q_shr {x y:Operand} {xT yT:TypeId} {k k2:IntKind} {m:Int} {s:Nat} (h1:fM L x=some (.int k m)) (h2:fM L y=some (.int k2 (s:Int))) (hs:s<=k.bits):fO C R H L ⟨dst,.binOp .shr xT x y yT,ty,pos,aft,g⟩ (.int k (m.fdiv (2 ^ s))):=
  ⟨by intro c; simp,fun a w hx _=>by
    have e1:=hx x (by simp [Op.operands]) _ h1
    have e2:=hx y (by simp [Op.operands]) _ h2
    have h0:¬ ((s:Int)<0):=by omega
    have hm:min s k.bits=s:=by omega
    simp [execOp,e1,e2,eqGuard,binOp,Op.shift,h0,hm]⟩
theorem DE {x y:Operand} {xT yT:TypeId} {k:IntKind} {n:Nat} (h1:fM L x=some (.int k (n:Int))) (h2:fM L y=some (.int k 1)) (hs:1<=k.bits):fO C R H L ⟨dst,.binOp .shr xT x y yT,ty,pos,aft,g⟩ (.int k ((n / 2:Nat):Int)):=by
  have:=q_shr (C:=C) (R:=R) (H:=H) (dst:=dst) (ty:=ty) (pos:=pos) (aft:=aft) (g:=g) (xT:=xT) (yT:=yT) (s:=1) h1 h2 hs
  have e:(n:Int).fdiv (2 ^ 1)=((n / 2:Nat):Int):=by
    rw [Int.fdiv_eq_ediv_of_nonneg _ (by decide)]; omega
  rwa [e] at this
end
end
variable {C:Cx} {D:List Deferred} {R H:List PH} {L:Env} {K:List It}
section
variable {dst:Option Tmp} {ty:TypeId} {pos:String} {aft:Array Edge} {g:Option (Nat × Bool)}
end
end Go.Eng
