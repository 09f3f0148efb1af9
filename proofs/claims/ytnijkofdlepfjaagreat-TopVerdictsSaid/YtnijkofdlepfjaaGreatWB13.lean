/- Texts of this proof, one after the other; no conditions. -/
import Derived.Test.YtnijkofdlepfjaaGreatWA
import Derived.Test.YtnijkofdlepfjaaGreatRows
import Derived.Test.YtnijkofdlepfjaaGreatWB12
import Derived.Test.YtnijkofdlepfjaaGreatWB3
import Derived.Test.YtnijkofdlepfjaaGreatWB5
import Derived.Test.YtnijkofdlepfjaaGreatWB2
import Derived.Test.YtnijkofdlepfjaaGreatWB1
import Derived.Test.YtnijkofdlepfjaaGreatWB9
import Derived.Test.YtnijkofdlepfjaaGreatWB6
import Derived.Test.YtnijkofdlepfjaaGreatWB4
import Derived.Test.YtnijkofdlepfjaaGreatWB10
set_option linter.all false
namespace Go.Proofs.YtnijkofdlepfjaaGreat
open Go.Eng Go.Step
set_option maxRecDepth 100000
set_option maxHeartbeats 64000000
section
variable {ρ τ:PH} {pq pc:Option Addr} {kq kc:Nat} {qs:List Int} {cs:List Ct} {χ:PH} {Γ:List PH} {pt:Option Addr} {kt:Nat} {L:List TkU}
theorem aC0 (hq:gC ρ (.slice pq qs.length kq) qs) (hc:jW τ (.slice pc cs.length kc) cs) (hcap:cs.length<=kc) (lq:qs.length<=9223372036854775807) (lc:cs.length<=9223372036854775807) (hp:gD qs cs=0) (q:Rq) (hbad:¬ nF qs.length q):Ans Tryz.prog (fv 29) [.agg #[.slice pq qs.length kq,.slice pc cs.length kc],.agg #[int q.src,int q.dst,int q.size,int q.rdy,int q.dln,int q.pri,.bool q.cus]] [ρ,τ] (fun r=>∃ e:Int,e≠0/\r=int e):=by
 have hck:=iD ρ τ pq pc kq kc qs cs hq hc hcap lq lc
 rw [hp] at hck;unfold nF at hbad
 refine A8 Tryz.func29 Tryz.ntmps29 fun N β=>?_
 refine Aa ?_
 refine BF fun b2 p=>?_
 refine BF fun b3 bx25=>?_
 have p0:=rdC p 0
 have r0:=rdC bx25 0
 have r1:=rdC bx25 1
 have r2:=rdC bx25 2
 have r3:=rdC bx25 3
 have r4:=rdC bx25 4
 have r5:=rdC bx25 5
 refine Aeh ?_;refine Aaa ?_;refine Aap ?_;refine Aar ?_;refine A5 hck ?_
 repeat' (first
  | (refine AB ?_)
  | (refine AD ?_)
  | (refine AF ?_)
  | (refine AG ?_)
  | (refine AY ?_)
  | (refine AT ?_)
  | (refine BN ?_)
  | (refine C1 ?_)
  | (refine AC ?_)
  | (refine AA ?_)
  | (refine AE ?_)
  | (refine AQ rfl ?_)
  | (refine AJ rfl ?_)
  | (refine AL rfl rfl rfl ?_)
  | (focus ((refine DR rfl rfl (aP3 _ _) rfl rfl (fun h=>?_) (fun h=>?_))))
  | (focus ((refine DR rfl rfl (aAm _ _) rfl rfl (fun h=>?_) (fun h=>?_))))
  | (focus ((refine DR rfl rfl (aKj _ _) rfl rfl (fun h=>?_) (fun h=>?_))))
  | fail)
 all_goals (first|exact A2 (qR rfl rfl) fQ fK ⟨rfl,_,(by decide),rfl⟩|(exfalso; apply hbad; omega))
theorem yN (e:Int):Ans Tryz.prog (fv 28) [int e] [] (fun r=>r=.tuple #[.agg #[.slice none 0 0,.slice none 0 0,.slice none 0 0,.slice none 0 0],.agg #[.bool false,int 0,.slice none 0 0,.slice none 0 0,.slice none 0 0],int e]):=by
 refine A8 Tryz.func28 Tryz.ntmps28 fun N β=>?_
 refine Aa ?_
 refine CT fun b2=>?_
 refine CT fun b3=>?_
 refine Aaa ?_;refine Aa ?_;refine CN (CW (out:=[.slice none 0 0,.slice none 0 0,.slice none 0 0,.slice none 0 0]) rfl rfl rfl rfl rfl) rfl rfl rfl ?_;refine CB ?_;refine AB ?_;refine AU ?_;refine Add ?_;exact A2 (wT (b1:=b2) (b2:=b3) (T:=32) (U:=46) (v1:=[.slice none 0 0,.slice none 0 0,.slice none 0 0,.slice none 0 0]) (v2:=[.bool false,int 0,.slice none 0 0,.slice none 0 0,.slice none 0 0]) rfl rfl rfl rfl rfl rfl rfl rfl (fR gN) (fR gN)) fQ fK ⟨rfl,rfl⟩
def AccQ (pq pc pt:Option Addr) (kq kc kt:Nat) (qs:List Int) (cs:List Ct) (χ:PH) (Γ:List PH) (L:List TkU) (q:Rq) (r:Value) (κ:PH):Prop:=
 (∃ e:Int,e≠0/\r=.tuple #[.agg #[.slice none 0 0,.slice none 0 0,.slice none 0 0,.slice none 0 0],.agg #[.bool false,int 0,.slice none 0 0,.slice none 0 0,.slice none 0 0],int e]) \/
 (∃ (p9:Option Addr) (k9:Nat) (L2:List Lb),nF qs.length q/\aVu qs cs (L.map (·.t)) q L2/\L2.length<=6600/\SlE jI 4 κ (.slice p9 L2.length k9) L2/\r=.tuple #[.agg #[.slice pq qs.length kq,.slice pc cs.length kc,.slice none 0 0,.slice pt L.length kt],.agg #[.bool false,int 0,.slice none 0 0,.slice none 0 0,.slice p9 L2.length k9],int 0]) \/
 (∃ (L':List TkU) (pt':Option Addr) (kt':Nat) (pm pd:Option Addr) (nm nd km kd:Nat) (l:List Hp) (pl:Option Addr) (cl:Nat) (p:Hp),nF qs.length q/\r=.tuple #[.agg #[.slice pq qs.length kq,.slice pc cs.length kc,.slice none 0 0,.slice pt' L'.length kt'],.agg #[.bool true,int ((L.length:Int)+1),.slice pm nm km,.slice pd nd kd,.slice none 0 0],int 0]/\L'.length=L.length+1/\(∀ δ,PH.sub χ δ->(∀ γ∈Γ,PH.sub γ δ)->PH.sub κ δ->qL δ [δ] (.slice pt' L'.length kt') L')/\LgW qs cs (L'.map (·.t))/\oJ qs cs L'/\L'[L.length]?=some (nL L q pl cl l)/\l.length<=1000/\l.getLast?=some p/\aQh qs cs (L.map (·.t)) q p (nm+nd)/\nm+nd<=100)
theorem aOd {bs:List Bk} {hs:List Hd} {q:Rq} {r:Value} {κh:PH} (hK:TOK qs cs bs hs q) (h:(∃ l u L a p,kY qs cs bs hs q l/\iQ (fW qs cs bs hs q) L/\jG (fW qs cs bs hs q) L=some a/\l.getLast?=some p/\p.a=a/\r=.tuple #[u,int 0]/\fS 62 4 u l.length (l.flatMap gE) κh)\/∃ L,iQ (fW qs cs bs hs q) L/\jG (fW qs cs bs hs q) L=none/\r=.tuple #[.slice none 0 0,int 18]) :
  ∃ (l0:List Hp) (pu:Option Addr) (ku:Nat) (e:Int) (L0:List Lb),r=.tuple #[.slice pu l0.length ku,int e]/\l0.length<=1000/\SlE gE 4 κh (.slice pu l0.length ku) l0/\iQ (fW qs cs bs hs q) L0/\((e=0/\kY qs cs bs hs q l0/\l0.length<=ku/\∃ p,l0.getLast?=some p/\jG (fW qs cs bs hs q) L0=some p.a)\/(e=18/\l0=[]/\jG (fW qs cs bs hs q) L0=none)):=by
 rcases h with ⟨l,u,L0,a,p,hF,hL0,ha,hl,rfl,rfl,hO⟩|⟨L0,hL0,ha,rfl⟩
 ·obtain ⟨pu,ku,rfl,hk⟩:=hO.formC
  exact ⟨l,pu,ku,0,L0,rfl,(hF.rou hK).len,hO.at,hL0,.inl ⟨rfl,hF,hk,p,hl,ha⟩⟩
 ·exact ⟨[],none,0,18,L0,rfl,cA _,rA κh none 0,hL0,.inr ⟨rfl,rfl,ha⟩⟩
theorem aQj {χ κ2 κh:PH} {Γ:List PH} {v v2:Value} {L:List TkU} {x:TkU} (hL:qL χ Γ v L) (h2:SlE mD 11 κ2 v2 (L ++ [x])) (hx:SlE gE 4 κh (.slice x.p x.t.hops.length x.c) x.t.hops):qL κ2 (χ::κh::Γ) v2 (L ++ [x]):=⟨h2,fun y hy=>by
 rcases aM.1 hy with hy|hy
 ·obtain ⟨γ,h1,h2⟩:=hL.hp y hy
  exact ⟨γ,by simp [h1],h2⟩
 ·rw [bI] at hy; subst hy
  exact ⟨κh,by simp,hx⟩⟩
theorem aT5 {bs:List Bk} {hs:List Hd} {q:Rq} {L:List TkU} {l:List Hp} {pl:Option Addr} {cl:Nat} (hok:LgW qs cs (L.map (·.t))) (hl3:L.length<=3) (hq2:nF qs.length q) (hK:TOK qs cs bs hs q) (p1:bs.Perm (jJ (L.map (·.t)))) (p2:hs.Perm (jB cs (L.map (·.t)))) (hF:kY qs cs bs hs q l) (nb:(jJ ((L ++ [nL L q pl cl l]).map (·.t))).length<=512) (nh:(jB cs ((L ++ [nL L q pl cl l]).map (·.t))).length<=512):LgW qs cs ((L ++ [nL L q pl cl l]).map (·.t)):=by
 have hTl:(L.map (·.t)).length=L.length:=aU _
 have hTx:(L ++ [nL L q pl cl l]).map (·.t)=L.map (·.t) ++ [(⟨((L.map (·.t)).length:Int)+1,q,l⟩:Tk)]:=by
  rw [cX,hTl]; rfl
 refine ⟨?_,nb,nh⟩;rw [hTx]
 exact hok.v.new (W:=[]) (V:=[]) (by rw [hTl]; exact hl3) hq2 hK (by rw [rX]; exact p1) p2 hF (by simp) (fun _ _ h=>absurd h bD)
theorem aQk {q:Rq} {L:List TkU} {l:List Hp} {pl:Option Addr} {cl:Nat} (hG:oJ qs cs L) (hq2:nF qs.length q) (hr:rT cs q l) (hcl:l.length<=cl):oJ qs cs (L ++ [nL L q pl cl l]):=fun y hy=>by
 rcases aM.1 hy with hy|hy
 ·exact hG y hy
 ·rw [bI] at hy; subst hy
  exact ⟨⟨hq2,.inl hr⟩,⟨.inl ⟨hr.ne,rfl⟩,rfl⟩,hcl⟩
theorem aT6 {L:List TkU} {l:List Hp} (hl3:L.length<=3):(oQ (iH L) l).length<=3:=by
 have h1:=aAr (iH L) l
 have h2:(iH L).length<=L.length:=cD _ _
 omega
theorem aC1 (hq:gC ρ (.slice pq qs.length kq) qs) (hc:jW τ (.slice pc cs.length kc) cs) (hcap:cs.length<=kc) (lq:qs.length<=9223372036854775807) (lc:cs.length<=9223372036854775807) (hp:gD qs cs=0) (lq6:qs.length<=6) (lc11:cs.length<=11) (hL:qL χ Γ (.slice pt L.length kt) L) (hok:LgW qs cs (L.map (·.t))) (hG:oJ qs cs L) (hst:∀ x∈L,StU x) (hl3:L.length<=3) (q:Rq) :
  jM Tryz.prog (fv 9) [.agg #[.slice pq qs.length kq,.slice pc cs.length kc,.slice none 0 0,.slice pt L.length kt],.agg #[int q.src,int q.dst,int q.size,int q.rdy,int q.dln,int q.pri,.bool q.cus],int 0] (ρ::τ::χ::Γ) (AccQ pq pc pt kq kc kt qs cs χ Γ L q):=by
 have hnum:∀ (i:Nat) (x:TkU),L[i]?=some x->x.t.k=(i:Int)+1:=fun i x hx=>hok.v.num i x.t (by rw [aY,hx]; rfl)
 have htk:aCn qs cs L:=wH rfl hok.v.tk hst
 have hck:=nR hq hc hcap lq lc hp hL hok hst
 have hta:=jY hq hc hcap lq lc hp hL (by omega) htk
 have hcw:=aE9 (pq:=pq) (pc:=pc) (kq:=kq) (kc:=kc) (qs:=qs) (cs:=cs) hL.tk (by omega) hnum
 have hop:=yM (pq:=pq) (pc:=pc) (kq:=kq) (kc:=kc) (qs:=qs) (cs:=cs) hL.tk (by omega)
 refine A8 Tryz.func9 Tryz.ntmps9 fun N β=>?_
 refine Aa ?_
 refine BF fun b3 cg=>?_
 refine BF fun b4 cr=>?_
 refine CT fun b6=>?_
 refine CT fun b7=>?_
 have cgp:=rdQ (xs:=[_,_]) cg
 have cr3:=rdC cr 3
 have cr5:=rdC cr 5
 refine Aaa ?_;refine Aam ?_;refine AC ?_;refine Aar ?_
 refine BT hck rfl rfl (fun z hz=>.inl (by simp only [aE] at hz ⊢; rcases hz with h|h|h|h <;> simp [h])) rfl rfl ?_
 rintro _ rfl
 by_cases hrq:nF qs.length q
 rotate_left
 ·refine BN ?_
  refine Aai ?_;refine AC ?_;refine Acz ?_;refine AI ?_;refine BT (aC0 hq hc hcap lq lc hp q hrq) rfl rfl rdZ rfl rfl ?_;rintro _ ⟨e,he,rfl⟩;refine Abq ?_;refine Adu ?_;refine Aaw ?_;refine A5 (yN e) ?_;refine B9 ?_;refine Ab ?_;refine AS ?_;refine AU ?_;refine Add ?_;exact A2 (wT (b1:=b6) (b2:=b7) (T:=32) (U:=46) (v1:=[.slice none 0 0,.slice none 0 0,.slice none 0 0,.slice none 0 0]) (v2:=[.bool false,int 0,.slice none 0 0,.slice none 0 0,.slice none 0 0]) rfl rfl rfl rfl rfl rfl rfl rfl (fR gN) (fR gN)) fQ fK ⟨emp,.inl ⟨e,he,rfl⟩,rfl⟩
 have hrdy:=hrq.2.2.1.2.2.1
 refine Abn ?_;refine AC ?_;refine Acz ?_;refine AI ?_;refine A5 (mO hq hc hcap lq lc hp hrq) ?_;refine Ac7 ?_;refine Aag ?_;refine BD ?_;refine Aal ?_;refine Aac ?_;refine B7 ?_;refine Ac4 ?_;refine Aar ?_;refine A5 hcw ?_;refine Aai ?_;refine Aar ?_
 refine BG hta rfl rfl fU (fun z hz=>.inl (by simp only [aE] at hz ⊢; rcases hz with h|h|h <;> simp [h])) rfl rfl ?_
 rintro _ _ ⟨bs,hs,pb,ph,kb,kh,σ,υ,rfl,p1,s1,p2,s2,o1,o2,rfl⟩
 have hct:=hok.tab p1 s1 p2 s2
 have hTb:oF ρ τ σ υ pq pc pb ph kq kc kb kh qs cs bs hs:=⟨hq,hc,hcap,lq,lc,o1.at,by have:=p1.length_eq; have:=hok.nb; omega,o2.at,by have:=p2.length_eq; have:=hok.nh; omega⟩
 have hK:TOK qs cs bs hs q:=⟨hct,hrq,lq6,lc11⟩
 simp only [aG,aH];refine AW (ρ:=σ) fL ?_;refine AW (ρ:=υ) fL ?_
 refine A3 fun b=>?_
 refine Aa6 ?_;refine Abs ?_
 revert b; intro b11
 refine AW (ρ:=sng b11 _) fL ?_
 have ct:=rdB b11 41 [.slice pq qs.length kq,.slice pc cs.length kc,.slice pb bs.length kb,.slice ph hs.length kh]
 skip
 refine B4 (qZ hTb hK) rfl rfl rdZ rfl rfl ?_;rintro rv κh hE
 obtain ⟨l0,pu,ku,e,L0,rfl,hl0,hS0,hL0,hcase⟩:=aOd hK hE
 clear hE
 have tab0:pR cs (L.map (·.t)) bs hs:=⟨p1,s1,p2,s2⟩
 have h0:(∃ z,l0.getLast?=some z/\jG (fW qs cs bs hs q) L0=some z.a)\/jG (fW qs cs bs hs q) L0=none:=by
  rcases hcase with ⟨_,_,_,p,h1,h2⟩|⟨_,_,h⟩
  ·exact .inl ⟨p,h1,h2⟩
  ·exact .inr h
 have hexch:=fun {l:List Hp} {p:Hp} {fs:List Bk} {hs0:List Hd} {n:Nat} (hlt:∀ z,l0.getLast?=some z->p.a<z.a) (hq2:q.pri=2) (hK0:TOK qs cs fs hs0 q) (pf:fs.Perm (kF (lM (L.map (·.t))) (L.map (·.t)))) (ph0:hs0.Perm (jB cs (L.map (·.t)))) (hF:kY qs cs fs hs0 q l) (hn:n=(aKc (L.map (·.t)) l).length)=>aQi hok tab0 hK hL0 h0 hlt hq2 hK0 pf ph0 hF hn
 have hmkb:=pQ hTb hK
 have hrefuse:=fun {L2:List Lb} (h:jG (fW qs cs bs hs q) L0=none) (hL2:iQ (fW qs cs bs hs q) L2)=>aWg hok tab0 hK hL0 h hL2
 have hsame:=fun {L2:List Lb} (hL2:iQ (fW qs cs bs hs q) L2)=>sA hK hL2 hL0
 have hplain:=fun {p:Hp} (h:jG (fW qs cs bs hs q) L0=some p.a)=>aOc hok tab0 hK hL0 h 0
 refine Ab7 ?_;refine AC ?_
 refine DG (X:=Unit) [3,4,6,7,9,11,12,13] (fun _=>True) (fun _=>[]) (fun _=>[κh,sng b6 (.cells #[.slice none 0 0,.slice none 0 0,.slice none 0 0,.slice none 0 0] 32 (0,0)),sng b7 (.cells #[.bool false,int 0,.slice none 0 0,.slice none 0 0,.slice none 0 0] 46 (0,0))]) fT ?_ ?_
 ·by_cases hpri:q.pri=2
  rotate_left
  ·refine AC ?_
   refine AA ?_;refine Aac ?_;refine Acy ?_;exact CK () trivial fP fK
  have htr:=aKt (ρ:=ρ) (τ:=τ) (q:=q) hq hc hcap lq lc hp lq6 lc11 hL hok hG hl3 hrq hS0 hl0
  refine Aan ?_;refine Aej ?_;refine Abs ?_;refine Aal ?_
  refine BG htr rfl rfl gA.nil (fun z hz=>by simp only [aE] at hz; rcases hz with h|h|h|h|h; exact .inl (by simp [h]); exact .inl (by simp [h]); exact .inl (by simp [h]); exact .inr (by simp [h]); exact .inl (by simp [h])) rfl rfl ?_
  rintro _ _ (⟨v,rfl,rfl⟩|⟨b0,L',pt',kt',pv,kv,e8,e9,ν,χ',μ,ω,π',π,l,pl,cl,fs,hs0,p,rfl,hl',hW',hG',hnew,hK0,hF0,pf,ph0,hla,hlt,hM,rfl⟩)
  ·simp only [aH]
   refine Ab7 ?_;refine Aab ?_;refine Aai ?_;exact CK () trivial fP fK
  ·simp only [aG,aH]
   obtain ⟨htk',hhp',hvi',hvc',m8,m9,ho8,ho9,hmn⟩:=hM
   obtain ⟨p8,k8,rfl⟩:=ho8.form
   obtain ⟨p9,k9,rfl⟩:=ho9.form
   have hLu:qL χ' (π'::π::Γ) (.slice pt' L'.length kt') L':=⟨htk'.at,hhp'⟩
   have hacc:=hexch (n:=m8.length+m9.length) hlt hpri hK0 pf ph0 hF0 (by rw [← aWh]; exact hmn)
   have hfew:=aT6 (l:=l) hl3
   refine AW (ρ:=sng b0 _) fL ?_
   have x0:RdP (sng b0 (.cells #[.slice pq qs.length kq,.slice pc cs.length kc,.slice none 0 0,.slice pt' L'.length kt',int 0,.slice pv ([]:List Int).length kv,.bool true,int ((L.length:Int)+1),.slice p8 m8.length k8,.slice p9 m9.length k9,.slice none 0 0] 104 (0,0))) b0 0 [.slice pq qs.length kq,.slice pc cs.length kc,.slice none 0 0,.slice pt' L'.length kt']:=iB (k:=0) (xs:=[.slice pq qs.length kq,.slice pc cs.length kc,.slice none 0 0,.slice pt' L'.length kt',int 0,.slice pv ([]:List Int).length kv,.bool true,int ((L.length:Int)+1),.slice p8 m8.length k8,.slice p9 m9.length k9,.slice none 0 0]) rfl
   have x6:RdP (sng b0 (.cells #[.slice pq qs.length kq,.slice pc cs.length kc,.slice none 0 0,.slice pt' L'.length kt',int 0,.slice pv ([]:List Int).length kv,.bool true,int ((L.length:Int)+1),.slice p8 m8.length k8,.slice p9 m9.length k9,.slice none 0 0] 104 (0,0))) b0 6 [.bool true,int ((L.length:Int)+1),.slice p8 m8.length k8,.slice p9 m9.length k9,.slice none 0 0]:=iB (k:=6) (xs:=[.slice pq qs.length kq,.slice pc cs.length kc,.slice none 0 0,.slice pt' L'.length kt',int 0,.slice pv ([]:List Int).length kv,.bool true,int ((L.length:Int)+1),.slice p8 m8.length k8,.slice p9 m9.length k9,.slice none 0 0]) rfl
   refine DF (ρ:=χ') (σ:=π') fL fL (fun δ1 d1 d2=>?_)
   refine DF (ρ:=δ1) (σ:=π) fL fL (fun δ2 d3 d4=>?_)
   refine Ab7 ?_;refine Aab ?_;refine Aah ?_;refine AC ?_
   refine A9 (.q 0 (.q 1 (.q 2 (.q 3 (.q 4 (.p 5 (.p 6 (.p 7 (.p 8 (.l 9 .b (.l 10 .b (.q 11 .nil)))))))))))) [] rfl (by kernel_rfl) Sel.nil ?_
   refine Adn ?_;refine AR ?_;refine A7 ?_;refine CG ?_;refine EM ?_;refine DW ?_;refine EV ?_
   focus ((refine BZ ?_; refine' D7 rfl _ rfl rfl _ _; rotate_left; (focus (apply DB; exact rfl; exact rfl; exact fL; exact iF; exact rfl; exact rfl)); (focus (rintro _ _ ⟨_,rfl⟩ w hw; exact hw.sel Sel.nil)); rintro _ _ ⟨rfl,rfl⟩))
   focus ((refine BZ ?_; refine' D7 rfl _ rfl rfl _ _; rotate_left; (focus (apply DB; exact rfl; exact rfl; exact fL; exact iF; exact rfl; exact rfl)); (focus (rintro _ _ ⟨_,rfl⟩ w hw; exact hw.sel Sel.nil)); rintro _ _ ⟨rfl,rfl⟩))
   refine Ac ?_
   skip
   exact A2 (wT (b1:=b6) (b2:=b7) (T:=32) (U:=46) (v1:=[.slice pq qs.length kq,.slice pc cs.length kc,.slice none 0 0,.slice pt' L'.length kt']) (v2:=[.bool true,int ((L.length:Int)+1),.slice p8 m8.length k8,.slice p9 m9.length k9,.slice none 0 0]) rfl rfl rfl rfl rfl rfl rfl rfl (fR gN) (fR gN)) fQ fK ⟨δ2,.inr (.inr ⟨L',pt',kt',p8,p9,m8.length,m9.length,k8,k9,l,pl,cl,p,hrq,rfl,hl',fun δ h1 h2 h3=>hLu.mono (d1.trans (d3.trans h3)) (fun γ hγ=>by
    simp only [aE] at hγ
    rcases hγ with h|h|h
    ·rw [h]; exact d2.trans (d3.trans h3)
    ·rw [h]; exact d4.trans h3
    ·exact h2 γ h),hW',hG',hnew,(hF0.rou hK0).len,hla,hacc,by omega⟩),rfl⟩
 rintro ⟨⟩ -;clear hexch h0
 rcases hcase with ⟨rfl,hF,hku,pz,hlz,hla⟩|⟨rfl,rfl,hnone⟩
 rotate_left
 ·refine AC ?_
  refine Aab ?_;refine Adu ?_;refine Abs ?_;refine B4 hmkb rfl rfl rdZ rfl rfl ?_;rintro _ κb (⟨L1,a1,hL1,h1,rfl⟩|⟨L1,L2,u2,hL1,h1,hL2,rfl,hOb⟩)
  ·exfalso
   have:=hsame hL1
   rw [h1,hnone] at this
   cases this
  ·obtain ⟨p9,k9,rfl⟩:=hOb.form
   have hrf:=hrefuse hnone hL2
   have hl2:=hL2.len
   refine Ab7 ?_;refine Ad4 ?_;refine CB ?_;refine AU ?_;refine Add ?_;exact A2 (wT (b1:=b6) (b2:=b7) (T:=32) (U:=46) (v1:=[.slice pq qs.length kq,.slice pc cs.length kc,.slice none 0 0,.slice pt L.length kt]) (v2:=[.bool false,int 0,.slice none 0 0,.slice none 0 0,.slice p9 L2.length k9]) rfl rfl rfl rfl rfl rfl rfl rfl (fR gN) (fR gN)) fQ fK ⟨κb,.inr (.inl ⟨p9,k9,L2,hrq,hrf,hl2,hOb.at,rfl⟩),rfl⟩
 have hacc:=hplain hla
 refine Aag ?_;refine Abn ?_;refine Aar ?_;refine BG hop rfl rfl fU rdZ rfl rfl ?_;rintro _ _ ⟨p8,k8,κ8,rfl,hO8,rfl⟩;simp only [aG,aH]
 refine A3 fun b=>?_
 refine Aa6 ?_;refine Aa ?_
 revert b; intro b18
 refine A5 (aKa (pq:=pq) (pc:=pc) (nq:=qs.length) (nc:=cs.length) (kq:=kq) (kc:=kc) b18 κ8 L hO8.at (by omega) hnum) ?_
 have hset:=aMa (pq:=pq) (pc:=pc) (nq:=qs.length) (nc:=cs.length) (kq:=kq) (kc:=kc) b18 κ8 L hO8 (by omega) (nL L q pu ku l0) (fun y hy=>by
  obtain ⟨i,hi,rfl⟩:=bB hy
  have:=hnum i _ (aA hi)
  show _≠(L.length:Int)+1
  omega)
 have hset:Eng.Spec Tryz.prog (fv 35) [.pointer (some ⟨b18,0,none⟩),.agg #[int ((L.length:Int)+1),int q.src,int q.dst,int q.size,int q.rdy,int q.dln,int q.pri,.bool q.cus,.slice pu l0.length ku,int 1,int 0]] [] _ _:=hset
 refine Abq ?_;refine AI ?_;refine AB ?_;refine CN (CW (out:=[int ((L.length:Int)+1),int q.src,int q.dst,int q.size,int q.rdy,int q.dln,int q.pri,.bool q.cus,.slice pu l0.length ku,int 1,int 0]) rfl rfl rfl rfl rfl) rfl rfl rfl ?_;refine BG hset rfl rfl fU rdZ rfl rfl ?_;rintro _ _ ⟨rfl,pt2,kt2,κ2,hO2,rfl⟩;simp only [aG,aH];clear hset
 have hL2:=aQj hL hO2.at hS0
 have hr0:=hF.rou hK
 have hG2:=aQk (pl:=pu) hG hrq hr0 hku
 have hlg:=fun nb nh=>aT5 (pl:=pu) (cl:=ku) hok hl3 hrq hK p1 p2 hF nb nh
 have hnx:(L ++ [nL L q pu ku l0])[L.length]?=some (nL L q pu ku l0):=by
  rw [bY (aK _),Nat.sub_self]; rfl
 have hnk:∀ x,(L ++ [nL L q pu ku l0])[L.length]?=some x->x=nL L q pu ku l0:=fun x hx=>by rw [hnx] at hx; injection hx with hx; exact hx.symm
 have hlx:(L ++ [nL L q pu ku l0]).length=L.length+1:=by rw [aB]; rfl
 generalize hX:L ++ [nL L q pu ku l0]=X at hO2 hL2 hG2 hlg hnx hlx ⊢
 have htkx:aCn qs cs X:=fun y hy=>⟨(hG2 y hy).1.1,(hG2 y hy).1.2.elim .inl (fun h=>.inr ⟨h,by rw [(hG2 y hy).2.1.2]; exact (hG2 y hy).1.1.2.2.1.2.2.1⟩)⟩
 have hta2:=jY hq hc hcap lq lc hp hL2 (by omega) htkx
 refine Aak ?_;refine Acz ?_
 refine BG hta2 rfl rfl fU (fun z hz=>by
  simp only [aE] at hz
  rcases hz with h|h|h|h|h
  ·exact .inl (by simp [h])
  ·exact .inr (by simp [h])
  ·exact .inl (by simp [h])
  ·exact .inr (by simp [h])
  ·exact .inl (by simp [h])) rfl rfl ?_
 rintro _ _ ⟨bs',hs',pb',ph',kb',kh',σ',υ',rfl,p1',s1',p2',s2',o1',o2',rfl⟩;simp only [aG,aH]
 have q1:=aHq htkx (by omega)
 have q2:=aDr (cs:=cs) (X.map (·.t))
 have l1':=p1'.length_eq
 have l2':=p2'.length_eq
 refine A5 (yJ (pq:=pq) (pc:=pc) (kq:=kq) (kc:=kc) (qs:=qs) (cs:=cs) bs'.length hs'.length kb' kh' pb' ph' (by omega) (by omega)) ?_
 by_cases hfu:512<bs'.length\/512<hs'.length
 ·rw [decide_eq_true hfu]
  refine Aah ?_;refine Aab ?_;refine A5 (yN 4) ?_;refine B9 ?_;refine Ab ?_;refine AS ?_;refine AU ?_;refine Add ?_
  exact A2 (wT (b1:=b6) (b2:=b7) (T:=32) (U:=46) (v1:=[.slice none 0 0,.slice none 0 0,.slice none 0 0,.slice none 0 0]) (v2:=[.bool false,int 0,.slice none 0 0,.slice none 0 0,.slice none 0 0]) rfl rfl rfl rfl rfl rfl rfl rfl (fR gN) (fR gN)) fQ fK ⟨emp,.inl ⟨4,by decide,rfl⟩,rfl⟩
 rw [decide_eq_false hfu]
 have hfin:=hlg (by omega) (by omega)
 refine Aai ?_;refine Acz ?_;refine AB ?_;refine CB ?_;refine AU ?_;refine Add ?_
 refine DF (ρ:=κ2) (σ:=κh) fL fL (fun δ1 d1 d2=>?_)
 exact A2 (wT (b1:=b6) (b2:=b7) (T:=32) (U:=46) (v1:=[.slice pq qs.length kq,.slice pc cs.length kc,.slice none 0 0,.slice pt2 X.length kt2]) (v2:=[.bool true,int ((L.length:Int)+1),.slice none 0 0,.slice none 0 0,.slice none 0 0]) rfl rfl rfl rfl rfl rfl rfl rfl (fR gN) (fR gN)) fQ fK ⟨δ1,.inr (.inr ⟨X,pt2,kt2,none,none,0,0,0,0,l0,pu,ku,pz,hrq,rfl,hlx,fun δ h1 h2 h3=>hL2.mono (d1.trans h3) (fun γ hγ=>by
  simp only [aE] at hγ
  rcases hγ with h|h|h
  ·rw [h]; exact h1
  ·rw [h]; exact d2.trans h3
  ·exact h2 γ h),hfin,hG2,hnx,hr0.len,hlz,hacc,by omega⟩),rfl⟩
end
end Go.Proofs.YtnijkofdlepfjaaGreat
namespace Go.Eng
section
variable {C : Cx} {R H : List PH} {L : Env} {x y : Operand} {t yT : TypeId} {dst : Option Tmp} {ty : TypeId} {pos : String} {aft : Array Edge} {g : Option (Nat × Bool)}
def sU : Int ⊕ Bool -> Value
  | .inl a => int a
  | .inr b => .bool b
def mixL : Int ⊕ Bool -> Bool
  | .inl _ => true
  | .inr _ => false
def fldX (P : Program) (ks : List Bool) (f : Field) : Bool := f.name != "_" && (match P.underlying f.type with
  | some (.int .i64) => ks[f.offset]? == some true
  | some .bool => ks[f.offset]? == some false
  | _ => false)
def mixP (P : Program) (t : TypeId) (ks : List Bool) : Bool := match P.underlying t with
  | some (.struct fs) => fs.toList.all (fldX P ks)
  | _ => false
theorem uV {P : Program} (w : World) (d : Nat) (l : List (Int ⊕ Bool)) : ∀ (fs : List Field), fs.all (fldX P (l.map mixL)) = true ->
    (Op.eqFields (d + 1) (l.map sU).toArray (l.map sU).toArray fs).run P w = .ok true w
  | [], _ => by simp [Op.eqFields]
  | f :: fs, h => by
    rw [List.all_cons, aJ] at h
    obtain ⟨hf, h⟩ := h
    have ih := uV w d l fs h
    unfold fldX at hf;simp only [aJ, bne_iff_ne, ne_eq] at hf
    obtain ⟨h3, h5⟩ := hf
    split at h5
    · rename_i hu
      simp only [beq_iff_eq, aY, aQ] at h5
      obtain ⟨u, h6, h7⟩ := h5
      cases u with
      | inr b => cases h7
      | inl a =>
        have hag : lP P f.type = some false := by simp [lP, hu]
        have hp : (part f.type (l.map sU).toArray f.offset).run P w = .ok (int a) w := by simp [part, run_isAgg hag, h6, sU]
        have he := run_equalIn_int (P := P) w d f.type .i64 .i64 a a hu
        simp only [Op.eqFields, h3, not_false_eq_true, if_true, Sem.run_bind, hp, Result.andThen_ok, he, ne_eq, beq_self_eq_true, Bool.not_true, eK, if_false, ih]
    · rename_i hu
      simp only [beq_iff_eq, aY, aQ] at h5
      obtain ⟨u, h6, h7⟩ := h5
      cases u with
      | inl a => cases h7
      | inr b =>
        have hag : lP P f.type = some false := by simp [lP, hu]
        have hp : (part f.type (l.map sU).toArray f.offset).run P w = .ok (.bool b) w := by simp [part, run_isAgg hag, h6, sU]
        have he := run_equalIn_bool' (P := P) w d f.type b b hu
        simp only [Op.eqFields, h3, not_false_eq_true, if_true, Sem.run_bind, hp, Result.andThen_ok, he, ne_eq, beq_self_eq_true, Bool.not_true, eK, if_false, ih]
    · simp at h5
theorem aOe {P : Program} (w : World) {l : List (Int ⊕ Bool)} (hi : mixP P t (l.map mixL) = true) (hp : P.stoodInHeld t = false) : (Op.equalIn 10000 t (.agg (l.map sU).toArray) (.agg (l.map sU).toArray)).run P w = .ok true w := by
  unfold mixP at hi
  split at hi
  · rename_i fs hu
    have hfo : P.fieldsOf t = fs := by simp [Program.fieldsOf, hu]
    have h1 := run_equalIn_struct (P := P) w 9999 t (l.map sU).toArray (l.map sU).toArray (by rw [hfo]; exact hu) hp
    have h2 := uV (P := P) w 9998 l fs.toList hi
    rw [hfo] at h1;simp only [Nat.reduceAdd] at h1 h2;rw [h1, h2]
  · simp at hi
theorem q_neM (l : List (Int ⊕ Bool)) (h1 : fM L x = some (.agg (l.map sU).toArray)) (h2 : fM L y = some (.agg (l.map sU).toArray)) (hi : mixP C.P t (l.map mixL) = true) (hp : C.P.stoodInHeld t = false) (hg : C.P.eqGuardType C.P.depth t = false) :
    fO C R H L ⟨dst, .binOp .neq t x y yT, ty, pos, aft, g⟩ (.bool false) :=
  ⟨by intro c; simp, fun ac w hx _ => by
    have e1 := hx x (by simp [Op.operands]) _ h1
    have e2 := hx y (by simp [Op.operands]) _ h2
    have h3 := run_neq_struct (P := C.P) w t (l.map sU).toArray (l.map sU).toArray
    rw [aOe w hi hp] at h3
    have h4 := run_eqGuard_agg (P := C.P) w .neq t x y (l.map sU).toArray (l.map sU).toArray hg
    simp [execOp, e1, e2, h3, h4]⟩
end
theorem rowN {α:Type} {enc:α->List Value} {s:Nat} (he:∀ x,(enc x).length=s) {ρ:PH} {p:Option Addr} {k:Nat} {l:List α} (h:SlE enc s ρ (.slice p l.length k) l):nH enc s ρ p l:=by
  obtain ⟨_,_,e,hr⟩:=h.val he
  simp only [aN] at e
  obtain ⟨rfl,_,_⟩:=e
  exact hr
end Go.Eng
namespace Go.Proofs.YtnijkofdlepfjaaGreat
open Go.Eng Go.Step
set_option maxRecDepth 100000
set_option maxHeartbeats 64000000
section
section
variable {ρ τ χ:PH} {Γ:List PH} {pq pc pt:Option Addr} {kq kc kt:Nat} {qs:List Int} {cs:List Ct} {L:List TkU}
theorem aC2:Ans Tryz.prog (fv 51) [.slice none 0 0,.slice none 0 0] [] (fun r=>r=.bool true):=by
 refine A8 Tryz.func51 Tryz.ntmps51 fun N β=>?_
 refine Ab9 ?_;refine A6 ?_;refine AB ?_;refine A6 ?_;refine Abn ?_;refine AC ?_;refine Aam ?_;refine AM ?_
 refine BE [0,1] () (fun _=>True) (fun _=>[(5,int 0)]) (fun _=>[]) (fun _=>0) fT trivial fP fK ?_
 rintro ⟨⟩ -;refine Ad7 ?_;refine Ab5 ?_;refine Aam ?_;exact AV ⟨rfl,rfl⟩
theorem aC3 (hq:gC ρ (.slice pq qs.length kq) qs) (hc:jW τ (.slice pc cs.length kc) cs) (lq:qs.length<=9223372036854775807) (lc:cs.length<=9223372036854775807):Ans Tryz.prog (fv 50) [.agg #[.slice pq qs.length kq,.slice pc cs.length kc],.agg #[.slice pq qs.length kq,.slice pc cs.length kc]] [ρ,τ] (fun r=>r=.bool true):=by
 have hrq:=rowN Eng.encI_len hq
 have hrc:=rowN iU hc
 refine A8 Tryz.func50 Tryz.ntmps50 fun N β=>?_
 refine Aa ?_
 refine BF fun b2 bx62=>?_
 have c0:=rdC bx62 0
 have c1:=rdC bx62 1
 refine BF fun b3 bx67=>?_
 have d0:=rdC bx67 0
 have d1:=rdC bx67 1
 refine Ad1 ?_;refine A6 ?_;refine Ab3 ?_;refine BN ?_;refine Aas ?_;refine A6 ?_;refine Ab3 ?_;refine BN ?_;refine Ac4 ?_;refine Aam ?_;refine AM ?_
 refine BE [2,3] (0:Nat) (fun k=>k<=qs.length) (fun k=>[(5,int k)]) (fun _=>[]) (fun k=>qs.length-k) fT (by omega) fP fK ?_
 rintro k hk
 by_cases hlt:k<qs.length
 ·have hx:=aA hlt
  obtain ⟨b5,o5,rfl,hRd1⟩:=hrq k _ hx
  generalize qs[k]=x at hRd1 hx
  have g1:rdc ρ b5 (o5+k)=some (int x):=by
   have:=hRd1.get (j:=0) rfl
   simpa using this
  refine Aex ?_;refine Acp ?_;refine AC ?_
  refine A9 P5Z [] rfl (by kernel_rfl) Sel.nil ?_
  refine Ac3 ?_;refine DT ?_;refine AN ?_;refine Ac3 ?_;refine DT ?_;refine AN ?_;refine FL ?_;refine Ach ?_;refine Ack ?_
  exact AZ (k+1) (by omega) (by omega) fP fK
 have hke:k=qs.length:=by omega
 subst hke;refine Aex ?_;refine Ab5 ?_;refine AC ?_;refine Aam ?_;refine AM ?_
 refine BE [2,3] (0:Nat) (fun k=>k<=cs.length) (fun k=>[(6,int k)]) (fun _=>[]) (fun k=>cs.length-k) fT (by omega) fP fK ?_
 rintro k hk
 by_cases hlt:k<cs.length
 ·have hx:=aA hlt
  obtain ⟨b5,o5,rfl,hRd1⟩:=hrc k _ hx
  generalize cs[k]=x at hRd1 hx
  have g1:RdN τ b5 (o5+k*7) [int x.f,int x.t,int x.s,int x.e,int x.r,int x.g,int x.l]:=hRd1
  refine Aex ?_;refine Acp ?_;refine AC ?_
  refine A9 P5Z [] rfl (by kernel_rfl) Sel.nil ?_
  refine Ac3 ?_;refine Abl ?_;refine Ac3 ?_;refine Abl ?_
  focus ((refine' CX rfl _ rfl rfl rfl rfl _; rotate_left; (apply G0 [x.f,x.t,x.s,x.e,x.r,x.g,x.l] [x.f,x.t,x.s,x.e,x.r,x.g,x.l] (n:=7); exact rfl; exact rfl; kernel_rfl; kernel_rfl; kernel_rfl; exact rfl; exact rfl)))
  refine BC ?_
  rw [show (!decide ([x.f,x.t,x.s,x.e,x.r,x.g,x.l]=[x.f,x.t,x.s,x.e,x.r,x.g,x.l]))=false by simp]
  skip
  refine AJ rfl ?_;refine AK ?_;refine Ack ?_
  exact AZ (k+1) (by omega) (by omega) fP fK
 ·refine AC ?_
  refine Aab ?_;refine Ab3 ?_;refine Ab5 ?_;refine Aam ?_;exact AV ⟨rfl,rfl⟩
theorem aC4 {γ:PH} (x:TkU) (hx:SlE gE 4 γ (.slice x.p x.t.hops.length x.c) x.t.hops) (hl:x.t.hops.length<=1000):Ans Tryz.prog (fv 52) [.agg #[int x.t.k,int x.t.q.src,int x.t.q.dst,int x.t.q.size,int x.t.q.rdy,int x.t.q.dln,int x.t.q.pri,.bool x.t.q.cus,.slice x.p x.t.hops.length x.c,int x.st,int x.un],.agg #[int x.t.k,int x.t.q.src,int x.t.q.dst,int x.t.q.size,int x.t.q.rdy,int x.t.q.dln,int x.t.q.pri,.bool x.t.q.cus,.slice x.p x.t.hops.length x.c,int x.st,int x.un]] [γ] (fun r=>r=.bool true):=by
 obtain ⟨xt,pp,cc,st,un⟩:=x
 dsimp only at hx hl ⊢
 have hrh:=rowN gJ hx
 refine A8 Tryz.func52 Tryz.ntmps52 fun N β=>?_
 refine Aa ?_
 refine BF fun b2 bx235=>?_
 have cq:RdN (sng b2 (.cells #[int xt.k,int xt.q.src,int xt.q.dst,int xt.q.size,int xt.q.rdy,int xt.q.dln,int xt.q.pri,.bool xt.q.cus,.slice pp xt.hops.length cc,int st,int un] 58 (0,0))) b2 1 [int xt.q.src,int xt.q.dst,int xt.q.size,int xt.q.rdy,int xt.q.dln,int xt.q.pri,.bool xt.q.cus]:=(iB (k:=1) (xs:=[int xt.k,int xt.q.src,int xt.q.dst,int xt.q.size,int xt.q.rdy,int xt.q.dln,int xt.q.pri,.bool xt.q.cus,.slice pp xt.hops.length cc,int st,int un]) rfl).rd
 have c0:=rdC bx235 0
 have c8:=rdC bx235 8
 have c9:=rdC bx235 9
 have c10:=rdC bx235 10
 refine BF fun b3 bx243=>?_
 have dq:RdN (sng b3 (.cells #[int xt.k,int xt.q.src,int xt.q.dst,int xt.q.size,int xt.q.rdy,int xt.q.dln,int xt.q.pri,.bool xt.q.cus,.slice pp xt.hops.length cc,int st,int un] 58 (0,0))) b3 1 [int xt.q.src,int xt.q.dst,int xt.q.size,int xt.q.rdy,int xt.q.dln,int xt.q.pri,.bool xt.q.cus]:=(iB (k:=1) (xs:=[int xt.k,int xt.q.src,int xt.q.dst,int xt.q.size,int xt.q.rdy,int xt.q.dln,int xt.q.pri,.bool xt.q.cus,.slice pp xt.hops.length cc,int st,int un]) rfl).rd
 have d0:=rdC bx243 0
 have d8:=rdC bx243 8
 have d9:=rdC bx243 9
 have d10:=rdC bx243 10
 refine Aba ?_;refine Abr ?_;refine BN ?_;refine AB ?_;refine Ab4 ?_;refine Ab4 ?_
 focus ((refine' CN _ rfl rfl rfl _; rotate_left; (apply q_neM [.inl xt.q.src,.inl xt.q.dst,.inl xt.q.size,.inl xt.q.rdy,.inl xt.q.dln,.inl xt.q.pri,.inr xt.q.cus]; exact rfl; exact rfl; kernel_rfl; kernel_rfl; kernel_rfl)))
 refine AT ?_;refine Abf ?_;refine BN ?_;refine AT ?_;refine Abf ?_;refine BN ?_;refine Ac1 ?_;refine A6 ?_;refine Ab3 ?_;refine BN ?_;refine Ac4 ?_;refine Aam ?_;refine AM ?_
 refine BE [2,3] (0:Nat) (fun k=>k<=xt.hops.length) (fun k=>[(5,int k)]) (fun _=>[]) (fun k=>xt.hops.length-k) fT (by omega) fP fK ?_
 rintro k hk
 by_cases hlt:k<xt.hops.length
 ·have hh:=aA hlt
  obtain ⟨b5,o5,e5,hRd1⟩:=hrh k _ hh
  generalize xt.hops[k]=y at hRd1 hh
  have g1:RdN γ b5 (o5+k*4) [int y.c,int y.b,int y.e,int y.a]:=hRd1
  subst e5;refine Aex ?_;refine Acp ?_;refine AC ?_
  refine A9 P5Z [] rfl (by kernel_rfl) Sel.nil ?_
  refine Ac3 ?_;refine Abl ?_;refine Ac3 ?_;refine Abl ?_
  focus ((refine' CX rfl _ rfl rfl rfl rfl _; rotate_left; (apply G0 [y.c,y.b,y.e,y.a] [y.c,y.b,y.e,y.a] (n:=4); exact rfl; exact rfl; kernel_rfl; kernel_rfl; kernel_rfl; exact rfl; exact rfl)))
  refine BC ?_
  rw [show (!decide ([y.c,y.b,y.e,y.a]=[y.c,y.b,y.e,y.a]))=false by simp]
  skip
  refine AJ rfl ?_;refine AK ?_;refine Ack ?_
  exact AZ (k+1) (by omega) (by omega) fP fK
 ·refine AC ?_
  refine Aab ?_;refine Ab3 ?_;refine Ab5 ?_;refine Aam ?_;exact AV ⟨rfl,rfl⟩
theorem aHv (hq:gC ρ (.slice pq qs.length kq) qs) (hc:jW τ (.slice pc cs.length kc) cs) (lq:qs.length<=9223372036854775807) (lc:cs.length<=9223372036854775807) (hL:qL χ Γ (.slice pt L.length kt) L) (hl:L.length<=100) (hh:∀ x∈L,x.t.hops.length<=1000):Ans Tryz.prog (fv 14) [.agg #[.slice pq qs.length kq,.slice pc cs.length kc,.slice none 0 0,.slice pt L.length kt],.agg #[.slice pq qs.length kq,.slice pc cs.length kc,.slice none 0 0,.slice pt L.length kt]] (ρ::τ::χ::Γ) (fun r=>r=.bool true):=by
 have h22:=aC3 (pq:=pq) (kq:=kq) (pc:=pc) (kc:=kc) hq hc lq lc
 have hrl:=rowN jX hL.tk
 have hst:=fun (x:TkU) (hx:x∈L)=>Exists.elim (hL.hp x hx) (fun γ h=>(⟨γ,h.1,aC4 x h.2 (hh x hx)⟩:∃ γ,γ∈Γ/\Ans Tryz.prog (fv 52) [.agg #[int x.t.k,int x.t.q.src,int x.t.q.dst,int x.t.q.size,int x.t.q.rdy,int x.t.q.dln,int x.t.q.pri,.bool x.t.q.cus,.slice x.p x.t.hops.length x.c,int x.st,int x.un],.agg #[int x.t.k,int x.t.q.src,int x.t.q.dst,int x.t.q.size,int x.t.q.rdy,int x.t.q.dln,int x.t.q.pri,.bool x.t.q.cus,.slice x.p x.t.hops.length x.c,int x.st,int x.un]] [γ] (fun r=>r=.bool true)))
 refine A8 Tryz.func14 Tryz.ntmps14 fun N β=>?_
 refine Aa ?_
 refine BF fun b2 bx370=>?_
 have cp:RdN (sng b2 (.cells #[.slice pq qs.length kq,.slice pc cs.length kc,.slice none 0 0,.slice pt L.length kt] 32 (0,0))) b2 0 [.slice pq qs.length kq,.slice pc cs.length kc]:=(iB (k:=0) (xs:=[.slice pq qs.length kq,.slice pc cs.length kc,.slice none 0 0,.slice pt L.length kt]) rfl).rd
 have c2:=rdC bx370 2
 have c3:=rdC bx370 3
 refine BF fun b3 bx376=>?_
 have dp:RdN (sng b3 (.cells #[.slice pq qs.length kq,.slice pc cs.length kc,.slice none 0 0,.slice pt L.length kt] 32 (0,0))) b3 0 [.slice pq qs.length kq,.slice pc cs.length kc]:=(iB (k:=0) (xs:=[.slice pq qs.length kq,.slice pc cs.length kc,.slice none 0 0,.slice pt L.length kt]) rfl).rd
 have d2:=rdC bx376 2
 have d3:=rdC bx376 3
 refine Aba ?_;refine Acz ?_;refine Ab4 ?_;refine A5 h22 ?_;refine BX ?_;refine Abf ?_;refine A5 aC2 ?_;refine BX ?_;refine Ac1 ?_;refine A6 ?_;refine Ab3 ?_;refine BN ?_;refine Ac4 ?_;refine Aam ?_;refine AM ?_
 refine BE [2,3] (0:Nat) (fun k=>k<=L.length) (fun k=>[(5,int k)]) (fun _=>[]) (fun k=>L.length-k) fT (by omega) fP fK ?_
 rintro k hk
 by_cases hlt:k<L.length
 ·have hx:=aA hlt
  obtain ⟨b5,o5,e5,hRd1⟩:=hrl k _ hx
  obtain ⟨γ,hγ,hs1⟩:=hst _ (aF hx)
  generalize L[k]=x at hRd1 hx hs1
  have g1:RdN χ b5 (o5+k*11) [int x.t.k,int x.t.q.src,int x.t.q.dst,int x.t.q.size,int x.t.q.rdy,int x.t.q.dln,int x.t.q.pri,.bool x.t.q.cus,.slice x.p x.t.hops.length x.c,int x.st,int x.un]:=hRd1
  subst e5;refine Aex ?_;refine Acp ?_;refine AC ?_
  refine A9 (.q 0 (.q 1 (.q 2 (.q 3 (.q 4 (.q 5 (.q 6 (.q 7 (.q 8 (.q 9 (.l 10 .e (.q 11 .nil)))))))))))) [] rfl (by kernel_rfl) Sel.nil ?_
  refine Ac3 ?_;refine Abl ?_;refine Ac3 ?_;refine Abl ?_
  refine BZ (BQ rfl hs1 rfl rfl (fun z hz=>.inl (by rw [bI] at hz; subst hz; simp [hγ])) rfl rfl ?_)
  rintro _ rfl;refine CZ ?_;refine Ach ?_;refine Ack ?_
  exact AZ (k+1) (by omega) (by omega) fP fK
 ·refine AC ?_
  refine Aab ?_;refine Ab3 ?_;refine Ab5 ?_;refine Aam ?_;exact AV ⟨rfl,rfl⟩
end
end
theorem zK (pq pc:Option Addr) (kq kc nq nc:Nat):Ans Tryz.prog (fv 4) [.agg #[.slice pq nq kq,.slice pc nc kc]] [] (fun r=>r=.bool (decide (6<nq\/10<nc))):=by
 refine A8 Tryz.func4 Tryz.ntmps4 fun N β=>?_
 refine Aa ?_
 refine BF fun b1 c=>?_
 have c0:=rdC c 0
 have c1:=rdC c 1
 by_cases h1:6<nq
 ·rw [decide_eq_true (.inl h1)]
  refine Aeh ?_;refine C1 ?_;refine Acw ?_;refine Ac0 ?_;exact AV ⟨rfl,rfl⟩
 by_cases h2:10<nc
 ·rw [decide_eq_true (.inr h2)]
  refine Acv ?_;refine Ade ?_;refine Aas ?_;refine A6 ?_;refine C1 ?_;refine Acf ?_;exact AV ⟨rfl,rfl⟩
 rw [decide_eq_false (by omega)]
 refine Acv ?_;refine Ade ?_;refine Aas ?_;refine Ade ?_;refine Acf ?_;exact AV ⟨rfl,rfl⟩
section
variable {ρ τ κ:PH} {pq pc pl0:Option Addr} {kq kc cl0:Nat} {qs:List Int} {cs:List Ct} {l0:List Rq}
theorem aHw (hq:gC ρ (.slice pq qs.length kq) qs) (hc:jW τ (.slice pc cs.length kc) cs) (hcap:cs.length<=kc) (lq:qs.length<=9223372036854775807) (lc:cs.length<=9223372036854775807) :
  Ans Tryz.prog (fv 6) [.agg #[.slice pq qs.length kq,.slice pc cs.length kc]] [ρ,τ] (fun r=>(gD qs cs=0/\r=.tuple #[.agg #[.slice pq qs.length kq,.slice pc cs.length kc,.slice none 0 0,.slice none 0 0],int 0])\/(gD qs cs≠0/\∃ e:Int,e≠0/\r=.tuple #[.agg #[.slice none 0 0,.slice none 0 0,.slice none 0 0,.slice none 0 0],int e])):=by
 have hpc:=iD ρ τ pq pc kq kc qs cs hq hc hcap lq lc
 refine A8 Tryz.func6 Tryz.ntmps6 fun N β=>?_
 refine Aa ?_
 refine BF fun b1 cg=>?_
 refine CT fun b2=>?_
 refine Aba ?_;refine Aar ?_;refine A5 hpc ?_
 by_cases h0:gD qs cs=0
 ·rw [h0]
  refine Ac7 ?_;refine Aar ?_;refine CN (CW (out:=[.slice pq qs.length kq,.slice pc cs.length kc,.slice none 0 0,.slice none 0 0]) rfl rfl rfl rfl rfl) rfl rfl rfl ?_;refine Add ?_;exact A2 (zC (b1:=b2) (T:=32) (v1:=[.slice pq qs.length kq,.slice pc cs.length kc,.slice none 0 0,.slice none 0 0]) rfl rfl rfl rfl rfl (fR gN)) fQ fK ⟨rfl,.inl ⟨rfl,rfl⟩⟩
 ·generalize gD qs cs=e at h0
  refine Abq ?_;refine Adu ?_;refine Aa ?_;refine CN (CW (out:=[.slice none 0 0,.slice none 0 0,.slice none 0 0,.slice none 0 0]) rfl rfl rfl rfl rfl) rfl rfl rfl ?_;refine AB ?_;refine Add ?_;exact A2 (zC (b1:=b2) (T:=32) (v1:=[.slice none 0 0,.slice none 0 0,.slice none 0 0,.slice none 0 0]) rfl rfl rfl rfl rfl (fR gN)) fQ fK ⟨rfl,.inr ⟨h0,e,h0,rfl⟩⟩
theorem aQl {L:List TkU} (hG:oJ qs cs L):∀ x∈L,x.t.hops.length<=1000:=fun x hx=>by
 rcases (hG x hx).1.2 with h|h
 ·exact h.len
 ·rw [h]; exact cA _
theorem aFa (haw:Ans Tryz.prog (fv 5) [] [] (fun r=>r=.bool true)) (hq:gC ρ (.slice pq qs.length kq) qs) (hc:jW τ (.slice pc cs.length kc) cs) (hcap:cs.length<=kc) (lq:qs.length<=9223372036854775807) (lc:cs.length<=9223372036854775807) (hl:SlE aJu 7 κ (.slice pl0 l0.length cl0) l0) (ll:l0.length<=9223372036854775807) :
  Ans Tryz.prog (fv 3) [.agg #[.slice pq qs.length kq,.slice pc cs.length kc],.slice pl0 l0.length cl0] [ρ,τ,κ] (fun r=>r=.bool true):=by
 have hgr:=zK pq pc kq kc qs.length cs.length
 obtain ⟨_,_,e,hrl⟩:=SlE.val (enc:=aJu) (s:=7) (fun _=>rfl) hl
 simp only [aN] at e
 obtain ⟨rfl,_,rfl⟩:=e
 refine A8 Tryz.func3 Tryz.ntmps3 fun N β=>?_
 refine Aa ?_
 refine BF fun b2 cp=>?_
 refine Aba ?_;refine Aar ?_;refine A5 hgr ?_
 by_cases hgp:6<qs.length\/10<cs.length
 ·rw [decide_eq_true hgp]
  refine Acd ?_;refine Aci ?_;refine Aa ?_;refine A5 haw ?_;refine Aaa ?_;exact AV ⟨rfl,rfl⟩
 rw [decide_eq_false hgp]
 by_cases h4:4<l0.length
 ·refine AB ?_
  refine AB ?_;refine A6 ?_;refine C1 ?_;refine AT ?_;refine Aah ?_;refine Aa ?_;refine A5 haw ?_;refine Aaa ?_;exact AV ⟨rfl,rfl⟩
 refine Aal ?_;refine Ade ?_;refine Abe ?_;refine Aar ?_;refine BT (aHw hq hc hcap lq lc) rfl rfl rdZ rfl rfl ?_;rintro _ (⟨hp,rfl⟩|⟨hp,e,he,rfl⟩)
 rotate_left
 ·have hpc:=iD ρ τ pq pc kq kc qs cs hq hc hcap lq lc
  generalize gD qs cs=e0 at hp hpc
  refine Abk ?_
  refine A3 fun b=>?_
  refine Aen ?_;refine C5 ?_;refine Abd ?_;refine Aci ?_;refine Aar ?_;refine A5 hpc ?_;refine C5 ?_;refine AB ?_;refine A5 haw ?_;refine Ac0 ?_;exact AV ⟨rfl,rfl⟩
 refine B9 ?_;refine Abk ?_
 refine A3 fun b=>?_
 refine Aen ?_;refine BN ?_;refine AB ?_
 revert b; intro b5
 refine A5 haw ?_;refine BX ?_;refine Abe ?_;refine Aag ?_;refine Abh ?_
 refine BE [5,46,47] (X:=(Nat × (List TkU × (Option Addr × Nat))) × PH) ((0,([],(none,0))),emp) (fun z=>z.1.1<=l0.length/\z.1.2.1.length<=z.1.1/\qL z.2 [z.2] (.slice z.1.2.2.1 z.1.2.1.length z.1.2.2.2) z.1.2.1/\LgW qs cs (z.1.2.1.map (·.t))/\oJ qs cs z.1.2.1) (fun z=>[(48,int (z.1.1:Int))]) (fun z=>[sng b5 (.cells #[.slice pq qs.length kq,.slice pc cs.length kc,.slice none 0 0,.slice z.1.2.2.1 z.1.2.1.length z.1.2.2.2] 32 (0,0)),z.2]) (fun z=>l0.length-z.1.1) fT ⟨cA _,aK _,⟨(fS.nil 58 11).at,fun x hx=>(by cases hx)⟩,LgW.zero hp,fun x hx=>(by cases hx)⟩ fP fK ?_
 rintro ⟨⟨i,⟨L,⟨pt,kt⟩⟩⟩,χ⟩ ⟨hi,hLi,hL,hW,hG⟩
 dsimp only at hi hLi hL hW hG ⊢
 by_cases hlt:i<l0.length
 rotate_left
 ·refine AC ?_
  refine AA ?_;refine Abi ?_;refine Aam ?_;exact AV ⟨rfl,rfl⟩
 have hst:∀ x∈L,StU x:=fun x hx=>(hG x hx).2.1
 have hx:=aA hlt
 obtain ⟨bl,ol,rfl,hrd⟩:=hrl i _ hx
 generalize l0[i]=q at hx hrd
 have hrd:RdN κ bl (ol+i*7) [int q.src,int q.dst,int q.size,int q.rdy,int q.dln,int q.pri,.bool q.cus]:=hrd
 have hta:=aJ8 hq hc hcap lq lc hp hL hW hst
 have hac:=aC1 hq hc hcap lq lc hp (by omega) (by omega) hL hW hG hst (by omega) q
 refine Ab2 ?_
 refine A3 fun b=>?_
 refine Aa6 ?_;refine Aar ?_
 revert b; intro b8
 refine BG hta rfl rfl gA.nil (fun z hz=>by simp only [aE,bD,or_false] at hz; rcases hz with h|h|h|h; exact .inl (by simp [h]); exact .inl (by simp [h]); exact .inr (by simp [h]); exact .inr (by simp [h])) rfl rfl ?_
 rintro _ _ ⟨bs,hs,pb,ph,kb,kh,σ,υ,rfl,p1,s1,p2,s2,o1,o2,rfl⟩;simp only [aG,aH]
 have hct:=hW.tab p1 s1 p2 s2
 have hTb:oF ρ τ σ υ pq pc pb ph kq kc kb kh qs cs bs hs:=⟨hq,hc,hcap,lq,lc,o1.at,by have:=p1.length_eq; have:=hW.nb; omega,o2.at,by have:=p2.length_eq; have:=hW.nh; omega⟩
 have tab0:pR cs (L.map (·.t)) bs hs:=⟨p1,s1,p2,s2⟩
 refine Abk ?_
 refine A3 fun b=>?_
 refine Add ?_;refine Abs ?_
 revert b; intro b9
 refine B4 hac rfl rfl (fun z hz=>by simp only [aE,bD,or_false] at hz; rcases hz with h|h|h|h; exact .inl (by simp [h]); exact .inl (by simp [h]); exact .inr (by simp [h]); exact .inr (by simp [h])) rfl rfl ?_
 rintro _ κ2 (⟨e,he,rfl⟩|⟨p9,k9,L2,hrq,hrf,hl2,hS,rfl⟩|⟨L',pt',kt',pm,pd,nm,nd,km,kd,l,pl,cl,p,hrq,rfl,hl',hLu,hW',hG',hnew,hln,hla,hacc,hnn⟩)
 ·refine AB ?_
  refine Ab ?_;refine AS ?_
  refine A3 fun b=>?_
  refine A3 fun b=>?_
  refine AU ?_;refine Aen ?_;refine Adp ?_;refine Adu ?_;refine Aeb ?_
  exact AZ ((i+1,(L,(pt,kt))),χ) ⟨by dsimp only; omega,by dsimp only; omega,hL,hW,hG⟩ (by dsimp only; omega) fP fK
 ·have hK:TOK qs cs bs hs q:=⟨hct,hrq,by omega,by omega⟩
  obtain ⟨hL2,hno⟩:=hrf bs hs tab0
  have har:=pP hTb hK
  have hmk:=pQ hTb hK
  have hvf:=aHu hTb hK hS (by omega) (aTa (iV hK) (pK hK) (Ext.refl _) hL2 (hno L2 hL2) hL2)
  have hck:=nR hq hc hcap lq lc hp hL hW hst
  have hsa:=aHv (pq:=pq) (kq:=kq) (pc:=pc) (kc:=kc) hq hc lq lc hL (by omega) (aQl hG)
  clear hrf hL2
  generalize fW qs cs bs hs q=G at har hmk hno
  refine Aem ?_
  refine A3 fun b=>?_
  refine A3 fun b=>?_
  refine AU ?_;refine Aen ?_;refine Adp ?_;refine Abn ?_;refine Abs ?_
  revert b; intro b12
  revert b; intro b11
  refine BT har rfl rfl rdZ rfl rfl ?_;rintro _ ⟨L1,hL1,⟨a,ha,rfl⟩|⟨ha,rfl⟩⟩
  ·exfalso
   rw [hno L1 hL1] at ha
   cases ha
  refine Ab7 ?_;refine Abs ?_;refine B4 hmk rfl rfl rdZ rfl rfl ?_;rintro _ κb (⟨L3,a1,hL3,h1,rfl⟩|⟨L3,L4,u2,hL3,h1,hL4,rfl,hOb⟩)
  ·exfalso
   rw [hno L3 hL3] at h1
   cases h1
  obtain ⟨pb4,kb4,rfl⟩:=hOb.form
  refine Ab7 ?_;refine AC ?_;refine Aar ?_
  refine BT hck rfl rfl (fun z hz=>by simp only [aE,bD,or_false] at hz; rcases hz with h|h|h|h; exact .inl (by simp [h]); exact .inl (by simp [h]); exact .inr (by simp [h]); exact .inr (by simp [h])) rfl rfl ?_
  rintro _ rfl;refine BN ?_;refine Aal ?_;refine B3 ?_;refine AB ?_;refine CJ ?_;refine EO ?_;refine Ac4 ?_;refine Aan ?_;refine Aei ?_;refine Aag ?_;refine BN ?_;refine AB ?_;refine AI ?_;refine AI ?_;refine Aac ?_;refine A5 hvf ?_;refine BN ?_;refine AT ?_;refine AB ?_;refine AI ?_;refine AI ?_
  refine BT hsa rfl rfl (fun z hz=>by simp only [aE,bD,or_false] at hz; rcases hz with h|h|h|h; exact .inl (by simp [h]); exact .inl (by simp [h]); exact .inr (by simp [h]); exact .inr (by simp [h])) rfl rfl ?_
  rintro _ rfl;refine BX ?_;refine Abe ?_;refine Aeb ?_
  exact AZ ((i+1,(L,(pt,kt))),χ) ⟨by dsimp only; omega,by dsimp only; omega,hL,hW,hG⟩ (by dsimp only; omega) fP fK
 ·have hK:TOK qs cs bs hs q:=⟨hct,hrq,by omega,by omega⟩
  have hac2:=fun L1 hL1=>hacc bs hs L1 tab0 hL1
  have har:=pP hTb hK
  have hmk:=pQ hTb hK
  have hsm:=fun {L1 L2:List Lb} (h1:iQ (fW qs cs bs hs q) L1) (h2:iQ (fW qs cs bs hs q) L2)=>sA hK h1 h2
  clear hacc
  generalize fW qs cs bs hs q=G at har hmk hac2 hsm
  refine DF (ρ:=χ) (σ:=κ2) fL fL (fun δ d1 d2=>?_)
  have hLn:=hLu δ d1 (fun γ hγ=>by rw [bI] at hγ; subst hγ; exact d1) d2
  have hll':L'.length<=100:=by omega
  have hck:=nR hq hc hcap lq lc hp hLn hW' (fun x hx=>(hG' x hx).2.1)
  have hfi:Ans Tryz.prog (fv 15) [.agg #[.slice pq qs.length kq,.slice pc cs.length kc,.slice none 0 0,.slice pt' L'.length kt'],int ((L.length:Int)+1)] [δ] (fun r=>r=.tuple #[.agg #[int ((L.length:Int)+1),int q.src,int q.dst,int q.size,int q.rdy,int q.dln,int q.pri,.bool q.cus,.slice pl l.length cl,int 1,int 0],.bool true]):=qW (pq:=pq) (kq:=kq) (pc:=pc) (kc:=kc) (qs:=qs) (cs:=cs) hLn.tk hll' hnew (fun j y hy=>hW'.v.num j y.t (by rw [aY,hy]; rfl))
  obtain ⟨γ,hγ,hhp⟩:=hLn.hp _ (aF hnew)
  rw [bI] at hγ;subst hγ
  have hhp:SlE gE 4 γ (.slice pl l.length cl) l:=hhp
  have hpos:0<l.length:=by
   cases l with
   | nil=>simp at hla
   | cons a l=>simp
  have hxl:l[l.length-1]?=some p:=by rw [← hla,eD]
  obtain ⟨_,_,e,hrv⟩:=SlE.val gJ hhp
  simp only [aN] at e
  obtain ⟨rfl,_,rfl⟩:=e
  obtain ⟨bh,oh,rfl,hrdh⟩:=hrv _ _ hxl
  have h3:rdc γ bh (oh+(l.length-1)*4+3)=some (int p.a):=hrdh.get (j:=3) rfl
  have em:((l.length:Nat):Int)-1=((l.length-1:Nat):Int):=by omega
  clear hrdh hrv hnew;refine Aem ?_
  refine A3 fun b=>?_
  refine A3 fun b=>?_
  refine AU ?_;refine Aen ?_;refine Adp ?_;refine Abn ?_;refine Abs ?_
  revert b; intro b12
  revert b; intro b11
  refine BT har rfl rfl rdZ rfl rfl ?_;rintro _ ⟨L1,hL1,⟨a,ha,rfl⟩|⟨ha,rfl⟩⟩
  ·obtain ⟨a1,a2,a3⟩:=hac2 L1 hL1
   have hle:=a1 a ha
   refine Ab7 ?_;refine Abs ?_;refine B4 hmk rfl rfl rdZ rfl rfl ?_;rintro _ κb (⟨L3,a1,hL3,h1,rfl⟩|⟨L3,L4,u2,hL3,h1,hL4,rfl,hOb⟩)
   rotate_left
   ·exfalso
    rw [hsm hL3 hL1,ha] at h1
    cases h1
   refine Ab7 ?_;refine AC ?_;refine Aar ?_
   refine BT hck rfl rfl (fun z hz=>by simp only [aE,bD,or_false] at hz; rcases hz with h|h|h|h; exact .inl (by simp [h]); exact .inl (by simp [h]); exact .inr (by simp [h]); exact .inr (by simp [h])) rfl rfl ?_
   rintro _ rfl;refine BN ?_;refine Aal ?_;refine CJ ?_;refine AB ?_;refine B3 ?_;refine EO ?_;refine Ac4 ?_;refine Aan ?_;refine Acn ?_;refine Aar ?_;refine Aac ?_;refine A5 hfi ?_
   by_cases hpri:q.pri=2
   ·refine AB ?_
    refine Ab ?_
    refine A3 fun b=>?_
    refine Aen ?_;refine BX ?_;refine Aas ?_;refine A6 ?_;refine B3 ?_;refine Abe ?_;refine Abr ?_;refine A6 ?_;refine B6 ?_;refine BL ?_;refine Adg ?_;refine Abv ?_;refine CJ ?_;refine Abm ?_;refine B7 ?_;refine AY ?_;refine Aal ?_;refine BN ?_;refine Aec ?_;refine Aad ?_;refine AT ?_;refine Ac1 ?_;refine BN ?_;refine Acd ?_;refine AT ?_;refine Abe ?_;refine AA ?_;refine AI ?_;refine Aa6 ?_;refine Aa3 ?_
    exact AZ ((i+1,(L',(pt',kt'))),γ) ⟨by dsimp only; omega,by dsimp only; omega,hLn,hW',hG'⟩ (by dsimp only; omega) fP fK
   ·have hpa:=a2 hpri
    rw [ha] at hpa
    injection hpa with hpa
    refine Abk ?_
    refine A3 fun b=>?_
    refine Aen ?_;refine BX ?_;refine Aas ?_;refine A6 ?_;refine B3 ?_;refine Abe ?_;refine Abr ?_;refine A6 ?_;refine B6 ?_;refine BL ?_;refine Adg ?_;refine Abv ?_;refine CJ ?_;refine Abm ?_;refine B7 ?_;refine AY ?_;refine Aal ?_;refine BN ?_;refine Aec ?_;refine Aad ?_;refine AT ?_;refine Ac1 ?_;refine C5 ?_;refine Abm ?_;refine BN ?_;refine AY ?_;refine Abe ?_;refine AA ?_;refine AI ?_;refine Aa6 ?_;refine Aa3 ?_
    exact AZ ((i+1,(L',(pt',kt'))),γ) ⟨by dsimp only; omega,by dsimp only; omega,hLn,hW',hG'⟩ (by dsimp only; omega) fP fK
  ·obtain ⟨a1,a2,a3⟩:=hac2 L1 hL1
   have hn0:=a3 ha
   have hpri:q.pri=2:=Decidable.byContradiction (fun h=>by
    have:=a2 h
    rw [ha] at this
    cases this)
   refine Ab7 ?_;refine Abs ?_;refine B4 hmk rfl rfl rdZ rfl rfl ?_;rintro _ κb (⟨L3,a1,hL3,h1,rfl⟩|⟨L3,L4,u2,hL3,h1,hL4,rfl,hOb⟩)
   ·exfalso
    rw [hsm hL3 hL1,ha] at h1
    cases h1
   obtain ⟨pb4,kb4,rfl⟩:=hOb.form
   refine Ab7 ?_;refine AC ?_;refine Aar ?_
   refine BT hck rfl rfl (fun z hz=>by simp only [aE,bD,or_false] at hz; rcases hz with h|h|h|h; exact .inl (by simp [h]); exact .inl (by simp [h]); exact .inr (by simp [h]); exact .inr (by simp [h])) rfl rfl ?_
   rintro _ rfl;refine BN ?_;refine Aal ?_;refine B3 ?_;refine AB ?_;refine CJ ?_;refine EO ?_;refine Ac4 ?_;refine Aan ?_;refine Acn ?_;refine Aar ?_;refine Aac ?_;refine A5 hfi ?_;refine Abk ?_
   refine A3 fun b=>?_
   refine Aen ?_;refine BX ?_;refine Aas ?_;refine A6 ?_;refine B3 ?_;refine Abe ?_;refine Abr ?_;refine A6 ?_;refine B6 ?_;refine BL ?_;refine Adg ?_;refine Abv ?_;refine B3 ?_;refine Acd ?_;refine AT ?_;refine Aal ?_;refine C5 ?_;refine Aas ?_;refine A6 ?_;refine Ab3 ?_;refine CF ?_;refine B3 ?_;refine AY ?_;refine Ac1 ?_;refine BN ?_;refine Acd ?_;refine AT ?_;refine Abe ?_;refine AA ?_;refine AI ?_;refine Aa6 ?_;refine Aa3 ?_
   exact AZ ((i+1,(L',(pt',kt'))),γ) ⟨by dsimp only; omega,by dsimp only; omega,hLn,hW',hG'⟩ (by dsimp only; omega) fP fK
end
end Go.Proofs.YtnijkofdlepfjaaGreat
namespace Go.Eng
open Go.ChangeShapes Go.WideShapes Go.RowKit
variable {P:Program} {W:World} {t:TypeId}
theorem RdT.capOK {e:TypeId} {v:Value} (ht:P.underlying t=some (.slice e)) (h:RdT P W t [v]):aSj v:=by
  obtain ⟨H,enc,fuel,x,h⟩:=h
  rcases Deep.open_slice ht h with ⟨e,_⟩|⟨a,len,cap,m,n,D,Pl,e,_,hlc,_⟩
  · simp only [dV,and_true] at e
    exact ⟨_,_,_,e,aK _⟩
  · simp only [dV,and_true] at e
    exact ⟨_,_,_,e,hlc⟩
end Go.Eng
namespace Go.Proofs.YtnijkofdlepfjaaGreat
open Go.Eng Go.Step
set_option maxRecDepth 100000
set_option maxHeartbeats 64000000
open Go.ChangeShapes Go.WideShapes Go.ChangeAt Go.RowKit
theorem Tryz.own:ownKnob Tryz.prog.godebug=none:=by kernel_rfl
theorem Tryz.laidOut:laidOutB Tryz.prog=true:=by kernel_rfl
theorem ct_of {W:World} {x:List Value} (h:RdT Tryz.prog W 71 x):∃ a:Ct,x=zL a/\True:=by
 obtain ⟨h1,_⟩:=h.struct Tryz.underlying71
 have hc:Tryz.prog.cellsOf 71=7:=by kernel_rfl
 rw [hc] at h1
 match x,h1 with
 | [c0,c1,c2,c3,c4,c5,c6],_ =>
  have k:Tryz.prog.cellsOf 3=1:=by kernel_rfl
  obtain ⟨x0,e0,_⟩:=(h.fld1 Tryz.underlying71 0 rfl rfl rfl k rfl).i64 Tryz.underlying3
  obtain ⟨x1,e1,_⟩:=(h.fld1 Tryz.underlying71 1 rfl rfl rfl k rfl).i64 Tryz.underlying3
  obtain ⟨x2,e2,_⟩:=(h.fld1 Tryz.underlying71 2 rfl rfl rfl k rfl).i64 Tryz.underlying3
  obtain ⟨x3,e3,_⟩:=(h.fld1 Tryz.underlying71 3 rfl rfl rfl k rfl).i64 Tryz.underlying3
  obtain ⟨x4,e4,_⟩:=(h.fld1 Tryz.underlying71 4 rfl rfl rfl k rfl).i64 Tryz.underlying3
  obtain ⟨x5,e5,_⟩:=(h.fld1 Tryz.underlying71 5 rfl rfl rfl k rfl).i64 Tryz.underlying3
  obtain ⟨x6,e6,_⟩:=(h.fld1 Tryz.underlying71 6 rfl rfl rfl k rfl).i64 Tryz.underlying3
  simp at e0 e1 e2 e3 e4 e5 e6
  subst e0 e1 e2 e3 e4 e5 e6;exact ⟨⟨x0,x1,x2,x3,x4,x5,x6⟩,rfl,trivial⟩
theorem aWi {W:World} {x:List Value} (h:RdT Tryz.prog W 3 x):∃ a:Int,x=Eng.encI a/\True:=by
 obtain ⟨a,e,_⟩:=h.i64 Tryz.underlying3
 exact ⟨a,e,trivial⟩
theorem aT7 {W:World} {r:Reach} {base:Nat} {v0:Value} (hv:Value.okWide Tryz.prog W r base 25 v0) (h:RdT Tryz.prog W 25 v0.cells.toList) :
  ∃ (pq pc:Option Addr) (kq kc:Nat) (qs:List Int) (cs:List Ct),v0=.agg #[.slice pq qs.length kq,.slice pc cs.length kc]/\gC (mN W) (.slice pq qs.length kq) qs/\jW (mN W) (.slice pc cs.length kc) cs/\cs.length<=kc/\qs.length<=9223372036854775807/\cs.length<=9223372036854775807:=by
 obtain ⟨cs,rfl⟩:=aLg Tryz.underlying25 hv
 obtain ⟨h1,_⟩:=h.struct Tryz.underlying25
 have hc:Tryz.prog.cellsOf 25=2:=by kernel_rfl
 rw [hc] at h1
 obtain ⟨x⟩:=cs
 match x,h1 with
 | [c0,c1],_ =>
  have k0:Tryz.prog.cellsOf 22=1:=by kernel_rfl
  have k1:Tryz.prog.cellsOf 23=1:=by kernel_rfl
  have f0:=h.fld1 Tryz.underlying25 0 rfl rfl rfl k0 rfl
  have f1:=h.fld1 Tryz.underlying25 1 rfl rfl rfl k1 rfl
  obtain ⟨v,e,qs,a1,a2,a3⟩:=f0.sliceE Tryz.underlying22 (s:=1) (by kernel_rfl) (by omega) (fun x hx=>aWi hx)
  simp only [dV,and_true] at e
  obtain ⟨u,e',ct,b1,b2,b3⟩:=f1.sliceE Tryz.underlying23 (s:=7) (by kernel_rfl) (by omega) (fun x hx=>ct_of hx)
  simp only [dV,and_true] at e'
  have cap:=f1.capOK Tryz.underlying23
  have cap2:=cap
  subst e e'
  obtain ⟨pq,kq,rfl,_⟩:=a1.val Eng.encI_len
  obtain ⟨pc,kc,rfl,_⟩:=b1.val iU
  exact ⟨pq,pc,kq,kc,qs,ct,rfl,a1,b1,cap2.le,by simp only [maxLen] at a3; omega,by simp only [maxLen] at b3; omega⟩
theorem rq_of {W:World} {x:List Value} (h:RdT Tryz.prog W 38 x):∃ q:Rq,x=aJu q/\True:=by
 obtain ⟨h1,_⟩:=h.struct Tryz.underlying38
 have hc:Tryz.prog.cellsOf 38=7:=by kernel_rfl
 rw [hc] at h1
 match x,h1 with
 | [c0,c1,c2,c3,c4,c5,c6],_ =>
  have k:Tryz.prog.cellsOf 3=1:=by kernel_rfl
  have kb:Tryz.prog.cellsOf 4=1:=by kernel_rfl
  obtain ⟨x0,e0,_⟩:=(h.fld1 Tryz.underlying38 0 rfl rfl rfl k rfl).i64 Tryz.underlying3
  obtain ⟨x1,e1,_⟩:=(h.fld1 Tryz.underlying38 1 rfl rfl rfl k rfl).i64 Tryz.underlying3
  obtain ⟨x2,e2,_⟩:=(h.fld1 Tryz.underlying38 2 rfl rfl rfl k rfl).i64 Tryz.underlying3
  obtain ⟨x3,e3,_⟩:=(h.fld1 Tryz.underlying38 3 rfl rfl rfl k rfl).i64 Tryz.underlying3
  obtain ⟨x4,e4,_⟩:=(h.fld1 Tryz.underlying38 4 rfl rfl rfl k rfl).i64 Tryz.underlying3
  obtain ⟨x5,e5,_⟩:=(h.fld1 Tryz.underlying38 5 rfl rfl rfl k rfl).i64 Tryz.underlying3
  obtain ⟨x6,e6⟩:=(h.fld1 Tryz.underlying38 6 rfl rfl rfl kb rfl).bool Tryz.underlying4
  simp at e0 e1 e2 e3 e4 e5 e6
  subst e0 e1 e2 e3 e4 e5 e6;exact ⟨⟨x0,x1,x2,x3,x4,x5,x6⟩,rfl,trivial⟩
theorem aHx {W:World} {r:Reach} {base:Nat} {v0:Value} (hv:Value.okWide Tryz.prog W r base 26 v0) (h:RdT Tryz.prog W 26 v0.cells.toList):∃ (p:Option Addr) (k:Nat) (l:List Rq),v0=.slice p l.length k/\SlE aJu 7 (mN W) (.slice p l.length k) l/\l.length<=9223372036854775807:=by
 obtain ⟨a,len,cap,rfl⟩:=okWide_slice Tryz.underlying26 hv
 have h':RdT Tryz.prog W 26 [Value.slice a len cap]:=h
 obtain ⟨v,e,l,h1,h2,h3⟩:=h'.sliceE Tryz.underlying26 (s:=7) (by kernel_rfl) (by omega) (fun x hx=>rq_of hx)
 simp only [dV,and_true] at e;subst e
 obtain ⟨p,k,e2,_⟩:=h1.val (enc:=aJu) (s:=7) (fun _=>rfl)
 rw [e2] at h1 ⊢
 exact ⟨p,k,l,rfl,h1,by simp only [maxLen] at h3; omega⟩
end Go.Proofs.YtnijkofdlepfjaaGreat
namespace Go.Ev
open Go.Eng
inductive Tr (α:Type) where
  | e
  | n (v:Option α) (l r:Tr α)
noncomputable def Tr.get {α:Type} (t:Tr α):Nat->Option α:=
  Tr.rec (fun _=>none) (fun v _ _ ihl ihr k=>Bool.rec (Bool.rec (ihr (k / 2-1)) (ihl (k / 2)) ((k % 2).beq 1)) v (k.beq 0)) t
noncomputable def Tr.path {α:Type} (x:Option α) (f:Nat):Nat->Option (Tr α):=
  Nat.rec (fun _=>none) (fun _ ih k=>Bool.rec (Bool.rec (Option.rec none (fun r=>some (.n none .e r)) (ih (k / 2-1))) (Option.rec none (fun l=>some (.n none l .e)) (ih (k / 2))) ((k % 2).beq 1)) (some (.n x .e .e)) (k.beq 0)) f
noncomputable def Tr.put {α:Type} (f:Nat) (t:Tr α) (k:Nat) (x:Option α):Option (Tr α):=
  Tr.rec (motive:=fun _=>Nat->Option (Tr α)) (fun k=>Tr.path x f k) (fun v l r ihl ihr k=>Bool.rec (Bool.rec (Option.rec none (fun r'=>some (.n v l r')) (ihr (k / 2-1))) (Option.rec none (fun l'=>some (.n v l' r)) (ihl (k / 2))) ((k % 2).beq 1)) (some (.n x l r)) (k.beq 0)) t k
theorem bqr {β:Type} (a b:Nat) (x y:β):(Bool.rec y x (Nat.beq a b):β)=if a=b then x else y:=by
  by_cases h:a=b
  · subst h; rw [if_pos rfl,show Nat.beq a a=true from eN a]
  · rw [if_neg h]
    cases e:Nat.beq a b with
    | true=>exact absurd (aO e) h
    | false=>rfl
theorem opr {α β:Type} (o:Option α) (g:α->β):(Option.rec none (fun a=>some (g a)) o:Option β)=o.map g:=by cases o <;> rfl
theorem bq {β:Type} (a b:Nat) (x y:β):(bif Nat.beq a b then x else y)=if a=b then x else y:=by
  by_cases h:a=b
  · subst h; rw [if_pos rfl,show Nat.beq a a=true from eN a]; rfl
  · rw [if_neg h]
    cases e:Nat.beq a b with
    | true=>exact absurd (aO e) h
    | false=>rfl
theorem Tr.get_e {α:Type} (k:Nat):(Tr.e:Tr α).get k=none:=rfl
theorem Tr.get_n {α:Type} (v:Option α) (l r:Tr α) (k:Nat):(Tr.n v l r).get k=if k=0 then v else if k % 2=1 then l.get (k / 2) else r.get (k / 2-1):=by
  show (Bool.rec (Bool.rec (r.get (k / 2-1)) (l.get (k / 2)) ((k % 2).beq 1)) v (k.beq 0):Option α)=_
  rw [bqr,bqr]
theorem Tr.path_s {α:Type} (x:Option α) (f k:Nat):Tr.path x (f+1) k=if k=0 then some (.n x .e .e) else if k % 2=1 then (Tr.path x f (k / 2)).map (fun l=>.n none l .e) else (Tr.path x f (k / 2-1)).map (fun r=>.n none .e r):=by
  show (Bool.rec (Bool.rec (Option.rec none (fun r=>some (.n none .e r)) (Tr.path x f (k / 2-1))) (Option.rec none (fun l=>some (.n none l .e)) (Tr.path x f (k / 2))) ((k % 2).beq 1)) (some (.n x .e .e)) (k.beq 0):Option (Tr α))=_
  rw [bqr,bqr,opr,opr]
theorem Tr.put_n {α:Type} (f:Nat) (v:Option α) (l r:Tr α) (k:Nat) (x:Option α):Tr.put f (.n v l r) k x=if k=0 then some (.n x l r) else if k % 2=1 then (Tr.put f l (k / 2) x).map (fun l'=>.n v l' r) else (Tr.put f r (k / 2-1) x).map (fun r'=>.n v l r'):=by
  show (Bool.rec (Bool.rec (Option.rec none (fun r'=>some (.n v l r')) (Tr.put f r (k / 2-1) x)) (Option.rec none (fun l'=>some (.n v l' r)) (Tr.put f l (k / 2) x)) ((k % 2).beq 1)) (some (.n x l r)) (k.beq 0):Option (Tr α))=_
  rw [bqr,bqr,opr,opr]
theorem Tr.get_path {α:Type} (x:Option α):∀ (f k j:Nat) (t:Tr α),Tr.path x f k=some t->t.get j=if j=k then x else none:=by
  intro f
  induction f with
  | zero=>intro k j t h; simp [Tr.path] at h
  | succ f ih =>
    intro k j t h
    rw [Tr.path_s] at h
    by_cases hk:k=0
    · rw [if_pos hk,aD] at h
      subst h hk;rw [Tr.get_n]
      by_cases hj:j=0 <;> simp [hj,Tr.get_e]
    · rw [if_neg hk] at h
      by_cases h2:k % 2=1
      · rw [if_pos h2,aQ] at h
        obtain ⟨l,hl,rfl⟩:=h
        rw [Tr.get_n,ih _ (j / 2) _ hl]
        by_cases hj:j=0
        · simp [hj,Ne.symm hk]
        · by_cases hj2:j % 2=1
          · by_cases e:j=k
            · simp [e,h2,hk]
            · have:j / 2≠k / 2:=by omega
              simp [hj,hj2,e,this]
          · have:j≠k:=fun e=>hj2 (e ▸ h2)
            simp [hj,hj2,this,Tr.get_e]
      · rw [if_neg h2,aQ] at h
        obtain ⟨r,hr,rfl⟩:=h
        rw [Tr.get_n,ih _ (j / 2-1) _ hr]
        by_cases hj:j=0
        · simp [hj,Ne.symm hk]
        · by_cases hj2:j % 2=1
          · have:j≠k:=fun e=>h2 (e ▸ hj2)
            simp [hj,hj2,this,Tr.get_e]
          · by_cases e:j=k
            · simp [e,h2,hk]
            · have:j / 2-1≠k / 2-1:=by omega
              simp [hj,hj2,e,this]
theorem Tr.get_put {α:Type} (f:Nat) (x:Option α):∀ (t t':Tr α) (k j:Nat),Tr.put f t k x=some t'->t'.get j=if j=k then x else t.get j:=by
  intro t
  induction t with
  | e=>intro t' k j h; rw [Tr.get_path x f k j t' h]; rfl
  | n v l r ihl ihr =>
    intro t' k j h
    rw [Tr.put_n] at h
    by_cases hk:k=0
    · rw [if_pos hk,aD] at h
      subst h hk;rw [Tr.get_n,Tr.get_n]
      by_cases hj:j=0 <;> simp [hj]
    · rw [if_neg hk] at h
      by_cases h2:k % 2=1
      · rw [if_pos h2,aQ] at h
        obtain ⟨l',hl,rfl⟩:=h
        rw [Tr.get_n,Tr.get_n,ihl _ _ (j / 2) hl]
        by_cases hj:j=0
        · simp [hj,Ne.symm hk]
        · by_cases hj2:j % 2=1
          · by_cases e:j=k
            · simp [e,h2,hk]
            · have:j / 2≠k / 2:=by omega
              simp [hj,hj2,e,this]
          · have:j≠k:=fun e=>hj2 (e ▸ h2)
            simp [hj,hj2,this]
      · rw [if_neg h2,aQ] at h
        obtain ⟨r',hr,rfl⟩:=h
        rw [Tr.get_n,Tr.get_n,ihr _ _ (j / 2-1) hr]
        by_cases hj:j=0
        · simp [hj,Ne.symm hk]
        · by_cases hj2:j % 2=1
          · have:j≠k:=fun e=>h2 (e ▸ hj2)
            simp [hj,hj2,this]
          · by_cases e:j=k
            · simp [e,h2,hk]
            · have:j / 2-1≠k / 2-1:=by omega
              simp [hj,hj2,e,this]
/-! what is carried out at once: the same -/
def fN:Nat->Option Nat
  | 0=>some 0
  | n+1=>some (n+1)
theorem aDu (n:Nat):fN n=some n:=by cases n <;> rfl
def fZ:Int->Option Int
  | .ofNat n=>match fN n with
    | some m=>some (.ofNat m)
    | none=>none
  | .negSucc n=>match fN n with
    | some m=>some (.negSucc m)
    | none=>none
theorem fZ_eq (n:Int):fZ n=some n:=by cases n <;> simp [fZ,aDu]
noncomputable def fB (l:List UInt8):Option (List UInt8):=
  List.rec (some []) (fun b _ ih=>Option.rec none (fun n=>Option.rec none (fun l'=>some (UInt8.ofNat n::l')) ih) (fN b.toNat)) l
theorem aVv (l:List UInt8):fB l=some l:=by
  induction l with
  | nil=>rfl
  | cons b l ih =>
    show (Option.rec none (fun n=>Option.rec none (fun l'=>some (UInt8.ofNat n::l')) (fB l)) (fN b.toNat):Option (List UInt8))=_
    rw [ih,aDu]; simp
def fA:Option Addr->Option (Option Addr)
  | none=>some none
  | some ⟨i,o,s⟩=>match fN i,fN o,s with
    | some i',some o',none=>some (some ⟨i',o',none⟩)
    | some i',some o',some s=>some (some ⟨i',o',some s⟩)
    | _,_,_=>none
theorem fA_eq (a:Option Addr):fA a=some a:=by
  rcases a with _|⟨i,o,_|s⟩ <;> simp [fA,aDu]
noncomputable def fV1:Value->Option Value
  | .bool true=>some (.bool true)
  | .bool false=>some (.bool false)
  | .int k n=>match fZ n with
    | some m=>some (.int k m)
    | none=>none
  | .string ⟨⟨l⟩⟩=>match fB l with
    | some l'=>some (.string ⟨⟨l'⟩⟩)
    | none=>none
  | .pointer a=>match fA a with
    | some a'=>some (.pointer a')
    | none=>none
  | .slice a n c=>match fA a,fN n,fN c with
    | some a',some n',some c'=>some (.slice a' n' c')
    | _,_,_=>none
  | v=>some v
theorem aQm (v:Value):fV1 v=some v:=by
  cases v with
  | bool b=>cases b <;> rfl
  | string s=>obtain ⟨⟨l⟩⟩:=s; simp [fV1,aVv]
  | _=>simp [fV1,fZ_eq,fA_eq,aDu]
noncomputable def fL1 (l:List Value):Option (List Value):=
  List.rec (some []) (fun a _ ih=>Option.rec none (fun a'=>Option.rec none (fun l'=>some (a'::l')) ih) (fV1 a)) l
theorem aAs (l:List Value):fL1 l=some l:=by
  induction l with
  | nil=>rfl
  | cons b l ih =>
    show (Option.rec none (fun a'=>Option.rec none (fun l'=>some (a'::l')) (fL1 l)) (fV1 b):Option (List Value))=_
    rw [ih,aQm]
noncomputable def fV:Value->Option Value
  | .agg ⟨l⟩=>match fL1 l with
    | some l'=>some (.agg ⟨l'⟩)
    | none=>none
  | .tuple ⟨l⟩=>match fL1 l with
    | some l'=>some (.tuple ⟨l'⟩)
    | none=>none
  | .func f ⟨l⟩ ⟨m⟩=>match fL1 l,fL1 m with
    | some l',some m'=>some (.func f ⟨l'⟩ ⟨m'⟩)
    | _,_=>none
  | v=>fV1 v
theorem aQn (v:Value):fV v=some v:=by
  cases v with
  | agg c=>obtain ⟨l⟩:=c; simp [fV,aAs]
  | tuple c=>obtain ⟨l⟩:=c; simp [fV,aAs]
  | func f c d=>obtain ⟨l⟩:=c; obtain ⟨m⟩:=d; simp [fV,aAs]
  | _=>simp [fV,aQm]
section
abbrev Rn:=Nat->Option (Nat × Nat × Nat)
def Rn.le (ρ ρ':Rn):Prop:=∀ i x,ρ i=some x->ρ' i=some x
def big:Nat:=1180591620717411303424
def mX:Nat:=2361183241434822606848
def nD (c:Nat):Nat:=c % big
def aOf (c:Nat):Nat:=c % mX
def rnA (ρ:Rn):Option Addr->Option (Option Addr)
  | none=>some none
  | some ⟨i,o,none⟩=>match ρ i with
    | some (b,s,_)=>some (some ⟨b,s+o,none⟩)
    | none=>none
  | some ⟨_,_,some _⟩=>none
def rnS (ρ:Rn) (i o n c:Nat):Option Value:=match ρ i with
  | some (b,s,e) =>
    if c<big then some (.slice (some ⟨b,s+o,none⟩) n c)
    else if c<mX then some (.slice (some ⟨b,s+o,none⟩) n (nD c+e))
    else if n=0 then (if e=0 then some (.slice (some ⟨b,s+o,none⟩) 0 0) else some (.slice (some ⟨b,s+(o+(aOf c)),none⟩) 0 e))
    else none
  | none=>none
def rnF (ρ:Rn):Fn->Option Fn
  | .func f=>some (.func f)
  | .yield l=>match ρ l with
    | some (b,_,_)=>some (.yield b)
    | none=>none
  | _=>none
mutual
def rn (ρ:Rn):Value->Option Value
  | .bool b=>some (.bool b)
  | .int k n=>some (.int k n)
  | .string s=>some (.string s)
  | .pointer a=>match rnA ρ a with
    | some a'=>some (.pointer a')
    | none=>none
  | .slice none n c=>some (.slice none n c)
  | .slice (some ⟨i,o,none⟩) n c=>rnS ρ i o n c
  | .map none=>some (.map none)
  | .map (some i)=>match ρ i with
    | some (b,_,_)=>some (.map (some b))
    | none=>none
  | .func f xs cs=>match rnF ρ f,rnR ρ xs,rnR ρ cs with
    | some f',some xs',some cs'=>some (.func f' xs' cs')
    | _,_,_=>none
  | .nilFunc=>some .nilFunc
  | .nilIface=>some .nilIface
  | .agg cs=>match rnR ρ cs with
    | some cs'=>some (.agg cs')
    | none=>none
  | .tuple cs=>match rnR ρ cs with
    | some cs'=>some (.tuple cs')
    | none=>none
  | _=>none
def rnR (ρ:Rn):Array Value->Option (Array Value)
  | ⟨l⟩=>match rnL ρ l with
    | some l'=>some l'.toArray
    | none=>none
def rnL (ρ:Rn):List Value->Option (List Value)
  | []=>some []
  | v::l=>match rn ρ v,rnL ρ l with
    | some v',some l'=>some (v'::l')
    | _,_=>none
end
section
variable {ρ ρ':Rn}
theorem aQo (h:ρ.le ρ') {a:Option Addr} {a':Option Addr} (e:rnA ρ a=some a'):rnA ρ' a=some a':=by
  rcases a with _|⟨i,o,_|s⟩
  · exact e
  · simp only [rnA] at e ⊢
    cases hi:ρ i with
    | none=>simp [hi] at e
    | some x=>rw [h i x hi]; rw [hi] at e; exact e
  · simp [rnA] at e
theorem aQp (h:ρ.le ρ') {i o n c:Nat} {u:Value} (e:rnS ρ i o n c=some u):rnS ρ' i o n c=some u:=by
  unfold rnS at e ⊢
  cases hi:ρ i with
  | none=>simp [hi] at e
  | some x=>rw [h i x hi]; rw [hi] at e; exact e
theorem aQq (h:ρ.le ρ') {f f':Fn} (e:rnF ρ f=some f'):rnF ρ' f=some f':=by
  cases f with
  | yield l =>
    simp only [rnF] at e ⊢
    cases hi:ρ l with
    | none=>simp [hi] at e
    | some x=>rw [h l x hi]; rw [hi] at e; exact e
  | _=>exact e
mutual
theorem oK (h:ρ.le ρ'):∀ {v u:Value},rn ρ v=some u->rn ρ' v=some u
  | .bool b,u,e=>e
  | .int k n,u,e=>e
  | .string s,u,e=>e
  | .float ..,u,e=>by simp [rn] at e
  | .complex ..,u,e=>by simp [rn] at e
  | .chan ..,u,e=>by simp [rn] at e
  | .iface ..,u,e=>by simp [rn] at e
  | .pointer a,u,e=>by
    simp only [rn] at e ⊢
    cases ha:rnA ρ a with
    | none=>simp [ha] at e
    | some a'=>rw [aQo h ha]; rw [ha] at e; exact e
  | .slice none n c,u,e=>e
  | .slice (some ⟨i,o,none⟩) n c,u,e=>by simp only [rn] at e ⊢; exact aQp h e
  | .slice (some ⟨i,o,some _⟩) n c,u,e=>by simp [rn] at e
  | .map none,u,e=>e
  | .map (some i),u,e=>by
    simp only [rn] at e ⊢
    cases hi:ρ i with
    | none=>simp [hi] at e
    | some x=>rw [h i x hi]; rw [hi] at e; exact e
  | .func f xs cs,u,e=>by
    simp only [rn] at e ⊢
    cases h1:rnF ρ f with
    | none=>simp [h1] at e
    | some f'=>cases h2:rnR ρ xs with
      | none=>simp [h1,h2] at e
      | some xs'=>cases h3:rnR ρ cs with
        | none=>simp [h1,h2,h3] at e
        | some cs'=>rw [aQq h h1,uW h h2,uW h h3]; rw [h1,h2,h3] at e; exact e
  | .nilFunc,u,e=>e
  | .nilIface,u,e=>e
  | .agg cs,u,e=>by
    simp only [rn] at e ⊢
    cases h1:rnR ρ cs with
    | none=>simp [h1] at e
    | some cs'=>rw [uW h h1]; rw [h1] at e; exact e
  | .tuple cs,u,e=>by
    simp only [rn] at e ⊢
    cases h1:rnR ρ cs with
    | none=>simp [h1] at e
    | some cs'=>rw [uW h h1]; rw [h1] at e; exact e
theorem uW (h:ρ.le ρ'):∀ {v u:Array Value},rnR ρ v=some u->rnR ρ' v=some u
  | ⟨l⟩,u,e=>by
    simp only [rnR] at e ⊢
    cases h1:rnL ρ l with
    | none=>simp [h1] at e
    | some l'=>rw [lR h h1]; rw [h1] at e; exact e
theorem lR (h:ρ.le ρ'):∀ {v u:List Value},rnL ρ v=some u->rnL ρ' v=some u
  | [],u,e=>e
  | v::l,u,e=>by
    simp only [rnL] at e ⊢
    cases h1:rn ρ v with
    | none=>simp [h1] at e
    | some v'=>cases h2:rnL ρ l with
      | none=>simp [h1,h2] at e
      | some l'=>rw [oK h h1,lR h h2]; rw [h1,h2] at e; exact e
end
mutual
def gR:Value->Bool
  | .bool _ | .int _ _ | .string _ | .pointer none | .slice none _ _ | .map none | .nilFunc | .nilIface=>true
  | .func (.func _) xs cs=>aHy xs && aHy cs
  | .agg cs | .tuple cs=>aHy cs
  | _=>false
def aHy:Array Value->Bool
  | ⟨l⟩=>aDv l
def aDv:List Value->Bool
  | []=>true
  | v::l=>gR v && aDv l
end
mutual
theorem iM:∀ {v:Value},gR v=true->rn ρ v=some v
  | .bool b,_=>rfl
  | .int k n,_=>rfl
  | .string s,_=>rfl
  | .float ..,e=>by simp [gR] at e
  | .complex ..,e=>by simp [gR] at e
  | .chan ..,e=>by simp [gR] at e
  | .iface ..,e=>by simp [gR] at e
  | .pointer none,_=>rfl
  | .pointer (some a),e=>by simp [gR] at e
  | .slice none n c,_=>rfl
  | .slice (some a) n c,e=>by simp [gR] at e
  | .map none,_=>rfl
  | .map (some i),e=>by simp [gR] at e
  | .func (.func f) xs cs,e=>by
    simp only [gR,aJ] at e
    simp [rn,rnF,uX e.1,uX e.2]
  | .func (.method ..) xs cs,e=>by simp [gR] at e
  | .func (.methodOf ..) xs cs,e=>by simp [gR] at e
  | .func (.via ..) xs cs,e=>by simp [gR] at e
  | .func (.yield ..) xs cs,e=>by simp [gR] at e
  | .nilFunc,_=>rfl
  | .nilIface,_=>rfl
  | .agg cs,e=>by simp only [gR] at e; simp [rn,uX e]
  | .tuple cs,e=>by simp only [gR] at e; simp [rn,uX e]
theorem uX:∀ {v:Array Value},aHy v=true->rnR ρ v=some v
  | ⟨l⟩,e=>by simp only [aHy] at e; simp [rnR,aHz e]
theorem aHz:∀ {v:List Value},aDv v=true->rnL ρ v=some v
  | [],_=>rfl
  | v::l,e=>by
    simp only [aDv,aJ] at e
    simp [rnL,iM e.1,aHz e.2]
end
theorem rnL_nil:rnL ρ []=some []:=rfl
theorem rnL_cons {v:Value} {l us:List Value}:rnL ρ (v::l)=some us↔∃ u r,rn ρ v=some u/\rnL ρ l=some r/\us=u::r:=by
  simp only [rnL]
  cases h1:rn ρ v with
  | none=>simp
  | some v'=>cases h2:rnL ρ l with
    | none=>simp
    | some l'=>simp [eq_comm]
theorem iJ {l m us:List Value}:rnL ρ (l ++ m)=some us↔∃ a b,rnL ρ l=some a/\rnL ρ m=some b/\us=a ++ b:=by
  induction l generalizing us with
  | nil=>simp [rnL]
  | cons v l ih =>
    rw [aG,rnL_cons]
    constructor
    · rintro ⟨u,r,h1,h2,rfl⟩
      obtain ⟨a,b,h3,h4,rfl⟩:=ih.1 h2
      exact ⟨u::a,b,rnL_cons.2 ⟨u,a,h1,h3,rfl⟩,h4,rfl⟩
    · rintro ⟨a,b,h1,h2,rfl⟩
      obtain ⟨u,r,h3,h4,rfl⟩:=rnL_cons.1 h1
      exact ⟨u,r ++ b,h3,ih.2 ⟨r,b,h4,h2,rfl⟩,rfl⟩
theorem rnL_len {l us:List Value} (h:rnL ρ l=some us):us.length=l.length:=by
  induction l generalizing us with
  | nil=>simp [rnL] at h; simp [h]
  | cons v l ih =>
    obtain ⟨u,r,_,h2,rfl⟩:=rnL_cons.1 h
    simp [ih h2]
theorem zP {l us:List Value} (h:rnL ρ l=some us) {i:Nat} {v:Value} (hi:l[i]?=some v):∃ u,us[i]?=some u/\rn ρ v=some u:=by
  induction l generalizing us i with
  | nil=>simp at hi
  | cons w l ih =>
    obtain ⟨u,r,h1,h2,rfl⟩:=rnL_cons.1 h
    cases i with
    | zero=>simp at hi; subst hi; exact ⟨u,rfl,h1⟩
    | succ i=>exact ih h2 (by simpa using hi)
theorem iI {l us:List Value} (n:Nat) (h:rnL ρ l=some us):rnL ρ (l.take n)=some (us.take n)/\rnL ρ (l.drop n)=some (us.drop n):=by
  have h0:=h
  rw [← bH n l] at h0
  obtain ⟨a,b,h1,h2,rfl⟩:=iJ.1 h0
  have hl:=rnL_len h1
  have hlen:=rnL_len h
  by_cases hn:n<=l.length
  · have:a.length=n:=by rw [hl,aL]; omega
    rw [List.take_left' this,List.drop_left' this];exact ⟨h1,h2⟩
  · have e1:l.take n=l:=bV (by omega)
    have e2:l.drop n=[]:=cE (by omega)
    rw [e2] at h2
    simp [rnL] at h2
    subst h2;rw [bX]
    have:a.length<=n:=by rw [hl,e1]; omega
    rw [bV this,cE this,e2];exact ⟨h1,rfl⟩
end
end
noncomputable section
abbrev Fr:=Tr Value
inductive AO where
  | cells (c:List Value) (t:TypeId)
  | map (es:List MapEntry) (clock:Nat)
  | loop (st:LoopState) (pd:Option Code) (fn:FuncId) (fr:Fr) (M:Nat) (ps:Array Tmp) (asg body:Code)
  | mark
structure AH where
  next:Nat
  m:Tr AO
def AH.get (h:AH) (i:Nat):Option AO:=h.m.get i
def AH.put (h:AH) (i:Nat) (o:Option AO):Option AH:=Option.rec none (fun m=>some ⟨h.next,m⟩) (Tr.put 16 h.m i o)
def AH.new (h:AH) (o:AO):Option AH:=Option.rec none (fun m=>Option.rec none (fun n=>some ⟨n,m⟩) (fN (h.next+1))) (Tr.put 16 h.m h.next (some o))
def nW (M:Nat) (f:Fr) (d:Option Tmp) (v:Value):Option Fr:=
  Option.rec (some f) (fun d=>Bool.rec none (Option.rec none (fun v'=>Tr.put 10 f d (some v')) (fV v)) (Nat.blt d M)) d
/-! short words -/
inductive Od where
  | t (n:Nat)
  | c (v:Value)
inductive Mi where
  | not (x:Od)
  | pick (c a b:Od)
  | ext (x:Od) (i:Nat)
  | nck (x:Od)
  | mkf (f:FuncId) (xs cs:List Od)
  | part (x:Od) (o:Nat) (n:Option Nat)
  | ixa (x y:Od) (n s:Nat) (a:Bool)
  | cut (x:Od) (lo hi mx:Option Od) (s:Nat)
  | acu (x:Od) (n:Nat)
  | bld (zs:List Value) (ps:List (Nat × Nat × Od))
  | len (x:Od)
  | cnv (k:IntKind) (x:Od)
  | nil (k:Nat) (ne:Bool) (x y:Od)
  | b2s (x:Od)
  | lkp (z:Value) (ok:Bool) (x k:Od) (n:Nat)
  | gen (f:Fr->Option Value)
inductive Wr where
  | alc (t:TypeId) (zs:List Value)
  | box (t:TypeId) (x:Od)
  | bsl (t:TypeId) (n s:Nat) (zs:List Value) (ps:List (Nat × Nat × Od))
  | mks (t:TypeId) (s b:Nat) (zs:List Value) (l c:Od)
  | mkm
  | app (t:TypeId) (s b:Nat) (x y:Od)
  | cpy (s:Nat) (x y:Od)
  | clr (s:Nat) (zs:List Value) (x:Od)
  | s2b (t:TypeId) (x:Od)
  | mup (m k v:Od) (n:Nat)
inductive In where
  | mv (x:Od)
  | bin (op:BinOp) (x y:Od)
  | ld1 (x:Od)
  | ldn (x:Od) (n:Nat)
  | fld (x:Od) (k:Nat)
  | idx (a:Option Nat) (x y:Od) (s:Nat)
  | st (x y:Od) (n:Nat)
  | call (f:Od) (xs:List Od)
  | mi (i:Mi)
  | wr (i:Wr)
structure Op1 where
  g:Option (Nat × Bool)
  d:Option Nat
  i:In
def evX (fr:Fr):Operand->Option Value
  | .tmp t=>fr.get t
  | .const v=>some v
  | .global _=>none
  | .func f=>some (.func (.func f) #[] #[])
def rdX (fr:Fr) (x:Operand):Value:=(evX fr x).getD undef
def aFb (fr:Fr) (o:Op):Bool:=o.operands.toList.all fun x=>match evX fr x with
  | some v=>gR v
  | none=>false
def qP (P:Program) {α:Type}:Sem α->Option α
  | .pure a=>some a
  | .program k=>qP P (k P)
  | .mark _ k=>qP P k
  | _=>none
def valO:Option Next->Option Value
  | some (.value v)=>bif gR v then some v else none
  | _=>none
def aAt (P:Program) (o:Oper) (fr:Fr):Option Value:=bif aFb fr o.op then valO (qP P (execOp (rdX fr) o)) else none
def gW:Operand->Option Od
  | .tmp t=>some (.t t)
  | .const v=>bif gR v then some (.c v) else none
  | .global _=>none
  | .func f=>some (.c (.func (.func f) #[] #[]))
def lI:List Operand->Option (List Od)
  | []=>some []
  | x::xs=>match gW x,lI xs with
    | some v,some vs=>some (v::vs)
    | _,_=>none
def odO:Option Operand->Option (Option Od)
  | none=>some none
  | some x=>match gW x with
    | some v=>some (some v)
    | none=>none
def aQr (P:Program) (fs:List Field):List (Nat × Operand)->Option (List (Nat × Nat × Od))
  | []=>some []
  | (i,x)::r=>match fs[i]?,gW x,aQr P fs r with
    | some f,some v,some l=>match szP P f.type with
      | some s=>some ((f.offset,s,v)::l)
      | none=>none
    | _,_,_=>none
def aOg (s:Nat):List (Nat × Operand)->Option (List (Nat × Nat × Od))
  | []=>some []
  | (i,x)::r=>match gW x,aOg s r with
    | some v,some l=>some ((i*s,s,v)::l)
    | _,_=>none
def zsP (P:Program) (t:TypeId):Option (List Value):=match kD P t with
  | some z=>bif gR z then some z.cells.toList else none
  | none=>none
def aQs (P:Program) (t:TypeId):Nat:=match P.underlying t with
  | some (.pointer _)=>1
  | some (.slice _)=>2
  | some (.func ..)=>3
  | some (.int _)|some .string=>4
  | _=>0
def binK (op:BinOp):Bool:=match op with
  | .eql | .neq=>true
  | _=>false
def aMl (P:Program) (o:Oper) (op:BinOp) (t:TypeId) (x y:Od):Option In:=
  bif binK op then match aQs P t with
    | 0=>some (.mi (.gen (aAt P o)))
    | 4=>some (.bin op x y)
    | k=>some (.mi (.nil k (match op with | .neq=>true|_=>false) x y))
  else some (.bin op x y)
def aMm (P:Program) (o:Oper) (x:Od) (t:TypeId):Option In:=match P.underlying t with
  | some (.slice _)=>some (.mi (.len x))
  | some .string=>some (.mi (.gen (aAt P o)))
  | _=>none
def zQ (f:Operand) (xs:Option (List Od)):Option In:=match xs,gW f with
  | some xs,some f=>some (.call f xs)
  | _,_=>none
def lC (P:Program) (o:Oper) (b:Builtin) (xs:Option (List Od)) (ts:List TypeId):Option In:=match b,xs,ts with
  | .len,some [x],[t]=>aMm P o x t
  | .min,some _,_=>some (.mi (.gen (aAt P o)))
  | .max,some _,_=>some (.mi (.gen (aAt P o)))
  | .append,some [x,y],[t,u]=>match P.underlying t,P.underlying u with
    | some (.slice e),some (.slice _)|some (.slice e),some .string=>match szP P e,nC P e,zsP P e with
      | some s,some b,some zs=>bif zs.length.beq s then some (.wr (.app e s b x y)) else none
      | _,_,_=>none
    | _,_=>none
  | .copy,some [x,y],[t,_]=>match P.underlying t with
    | some (.slice e)=>match szP P e with
      | some s=>some (.wr (.cpy s x y))
      | none=>none
    | _=>none
  | .clear,some [x],[t]=>match P.underlying t with
    | some (.slice e)=>match szP P e,zsP P e with
      | some s,some zs=>bif zs.length.beq s then some (.wr (.clr s zs x)) else none
      | _,_=>none
    | _=>none
  | _,_,_=>none
def mJ (P:Program) (o:Oper) (c:Call):Option In:=match c.callee with
  | .value f=>zQ f (lI c.args.toList)
  | .builtin b=>lC P o b (lI c.args.toList) c.argTypes.toList
  | .invoke ..=>none
def tS (P:Program) (o:Oper) (s d:TypeId) (x:Od):Option In:=match P.underlying s,P.underlying d with
  | some (.int _),some (.int k)=>some (.mi (.cnv k x))
  | some .string,some .string=>some (.mi (.gen (aAt P o)))
  | some .string,some (.slice e)=>match P.underlying e,szP P e with
    | some (.int .u8),some 1=>some (.wr (.s2b e x))
    | _,_=>none
  | some (.slice e),some .string=>match P.underlying e with
    | some (.int .u8)=>some (.mi (.b2s x))
    | _=>none
  | _,_=>none
def aFc (P:Program) (kt:TypeId):Option Nat:=match P.underlying kt with
  | some (.int _)=>some 0
  | some (.struct fs)=>match fs.size with
    | 0=>none
    | n+1=>match aBk P kt (n+1) && !P.stoodInHeld kt with
      | true=>some (n+1)
      | false=>none
  | _=>none
def fX (P:Program) (o:Oper):Option In:=match o.op with
  | .move x | .assign x=>(gW x).map .mv
  | .binOp op t x y _=>match gW x,gW y with
    | some x,some y=>aMl P o op t x y
    | _,_=>none
  | .load t x=>match gW x,lP P t,szP P t with
    | some x,some false,some 1=>some (.ld1 x)
    | some x,some true,some n=>some (.ldn x n)
    | _,_,_=>none
  | .fieldAddr s x f=>match gW x,aN1 P s f with
    | some x,some k=>some (.fld x k)
    | _,_=>none
  | .indexAddr t x y=>match gW x,gW y,P.underlying t with
    | some x,some y,some (.slice e)=>match szP P e with
      | some s=>some (.idx none x y s)
      | none=>none
    | some x,some y,some (.array n e)=>match szP P e with
      | some s=>some (.idx (some n) x y s)
      | none=>none
    | _,_,_=>none
  | .store t x y=>match gW x,gW y,szP P t with
    | some x,some y,some n=>some (.st x y n)
    | _,_,_=>none
  | .call c=>mJ P o c
  | .unOp op _ x=>match op,gW x with
    | .not,some x=>some (.mi (.not x))
    | .neg,some _=>some (.mi (.gen (aAt P o)))
    | _,_=>none
  | .pick c a b=>match gW c,gW a,gW b with
    | some c,some a,some b=>some (.mi (.pick c a b))
    | _,_,_=>none
  | .extract x i=>(gW x).map fun x=>.mi (.ext x i)
  | .nilCheck x=>(gW x).map fun x=>.mi (.nck x)
  | .makeFunc (.func f) xs cs=>match lI xs.toList,lI cs.toList with
    | some xs,some cs=>some (.mi (.mkf f xs cs))
    | _,_=>none
  | .field t x f=>match gW x,P.underlying t with
    | some x,some (.struct fs)=>match fs[f]? with
      | some g=>match lP P g.type,szP P g.type with
        | some true,some n=>some (.mi (.part x g.offset (some n)))
        | some false,some 1=>some (.mi (.part x g.offset none))
        | _,_=>none
      | none=>none
    | _,_=>none
  | .index t x y=>match gW x,gW y,P.underlying t with
    | some x,some y,some (.array n e)=>match lP P e,szP P e with
      | some a,some s=>some (.mi (.ixa x y n s a))
      | _,_=>none
    | some _,some _,some .string=>some (.mi (.gen (aAt P o)))
    | _,_,_=>none
  | .slice t x lo hi mx=>match gW x,odO lo,odO hi,odO mx with
    | some x,some lo,some hi,some mx=>match P.underlying t with
      | some (.slice e)=>match szP P e with
        | some s=>some (.mi (.cut x lo hi mx s))
        | none=>none
      | some (.array n e)=>match lo,hi,mx,szP P e with
        | none,none,none,some _=>some (.mi (.acu x n))
        | _,_,_,_=>none
      | some .string=>match mx with
        | none=>some (.mi (.gen (aAt P o)))
        | some _=>none
      | _=>none
    | _,_,_,_=>none
  | .build t ps=>match P.underlying t,zsP P t with
    | some (.struct fs),some zs=>bif fs.toList.all (fun f=>(szP P f.type).isSome) then (aQr P fs.toList ps.toList).map fun l=>.mi (.bld zs l) else none
    | some (.array _ e),some zs=>match szP P e with
      | some s=>(aOg s ps.toList).map fun l=>.mi (.bld zs l)
      | none=>none
    | _,_=>none
  | .convert s d x=>match gW x with
    | some x=>tS P o s d x
    | none=>none
  | .lookup t x k ok=>match gW x,gW k,P.underlying t with
    | some x,some k,some (.map kt e)=>match aFc P kt,kD P e with
      | some n,some z=>bif gR z then some (.mi (.lkp z ok x k n)) else none
      | _,_=>none
    | _,_,_=>none
  | .alloc t=>(zsP P t).map fun zs=>.wr (.alc t zs)
  | .box t x=>(gW x).map fun x=>.wr (.box t x)
  | .buildSlice t n ps=>match P.underlying t with
    | some (.slice e)=>match szP P e,zsP P e with
      | some s,some zs=>bif zs.length.beq s then (aOg s ps.toList).map fun l=>.wr (.bsl e n s zs l) else none
      | _,_=>none
    | _=>none
  | .makeSlice t l c=>match P.underlying t,gW l,gW c with
    | some (.slice e),some l,some c=>match szP P e,nC P e,zsP P e with
      | some s,some b,some zs=>bif zs.length.beq s then some (.wr (.mks e s b zs l c)) else none
      | _,_,_=>none
    | _,_,_=>none
  | .makeMap _ none=>some (.wr .mkm)
  | .mapUpdate t m k v | .insert t m k v=>match P.underlying t,gW m,gW k,gW v with
    | some (.map kt _),some m,some k,some v=>match aFc P kt with
      | some n=>some (.wr (.mup m k v n))
      | none=>none
    | _,_,_,_=>none
  | _=>none
def op1 (P:Program) (all:Array Oper) (o:Oper):Option Op1:=
  match o.guard,fX P o with
  | none,some i=>some ⟨none,o.dst,i⟩
  | some (j,w),some i=>match (all[j]?).bind (·.dst) with
    | some d=>some ⟨some (d,w),o.dst,i⟩
    | none=>none
  | _,none=>none
def aKv (P:Program) (all:Array Oper):List Oper->Option (List Op1)
  | []=>some []
  | o::l=>match op1 P all o,aKv P all l with
    | some x,some y=>some (x::y)
    | _,_=>none
end
end Go.Ev
