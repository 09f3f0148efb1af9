/- Texts of this proof, one after the other; no conditions. -/
import Derived.Test.YtnijkofdlepfjaaGreatWA
import Derived.Shelf.SlSortCmp.NoneTotal
import Derived.WideKeyRuns
import Derived.Test.YtnijkofdlepfjaaGreatWB5
import Derived.Test.YtnijkofdlepfjaaGreatWB3
import Derived.Test.YtnijkofdlepfjaaGreatWB1
import Derived.Test.YtnijkofdlepfjaaGreatWB4
import Derived.Test.YtnijkofdlepfjaaGreatWB2
set_option linter.all false
namespace Go.Proofs.YtnijkofdlepfjaaGreat
open Go.Eng Go.Step
set_option maxRecDepth 100000
set_option maxHeartbeats 64000000
def aJq (m:Lb × Hp):List Value:=[int m.1.n,int m.1.f,int m.1.t,int m.1.a,int m.2.c,int m.2.b,int m.2.e,int m.2.a]
theorem qG (bA:Nat) (x:Lb) :
  Eng.Spec Tryz.prog (fv 83) [.pointer (some ⟨bA,0,none⟩),.agg #[int x.n,int x.f,int x.t,int x.a]] [] [] (fun r H'=>∃ c1 c2,r=.func (.func 153) #[] #[.pointer (some ⟨c1,0,none⟩),.pointer (some ⟨c2,0,none⟩)]/\H'=[sng c2 (.cells #[int x.n,int x.f,int x.t,int x.a] 126 (0,0)),sng c1 (.cells #[.pointer (some ⟨bA,0,none⟩)] 109 (0,0))]):=by
 refine A8 Tryz.func83 Tryz.ntmps83 fun N β=>?_
 refine Aa ?_
 refine C3 fun c1=>?_
 refine BV fun c2=>?_
 refine Aaa ?_;refine Adj ?_;refine Aaa ?_;exact AV ⟨c1,c2,rfl,rfl⟩
theorem qH {γ τ:PH} {A:GA} {G:Gr} (hG:aJp γ τ A G) (hg:GOK G) (c1 c2:Nat) (x:Lb) (hx:0<=x.a/\x.a<=2199023255552) :
  aP4 Tryz.prog (.func (.func 153) #[] #[.pointer (some ⟨c1,0,none⟩),.pointer (some ⟨c2,0,none⟩)]) [sng c1 (.cells #[.pointer (some ⟨A.b,0,none⟩)] 109 (0,0)),sng c2 (.cells #[int x.n,int x.f,int x.t,int x.a] 126 (0,0)),γ,τ] ((mvs G x).map (fun m=>[.agg (aJq m).toArray])):=by
 intro y S Own Inv Stop Ry hy hyl σ0 hI0
 obtain ⟨yl,rfl⟩:=hyl
 have hrooms:=fun n hn=>aGd hG hg n hn
 have hhop:=fun {i:Nat} {c:Ct} (hi:G.cs[i]?=some c) fr hfr=>aS0 hG hg hi fr hfr
 have hleave:=fun {i:Nat} {c:Ct} (hi:G.cs[i]?=some c) h hc he=>aLw hG hg hi h hc he
 obtain ⟨bA,pq,nq,kq,pc,kc,pg,kg,pr,kr,pd,kd⟩:=A
 obtain ⟨qv,hnq,cv,src,dst,rdy,dln,cus,gv,rv,dv,hcs,gaps,rooms,durs⟩:=hG
 dsimp only at qv hnq cv src dst rdy dln cus gv rv dv hcs gaps rooms durs hrooms hhop hleave ⊢
 have hlc:=hg.lc
 have bx41_3:=rdB c1 109 [.pointer (some ⟨bA,0,none⟩)]
 have v1:=rdC bx41_3 0
 have bx42_3:=rdB c2 126 [int x.n,int x.f,int x.t,int x.a]
 have x0:=rdC bx42_3 0
 have x2:=rdC bx42_3 2
 have x3:=rdC bx42_3 3
 simp only [aG,aH]
 refine CU [.pointer (some ⟨c1,0,none⟩),.pointer (some ⟨c2,0,none⟩)] Tryz.func153 Tryz.ntmps153 fun N β=>?_
 refine Abb ?_;refine Acj ?_;refine AG ?_;refine Aac ?_;refine Abh ?_
 refine BE [0,1,2,15,16] (X:=Nat × S) (0,σ0) (fun z=>z.1<=G.cs.length/\Inv (mvF G x 0 (G.cs.take z.1)).length z.2) (fun z=>[(17,int z.1)]) (fun z=>Own z.2) (fun z=>G.cs.length-z.1) fT ⟨by dsimp only; omega,hI0⟩ fP Sel.refl ?_
 rintro ⟨k,σ1⟩ ⟨hk,hI⟩
 dsimp only at hk hI ⊢
 by_cases hlt:k<G.cs.length
 rotate_left
 ·have hke:k=G.cs.length:=by omega
  subst hke;rw [bJ] at hI;refine Abp ?_
  refine BJ (gY rfl) (fun _ h=>h) Sel.refl ⟨σ1,rfl,.inl ?_⟩
  rw [aU];exact hI
 have hc:=aA hlt
 have hnext:=aJd G x hc
 have hat:=fun {j:Nat} {r:Int × Int} {m:Lb × Hp}=>aSy G x (j:=j) (r:=r) (m:=m) hc
 have hck:=xV (hg.cs _ (aF hc)).1
 have htr:=(hg.cs _ (aF hc)).2
 obtain ⟨bq,oq,rfl,hrd⟩:=oC hcs hc
 have hhop1:=fun fr hfr=>hhop hc fr hfr
 have hleave1:=fun h h1 h2=>hleave hc h h1 h2
 generalize G.cs[k]=c at hc hnext hat hck htr hrd hhop1 hleave1
 refine Aa8 ?_;refine Aab ?_;refine Aa9 ?_
 refine A3 fun b=>?_
 refine AD ?_;refine Adb ?_;refine Abr ?_
 revert b; intro b5
 refine AW (ρ:=sng b5 _) fL ?_
 have bx113_3:=rdB b5 71 [int c.f,int c.t,int c.s,int c.e,int c.r,int c.g,int c.l]
 have f0:=rdC bx113_3 0
 have f1:=rdC bx113_3 1
 by_cases hcf:c.f=x.n
 rotate_left
 ·have hmc:mvC G x k c=[]:=by unfold mvC; rw [if_pos hcf]
  refine Adu ?_;refine Aeb ?_;refine CM ?_
  refine AZ (k+1,σ1) ⟨by dsimp only; omega,?_⟩ (by dsimp only; omega) fP Sel.refl
  dsimp only
  rw [hnext,hmc,bX];exact hI
 have hmc:mvC G x k c=(iE G c.t).filterMap (mv1 G x k c):=by unfold mvC; rw [if_neg (by simp [hcf])]
 have hro:=hrooms c.t ⟨hck.2.1.1,by omega⟩
 refine Abn ?_;refine Abb ?_;refine Aac ?_
 refine GG hro rfl rfl (fun τ hτ=>by rw [bI] at hτ; simp [hτ]) rfl rfl ?_
 rintro v ρ hS
 obtain ⟨pv,kv,rfl,hrv⟩:=SlE.val (enc:=kX) mZ hS
 have hrl:(iE G c.t).length<=1200/\∀ p∈iE G c.t,0<=p.1/\p.1<p.2/\p.2<=1099511627776:=by
  have h:=xP hg c.t
  exact ⟨by omega,h.2.2⟩
 rw [hmc] at hnext
 have hat1:=fun {j:Nat} {r:Int × Int} {m:Lb × Hp}=>hat (j:=j) (r:=r) (m:=m) hcf
 have hmv:∀ r,mv1 G x k c r=match oV G k c (max x.a r.1) with
   | none=>none
   | some h=>if x.t<jR G c h\/G.q.dln<h.a\/(c.t≠G.q.dst/\r.2<=h.a) then none else some (⟨c.t,r.1,r.2,h.a⟩,h):=fun r=>rfl
 generalize mv1 G x k c=mv at hnext hat1 hmv
 generalize iE G c.t=L at hrv hrl hnext hat1 hS
 refine Abh ?_
 refine BE [0,1,2,4,5,15,16,17,30,31] (X:=Nat × S) (0,σ1) (fun z=>z.1<=L.length/\Inv ((mvF G x 0 (G.cs.take k)).length+((L.take z.1).filterMap mv).length) z.2) (fun z=>[(32,int z.1)]) (fun z=>Own z.2) (fun z=>L.length-z.1) fT ⟨by dsimp only; omega,by simpa using hI⟩ fP Sel.refl ?_
 rintro ⟨j,σ2⟩ ⟨hj,hI2⟩
 dsimp only at hj hI2 ⊢
 by_cases hlt2:j<L.length
 rotate_left
 ·have hke:j=L.length:=by omega
  subst hke;rw [bJ] at hI2;refine Abp ?_;refine Ad5 ?_;refine CM ?_
  refine AZ (k+1,σ2) ⟨by dsimp only; omega,?_⟩ (by dsimp only; omega) fP Sel.refl
  dsimp only
  rw [hnext,aB];exact hI2
 have hrr:=aA hlt2
 have hfm:=aNe mv hrr
 have hpp:=hrl.2 _ (aF hrr)
 have hat2:=fun {m:Lb × Hp}=>hat1 (m:=m) hrr
 obtain ⟨b6,o6,rfl,hRd6,y0,y1⟩:=aEh hrv hrr
 have hmv1:=hmv L[j]
 generalize L[j]=p at hrr hfm hpp hat2 hRd6 y0 y1 hmv1
 obtain ⟨m,hm⟩:∃ m,max x.a p.1=m:=⟨_,rfl⟩
 have hm0:0<=m/\m<=2199023255552:=by omega
 rw [hm] at hmv1
 have hho:=hhop1 m hm0
 have hr2:∀ σ∈[γ,τ],σ∈ρ::sng b5 (.cells #[int c.f,int c.t,int c.s,int c.e,int c.r,int c.g,int c.l] 71 (0,0))::β::sng c1 (.cells #[.pointer (some ⟨bA,0,none⟩)] 109 (0,0))::sng c2 (.cells #[int x.n,int x.f,int x.t,int x.a] 126 (0,0))::γ::τ::Ry:=fun σ hσ=>by
  simp only [aE,bD,or_false] at hσ
  rcases hσ with rfl|rfl <;> simp
 refine Ab2 ?_
 refine A3 fun b=>?_
 refine Aa6 ?_;refine Abb ?_;refine Abf ?_;refine EN ?_
 focus ((rw [hm]))
 revert b; intro b7
 cases hh:oV G k c m with
 | none =>
  rw [hh] at hho hmv1
  have hho:Ans Tryz.prog (fv 155) [.pointer (some ⟨bA,0,none⟩),int (k:Int),int m] [γ,τ] (fun r=>r=.tuple #[.agg #[int 0,int 0,int 0,int 0],.bool false]):=hho
  refine BT hho rfl rfl (fun σ hσ=>.inl (hr2 σ hσ)) rfl rfl ?_
  rintro _ rfl;refine Abk ?_
  refine A3 fun b=>?_
  refine AU ?_;refine Aba ?_;refine AC ?_
  revert b; intro b8
  refine A9 (.q 0 (.q 1 (.q 2 (.q 3 (.q 4 (.q 6 (.q 7 (.q 5 (.q 8 (.q 9 (.q 10 (.q 11 (.q 12 (.q 13 (.q 14 (.q 15 (.q 16 (.q 17 (.q 18 (.q 19 (.q 20 (.q 21 (.q 22 (.q 23 (.q 24 (.q 25 (.q 26 (.q 27 (.q 28 (.q 29 (.q 30 (.q 31 (.q 32 (.q 33 (.q 34 (.q 35 (.q 36 .nil))))))))))))))))))))))))))))))))))))) [] rfl (by kernel_rfl) Sel.nil ?_
  refine AP ?_;refine CZ ?_;refine Ac2 ?_;refine Aaf ?_;refine BU ?_;refine Adq ?_;refine BU ?_;refine Adq ?_;refine Abw ?_;refine Aaf ?_;refine AX rfl rfl rfl rfl rfl ?_;refine BU ?_;refine Acc ?_;refine Aeb ?_
  refine AZ (j+1,σ2) ⟨by dsimp only; omega,?_⟩ (by dsimp only; omega) fP (Sel.skip (Sel.skip Sel.refl))
  dsimp only
  rw [hfm,hmv1,Option.toList_none,bX];exact hI2
 | some h =>
  obtain ⟨e1,e2,e3,e4,e5,e6,e7⟩:=aAa hg hc hh
  have hle:=hleave1 h e1 ⟨by omega,by omega⟩
  rw [hh] at hho hmv1
  obtain ⟨hc0,hb0,he0,ha0⟩:=h
  dsimp only at e1 e2 e3 e4 e5 e6 e7 hmv1
  subst e1
  have hho:Ans Tryz.prog (fv 155) [.pointer (some ⟨bA,0,none⟩),int (k:Int),int m] [γ,τ] (fun r=>r=.tuple #[.agg #[int (k:Int),int hb0,int he0,int ha0],.bool true]):=hho
  have hle:Ans Tryz.prog (fv 156) [.pointer (some ⟨bA,0,none⟩),.agg #[int (k:Int),int hb0,int he0,int ha0]] [γ,τ] (fun r=>r=int (jR G c ⟨k,hb0,he0,ha0⟩)):=hle
  generalize jR G c ⟨k,hb0,he0,ha0⟩=lv at hle hmv1
  refine BT hho rfl rfl (fun σ hσ=>.inl (hr2 σ hσ)) rfl rfl ?_
  rintro _ rfl;refine Abk ?_
  refine A3 fun b=>?_
  refine AU ?_;refine Aba ?_;refine AC ?_
  revert b; intro b8
  refine A9 (.q 0 (.q 1 (.q 2 (.q 3 (.q 4 (.q 6 (.q 7 (.l 5 .e (.q 8 (.q 9 (.q 10 (.q 11 (.q 12 (.q 13 (.q 14 (.q 15 (.q 16 (.q 17 (.q 18 (.q 19 (.q 20 (.q 21 (.q 22 (.q 23 (.q 24 (.q 25 (.q 26 (.q 27 (.q 28 (.q 29 (.q 30 (.q 31 (.q 32 (.q 33 (.q 34 (.q 35 (.q 36 .nil))))))))))))))))))))))))))))))))))))) [] rfl (by kernel_rfl) Sel.nil ?_
  refine AP ?_;refine CZ ?_;refine AP ?_;refine AN ?_;refine A7 ?_;refine Aaj ?_
  refine BZ (BQ rfl hle rfl rfl (fun σ hσ=>.inl (hr2 σ hσ)) rfl rfl ?_)
  rintro _ rfl
  by_cases q1:x.t<lv
  ·rw [if_pos (.inl q1)] at hmv1
   refine FE ?_;refine BS ?_;refine Adq ?_;refine BU ?_;refine Adq ?_;refine Abw ?_;refine Aaf ?_;refine AX rfl rfl rfl rfl rfl ?_;refine BU ?_;refine Acc ?_;refine Aeb ?_
   refine AZ (j+1,σ2) ⟨by dsimp only; omega,?_⟩ (by dsimp only; omega) fP (Sel.skip (Sel.skip Sel.refl))
   dsimp only
   rw [hfm,hmv1,Option.toList_none,bX];exact hI2
  by_cases q2:G.q.dln<ha0
  ·rw [if_pos (.inr (.inl q2))] at hmv1
   refine DO ?_;refine Aeg ?_;refine Aco ?_;refine FE ?_;refine BS ?_;refine Adq ?_;refine Abw ?_;refine Aaf ?_;refine AX rfl rfl rfl rfl rfl ?_;refine BU ?_;refine Acc ?_;refine Aeb ?_
   refine AZ (j+1,σ2) ⟨by dsimp only; omega,?_⟩ (by dsimp only; omega) fP (Sel.skip (Sel.skip Sel.refl))
   dsimp only
   rw [hfm,hmv1,Option.toList_none,bX];exact hI2
  by_cases q3:c.t=G.q.dst
  ·rw [if_neg (by simp [q1,q2,q3])] at hmv1
   have hya:=hy _ σ2 [.agg (aJq (⟨c.t,p.1,p.2,ha0⟩,⟨k,hb0,he0,ha0⟩)).toArray] (by rw [aY,hat2 hmv1]; rfl) hI2
   refine DO ?_;refine Aeg ?_;refine Aco ?_;refine DO ?_;refine Aeg ?_;refine Aco ?_;refine FL ?_;refine Ac2 ?_;refine Ady ?_;refine BS ?_;refine Ach ?_;refine Aab ?_;refine Ad0 ?_;refine Ad0 ?_;refine CB ?_;refine AI ?_;refine CN (CW (out:=[int c.t,int p.1,int p.2,int ha0,int (k:Int),int hb0,int he0,int ha0]) rfl rfl rfl rfl rfl) rfl rfl rfl ?_
   refine BG hya rfl rfl (gA.skip (gA.skip gA.all)) (fun τ hτ=>.inl (by simp [hτ])) rfl rfl ?_
   rintro _ H' ⟨σ3,rfl,⟨rfl,hI3⟩|⟨rfl,hSt⟩⟩
   ·refine DM (H':=_::_::Own σ3) (cS (l₂:=[_,_])) ?_
    refine BX ?_;refine Ace ?_
    refine AZ (j+1,σ3) ⟨by dsimp only; omega,?_⟩ (by dsimp only; omega) fP (Sel.skip (Sel.skip Sel.refl))
    dsimp only
    rw [hfm,hmv1,eX,aB];exact hI3
   ·refine DM (H':=_::_::Own σ3) (cS (l₂:=[_,_])) ?_
    refine Aei ?_
    exact A2 (gY rfl) (fun _ h=>bS _ (bS _ h)) (Sel.skip (Sel.skip Sel.refl)) ⟨σ3,rfl,.inr hSt⟩
  by_cases q4:p.2<=ha0
  ·rw [if_pos (.inr (.inr ⟨q3,q4⟩))] at hmv1
   refine DO ?_;refine Aeg ?_;refine Aco ?_;refine DO ?_;refine Aeg ?_;refine Aco ?_;refine GI ?_;refine AP ?_;refine Abj ?_;refine G2 ?_;refine BU ?_;refine BS ?_;refine Acc ?_;refine Aeb ?_
   refine AZ (j+1,σ2) ⟨by dsimp only; omega,?_⟩ (by dsimp only; omega) fP (Sel.skip (Sel.skip Sel.refl))
   dsimp only
   rw [hfm,hmv1,Option.toList_none,bX];exact hI2
  ·rw [if_neg (by simp [q1,q2,q3,q4])] at hmv1
   have hya:=hy _ σ2 [.agg (aJq (⟨c.t,p.1,p.2,ha0⟩,⟨k,hb0,he0,ha0⟩)).toArray] (by rw [aY,hat2 hmv1]; rfl) hI2
   refine DO ?_;refine Aeg ?_;refine Aco ?_;refine DO ?_;refine Aeg ?_;refine Aco ?_;refine GI ?_;refine AP ?_;refine Abj ?_;refine FM ?_;refine BU ?_;refine BS ?_;refine Ach ?_;refine Aab ?_;refine Ad0 ?_;refine Ad0 ?_;refine CB ?_;refine AI ?_;refine CN (CW (out:=[int c.t,int p.1,int p.2,int ha0,int (k:Int),int hb0,int he0,int ha0]) rfl rfl rfl rfl rfl) rfl rfl rfl ?_
   refine BG hya rfl rfl (gA.skip (gA.skip gA.all)) (fun τ hτ=>.inl (by simp [hτ])) rfl rfl ?_
   rintro _ H' ⟨σ3,rfl,⟨rfl,hI3⟩|⟨rfl,hSt⟩⟩
   ·refine DM (H':=_::_::Own σ3) (cS (l₂:=[_,_])) ?_
    refine BX ?_;refine Ace ?_
    refine AZ (j+1,σ3) ⟨by dsimp only; omega,?_⟩ (by dsimp only; omega) fP (Sel.skip (Sel.skip Sel.refl))
    dsimp only
    rw [hfm,hmv1,eX,aB];exact hI3
   ·refine DM (H':=_::_::Own σ3) (cS (l₂:=[_,_])) ?_
    refine Aei ?_
    exact A2 (gY rfl) (fun _ h=>bS _ (bS _ h)) (Sel.skip (Sel.skip Sel.refl)) ⟨σ3,rfl,.inr hSt⟩
theorem aB7 {γ τ lam:PH} {A:GA} {G:Gr} (hG:aJp γ τ A G) (hg:GOK G) (v:Value) (l:List Lb) (hv:SlE jI 4 lam v l) (hl:l.length<=100000) (hlb:∀ x∈l,0<=x.a/\x.a<=2199023255552) :
  Ans Tryz.prog (fv 38) [gp A,v] [γ,τ,lam] (fun r=>r=.tuple #[int ((jG G l).getD 0),.bool (jG G l).isSome]):=by
 have hit:=fun c1 c2 (x:Lb) hx=>qH hG hg c1 c2 x hx
 obtain ⟨bA,pq,nq,kq,pc,kc,pg,kg,pr,kr,pd,kd⟩:=A
 have dst:=hG.dst
 dsimp only at dst hit ⊢
 show Ans Tryz.prog _ [.pointer (some ⟨bA,0,none⟩),v] _ _
 obtain ⟨p,c,rfl,hrl⟩:=SlE.val jA hv
 refine A8 Tryz.func38 Tryz.ntmps38 fun N β=>?_
 refine Aa ?_
 refine C3 fun b2=>?_
 refine AW (ρ:=sng b2 _) fL ?_
 have bx22_3:=rdB b2 109 [.pointer (some ⟨bA,0,none⟩)]
 have g0:=rdC bx22_3 0
 refine B9 ?_;refine Aaq ?_;refine Aa ?_
 refine B5 fun b=>?_
 refine B5 fun b=>?_
 refine BK ?_;refine Abx ?_;refine Aag ?_;refine Abh ?_
 revert b; intro b7
 revert b; intro b6
 refine EE [2,4,5,6,7,11,12] (X:=(Nat × Option Int) × (List Nat × PH)) ((0,none),([],emp)) (fun x=>x.2.1.map mk) (fun x=>x.1.1<=l.length/\x.1.2=jG G (l.take x.1.1)/\sS x.2.2 x.2.1) (fun x=>[(13,int x.1.1)]) (fun x=>[sng b7 (.cells #[.bool x.1.2.isSome] 4 (0,0)),sng b6 (.cells #[int (x.1.2.getD 0)] 3 (0,0)),x.2.2]) (fun x=>l.length-x.1.1) fT rfl ⟨by dsimp only; omega,rfl,sS.nil⟩ fP fK ?_
 rintro ⟨⟨k,o⟩,⟨ms,μ⟩⟩ ⟨hk,ho,hM⟩
 dsimp only at hk ho hM ⊢
 by_cases hlt:k<l.length
 rotate_left
 ·have hke:k=l.length:=by omega
  subst hke;rw [bJ] at ho;rw [← ho];refine Abp ?_;refine AC ?_
  refine A9 (.q 0 (.q 1 (.q 2 (.q 3 .nil)))) [] rfl (by kernel_rfl) fK ?_
  refine AN ?_;refine AN ?_;refine BP ?_;refine Ac ?_
  skip
  exact DY hM fL (mB rfl rfl rfl) fQ fK ⟨rfl,rfl⟩
 have hx:=aA hlt
 have hxb:=hlb _ (aF hx)
 have hnx:=aO2 (mvs G) hx
 obtain ⟨bl,ol,rfl,hrd⟩:=hrl k _ hx
 have hit1:=fun c1 c2=>hit c1 c2 _ hxb
 have hmv:=qG bA l[k]
 generalize l[k]=x at hx hxb hnx hrd hit1 hmv
 have hrd:RdN lam bl (ol+k*4) [int x.n,int x.f,int x.t,int x.a]:=hrd
 refine Ab2 ?_
 refine A3 fun b=>?_
 refine Aa6 ?_;refine Abb ?_;refine AI ?_
 revert b; intro b9
 refine BG hmv rfl rfl fU rdZ rfl rfl ?_;rintro _ _ ⟨c1,c2,rfl,rfl⟩;simp only [aG,aH];refine AW (ρ:=sng c2 _) fL ?_;refine AW (ρ:=sng c1 _) fL ?_;refine Ad3 ?_
 refine DL (gf:=153) (cap:=[.pointer (some ⟨c1,0,none⟩),.pointer (some ⟨c2,0,none⟩)]) (ps:=[20]) (X:=Option Int) rfl Tryz.func153 rfl rfl
  (hit1 c1 c2) ?_ (fun j o'=>o'=((mvs G x).take j).foldl (qQ G) o) (fun o'=>[sng b7 (.cells #[.bool o'.isSome] 4 (0,0)),sng b6 (.cells #[int (o'.getD 0)] 3 (0,0))]) (fun _ _=>False) o rfl fU rfl ?_ ?_ ?_
 ·intro σ hσ
  simp only [aE,bD,or_false] at hσ ⊢
  rcases hσ with h|h|h|h <;> simp [h]
 ·rintro lo r j o' vs hvs hI hps has hbd hst hpe hfr
  obtain ⟨st,pe,fnn,tm,prm,asg,bdy,df⟩:=r
  simp only at hps has hbd hst hpe hfr;subst hps has hbd hst hpe;rw [aY] at hvs
  obtain ⟨m,hm,rfl⟩:=aQ.1 hvs
  have hft:=aEi (qQ G) hm o
  refine lF hfr rfl (by intro p hp; simp at hp; omega) aBm (fun N' β'=>?_)
  unfold aJq;rw [← hI] at hft
  obtain ⟨⟨mn,mf,mt,ma⟩,⟨hc0,hb0,he0,ha0⟩⟩:=m
  dsimp only
  refine AA ?_
  refine A3 fun b=>?_
  refine Aa6 ?_
  revert b; intro b10
  refine C7 rfl rfl ?_;refine DI fL rfl ?_
  by_cases q1:mn=G.q.dst
  rotate_left
  ·rw [aGb (m:=(⟨mn,mf,mt,ma⟩,⟨hc0,hb0,he0,ha0⟩)) q1] at hft
   refine AM ?_;refine AC ?_
   refine A9 P1Z [] rfl (by kernel_rfl) fK ?_
   refine AR ?_;refine Aco ?_;refine F5 ?_;refine Adq ?_;refine Ady ?_;refine Ach ?_;refine BB ?_;exact CD fL fQ fK ⟨o',.inl ⟨rfl,hft.symm,rfl⟩⟩
  cases o' with
  | none =>
   rw [xQ (m:=(⟨mn,mf,mt,ma⟩,⟨hc0,hb0,he0,ha0⟩)) q1] at hft;refine AM ?_;refine AC ?_
   refine A9 P1Z [] rfl (by kernel_rfl) fK ?_
   refine AR ?_;refine Aco ?_;refine F4 ?_;refine AP ?_;refine AN ?_;refine CZ ?_;refine Ac2 ?_;refine AX rfl rfl rfl rfl rfl ?_;refine BU ?_;refine BU ?_;refine Ad6 ?_;refine AG ?_;refine Aac ?_;refine BK ?_;refine Abx ?_;refine BB ?_;exact CD fL fQ fK ⟨some ma,.inl ⟨rfl,hft.symm,rfl⟩⟩
  | some bb =>
   simp only [cO,Option.isSome_some]
   by_cases q2:ma<bb
   ·rw [aAb (m:=(⟨mn,mf,mt,ma⟩,⟨hc0,hb0,he0,ha0⟩)) q1 q2] at hft
    refine AM ?_;refine AC ?_
    refine A9 P1Z [] rfl (by kernel_rfl) fK ?_
    refine AR ?_;refine Aco ?_;refine F4 ?_;refine AP ?_;refine AN ?_;refine CZ ?_;refine AP ?_;refine AR ?_;refine Aca ?_;refine D8 ?_;refine BS ?_;refine BU ?_;refine Ad6 ?_;refine AG ?_;refine Aac ?_;refine BK ?_;refine Abx ?_;refine BB ?_;exact CD fL fQ fK ⟨some ma,.inl ⟨rfl,hft.symm,rfl⟩⟩
   ·rw [aAc (m:=(⟨mn,mf,mt,ma⟩,⟨hc0,hb0,he0,ha0⟩)) q1 q2] at hft
    refine AM ?_;refine AC ?_
    refine A9 P1Z [] rfl (by kernel_rfl) fK ?_
    refine AR ?_;refine Aco ?_;refine F4 ?_;refine AP ?_;refine AN ?_;refine CZ ?_;refine AP ?_;refine AR ?_;refine Aca ?_;refine C4 ?_;refine BS ?_;refine BU ?_;refine Ach ?_;refine BB ?_;exact CD fL fQ fK ⟨some bb,.inl ⟨rfl,hft.symm,rfl⟩⟩
 ·rintro bm o' hI
  simp only [aG,aH]
  refine ED (R':=[sng b2 (.cells #[.pointer (some ⟨bA,0,none⟩)] 109 (0,0)),β,γ,τ,lam]) (by intro σ hσ; simp at hσ ⊢; rcases hσ with h|h|h|h|h <;> simp [h]) ?_
  refine C9 (b:=bm) fL (μ:=μ) fL hM ?_
  intro μ2 hM2
  refine BB ?_;refine Aa3 ?_
  refine DZ ((k+1,o'),(bm::ms,μ2)) rfl ⟨by dsimp only; omega,?_,hM2⟩ (by dsimp only; omega) fP fK
  dsimp only
  rw [aU,bJ] at hI;unfold jG at ho ⊢;rw [hnx,List.foldl_append,← ho];exact hI
 ·rintro bm cc o' hf
  exact hf.elim
end Go.Proofs.YtnijkofdlepfjaaGreat
namespace Go.Eng
open Go.Sort
open Go.Proofs (sortWorldK)
theorem aS1 {w w' : World} (u : Upd [] [] w w') : ∃ q os, w' = grow (w.drewN q) os := by
  obtain ⟨⟨a1, a2, a3, a4, a5⟩, hk, _⟩ := u
  refine ⟨w'.drawn - w.drawn, w'.heap.extract w.heap.size w'.heap.size, ?_⟩
  have hh : w'.heap = w.heap ++ w'.heap.extract w.heap.size w'.heap.size := by
    apply Array.ext_getElem?
    intro i
    by_cases hi : i < w.heap.size
    · rw [cR hi]
      exact hk i hi (by simp)
    · rw [Array.getElem?_append_right (by omega), Array.getElem?_extract]
      split
      · rw [show w.heap.size + (i - w.heap.size) = i by omega]
      · rw [Array.getElem?_eq_none (by omega)]
  obtain ⟨h1, t1, d1, o1, p1⟩ := w
  obtain ⟨h2, t2, d2, o2, p2⟩ := w'
  dsimp only at *
  subst a2 a3 a4;unfold grow World.drewN;simp only [World.mk.injEq, and_true, true_and]
  exact ⟨hh, by omega⟩
theorem aS2 {P : Program} {g : FuncId} {gn : Func} {c : Code} {args : List Value} {W : World} {v : Value} (hf : P.funcs[g]? = some gn) (hb : gn.body = some c) (hname : (gn.name == "runtime.NumGoroutine") = false)
    (hs : Ans P (fv g) args [] (fun r => r = v)) : Calls P g args.toArray W (fun e W' => e = .returned v /\ ∃ q os, W' = grow (W.drewN q) os) := by
  have h := hs (Bs.of W) W ⟨⟨aK _, rfl, rfl, rfl, aK _⟩, by simp, by simp, List.Pairwise.nil, by simp⟩
  unfold kG at h
  have hrun : ((do let d ← Deferred.ofValue (fv g) args.toArray; invoke d.target d.args : Sem Next).run P W) = .ok (.enter g args.toArray) W := by
    have hname' : ¬ gn.name = "runtime.NumGoroutine" := by simpa using hname
    simp [Deferred.ofValue, invoke, callFunc, program, Sem.run, bind, Sem.bind, pure, hf, hb, hname']
  rw [hrun] at h;refine callsIn_wide.1 (CallsIn.mono h ?_);rintro e W' ⟨r, rfl, H', ⟨rfl, rfl⟩, hu⟩;exact ⟨rfl, aS1 hu⟩
theorem aB8 {α : Type} [Inhabited α] {enc : α -> List Value} {k : Nat} (hk : ∀ x, (enc x).length = k) (l : List α) : flatK enc k l.toArray = (l.flatMap enc).toArray := by
  have hsz : (flatK enc k l.toArray).size = (l.flatMap enc).length := by rw [size_flatK, kT hk]; simp
  apply Array.ext
  · simpa using hsz
  intro t h1 h2
  have ht : t < l.length * k := by rw [size_flatK] at h1; simpa using h1
  have k0 : 0 < k := by
    rcases dC k with h | h
    · subst h; simp at ht
    · exact h
  have hj : t / k < l.length := Nat.div_lt_of_lt_mul (by rw [Nat.mul_comm]; exact ht)
  have hg := get_flatK enc k l.toArray t (by simpa using ht)
  rw [getElem!_pos _ t h1] at hg;rw [hg]
  have e1 : l.toArray[t / k]! = l[t / k] := by rw [getElem!_pos _ _ (by simpa using hj)]; simp
  have hm : t % k < (enc l[t / k]).length := by rw [hk]; exact Nat.mod_lt _ k0
  rw [e1, getElem!_pos (enc l[t / k]) (t % k) hm]
  have hf := aHa hk l (t / k) _ (aA hj) (t % k) _ (aA hm)
  rw [show t / k * k + t % k = t by rw [Nat.mul_comm]; exact Nat.div_add_mod t k] at hf
  have h3 : t < (l.flatMap enc).length := by simpa using h2
  rw [aA h3] at hf;rw [← Option.some.inj hf]
  simp
theorem aB9 (cur : Array Value) (F : List Value) (h : F.length <= cur.size) : (putCells id 0 F.toArray cur).toList.take F.length = F := by
  apply List.ext_getElem?
  intro j
  by_cases hj : j < F.length
  · rw [cJ hj, eL]
    simp [putCells, hj, show j < cur.size by omega]
  · rw [List.getElem?_take_eq_none (by omega), eE (by omega)]
theorem aS3 {α : Type} [Inhabited α] {P : Program} {f g : FuncId} {fn gn : Func} {c cg : Code} {enc : α -> List Value} {k : Nat} {cf : α -> α -> Int} (hf : P.funcs[f]? = some fn) (hb : fn.body = some c) (hname : (fn.name == "runtime.NumGoroutine") = false)
    (hgf : P.funcs[g]? = some gn) (hgb : gn.body = some cg) (hgn : (gn.name == "runtime.NumGoroutine") = false) (hk : ∀ x, (enc x).length = k)
    (hany : ∀ (blk cap : Nat) (d : Array α) (w : World), Go.Proofs.CmpLays P g #[] enc k cf blk 0 d.size w -> HoldsK enc k w blk 0 d -> blk < w.heap.size -> d.size < 4611686018427387904 ->
      Calls P f #[.slice (some ⟨blk, 0, none⟩) d.size cap, fv g] w (fun e w' => e = .returned (.tuple #[]) /\ ∃ d' n os, PermIn 0 d.size d d' /\ SortedIn (Go.Proofs.ltOf cf) 0 d.size d' /\ w' = sortWorldK enc k w blk 0 n d' os))
    (hnone : ∀ (p : Option Addr) (cap : Nat) (w : World), Calls P f #[.slice p 0 cap, fv g] w (fun e w' => e = .returned (.tuple #[]) /\ w' = w))
    (hc : ∀ x y, Ans P (fv g) [.agg (enc x).toArray, .agg (enc y).toArray] [] (fun r => r = int (cf x y)))
    {e : TypeId} {σ : PH} {v : Value} {l : List α} (hO : fS e k v l.length (l.flatMap enc) σ) (hl : l.length < 4611686018427387904) :
    Spec P (fv f) [v, fv g] [] [σ] (fun r H' => r = .tuple #[] /\ ∃ (m : List α) (σ' : PH), m.Perm l /\ m.Pairwise (fun x y => ¬ cf y x < 0) /\ fS e k v m.length (m.flatMap enc) σ' /\ H' = [σ']) := by
  intro N w hs
  obtain ⟨β, hsat, hup⟩ := lG hs
  rcases hO.block with ⟨rfl, hl0, rfl⟩ | ⟨b, cap, cur, rfl, rfl, h1, h2, h3, h4⟩
  · subst hl0
    refine zW hf hb hname (Calls.mono (hnone none 0 w) ?_);rintro _ _ ⟨rfl, rfl⟩;exact ⟨_, rfl, [emp], ⟨rfl, [], emp, List.Perm.refl _, List.Pairwise.nil, fS.nil e k, rfl⟩, hup _ _ hsat⟩
  · have hg : w.heap[b]? = some (.cells cur e (0, 0)) := hs.own .here
    have hblt : b < w.heap.size := (bP.1 hg).1
    have hle : l.length * k <= cap * k := dG k h1
    have hH : HoldsK enc k w b 0 l.toArray := by
      unfold HoldsK;rw [aB8 hk]
      intro j hj
      simp only [dN] at hj
      have hj2 : j < l.length * k := by rwa [kT hk] at hj
      have hj' : (cur.toList.take (l.length * k))[j]? = some (l.flatMap enc)[j] := by rw [h4, aA hj]
      rw [cJ hj2, eL] at hj';refine ⟨?_, ?_⟩
      · rw [cell_of_row w b _ cur e (0, 0) hg, bZ, hj']
        congr 1
        show _ = ((l.flatMap enc).toArray)[j]!
        rw [getElem!_pos _ _ (by simpa using hj)]
        simp
      · simp [World.frozen?, hg]
    have hcl : Go.Proofs.CmpLays P g #[] enc k cf b 0 l.toArray.size w := fun m os dk _ x y => by
      have := aS2 (W := sortWorldK enc k w b 0 m dk os) hgf hgb hgn (hc x y)
      simpa using this
    have hany' := hany b cap l.toArray w hcl hH hblt (by simpa using hl)
    rw [dN] at hany';refine zW hf hb hname (Calls.mono hany' ?_);rintro _ _ ⟨rfl, d', n, os, hp, hso, rfl⟩
    obtain ⟨m, rfl⟩ : ∃ m : List α, d' = m.toArray := ⟨d'.toList, by simp⟩
    have hsz : m.length = l.length := by have := hp.1; simpa using this
    have hperm : m.Perm l := by
      have := hp.2.2
      rw [show (m.toArray.extract 0 l.length).toList = m by simp [hsz.symm], show (l.toArray.extract 0 l.length).toList = l by simp] at this
      exact this
    have hheap : (sortWorldK enc k w b 0 n m.toArray os).heap = (w.heap.modify b (onCells (putCells id 0 (m.flatMap enc).toArray))) ++ os := by
      unfold sortWorldK putRowK;rw [aB8 hk]
      rfl
    refine ⟨_, rfl, [sng b (.cells (putCells id 0 (m.flatMap enc).toArray cur) e (0, 0))], ⟨rfl, m, _, hperm, aZ.2 (fun i j hi hj hij => ?_), ⟨by rw [kT hk], .inr ⟨b, cap, _, by rw [hsz], rfl, by omega, h2, ?_, ?_⟩⟩, rfl⟩, ?_⟩
    · have := hso i j (cA _) hij (by omega)
      rw [getElem!_pos _ i (by simpa using hi), getElem!_pos _ j (by simpa using hj)] at this
      unfold Go.Proofs.ltOf at this;rw [decide_eq_false_iff_not] at this
      simpa using this
    · simp [putCells, h3]
    · have := aB9 cur (m.flatMap enc) (by rw [kT hk, hsz, h3]; exact hle)
      rwa [kT hk] at this
    · refine ⟨⟨?_, rfl, rfl, rfl, Nat.le_add_right _ _⟩, fun k' hk' hno => ?_, fun ρ hρ => ?_, by simp, fun ρ hρ k' hk' => ?_⟩
      · rw [hheap]; simp
      · have hne : k' ≠ b := fun he => by
          subst he
          have := hno (sng k' (.cells cur e (0, 0))) (by simp)
          simp [jT] at this
        rw [hheap, cR (by simpa using hk'), dR, if_neg (Ne.symm hne)]
      · simp at hρ; subst hρ
        intro k' o hk'
        obtain ⟨rfl, rfl⟩ := oW hk'
        rw [hheap, cR (by simpa using hblt), dR, if_pos rfl, hg]
        rfl
      · simp at hρ; subst hρ
        left
        refine ⟨sng b (.cells cur e (0, 0)), by simp, ?_⟩
        cases hks : sng b (Obj.cells (putCells id 0 (m.flatMap enc).toArray cur) e (0, 0)) k' with
        | none => exact absurd hks hk'
        | some o =>
          obtain ⟨rfl, _⟩ := oW hks
          simp [jT]
end Go.Eng
namespace Go.Proofs
open Go.Shelf
def Tryz.layLb_ren:Go.Shelf.Ren:=⟨fun|6=>104|15=>124|14=>171|28=>188|29=>189|20=>222|21=>223|22=>224|23=>225|24=>226|25=>227|26=>228|27=>229|46=>267|47=>243|48=>244|49=>268|50=>269|57=>294|n=>n,fun|22=>44|24=>126|25=>209|3=>3|39=>235|0=>0|53=>304|55=>306|4=>4|46=>298|45=>297|50=>112|5=>5|9=>9|66=>346|70=>350|76=>382|77=>383|n=>n,fun|n=>n⟩
theorem Tryz.layLb:Go.Proofs.SlLaysF0.n6 Tryz.prog Tryz.layLb_ren:={
 mixed:=by kernel_rfl
 f6:=⟨Tryz.f104.name,by decide,Go.Eng.lzZ Tryz.func104⟩
 f14:=⟨Tryz.f171.name,by decide,Go.Eng.lzZ Tryz.func171⟩
 f15:=Go.Eng.lzZ Tryz.func124
 f20:=⟨Tryz.f222.name,by decide,Go.Eng.lzZ Tryz.func222⟩
 f21:=⟨Tryz.f223.name,by decide,Go.Eng.lzZ Tryz.func223⟩
 f22:=⟨Tryz.f224.name,by decide,Go.Eng.lzZ Tryz.func224⟩
 f23:=⟨Tryz.f225.name,by decide,Go.Eng.lzZ Tryz.func225⟩
 f24:=⟨Tryz.f226.name,by decide,Go.Eng.lzZ Tryz.func226⟩
 f25:=⟨Tryz.f227.name,by decide,Go.Eng.lzZ Tryz.func227⟩
 f26:=⟨Tryz.f228.name,by decide,Go.Eng.lzZ Tryz.func228⟩
 f27:=⟨Tryz.f229.name,by decide,Go.Eng.lzZ Tryz.func229⟩
 f28:=Go.Eng.lzZ Tryz.func188
 f29:=Go.Eng.lzZ Tryz.func189
 f46:=⟨Tryz.f267.name,by decide,Go.Eng.lzZ Tryz.func267⟩
 f47:=Go.Eng.lzZ Tryz.func243
 f48:=Go.Eng.lzZ Tryz.func244
 f49:=⟨Tryz.f268.name,by decide,Go.Eng.lzZ Tryz.func268⟩
 f50:=⟨Tryz.f269.name,by decide,Go.Eng.lzZ Tryz.func269⟩
 f57:=⟨Tryz.f294.name,by decide,Go.Eng.lzZ Tryz.func294⟩
 t0:=Tryz.underlying0
 a0:=Tryz.isAgg0
 z0:=Tryz.sizeOf0
 v0:=Tryz.zeroValue0
 t3:=Tryz.underlying3
 a3:=Tryz.isAgg3
 z3:=Tryz.sizeOf3
 v3:=Tryz.zeroValue3
 t4:=Tryz.underlying4
 a4:=Tryz.isAgg4
 z4:=Tryz.sizeOf4
 v4:=Tryz.zeroValue4
 t5:=Tryz.underlying5
 a5:=Tryz.isAgg5
 z5:=Tryz.sizeOf5
 v5:=Tryz.zeroValue5
 t9:=Tryz.underlying9
 a9:=Tryz.isAgg9
 z9:=Tryz.sizeOf9
 v9:=Tryz.zeroValue9
 t22:=Tryz.underlying44
 a22:=Tryz.isAgg44
 z22:=Tryz.sizeOf44
 v22:=Tryz.zeroValue44
 t25:=Tryz.underlying209
 a25:=Tryz.isAgg209
 z25:=Tryz.sizeOf209
 v25:=Tryz.zeroValue209
 t39:=Tryz.underlying235
 a39:=Tryz.isAgg235
 z39:=Tryz.sizeOf235
 v39:=Tryz.zeroValue235
 t45:=Tryz.underlying297
 a45:=Tryz.isAgg297
 z45:=Tryz.sizeOf297
 v45:=Tryz.zeroValue297
 t46:=Tryz.underlying298
 a46:=Tryz.isAgg298
 z46:=Tryz.sizeOf298
 v46:=Tryz.zeroValue298
 t50:=Tryz.underlying112
 a50:=Tryz.isAgg112
 z50:=Tryz.sizeOf112
 v50:=Tryz.zeroValue112
 t53:=Tryz.underlying304
 a53:=Tryz.isAgg304
 z53:=Tryz.sizeOf304
 v53:=Tryz.zeroValue304
 t55:=Tryz.underlying306
 a55:=Tryz.isAgg306
 z55:=Tryz.sizeOf306
 v55:=Tryz.zeroValue306
 t66:=Tryz.underlying346
 a66:=Tryz.isAgg346
 z66:=Tryz.sizeOf346
 v66:=Tryz.zeroValue346
 t70:=Tryz.underlying350
 a70:=Tryz.isAgg350
 z70:=Tryz.sizeOf350
 v70:=Tryz.zeroValue350
 t76:=Tryz.underlying382
 a76:=Tryz.isAgg382
 z76:=Tryz.sizeOf382
 v76:=Tryz.zeroValue382
 t77:=Tryz.underlying383
 a77:=Tryz.isAgg383
 z77:=Tryz.sizeOf383
 v77:=Tryz.zeroValue383 }
end Go.Proofs
namespace Go.Proofs.YtnijkofdlepfjaaGreat
open Go.Eng Go.Step
set_option maxRecDepth 100000
set_option maxHeartbeats 64000000
theorem aS4 {ρ:PH} {p:Option Addr} {l:List Lb} (h:nH jI 4 ρ p l) {i:Nat} {x:Lb} (hx:l[i]?=some x) :
  ∃ b o,p=some ⟨b,o,none⟩/\RdN ρ b (o+i*4) [int x.n,int x.f,int x.t,int x.a]/\rdc ρ b (o+i*4)=some (int x.n)/\rdc ρ b (o+i*4+1)=some (int x.f)/\rdc ρ b (o+i*4+2)=some (int x.t)/\rdc ρ b (o+i*4+3)=some (int x.a):=by
 obtain ⟨b,o,e,hr⟩:=h i x hx
 exact ⟨b,o,e,hr,hr.get0,hr.get (j:=1) rfl,hr.get (j:=2) rfl,hr.get (j:=3) rfl⟩
theorem xW (x y:Lb):Ans Tryz.prog (fv 84) [.agg #[int x.n,int x.f,int x.t,int x.a],.agg #[int y.n,int y.f,int y.t,int y.a]] [] (fun r=>r=.bool (iP x y)):=by
 refine A8 Tryz.func84 Tryz.ntmps84 fun N β=>?_
 unfold iP
 by_cases h1:x.n=y.n
 ·rw [decide_eq_true h1]
  by_cases h2:x.f=y.f
  ·rw [decide_eq_true h2]
   refine Aa ?_
   refine B8 fun b=>?_
   refine B8 fun b=>?_
   refine Aed ?_;refine CJ ?_;refine Ac0 ?_;exact AV ⟨rfl,rfl⟩
  ·rw [decide_eq_false h2]
   refine Aa ?_
   refine B8 fun b=>?_
   refine B8 fun b=>?_
   refine Aed ?_;refine B3 ?_;refine Ac0 ?_;exact AV ⟨rfl,rfl⟩
 ·rw [decide_eq_false h1]
  refine Aa ?_
  refine B8 fun b=>?_
  refine B8 fun b=>?_
  refine Ac8 ?_;refine B3 ?_;refine Aes ?_;exact AV ⟨rfl,rfl⟩
theorem aO9 (b7:Nat) (x y:Lb):Ans Tryz.prog (.func (.func 101) #[] #[.pointer (some ⟨b7,0,none⟩)]) [.agg #[int y.n,int y.f,int y.t,int y.a]] [sng b7 (.cells #[int x.n,int x.f,int x.t,int x.a] 126 (0,0))] (fun r=>r=.bool (iP x y)):=by
 have hs:=xW x y
 have cb:=rdB b7 126 [int x.n,int x.f,int x.t,int x.a]
 refine CU [.pointer (some ⟨b7,0,none⟩)] Tryz.func101 Tryz.ntmps101 fun N β=>?_
 refine Aa ?_
 refine B8 fun b=>?_
 refine Aaa ?_;refine Abs ?_;refine A5 hs ?_;refine Aaa ?_;exact AV ⟨rfl,rfl⟩
theorem aS5 (b8:Nat) (m:Lb × Hp) (y:Lb):Ans Tryz.prog (.func (.func 103) #[] #[.pointer (some ⟨b8,0,none⟩)]) [.agg #[int y.n,int y.f,int y.t,int y.a]] [sng b8 (.cells #[int m.1.n,int m.1.f,int m.1.t,int m.1.a,int m.2.c,int m.2.b,int m.2.e,int m.2.a] 184 (0,0))] (fun r=>r=.bool (iP m.1 y)):=by
 have hs:=xW m.1 y
 have cb:RdP (sng b8 (.cells #[int m.1.n,int m.1.f,int m.1.t,int m.1.a,int m.2.c,int m.2.b,int m.2.e,int m.2.a] 184 (0,0))) b8 0 [int m.1.n,int m.1.f,int m.1.t,int m.1.a]:=iB (xs:=[int m.1.n,int m.1.f,int m.1.t,int m.1.a,int m.2.c,int m.2.b,int m.2.e,int m.2.a]) rfl
 refine CU [.pointer (some ⟨b8,0,none⟩)] Tryz.func103 Tryz.ntmps103 fun N β=>?_
 refine Aa ?_
 refine B8 fun b=>?_
 refine Aaa ?_;refine Acz ?_;refine AI ?_;refine A5 hs ?_;refine Aaa ?_;exact AV ⟨rfl,rfl⟩
def uF (x y:Lb):Int:=orI [gZ x.a y.a,gZ x.n y.n,gZ x.f y.f]
theorem aEl (x y:Lb):Ans Tryz.prog (fv 99) [.agg #[int x.n,int x.f,int x.t,int x.a],.agg #[int y.n,int y.f,int y.t,int y.a]] [] (fun r=>r=int (uF x y)):=by
 refine A8 Tryz.func99 Tryz.ntmps99 fun N β=>?_
 refine Aa ?_
 refine B8 fun b=>?_
 refine B8 fun b=>?_
 refine Aba ?_
 refine A9 (.q 0 (.q 1 (.q 2 (.q 3 (.q 5 (.q 6 (.q 7 (.q 8 (.q 10 (.q 11 (.q 12 (.q 13 (.l 4 .e (.l 9 .e (.l 14 .e (.l 15 .e (.l 16 .e (.q 17 .nil)))))))))))))))))) [] rfl (by kernel_rfl) fK ?_
 refine Aeq ?_;refine Abj ?_
 focus ((refine BZ (BQ rfl (gO _ _) rfl rfl rdZ rfl rfl ?_); rintro _ rfl))
 focus ((refine BZ (BQ rfl (gO _ _) rfl rfl rdZ rfl rfl ?_); rintro _ rfl))
 focus ((refine BZ (BQ rfl (gO _ _) rfl rfl rdZ rfl rfl ?_); rintro _ rfl))
 refine BY fun b=>?_
 revert b; intro bo
 refine BZ (BQ rfl (sL (sng bo _) _ [gZ x.a y.a,gZ x.n y.n,gZ x.f y.f] (oI Eng.encI_len) (by simp)) rfl rfl rdZ rfl rfl ?_)
 rintro _ rfl;refine Ac ?_
 skip
 exact AV ⟨rfl,rfl⟩
theorem aLx {α:Type} {enc:α->List Value} {s:Nat} (he:∀ x,(enc x).length=s) {e:TypeId} {b n cap:Nat} {l:List α} {ρ:PH} (h:fS e s (.slice (some ⟨b,0,none⟩) n cap) l.length (l.flatMap enc) ρ) {i:Nat} {x:α} (hx:l[i]?=some x):RdN ρ b (0+i*s) (enc x):=by
 have hS:SlE enc s ρ (.slice (some ⟨b,0,none⟩) n cap) l:=h.at
 obtain ⟨p,c,e1,hr⟩:=hS.val he
 simp only [aN] at e1
 obtain ⟨b',o',e2,h2⟩:=hr i x hx
 rw [← e1.1] at e2;simp only [aD,eI,and_true] at e2
 obtain ⟨rfl,rfl⟩:=e2
 exact h2
theorem zD (ρ:PH) (v:Value) (l:List Lb) (hv:SlE jI 4 ρ v l) (hl:l.length<=100000000) (fn:Value) (p:Lb->Bool) (Rr:List PH) (hf:∀ x:Lb,Ans Tryz.prog fn [.agg #[int x.n,int x.f,int x.t,int x.a]] Rr (fun r=>r=.bool (p x))) :
  Ans Tryz.prog (fv 170) [v,fn] (ρ::Rr) (fun r=>(∃ k:Nat,r=int k/\k<l.length/\(∀ x∈l.take k,p x=false)/\∀ x,l[k]?=some x->p x=true)\/(r=int (-1)/\∀ x∈l,p x=false)):=by
 obtain ⟨q,c,rfl,hr⟩:=hv.val jA
 refine A8 Tryz.func170 Tryz.ntmps170 fun N β=>?_
 refine Adf ?_
 refine BE [0,1,6,7] (0:Nat) (fun k=>k<=l.length/\∀ x∈l.take k,p x=false) (fun k=>[(8,int k)]) (fun _=>[]) (fun k=>l.length-k) fT ⟨by omega,by simp⟩ fP fK ?_
 rintro k ⟨hk,hp⟩
 by_cases hlt:k<l.length
 ·have hx:=aA hlt
  have t1:=aV hlt
  obtain ⟨b7,o7,rfl,hrd,g0,g1,g2,g3⟩:=aS4 hr hx
  have hfx:=hf l[k]
  have hpx:∀ x,l[k]?=some x->x=l[k]:=fun x h=>by rw [hx] at h; simpa using h.symm
  generalize l[k]=x at hx t1 hrd g0 g1 g2 g3 hfx hpx
  clear g0 g1 g2 g3
  cases hpp:p x with
  | true =>
   rw [hpp] at hfx;refine Ae ?_
   refine BT hfx rfl rfl (fun τ hτ=>.inl (by simp [hτ])) rfl rfl ?_
   rintro _ rfl;refine Acu ?_
   exact AV ⟨rfl,.inl ⟨k,rfl,hlt,hp,fun y hy=>by rw [hpx y hy]; exact hpp⟩⟩
  | false =>
   rw [hpp] at hfx;refine Ae ?_
   refine BT hfx rfl rfl (fun τ hτ=>.inl (by simp [hτ])) rfl rfl ?_
   rintro _ rfl;refine Ace ?_
   refine AZ (k+1) ⟨by omega,fun y hy=>?_⟩ (by omega) fP fK
   rw [t1,aM,bI] at hy
   rcases hy with hy|rfl
   ·exact hp y hy
   ·exact hpp
 ·have hke:k=l.length:=by omega
  subst hke;rw [bJ] at hp;refine Aep ?_;exact AV ⟨rfl,.inr ⟨rfl,hp⟩⟩
theorem aLy {e:TypeId} {s b n cap i:Nat} {xs:List Value} {ρ:PH} (h:fS e s (.slice (some ⟨b,0,none⟩) n cap) n xs ρ) (hi:i<=n):fS e s (.slice (some ⟨b,0,none⟩) i cap) i (xs.take (i*s)) ρ:=by
 have hxl:xs.length=n*s:=h.1
 have hle:i*s<=n*s:=dG s hi
 obtain ⟨cur,rfl,h1,h2,h3,h4⟩:=h.cells_at
 refine ⟨by rw [aL]; omega,.inr ⟨b,cap,cur,rfl,rfl,by omega,h2,h3,?_⟩⟩
 rw [← h4,List.take_take,dU hle]
theorem uG (p:Lb->Bool) {l:List Lb} {k:Nat} {x:Lb} (h:l[k]?=some x):(l.take (k+1)).filter (fun y=>!p y)=(l.take k).filter (fun y=>!p y) ++ (if p x=true then [] else [x]):=by
 obtain ⟨hk,rfl⟩:=aC.1 h
 rw [aV hk,dW]
 congr 1
 cases hp:p l[k] <;> simp [hp]
structure aJr (p:Lb->Bool) (l:List Lb) (i j:Nat) (m:List Lb):Prop where
 a:i<j
 b:j<=l.length
 c:m.length=l.length
 d:m.take i=(l.take j).filter (fun y=>!p y)
 e:∀ k,j<=k->m[k]?=l[k]?
theorem aJr.skip {p:Lb->Bool} {l m:List Lb} {i j:Nat} (h:aJr p l i j m) {x:Lb} (hx:m[j]?=some x) (hp:p x=true) (hj:j<l.length):aJr p l i (j+1) m:=by
 refine ⟨by have:=h.a; omega,hj,h.c,?_,fun k hk=>h.e k (by omega)⟩
 rw [h.e j (aK _)] at hx;rw [uG p hx,if_pos hp,bX,h.d]
theorem aJr.keep {p:Lb->Bool} {l m:List Lb} {i j:Nat} (h:aJr p l i j m) {x:Lb} (hx:m[j]?=some x) (hp:p x=false) (hj:j<l.length):aJr p l (i+1) (j+1) (m.set i x):=by
 have ha:=h.a
 have hc:=h.c
 refine ⟨by omega,hj,by rw [cQ,hc],?_,fun k hk=>?_⟩
 ·rw [h.e j (aK _)] at hx
  rw [uG p hx,if_neg (by rw [hp]; simp),← h.d,aV (by rw [cQ]; omega),List.getElem_set_self]
  congr 1
  rw [List.take_set_of_le (aK _)]
 ·rw [eQ (by omega)]
  exact h.e k (by omega)
theorem aGe (σ:PH) (v:Value) (l:List Lb) (hO:fS 126 4 v l.length (l.flatMap jI) σ) (hl:l.length<=100000000) (fn:Value) (p:Lb->Bool) (Rr:List PH) (hf:∀ x:Lb,Ans Tryz.prog fn [.agg #[int x.n,int x.f,int x.t,int x.a]] Rr (fun r=>r=.bool (p x))) :
  Eng.Spec Tryz.prog (fv 100) [v,fn] Rr [σ] (fun r H'=>∃ σ',fS 126 4 r (l.filter (fun y=>!p y)).length ((l.filter (fun y=>!p y)).flatMap jI) σ'/\H'=[σ']):=by
 have hat:SlE jI 4 σ v l:=hO.at
 obtain ⟨q,c,rfl,_⟩:=hat.val jA
 have hidx:=zD σ _ l hat hl fn p Rr hf
 refine A8 Tryz.func100 Tryz.ntmps100 fun N β=>?_
 refine Aea ?_
 refine BT hidx rfl rfl (fun τ hτ=>by rcases aE.1 hτ with rfl|h2; exact .inr (by simp); exact .inl (by simp [h2])) rfl rfl ?_
 rintro _ (⟨k,rfl,hk,hp0,hp1⟩|⟨rfl,hp0⟩)
 rotate_left
 ·refine AD ?_
  refine AE ?_;refine Aag ?_;refine CJ ?_;refine Acu ?_;refine A2 (qR rfl rfl) fQ fK ⟨σ,?_,rfl⟩
  rw [eH.2 (fun x hx=>by rw [hp0 x hx]; rfl)]
  exact hO
 have hx0:=aA hk
 have hI0:aJr p l k (k+1) l:=by
  refine ⟨by omega,by omega,rfl,?_,fun _ _=>rfl⟩
  rw [uG p hx0,if_pos (hp1 _ hx0),bX,eH.2 (fun x hx=>by rw [hp0 x hx]; rfl)]
 rcases hO.block with ⟨_,h2,_⟩|⟨b,cap,cur,e,_,hcap,_⟩
 ·rw [h2] at hk; simp at hk
 simp only [aN] at e
 obtain ⟨rfl,_,rfl⟩:=e
 clear hidx hp0 hp1 hx0 hat;refine Abv ?_;refine Acy ?_;refine Aag ?_;refine Abz ?_;refine AM ?_
 refine BE [0,1] (X:=(Nat × Nat) × (List Lb × PH)) ((k,k+1),(l,σ)) (fun x=>aJr p l x.1.1 x.1.2 x.2.1/\fS 126 4 (.slice (some ⟨b,0,none⟩) l.length c) l.length (x.2.1.flatMap jI) x.2.2) (fun x=>[(5,int x.1.1),(6,int x.1.2)]) (fun x=>[x.2.2]) (fun x=>l.length-x.1.2) fT ⟨hI0,hO⟩ fP fK ?_
 rintro ⟨⟨i,j⟩,⟨m,σ1⟩⟩ ⟨hI,hO1⟩
 dsimp only at hI hO1 ⊢
 have ha:=hI.a
 have hb:=hI.b
 have hcl:=hI.c
 by_cases hlt:j<l.length
 ·have hx:=aA (show j<m.length by omega)
  have hO2:fS 126 4 (.slice (some ⟨b,0,none⟩) m.length c) m.length (m.flatMap jI) σ1:=by rw [hcl]; exact hO1
  have r1:=aLx jA hO2 hx
  have hfx:=hf m[j]
  generalize m[j]=x at hx r1 hfx
  cases hpp:p x with
  | true =>
   rw [hpp] at hfx
   have hI2:=hI.skip hx hpp hlt
   refine Ad7 ?_;refine Acp ?_;refine Aaw ?_;refine Aa9 ?_
   refine A3 fun b=>?_
   refine Aa6 ?_;refine Aab ?_;refine AI ?_
   refine BT hfx rfl rfl (fun τ hτ=>.inl (by simp [hτ])) rfl rfl ?_
   rintro _ rfl;refine Acn ?_;refine Ack ?_
   exact AZ ((i,j+1),(m,σ1)) ⟨hI2,hO1⟩ (by dsimp only; omega) fP fK
  | false =>
   rw [hpp] at hfx
   have hI2:=hI.keep hx hpp hlt
   refine Ad7 ?_;refine Acp ?_;refine Aaw ?_;refine Aa9 ?_
   refine A3 fun b=>?_
   refine Aa6 ?_;refine Aab ?_;refine AI ?_
   refine BT hfx rfl rfl (fun τ hτ=>.inl (by simp [hτ])) rfl rfl ?_
   rintro _ rfl;refine Aei ?_;refine Aaw ?_;refine AI ?_;refine BL ?_
   refine CY (DU jA (a:=x) i hO2 rfl (bZ _) rfl (by unfold jI; exact iF) rfl fL (by omega)) rfl rfl ?_
   rintro _ _ ⟨rfl,σ2,hO3,rfl⟩;refine AE ?_;refine AA ?_;refine Ab8 ?_;refine Ack ?_
   refine AZ ((i+1,j+1),(m.set i x,σ2)) ⟨hI2,?_⟩ (by dsimp only; omega) fP fK
   dsimp only
   rw [cQ,hcl] at hO3;exact hO3
 ·have hje:j=l.length:=by omega
  have hd:=hI.d
  rw [hje,bJ] at hd
  have hlen:(l.filter (fun y=>!p y)).length=i:=by rw [← hd,aL]; omega
  have hO4:=aLy hO1 (i:=i) (by omega)
  refine Ad7 ?_;refine Ab5 ?_;refine Aaw ?_;refine FP ?_
  refine CY (FQ (by_:=32) (s:=4) (n:=i) rfl rfl rfl rfl rfl rfl (by intro u hu; have hu2:u∈[int 0,int 0,int 0,int 0]:=hu; simp at hu2; rw [hu2]; rfl) hO4 fL (by omega) (by omega)) rfl rfl ?_
  rintro _ _ ⟨rfl,σ2,hO5,rfl⟩;refine AE ?_;refine Aaw ?_;refine EF ?_;refine Aaa ?_;refine A2 (qR rfl rfl) fQ fK ⟨σ2,?_,rfl⟩;rw [hlen,← hd,sI jA];simp only [xI];exact hO5
theorem aCa (ρ:PH) (v:Value) (l:List Lb) (hv:SlE jI 4 ρ v l) (hl:l.length<=100000000) (fn:Value) (p:Lb->Bool) (Rr:List PH) (hf:∀ x:Lb,Ans Tryz.prog fn [.agg #[int x.n,int x.f,int x.t,int x.a]] Rr (fun r=>r=.bool (p x))) :
  Ans Tryz.prog (fv 102) [v,fn] (ρ::Rr) (fun r=>r=.bool (l.any p)):=by
 have hix:=zD ρ v l hv hl fn p Rr hf
 obtain ⟨q,c,rfl,hr⟩:=hv.val jA
 refine A8 Tryz.func102 Tryz.ntmps102 fun N β=>?_
 refine Aea ?_
 refine BT hix rfl rfl (fun τ hτ=>.inl (bS _ hτ)) rfl rfl ?_
 rintro _ (⟨k,rfl,hk,_,hp⟩|⟨rfl,hall⟩)
 ·have hfl:l.any p=true:=eW.2 ⟨_,cP hk,hp _ (aA hk)⟩
  refine DQ ?_;refine Aaa ?_
  exact AV ⟨rfl,by rw [hfl]⟩
 ·have hfl:l.any p=false:=eP.2 (fun x hx=>by rw [hall x hx]; simp)
  refine CP ?_;refine Aaa ?_
  exact AV ⟨rfl,by rw [hfl]⟩
theorem sO (x y:Lb):uF x y<0↔x.a<y.a\/(x.a=y.a/\(x.n<y.n\/(x.n=y.n/\x.f<y.f))):=by
 unfold uF;simp only [orI,gZ]
 repeat' split
 all_goals omega
theorem aPa (ρ:PH) (v:Value) (l:List Lb) (hv:SlE jI 4 ρ v l) (hl:l.length<=100000000) (h0:0<l.length) :
  Ans Tryz.prog (fv 98) [v,fv 99] [ρ] (fun r=>∃ x∈l,(∀ y∈l,¬ uF y x<0)/\r=.agg #[int x.n,int x.f,int x.t,int x.a]):=by
 obtain ⟨q,c,rfl,hr⟩:=hv.val jA
 refine A8 Tryz.func98 Tryz.ntmps98 fun N β=>?_
 have hx0:=aA h0
 have hm0:=cP h0
 obtain ⟨b0,o0,rfl,hrd0,g0,g1,g2,g3⟩:=aS4 hr hx0
 have hI0:∀ y∈l.take 1,¬ uF y l[0]<0:=fun y hy=>by
  rw [List.take_succ,hx0] at hy
  simp at hy
  subst hy;rw [sO]; omega
 generalize l[0]=x0 at hx0 hm0 hrd0 g0 g1 g2 g3 hI0
 clear g0 g1 g2 g3;refine Aa ?_
 refine A3 fun b=>?_
 refine AE ?_;refine Aag ?_;refine A6 ?_;refine BD ?_;refine Aai ?_;refine Aab ?_;refine Aa9 ?_
 refine A3 fun b=>?_
 refine Adb ?_;refine Aam ?_;refine AM ?_
 revert b; intro b5
 revert b; intro b4
 refine BE [0,1,4,5] (X:=Nat × Lb) (1,x0) (fun z=>z.1<=l.length/\z.2∈l/\∀ y∈l.take z.1,¬ uF y z.2<0) (fun z=>[(6,int z.1)]) (fun z=>[sng b5 (.cells #[int z.2.n,int z.2.f,int z.2.t,int z.2.a] 126 (0,0)),sng b4 (.cells #[int 0,int 0,int 0,int 0] 126 (0,0))]) (fun z=>l.length-z.1) fT ⟨by dsimp only; omega,hm0,hI0⟩ fP fK ?_
 rintro ⟨k,m⟩ ⟨hk,hm,hI⟩
 dsimp only at hk hm hI ⊢
 by_cases hlt:k<l.length
 ·have hx:=aA hlt
  have hxm:=cP hlt
  have htk:l.take (k+1)=l.take k ++ [l[k]]:=by rw [List.take_succ,hx]; rfl
  obtain ⟨b6,o6,e6,hrd,g0,g1,g2,g3⟩:=aS4 hr hx
  simp only [aD,eI,and_true] at e6
  obtain ⟨rfl,rfl⟩:=e6
  have hc:=aEl l[k] m
  generalize l[k]=x at hx hxm htk hrd g0 g1 g2 g3 hc
  clear g0 g1 g2 g3
  by_cases hlt2:uF x m<0
  ·generalize hcv:uF x m=cv at hc hlt2
   refine Ad7 ?_;refine Acp ?_;refine AC ?_
   refine A9 (.q 0 (.q 1 (.q 2 (.q 3 (.q 4 (.q 5 (.l 6 .e (.q 7 .nil)))))))) [] rfl (by kernel_rfl) fK ?_
   refine Adc ?_;refine Abl ?_;refine A7 ?_;refine BZ (BQ rfl hc rfl rfl rdZ rfl rfl ?_);rintro _ rfl;refine D8 ?_;refine Acc ?_;refine Abu ?_;refine Aa9 ?_;refine Aa6 ?_;refine Ack ?_
   refine AZ (k+1,x) ⟨by dsimp only; omega,hxm,fun y hy=>?_⟩ (by dsimp only; omega) fP fK
   rw [← hcv,sO] at hlt2
   dsimp only at hy ⊢
   rw [htk,aM,bI] at hy
   rcases hy with hy|rfl
   ·have:=hI y hy
    rw [sO] at this ⊢; omega
   ·rw [sO]; omega
  ·generalize hcv:uF x m=cv at hc hlt2
   refine Ad7 ?_;refine Acp ?_;refine AC ?_
   refine A9 (.q 0 (.q 1 (.q 2 (.q 3 (.q 4 (.q 5 (.l 6 .e (.q 7 .nil)))))))) [] rfl (by kernel_rfl) fK ?_
   refine Adc ?_;refine Abl ?_;refine A7 ?_;refine BZ (BQ rfl hc rfl rfl rdZ rfl rfl ?_);rintro _ rfl;refine C4 ?_;refine Ach ?_;refine Ack ?_
   refine AZ (k+1,m) ⟨by dsimp only; omega,hm,fun y hy=>?_⟩ (by dsimp only; omega) fP fK
   rw [← hcv] at hlt2
   dsimp only at hy ⊢
   rw [htk,aM,bI] at hy
   rcases hy with hy|rfl
   ·exact hI y hy
   ·exact hlt2
 ·have hke:k=l.length:=by omega
  subst hke;rw [bJ] at hI;refine Ad7 ?_;refine Ab5 ?_;refine Aar ?_;refine Aa6 ?_;exact A2 (zB (b1:=b4) (T:=126) (v1:=[int m.n,int m.f,int m.t,int m.a]) rfl rfl rfl rfl (fR gN)) fQ fK ⟨rfl,m,hm,hI,rfl⟩
theorem swoL:Go.Sort.SWO (Go.Proofs.ltOf uF):=by
 have h:∀ x y,Go.Proofs.ltOf uF x y=true↔x.a<y.a\/(x.a=y.a/\(x.n<y.n\/(x.n=y.n/\x.f<y.f))):=fun x y=>by unfold Go.Proofs.ltOf; rw [decide_eq_true_eq,sO]
 have h2:∀ x y,Go.Proofs.ltOf uF x y=false↔¬ (x.a<y.a\/(x.a=y.a/\(x.n<y.n\/(x.n=y.n/\x.f<y.f)))):=fun x y=>by rw [← h x y,Bool.not_eq_true]
 refine ⟨fun x=>(h2 x x).2 (by omega),fun x y z a b=>(h x z).2 ?_,fun x y z a b=>(h2 x z).2 ?_⟩
 ·have a:=(h x y).1 a; have b:=(h y z).1 b; omega
 ·have a:=(h2 x y).1 a; have b:=(h2 y z).1 b; omega
instance:Inhabited Lb:=⟨⟨0,0,0,0⟩⟩
theorem aW7 (x:Lb):∀ u∈jI x,u.oneCell'=true:=by
 intro u hu
 simp only [jI,aE,bD,or_false] at hu
 rcases hu with rfl|rfl|rfl|rfl <;> rfl
theorem aLz (σ:PH) (v:Value) (l:List Lb) (hO:fS 126 4 v l.length (l.flatMap jI) σ) (hl:l.length<=100000000) :
  Eng.Spec Tryz.prog (fv 104) [v,fv 99] [] [σ] (fun r H'=>r=.tuple #[]/\∃ (m:List Lb) (σ':PH),m.Perm l/\m.Pairwise (fun x y=>¬ uF y x<0)/\fS 126 4 v m.length (m.flatMap jI) σ'/\H'=[σ']):=
 aS3 (f:=104) (g:=99) (enc:=jI) (cf:=uF) Tryz.func104 rfl rfl Tryz.func99 rfl rfl jA
  (fun blk cap d w hc hH hb hs=>Go.Proofs.AnyQ.slices_SortFunc Tryz.layLb 4 Tryz.isAgg126 Tryz.sizeOf126 jI jA aW7 uF swoL 99 #[] blk 0 cap d w (Go.Proofs.enters_of Tryz.func99 (by kernel_rfl) rfl) hc hH hb hs)
  (fun p cap w=>Go.Proofs.AnyF.slices_SortFunc_none { Tryz.layLb with } p cap (fv 99) w)
  (fun x y=>aEl x y) hO (by omega)
theorem kL {e:TypeId} {s:Nat}:∀ z n (xs:List Value) (χ:PH),fS e s z n xs χ->z.oneCell'=true:=fun z n xs χ h=>by obtain ⟨_,_,rfl⟩:=h.form; rfl
theorem rR {γ τ:PH} {A:GA} {G:Gr} (hG:aJp γ τ A G) (hg:GOK G) :
  jM Tryz.prog (fv 39) [gp A] [γ,τ] (fun r χ=>∃ L,iQ G L/\fS 126 4 r L.length (L.flatMap jI) χ):=by
 have hit:=fun c1 c2 (x:Lb) hx=>qH hG hg c1 c2 x hx
 obtain ⟨bA,pq,nq,kq,pc,kc,pg,kg,pr,kr,pd,kd⟩:=A
 obtain ⟨qv,hnq,cv,src,dst,rdy,dln,cus,gv,rv,dv,hcs,gaps,rooms,durs⟩:=hG
 dsimp only at qv hnq cv src dst rdy dln cus gv rv dv hcs gaps rooms durs hit ⊢
 show jM Tryz.prog _ [.pointer (some ⟨bA,0,none⟩)] _ _
 have hq:=hg.q
 obtain ⟨ms0,hms0⟩:=dZ hq.1
 have hlt0:ms0<G.rooms.length:=by omega
 have hR0:=aA hlt0
 have hRR:=hg.room _ (aF hR0)
 obtain ⟨b1,o1,q1,k1,rfl,h1,hS⟩:=rooms _ _ hR0
 have hbeg:begs G=((G.rooms[ms0]).filter (fun p=>decide (p.1<=G.q.rdy) && decide (G.q.rdy<p.2))).map (fun p=>⟨G.q.src,p.1,p.2,G.q.rdy⟩):=by
  unfold begs;rw [hms0,cL,vW hR0]
 generalize G.rooms[ms0]=L at hR0 hRR h1 hS hbeg
 obtain ⟨_,_,ew,hrw⟩:=SlE.val (enc:=kX) mZ hS
 simp only [aN] at ew
 obtain ⟨rfl,_,rfl⟩:=ew
 have src:rdc γ bA 4=some (int (ms0:Int)):=by rw [← hms0]; exact src
 refine A8 Tryz.func39 Tryz.ntmps39 fun N β=>?_
 refine Aa ?_
 refine C3 fun b2=>?_
 refine AW (ρ:=sng b2 _) fL ?_
 have bx36_3:=rdB b2 109 [.pointer (some ⟨bA,0,none⟩)]
 have g0:=rdC bx36_3 0
 refine B9 ?_;refine Aaa ?_;refine Aa ?_
 refine B5 fun b=>?_
 refine B5 fun b=>?_
 refine Aak ?_;refine AC ?_
 revert b; intro b4
 revert b; intro b3
 refine A9 (.q 0 (.q 1 (.q 2 (.q 3 (.q 4 (.q 5 (.q 6 (.q 7 (.q 8 (.q 9 (.q 10 (.q 11 (.q 12 .nil))))))))))))) [] rfl (by kernel_rfl) Sel.nil ?_
 refine AN ?_;refine A4 ?_;refine Aca ?_;refine Abo ?_;refine DN ?_;refine AN ?_;refine DT ?_;refine AN ?_;refine EL ?_;refine AP ?_;refine BC ?_;refine AM ?_
 refine BE [1,2,3,4,19,20] (X:=Nat × (Value × PH)) (0,(.slice none 0 0,emp)) (fun z=>z.1<=L.length/\fS 126 4 z.2.1 (((L.take z.1).filter (fun p=>decide (p.1<=G.q.rdy) && decide (G.q.rdy<p.2))).map (fun p=>(⟨ms0,p.1,p.2,G.q.rdy⟩:Lb))).length ((((L.take z.1).filter (fun p=>decide (p.1<=G.q.rdy) && decide (G.q.rdy<p.2))).map (fun p=>(⟨ms0,p.1,p.2,G.q.rdy⟩:Lb))).flatMap jI) z.2.2) (fun z=>[(21,int z.1)]) (fun z=>[sng b4 (.cells #[z.2.1] 44 (0,0)),sng b3 (.cells #[.slice none 0 0] 44 (0,0)),z.2.2]) (fun z=>L.length-z.1) fT ⟨by dsimp only; omega,fS.nil _ _⟩ fP fK ?_
 rintro ⟨k,u,σ⟩ ⟨hk,hO⟩
 dsimp only at hk hO ⊢
 have hu:=kL _ _ _ _ hO
 by_cases hlt:k<L.length
 ·have hx:=aA hlt
  have hlen:(((L.take k).filter (fun p=>decide (p.1<=G.q.rdy) && decide (G.q.rdy<p.2))).map (fun p=>(⟨ms0,p.1,p.2,G.q.rdy⟩:Lb))).length<=1100:=by
   have:=cD (fun p:Int × Int=>decide (p.1<=G.q.rdy) && decide (G.q.rdy<p.2)) (L.take k)
   rw [aL] at this;rw [aU]; omega
  have hnx:((L.take (k+1)).filter (fun p=>decide (p.1<=G.q.rdy) && decide (G.q.rdy<p.2))).map (fun p=>(⟨ms0,p.1,p.2,G.q.rdy⟩:Lb))=((L.take k).filter (fun p=>decide (p.1<=G.q.rdy) && decide (G.q.rdy<p.2))).map (fun p=>(⟨ms0,p.1,p.2,G.q.rdy⟩:Lb)) ++ (if L[k].1<=G.q.rdy/\G.q.rdy<L[k].2 then [⟨ms0,L[k].1,L[k].2,G.q.rdy⟩] else []):=by
   rw [cV,hx,dW,cX]
   congr 1
   by_cases c1:L[k].1<=G.q.rdy <;> by_cases c2:G.q.rdy<L[k].2 <;> simp [c1,c2]
  obtain ⟨b6,o6,e6,hRd6,y0,y1⟩:=aEh hrw hx
  generalize L[k]=p at hx hRd6 y0 y1 hnx
  generalize ((L.take k).filter (fun p=>decide (p.1<=G.q.rdy) && decide (G.q.rdy<p.2))).map (fun p=>(⟨ms0,p.1,p.2,G.q.rdy⟩:Lb))=Q at hO hnx hlen
  subst e6
  by_cases c1:p.1<=G.q.rdy
  rotate_left
  ·rw [if_neg (by omega),bX] at hnx
   refine Ab2 ?_
   refine A3 fun b=>?_
   refine Adb ?_
   refine A9 P2Z [] rfl (by kernel_rfl) Sel.nil ?_
   refine Aco ?_;refine aW2 ?_;refine Adq ?_;refine BS ?_;refine Ach ?_;refine Aa3 ?_
   exact AZ (k+1,(u,σ)) ⟨by dsimp only; omega,by dsimp only; rw [hnx]; exact hO⟩ (by dsimp only; omega) fP fK
  by_cases c2:G.q.rdy<p.2
  rotate_left
  ·rw [if_neg (by omega),bX] at hnx
   refine Ab2 ?_
   refine A3 fun b=>?_
   refine Adb ?_
   refine A9 P2Z [] rfl (by kernel_rfl) Sel.nil ?_
   refine Aco ?_;refine G1 ?_;refine AP ?_;refine AN ?_;refine Acb ?_;refine Aaj ?_;refine C4 ?_;refine BU ?_;refine Ach ?_;refine Aa3 ?_
   exact AZ (k+1,(u,σ)) ⟨by dsimp only; omega,by dsimp only; rw [hnx]; exact hO⟩ (by dsimp only; omega) fP fK
  rw [if_pos ⟨c1,c2⟩] at hnx;refine Ab2 ?_
  refine A3 fun b=>?_
  refine Adb ?_
  refine A9 P2Z [] rfl (by kernel_rfl) Sel.nil ?_
  refine Aco ?_;refine G1 ?_;refine AP ?_;refine AN ?_;refine Acb ?_;refine Aaj ?_;refine D8 ?_;refine BU ?_;refine Acc ?_
  refine A9 (.q 0 (.q 1 (.q 2 (.q 3 (.q 4 (.q 5 (.q 6 (.q 7 (.q 8 (.q 9 (.q 10 (.q 11 (.q 12 (.q 13 (.q 14 (.q 15 (.l 16 .e (.l 17 .b (.l 18 .b .nil))))))))))))))))))) [] rfl (by kernel_rfl) Sel.nil ?_
  refine AN ?_;refine AN ?_;refine Abo ?_;refine DN ?_;refine AN ?_;refine Abj ?_;refine AN ?_;refine Acb ?_;refine EW ?_
  refine BY fun b=>?_
  refine BZ (a_b rfl (CA (by_:=32) (s:=4) (news:=[int (ms0:Int),int p.1,int p.2,int G.q.rdy]) rfl rfl rfl rfl rfl rfl rfl hO fL (fR gN) rfl iF (by omega) (by simp only [maxLen]; omega) (by omega)) rfl rfl rfl (fun _ _ _ w hw=>hw.sel Sel.nil) ?_)
  rintro u1 _ ⟨σ1,hO1,rfl⟩
  have hu1:=kL _ _ _ _ hO1
  refine Adr ?_;refine Aa3 ?_
  refine AZ (k+1,(u1,σ1)) ⟨by dsimp only; omega,?_⟩ (by dsimp only; omega) fP fK
  dsimp only
  rw [hnx,aB,aX];exact hO1
 have hke:k=L.length:=by omega
 subst hke;rw [bJ] at hO;rw [hms0] at hbeg;rw [← hbeg] at hO;refine B9 ?_;refine B9 ?_;refine Abp ?_;refine Aap ?_
 refine EE [1,2,3,4] (X:=((List Lb × List Lb) × (Value × Value)) × ((PH × PH) × (List Nat × PH))) ((([],begs G),(.slice none 0 0,u)),((emp,σ),([],emp))) (fun x=>x.2.2.1.map mk) (fun x=>aB0 G x.1.1.1 x.1.1.2/\fS 126 4 x.1.2.1 x.1.1.1.length (x.1.1.1.flatMap jI) x.2.1.1/\fS 126 4 x.1.2.2 x.1.1.2.length (x.1.1.2.flatMap jI) x.2.1.2/\sS x.2.2.2 x.2.2.1) (fun _=>[]) (fun x=>[sng b4 (.cells #[x.1.2.2] 44 (0,0)),sng b3 (.cells #[x.1.2.1] 44 (0,0)),x.2.1.2,x.2.1.1,x.2.2.2]) (fun x=>6601-x.1.1.1.length) fT rfl ⟨aB0.zero hg,fS.nil _ _,hO,sS.nil⟩ fP fK ?_
 clear hO hu hbeg;rintro ⟨⟨⟨D,O⟩,⟨dv,ov⟩⟩,⟨⟨σD,σO⟩,⟨ms,μ⟩⟩⟩ ⟨hI,hOD,hOO,hM⟩
 dsimp only at hI hOD hOO hM ⊢
 have hd1:=kL _ _ _ _ hOD
 have ho1:=kL _ _ _ _ hOO
 have hfew:=hI.few hg
 have hol:=hI.len
 obtain ⟨po,ko,rfl⟩:=hOO.form
 by_cases h0:0<O.length
 rotate_left
 ·have hO0:O=[]:=bW.1 (by omega)
  subst hO0
  have hsort:=aLz σD dv D hOD (by omega)
  refine Ac5 ?_;refine Ade ?_;refine Aa7 ?_;refine Abb ?_;refine BG hsort rfl rfl fU rdZ rfl rfl ?_;rintro _ _ ⟨rfl,Lf,σF,hp,hpw,hOF,rfl⟩;refine AE ?_;refine Abb ?_;refine Aaa ?_;exact DY hM fL (qR rfl rfl) fQ fK ⟨σF,⟨Lf,hI.done hg hp,hOF⟩,rfl⟩
 have hmn:=aPa σO _ O hOO.at (by omega) h0
 refine Ac5 ?_;refine A6 ?_;refine Adt ?_;refine Acr ?_;refine Abb ?_;refine BT hmn rfl rfl rdZ rfl rfl ?_;rintro _ ⟨x,hx,hmin,rfl⟩
 refine A3 fun b=>?_
 refine Aa6 ?_;refine Abb ?_;refine BR ?_
 revert b; intro b7
 refine AW (ρ:=sng b7 _) fL ?_
 have hmin2:∀ y∈O,x.a<=y.a:=fun y hy=>by
  have:=hmin y hy
  rw [sO] at this;omega
 have hxa:=sN hg (gQ hg (hI.rch x (by simp [hx])))
 have hI2:=hI.step hg hx hmin2
 have hfew2:=hI2.few hg
 rw [aB,bM] at hfew2;clear hmin
 have cb:=rdB b7 126 [int x.n,int x.f,int x.t,int x.a]
 have hdel:=aGe σO _ O hOO (by omega) _ (fun y=>iP x y) [sng b7 (.cells #[int x.n,int x.f,int x.t,int x.a] 126 (0,0))] (fun y=>aO9 b7 x y)
 have hOl:=cD (fun y=>!iP x y) O
 generalize O.filter (fun y=>!iP x y)=O1 at hI2 hdel hOl
 skip
 refine BG hdel rfl rfl fU rdZ rfl rfl ?_;rintro ov1 _ ⟨σO1,hOO1,rfl⟩
 have ho2:=kL _ _ _ _ hOO1
 simp only [aG,aH];refine Abx ?_;refine Abb ?_;refine AI ?_
 refine BW fun b=>?_
 revert b; intro bn
 refine CR (CA (by_:=32) (s:=4) (news:=[int x.n,int x.f,int x.t,int x.a]) rfl rfl rfl rfl rfl rfl rfl hOD fL (fR gN) rfl iF (by omega) (by simp only [maxLen]; omega) (by omega)) rfl rfl rfl ?_
 rintro dv1 _ ⟨σD1,hOD1,rfl⟩
 have hd2:=kL _ _ _ _ hOD1
 have hOD2:fS 126 4 dv1 (D ++ [x]).length ((D ++ [x]).flatMap jI) σD1:=by
  rw [aB,aX]; exact hOD1
 clear hOD1 hOD hOO
 have hit1:=fun c1 c2=>hit c1 c2 x (by omega)
 have hmv:=qG bA x
 refine Abx ?_;refine Abb ?_;refine AI ?_;refine BG hmv rfl rfl fU rdZ rfl rfl ?_;rintro _ _ ⟨c1,c2,rfl,rfl⟩;simp only [aG,aH];refine AW (ρ:=sng c2 _) fL ?_;refine AW (ρ:=sng c1 _) fL ?_;refine Ad3 ?_
 have hml:=aAd hg x
 have hnl:∀ j,(qF G (D ++ [x]) ((mvs G x).take j)).length<=12100:=fun j=>by
  have h4:=cD (fun m:Lb × Hp=>decide (m.1.n≠G.q.dst) && !(D ++ [x]).any (iP m.1)) ((mvs G x).take j)
  unfold qF;rw [aU];rw [aL] at h4;omega
 have hO10:fS 126 4 ov1 (O1 ++ qF G (D ++ [x]) ((mvs G x).take 0)).length ((O1 ++ qF G (D ++ [x]) ((mvs G x).take 0)).flatMap jI) σO1:=by
  have e:O1 ++ qF G (D ++ [x]) ((mvs G x).take 0)=O1:=by simp [qF]
  rw [e]; exact hOO1
 refine DL (gf:=153) (cap:=[.pointer (some ⟨c1,0,none⟩),.pointer (some ⟨c2,0,none⟩)]) (ps:=[77]) (X:=Value × PH) rfl Tryz.func153 rfl rfl
  (hit1 c1 c2) ?_ (fun j z=>fS 126 4 z.1 (O1 ++ qF G (D ++ [x]) ((mvs G x).take j)).length ((O1 ++ qF G (D ++ [x]) ((mvs G x).take j)).flatMap jI) z.2) (fun z=>[sng b4 (.cells #[z.1] 44 (0,0)),sng b3 (.cells #[dv1] 44 (0,0)),z.2,σD1]) (fun _ _=>False) (ov1,σO1) rfl fU hO10 ?_ ?_ ?_
 ·intro σ' hσ
  simp only [aE,bD,or_false] at hσ ⊢
  rcases hσ with h|h|h|h <;> simp [h]
 ·rintro lo r j ⟨ov2,σO2⟩ vs hvs hO2 hps has hbd hst hpe hfr
  dsimp only at hO2 ⊢
  have ho3:=kL _ _ _ _ hO2
  obtain ⟨st,pe,fnn,tm,prm,asg,bdy,df⟩:=r
  simp only at hps has hbd hst hpe hfr;subst hps has hbd hst hpe;rw [aY] at hvs
  obtain ⟨m,hm,rfl⟩:=aQ.1 hvs
  have hnx:=aO3 (G:=G) (D:=D ++ [x]) hm
  have hnj:=hnl j
  refine lF hfr rfl (by intro p hp; simp at hp; omega) aBm (fun N' β'=>?_)
  unfold aJq
  generalize qF G (D ++ [x]) ((mvs G x).take j)=Q at hO2 hnx hnj
  refine AA ?_
  refine A3 fun b=>?_
  refine Aa6 ?_
  revert b; intro b8
  refine C7 rfl rfl ?_;refine DI fL rfl ?_;refine AW (ρ:=sng b8 _) fL ?_
  have bx409_3:=rdB b8 184 [int m.1.n,int m.1.f,int m.1.t,int m.1.a,int m.2.c,int m.2.b,int m.2.e,int m.2.a]
  have m0:=rdC bx409_3 0
  have mP:=rdQ (xs:=[_,_,_,_]) bx409_3
  by_cases q1:m.1.n=G.q.dst
  ·rw [if_neg (by simp [q1]),bX] at hnx
   refine AM ?_;refine AC ?_
   refine A9 (.q 0 (.q 1 (.q 2 (.q 3 (.q 4 (.q 5 (.q 6 (.q 7 (.q 8 (.q 9 (.q 10 (.q 11 (.q 12 (.q 13 (.q 14 .nil))))))))))))))) [] rfl (by kernel_rfl) fK ?_
   refine AR ?_;refine Aco ?_;refine FL ?_;refine Ac2 ?_;refine BS ?_;refine Ach ?_;refine BB ?_
   exact CD fL fQ fK ⟨(ov2,σO2),.inl ⟨rfl,by dsimp only; rw [hnx]; exact hO2,rfl⟩⟩
  have hco:=aCa σD1 _ (D ++ [x]) hOD2.at (by rw [aB,bM]; omega) _ (fun y=>iP m.1 y) _ (fun y=>aS5 b8 m y)
  cases hany:(D ++ [x]).any (fun y=>iP m.1 y) with
  | true =>
   rw [hany] at hco
   rw [if_neg (by simp only [not_and]; intro _ h2; rw [show (D ++ [x]).any (iP m.1)=true from hany] at h2; cases h2),bX] at hnx
   refine AM ?_;refine AC ?_
   refine A9 (.q 0 (.q 1 (.q 2 (.q 3 (.q 4 (.q 5 (.q 6 (.q 7 (.q 8 (.q 9 (.q 10 (.q 11 (.l 12 .e (.q 13 (.q 14 .nil))))))))))))))) [] rfl (by kernel_rfl) fK ?_
   refine AR ?_;refine Aco ?_;refine GI ?_;refine AP ?_;refine AN ?_;refine DX ?_;refine BZ (BQ rfl hco rfl rfl rdZ rfl rfl ?_);rintro _ rfl;refine CZ ?_;refine BU ?_;refine Ach ?_;refine BB ?_
   exact CD fL fQ fK ⟨(ov2,σO2),.inl ⟨rfl,by dsimp only; rw [hnx]; exact hO2,rfl⟩⟩
  | false =>
   rw [hany] at hco;rw [if_pos ⟨q1,hany⟩] at hnx;refine AM ?_;refine AC ?_
   refine A9 (.q 0 (.q 1 (.q 2 (.q 3 (.q 4 (.q 5 (.q 6 (.q 7 (.q 8 (.q 9 (.q 10 (.q 11 (.l 12 .e (.q 13 (.q 14 .nil))))))))))))))) [] rfl (by kernel_rfl) fK ?_
   refine AR ?_;refine Aco ?_;refine GI ?_;refine AP ?_;refine AN ?_;refine DX ?_;refine BZ (BQ rfl hco rfl rfl rdZ rfl rfl ?_);rintro _ rfl;refine CZ ?_;refine BU ?_;refine Ad6 ?_;refine AF ?_;refine Ab4 ?_
   refine BW fun b=>?_
   revert b; intro bn2
   have hlq:(O1 ++ Q).length=O1.length+Q.length:=aB
   refine CR (CA (by_:=32) (s:=4) (news:=[int m.1.n,int m.1.f,int m.1.t,int m.1.a]) rfl rfl rfl rfl rfl rfl rfl hO2 fL (fR gN) rfl iF (by omega) (by simp only [maxLen]; omega) (by omega)) rfl rfl rfl ?_
   rintro ov3 _ ⟨σO3,hO3,rfl⟩
   have ho4:=kL _ _ _ _ hO3
   refine Abx ?_;refine BB ?_;refine CD fL fQ fK ⟨(ov3,σO3),.inl ⟨rfl,?_,rfl⟩⟩
   dsimp only
   have e:∀ W:List Lb,fS 126 4 ov3 (W.length+1) (W.flatMap jI ++ [int m.1.n,int m.1.f,int m.1.t,int m.1.a]) σO3->fS 126 4 ov3 (W ++ [m.1]).length ((W ++ [m.1]).flatMap jI) σO3:=fun W h=>by
    rw [aB,aX]; exact h
   rw [hnx,← aR];exact e _ hO3
 ·rintro bm ⟨ov2,σO2⟩ hO2
  dsimp only at hO2 ⊢
  simp only [aG,aH];rw [aU,bJ] at hO2
  refine ED (R':=[sng b2 (.cells #[.pointer (some ⟨bA,0,none⟩)] 109 (0,0)),β,γ,τ]) (by intro σ hσ; simp at hσ ⊢; rcases hσ with h|h|h|h <;> simp [h]) ?_
  refine C9 (b:=bm) fL (μ:=μ) fL hM ?_
  intro μ2 hM2
  refine BB ?_;refine BB ?_
  exact DZ ((((D ++ [x]),(O1 ++ qF G (D ++ [x]) (mvs G x))),(dv1,ov2)),((σD1,σO2),(bm::ms,μ2))) rfl ⟨hI2,hOD2,hO2,hM2⟩ (by dsimp only; rw [aB,bM]; omega) fP fK
 ·rintro bm cc o' hf
  exact hf.elim
end Go.Proofs.YtnijkofdlepfjaaGreat
namespace Go.Eng
variable {C : Cx} {D : List Deferred} {R H : List PH} {L : Env} {K : List It}
variable {dst : Option Tmp} {ty : TypeId} {pos : String} {aft : Array Edge} {g : Option (Nat × Bool)}
abbrev uH (k : List Int) : Value := .agg (k.map int).toArray
structure KeyS (P : Program) (kt : TypeId) (n : Nat) : Prop where
  i : aBk P kt n = true
  s : P.stoodInHeld kt = false
theorem tL {P : Program} {w : World} (em : Bool) (d : Nat) (k : List Int) : ∀ (fs : List Field) (j : Nat), aBj P j fs = true -> j + fs.length = k.length ->
    ((forIn fs PUnit.unit fun (f : Field) (_ : PUnit) => (if f.name ≠ "_" then do let x ← part f.type (k.map int).toArray f.offset; Instr.checkKey em (d + 1) f.type x; pure (ForInStep.yield PUnit.unit) else pure (ForInStep.yield PUnit.unit) : Sem (ForInStep PUnit)))).run P w = .ok PUnit.unit w
  | [], j, _, _ => by simp
  | f :: fs, j, hf, h => by
    simp only [aBj, fldI, aJ, bne_iff_ne, ne_eq, beq_iff_eq] at hf
    obtain ⟨⟨⟨h3, h4⟩, h5⟩, h6⟩ := hf
    have hu : P.underlying f.type = some (.int .i64) := by
      split at h5
      · assumption
      · simp at h5
    have ih := tL (w := w) em d k fs (j + 1) h6 (by simp at h; omega)
    have hk : j < k.length := by simp at h; omega
    have hp : (part f.type (k.map int).toArray f.offset).run P w = .ok (int k[j]) w := by
      have hag : lP P f.type = some false := by simp [lP, hu]
      simp [part, run_isAgg hag, h4, hk]
    have hc := qA (P := P) (w := w) (k := k[j]) em d hu
    rw [List.forIn_cons];simp only [h3, not_false_eq_true, if_true, ne_eq, bind_assoc, Sem.run_bind, hp, hc, Result.andThen_ok, pure_bind];exact ih
theorem aL0 {P : Program} {w : World} {kt : TypeId} {n : Nat} {k : List Int} (hk : KeyS P kt n) (hn : k.length = n) (em : Bool) : (Instr.checkKey em 10000 kt (uH k)).run P w = .ok () w := by
  obtain ⟨fs, hu, hs, hf⟩ := aBl hk.i
  have h := tL (P := P) (w := w) em 9998 k fs.toList 0 hf (by simp [hs, hn])
  rw [show (10000 : Nat) = 9999 + 1 from rfl, Instr.checkKey]
  simp only [Sem.run_bind, run_underlying hu, Result.andThen_ok, ← Array.forIn_toList];rw [h]
  rfl
theorem aGf (k : List Int) : Instr.sameBits 10000 (uH k) (uH k) = true := by
  have h : ∀ l : List Int, ((l.map int).zip (l.map int)).all (fun p => Instr.sameBits 9999 p.1 p.2) = true := by
    intro l
    induction l with
    | nil => rfl
    | cons x l ih =>
      simp only [dK, List.zip_cons_cons, List.all_cons, ih, Bool.and_true]
      simp [Instr.sameBits]
  have h2 := h k
  simp only [uH];unfold Instr.sameBits;simp only [beq_self_eq_true, Bool.true_and];exact h2
end Go.Eng
namespace Go.Proofs.YtnijkofdlepfjaaGreat
open Go.Eng Go.Step
set_option maxRecDepth 100000
set_option maxHeartbeats 64000000
theorem aDa {ρ τ σ υ:PH} {pq pc pb ph:Option Addr} {kq kc kb kh:Nat} {qs:List Int} {cs:List Ct} {bs:List Bk} {hs:List Hd} (hT:oF ρ τ σ υ pq pc pb ph kq kc kb kh qs cs bs hs) (i:Nat) (h0:sZ qs cs bs=0) (hi:i<cs.length) :
  Ans Tryz.prog (fv 163) [.agg #[.slice pq qs.length kq,.slice pc cs.length kc],.slice pb bs.length kb,int (i:Int)] [ρ,τ,σ] (fun r=>r=int 0):=by
 have hck:=qD ρ τ σ pq pc kq kc qs cs _ bs hT.hq hT.hc hT.hcap hT.lq hT.lc hT.hb hT.lb
 rw [h0] at hck
 refine A8 Tryz.func163 Tryz.ntmps163 fun N β=>?_
 refine Aa ?_
 refine BF fun b3 c=>?_
 have c0:=rdC c 0
 have c1:=rdC c 1
 refine Aba ?_;refine Ad4 ?_;refine A5 hck ?_;refine Adp ?_;refine BD ?_;refine Aal ?_;refine Ab3 ?_;refine CP ?_;refine Abe ?_;refine Aam ?_;exact AV ⟨rfl,rfl⟩
theorem vX (bA bO:Nat) (a to:Int) (u:Value) (G:List (Int × Int)) (χ:PH) (hO:fS 207 2 u G.length (G.flatMap kX) χ) (hl:G.length<=100000) :
  Eng.Spec Tryz.prog (.func (.func 216) #[] #[.pointer (some ⟨bA,0,none⟩),.pointer (some ⟨bO,0,none⟩)]) [int to] [] [sng bA (.cells #[int a] 3 (0,0)),sng bO (.cells #[u] 201 (0,0)),χ] (fun r H'=>r=.tuple #[]/\∃ u' χ',H'=[sng bA (.cells #[int a] 3 (0,0)),sng bO (.cells #[u'] 201 (0,0)),χ']/\fS 207 2 u' (G ++ if a<to then [(a,to)] else []).length ((G ++ if a<to then [(a,to)] else []).flatMap kX) χ'):=by
 have hone:∀ z n (xs:List Value) (χ:PH),fS 207 2 z n xs χ->z.oneCell'=true:=fun z n xs χ h=>by obtain ⟨_,_,rfl⟩:=h.form; rfl
 have hu:=hone _ _ _ _ hO
 refine CU [.pointer (some ⟨bA,0,none⟩),.pointer (some ⟨bO,0,none⟩)] Tryz.func216 Tryz.ntmps216 fun N β=>?_
 by_cases h:a<to
 ·rw [if_pos h]
  refine Abb ?_;refine AB ?_;refine Ab0 ?_;refine AA ?_;refine AF ?_;refine AF ?_;refine AB ?_;refine CB ?_
  refine BW fun b=>?_
  refine CR (CA (by_:=16) (s:=2) (news:=[int a,int to]) rfl rfl rfl rfl rfl rfl rfl hO fL (fR gN) rfl iF (by omega) (by simp only [maxLen]; omega) (by omega)) rfl rfl rfl ?_
  rintro u1 _ ⟨χ1,hO1,rfl⟩
  have hu2:=hone _ _ _ _ hO1
  refine Abx ?_;refine BJ (gY rfl) fQ fK ⟨rfl,u1,χ1,rfl,?_⟩;rw [aB,aX];exact hO1
 ·rw [if_neg h,bX]
  refine Abb ?_;refine AB ?_;refine BD ?_;refine Aai ?_;exact BJ (gY rfl) fQ fK ⟨rfl,u,χ,rfl,hO⟩
theorem aS6 {e:Int} {l:List (Int × Int)} {k:Nat} (h:k<l.length) (a:Int):mF e a (l.drop k)=(if a<l[k].1 then [(a,l[k].1)] else []) ++ mF e l[k].2 (l.drop (k+1)):=by
 rw [bU h]
 rfl
theorem aGg {ρ τ σ υ:PH} {pq pc pb ph:Option Addr} {kq kc kb kh:Nat} {qs:List Int} {cs:List Ct} {bs:List Bk} {hs:List Hd} (hT:oF ρ τ σ υ pq pc pb ph kq kc kb kh qs cs bs hs) (i:Nat) (x:Ct) (hx:cs[i]?=some x) (hb:gK (bkE cs bs) bs.length=0) (hbl:bs.length<=512) :
  jM Tryz.prog (fv 164) [.agg #[.slice pq qs.length kq,.slice pc cs.length kc],.slice pb bs.length kb,int (i:Int),int x.s] [ρ,τ,σ] (fun r χ=>fS 207 2 r (iW cs bs i).length ((iW cs bs i).flatMap kX) χ):=by
 have hbusy:=aOz σ _ bs i hT.hb (by omega)
 have hbi:=aNg hb hx
 have hbp:=aB1 hb i
 have hbll:=xO bs i
 have hfc:iW cs bs i=mF x.e x.s (kK bs i):=by unfold iW; rw [hx]
 have hgl:=xU x.e (kK bs i) x.s
 have hone:∀ z n (xs:List Value) (χ:PH),fS 207 2 z n xs χ->z.oneCell'=true:=fun z n xs χ h=>by obtain ⟨_,_,rfl⟩:=h.form; rfl
 rw [hfc]
 have hi:=(aC.1 hx).1
 obtain ⟨bq,oq,e4,hrd⟩:=oC hT.rc hx
 refine A8 Tryz.func164 Tryz.ntmps164 fun N β=>?_
 refine Aa ?_
 refine BF fun b3 c=>?_
 have c0:=rdC c 0
 have c1:=rdC c 1
 refine B9 ?_;subst e4;refine Aaa ?_;refine Acm ?_;refine Aa9 ?_
 refine A3 fun b=>?_
 refine Aa6 ?_;refine Aa ?_
 refine B5 fun b=>?_
 refine AE ?_;refine Acm ?_;refine EN ?_
 refine B5 fun b=>?_
 refine Abx ?_;refine Adj ?_;refine Aaa ?_;refine Aav ?_
 revert b; intro bA
 revert b; intro bO
 revert b; intro bC
 rw [show max x.s x.s=x.s by omega]
 refine AW (ρ:=sng bC _) fL ?_
 have bx157_3:=rdB bC 71 [int x.f,int x.t,int x.s,int x.e,int x.r,int x.g,int x.l]
 have g2:=rdC bx157_3 3
 refine B4 hbusy rfl rfl rdZ rfl rfl ?_;rintro w χb hOb
 have hSb:=hOb.at
 obtain ⟨pw,kw,rfl⟩:=hOb.form
 obtain ⟨_,_,ew,hrw⟩:=SlE.val (enc:=kX) mZ (show SlE kX 2 χb _ (kK bs i) from hSb)
 simp only [aN] at ew
 obtain ⟨rfl,_,rfl⟩:=ew
 refine AW (ρ:=χb) fL ?_
 generalize kK bs i=L at hbi hbp hbll hOb hSb hrw hgl
 refine Abh ?_
 refine BE [2,12,27,28,9,10,11] (X:=Nat × Int × List (Int × Int) × Value × PH) (0,x.s,[],.slice none 0 0,emp) (fun z=>z.1<=L.length/\(∀ y∈L.drop z.1,z.2.1<=y.1)/\mF x.e x.s L=z.2.2.1 ++ mF x.e z.2.1 (L.drop z.1)/\fS 207 2 z.2.2.2.1 z.2.2.1.length (z.2.2.1.flatMap kX) z.2.2.2.2) (fun z=>[(29,int z.1)]) (fun z=>[sng bA (.cells #[int z.2.1] 3 (0,0)),sng bO (.cells #[z.2.2.2.1] 201 (0,0)),z.2.2.2.2]) (fun z=>L.length-z.1) fT ⟨by dsimp only; omega,fun y hy=>by rw [List.drop_zero] at hy; exact (hbi y hy).1,rfl,fS.nil _ _⟩ fP fK ?_
 rintro ⟨k,a,G,u,χ⟩ ⟨hk,ha,hG,hO⟩
 dsimp only at hk ha hG hO ⊢
 have hGl:G.length<=L.length+1:=by
  have:=congrArg List.length hG
  rw [aB] at this;omega
 by_cases hlt:k<L.length
 ·have hy:=aA hlt
  have hga:=aS6 (e:=x.e) hlt a
  have hmem:=cP hlt
  have hin:=hbi _ hmem
  have hak:=ha L[k] (by rw [bU hlt]; exact List.mem_cons_self)
  have hpk:∀ y∈L.drop (k+1),L[k].2<=y.1:=fun y hy=>by
   have h1:=List.Pairwise.sublist (fF k L) hbp
   rw [bU hlt] at h1;exact (aW.1 h1).1 y hy
  obtain ⟨b6,o6,rfl,hRd6,y0,y1⟩:=aEh hrw hy
  generalize L[k]=y at hy hga hin hak hpk hRd6 y0 y1
  have hadd:=vX bA bO a y.1 u G χ hO (by omega)
  refine Ab2 ?_
  refine A3 fun b=>?_
  refine Aa6 ?_;refine Aab ?_;refine Aac ?_
  revert b; intro b14
  refine BG hadd rfl rfl fU rdZ rfl rfl ?_;rintro _ _ ⟨rfl,u',χ',rfl,hO'⟩
  have hmx:max a y.2=y.2:=by omega
  refine AE ?_;refine AA ?_;refine AF ?_;refine Aac ?_;refine EN ?_
  focus ((rw [hmx]))
  refine Abx ?_;refine Aa3 ?_
  refine AZ (k+1,y.2,G ++ (if a<y.1 then [(a,y.1)] else []),u',χ') ⟨by dsimp only; omega,hpk,?_,hO'⟩ (by dsimp only; omega) fP fK
  dsimp only
  rw [hG,hga,aR]
 ·have hke:k=L.length:=by omega
  subst hke
  have hadd:=vX bA bO a x.e u G χ hO (by omega)
  have hfin:mF x.e x.s L=G ++ (if a<x.e then [(a,x.e)] else []):=by
   rw [hG,List.drop_length]
   rfl
  rw [hfin];refine Abp ?_;refine Aab ?_;refine Aac ?_;refine BG hadd rfl rfl fU rdZ rfl rfl ?_;rintro _ _ ⟨rfl,u',χ',rfl,hO'⟩;refine AE ?_;refine Abb ?_;refine Aaa ?_;exact AV ⟨χ',hO',rfl⟩
theorem aJs {ρ τ σ υ:PH} {pq pc pb ph:Option Addr} {kq kc kb kh:Nat} {qs:List Int} {cs:List Ct} {bs:List Bk} {hs:List Hd} (hT:oF ρ τ σ υ pq pc pb ph kq kc kb kh qs cs bs hs) (i:Nat) (x:Ct) (hx:cs[i]?=some x) (h0:sZ qs cs bs=0) :
  jM Tryz.prog (fv 95) [.agg #[.slice pq qs.length kq,.slice pc cs.length kc],.slice pb bs.length kb,int (i:Int)] [ρ,τ,σ] (fun r χ=>∃ u,r=.tuple #[u,int 0]/\fS 207 2 u (iW cs bs i).length ((iW cs bs i).flatMap kX) χ):=by
 obtain ⟨hbl,hb⟩:=qC h0
 have hck:=aDa hT i h0 (aC.1 hx).1
 have hfr:=aGg hT i x hx hb hbl
 have hi:=(aC.1 hx).1
 obtain ⟨bq,oq,e4,hrd⟩:=oC hT.rc hx
 have g2:rdc τ bq (oq+i*7+2)=some (int x.s):=hrd.get (j:=2) rfl
 refine A8 Tryz.func95 Tryz.ntmps95 fun N β=>?_
 refine Aa ?_
 refine BF fun b3 c=>?_
 have c0:=rdC c 0
 have c1:=rdC c 1
 subst e4;refine Aaq ?_;refine AC ?_;refine Aar ?_;refine Aal ?_;refine A5 hck ?_;refine Ac7 ?_;refine AC ?_
 refine A9 (.q 0 (.q 1 (.q 2 (.q 3 (.q 4 (.q 5 (.q 6 (.q 7 (.q 8 (.l 9 .e (.q 10 (.q 11 .nil)))))))))))) [] rfl (by kernel_rfl) Sel.nil ?_
 refine A7 ?_;refine Aa0 ?_;refine Ac3 ?_;refine Ael ?_;refine BZ (C8 rfl hfr rfl rfl rdZ rfl rfl ?_);rintro u _ ⟨χ,hO,rfl⟩;refine BP ?_;refine Ac ?_
 skip
 exact A2 (mB rfl rfl rfl) fQ fK ⟨χ,⟨u,rfl,hO⟩,rfl⟩
theorem aU0 {qs:List Int} {cs:List Ct} {l:List Hd} (h:sX qs cs l=0):gD qs cs=0:=by
 unfold sX at h
 split at h
 ·omega
 ·rename_i hp; exact Decidable.not_not.1 hp
theorem mS {qs:List Int} {cs:List Ct} {l:List Hd} (h:sX qs cs l=0):(∀ x∈l,lN qs.length x)/\l.length<=512/\(1<=qs.length/\qs.length<=16):=by
 unfold sX at h
 split at h
 ·omega
 ·rename_i hp
  split at h
  ·omega
  ·split at h
   ·rename_i h2; exact absurd h h2
   ·rename_i h1 h2
    have h3:gK (hdE qs.length l) l.length=0:=Decidable.not_not.1 h2
    have:=aLo h3
    rw [bJ] at this
    exact ⟨this,by omega,(xN (Decidable.not_not.1 hp)).1⟩
def endO (fr t:Int) (out:List (Int × Int)):List (Int × Int):=if 0<=fr/\fr<t then out ++ [(fr,t)] else out
theorem aJt (bf bo:Nat) (fr t:Int) (u:Value) (out:List (Int × Int)) (σ:PH) (hO:fS 207 2 u out.length (out.flatMap kX) σ) (hl:out.length<=100000) :
  Eng.Spec Tryz.prog (.func (.func 167) #[] #[.pointer (some ⟨bf,0,none⟩),.pointer (some ⟨bo,0,none⟩)]) [int t] [] [sng bf (.cells #[int fr] 3 (0,0)),sng bo (.cells #[u] 201 (0,0)),σ]
   (fun r H'=>r=.tuple #[]/\∃ u' σ',fS 207 2 u' (endO fr t out).length ((endO fr t out).flatMap kX) σ'/\H'=[sng bf (.cells #[int (-1)] 3 (0,0)),sng bo (.cells #[u'] 201 (0,0)),σ']):=by
 obtain ⟨pu,cu,rfl⟩:=qO.cap hO.at
 refine CU [.pointer (some ⟨bf,0,none⟩),.pointer (some ⟨bo,0,none⟩)] Tryz.func167 Tryz.ntmps167 fun N β=>?_
 unfold endO
 by_cases h1:0<=fr
 ·by_cases h2:fr<t
  ·rw [if_pos ⟨h1,h2⟩]
   refine Ac5 ?_;refine DQ ?_;refine Ads ?_;refine AB ?_;refine BM ?_;refine Aci ?_;refine AA ?_;refine AF ?_;refine AF ?_;refine AB ?_;refine CB ?_
   refine BW fun b=>?_
   refine CR (CA (by_:=16) (s:=2) (news:=[int fr,int t]) rfl rfl rfl rfl rfl rfl rfl hO fL (fR gN) rfl iF (by omega) (by simp only [maxLen]; omega) (by omega)) rfl rfl rfl ?_
   rintro u1 _ ⟨σ1,hO1,rfl⟩
   have hu1:u1.oneCell'=true:=by obtain ⟨p,c,rfl⟩:=qO.cap hO1.at; rfl
   refine Abx ?_;refine AA ?_;refine Abx ?_;refine BJ (gY rfl) fQ fK ⟨rfl,u1,σ1,?_,rfl⟩;rw [aB,aX];exact hO1
  ·rw [if_neg (by omega)]
   refine Ac5 ?_;refine DQ ?_;refine Ads ?_;refine AB ?_;refine BD ?_;refine Adw ?_;refine AA ?_;refine Abx ?_;exact BJ (gY rfl) fQ fK ⟨rfl,_,_,hO,rfl⟩
 ·rw [if_neg (by omega)]
  refine Ac5 ?_;refine CP ?_;refine Acd ?_;refine Abe ?_;refine AA ?_;refine Abx ?_;exact BJ (gY rfl) fQ fK ⟨rfl,_,_,hO,rfl⟩
def aS7 (bf bo:Nat):Value:=.func (.func 167) #[] #[.pointer (some ⟨bf,0,none⟩),.pointer (some ⟨bo,0,none⟩)]
theorem aNh (ρ:PH) (b4 b6 b7 b12 bf bo:Nat) (w:Value) (pq:Option Addr) (kq:Nat) (qs:List Int) (nn:Nat) (Q s fr t x:Int) (u:Value) (out:List (Int × Int)) (σ:PH) (hq:gC ρ (.slice pq qs.length kq) qs) (hQ:qs[nn]?=some Q) (hQb:0<=Q/\Q<=1073741824) (hx:0<=x/\x<=1099511627776)
  (hO:fS 207 2 u out.length (out.flatMap kX) σ) (hl:out.length<=100000) :
  Eng.Spec Tryz.prog (.func (.func 168) #[] #[.pointer (some ⟨b4,0,none⟩),.pointer (some ⟨b6,0,none⟩),.pointer (some ⟨b7,0,none⟩),.pointer (some ⟨b12,0,none⟩),.pointer (some ⟨bf,0,none⟩)]) [int t,int x]
   [ρ,sng b4 (.cells #[.slice pq qs.length kq,w] 25 (0,0)),sng b6 (.cells #[int nn] 3 (0,0)),sng b7 (.cells #[int s] 3 (0,0)),sng b12 (.cells #[aS7 bf bo] 260 (0,0))]
   [sng bf (.cells #[int fr] 3 (0,0)),sng bo (.cells #[u] 201 (0,0)),σ]
   (fun r H'=>r=.tuple #[]/\∃ u' σ',fS 207 2 u' (frA Q s (fr,out) t x).2.length ((frA Q s (fr,out) t x).2.flatMap kX) σ'/\H'=[sng bf (.cells #[int (frA Q s (fr,out) t x).1] 3 (0,0)),sng bo (.cells #[u'] 201 (0,0)),σ']):=by
 obtain ⟨_,_,e,hrq⟩:=hq.val Eng.encI_len
 simp only [aN] at e
 obtain ⟨rfl,_,rfl⟩:=e
 have hnl:=(aC.1 hQ).1
 obtain ⟨bq,oq,rfl,gq⟩:=hrq.int hQ
 refine CU [.pointer (some ⟨b4,0,none⟩),.pointer (some ⟨b6,0,none⟩),.pointer (some ⟨b7,0,none⟩),.pointer (some ⟨b12,0,none⟩),.pointer (some ⟨bf,0,none⟩)] Tryz.func168 Tryz.ntmps168 fun N β=>?_
 have bx99_3:=rdB b4 25 [.slice (some ⟨bq,oq,none⟩) qs.length kq,w]
 have c4:=rdC bx99_3 0
 have bx100_3:=rdB b6 3 [int nn]
 have c6:=rdC bx100_3 0
 have bx101_3:=rdB b7 3 [int s]
 have c7:=rdC bx101_3 0
 have bx102_3:=rdB b12 260 [aS7 bf bo]
 have c12:=rdC bx102_3 0
 unfold frA
 dsimp only
 refine AC ?_
 refine A9 (.q 0 (.q 1 (.q 2 (.q 3 (.q 4 (.q 5 (.q 6 (.q 7 (.q 8 .nil))))))))) _ rfl (by kernel_rfl) Sel.refl ?_
 by_cases hc:Q-x<s
 ·rw [if_pos hc]
  refine Aca ?_;refine DT ?_;refine AN ?_;refine AP ?_;refine ES ?_;refine AN ?_;refine D8 ?_;refine Ad6 ?_;refine AF ?_;refine AB ?_
  refine BG (aJt bf bo fr t u out σ hO hl) rfl rfl fU (fun τ hτ=>by simp at hτ) rfl rfl ?_
  rintro _ _ ⟨rfl,u1,σ1,hO1,rfl⟩;refine AE ?_;exact BJ (gY rfl) fQ fK ⟨rfl,u1,σ1,hO1,rfl⟩
 ·rw [if_neg hc]
  by_cases hf:fr<0
  ·rw [if_pos hf]
   refine Aca ?_;refine DT ?_;refine AN ?_;refine AP ?_;refine ES ?_;refine AN ?_;refine C4 ?_;refine Aby ?_;refine Abb ?_;refine Ab0 ?_;refine Ad ?_;refine Abx ?_;exact BJ (gY rfl) fQ fK ⟨rfl,_,_,hO,rfl⟩
  ·rw [if_neg hf]
   refine Aca ?_;refine DT ?_;refine AN ?_;refine AP ?_;refine ES ?_;refine AN ?_;refine C4 ?_;refine Aby ?_;refine Abb ?_;refine BD ?_;refine Aai ?_;exact BJ (gY rfl) fQ fK ⟨rfl,_,_,hO,rfl⟩
theorem aEm (ρ τ σ:PH) (pq pc:Option Addr) (kq kc:Nat) (qs:List Int) (cs:List Ct) (v:Value) (l:List Hd) (n s:Int) (hq:gC ρ (.slice pq qs.length kq) qs) (hc:jW τ (.slice pc cs.length kc) cs) (hcap:cs.length<=kc) (lq:qs.length<=9223372036854775807) (lc:cs.length<=9223372036854775807) (hv:HdAt σ v l) (hl:l.length<=9223372036854775807) :
  jM Tryz.prog (fv 97) [.agg #[.slice pq qs.length kq,.slice pc cs.length kc],v,int n,int s] [ρ,τ,σ] (fun r σ'=>∃ u,r=.tuple #[u,int (kO qs cs l n s).2]/\fS 207 2 u (kO qs cs l n s).1.length ((kO qs cs l n s).1.flatMap kX) σ'):=by
 have hv2:=hv
 obtain ⟨q,c,rfl,hr⟩:=hv.val gM
 refine A8 Tryz.func97 Tryz.ntmps97 fun N β=>?_
 refine B9 ?_;refine Aa ?_
 refine BF fun b4 bx18=>?_
 have c1:RdN (sng b4 (.cells #[.slice pq qs.length kq,.slice pc cs.length kc] 25 (0,0))) b4 0 [.slice pq qs.length kq,.slice pc cs.length kc]:=fun j u hu=>by rw [kE,bZ]; simpa using hu
 have c10:=rdC bx18 0
 refine C3 fun b6=>?_
 refine AW (ρ:=sng b6 _) fL ?_
 have bx22_3:=rdB b6 3 [int n]
 have c6:=rdC bx22_3 0
 refine C3 fun b7=>?_
 refine AW (ρ:=sng b7 _) fL ?_
 have bx25_3:=rdB b7 3 [int s]
 have c7:=rdC bx25_3 0
 refine Aaq ?_;refine AC ?_;refine Ad4 ?_;refine A5 (vO ρ τ σ pq pc kq kc qs cs _ l hq hc hcap lq lc hv2 hl) ?_
 by_cases h0:sX qs cs l=0
 rotate_left
 ·have hR:kO qs cs l n s=([],1):=by unfold kO; rw [if_pos h0]
  rw [hR]
  generalize sX qs cs l=z at h0
  refine Adu ?_;refine Adl ?_;exact A2 (mB rfl rfl rfl) fQ fK ⟨emp,⟨_,rfl,fS.nil _ _⟩,rfl⟩
 rw [h0]
 obtain ⟨hok,hlen,hql⟩:=mS h0
 by_cases hbad:n<0\/(qs.length:Int)<=n\/s<1\/65536<s
 ·have hR:kO qs cs l n s=([],2):=by unfold kO; rw [if_neg (fun h=>h h0),if_pos hbad]
  rw [hR]
  by_cases k1:n<0
  ·refine BN ?_
   refine Aai ?_;refine Ac5 ?_;refine BM ?_;refine Acg ?_;refine AY ?_;refine Abd ?_;refine AY ?_;refine Abd ?_;refine Aci ?_;refine Adl ?_;exact A2 (mB rfl rfl rfl) fQ fK ⟨emp,⟨_,rfl,fS.nil _ _⟩,rfl⟩
  by_cases k2:(qs.length:Int)<=n
  ·refine BN ?_
   refine Aai ?_;refine Ac5 ?_;refine BD ?_;refine Ads ?_;refine Ab3 ?_;refine DQ ?_;refine AT ?_;refine Abd ?_;refine AY ?_;refine Abd ?_;refine Aci ?_;refine Adl ?_;exact A2 (mB rfl rfl rfl) fQ fK ⟨emp,⟨_,rfl,fS.nil _ _⟩,rfl⟩
  by_cases k3:s<1
  ·refine BN ?_
   refine Aai ?_;refine Ac5 ?_;refine BD ?_;refine Ads ?_;refine Ab3 ?_;refine CP ?_;refine AT ?_;refine Ads ?_;refine BM ?_;refine AT ?_;refine Abd ?_;refine Aci ?_;refine Adl ?_;exact A2 (mB rfl rfl rfl) fQ fK ⟨emp,⟨_,rfl,fS.nil _ _⟩,rfl⟩
  ·refine BN ?_
   refine Aai ?_;refine Ac5 ?_;refine BD ?_;refine Ads ?_;refine Ab3 ?_;refine CP ?_;refine AT ?_;refine Ads ?_;refine BD ?_;refine AT ?_;refine Ads ?_;refine C1 ?_;refine AT ?_;refine Aah ?_;refine Adl ?_;exact A2 (mB rfl rfl rfl) fQ fK ⟨emp,⟨_,rfl,fS.nil _ _⟩,rfl⟩
 have hR:kO qs cs l n s=(jH (qs.getD n.toNat 0) s (lvH l n),0):=by unfold kO; rw [if_neg (fun h=>h h0),if_neg hbad]
 rw [hR]
 obtain ⟨nn,rfl⟩:=dZ (show 0<=n by omega)
 have hQ:=aA (show nn<qs.length by omega)
 have hgd:qs.getD (nn:Int).toNat 0=qs[nn]:=by rw [cL,aI,hQ]; rfl
 rw [hgd]
 have hQb:=(xN (aU0 h0)).2 nn _ hQ
 generalize qs[nn]=Q at hQ hQb
 refine Abn ?_;refine Ac5 ?_;refine BD ?_;refine Ads ?_;refine Ab3 ?_;refine CP ?_;refine AT ?_;refine Ads ?_;refine BD ?_;refine AT ?_;refine Ads ?_;refine B7 ?_;refine Abe ?_;refine Aa ?_
 refine B5 fun b=>?_
 refine AE ?_;refine Aa ?_
 refine B5 fun b=>?_
 refine Abx ?_;refine Adj ?_
 refine B5 fun b=>?_
 refine Abx ?_;refine Adj ?_;refine Abq ?_
 revert b; intro b12
 revert b; intro bf
 revert b; intro bo
 refine AW (ρ:=sng b12 _) fL ?_
 have bx247_3:=rdB b12 260 [aS7 bf bo]
 have c12:=rdC bx247_3 0
 refine BG (aNh ρ b4 b6 b7 b12 bf bo _ pq kq qs nn Q s (-1) 0 0 _ [] emp hq hQ hQb (by omega) (fS.nil _ _) (by simp)) rfl rfl fU rdZ rfl rfl ?_
 rintro _ _ ⟨rfl,u1,σ1,hO1,rfl⟩;refine AE ?_;refine Aag ?_;refine AF ?_
 refine B4 (yY σ _ l nn qs.length hv2 hok (by omega)) rfl rfl rdZ rfl rfl ?_
 rintro ul σl hOl
 have hL:LvAt σl ul (lvH l nn):=hOl.at
 have hll:=zZ l nn
 have hlv:∀ x∈lvH l nn,0<=x.v/\x.v<=1099511627776:=fun x hx=>by
  have h1:=(aBt hx).1
  have h2:=sK (n:=nn) (t:=x.a) hok
  omega
 unfold jH
 generalize lvH l nn=f at hOl hL hll hlv
 have hF:f.foldl (frL Q s) (frA Q s (-1,[]) 0 0)=frS Q s f f.length:=by unfold frS; rw [bJ]
 rw [hF]
 have hS0:frA Q s (-1,[]) 0 0=frS Q s f 0:=rfl
 rw [hS0] at hO1;rw [hS0]
 obtain ⟨pl,cl,rfl,hrl⟩:=hL.val aI8
 refine AW (ρ:=σl) fL ?_;refine Abh ?_
 refine BE [10,12,13,43,44] (X:=Nat × (Value × PH)) (0,(u1,σ1)) (fun x=>x.1<=f.length/\fS 207 2 x.2.1 (frS Q s f x.1).2.length ((frS Q s f x.1).2.flatMap kX) x.2.2) (fun x=>[(45,int x.1)]) (fun x=>[sng bf (.cells #[int (frS Q s f x.1).1] 3 (0,0)),sng bo (.cells #[x.2.1] 201 (0,0)),x.2.2]) (fun x=>f.length-x.1) fT ⟨by dsimp only; omega,hO1⟩ fP fK ?_
 clear hO1;rintro ⟨k,u,σk⟩ ⟨hk,hO⟩
 dsimp only at hk hO ⊢
 have hsl:=aF6 Q s f k
 by_cases hlt:k<f.length
 ·have hx:=aA hlt
  have hvx:=hlv _ (cP hlt)
  obtain ⟨b2,o2,rfl,hrd,_,_⟩:=aV8 hrl hx
  have hn:=aI9 Q s hx
  generalize f[k]=x at hrd hvx hn
  generalize hst:frS Q s f k=st at hO hsl hn
  obtain ⟨fr,out⟩:=st
  dsimp only at hO hsl ⊢
  by_cases hm:x.a<1099511627776
  ·have e:frL Q s (fr,out) x=frA Q s (fr,out) x.a x.v:=by unfold frL; rw [if_pos hm]
   rw [e] at hn;refine Ab2 ?_
   refine A3 fun b=>?_
   refine Aa6 ?_;refine Aan ?_;refine Ab0 ?_;refine AA ?_;refine Abf ?_
   refine BG (aNh ρ b4 b6 b7 b12 bf bo _ pq kq qs nn Q s fr x.a x.v u out σk hq hQ hQb hvx hO (by omega)) rfl rfl fU rdZ rfl rfl ?_
   rw [← hn];rintro _ _ ⟨rfl,u2,σ2,hO2,rfl⟩;refine AE ?_;refine Aa3 ?_
   exact AZ (k+1,(u2,σ2)) ⟨by dsimp only; omega,hO2⟩ (by dsimp only; omega) fP fK
  ·have e:frL Q s (fr,out) x=(fr,out):=by unfold frL; rw [if_neg hm]
   rw [e] at hn;refine Ab2 ?_
   refine A3 fun b=>?_
   refine Aa6 ?_;refine Aan ?_;refine BD ?_;refine Ace ?_
   refine AZ (k+1,(u,σk)) ⟨by dsimp only; omega,by dsimp only; rw [hn]; exact hO⟩ (by dsimp only; omega) fP ?_
   dsimp only
   rw [hn];exact fK
 ·have hke:k=f.length:=by omega
  subst hke
  generalize frS Q s f f.length=st at hO hsl
  obtain ⟨fr,out⟩:=st
  dsimp only at hO hsl ⊢
  refine Abp ?_;refine Abb ?_
  refine BG (aJt bf bo fr 1099511627776 u out σk hO (by omega)) rfl rfl fU (fun τ hτ=>by simp at hτ) rfl rfl ?_
  rintro _ _ ⟨rfl,u2,σ2,hO2,rfl⟩;refine AE ?_;refine Abb ?_;refine Aaq ?_;exact A2 (mB rfl rfl rfl) fQ fK ⟨σ2,⟨u2,rfl,hO2⟩,rfl⟩
end Go.Proofs.YtnijkofdlepfjaaGreat
