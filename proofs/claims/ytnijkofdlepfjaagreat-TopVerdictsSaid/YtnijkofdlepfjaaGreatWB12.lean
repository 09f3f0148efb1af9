/- Texts of this proof, one after the other; no conditions. -/
import Derived.Test.YtnijkofdlepfjaaGreatWA
import Derived.Test.YtnijkofdlepfjaaGreatWB11
import Derived.Test.YtnijkofdlepfjaaGreatWB3
import Derived.Test.YtnijkofdlepfjaaGreatWB5
import Derived.Test.YtnijkofdlepfjaaGreatWB9
import Derived.Test.YtnijkofdlepfjaaGreatWB10
import Derived.Test.YtnijkofdlepfjaaGreatWB7
import Derived.Test.YtnijkofdlepfjaaGreatWB4
set_option linter.all false
namespace Go.Proofs.YtnijkofdlepfjaaGreat
open Go.Eng Go.Step
set_option maxRecDepth 100000
set_option maxHeartbeats 64000000
section
section
variable {ρ τ:PH} {Γ:List PH} {pq pc pt:Option Addr} {kq kc kt:Nat} {qs:List Int} {cs:List Ct}
theorem G6 {R H:List PH} {E:Env} {K:List It} {P:Program} {fn:Func} {T:Ending->World->Prop} {N:Bs} {M:Nat} {H2:List PH} {d:Deferred} {v:Value} (hd:tR P d .returning .returning N R H H2)
  (hv:∀ a w,Frm M E a->Sat N R H2 w->(results fn a.tmps).run P w=.ok v w) (hT:∀ w,Sat N R H2 w->T (.returned v) w) :
  JK ⟨none,P,bodyPostM Fence.wide 0 P fn T,N,M⟩ [d] R H E (.code .ret::K):=by
 refine ⟨fun a w hf hdf hs=>wpIn_ret (lO K a w ?_)⟩
 show LeavesInM _ _ _ _ _ _ a.defers .returning w
 rw [hdf]
 exact hd.leaves (by simp) hs rfl (fun w' hs'=>⟨v,hv a w' hf hs',hT w' hs'⟩)
def nL (L:List TkU) (q:Rq) (pl:Option Addr) (cl:Nat) (l:List Hp):TkU:=⟨⟨(L.length:Int)+1,q,l⟩,pl,cl,1,0⟩
def iH (L:List TkU):List TkU:=L.filter (fun x=>kZ x.t)
theorem aT3 (L:List TkU):lM (L.map (·.t))=(iH L).map (·.t.k):=by
 unfold lM iH;rw [List.filter_map,List.map_map]
 rfl
def oQ (F:List TkU) (l:List Hp):List Int:=(F.filter (fun x=>ovB x.t l)).map (·.t.k)
theorem aN7 {F:List TkU} {l:List Hp} {i:Nat} {x:TkU} (hx:F[i]?=some x):oQ (F.take (i+1)) l=oQ (F.take i) l ++ (if ovB x.t l=true then [x.t.k] else []):=by
 unfold oQ;rw [cV,hx,eX,dW,cX]
 congr 1
 cases h:ovB x.t l <;> simp [h]
theorem aAr (F:List TkU) (l:List Hp):(oQ F l).length<=F.length:=by
 unfold oQ;rw [aU];exact cD _ _
theorem yL (hq:gC ρ (.slice pq qs.length kq) qs) (hc:jW τ (.slice pc cs.length kc) cs) (hcap:cs.length<=kc) (lq:qs.length<=9223372036854775807) (lc:cs.length<=9223372036854775807) (hp:gD qs cs=0) (lq6:qs.length<=6) (lc11:cs.length<=11) {L:List TkU} {q:Rq} {l:List Hp} {pl:Option Addr} {cl:Nat} {χ lam:PH} (b0:Nat) (hO:fS 58 11 (.slice pt L.length kt) L.length (L.flatMap mD) χ) (hH:∀ x∈L,∃ γ∈Γ,SlE gE 4 γ (.slice x.p x.t.hops.length x.c) x.t.hops) (hG:oJ qs cs L) (hl3:L.length<=3) (hnum:∀ (i:Nat) (x:TkU),L[i]?=some x->x.t.k=(i:Int)+1)
  (hlam:lam∈Γ) (hl:SlE gE 4 lam (.slice pl l.length cl) l) (hl1:l.length<=1000) (hX:XOK qs cs (L ++ [(nL L q pl cl l)]) (oQ (iH L) l)) :
  Eng.Spec Tryz.prog (fv 91) [.pointer (some ⟨b0,0,none⟩),.agg #[int q.src,int q.dst,int q.size,int q.rdy,int q.dln,int q.pri,.bool q.cus],.slice pl l.length cl] (ρ::τ::Γ) [sng b0 (.cells #[.slice pq qs.length kq,.slice pc cs.length kc,.slice none 0 0,.slice pt L.length kt,int 0,.slice none 0 0,.bool false,int 0,.slice none 0 0,.slice none 0 0,.slice none 0 0] 104 (0,0)),χ] (fun r H'=>(r=.bool false/\H'=[])\/(r=.bool true/\∃ (L':List TkU) (pt':Option Addr) (kt':Nat) (pv:Option Addr) (kv:Nat) (e8 e9:Value) (ν χ' μ ω π:PH),L'.length=L.length+1/\XOK qs cs L' []/\(jJ (L'.map (·.t))).length<=512/\(jB cs (L'.map (·.t))).length<=512/\L'[L.length]?=some (nL L q pl cl l)/\aN6 Γ ν L' [] pt' kt' pv kv e8 e9 (oQ (iH L) l).length χ' μ ω π/\H'=[sng b0 (.cells #[.slice pq qs.length kq,.slice pc cs.length kc,.slice none 0 0,.slice pt' L'.length kt',int 0,.slice pv ([]:List Int).length kv,.bool true,int ((L.length:Int)+1),e8,e9,.slice none 0 0] 104 (0,0)),χ',μ,ω,π])):=by
 have hLu:qL χ Γ (.slice pt L.length kt) L:=⟨hO.at,hH⟩
 have hwk:=tD (pq:=pq) (pc:=pc) (kq:=kq) (kc:=kc) hq hc hcap lq lc hp hLu hG (by omega)
 rw [aT3,aU] at hwk
 have hFm:∀ x∈iH L,x∈L/\kZ x.t=true:=fun x hx=>by
  have:=bT.1 hx
  exact ⟨this.1,this.2⟩
 have hFl:(iH L).length<=3:=by
  have:=cD (fun x:TkU=>kZ x.t) L
  unfold iH; omega
 have hst:∀ x∈iH L,(∃ j,L[j]?=some x)/\jE x.t=true/\∃ γ∈Γ,UOK qs cs γ x:=fun x hx=>by
  obtain ⟨h1,h2⟩:=hFm x hx
  refine ⟨dI h1,?_,hLu.uok hG h1⟩;unfold kZ at h2;simp only [aJ] at h2;exact h2.2
 refine aQa (cap:=[]) Tryz.func91 rfl rfl Tryz.ntmps91 rfl envZ (fun N β T hT=>?_)
 refine Aa ?_
 refine BV fun b4=>?_
 refine CR (DH rfl rfl) rfl rfl rfl ?_;rintro _ _ ⟨b6,rfl,rfl⟩;refine AW (ρ:=sng b4 _) fL ?_
 have wq:=rdB b4 38 [int q.src,int q.dst,int q.size,int q.rdy,int q.dln,int q.pri,.bool q.cus]
 have xl0:RdN (sng b0 (.cells #[.slice pq qs.length kq,.slice pc cs.length kc,.slice none 0 0,.slice pt L.length kt,int 0,.slice none 0 0,.bool false,int 0,.slice none 0 0,.slice none 0 0,.slice none 0 0] 104 (0,0))) b0 0 [.slice pq qs.length kq,.slice pc cs.length kc,.slice none 0 0,.slice pt L.length kt]:=(iB (k:=0) (xs:=[.slice pq qs.length kq,.slice pc cs.length kc,.slice none 0 0,.slice pt L.length kt,int 0,.slice none 0 0,.bool false,int 0,.slice none 0 0,.slice none 0 0,.slice none 0 0]) rfl).rd
 have bx63_3:=rdB b0 104 [.slice pq qs.length kq,.slice pc cs.length kc,.slice none 0 0,.slice pt L.length kt,int 0,.slice none 0 0,.bool false,int 0,.slice none 0 0,.slice none 0 0,.slice none 0 0]
 have xc0:=rdC bx63_3 0
 have xc1:=rdC bx63_3 1
 have xc2:=rdC bx63_3 2
 have xc3:=rdC bx63_3 3
 have xc4:=rdC bx63_3 4
 have xc5:=rdC bx63_3 5
 have xc6:=rdC bx63_3 6
 have xc7:=rdC bx63_3 7
 have xc8:=rdC bx63_3 8
 have xc9:=rdC bx63_3 9
 have xc10:=rdC bx63_3 10
 clear bx63_3
 refine AE ?_;refine Adj ?_;refine GK rfl rfl rfl ?_;refine Aak ?_;refine AC ?_
 refine A9 (.q 0 (.q 1 (.q 2 (.q 3 (.q 4 (.q 5 (.q 6 (.q 7 (.q 8 (.q 11 (.l 9 .e (.q 10 .nil)))))))))))) [] rfl (by kernel_rfl) Sel.nil ?_
 refine Adn ?_;refine AR ?_;refine Aef ?_;refine A4 ?_;refine Ac3 ?_
 focus ((refine BZ ?_; refine C8 rfl hwk rfl rfl (fun z hz=>by simp only [aE] at hz; rcases hz with h|h|h|h; exact .inl (by simp [h]); exact .inl (by simp [h]); exact .inr (by simp [h]); exact .inl (by simp [h])) rfl rfl ?_; rintro _ _ ⟨ν0,hW,rfl⟩; obtain ⟨pw,cw,rfl⟩:=hW.form; simp only [aG,aH]))
 refine EL ?_;refine BC ?_
 obtain ⟨_,_,e,hrw⟩:=SlE.val Eng.encI_len (show gC ν0 (.slice pw (iH L).length cw) ((iH L).map (·.t.k)) from by have:=hW.at; unfold gC SlE; rw [aU]; exact this)
 simp only [aN] at e
 obtain ⟨rfl,_,rfl⟩:=e
 refine B9 ?_;refine AM ?_
 refine BE [0,2,4,6,22,23] (X:=Nat × (Value × PH)) (0,(.slice none 0 0,emp)) (fun z=>z.1<=(iH L).length/\fS 3 1 z.2.1 (oQ ((iH L).take z.1) l).length ((oQ ((iH L).take z.1) l).flatMap Eng.encI) z.2.2) (fun z=>[(24,int (z.1:Int))]) (fun z=>[sng b0 (.cells #[.slice pq qs.length kq,.slice pc cs.length kc,.slice none 0 0,.slice pt L.length kt,int 0,z.2.1,.bool false,int 0,.slice none 0 0,.slice none 0 0,.slice none 0 0] 104 (0,0)),ν0,χ,sng b6 (.cells #[.bool false] 4 (0,0)),z.2.2]) (fun z=>(iH L).length-z.1) fT ⟨cA _,fS.nil _ _⟩ fP fK ?_
 rintro ⟨i,⟨v,μ⟩⟩ ⟨hi,hO5⟩
 dsimp only at hi hO5 ⊢
 have hv5:=kL _ _ _ _ hO5
 have hvl:=aAr ((iH L).take i) l
 rw [aL] at hvl
 have xlv:RdN (sng b0 (.cells #[.slice pq qs.length kq,.slice pc cs.length kc,.slice none 0 0,.slice pt L.length kt,int 0,v,.bool false,int 0,.slice none 0 0,.slice none 0 0,.slice none 0 0] 104 (0,0))) b0 0 [.slice pq qs.length kq,.slice pc cs.length kc,.slice none 0 0,.slice pt L.length kt]:=(iB (k:=0) (xs:=[.slice pq qs.length kq,.slice pc cs.length kc,.slice none 0 0,.slice pt L.length kt,int 0,v,.bool false,int 0,.slice none 0 0,.slice none 0 0,.slice none 0 0]) rfl).rd
 have bx108_3:=rdB b0 104 [.slice pq qs.length kq,.slice pc cs.length kc,.slice none 0 0,.slice pt L.length kt,int 0,v,.bool false,int 0,.slice none 0 0,.slice none 0 0,.slice none 0 0]
 have xv0:=rdC bx108_3 0
 have xv1:=rdC bx108_3 1
 have xv2:=rdC bx108_3 2
 have xv3:=rdC bx108_3 3
 have xv4:=rdC bx108_3 4
 have xv5:=rdC bx108_3 5
 have xv6:=rdC bx108_3 6
 have xv7:=rdC bx108_3 7
 have xv8:=rdC bx108_3 8
 have xv9:=rdC bx108_3 9
 have xv10:=rdC bx108_3 10
 clear bx108_3
 by_cases hlt:i<(iH L).length
 ·have hx:=aA hlt
  obtain ⟨⟨j,hj⟩,hr,γ,hγ,hU⟩:=hst _ (cP hlt)
  have hvs:=aN7 (l:=l) hx
  obtain ⟨bw,ow,rfl,g1⟩:=hrw.int (i:=i) (x:=(iH L)[i].t.k) (by rw [aY,hx]; rfl)
  generalize (iH L)[i]=x at hx hj hr hU hvs g1
  have hfd:=qW (pq:=pq) (pc:=pc) (kq:=kq) (kc:=kc) (qs:=qs) (cs:=cs) hO.at (by omega) hj hnum
  have hov:=aHl hU hr hl hl1
  refine Aeo ?_;refine Abq ?_;refine Acj ?_;refine Ab4 ?_;refine AB ?_;refine A5 hfd ?_;refine Abk ?_
  refine A3 fun b=>?_
  refine AU ?_;refine Aba ?_
  revert b; intro b9
  refine AW (ρ:=sng b9 _) fL ?_
  have z9:=rdB b9 58 [int x.t.k,int x.t.q.src,int x.t.q.dst,int x.t.q.size,int x.t.q.rdy,int x.t.q.dln,int x.t.q.pri,.bool x.t.q.cus,.slice x.p x.t.hops.length x.c,int x.st,int x.un]
  skip
  refine A9 (.q 0 (.q 1 (.q 2 (.q 3 (.q 4 (.q 5 (.l 6 .e .nil))))))) [] rfl (by kernel_rfl) Sel.nil ?_
  refine A7 ?_;refine Aa0 ?_;refine A4 ?_;refine Aaj ?_
  focus ((refine BZ ?_; refine BQ rfl hov rfl rfl (fun z hz=>by simp only [aE,bD,or_false] at hz; rcases hz with h|h; exact .inl (by simp [h,hγ]); exact .inl (by simp [h,hlam])) rfl rfl ?_; rintro _ rfl))
  refine BC ?_
  cases ho:ovB x.t l with
  | true =>
   rw [if_pos ho] at hvs;refine AQ rfl ?_;refine Abu ?_;refine BO ?_;refine Aac ?_;refine AB ?_
   refine BW fun b=>?_
   refine CR (CA (by_:=8) (s:=1) (news:=[int x.t.k]) rfl rfl rfl rfl rfl rfl rfl hO5 fL (fR gN) rfl iF (by omega) (by simp only [maxLen]; omega) (by omega)) rfl rfl rfl ?_
   rintro u1 _ ⟨μ1,hO6,rfl⟩
   have hu1:=kL _ _ _ _ hO6
   refine Acj ?_;refine Abx ?_;refine Ad5 ?_
   refine AZ (i+1,(u1,μ1)) ⟨by dsimp only; omega,?_⟩ (by dsimp only; omega) fP fK
   dsimp only
   rw [hvs,aB,aX];exact hO6
  | false =>
   rw [if_neg (by rw [ho]; simp),bX] at hvs
   refine AJ rfl ?_;refine AK ?_;refine Ad5 ?_
   exact AZ (i+1,(v,μ)) ⟨by dsimp only; omega,by dsimp only; rw [hvs]; exact hO5⟩ (by dsimp only; omega) fP fK
 have hke:i=(iH L).length:=by omega
 subst hke;rw [bJ] at hO5
 have hnx:=aG2 (e4:=int 0) (e5:=v) (e6:=.bool false) (e7:=int 0) (e8:=.slice none 0 0) (e9:=.slice none 0 0) (e10:=.slice none 0 0) (pq:=pq) (pc:=pc) (nq:=qs.length) (nc:=cs.length) (kq:=kq) (kc:=kc) b0 χ L hO.at (by omega) hnum
 have hset:=aKb (e4:=int 0) (e5:=v) (e6:=.bool false) (e7:=int 0) (e8:=.slice none 0 0) (e9:=.slice none 0 0) (e10:=.slice none 0 0) (pq:=pq) (pc:=pc) (nq:=qs.length) (nc:=cs.length) (kq:=kq) (kc:=kc) b0 χ L hO (by omega) (nL L q pl cl l) (fun y hy=>by
  obtain ⟨j,hj⟩:=dI hy
  have h1:=hnum j y hj
  have h2:=(aC.1 hj).1
  show y.t.k≠(L.length:Int)+1
  omega)
 refine Abp ?_;refine Aab ?_;refine Acj ?_;refine A5 hnx ?_;refine Aba ?_
 refine A9 (.q 0 (.q 1 (.q 2 (.q 3 (.q 4 (.q 5 (.q 6 (.l 7 .b .nil)))))))) [] rfl (by kernel_rfl) Sel.nil ?_
 refine Adn ?_;refine AP ?_;refine Aef ?_
 focus ((refine' CX rfl _ rfl rfl rfl rfl _; rotate_left; (apply CW (out:=[int ((L.length:Int)+1),int q.src,int q.dst,int q.size,int q.rdy,int q.dln,int q.pri,.bool q.cus,.slice pl l.length cl,int 1,int 0]); exact rfl; exact rfl; exact rfl; exact rfl; exact rfl)))
 focus ((refine BZ ?_; refine CS rfl hset rfl rfl fU rdZ rfl rfl (fun _ _ _ w hw=>hw.sel Sel.nil) ?_; rintro _ _ ⟨rfl,pt2,kt2,χ2,hO2,rfl⟩; simp only [aG,aH]))
 refine BC ?_
 obtain ⟨pv,kv,rfl,hkv⟩:=hO5.formC
 refine Acs ?_;refine Acj ?_;refine F3 ?_;refine BK ?_;refine Acj ?_;refine DA ?_;refine BK ?_;refine Aak ?_;refine AM ?_
 have hvl3:=aAr (iH L) l
 have hvk:∀ k∈oQ (iH L) l,k<=(L.length:Int):=fun k hk=>by
  obtain ⟨y,hy,rfl⟩:=bE.1 hk
  obtain ⟨⟨j,hj⟩,_⟩:=hst y (bT.1 hy).1
  have h1:=hnum j y hj
  have h2:=(aC.1 hj).1
  omega
 refine AW (ρ:=μ) fL ?_;refine B9 ?_;refine B9 ?_;refine B9 ?_
 have hM0:aN6 Γ μ (L ++ [(nL L q pl cl l)]) (oQ (iH L) l) pt2 kt2 pv kv (.slice none 0 0) (.slice none 0 0) 0 χ2 emp emp emp:=⟨hO2,fun y hy=>by
  rcases aM.1 hy with hy|hy
  ·obtain ⟨γ,h1,h2⟩:=hH y hy
   exact ⟨γ,by simp [h1],h2⟩
  ·rw [bI] at hy
   subst hy
   exact ⟨lam,by simp [hlam],hl⟩,hO5.at,hkv,[],[],fS.nil _ _,fS.nil _ _,rfl⟩
 have hn0:(L ++ [(nL L q pl cl l)])[L.length]?=some (nL L q pl cl l):=by simp
 have hl0:(L ++ [(nL L q pl cl l)]).length=L.length+1:=by simp
 generalize (nL L q pl cl l)=nu at *
 generalize L ++ [nu]=L0 at *
 generalize hV0:oQ (iH L) l=V0 at *
 refine BE [0,6] (X:=(List TkU × List Int) × ((Option Addr × Nat) × ((Value × Value) × ((PH × PH) × (PH × PH))))) ((L0,V0),((pv,kv),((.slice none 0 0,.slice none 0 0),((χ2,emp),(emp,emp))))) (fun z=>z.1.1.length=L.length+1/\XOK qs cs z.1.1 z.1.2/\z.1.1[L.length]?=some nu/\(∀ k∈z.1.2,k<=(L.length:Int))/\∃ n,n+z.1.2.length=V0.length/\aN6 Γ μ z.1.1 z.1.2 pt2 kt2 z.2.1.1 z.2.1.2 z.2.2.1.1 z.2.2.1.2 n z.2.2.2.1.1 z.2.2.2.1.2 z.2.2.2.2.1 z.2.2.2.2.2) (fun _=>[]) (fun z=>[sng b0 (.cells #[.slice pq qs.length kq,.slice pc cs.length kc,.slice none 0 0,.slice pt2 z.1.1.length kt2,int 0,.slice z.2.1.1 z.1.2.length z.2.1.2,.bool true,int ((L.length:Int)+1),z.2.2.1.1,z.2.2.1.2,.slice none 0 0] 104 (0,0)),z.2.2.2.1.1,sng b6 (.cells #[.bool false] 4 (0,0)),z.2.2.2.1.2,z.2.2.2.2.1,z.2.2.2.2.2]) (fun z=>z.1.2.length) fT ⟨hl0,hX,hn0,hvk,0,bZ _,hM0⟩ fP fK ?_
 rintro ⟨⟨L1,V1⟩,⟨⟨pv1,kv1⟩,⟨⟨e8,e9⟩,⟨⟨χ1,μ1⟩,⟨ω1,π1⟩⟩⟩⟩⟩ ⟨hl1',hX1,hn1,hk1,n,hnn,hM1⟩
 dsimp only at hl1' hX1 hn1 hk1 hnn hM1 ⊢
 cases V1 with
 | nil =>
  have htab:=uT (pq:=pq) (pc:=pc) (kq:=kq) (kc:=kc) hq hc hcap lq lc hp (L:=L1) (χ:=χ1) (Γ:=π1::Γ) (pt:=pt2) (kt:=kt2) ⟨hM1.tk.at,hM1.hp⟩ (by omega) hX1.tks hM1.vi (by simp) hX1.rest b0 (.bool true) (int ((L.length:Int)+1)) e8 e9 (.slice none 0 0)
  have hvz:([]:List Int).length=0:=rfl
  refine Aag ?_;refine BO ?_;refine Ab3 ?_;refine B7 ?_;refine Aa7 ?_;refine Aab ?_
  refine FS htab rfl rfl gA.nil (fun z hz=>by simp only [aE] at hz; rcases hz with h|h|h|h|h|h; exact .inr (by simp [h]); exact .inl (by simp [h]); exact .inl (by simp [h]); exact .inr (by simp [h]); exact .inr (by simp [h]); exact .inl (by simp [h])) rfl rfl (by rintro v H' ⟨rfl,rfl⟩ a w hf hd hs; exact panR (aP9 b6 N _ [] false) hf hd (hs.sel (H':=[sng b6 (.cells #[.bool false] 4 (0,0))]) fK) (aEr (b1:=b6) (T:=4) (v1:=.bool false) rfl rfl rfl (jV gN rfl)) (fun w hw=>hT _ [] w (.inl ⟨rfl,rfl⟩) ((hw.rsub fQ).sel Sel.nil))) ?_
  rintro _ _ ⟨bs,hs,pb,ph,kb,kh,σ,υ,rfl,_,_,_,_,_,_,lb,lh,rfl⟩;simp only [aG,aH];refine AE ?_;refine Aa ?_;refine Abx ?_
  have e:n=V0.length:=hnn
  rw [e] at hM1
  exact G6 (aWe b6 N _ _) (aEr (b1:=b6) (T:=4) (v1:=.bool true) rfl rfl rfl (jV gN rfl)) (fun w hw=>hT _ [sng b0 (.cells #[.slice pq qs.length kq,.slice pc cs.length kc,.slice none 0 0,.slice pt2 L1.length kt2,int 0,.slice pv1 ([]:List Int).length kv1,.bool true,int ((L.length:Int)+1),e8,e9,.slice none 0 0] 104 (0,0)),χ1,μ1,ω1,π1] w (.inr ⟨rfl,L1,pt2,kt2,pv1,kv1,e8,e9,μ,χ1,μ1,ω1,π1,hl1',hX1,lb,lh,hn1,hM1,rfl⟩) ((hw.rsub fQ).sel fK))
 | cons k V2 =>
  have hmv:=aHr (pq:=pq) (pc:=pc) (kq:=kq) (kc:=kc) hq hc hcap lq lc hp lq6 lc11 b0 (.bool true) (int ((L.length:Int)+1)) e8 e9 (.slice none 0 0) (by omega) (by rw [aS] at hnn; omega) hX1 hM1
  have hvp:0<(k::V2).length:=by simp
  refine Aag ?_;refine BO ?_;refine Ab3 ?_;refine Adt ?_;refine Acr ?_;refine Ad ?_
  refine FS hmv rfl rfl fU (fun z hz=>.inl (by simp only [aE] at hz ⊢; rcases hz with h|h|h|h <;> simp [h])) rfl rfl (by rintro v H' ⟨rfl,rfl⟩ a w hf hd hs; exact panR (aP9 b6 N _ [] false) hf hd hs (aEr (b1:=b6) (T:=4) (v1:=.bool false) rfl rfl rfl (jV gN rfl)) (fun w hw=>hT _ [] w (.inl ⟨rfl,rfl⟩) ((hw.rsub fQ).sel Sel.nil))) ?_
  rintro _ _ ⟨rfl,L2,pv2,kv2,e82,e92,χ3,μ3,ω3,π3,hl2,hX2,hn2,hM2,rfl⟩;simp only [aG,aH];refine AE ?_;refine BB ?_
  have hkk:=hk1 k (by simp)
  exact AZ ((L2,V2),((pv2,kv2),((e82,e92),((χ3,μ3),(ω3,π3))))) ⟨by dsimp only; omega,hX2,by dsimp only; rw [hn2 _ (by omega)]; exact hn1,fun k' hk'=>hk1 k' (bS _ hk'),n+1,by dsimp only; rw [aS] at hnn; omega,hM2⟩ (by dsimp only; rw [aS]; omega) fP fK
end
end
section
section
variable {pq pc:Option Addr} {kq kc:Nat} {qs:List Int} {cs:List Ct} {χ:PH} {Γ:List PH} {pt:Option Addr} {kt:Nat} {L:List TkU}
theorem aE9 (hL:SlE mD 11 χ (.slice pt L.length kt) L) (hl:L.length<=4) (hn:∀ (i:Nat) (x:TkU),L[i]?=some x->x.t.k=(i:Int)+1):Ans Tryz.prog (fv 30) [.agg #[.slice pq qs.length kq,.slice pc cs.length kc,.slice none 0 0,.slice pt L.length kt]] [χ] (fun r=>r=.bool false):=by
 obtain ⟨_,_,e,hr⟩:=SlE.val jX hL
 simp only [aN] at e
 obtain ⟨rfl,_,rfl⟩:=e
 refine A8 Tryz.func30 Tryz.ntmps30 fun N β=>?_
 refine Aa ?_
 refine BF fun b1 bx21=>?_
 have ga:=rdC bx21 3
 by_cases h0:L.length=0
 ·refine AD ?_
  refine AE ?_;refine Aan ?_;refine A6 ?_;refine Abq ?_;refine CP ?_;refine Aal ?_;refine B7 ?_;refine Aec ?_;refine Aad ?_;refine AT ?_;refine Acf ?_;exact AV ⟨rfl,rfl⟩
 have hx:=aA (show L.length-1<L.length by omega)
 have hk:=hn _ _ hx
 obtain ⟨b7,o7,rfl,hrd⟩:=hr _ _ hx
 generalize L[L.length-1]=y at hx hrd hk
 have r0:rdc χ b7 (o7+(L.length-1)*11)=some (int y.t.k):=hrd.get0
 have ek:y.t.k=(L.length:Int):=by omega
 rw [ek] at r0;refine Aeh ?_;refine Abq ?_;refine CP ?_;refine Aal ?_;refine C1 ?_;refine Aas ?_;refine AB ?_;refine B6 ?_;refine BL ?_;refine F3 ?_;refine AF ?_;refine CP ?_;refine AY ?_;refine Acf ?_;exact AV ⟨rfl,rfl⟩
theorem yM (hL:SlE mD 11 χ (.slice pt L.length kt) L) (hl:L.length<=4) :
  Eng.Spec Tryz.prog (fv 33) [.agg #[.slice pq qs.length kq,.slice pc cs.length kc,.slice none 0 0,.slice pt L.length kt]] [χ] [] (fun r H'=>∃ p k κ,r=.agg #[.slice pq qs.length kq,.slice pc cs.length kc,.slice none 0 0,.slice p L.length k]/\fS 58 11 (.slice p L.length k) L.length (L.flatMap mD) κ/\H'=[κ]):=by
 have hcl:=aDl χ _ L hL (by omega)
 refine A8 Tryz.func33 Tryz.ntmps33 fun N β=>?_
 refine Aa ?_
 refine BV fun b1=>?_
 refine CT fun b2=>?_
 refine AE ?_;refine Aan ?_;refine B4 hcl rfl rfl rdZ rfl rfl ?_;rintro v κ hO
 obtain ⟨p,k,rfl⟩:=hO.form
 refine AG ?_;refine Abx ?_;refine Aar ?_;refine CN (CW (out:=[.slice pq qs.length kq,.slice pc cs.length kc,.slice none 0 0,.slice p L.length k]) rfl rfl rfl rfl rfl) rfl rfl rfl ?_;refine Aa6 ?_;exact A2 (zB (b1:=b2) (T:=102) (v1:=[.slice pq qs.length kq,.slice pc cs.length kc,.slice none 0 0,.slice p L.length k]) rfl rfl rfl rfl (fR gN)) fQ fK ⟨p,k,κ,rfl,hO,rfl⟩
end
theorem aHs (bo bn:Nat) {ν:PH} {pw:Option Addr} {cw:Nat} {W:List Int} (hW:gC ν (.slice pw W.length cw) W) (hl:W.length<=1000) (x:Bk) :
  Ans Tryz.prog (.func (.func 88) #[] #[.pointer (some ⟨bo,0,none⟩),.pointer (some ⟨bn,0,none⟩)]) [.agg #[int x.c,int x.a,int x.b,int x.k]] [sng bo (.cells #[.slice pw W.length cw] 22 (0,0)),sng bn (.cells #[int 0] 3 (0,0)),ν] (fun r=>r=.bool (decide (x.k∈W) && decide (0<x.a))):=by
 have bx120_3:=rdB bo 22 [.slice pw W.length cw]
 have c1:=rdC bx120_3 0
 clear bx120_3
 have bx121_3:=rdB bn 3 [int 0]
 have c2:=rdC bx121_3 0
 clear bx121_3
 have hco:=nV ν _ W x.k hW (by omega)
 refine CU [.pointer (some ⟨bo,0,none⟩),.pointer (some ⟨bn,0,none⟩)] Tryz.func88 Tryz.ntmps88 fun N β=>?_
 refine Aa ?_
 refine BV fun b2=>?_
 refine AW (ρ:=sng b2 (.cells #[int x.c,int x.a,int x.b,int x.k] 118 (0,0))) fL ?_
 have bx128_3:=rdB b2 118 [int x.c,int x.a,int x.b,int x.k]
 have cb0:=rdC bx128_3 0
 have cb1:=rdC bx128_3 1
 have cb2:=rdC bx128_3 2
 have cb3:=rdC bx128_3 3
 clear bx128_3
 refine Aaa ?_;refine Abb ?_;refine Aac ?_;refine A5 hco ?_
 by_cases h1:x.k∈W
 ·rw [decide_eq_true h1]
  by_cases h2:0<x.a
  ·rw [decide_eq_true h2]
   refine Aas ?_;refine AF ?_;refine C1 ?_;refine Ac0 ?_;exact AV ⟨rfl,rfl⟩
  ·rw [decide_eq_false h2]
   refine Aas ?_;refine AF ?_;refine B7 ?_;refine Ac0 ?_;exact AV ⟨rfl,rfl⟩
 ·rw [decide_eq_false h1]
  refine Acw ?_;refine Acf ?_;exact AV ⟨rfl,rfl⟩
theorem tE {lam:PH} {pl:Option Addr} {cl:Nat} {l:List Hp} (hl:SlE gE 4 lam (.slice pl l.length cl) l) (hn:l.length<=1000) {p:Hp} (hp:l.getLast?=some p):Ans Tryz.prog (fv 90) [.slice pl l.length cl] [lam] (fun r=>r=int p.a):=by
 have hpos:0<l.length:=by
  cases l with
  | nil=>simp at hp
  | cons a l=>simp
 have hx:l[l.length-1]?=some p:=by rw [← hp,eD]
 obtain ⟨_,_,e,hrv⟩:=SlE.val gJ hl
 simp only [aN] at e
 obtain ⟨rfl,_,rfl⟩:=e
 obtain ⟨bl,ol,rfl,hrd⟩:=hrv _ _ hx
 have h3:rdc lam bl (ol+(l.length-1)*4+3)=some (int p.a):=hrd.get (j:=3) rfl
 have em:((l.length:Nat):Int)-1=((l.length-1:Nat):Int):=by omega
 refine A8 Tryz.func90 Tryz.ntmps90 fun N β=>?_
 refine Aea ?_;refine A6 ?_;refine B6 ?_;refine BL ?_;refine Adg ?_;refine Aaa ?_;exact AV ⟨rfl,rfl⟩
end
section
variable {qs:List Int} {cs:List Ct} {L:List TkU} {q:Rq} {l:List Hp}
theorem aN8 (hn:∀ (i:Nat) (x:TkU),L[i]?=some x->x.t.k=(i:Int)+1):(L.map (·.t.k)).Nodup:=by
 rw [List.Nodup,aZ]
 intro i j hi hj hij e
 rw [aU] at hi hj;rw [List.getElem_map,List.getElem_map] at e
 have h1:=hn i _ (aA hi)
 have h2:=hn j _ (aA hj)
 omega
theorem aQb:(oQ (iH L) l).Sublist (L.map (·.t.k)):=by
 unfold oQ iH;exact (List.filter_sublist.trans List.filter_sublist).map _
theorem aMk (hn:∀ (i:Nat) (x:TkU),L[i]?=some x->x.t.k=(i:Int)+1) {x y:TkU} (hx:x∈L) (hy:y∈L) (e:x.t.k=y.t.k):x=y:=by
 obtain ⟨i,hi⟩:=dI hx
 obtain ⟨j,hj⟩:=dI hy
 have h1:=hn i x hi
 have h2:=hn j y hj
 have:i=j:=by omega
 subst this;rw [hi] at hj
 injection hj
theorem XOK.new {pl:Option Addr} {cl:Nat} {bs:List Bk} {hs:List Hd} (hW:LgV qs cs (L.map (·.t)) []) (hG:oJ qs cs L) (hl3:L.length<=3) (hq:nF qs.length q) (hK:TOK qs cs bs hs q) (pb:bs.Perm (kF (lM (L.map (·.t))) (L.map (·.t)))) (ph:hs.Perm (jB cs (L.map (·.t)))) (hF:kY qs cs bs hs q l) (hc:l.length<=cl) :
  XOK qs cs (L ++ [nL L q pl cl l]) (oQ (iH L) l):=by
 have hn:∀ (i:Nat) (x:TkU),L[i]?=some x->x.t.k=(i:Int)+1:=fun i x hx=>hW.num i x.t (by rw [aY,hx]; rfl)
 have hTl:(L.map (·.t)).length=L.length:=aU _
 have hTe:(L ++ [nL L q pl cl l]).map (·.t)=L.map (·.t) ++ [(⟨((L.map (·.t)).length:Int)+1,q,l⟩:Tk)]:=by
  rw [cX,hTl]; rfl
 have hvm:∀ k,k∈oQ (iH L) l↔∃ y∈L,kZ y.t=true/\ovB y.t l=true/\y.t.k=k:=fun k=>by
  unfold oQ iH;simp only [bE,bT]
  constructor
  ·rintro ⟨y,⟨⟨h1,h2⟩,h3⟩,rfl⟩
   exact ⟨y,h1,h2,h3,rfl⟩
  ·rintro ⟨y,h1,h2,h3,rfl⟩
   exact ⟨y,⟨⟨h1,h2⟩,h3⟩,rfl⟩
 have hrou:=hF.rou hK
 refine ⟨?_,fun y hy=>?_,fun k hk=>?_,(aN8 hn).sublist aQb⟩
 ·rw [hTe]
  refine hW.new (by omega) hq hK pb ph hF (fun hk=>?_) (fun x hx hw hv a ha p hp=>?_)
  ·obtain ⟨y,hy,_,_,e⟩:=(hvm _).1 hk
   obtain ⟨j,hj⟩:=dI hy
   have h1:=hn j y hj
   have h2:=(aC.1 hj).1
   rw [hTl] at e;omega
  ·obtain ⟨z,hz,rfl⟩:=bE.1 hx
   obtain ⟨y,hy,hyw,e⟩:=yB.1 hw
   obtain ⟨y2,hy2,rfl⟩:=bE.1 hy
   have:=aMk hn hy2 hz e
   subst this
   have hno:ovB y2.t l=false:=by
    cases ho:ovB y2.t l with
    | false=>rfl
    | true=>exact absurd ((hvm _).2 ⟨y2,hz,hyw,ho,rfl⟩) hv
   exact aKd hno a ha p hp
 ·rcases aM.1 hy with hy|hy
  ·exact hG y hy
  ·rw [bI] at hy
   subst hy;exact ⟨⟨hq,.inl hrou⟩,⟨.inl ⟨hrou.ne,rfl⟩,rfl⟩,hc⟩
 ·obtain ⟨y,hy,h1,_,e⟩:=(hvm _).1 hk
  refine ⟨y,by simp [hy],e,?_⟩
  unfold kZ at h1;simp only [aJ] at h1;exact h1.2
end
section
section
variable {ρ τ χ:PH} {Γ:List PH} {pq pc pt:Option Addr} {kq kc kt:Nat} {qs:List Int} {cs:List Ct}
theorem aN9 {L:List TkU} (hp:gD qs cs=0) (hG:oJ qs cs L) (hn:∀ (i:Nat) (x:TkU),L[i]?=some x->x.t.k=(i:Int)+1):∀ b∈jJ (L.map (·.t)),b.k∈lM (L.map (·.t))->0<b.a:=fun b hb hv=>by
 obtain ⟨y,hy,hb⟩:=dB.1 hb
 obtain ⟨z,hz,rfl⟩:=bE.1 hy
 obtain ⟨y2,hy2,hw,e⟩:=yB.1 hv
 obtain ⟨x,hx,rfl⟩:=bE.1 hy2
 rw [rY hb] at e
 have:=aMk hn hx hz e
 subst this;unfold kZ at hw;simp only [aJ] at hw
 obtain ⟨g1,g2,g3⟩:=hG x hz
 have hne:x.t.hops≠[]:=fun e=>by have:=hw.2; unfold jE at this; rw [e] at this; cases this
 exact aHf hp g1.1 (g1.2.resolve_right hne) hw.2 b hb
theorem aQc {T:List Tk} {W:List Int} (h:LgW qs cs T) {bs:List Bk} {hs:List Hd} {q:Rq} (pb:bs.Perm (kF W T)) (sb:BkW bs) (ph:hs.Perm (jB cs T)) (sh:nJ hs) (hq:nF qs.length q) (lq:qs.length<=6) (lc:cs.length<=11):TOK qs cs bs hs q:=by
 have h1:=h.v.tb
 rw [rX] at h1;exact (h1.sub (B':=kF W T) List.filter_sublist (List.Sublist.refl _)).some (cT (cD _ _) h.nb) h.nh pb sb ph sh hq lq lc
theorem aKt (hq:gC ρ (.slice pq qs.length kq) qs) (hc:jW τ (.slice pc cs.length kc) cs) (hcap:cs.length<=kc) (lq:qs.length<=9223372036854775807) (lc:cs.length<=9223372036854775807) (hp:gD qs cs=0) (lq6:qs.length<=6) (lc11:cs.length<=11) {L:List TkU} {q:Rq} {l0:List Hp} {p0:Option Addr} {c0:Nat} {π0:PH} (hL:qL χ Γ (.slice pt L.length kt) L) (hW:LgW qs cs (L.map (·.t))) (hG:oJ qs cs L) (hl3:L.length<=3) (hq2:nF qs.length q) (h0:SlE gE 4 π0 (.slice p0 l0.length c0) l0) (h0l:l0.length<=1000) :
  Eng.Spec Tryz.prog (fv 32) [.agg #[.slice pq qs.length kq,.slice pc cs.length kc,.slice none 0 0,.slice pt L.length kt],.agg #[int q.src,int q.dst,int q.size,int q.rdy,int q.dln,int q.pri,.bool q.cus],.slice p0 l0.length c0,int 0] (ρ::τ::χ::π0::Γ) [] (fun r H'=>(∃ v,r=.tuple #[v,.bool false]/\H'=[])\/(∃ (b0:Nat) (L':List TkU) (pt':Option Addr) (kt':Nat) (pv:Option Addr) (kv:Nat) (e8 e9:Value) (ν χ' μ ω π' π:PH) (l:List Hp) (pl:Option Addr) (cl:Nat) (fs:List Bk) (hs:List Hd) (p:Hp),r=.tuple #[.pointer (some ⟨b0,0,none⟩),.bool true]/\L'.length=L.length+1/\LgW qs cs (L'.map (·.t))/\oJ qs cs L'/\L'[L.length]?=some (nL L q pl cl l)/\TOK qs cs fs hs q/\kY qs cs fs hs q l/\fs.Perm (kF (lM (L.map (·.t))) (L.map (·.t)))/\hs.Perm (jB cs (L.map (·.t)))/\l.getLast?=some p/\(∀ z,l0.getLast?=some z->p.a<z.a)/\aN6 (π::Γ) ν L' [] pt' kt' pv kv e8 e9 (oQ (iH L) l).length χ' μ ω π'/\H'=[sng b0 (.cells #[.slice pq qs.length kq,.slice pc cs.length kc,.slice none 0 0,.slice pt' L'.length kt',int 0,.slice pv ([]:List Int).length kv,.bool true,int ((L.length:Int)+1),e8,e9,.slice none 0 0] 104 (0,0)),χ',μ,ω,π',π])):=by
 have hn:∀ (i:Nat) (x:TkU),L[i]?=some x->x.t.k=(i:Int)+1:=fun i x hx=>hW.v.num i x.t (by rw [aY,hx]; rfl)
 have htk:aCn qs cs L:=wH rfl hW.v.tk (fun x hx=>(hG x hx).2.1)
 have hta:=jY hq hc hcap lq lc hp hL (by omega) htk
 have hwk:=tD hq hc hcap lq lc hp hL hG (by omega)
 have hop:=yM (pq:=pq) (pc:=pc) (kq:=kq) (kc:=kc) (qs:=qs) (cs:=cs) hL.tk (by omega)
 have hwl:=aDp (L.map (·.t))
 have hwr:=aN9 hp hG hn
 rw [aU] at hwl
 have hxn:=@XOK.new qs cs L q
 generalize lM (L.map (·.t))=W at *
 refine A8 Tryz.func32 Tryz.ntmps32 fun N β=>?_
 refine Aa ?_
 refine BF fun b4 w4=>?_
 refine BF fun b5 w5=>?_
 refine C3 fun b7=>?_
 refine AW (ρ:=sng b7 _) fL ?_
 have bx50_3:=rdB b7 3 [int 0]
 have c7:=rdC bx50_3 0
 clear bx50_3
 refine Aaq ?_;refine Aar ?_
 refine BG hta rfl rfl gA.nil (fun z hz=>.inl (by simp only [aE] at hz ⊢; rcases hz with h|h|h <;> simp [h])) rfl rfl ?_
 rintro _ _ ⟨bs,hs,pb,ph,kb,kh,σ,υ,rfl,p1,s1,p2,s2,o1,o2,rfl⟩;simp only [aG,aH]
 have lb:=p1.length_eq
 have lh:=p2.length_eq
 have nb:=hW.nb
 have nh:=hW.nh
 refine A3 fun b=>?_
 refine Aa6 ?_;refine Aar ?_;refine AF ?_
 revert b; intro b10
 refine B4 hwk rfl rfl (fun z hz=>.inl (by simp only [aE] at hz ⊢; rcases hz with h|h|h|h <;> simp [h])) rfl rfl ?_
 rintro _ ν hWk
 obtain ⟨pw,cw,rfl⟩:=hWk.form
 refine B5 fun b=>?_
 refine Abx ?_;refine Aan ?_;refine BR ?_
 revert b; intro b11
 refine BG (qY σ _ bs o1 (by omega) _ (fun x=>decide (x.k∈W) && decide (0<x.a)) _ (fun x=>aHs b11 b7 hWk.at (by omega) x)) rfl rfl fU rdZ rfl rfl ?_
 rintro _ _ ⟨σ2,hO2,rfl⟩;simp only [aG,aH]
 obtain ⟨pb2,kb2,rfl⟩:=hO2.form
 have p3:=aDq (V:=W) p1 hwr
 have s3:=BkW.filter s1 (fun y=>!(decide (y.k∈W) && decide (0<y.a)))
 generalize bs.filter (fun y=>!(decide (y.k∈W) && decide (0<y.a)))=fs at hO2 p3 s3 ⊢
 have hK:=aQc (q:=q) hW p3 s3 p2 s2 hq2 lq6 lc11
 have hea:=qZ (aMj hq hc hcap lq lc p3 p2 hO2 o2 nb nh) hK
 refine AG ?_;refine Abx ?_;refine Abs ?_;refine B4 hea rfl rfl rdZ rfl rfl ?_;rintro _ π (⟨l,u,Lb,a,p,hF,hLb,har,hla,hpa,rfl,hOl⟩|⟨Lb,_,_,rfl⟩)
 rotate_left
 ·refine AB ?_
  refine Ab ?_;refine Aaq ?_;refine Aag ?_;refine C5 ?_;refine Aec ?_;refine Aad ?_;refine Aad ?_;refine Aci ?_;refine Adl ?_;exact A2 (mB rfl rfl rfl) fQ Sel.nil (.inl ⟨_,rfl,rfl⟩)
 by_cases hl0:l0=[]
 ·subst hl0
  have hz0:([]:List Hp).length=0:=rfl
  have hll:=(hF.rou hK).len
  obtain ⟨pl,cl,rfl,hcl⟩:=hOl.formC
  have hXn:=hxn hW.v hG hl3 hq2 hK p3 p2 hF hcl (pl:=pl)
  refine Ad2 ?_;refine BN ?_;refine Aal ?_;refine Ade ?_;refine Acg ?_;refine AT ?_;refine Ac4 ?_
  refine A9 (.q 0 (.q 2 (.l 1 .e (.q 3 (.l 4 .e (.q 5 .nil)))))) [] rfl (by kernel_rfl) Sel.nil ?_
  refine A7 ?_;refine AN ?_
  focus ((refine BZ ?_; refine C8 rfl hop rfl rfl (fun z hz=>.inl (by rcases bI.1 hz with rfl; simp)) rfl rfl ?_; rintro _ _ ⟨px,kx,κ0,rfl,hOx,rfl⟩; simp only [aG,aH]))
  focus ((refine' CX rfl _ rfl rfl rfl rfl _; rotate_left; (apply CW (out:=[.slice pq qs.length kq,.slice pc cs.length kc,.slice none 0 0,.slice px L.length kx,int 0,.slice none 0 0,.bool false,int 0,.slice none 0 0,.slice none 0 0,.slice none 0 0]); exact rfl; exact rfl; exact rfl; exact rfl; exact rfl)))
  refine F8 fun b=>?_
  refine Ac ?_
  have hmk:=fun b0=>yL (Γ:=π::Γ) (pt:=px) (kt:=kx) (q:=q) (pl:=pl) (cl:=cl) hq hc hcap lq lc hp lq6 lc11 b0 hOx (fun x hx=>by
   obtain ⟨γ,h1,h2⟩:=hL.hp x hx
   exact ⟨γ,by simp [h1],h2⟩) hG hl3 hn (lam:=π) (by simp) hOl.at hll hXn
  refine Aaw ?_;refine AI ?_;refine AB ?_
  refine BG (hmk b) rfl rfl fU (fun z hz=>by simp only [aE] at hz; rcases hz with h|h|h|h; exact .inl (by simp [h]); exact .inl (by simp [h]); exact .inr (by simp [h]); exact .inl (by simp [h])) rfl rfl ?_
  rintro _ _ (⟨rfl,rfl⟩|⟨rfl,L',pt',kt',pv,kv,e8,e9,ν9,χ',μ,ω,π',hl',hX',nb',nh',hn',hM',rfl⟩)
  ·simp only [aH]
   refine Aaq ?_;exact A2 (mB rfl rfl rfl) fQ Sel.nil (.inl ⟨_,rfl,rfl⟩)
  ·simp only [aG,aH]
   refine Aaq ?_
   exact A2 (H':=[sng b (.cells #[.slice pq qs.length kq,.slice pc cs.length kc,.slice none 0 0,.slice pt' L'.length kt',int 0,.slice pv ([]:List Int).length kv,.bool true,int ((L.length:Int)+1),e8,e9,.slice none 0 0] 104 (0,0)),χ',μ,ω,π',π]) (mB rfl rfl rfl) fQ fK (.inr ⟨b,L',pt',kt',pv,kv,e8,e9,ν9,χ',μ,ω,π',π,l,pl,cl,fs,hs,p,rfl,hl',⟨hX'.lg,nb',nh'⟩,hX'.gd,hn',hK,hF,p3,p2,hla,fun z hz=>by simp at hz,hM',rfl⟩)
 ·obtain ⟨pp,hpp⟩:∃ z,l0.getLast?=some z:=by
   cases h:l0.getLast? with
   | none=>exact absurd (List.getLast?_eq_none_iff.1 h) hl0
   | some z=>exact ⟨z,rfl⟩
  have hz0:0<l0.length:=List.length_pos_iff.2 hl0
  have hll:=(hF.rou hK).len
  obtain ⟨pl,cl,rfl,hcl⟩:=hOl.formC
  have ha1:=tE hOl.at hll hla
  have ha2:=tE h0 h0l hpp
  refine Ad2 ?_;refine BN ?_;refine Aal ?_;refine A6 ?_;refine C1 ?_;refine Aal ?_;refine A5 ha1 ?_;refine AB ?_;refine A5 ha2 ?_
  by_cases hge:pp.a<=p.a
  ·refine DQ ?_
   refine AY ?_;refine AT ?_;refine Aah ?_;refine Adl ?_;exact A2 (mB rfl rfl rfl) fQ Sel.nil (.inl ⟨_,rfl,rfl⟩)
  have hlt2:∀ z,l0.getLast?=some z->p.a<z.a:=fun z hz=>by rw [hpp] at hz; injection hz with hz; subst hz; omega
  have hXn:=hxn hW.v hG hl3 hq2 hK p3 p2 hF hcl (pl:=pl)
  refine CP ?_;refine AY ?_;refine Ac4 ?_
  refine A9 (.q 0 (.q 2 (.l 1 .e (.q 3 (.l 4 .e (.q 5 .nil)))))) [] rfl (by kernel_rfl) Sel.nil ?_
  refine A7 ?_;refine AN ?_
  focus ((refine BZ ?_; refine C8 rfl hop rfl rfl (fun z hz=>.inl (by rcases bI.1 hz with rfl; simp)) rfl rfl ?_; rintro _ _ ⟨px,kx,κ0,rfl,hOx,rfl⟩; simp only [aG,aH]))
  focus ((refine' CX rfl _ rfl rfl rfl rfl _; rotate_left; (apply CW (out:=[.slice pq qs.length kq,.slice pc cs.length kc,.slice none 0 0,.slice px L.length kx,int 0,.slice none 0 0,.bool false,int 0,.slice none 0 0,.slice none 0 0,.slice none 0 0]); exact rfl; exact rfl; exact rfl; exact rfl; exact rfl)))
  refine F8 fun b=>?_
  refine Ac ?_
  have hmk:=fun b0=>yL (Γ:=π::Γ) (pt:=px) (kt:=kx) (q:=q) (pl:=pl) (cl:=cl) hq hc hcap lq lc hp lq6 lc11 b0 hOx (fun x hx=>by
   obtain ⟨γ,h1,h2⟩:=hL.hp x hx
   exact ⟨γ,by simp [h1],h2⟩) hG hl3 hn (lam:=π) (by simp) hOl.at hll hXn
  refine Aaw ?_;refine AI ?_;refine AB ?_
  refine BG (hmk b) rfl rfl fU (fun z hz=>by simp only [aE] at hz; rcases hz with h|h|h|h; exact .inl (by simp [h]); exact .inl (by simp [h]); exact .inr (by simp [h]); exact .inl (by simp [h])) rfl rfl ?_
  rintro _ _ (⟨rfl,rfl⟩|⟨rfl,L',pt',kt',pv,kv,e8,e9,ν9,χ',μ,ω,π',hl',hX',nb',nh',hn',hM',rfl⟩)
  ·simp only [aH]
   refine Aaq ?_;exact A2 (mB rfl rfl rfl) fQ Sel.nil (.inl ⟨_,rfl,rfl⟩)
  ·simp only [aG,aH]
   refine Aaq ?_;exact A2 (H':=[sng b (.cells #[.slice pq qs.length kq,.slice pc cs.length kc,.slice none 0 0,.slice pt' L'.length kt',int 0,.slice pv ([]:List Int).length kv,.bool true,int ((L.length:Int)+1),e8,e9,.slice none 0 0] 104 (0,0)),χ',μ,ω,π',π]) (mB rfl rfl rfl) fQ fK (.inr ⟨b,L',pt',kt',pv,kv,e8,e9,ν9,χ',μ,ω,π',π,l,pl,cl,fs,hs,p,rfl,hl',⟨hX'.lg,nb',nh'⟩,hX'.gd,hn',hK,hF,p3,p2,hla,hlt2,hM',rfl⟩)
end
end
section
section
variable {ρ τ σ υ:PH} {pq pc pb ph:Option Addr} {kq kc kb kh:Nat} {qs:List Int} {cs:List Ct} {bs:List Bk} {hs:List Hd} {q:Rq}
theorem uU (hT:oF ρ τ σ υ pq pc pb ph kq kc kb kh qs cs bs hs) (hK:TOK qs cs bs hs q) (x:Lb) (hF:qE (fW qs cs bs hs q) x) :
  jM Tryz.prog (fv 110) [.agg #[.slice pq qs.length kq,.slice pc cs.length kc,.slice pb bs.length kb,.slice ph hs.length kh],.agg #[int q.src,int q.dst,int q.size,int q.rdy,int q.dln,int q.pri,.bool q.cus],.agg #[int x.n,int x.f,int x.t,int x.a]] [ρ,τ,σ,υ] (fun r χ=>∃ u1 u2,r=.tuple #[u1,u2,int 0]/\SlE jI 4 χ u1 ((mvs (fW qs cs bs hs q) x).map (·.1))/\SlE gE 4 χ u2 ((mvs (fW qs cs bs hs q) x).map (·.2))):=by
 have hb:=qI hT hK
 have hg:=iV hK
 have hxb:=sN hg hF
 have hd:x.n≠q.dst:=hF.1
 obtain ⟨_,h0,h1,h2,h3,h4⟩:=hF
 have hlq:(fW qs cs bs hs q).rooms.length=qs.length:=by simp [fW]
 obtain ⟨m,hm⟩:=dZ h0
 have hml:m<qs.length:=by omega
 generalize fW qs cs bs hs q=G at hb hg h1 h2 hlq ⊢
 have hR0:=aA (show m<G.rooms.length by omega)
 have hRR:=hg.room _ (aF hR0)
 rw [hm,cL,vW hR0] at h2
 refine A8 Tryz.func110 Tryz.ntmps110 fun N β=>?_
 refine Aa ?_
 refine BF fun b2 ct=>?_
 refine BF fun b3 cr=>?_
 refine BF fun b5 cx=>?_
 have ct0:=rdC ct 0
 have r1:=rdC cr 1
 have x0:rdc (sng b5 (.cells #[int x.n,int x.f,int x.t,int x.a] 126 (0,0))) b5 0=some (int (m:Int)):=by rw [kE,← hm]; rfl
 have x1:=rdC cx 1
 have x2:=rdC cx 2
 have x3:=rdC cx 3
 refine Ac6 ?_;refine Abs ?_;refine B4 hb rfl rfl rdZ rfl rfl ?_;rintro _ γ ⟨A,rfl,hG⟩
 have hit:=fun c1 c2=>qH hG hg c1 c2 x (by omega)
 obtain ⟨bA,pgq,ngq,kgq,pgc,kgc,pg,kg,pr,kr,pd,kd⟩:=A
 obtain ⟨qv,hnq,cv,src,dst,rdy,dln,cus,gv,rv,dv,hcs,gaps,rooms,durs⟩:=hG
 dsimp only at qv hnq cv src dst rdy dln cus gv rv dv hcs gaps rooms durs hit ⊢
 refine AW (ρ:=γ) fL ?_
 obtain ⟨b1,o1,q1,k1,rfl,hr1,hS⟩:=rooms _ _ hR0
 have hcon:=aHj γ _ _ (x.f,x.t) hS (by omega) h2
 dsimp only at hcon
 have hmd:(m:Int)≠q.dst:=by omega
 generalize G.rooms[m]=R at hr1 hS hcon
 refine Ad2 ?_;refine Acn ?_;refine AC ?_;refine AC ?_
 refine A9 (.q 0 (.q 1 (.q 2 (.q 3 (.q 4 (.q 5 (.q 6 (.q 7 (.q 8 (.q 9 (.q 10 (.q 11 (.q 12 (.q 13 (.q 14 (.q 15 (.q 16 (.q 17 (.q 18 (.q 19 (.q 20 (.q 21 (.q 22 (.q 23 (.q 24 (.q 25 (.q 26 (.q 27 (.q 28 (.q 29 (.q 30 (.q 31 (.q 32 (.q 33 (.q 34 (.q 35 (.q 36 (.q 37 (.q 38 (.q 39 (.q 40 (.q 41 (.q 42 (.q 43 (.q 44 (.q 45 (.q 46 (.l 47 .e (.q 48 (.q 49 .nil)))))))))))))))))))))))))))))))))))))))))))))))))) [] rfl (by kernel_rfl) fK ?_
 refine Aaj ?_;refine C4 ?_;refine AP ?_;refine Aaj ?_;refine AR ?_;refine Aaj ?_;refine EL ?_;refine FM ?_;refine Aeg ?_;refine Abj ?_;refine F5 ?_;refine Aeg ?_;refine Abj ?_;refine C4 ?_;refine Aeg ?_;refine Abj ?_;refine FM ?_;refine BS ?_;refine Aa0 ?_;refine A4 ?_;refine Abj ?_;refine DT ?_;refine AN ?_;refine Abj ?_;refine EW ?_;refine BZ (BQ rfl hcon rfl rfl rdZ rfl rfl ?_);rintro _ rfl;refine CZ ?_;refine BS ?_;refine Ach ?_;refine Aa ?_
 refine B5 fun b=>?_
 refine AE ?_;refine Aa ?_
 refine B5 fun b=>?_
 refine AE ?_;refine Aag ?_;refine AI ?_
 revert b; intro b12
 revert b; intro b11
 refine BG (qG bA x) rfl rfl fU rdZ rfl rfl ?_;rintro _ _ ⟨c1,c2,rfl,rfl⟩;simp only [aG,aH];refine AW (ρ:=sng c2 _) fL ?_;refine AW (ρ:=sng c1 _) fL ?_;refine B9 ?_;refine B9 ?_
 have hml2:=aAd hg x
 refine Ad3 ?_
 refine DL (gf:=153) (cap:=[.pointer (some ⟨c1,0,none⟩),.pointer (some ⟨c2,0,none⟩)]) (ps:=[75]) (X:=(Value × PH) × (Value × PH)) rfl Tryz.func153 rfl rfl
  (hit c1 c2) ?_ (fun j z=>fS 126 4 z.1.1 (((mvs G x).take j).map (·.1)).length ((((mvs G x).take j).map (·.1)).flatMap jI) z.1.2/\fS 62 4 z.2.1 (((mvs G x).take j).map (·.2)).length ((((mvs G x).take j).map (·.2)).flatMap gE) z.2.2) (fun z=>[sng b11 (.cells #[z.1.1] 44 (0,0)),sng b12 (.cells #[z.2.1] 56 (0,0)),z.1.2,z.2.2]) (fun _ _=>False) ((.slice none 0 0,emp),(.slice none 0 0,emp)) rfl fU ⟨fS.nil _ _,fS.nil _ _⟩ ?_ ?_ ?_
 ·intro σ' hσ
  simp only [aE,bD,or_false] at hσ ⊢
  rcases hσ with h|h|h|h <;> simp [h]
 ·rintro lo r j ⟨⟨v1,σ1⟩,⟨v2,σ2⟩⟩ vs hvs ⟨hO1,hO2⟩ hps has hbd hst hpe hfr
  dsimp only at hO1 hO2 ⊢
  have hv1:=kL _ _ _ _ hO1
  have hv2:=kL _ _ _ _ hO2
  obtain ⟨st,pe,fnn,tm,prm,asg,bdy,df⟩:=r
  simp only at hps has hbd hst hpe hfr;subst hps has hbd hst hpe;rw [aY] at hvs
  obtain ⟨mm,hmm,rfl⟩:=aQ.1 hvs
  have hjl:=(aC.1 hmm).1
  have n1:((mvs G x).take (j+1)).map (·.1)=((mvs G x).take j).map (·.1) ++ [mm.1]:=by rw [cV,hmm,cX]; rfl
  have n2:((mvs G x).take (j+1)).map (·.2)=((mvs G x).take j).map (·.2) ++ [mm.2]:=by rw [cV,hmm,cX]; rfl
  have l1:(((mvs G x).take j).map (·.1)).length<=12100:=by rw [aU,aL]; omega
  have l2:(((mvs G x).take j).map (·.2)).length<=12100:=by rw [aU,aL]; omega
  generalize ((mvs G x).take j).map (·.1)=Q1 at hO1 n1 l1
  generalize ((mvs G x).take j).map (·.2)=Q2 at hO2 n2 l2
  refine lF hfr rfl (by intro p hp; simp at hp; omega) aBm (fun N' β'=>?_)
  unfold aJq
  obtain ⟨⟨mn,mf,mt,ma⟩,⟨hc0,hb0,he0,ha0⟩⟩:=mm
  dsimp only
  refine AA ?_
  refine A3 fun b=>?_
  refine Aa6 ?_
  revert b; intro b13
  refine C7 rfl rfl ?_;refine DI fL rfl ?_;refine AW (ρ:=sng b13 _) fL ?_
  have p0:RdP (sng b13 (.cells #[int mn,int mf,int mt,int ma,int hc0,int hb0,int he0,int ha0] 184 (0,0))) b13 0 [int mn,int mf,int mt,int ma]:=iB (xs:=[int mn,int mf,int mt,int ma,int hc0,int hb0,int he0,int ha0]) rfl
  have p4:RdP (sng b13 (.cells #[int mn,int mf,int mt,int ma,int hc0,int hb0,int he0,int ha0] 184 (0,0))) b13 4 [int hc0,int hb0,int he0,int ha0]:=iB (xs:=[int mn,int mf,int mt,int ma,int hc0,int hb0,int he0,int ha0]) rfl
  refine AM ?_
  refine G3 (ρ:=sng lo _) fL (X:=(Value × PH) × (Value × PH)) [11,12] (fun y=>fS 126 4 y.1.1 (Q1 ++ [(⟨mn,mf,mt,ma⟩:Lb)]).length ((Q1 ++ [(⟨mn,mf,mt,ma⟩:Lb)]).flatMap jI) y.1.2/\fS 62 4 y.2.1 (Q2 ++ [(⟨hc0,hb0,he0,ha0⟩:Hp)]).length ((Q2 ++ [(⟨hc0,hb0,he0,ha0⟩:Hp)]).flatMap gE) y.2.2) (fun _=>[]) (fun y=>[sng b11 (.cells #[y.1.1] 44 (0,0)),sng b12 (.cells #[y.2.1] 56 (0,0)),y.1.2,y.2.2]) fT ?_ ?_
  ·refine A9 (.q 0 (.q 1 (.q 2 (.p 5 (.p 6 (.p 7 (.l2 3 .e (.l2 4 .b (.l 8 .e (.l 9 .b (.l 10 .b (.l 11 .b .nil)))) 8 .e (.l 4 .b (.l 9 .b (.l 10 .b (.l 11 .b .nil))))) 8 .e (.l 3 .e (.l 4 .b (.l 9 .b (.l 10 .b (.l 11 .b .nil)))))))))))) [sng b12 _] rfl (by kernel_rfl) fK ?_
   repeat' (first
    | (refine AN ?_)
    | (refine AR ?_)
    | (refine A7 ?_)
    | (refine EJ ?_)
    | (refine DW ?_)
    | (refine EV ?_)
    | (refine EP ?_ ?_)
    | (refine BY fun b=>?_)
    | (refine D4 fun b=>?_)
    | fail)
   all_goals (try refine BZ ?_)
   all_goals (refine' a_b rfl _ rfl rfl rfl _ _; rotate_left; (focus (exact CA (by_:=32) (s:=4) (news:=[int mn,int mf,int mt,int ma]) rfl rfl rfl rfl rfl rfl rfl hO1 fL (fR gN) rfl iF (by omega) (by simp only [maxLen]; omega) (by omega))); (focus (rintro _ _ ⟨_,_,rfl⟩ w hw; exact hw.sel fK)); rintro q1 _ ⟨ρ1,hQ1,rfl⟩)
   all_goals have g1:=kL _ _ _ _ hQ1
   repeat' (first
    | (refine BY fun b=>?_)
    | fail)
   all_goals (refine BZ ?_; refine' a_b rfl _ rfl rfl rfl _ _; rotate_left; (focus (exact CA (by_:=32) (s:=4) (news:=[int hc0,int hb0,int he0,int ha0]) rfl rfl rfl rfl rfl rfl rfl hO2 fL (fR gN) rfl iF (by omega) (by simp only [maxLen]; omega) (by omega))); (focus (rintro _ _ ⟨_,_,rfl⟩ w hw; exact hw.sel fK)); rintro q2 _ ⟨ρ2,hQ2,rfl⟩)
   all_goals have g2:=kL _ _ _ _ hQ2
   repeat' (first
    | (refine CI ?_)
    | fail)
   all_goals (refine BZ ?_; refine' F9 rfl _ rfl (.inr ⟨rfl,rfl⟩) (by kernel_rfl) (Hf':=[]) _ _; rotate_left; (focus (apply EC; exact rfl; exact rfl; exact g2; exact rfl; exact fL; (focus (repeat (first|exact uR.here|apply uR.there)); done))); (focus (rintro _ _ ⟨_,rfl⟩ w hw; exact hw.sel fK)); rintro _ _ ⟨rfl,rfl⟩)
   repeat' (first
    | (refine BC ?_)
    | fail)
   all_goals exact CK ((q1,ρ1),(q2,ρ2)) ⟨by rw [aB,aX]; exact hQ1,by rw [aB,aX]; exact hQ2⟩ fP fK
  rintro ⟨⟨q1,ρ1⟩,⟨q2,ρ2⟩⟩ ⟨hQ1,hQ2⟩
  dsimp only at hQ1 hQ2 ⊢
  refine BB ?_;refine CD fL fQ fK ⟨((q1,ρ1),(q2,ρ2)),.inl ⟨rfl,⟨?_,?_⟩,rfl⟩⟩
  ·dsimp only
   rw [n1]; exact hQ1
  ·dsimp only
   rw [n2]; exact hQ2
 ·rintro bm ⟨⟨v1,σ1⟩,⟨v2,σ2⟩⟩ ⟨hO1,hO2⟩
  dsimp only at hO1 hO2 ⊢
  have hlm:((mvs G x).map (fun m=>[Value.agg (aJq m).toArray])).length=(mvs G x).length:=aU _
  rw [hlm,bJ] at hO1 hO2;simp only [aG,aH];refine BB ?_;refine AC ?_
  refine A9 (.q 0 (.q 1 (.q 2 (.q 3 (.q 4 .nil))))) [] rfl (by kernel_rfl) fK ?_
  refine AN ?_;refine AN ?_;refine BP ?_;refine BP ?_;refine Ac ?_
  skip
  refine DF (ρ:=σ1) (σ:=σ2) fL fL (fun δ s1 s2=>?_)
  exact FA (uQ.cons fL .nil) (aPw rfl rfl rfl rfl) fQ fK ⟨δ,⟨v1,v2,rfl,s1.slE hO1.at,s2.slE hO2.at⟩,rfl⟩
 ·rintro bm cc o' hf
  exact hf.elim
end
end
section
section
variable {ρ τ σ υ:PH} {pq pc pb ph:Option Addr} {kq kc kb kh:Nat} {qs:List Int} {cs:List Ct} {bs:List Bk} {hs:List Hd} {q:Rq}
theorem tF (hT:oF ρ τ σ υ pq pc pb ph kq kc kb kh qs cs bs hs) (hK:TOK qs cs bs hs q) :
  Ans Tryz.prog (fv 40) [.agg #[.slice pq qs.length kq,.slice pc cs.length kc,.slice pb bs.length kb,.slice ph hs.length kh],.agg #[int q.src,int q.dst,int q.size,int q.rdy,int q.dln,int q.pri,.bool q.cus]] [ρ,τ,σ,υ] (fun r=>r=int 0):=by
 obtain ⟨hp,hb0,hh⟩:=jQ hK.t
 have hct:=rM hT
 rw [hK.t] at hct
 have hcr:=mO (q:=q) hT.hq hT.hc hT.hcap hT.lq hT.lc hp hK.q
 refine A8 Tryz.func40 Tryz.ntmps40 fun N β=>?_
 refine Aa ?_
 refine BF fun b2 ct=>?_
 refine BF fun b3 cr=>?_
 have ct0:=rdC ct 0
 have ctp:=rdQ (xs:=[_,_]) ct
 refine Aba ?_;refine Aar ?_;refine A5 hct ?_;refine BN ?_;refine AB ?_;refine Ab4 ?_;refine AI ?_;refine A5 hcr ?_;refine BN ?_;refine Abe ?_;refine Aam ?_;exact AV ⟨rfl,rfl⟩
theorem aKu (hT:oF ρ τ σ υ pq pc pb ph kq kc kb kh qs cs bs hs) (hK:TOK qs cs bs hs q) :
  Ans Tryz.prog (fv 111) [.agg #[.slice pq qs.length kq,.slice pc cs.length kc,.slice pb bs.length kb,.slice ph hs.length kh],.agg #[int q.src,int q.dst,int q.size,int q.rdy,int q.dln,int q.pri,.bool q.cus]] [ρ,τ,σ,υ] (fun r=>(∃ x:Lb,x∈begs (fW qs cs bs hs q)/\r=.tuple #[.agg #[int x.n,int x.f,int x.t,int x.a],.bool true])\/r=.tuple #[.agg #[int 0,int 0,int 0,int 0],.bool false]):=by
 obtain ⟨hp,hb0,hh⟩:=jQ hK.t
 have hg:=iV hK
 have hqq:=hK.q
 obtain ⟨m,hm⟩:=dZ hqq.1.1
 have hml:m<qs.length:=by have:=hqq.1.2.1; omega
 have hfr:=aEm ρ τ υ pq pc kq kc qs cs _ hs q.src q.size hT.hq hT.hc hT.hcap hT.lq hT.lc hT.hh hT.lh
 have hfe:kO qs cs hs q.src q.size=(jH (qs.getD m 0) q.size (lvH hs m),0):=by
  have h1:=hqq.2.2.1
  unfold kO
  rw [if_neg (by simp [hh]),if_neg (by omega),hm,cL]
 rw [hfe] at hfr
 dsimp only at hfr
 have hR0:(fW qs cs bs hs q).rooms[m]?=some (jH (qs.getD m 0) q.size (lvH hs m)):=by
  show ((List.range qs.length).map (fun n:Nat=>jH (qs.getD n 0) q.size (lvH hs n)))[m]?=_
  rw [aY,List.getElem?_range hml]; rfl
 have hbeg:∀ p∈jH (qs.getD m 0) q.size (lvH hs m),p.1<=q.rdy->q.rdy<p.2->(⟨q.src,p.1,p.2,q.rdy⟩:Lb)∈begs (fW qs cs bs hs q):=fun p hpm h1 h2=>by
  unfold begs;rw [bE]
  refine ⟨p,bT.2 ⟨?_,by rw [aJ,decide_eq_true_eq,decide_eq_true_eq]; exact ⟨h1,h2⟩⟩,rfl⟩
  show p∈(fW qs cs bs hs q).rooms.getD q.src.toNat []
  rw [hm,cL,aI,hR0];exact hpm
 have hRl:=(hg.room _ (aF hR0)).1
 generalize jH (qs.getD m 0) q.size (lvH hs m)=R at hfr hbeg hRl
 refine A8 Tryz.func111 Tryz.ntmps111 fun N β=>?_
 refine Aa ?_
 refine BF fun b2 bx85=>?_
 refine BF fun b3 bx87=>?_
 have ctp:=rdQ (xs:=[_,_]) bx85
 have ct3:=rdC bx85 3
 have r0:=rdC bx87 0
 have r2:=rdC bx87 2
 have r3:=rdC bx87 3
 refine A3 fun b=>?_
 refine Aaa ?_;refine Acz ?_;refine Ad0 ?_;refine Aac ?_
 revert b; intro b4
 refine B4 hfr rfl rfl rdZ rfl rfl ?_;rintro _ χ ⟨u,rfl,hO⟩;refine AW (ρ:=χ) fL ?_
 obtain ⟨pu,ku,rfl,hrw⟩:=SlE.val (enc:=kX) mZ (show SlE kX 2 χ u R from hO.at)
 refine Ad2 ?_;refine Abh ?_
 refine BE [3,4,22,23] (0:Nat) (fun k=>k<=R.length) (fun k=>[(24,int k)]) (fun _=>[sng b4 (.cells #[int 0,int 0,int 0,int 0] 126 (0,0))]) (fun k=>R.length-k) fT (by omega) fP fK ?_
 rintro k hk
 by_cases hlt:k<R.length
 ·have hx:=aA hlt
  have hbg:=hbeg _ (aF hx)
  obtain ⟨b6,o6,rfl,hRd6,y0,y1⟩:=aEh hrw hx
  generalize R[k]=p at hx hbg hRd6 y0 y1
  by_cases c1:p.1<=q.rdy
  ·by_cases c2:q.rdy<p.2
   ·refine AC ?_
    refine AA ?_;refine Aa4 ?_;refine Aa ?_;refine Aa9 ?_
    refine A3 fun b=>?_
    refine Aa6 ?_;refine Abr ?_;refine EA ?_;refine Abf ?_;refine BM ?_;refine Aci ?_;refine Abr ?_;refine Ad0 ?_;refine CB ?_;refine Add ?_;exact A2 (zC (b1:=b4) (T:=126) (v1:=[int q.src,int p.1,int p.2,int q.rdy]) rfl rfl rfl rfl rfl (fR gN)) fQ fK ⟨rfl,.inl ⟨_,hbg c1 c2,rfl⟩⟩
   ·refine AC ?_
    refine AA ?_;refine Aa4 ?_;refine Aa ?_;refine Aa9 ?_
    refine A3 fun b=>?_
    refine Aa6 ?_;refine Abr ?_;refine EA ?_;refine Abf ?_;refine BD ?_;refine AY ?_;refine Ace ?_
    exact AZ (k+1) (by omega) (by omega) fP fK
  ·refine AC ?_
   refine AA ?_;refine Aa4 ?_;refine Aa ?_;refine Aa9 ?_
   refine A3 fun b=>?_
   refine Aa6 ?_;refine Abr ?_;refine DC ?_;refine Acg ?_;refine Abe ?_;refine Aa3 ?_
   exact AZ (k+1) (by omega) (by omega) fP fK
 have hke:k=R.length:=by omega
 subst hke;refine Abp ?_;refine Aa ?_;refine CB ?_;refine Add ?_;exact A2 (zC (b1:=b4) (T:=126) (v1:=[int 0,int 0,int 0,int 0]) rfl rfl rfl rfl rfl (fR gN)) fQ fK ⟨rfl,.inr rfl⟩
theorem pQ (hT:oF ρ τ σ υ pq pc pb ph kq kc kb kh qs cs bs hs) (hK:TOK qs cs bs hs q) :
  jM Tryz.prog (fv 11) [.agg #[.slice pq qs.length kq,.slice pc cs.length kc,.slice pb bs.length kb,.slice ph hs.length kh],.agg #[int q.src,int q.dst,int q.size,int q.rdy,int q.dln,int q.pri,.bool q.cus]] [ρ,τ,σ,υ] (fun r χ=>(∃ L1 a,iQ (fW qs cs bs hs q) L1/\jG (fW qs cs bs hs q) L1=some a/\r=.tuple #[.slice none 0 0,int 6])\/(∃ L1 L u,iQ (fW qs cs bs hs q) L1/\jG (fW qs cs bs hs q) L1=none/\iQ (fW qs cs bs hs q) L/\r=.tuple #[u,int 0]/\fS 126 4 u L.length (L.flatMap jI) χ)):=by
 have hck:=tF hT hK
 have har:=pP hT hK
 have hla:=aP6 hT hK
 generalize fW qs cs bs hs q=G at har hla ⊢
 refine A8 Tryz.func11 Tryz.ntmps11 fun N β=>?_
 refine Aa ?_
 refine BF fun b2 ct=>?_
 refine BF fun b3 cr=>?_
 refine B9 ?_;refine Aaq ?_;refine AC ?_;refine Abs ?_;refine A5 hck ?_;refine Ac7 ?_;refine AC ?_;refine Abs ?_;refine BT har rfl rfl rdZ rfl rfl ?_;rintro _ ⟨L1,hL1,⟨a,ha,rfl⟩|⟨ha,rfl⟩⟩
 ·refine AB ?_
  refine Ab ?_;refine Aaq ?_;refine Aab ?_;refine Aej ?_;refine Adl ?_;exact A2 (mB rfl rfl rfl) fQ fK ⟨emp,.inl ⟨L1,a,hL1,ha,rfl⟩,rfl⟩
 ·refine AB ?_
  refine Ab ?_;refine Aaq ?_;refine Aab ?_;refine Acy ?_;refine Abs ?_;refine B4 hla rfl rfl rdZ rfl rfl ?_;rintro _ χ ⟨L,u,hL,rfl,hO⟩;refine Ab ?_;refine Aaq ?_;exact A2 (mB rfl rfl rfl) fQ fK ⟨χ,.inr ⟨L1,L,u,hL1,ha,hL,rfl,hO⟩,rfl⟩
end
theorem aDs (p:Option Addr) (n c:Nat):Eng.Spec Tryz.prog (fv 48) [.slice p n c] [] [] (fun r H'=>∃ c1,r=.func (.func 112) #[] #[.pointer (some ⟨c1,0,none⟩)]/\H'=[sng c1 (.cells #[.slice p n c] 44 (0,0))]):=by
 refine A8 Tryz.func48 Tryz.ntmps48 fun N β=>?_
 refine Aa ?_
 refine C3 fun c1=>?_
 refine Aaa ?_;refine Adj ?_;refine Aaa ?_;exact AV ⟨c1,rfl,rfl⟩
theorem aOa (b1:Nat) (x y:Lb):Ans Tryz.prog (.func (.func 113) #[] #[.pointer (some ⟨b1,0,none⟩)]) [.agg #[int y.n,int y.f,int y.t,int y.a]] [sng b1 (.cells #[int x.n,int x.f,int x.t,int x.a] 126 (0,0))] (fun r=>r=.bool (decide (y.n=x.n/\y.f=x.f/\y.t=x.t/\y.a<=x.a))):=by
 have bx361_3:=rdB b1 126 [int x.n,int x.f,int x.t,int x.a]
 have x0:=rdC bx361_3 0
 have x1:=rdC bx361_3 1
 have x2:=rdC bx361_3 2
 have x3:=rdC bx361_3 3
 clear bx361_3
 refine CU [.pointer (some ⟨b1,0,none⟩)] Tryz.func113 Tryz.ntmps113 fun N β=>?_
 by_cases h1:y.n=x.n
 rotate_left
 ·rw [decide_eq_false (fun h=>h1 h.1)]
  refine Aa ?_
  refine B8 fun b=>?_
  refine Ac8 ?_;refine B3 ?_;refine Acg ?_;refine AT ?_;refine Acg ?_;refine AT ?_;refine Aes ?_;exact AV ⟨rfl,rfl⟩
 by_cases h2:y.f=x.f
 rotate_left
 ·rw [decide_eq_false (fun h=>h2 h.2.1)]
  refine Aa ?_
  refine B8 fun b=>?_
  refine Aed ?_;refine B3 ?_;refine AY ?_;refine Acg ?_;refine AT ?_;refine Aes ?_;exact AV ⟨rfl,rfl⟩
 by_cases h3:y.t=x.t
 rotate_left
 ·rw [decide_eq_false (fun h=>h3 h.2.2.1)]
  refine Aa ?_
  refine B8 fun b=>?_
  refine Aed ?_;refine CJ ?_;refine Aek ?_;refine B3 ?_;refine AY ?_;refine Aes ?_;exact AV ⟨rfl,rfl⟩
 by_cases h4:y.a<=x.a
 ·rw [decide_eq_true ⟨h1,h2,h3,h4⟩]
  refine Aa ?_
  refine B8 fun b=>?_
  refine Aed ?_;refine CJ ?_;refine Aek ?_;refine CJ ?_;refine Aek ?_;refine EA ?_;refine Ac0 ?_;exact AV ⟨rfl,rfl⟩
 ·rw [decide_eq_false (fun h=>h4 h.2.2.2)]
  refine Aa ?_
  refine B8 fun b=>?_
  refine Aed ?_;refine CJ ?_;refine Aek ?_;refine CJ ?_;refine Aek ?_;refine DC ?_;refine Ac0 ?_;exact AV ⟨rfl,rfl⟩
theorem aDt (lam:PH) (c1:Nat) (p:Option Addr) (c:Nat) (L:List Lb) (hv:SlE jI 4 lam (.slice p L.length c) L) (hl:L.length<=100000) (x:Lb):Ans Tryz.prog (.func (.func 112) #[] #[.pointer (some ⟨c1,0,none⟩)]) [.agg #[int x.n,int x.f,int x.t,int x.a]] [sng c1 (.cells #[.slice p L.length c] 44 (0,0)),lam] (fun r=>r=.bool (aS9 L x)):=by
 have bx559_3:=rdB c1 44 [.slice p L.length c]
 have g0:=rdC bx559_3 0
 clear bx559_3
 refine CU [.pointer (some ⟨c1,0,none⟩)] Tryz.func112 Tryz.ntmps112 fun N β=>?_
 refine Aa ?_
 refine BF fun b2 _=>?_
 have hco:=aCa lam _ L hv (by omega) _ (fun y=>decide (y.n=x.n/\y.f=x.f/\y.t=x.t/\y.a<=x.a)) _ (fun y=>aOa b2 x y)
 refine Aaa ?_;refine Abb ?_;refine BR ?_;refine A5 hco ?_;refine Aaa ?_;exact AV ⟨rfl,rfl⟩
end
section
variable {ρ τ σ υ:PH} {pq pc pb ph:Option Addr} {kq kc kb kh:Nat} {qs:List Int} {cs:List Ct} {bs:List Bk} {hs:List Hd} {q:Rq}
theorem aQd (v1 v2 v3 v4:Value) (q:Rq) (x:Lb) (h1:v1.oneCell'=true) (h2:v2.oneCell'=true) (h3:v3.oneCell'=true) (h4:v4.oneCell'=true):Eng.Spec Tryz.prog (fv 49) [.agg #[v1,v2,v3,v4],.agg #[int q.src,int q.dst,int q.size,int q.rdy,int q.dln,int q.pri,.bool q.cus],.agg #[int x.n,int x.f,int x.t,int x.a]] [] [] (fun r H'=>∃ c1 c2 c3,r=.func (.func 114) #[] #[.pointer (some ⟨c1,0,none⟩),.pointer (some ⟨c2,0,none⟩),.pointer (some ⟨c3,0,none⟩)]/\H'=[sng c3 (.cells #[int x.n,int x.f,int x.t,int x.a] 126 (0,0)),sng c2 (.cells #[int q.src,int q.dst,int q.size,int q.rdy,int q.dln,int q.pri,.bool q.cus] 38 (0,0)),sng c1 (.cells #[v1,v2,v3,v4] 41 (0,0))]):=by
 refine A8 Tryz.func49 Tryz.ntmps49 fun N β=>?_
 refine Aa ?_
 refine BV fun c1=>?_
 refine BV fun c2=>?_
 refine BV fun c3=>?_
 refine Aaa ?_;refine Adj ?_;refine Aaa ?_;exact AV ⟨c1,c2,c3,rfl,rfl⟩
theorem aQe (hT:oF ρ τ σ υ pq pc pb ph kq kc kb kh qs cs bs hs) (hK:TOK qs cs bs hs q) (c1 c2 c3:Nat) (x:Lb) (hF:qE (fW qs cs bs hs q) x) :
  aP4 Tryz.prog (.func (.func 114) #[] #[.pointer (some ⟨c1,0,none⟩),.pointer (some ⟨c2,0,none⟩),.pointer (some ⟨c3,0,none⟩)]) [sng c1 (.cells #[.slice pq qs.length kq,.slice pc cs.length kc,.slice pb bs.length kb,.slice ph hs.length kh] 41 (0,0)),sng c2 (.cells #[int q.src,int q.dst,int q.size,int q.rdy,int q.dln,int q.pri,.bool q.cus] 38 (0,0)),sng c3 (.cells #[int x.n,int x.f,int x.t,int x.a] 126 (0,0)),ρ,τ,σ,υ] ((mvs (fW qs cs bs hs q) x).map (fun m=>[.agg #[int m.1.n,int m.1.f,int m.1.t,int m.1.a],.agg #[int m.2.c,int m.2.b,int m.2.e,int m.2.a]])):=by
 intro y S Own Inv Stop Ry hy hyl σ0 hI0
 obtain ⟨yl,rfl⟩:=hyl
 have hmo:=uU hT hK x hF
 have hml:=aAd (iV hK) x
 generalize mvs (fW qs cs bs hs q) x=Q at hy hI0 hmo hml ⊢
 have d1:=rdB c1 41 [.slice pq qs.length kq,.slice pc cs.length kc,.slice pb bs.length kb,.slice ph hs.length kh]
 have d2:=rdB c2 38 [int q.src,int q.dst,int q.size,int q.rdy,int q.dln,int q.pri,.bool q.cus]
 have d3:=rdB c3 126 [int x.n,int x.f,int x.t,int x.a]
 simp only [aG,aH]
 refine CU [.pointer (some ⟨c1,0,none⟩),.pointer (some ⟨c2,0,none⟩),.pointer (some ⟨c3,0,none⟩)] Tryz.func114 Tryz.ntmps114 fun N β=>?_
 refine Abs ?_;refine AI ?_;refine B4 hmo rfl rfl rdZ rfl rfl ?_;rintro _ χ ⟨u1,u2,rfl,hS1,hS2⟩;refine AW (ρ:=χ) gU.here ?_
 obtain ⟨p1,k1,rfl,hr1⟩:=SlE.val (enc:=jI) jA hS1
 obtain ⟨p2,k2,rfl,hr2⟩:=SlE.val (enc:=gE) gJ hS2
 have e1:(Q.map (·.1)).length=Q.length:=aU _
 have e2:(Q.map (·.2)).length=Q.length:=aU _
 rw [e1,e2];clear e1 e2;refine Aem ?_;refine Ac6 ?_;refine Aab ?_;refine Abh ?_
 refine BE [0,6,18,19] (X:=Nat × S) (0,σ0) (fun z=>z.1<=Q.length/\Inv z.1 z.2) (fun z=>[(20,int z.1)]) (fun z=>Own z.2) (fun z=>Q.length-z.1) fT ⟨by dsimp only; omega,hI0⟩ fP Sel.refl ?_
 rintro ⟨k,σ1⟩ ⟨hk,hI⟩
 dsimp only at hk hI ⊢
 by_cases hlt:k<Q.length
 rotate_left
 ·have hke:k=Q.length:=by omega
  subst hke;refine Abp ?_
  refine BJ (gY rfl) (fun _ h=>bS _ h) Sel.refl ⟨σ1,rfl,.inl ?_⟩
  rw [aU];exact hI
 have hx:=aA hlt
 obtain ⟨bl,ol,e1,hrd1⟩:=hr1 k (Q[k]).1 (by rw [aY,hx]; rfl)
 obtain ⟨bh,oh,e2,hrd2⟩:=hr2 k (Q[k]).2 (by rw [aY,hx]; rfl)
 have hya:=hy k σ1 _ (by rw [aY,hx]; rfl) hI
 dsimp only at hya
 generalize Q[k]=m at hx hrd1 hrd2 hya
 have hrd1:RdN χ bl (ol+k*4) [int m.1.n,int m.1.f,int m.1.t,int m.1.a]:=hrd1
 have hrd2:RdN χ bh (oh+k*4) [int m.2.c,int m.2.b,int m.2.e,int m.2.a]:=hrd2
 subst e1 e2;refine Aa8 ?_;refine Aab ?_;refine Aa9 ?_
 refine A3 fun b=>?_
 refine AD ?_;refine Adb ?_
 revert b; intro b9
 refine A9 (.q 0 (.q 1 (.q 2 (.q 3 (.q 4 (.q 5 (.l 6 .b (.q 7 .nil)))))))) [] rfl (by kernel_rfl) Sel.nil ?_
 refine AP ?_;refine A7 ?_;refine Acl ?_
 refine BZ (CS rfl hya rfl rfl (gA.skip gA.all) (fun τ hτ=>.inl (by simp [hτ])) rfl rfl (fun _ _ _ w hw=>hw.sel Sel.nil) ?_)
 rintro _ H' ⟨σ2,rfl,⟨rfl,hI2⟩|⟨rfl,hSt⟩⟩
 ·refine CZ ?_
  refine BC ?_;refine DM (H':=_::Own σ2) (cS (l₂:=[_])) ?_;refine AJ rfl ?_;refine AK ?_;refine Aa3 ?_
  exact AZ (k+1,σ2) ⟨by dsimp only; omega,hI2⟩ (by dsimp only; omega) fP (Sel.skip Sel.refl)
 ·refine CZ ?_
  refine BC ?_;refine DM (H':=_::Own σ2) (cS (l₂:=[_])) ?_;refine AQ rfl ?_
  exact A2 (gY rfl) (fun _ h=>bS _ h) (Sel.skip Sel.refl) ⟨σ2,rfl,.inr hSt⟩
theorem aHt (hT:oF ρ τ σ υ pq pc pb ph kq kc kb kh qs cs bs hs) (hK:TOK qs cs bs hs q) {lam:PH} {pl:Option Addr} {cl:Nat} {L:List Lb} (hv:SlE jI 4 lam (.slice pl L.length cl) L) (hl:L.length<=100000) (hV:VerL (fW qs cs bs hs q) L) :
  Ans Tryz.prog (fv 47) [.agg #[.slice pq qs.length kq,.slice pc cs.length kc,.slice pb bs.length kb,.slice ph hs.length kh],.agg #[int q.src,int q.dst,int q.size,int q.rdy,int q.dln,int q.pri,.bool q.cus],.slice pl L.length cl] [ρ,τ,σ,υ,lam] (fun r=>r=int 0):=by
 obtain ⟨_,_,ew,hrl⟩:=SlE.val (enc:=jI) jA hv
 simp only [aN] at ew
 obtain ⟨rfl,_,rfl⟩:=ew
 have hbg:=aKu hT hK
 have hmo:=fun x hF=>uU hT hK x hF
 have hfi:=hV.fine
 have hbe:=hV.beg
 generalize fW qs cs bs hs q=G at hbg hmo hfi hbe
 have hco:=fun c1=>aDt lam c1 _ _ L hv hl
 refine A8 Tryz.func47 Tryz.ntmps47 fun N β=>?_
 refine Aa ?_
 refine BF fun b2 ct=>?_
 refine BF fun b3 cr=>?_
 refine Abv ?_;refine Abh ?_
 refine BE [2,3,4,14,15] (0:Nat) (fun k=>k<=L.length) (fun k=>[(16,int k)]) (fun _=>[]) (fun k=>L.length-k) fT (by omega) fP fK ?_
 rintro k hk
 by_cases hlt:k<L.length
 ·have hx:=aA hlt
  have hfx:=hfi _ (aF hx)
  obtain ⟨bl,ol,e1,hrd⟩:=hrl k _ hx
  generalize L[k]=x at hx hfx hrd
  have hrd:RdN lam bl (ol+k*4) [int x.n,int x.f,int x.t,int x.a]:=hrd
  subst e1
  have hm:=hmo x hfx
  refine Ab2 ?_
  refine A3 fun b=>?_
  refine Aa6 ?_;refine Abs ?_;refine AI ?_
  revert b; intro b8
  refine B4 hm rfl rfl rdZ rfl rfl ?_;rintro _ χ ⟨u1,u2,rfl,hS1,hS2⟩;refine Aem ?_;refine Ac6 ?_;refine Aab ?_;refine Abn ?_;refine Aa3 ?_
  exact AZ (k+1) (by omega) (by omega) fP fK
 have hke:k=L.length:=by omega
 subst hke;refine Abp ?_;refine AC ?_;refine Abs ?_;refine BT hbg rfl rfl rdZ rfl rfl ?_;rintro _ (⟨x,hx,rfl⟩|rfl)
 ·have hcv:=hbe x hx
  refine Abk ?_
  refine A3 fun b=>?_
  refine AU ?_;refine Aba ?_
  revert b; intro b12
  refine A9 (.q 0 (.q 1 (.q 2 (.q 4 (.l 3 .e (.l 5 .e (.q 6 (.q 7 .nil)))))))) [] rfl (by kernel_rfl) fK ?_
  refine Adc ?_;refine A7 ?_;refine BZ (C8 rfl (aDs _ _ _) rfl rfl rdZ rfl rfl ?_);rintro _ _ ⟨c1,rfl,rfl⟩;simp only [aG,aH]
  have hc:=hco c1 x
  rw [hcv] at hc
  skip
  refine BZ (BQ rfl hc rfl rfl rdZ rfl rfl ?_);rintro _ rfl;refine CZ ?_;refine BU ?_;refine Ach ?_;refine Aam ?_;exact AV ⟨rfl,rfl⟩
 ·refine AB ?_
  refine Ab ?_
  refine A3 fun b=>?_
  refine AU ?_;refine Aba ?_
  revert b; intro b12
  refine A9 (.q 0 (.q 1 (.q 2 (.q 4 (.q 3 (.q 5 (.q 6 (.q 7 .nil)))))))) [] rfl (by kernel_rfl) fK ?_
  refine Aa0 ?_;refine Abw ?_;refine Ady ?_;refine Ach ?_;refine Aam ?_;exact AV ⟨rfl,rfl⟩
theorem aHu (hT:oF ρ τ σ υ pq pc pb ph kq kc kb kh qs cs bs hs) (hK:TOK qs cs bs hs q) {lam:PH} {pl:Option Addr} {cl:Nat} {L:List Lb} (hv:SlE jI 4 lam (.slice pl L.length cl) L) (hl:L.length<=100000) (hV:VerL (fW qs cs bs hs q) L) :
  Ans Tryz.prog (fv 13) [.agg #[.slice pq qs.length kq,.slice pc cs.length kc,.slice pb bs.length kb,.slice ph hs.length kh],.agg #[int q.src,int q.dst,int q.size,int q.rdy,int q.dln,int q.pri,.bool q.cus],.slice pl L.length cl] [ρ,τ,σ,υ,lam] (fun r=>r=int 0):=by
 obtain ⟨_,_,ew,hrl⟩:=SlE.val (enc:=jI) jA hv
 simp only [aN] at ew
 obtain ⟨rfl,_,rfl⟩:=ew
 have hck:=tF hT hK
 have hcl:=aHt hT hK hv hl hV
 have hit:=fun c1 c2 c3 x hF=>aQe hT hK c1 c2 c3 x hF
 have hfi:=hV.fine
 have hmv:=hV.mv
 have hqd:(fW qs cs bs hs q).q.dst=q.dst:=rfl
 generalize fW qs cs bs hs q=G at hit hfi hmv hqd
 have hco:=fun c1=>aDt lam c1 _ _ L hv hl
 refine A8 Tryz.func13 Tryz.ntmps13 fun N β=>?_
 refine Aa ?_
 refine BF fun b2 ct=>?_
 refine BF fun b3 cr=>?_
 have r1:=rdC cr 1
 refine B5 fun b=>?_
 refine Aak ?_;refine Abs ?_
 revert b; intro b6
 refine A5 hck ?_;refine Ac7 ?_;refine AC ?_;refine Abs ?_;refine AB ?_;refine A5 hcl ?_;refine Ac7 ?_;refine Aab ?_;refine BG (aDs _ _ _) rfl rfl fU rdZ rfl rfl ?_;rintro _ _ ⟨c0,rfl,rfl⟩;simp only [aG,aH];refine AW (ρ:=sng c0 _) fL ?_
 refine B5 fun b=>?_
 refine Abx ?_;refine Aag ?_;refine Abh ?_
 revert b; intro b9
 refine AW (ρ:=sng b9 _) fL ?_
 have bx369_3:=rdB b9 123 [.func (.func 112) #[] #[.pointer (some ⟨c0,0,none⟩)]]
 have g9:=rdC bx369_3 0
 clear bx369_3
 refine B9 ?_
 skip
 refine EE [2,3,4,6,9,29,30] (X:=Nat × (List Nat × PH)) (0,([],emp)) (fun x=>x.2.1.map mk) (fun x=>x.1<=L.length/\sS x.2.2 x.2.1) (fun x=>[(31,int x.1)]) (fun x=>[sng b6 (.cells #[int 0] 33 (0,0)),x.2.2]) (fun x=>L.length-x.1) fT rfl ⟨by dsimp only; omega,sS.nil⟩ fP fK ?_
 rintro ⟨k,⟨ms,μ⟩⟩ ⟨hk,hM⟩
 dsimp only at hk hM ⊢
 by_cases hlt:k<L.length
 rotate_left
 ·have hke:k=L.length:=by omega
  subst hke;refine Abp ?_;refine Aa ?_;refine Abx ?_;exact DY hM fL (aEr rfl rfl rfl (jV gN rfl)) fQ fK ⟨rfl,rfl⟩
 have hx:=aA hlt
 have hfx:=hfi _ (aF hx)
 have hmx:=hmv _ (aF hx)
 obtain ⟨bl,ol,e1,hrd⟩:=hrl k _ hx
 generalize L[k]=x at hx hfx hmx hrd
 have hrd:RdN lam bl (ol+k*4) [int x.n,int x.f,int x.t,int x.a]:=hrd
 subst e1;refine Ab2 ?_
 refine A3 fun b=>?_
 refine Aa6 ?_;refine Aa ?_
 refine B5 fun b=>?_
 refine BK ?_;refine Aak ?_;refine Abs ?_;refine AI ?_
 revert b; intro b12
 revert b; intro b11
 refine BG (aQd _ _ _ _ q x rfl rfl rfl rfl) rfl rfl fU rdZ rfl rfl ?_;rintro _ _ ⟨c1,c2,c3,rfl,rfl⟩;simp only [aG,aH];refine AW (ρ:=sng c3 _) fL ?_;refine AW (ρ:=sng c2 _) fL ?_;refine AW (ρ:=sng c1 _) fL ?_;refine Ad3 ?_
 refine DL (gf:=114) (cap:=[.pointer (some ⟨c1,0,none⟩),.pointer (some ⟨c2,0,none⟩),.pointer (some ⟨c3,0,none⟩)]) (ps:=[39,40]) (X:=Unit) rfl Tryz.func114 rfl rfl
  (hit c1 c2 c3 x hfx) ?_ (fun _ _=>True) (fun _=>[sng b12 (.cells #[.bool false] 4 (0,0))]) (fun _ _=>False) () rfl fU trivial ?_ ?_ ?_
 ·intro σ' hσ
  simp only [aE,bD,or_false] at hσ ⊢
  rcases hσ with h|h|h|h|h|h|h <;> simp [h]
 ·rintro lo r j _ vs hvs _ hps has hbd hst hpe hfr
  obtain ⟨st,pe,fnn,tm,prm,asg,bdy,df⟩:=r
  simp only at hps has hbd hst hpe hfr;subst hps has hbd hst hpe;rw [aY] at hvs
  obtain ⟨m,hm,rfl⟩:=aQ.1 hvs
  obtain ⟨hmd,hcv⟩:=hmx m (aF hm)
  rw [hqd] at hmd
  have hc:=hco c0 m.1
  rw [hcv] at hc
  generalize m.1=y at hmd hc
  refine lF hfr rfl (by intro p hp; simp at hp; omega) aBm (fun N' β'=>?_)
  refine AA ?_
  refine A3 fun b=>?_
  refine Aa6 ?_
  revert b; intro b13
  refine C7 rfl rfl ?_;refine DI fL rfl ?_;refine AM ?_;refine AC ?_;refine Abr ?_;refine Acy ?_;refine AA ?_;refine AF ?_;refine Ads ?_;refine AI ?_;refine A5 hc ?_;refine BX ?_;refine AT ?_;refine Abx ?_;refine BB ?_;exact CD fL fQ fK ⟨(),.inl ⟨rfl,trivial,rfl⟩⟩
 ·rintro bm _ _
  simp only [aG,aH]
  refine ED (R':=[sng b9 (.cells #[.func (.func 112) #[] #[.pointer (some ⟨c0,0,none⟩)]] 123 (0,0)),sng c0 (.cells #[.slice (some ⟨bl,ol,none⟩) L.length cl] 44 (0,0)),sng b3 (.cells #[int q.src,int q.dst,int q.size,int q.rdy,int q.dln,int q.pri,.bool q.cus] 38 (0,0)),sng b2 (.cells #[.slice pq qs.length kq,.slice pc cs.length kc,.slice pb bs.length kb,.slice ph hs.length kh] 41 (0,0)),β,ρ,τ,σ,υ,lam]) (by intro σ' hσ; simp at hσ ⊢; rcases hσ with h|h|h|h|h|h|h|h|h|h <;> simp [h]) ?_
  refine C9 (b:=bm) fL (μ:=μ) fL hM ?_
  intro μ2 hM2
  refine BB ?_;refine Abb ?_;refine Ace ?_
  exact DZ (k+1,(bm::ms,μ2)) rfl ⟨by dsimp only; omega,hM2⟩ (by dsimp only; omega) fP fK
 ·rintro bm cc o' hf
  exact hf.elim
end
end Go.Proofs.YtnijkofdlepfjaaGreat
namespace Go.Step
theorem aQf {a b:List Hd} (h:a.Perm b) (ha:nJ a) (hb:nJ b):a=b:=
  List.Perm.eq_of_pairwise (le:=fun x y=>mY x y<=0) (fun x y _ _ h1 h2=>aLr (by have:=xM x y; omega)) ha hb h
theorem aQg {cs:List Ct} {a b:List Bk} (h:a.Perm b) (ha:BkW a) (hb:BkW b) (hap:a.Pairwise apB) (hok:∀ y∈a,aF7 cs y):a=b:=by
  refine List.Perm.eq_of_pairwise (le:=fun x y=>qM x y<=0) (fun x y hx hy h1 h2=>?_) ha hb h
  have hy:=h.mem_iff.2 hy
  have e1:=(rU x y).1 h1
  have e2:=(rU y x).1 h2
  have ec:x.c=y.c:=by omega
  have ea:x.a=y.a:=by omega
  obtain ⟨i,hi,rfl⟩:=bB hx
  obtain ⟨j,hj,rfl⟩:=bB hy
  obtain ⟨_,_,_,_,o1,_⟩:=hok _ hx
  obtain ⟨_,_,_,_,o2,_⟩:=hok _ hy
  rw [aZ] at hap
  rcases fE i j with hij|rfl|hij
  · have:=hap i j hi hj hij ec
    omega
  · rfl
  · have:=hap j i hj hi hij ec.symm
    omega
theorem LgW.same {qs:List Int} {cs:List Ct} {T:List Tk} (h:LgW qs cs T) {bs bs':List Bk} {hs hs':List Hd} (pb:bs.Perm (jJ T)) (sb:BkW bs) (ph:hs.Perm (jB cs T)) (sh:nJ hs) (pb':bs'.Perm (jJ T)) (sb':BkW bs') (ph':hs'.Perm (jB cs T)) (sh':nJ hs'):bs=bs'/\hs=hs':=by
  have h1:=h.v.tb
  rw [rX] at h1
  refine ⟨aQg (cs:=cs) (pb.trans pb'.symm) sb sb' ((pb.pairwise_iff (fun h=>aCg h)).2 h1.ap) (fun y hy=>h1.okB y (pb.mem_iff.1 hy)),aQf (ph.trans ph'.symm) sh sh'⟩
section
section
variable {qs:List Int} {cs:List Ct} {q:Rq} {bs fs:List Bk} {hs hs0:List Hd} {l:List Hp} {T:List Tk}
theorem aT4 (hK:TOK qs cs bs hs q) (hF:kY qs cs bs hs q l):∀ p∈l,∀ z∈bs,z.c=p.c->z.b<=p.b\/p.e<=z.a:=fun p hp z hz e=>by
  obtain ⟨⟨L,y,w,hL,hy,hw,rfl⟩,_⟩:=hF
  obtain ⟨i1,i2,i3,i4⟩:=yA hK hL hw
  obtain ⟨p',hp',rfl⟩:=bE.1 hp
  exact (i4 p' hp').2 z hz e
theorem aWf (hn:∀ (i:Nat) x,T[i]?=some x->x.k=(i:Int)+1) {x y:Tk} (hx:x∈T) (hy:y∈T) (e:x.k=y.k):x=y:=by
  obtain ⟨i,hi⟩:=dI hx
  obtain ⟨j,hj⟩:=dI hy
  have h1:=hn i x hi
  have h2:=hn j y hj
  have:i=j:=by omega
  subst this;rw [hi] at hj
  injection hj
theorem aOb (hW:LgW qs cs T) (hK0:TOK qs cs fs hs0 q) (pf:fs.Perm (kF (lM T) T)) (ph0:hs0.Perm (jB cs T)) (hF:kY qs cs fs hs0 q l) (hv:aKc T l=[]) (hK:TOK qs cs bs hs q) (pb:bs.Perm (jJ T)) (ph:hs.Perm (jB cs T)) {L:List Lb} (hL:iQ (fW qs cs bs hs q) L):∃ a,jG (fW qs cs bs hs q) L=some a:=by
  refine aPk hK0 hK (fun n t=>by rw [oO ph,oO ph0]; exact cH _) hF (fun p hp z hz e=>?_) hL
  have hz:=pb.mem_iff.1 hz
  by_cases hk:z.k∈lM T
  · obtain ⟨x,hx,hb⟩:=dB.1 hz
    obtain ⟨x2,hx2,hw2,e2⟩:=yB.1 hk
    rw [rY hb] at e2
    have:=aWf hW.v.num hx2 hx e2
    subst this
    have hno:ovB x2 l=false:=by
      cases ho:ovB x2 l with
      | false=>rfl
      | true =>
        have:x2.k∈aKc T l:=aTr.2 ⟨x2,hx,by rw [hw2,ho]; rfl,rfl⟩
        rw [hv] at this
        cases this
    obtain ⟨a,ha,rfl⟩:=bE.1 hb
    exact aKd hno (k:=x2.k) (k':=x2.k) a ha p hp e
  · refine aT4 hK0 hF p hp z (pf.mem_iff.2 ?_) e
    unfold kF;rw [bT]
    exact ⟨hz,by simpa using hk⟩
end
end
def pR (cs:List Ct) (T:List Tk) (bs:List Bk) (hs:List Hd):Prop:=bs.Perm (jJ T)/\BkW bs/\hs.Perm (jB cs T)/\nJ hs
def aQh (qs:List Int) (cs:List Ct) (T:List Tk) (q:Rq) (p:Hp) (n:Nat):Prop:=∀ bs hs L,pR cs T bs hs->iQ (fW qs cs bs hs q) L ->
  (∀ a,jG (fW qs cs bs hs q) L=some a->p.a<=a)/\(q.pri≠2->jG (fW qs cs bs hs q) L=some p.a)/\(jG (fW qs cs bs hs q) L=none->0<n)
def aVu (qs:List Int) (cs:List Ct) (T:List Tk) (q:Rq) (L2:List Lb):Prop:=∀ bs hs,pR cs T bs hs->iQ (fW qs cs bs hs q) L2/\∀ L,iQ (fW qs cs bs hs q) L->jG (fW qs cs bs hs q) L=none
section
variable {qs:List Int} {cs:List Ct} {q:Rq} {bs:List Bk} {hs:List Hd} {T:List Tk}
theorem LgW.only (h:LgW qs cs T) {bs':List Bk} {hs':List Hd} (t:pR cs T bs hs) (t':pR cs T bs' hs'):bs=bs'/\hs=hs':=
  h.same t.1 t.2.1 t.2.2.1 t.2.2.2 t'.1 t'.2.1 t'.2.2.1 t'.2.2.2
theorem aOc (hW:LgW qs cs T) (t0:pR cs T bs hs) (hK:TOK qs cs bs hs q) {L0:List Lb} (hL0:iQ (fW qs cs bs hs q) L0) {p:Hp} (ha:jG (fW qs cs bs hs q) L0=some p.a) (n:Nat):aQh qs cs T q p n:=fun bs' hs' L t hL=>by
  obtain ⟨rfl,rfl⟩:=hW.only t0 t
  have e:=sA hK hL hL0
  rw [ha] at e
  refine ⟨fun a h=>?_,fun _=>e,fun h=>?_⟩
  · rw [e] at h
    injection h with h
    omega
  · rw [e] at h
    cases h
theorem aQi (hW:LgW qs cs T) (t0:pR cs T bs hs) (hK:TOK qs cs bs hs q) {L0:List Lb} (hL0:iQ (fW qs cs bs hs q) L0) {l0 l:List Hp} {p:Hp} (h0:(∃ z,l0.getLast?=some z/\jG (fW qs cs bs hs q) L0=some z.a)\/jG (fW qs cs bs hs q) L0=none) (hlt:∀ z,l0.getLast?=some z->p.a<z.a) (hq2:q.pri=2) {fs:List Bk} {hs0:List Hd} (hK0:TOK qs cs fs hs0 q) (pf:fs.Perm (kF (lM T) T)) (ph0:hs0.Perm (jB cs T)) (hF:kY qs cs fs hs0 q l) {n:Nat} (hn:n=(aKc T l).length):aQh qs cs T q p n:=fun bs' hs' L t hL=>by
  obtain ⟨rfl,rfl⟩:=hW.only t0 t
  have e:=sA hK hL hL0
  refine ⟨fun a h=>?_,fun h=>absurd hq2 h,fun h=>?_⟩
  · rw [e] at h
    rcases h0 with ⟨z,h1,h2⟩|h0
    · rw [h2] at h
      injection h with h
      have:=hlt z h1
      omega
    · rw [h0] at h
      cases h
  · rcases dC n with h1|h1
    · exfalso
      obtain ⟨a,ha⟩:=aOb hW hK0 pf ph0 hF (dE (by omega)) hK t0.1 t0.2.2.1 hL
      rw [h] at ha
      cases ha
    · exact h1
theorem aWg (hW:LgW qs cs T) (t0:pR cs T bs hs) (hK:TOK qs cs bs hs q) {L0 L2:List Lb} (hL0:iQ (fW qs cs bs hs q) L0) (h0:jG (fW qs cs bs hs q) L0=none) (hL2:iQ (fW qs cs bs hs q) L2):aVu qs cs T q L2:=fun bs' hs' t=>by
  obtain ⟨rfl,rfl⟩:=hW.only t0 t
  exact ⟨hL2,fun L hL=>by rw [sA hK hL hL0]; exact h0⟩
end
end Go.Step
namespace Go.Proofs.YtnijkofdlepfjaaGreat
open Go.Eng Go.Step
set_option maxRecDepth 100000
set_option maxHeartbeats 64000000
theorem aWh (L:List TkU) (l:List Hp):oQ (iH L) l=aKc (L.map (·.t)) l:=by
 unfold oQ iH aKc;rw [List.filter_filter,List.filter_map,List.map_map]
 congr 1
 refine List.filter_congr (fun x _=>?_)
 show (ovB x.t l && kZ x.t)=(kZ x.t && ovB x.t l)
 exact Bool.and_comm _ _
end Go.Proofs.YtnijkofdlepfjaaGreat
