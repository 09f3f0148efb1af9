/- Texts of this proof, one after the other; no conditions. -/
import Derived.Test.YtnijkofdlepfjaaGreatWA
import Derived.Test.YtnijkofdlepfjaaGreatWB9
import Derived.Test.YtnijkofdlepfjaaGreatWB3
import Derived.Test.YtnijkofdlepfjaaGreatWB5
import Derived.Test.YtnijkofdlepfjaaGreatWB8
import Derived.Test.YtnijkofdlepfjaaGreatWB1
import Derived.Test.YtnijkofdlepfjaaGreatWB4
import Derived.Test.YtnijkofdlepfjaaGreatWB2
import Derived.Test.YtnijkofdlepfjaaGreatWB7
import Derived.Test.YtnijkofdlepfjaaGreatWB6
set_option linter.all false
namespace Go.Proofs.YtnijkofdlepfjaaGreat
open Go.Eng Go.Step
set_option maxRecDepth 100000
set_option maxHeartbeats 64000000
section
section
variable {ρ τ:PH} {pq pc pt:Option Addr} {kq kc kt:Nat} {qs:List Int} {cs:List Ct}
theorem qW {χ:PH} {L:List TkU} (hL:SlE mD 11 χ (.slice pt L.length kt) L) (hl:L.length<=100) {j:Nat} {x:TkU} (hx:L[j]?=some x) (hn:∀ (i:Nat) (y:TkU),L[i]?=some y->y.t.k=(i:Int)+1) :
  Ans Tryz.prog (fv 15) [.agg #[.slice pq qs.length kq,.slice pc cs.length kc,.slice none 0 0,.slice pt L.length kt],int x.t.k] [χ] (fun r=>r=.tuple #[.agg #[int x.t.k,int x.t.q.src,int x.t.q.dst,int x.t.q.size,int x.t.q.rdy,int x.t.q.dln,int x.t.q.pri,.bool x.t.q.cus,.slice x.p x.t.hops.length x.c,int x.st,int x.un],.bool true]):=by
 obtain ⟨_,_,e,hrt⟩:=SlE.val jX hL
 simp only [aN] at e
 obtain ⟨rfl,_,rfl⟩:=e
 have hjl:=(aC.1 hx).1
 have hxk:=hn j x hx
 refine A8 Tryz.func15 Tryz.ntmps15 fun N β=>?_
 refine Aa ?_
 refine BV fun b2=>?_
 refine AW (ρ:=sng b2 (.cells #[.slice pq qs.length kq,.slice pc cs.length kc,.slice none 0 0,.slice pt L.length kt] 32 (0,0))) fL ?_
 have bx26_3:=rdB b2 32 [.slice pq qs.length kq,.slice pc cs.length kc,.slice none 0 0,.slice pt L.length kt]
 have c0:=rdC bx26_3 0
 have c1:=rdC bx26_3 1
 have c2:=rdC bx26_3 2
 have c3:=rdC bx26_3 3
 refine CT fun b4=>?_
 refine Ad1 ?_;refine Abh ?_
 refine BE [1,4,5,9,10] (X:=Nat) 0 (fun i=>i<=j) (fun i=>[(11,int (i:Int))]) (fun _=>[sng b4 (.cells #[int 0,int 0,int 0,int 0,int 0,int 0,int 0,.bool false,.slice none 0 0,int 0,int 0] 58 (0,0))]) (fun i=>j-i) fT (cA _) fP fK ?_
 rintro i hi
 have hlt:i<L.length:=by omega
 have hy:=aA hlt
 obtain ⟨bl,ol,rfl,hrd⟩:=hrt i _ hy
 have hyk:=hn i _ hy
 by_cases hij:i=j
 ·subst hij
  rw [hx] at hy
  injection hy with hy
  rw [← hy] at hrd
  have hrd:RdN χ bl (ol+i*11) [int x.t.k,int x.t.q.src,int x.t.q.dst,int x.t.q.size,int x.t.q.rdy,int x.t.q.dln,int x.t.q.pri,.bool x.t.q.cus,.slice x.p x.t.hops.length x.c,int x.st,int x.un]:=hrd
  refine Ab2 ?_
  refine A3 fun b=>?_
  refine Aer ?_;refine Aej ?_;refine Aar ?_;refine Add ?_;exact A2 (zC (b1:=b4) (T:=58) (v1:=[int x.t.k,int x.t.q.src,int x.t.q.dst,int x.t.q.size,int x.t.q.rdy,int x.t.q.dln,int x.t.q.pri,.bool x.t.q.cus,.slice x.p x.t.hops.length x.c,int x.st,int x.un]) rfl rfl rfl rfl rfl (fR gN)) fQ fK ⟨rfl,rfl⟩
 ·generalize L[i]=y at hy hrd hyk
  have hrd:RdN χ bl (ol+i*11) [int y.t.k,int y.t.q.src,int y.t.q.dst,int y.t.q.size,int y.t.q.rdy,int y.t.q.dln,int y.t.q.pri,.bool y.t.q.cus,.slice y.p y.t.hops.length y.c,int y.st,int y.un]:=hrd
  refine Ab2 ?_
  refine A3 fun b=>?_
  refine Aer ?_;refine B3 ?_;refine Ace ?_
  exact AZ (i+1) (by omega) (by omega) fP fK
theorem iL {γ:PH} {x:TkU} (hx:SlE gE 4 γ (.slice x.p x.t.hops.length x.c) x.t.hops) (hl:x.t.hops.length<=1000):Ans Tryz.prog (fv 208) [.agg #[int x.t.k,int x.t.q.src,int x.t.q.dst,int x.t.q.size,int x.t.q.rdy,int x.t.q.dln,int x.t.q.pri,.bool x.t.q.cus,.slice x.p x.t.hops.length x.c,int x.st,int x.un],int 0] [γ] (fun r=>r=int ((mQ x.t.hops:Nat):Int)):=by
 obtain ⟨⟨k,⟨qs1,qd,qz,qr,ql,qp,qc⟩,hops⟩,pp,cc,st,un⟩:=x
 dsimp only at hx hl ⊢
 have hle:=aAg hops
 obtain ⟨_,_,e,hrh⟩:=SlE.val gJ hx
 simp only [aN] at e
 obtain ⟨rfl,_,rfl⟩:=e
 refine A8 Tryz.func208 Tryz.ntmps208 fun N β=>?_
 refine Aa ?_
 refine BV fun b2=>?_
 refine AW (ρ:=sng b2 (.cells #[int k,int qs1,int qd,int qz,int qr,int ql,int qp,.bool qc,.slice pp hops.length cc,int st,int un] 58 (0,0))) fL ?_
 have bx130_3:=rdB b2 58 [int k,int qs1,int qd,int qz,int qr,int ql,int qp,.bool qc,.slice pp hops.length cc,int st,int un]
 have c0:=rdC bx130_3 0
 have c1:=rdC bx130_3 1
 have c2:=rdC bx130_3 2
 have c3:=rdC bx130_3 3
 have c4:=rdC bx130_3 4
 have c5:=rdC bx130_3 5
 have c6:=rdC bx130_3 6
 have c7:=rdC bx130_3 7
 have c8:=rdC bx130_3 8
 have c9:=rdC bx130_3 9
 have c10:=rdC bx130_3 10
 refine Aaa ?_;refine Aam ?_;refine Aap ?_
 refine BE [1,2,4] (X:=Nat) 0 (fun i=>i<=mQ hops) (fun i=>[(5,int (i:Int))]) (fun _=>[]) (fun i=>mQ hops-i) fT (cA _) fP Sel.refl ?_
 rintro i hi
 by_cases hlt:i<mQ hops
 ·obtain ⟨y,hy,hyb⟩:=aNs hlt
  obtain ⟨bl,ol,rfl,hrd⟩:=hrh i _ hy
  have hb1:rdc γ bl (ol+i*4+1)=some (int y.b):=hrd.get (j:=1) rfl
  refine Aex ?_;refine BM ?_;refine Aas ?_;refine AB ?_;refine BL ?_;refine Adg ?_;refine AB ?_;refine EA ?_;refine Aci ?_;refine Acr ?_;refine AA ?_;refine Ab8 ?_;refine BB ?_
  exact AZ (i+1) (by omega) (by omega) fP Sel.refl
 have hib:i=mQ hops:=by omega
 by_cases hlen:i<hops.length
 ·have hy:=aA hlen
  have hyb:=aPm (l:=hops) (y:=hops[i]) (by rw [← hib]; exact hy)
  obtain ⟨bl,ol,rfl,hrd⟩:=hrh i _ hy
  generalize hops[i]=y at hy hyb hrd
  have hb1:rdc γ bl (ol+i*4+1)=some (int y.b):=hrd.get (j:=1) rfl
  rw [← hib];refine Aex ?_;refine BM ?_;refine Aas ?_;refine AB ?_;refine BL ?_;refine Adg ?_;refine AB ?_;refine DC ?_;refine AY ?_;refine Aa7 ?_;refine Aa5 ?_;exact AV ⟨rfl,rfl⟩
 ·rw [← hib]
  refine Aex ?_;refine BD ?_;refine Aec ?_;refine Aad ?_;refine AT ?_;refine Aa7 ?_;refine Aa5 ?_;exact AV ⟨rfl,rfl⟩
structure UOK (qs:List Int) (cs:List Ct) (γ:PH) (x:TkU):Prop where
 hp:SlE gE 4 γ (.slice x.p x.t.hops.length x.c) x.t.hops
 q:nF qs.length x.t.q
 ro:rT cs x.t.q x.t.hops\/x.t.hops=[]
 st:StU x
 cap:x.t.hops.length<=x.c
theorem UOK.len {γ:PH} {x:TkU} (h:UOK qs cs γ x):x.t.hops.length<=1000:=by
 rcases h.ro with h|h
 ·exact h.len
 ·rw [h]; exact cA _
theorem UOK.rest {γ:PH} {x:TkU} (h:UOK qs cs γ x) (hr:jE x.t=true):x.st=1/\x.t.hops≠[]/\rT cs x.t.q x.t.hops:=by
 have hne:x.t.hops≠[]:=fun e=>by unfold jE at hr; rw [e] at hr; cases hr
 exact ⟨h.st.1.elim (fun h=>h.2) (fun h=>absurd h.1 hne),hne,h.ro.resolve_right hne⟩
theorem yF {γ:PH} {x:TkU} (hx:UOK qs cs γ x) (hr:jE x.t=true):Ans Tryz.prog (fv 207) [.agg #[.slice pq qs.length kq,.slice pc cs.length kc],.agg #[int x.t.k,int x.t.q.src,int x.t.q.dst,int x.t.q.size,int x.t.q.rdy,int x.t.q.dln,int x.t.q.pri,.bool x.t.q.cus,.slice x.p x.t.hops.length x.c,int x.st,int x.un],int 0] [γ] (fun r=>r=.tuple #[int x.t.q.src,int x.t.q.rdy,.bool true]):=by
 have hbg:=iL hx.hp hx.len
 rw [sR hr] at hbg
 obtain ⟨h1,hne,_⟩:=hx.rest hr
 have hrd:=hx.q.2.2.1.2.2.1
 have hlen:0<x.t.hops.length:=List.length_pos_iff.2 hne
 have hmx:max 0 x.t.q.rdy=x.t.q.rdy:=by omega
 obtain ⟨⟨k,⟨qs1,qd,qz,qr,ql,qp,qc⟩,hops⟩,pp,cc,st,un⟩:=x
 dsimp only at hbg h1 hlen hmx ⊢
 subst h1
 refine A8 Tryz.func207 Tryz.ntmps207 fun N β=>?_
 refine Aa ?_
 refine BV fun b3=>?_
 refine AW (ρ:=sng b3 (.cells #[.slice pq qs.length kq,.slice pc cs.length kc] 25 (0,0))) fL ?_
 refine BV fun b4=>?_
 refine AW (ρ:=sng b4 (.cells #[int k,int qs1,int qd,int qz,int qr,int ql,int qp,.bool qc,.slice pp hops.length cc,int 1,int un] 58 (0,0))) fL ?_
 have bx277_3:=rdB b4 58 [int k,int qs1,int qd,int qz,int qr,int ql,int qp,.bool qc,.slice pp hops.length cc,int 1,int un]
 have c0:=rdC bx277_3 0
 have c1:=rdC bx277_3 1
 have c2:=rdC bx277_3 2
 have c3:=rdC bx277_3 3
 have c4:=rdC bx277_3 4
 have c5:=rdC bx277_3 5
 have c6:=rdC bx277_3 6
 have c7:=rdC bx277_3 7
 have c8:=rdC bx277_3 8
 have c9:=rdC bx277_3 9
 have c10:=rdC bx277_3 10
 have cw:=rdB b4 58 [int k,int qs1,int qd,int qz,int qr,int ql,int qp,.bool qc,.slice pp hops.length cc,int 1,int un]
 refine Ac6 ?_;refine Ad4 ?_;refine A5 hbg ?_;refine Ad1 ?_;refine BN ?_;refine Aal ?_;refine Ab3 ?_;refine B3 ?_;refine Ac4 ?_
 refine A9 P3Z [] rfl (by kernel_rfl) Sel.nil ?_
 refine AR ?_;refine DN ?_;refine AN ?_;refine AP ?_;refine AR ?_;refine Ab1 ?_;refine F6 ?_;refine BP ?_;refine Ac ?_
 focus ((rw [hmx]))
 refine Aag ?_;refine B7 ?_;refine Aai ?_;refine Aaw ?_;refine Ac6 ?_;exact A2 (aPw rfl rfl rfl rfl) fQ fK ⟨rfl,rfl⟩
theorem aHc {γ:PH} {x:TkU} (hx:UOK qs cs γ x) (hr:x.t.hops=[]):Ans Tryz.prog (fv 207) [.agg #[.slice pq qs.length kq,.slice pc cs.length kc],.agg #[int x.t.k,int x.t.q.src,int x.t.q.dst,int x.t.q.size,int x.t.q.rdy,int x.t.q.dln,int x.t.q.pri,.bool x.t.q.cus,.slice x.p x.t.hops.length x.c,int x.st,int x.un],int 0] [γ] (fun r=>r=.tuple #[int 0,int 0,.bool false]):=by
 have hbg:=iL hx.hp hx.len
 have h1:x.st=2:=hx.st.1.elim (fun h=>absurd hr h.1) (fun h=>h.2)
 obtain ⟨⟨k,⟨qs1,qd,qz,qr,ql,qp,qc⟩,hops⟩,pp,cc,st,un⟩:=x
 dsimp only at hbg hr h1 ⊢
 subst hr h1
 refine A8 Tryz.func207 Tryz.ntmps207 fun N β=>?_
 refine Aa ?_
 refine BV fun b3=>?_
 refine AW (ρ:=sng b3 (.cells #[.slice pq qs.length kq,.slice pc cs.length kc] 25 (0,0))) fL ?_
 refine BV fun b4=>?_
 refine AW (ρ:=sng b4 (.cells #[int k,int qs1,int qd,int qz,int qr,int ql,int qp,.bool qc,.slice pp 0 cc,int 2,int un] 58 (0,0))) fL ?_
 have bx360_3:=rdB b4 58 [int k,int qs1,int qd,int qz,int qr,int ql,int qp,.bool qc,.slice pp 0 cc,int 2,int un]
 have c0:=rdC bx360_3 0
 have c1:=rdC bx360_3 1
 have c2:=rdC bx360_3 2
 have c3:=rdC bx360_3 3
 have c4:=rdC bx360_3 4
 have c5:=rdC bx360_3 5
 have c6:=rdC bx360_3 6
 have c7:=rdC bx360_3 7
 have c8:=rdC bx360_3 8
 have c9:=rdC bx360_3 9
 have c10:=rdC bx360_3 10
 have cw:=rdB b4 58 [int k,int qs1,int qd,int qz,int qr,int ql,int qp,.bool qc,.slice pp 0 cc,int 2,int un]
 refine Ac6 ?_;refine Ad4 ?_;refine A5 hbg ?_;refine Ad1 ?_;refine C5 ?_;refine Acg ?_;refine Aci ?_;refine Aa ?_;refine Ac6 ?_;exact A2 (aPw rfl rfl rfl rfl) fQ fK ⟨rfl,rfl⟩
end
end
theorem aWd (x:Hp):∀ u∈gE x,u.oneCell'=true:=by
 intro u hu
 simp only [gE,aE,bD,or_false] at hu
 rcases hu with rfl|rfl|rfl|rfl <;> rfl
theorem aMg (l:List Hp):∀ u∈l.flatMap gE,u.oneCell'=true:=by
 intro u hu
 rw [dB] at hu
 obtain ⟨a,_,hu⟩:=hu
 exact aWd a u hu
theorem aHd (n:Nat) (hn:n<=100000000):jM Tryz.prog (fv 283) [.slice none 0 0,int n] [] (fun r σ=>fS 62 4 r 0 [] σ):=by
 refine A8 Tryz.func283 Tryz.ntmps283 fun N β=>?_
 rcases dC n with h0|h0
 ·subst h0
  refine B9 ?_;refine Ab9 ?_;refine BD ?_;refine Aai ?_;refine Aav ?_;refine F7 ?_;refine AB ?_;refine A6 ?_;refine CC ?_;refine CC ?_;refine Abq ?_;refine B7 ?_;refine Aai ?_;refine Aa5 ?_;exact AV ⟨emp,fS.nil _ _,rfl⟩
 ·have e0:(n:Int)-(((0:Nat):Int)-((0:Nat):Int))=(n:Int):=by omega
  refine Ab9 ?_;refine BD ?_;refine Aai ?_;refine Aav ?_;refine F7 ?_;refine AB ?_;refine A6 ?_;refine CC ?_;refine CC ?_;refine Abq ?_;refine Adt ?_;refine Abu ?_;refine F7 ?_;refine EF ?_;refine AB ?_
  focus ((rw [e0]))
  refine CR (F1 (n:=n) (by_:=32) (s:=4) rfl rfl rfl rfl rfl rfl rfl rfl (by decide) h0 (by simp only [maxLen]; omega) (by omega)) rfl rfl rfl ?_
  rintro _ _ ⟨b,cap,cur,rfl,rfl,h1,h2,h3⟩
  have hcz:=xI b cap 4
  refine CN (D9 rfl) rfl rfl rfl ?_;refine CN (GW rfl rfl) rfl rfl rfl ?_
  refine CN (FB (i:=0) (s:=4) rfl rfl rfl rfl (by omega)) rfl rfl rfl ?_
  rw [hcz];refine Aaa ?_;refine Aa5 ?_;exact AV ⟨_,fS.room h2 h3,rfl⟩
theorem aCt (τ:PH) (Rs:List PH) (v:Value) (vs:List Value) (ls:List (List Hp)) (hv:SlE encW 1 τ v vs) (hlen:vs.length=ls.length) (hall:∀ (i:Nat) (w:Value) (l:List Hp),vs[i]?=some w->ls[i]?=some l->∃ σ∈Rs,SlE gE 4 σ w l) (hk:vs.length<=1000) (ht:tY ls<=1000000) :
  jM Tryz.prog (fv 264) [v] (τ::Rs) (fun r σ=>fS 62 4 r ls.flatten.length (ls.flatten.flatMap gE) σ):=by
 obtain ⟨q,c,rfl,hr⟩:=hv.val aI0
 refine A8 Tryz.func264 Tryz.ntmps264 fun N β=>?_
 refine Aam ?_;refine Adf ?_
 refine BE [0,9,10] (0:Nat) (fun k=>k<=vs.length) (fun k=>[(11,int k),(3,int ((tY (ls.take k):Nat):Int))]) (fun _=>[]) (fun k=>vs.length-k) fT (by omega) ⟨rfl,rfl,trivial⟩ fK ?_
 rintro k hkk
 by_cases hlt:k<vs.length
 ·obtain ⟨w,hw⟩:∃ w,vs[k]?=some w:=⟨_,aA hlt⟩
  obtain ⟨l,hl⟩:∃ l,ls[k]?=some l:=⟨_,aA (by omega)⟩
  obtain ⟨σ,hσ,hS⟩:=hall k w l hw hl
  obtain ⟨p2,c2,rfl,_⟩:=hS.val gJ
  obtain ⟨b1,o1,rfl,hrd⟩:=hr k _ hw
  have g0:rdc τ b1 (o1+k)=some (.slice p2 l.length c2):=by have:=hrd.get0; rwa [fJ] at this
  have hst:=xJ ls k l hl
  have hle:=aFz ls (k+1)
  have hsum:((tY (ls.take k):Nat):Int)+(l.length:Int)=((tY (ls.take (k+1)):Nat):Int):=by omega
  refine Aeo ?_;refine Adz ?_;refine A6 ?_;refine CF ?_;refine Abq ?_;refine BD ?_;refine Ace ?_
  focus ((rw [hsum]))
  exact AZ (k+1) (by omega) (by omega) fP fK
 ·have hkl:k=vs.length:=by omega
  subst hkl
  rw [bV (by omega)]
  refine Abp ?_;refine Aab ?_
  refine B4 (aHd (tY ls) (by omega)) rfl rfl rdZ rfl rfl ?_
  rintro u0 σ0 hO0;refine Abv ?_;refine Abh ?_
  refine BE [25,26] (X:=Nat × (Value × PH)) (0,(u0,σ0)) (fun x=>x.1<=vs.length/\fS 62 4 x.2.1 (ls.take x.1).flatten.length ((ls.take x.1).flatten.flatMap gE) x.2.2) (fun x=>[(27,int x.1),(6,x.2.1)]) (fun x=>[x.2.2]) (fun x=>vs.length-x.1) fT ⟨by dsimp only; omega,by simpa using hO0⟩ fP fK ?_
  rintro ⟨k,⟨u,σ1⟩⟩ ⟨hk2,hO⟩
  dsimp only at hk2 hO ⊢
  by_cases hlt2:k<vs.length
  ·obtain ⟨w,hw⟩:∃ w,vs[k]?=some w:=⟨_,aA hlt2⟩
   obtain ⟨l,hl⟩:∃ l,ls[k]?=some l:=⟨_,aA (by omega)⟩
   obtain ⟨σ,hσ,hS⟩:=hall k w l hw hl
   have hS2:=hS
   obtain ⟨p2,c2,rfl,_⟩:=hS.val gJ
   obtain ⟨b1,o1,rfl,hrd⟩:=hr k _ hw
   have g0:rdc τ b1 (o1+k)=some (.slice p2 l.length c2):=by have:=hrd.get0; rwa [fJ] at this
   have hst:=xJ ls k l hl
   have hle:=aFz ls (k+1)
   have hfl:=aEa (ls.take k)
   refine Aeo ?_;refine Aaa ?_;refine Abu ?_
   refine CR (DS (by_:=32) (s:=4) (σ:=σ) (news:=l.flatMap gE) (m:=l.length) rfl rfl rfl rfl rfl rfl rfl hO fL hS2 (fun b o h=>aFy (bS _ (bS _ hσ)) h) (aMg l) (by simp only [maxLen]; omega) (by omega)) rfl rfl rfl ?_
   rintro u1 _ ⟨σ2,hO2,rfl⟩;refine Aaa ?_;refine Aa3 ?_
   refine AZ (k+1,(u1,σ2)) ⟨by dsimp only; omega,?_⟩ (by dsimp only; omega) fP fK
   dsimp only
   rw [aOs ls k l hl,aB,aX];exact hO2
  ·have hkl:k=vs.length:=by omega
   subst hkl
   rw [bV (by omega)] at hO
   refine Abp ?_;refine Aa5 ?_;exact AV ⟨σ1,hO,rfl⟩
theorem aE0 (ρ:PH) (v:Value) (l:List Hp) (hv:SlE gE 4 ρ v l) (hl:l.length<=1000000) :
  jM Tryz.prog (fv 263) [v] [ρ] (fun r σ=>fS 62 4 r l.length (l.flatMap gE) σ):=by
 have hv2:=hv
 obtain ⟨q,c,rfl,hr⟩:=hv.val gJ
 refine A8 Tryz.func263 Tryz.ntmps263 fun N β=>?_
 cases q with
 | none =>
  have hnil:l=[]:=by
   cases l with
   | nil=>rfl
   | cons a l =>
    obtain ⟨b,o,e,_⟩:=hr 0 a rfl
    simp at e
  subst hnil;refine B9 ?_;refine Ab9 ?_
  focus ((refine' CN _ rfl rfl rfl _; rotate_left; (apply FD; exact rfl; exact rfl; exact rfl)))
  refine Ab6 ?_;exact AV ⟨emp,fS.nil _ _,rfl⟩
 | some ad =>
  refine Ab9 ?_
  focus ((refine' CN _ rfl rfl rfl _; rotate_left; (apply F0; exact rfl; exact rfl; exact rfl)))
  refine Aai ?_;refine Aa ?_
  refine BW fun b=>?_
  refine AB ?_
  refine CR (DS (by_:=32) (s:=4) (σ:=ρ) (news:=l.flatMap gE) (m:=l.length) rfl rfl rfl rfl rfl rfl rfl (fS.empty (b:=b)) fL hv2 (fun b o h=>tQ h gN) (aMg l) (by simp only [maxLen]; omega) (by omega)) rfl rfl rfl ?_
  rintro r1 _ ⟨σ,hO,rfl⟩;refine Aaa ?_;refine A2 (qR rfl rfl) fQ fK ⟨σ,?_,rfl⟩
  simpa using hO
theorem aE1 (ρ:PH) (Rs:List PH) (v fn:Value) (l:List Hp) (p:Hp->Bool) (hv:SlE gE 4 ρ v l) (hl:l.length<=9223372036854775807) (hfn:∀ (i:Nat) (x:Hp),l[i]?=some x->Ans Tryz.prog fn [.agg (gE x).toArray] Rs (fun r=>r=.bool (p x))) :
  Ans Tryz.prog (fv 262) [v,fn] (ρ::Rs) (fun r=>(∃ (i:Nat) (x:Hp),l[i]?=some x/\p x=true/\(∀ (j:Nat) (y:Hp),j<i->l[j]?=some y->p y=false)/\r=int i)\/((∀ x∈l,p x=false)/\r=int (-1))):=by
 obtain ⟨q,c,rfl,hr⟩:=hv.val gJ
 refine A8 Tryz.func262 Tryz.ntmps262 fun N β=>?_
 refine Adf ?_
 refine BE [0,1,7] (0:Nat) (fun k=>k<=l.length/\∀ (i:Nat) (x:Hp),i<k->l[i]?=some x->p x=false) (fun k=>[(8,int k)]) (fun _=>[]) (fun k=>l.length-k) fT ⟨by omega,fun i x h=>by omega⟩ fP fK ?_
 rintro k ⟨hk,hI⟩
 by_cases hlt:k<l.length
 ·have hx:=aA hlt
  obtain ⟨b1,o1,rfl,hrd⟩:=hr k _ hx
  have hrd2:RdN ρ b1 (o1+k*4) (gE l[k]):=hrd
  have hf:=hfn k _ hx
  refine Ae ?_
  refine BT hf rfl rfl (fun τ hτ=>.inl (by simp [hτ])) rfl rfl ?_
  rintro _ rfl
  cases hp:p l[k] with
  | true =>
   refine Acu ?_;exact AV ⟨rfl,.inl ⟨k,l[k],hx,hp,hI,rfl⟩⟩
  | false =>
   refine Ace ?_
   refine AZ (k+1) ⟨by omega,fun i x hi hix=>?_⟩ (by omega) fP fK
   by_cases e:i=k
   ·subst e; rw [hx] at hix; injection hix with hix; rw [← hix]; exact hp
   ·exact hI i x (by omega) hix
 ·refine AC ?_
  refine AA ?_;refine Abi ?_;refine Aam ?_
  refine A2 (qR rfl rfl) fQ fK ⟨rfl,.inr ⟨fun x hx=>?_,rfl⟩⟩
  obtain ⟨i,hi,rfl⟩:=bB hx
  exact hI i _ (by omega) (aA hi)
theorem yG (ρ:PH) (Rs:List PH) (v fn:Value) (l:List Hp) (p:Hp->Bool) (hv:SlE gE 4 ρ v l) (hl:l.length<=9223372036854775807) (hfn:∀ (i:Nat) (x:Hp),l[i]?=some x->Ans Tryz.prog fn [.agg (gE x).toArray] Rs (fun r=>r=.bool (p x))) :
  Ans Tryz.prog (fv 209) [v,fn] (ρ::Rs) (fun r=>r=.bool (l.any p)):=by
 have hix:=aE1 ρ Rs v fn l p hv hl hfn
 obtain ⟨q,c,rfl,hr⟩:=hv.val gJ
 refine A8 Tryz.func209 Tryz.ntmps209 fun N β=>?_
 refine Aea ?_
 refine BT hix rfl rfl (fun τ hτ=>.inl (bS _ hτ)) rfl rfl ?_
 rintro _ (⟨i,x,hi,hp,_,rfl⟩|⟨hall2,rfl⟩)
 ·have hfl:l.any p=true:=eW.2 ⟨x,aF hi,hp⟩
  refine DQ ?_;refine Aaa ?_
  exact AV ⟨rfl,by rw [hfl]⟩
 ·have hfl:l.any p=false:=eP.2 (fun x hx=>by rw [hall2 x hx]; simp)
  refine CP ?_;refine Aaa ?_
  exact AV ⟨rfl,by rw [hfl]⟩
theorem aN3 {α:Type} {enc:α->List Value} {s:Nat} (he:∀ x,(enc x).length=s) {e:TypeId} {b n cap:Nat} {l:List α} {ρ:PH} (h:fS e s (.slice (some ⟨b,0,none⟩) n cap) l.length (l.flatMap enc) ρ) {i:Nat} {x:α} (hx:l[i]?=some x):RdN ρ b (0+i*s) (enc x):=by
 have hS:SlE enc s ρ (.slice (some ⟨b,0,none⟩) n cap) l:=h.at
 obtain ⟨p,c,e1,hr⟩:=hS.val he
 simp only [aN] at e1
 obtain ⟨b',o',e2,h2⟩:=hr i x hx
 rw [← e1.1] at e2;simp only [aD,eI,and_true] at e2
 obtain ⟨rfl,rfl⟩:=e2
 exact h2
theorem aCu (ρ:PH) (v:Value) (l:List Bk) (hv:SlE gX 4 ρ v l) (hl:l.length<=1000000) (fn:Value) (p:Bk->Bool) (Rr:List PH) (hf:∀ x:Bk,Ans Tryz.prog fn [.agg #[int x.c,int x.a,int x.b,int x.k]] Rr (fun r=>r=.bool (p x))) :
  Ans Tryz.prog (fv 105) [v,fn] (ρ::Rr) (fun r=>(∃ k:Nat,r=int k/\k<l.length/\(∀ x∈l.take k,p x=false)/\∀ x,l[k]?=some x->p x=true)\/(r=int (-1)/\∀ x∈l,p x=false)):=by
 obtain ⟨q,c,rfl,hr⟩:=hv.val gF
 refine A8 Tryz.func105 Tryz.ntmps105 fun N β=>?_
 refine Adf ?_
 refine BE [0,1,6,7] (0:Nat) (fun k=>k<=l.length/\∀ x∈l.take k,p x=false) (fun k=>[(8,int k)]) (fun _=>[]) (fun k=>l.length-k) fT ⟨by omega,by simp⟩ fP fK ?_
 rintro k ⟨hk,hp⟩
 by_cases hlt:k<l.length
 ·have hx:=aA hlt
  have t1:=aV hlt
  obtain ⟨b7,o7,rfl,hrd,g0,g1,g2,g3⟩:=aNd hr hx
  have hfx:=hf l[k]
  have hpx:∀ x,l[k]?=some x->x=l[k]:=fun x h=>by rw [hx] at h; simpa using h.symm
  generalize l[k]=x at hx t1 hrd g0 g1 g2 g3 hfx hpx
  clear g0 g1 g2 g3
  cases hpp:p x with
  | true =>
   rw [hpp] at hfx;refine Ae ?_
   refine BT hfx rfl rfl (fun τ hτ=>.inl (by simp [hτ])) rfl rfl ?_
   rintro _ rfl;refine Acu ?_
   exact AV ⟨rfl,.inl ⟨k,rfl,hlt,hp,fun y hy=>by rw [hpx y hy]; exact hpp⟩⟩
  | false =>
   rw [hpp] at hfx;refine Ae ?_
   refine BT hfx rfl rfl (fun τ hτ=>.inl (by simp [hτ])) rfl rfl ?_
   rintro _ rfl;refine Ace ?_
   refine AZ (k+1) ⟨by omega,fun y hy=>?_⟩ (by omega) fP fK
   rw [t1,aM,bI] at hy
   rcases hy with hy|rfl
   ·exact hp y hy
   ·exact hpp
 ·have hke:k=l.length:=by omega
  subst hke;rw [bJ] at hp;refine Aep ?_;exact AV ⟨rfl,.inr ⟨rfl,hp⟩⟩
theorem aHe {e:TypeId} {s b n cap i:Nat} {xs:List Value} {ρ:PH} (h:fS e s (.slice (some ⟨b,0,none⟩) n cap) n xs ρ) (hi:i<=n):fS e s (.slice (some ⟨b,0,none⟩) i cap) i (xs.take (i*s)) ρ:=by
 have hxl:xs.length=n*s:=h.1
 have hle:i*s<=n*s:=dG s hi
 obtain ⟨cur,rfl,h1,h2,h3,h4⟩:=h.cells_at
 refine ⟨by rw [aL]; omega,.inr ⟨b,cap,cur,rfl,rfl,by omega,h2,h3,?_⟩⟩
 rw [← h4,List.take_take,dU hle]
theorem qX (p:Bk->Bool) {l:List Bk} {k:Nat} {x:Bk} (h:l[k]?=some x):(l.take (k+1)).filter (fun y=>!p y)=(l.take k).filter (fun y=>!p y) ++ (if p x=true then [] else [x]):=by
 obtain ⟨hk,rfl⟩:=aC.1 h
 rw [aV hk,dW]
 congr 1
 cases hp:p l[k] <;> simp [hp]
structure yH (p:Bk->Bool) (l:List Bk) (i j:Nat) (m:List Bk):Prop where
 a:i<j
 b:j<=l.length
 c:m.length=l.length
 d:m.take i=(l.take j).filter (fun y=>!p y)
 e:∀ k,j<=k->m[k]?=l[k]?
theorem yH.skip {p:Bk->Bool} {l m:List Bk} {i j:Nat} (h:yH p l i j m) {x:Bk} (hx:m[j]?=some x) (hp:p x=true) (hj:j<l.length):yH p l i (j+1) m:=by
 refine ⟨by have:=h.a; omega,hj,h.c,?_,fun k hk=>h.e k (by omega)⟩
 rw [h.e j (aK _)] at hx;rw [qX p hx,if_pos hp,bX,h.d]
theorem yH.keep {p:Bk->Bool} {l m:List Bk} {i j:Nat} (h:yH p l i j m) {x:Bk} (hx:m[j]?=some x) (hp:p x=false) (hj:j<l.length):yH p l (i+1) (j+1) (m.set i x):=by
 have ha:=h.a
 have hc:=h.c
 refine ⟨by omega,hj,by rw [cQ,hc],?_,fun k hk=>?_⟩
 ·rw [h.e j (aK _)] at hx
  rw [qX p hx,if_neg (by rw [hp]; simp),← h.d,aV (by rw [cQ]; omega),List.getElem_set_self]
  congr 1
  rw [List.take_set_of_le (aK _)]
 ·rw [eQ (by omega)]
  exact h.e k (by omega)
theorem qY (σ:PH) (v:Value) (l:List Bk) (hO:fS 118 4 v l.length (l.flatMap gX) σ) (hl:l.length<=1000000) (fn:Value) (p:Bk->Bool) (Rr:List PH) (hf:∀ x:Bk,Ans Tryz.prog fn [.agg #[int x.c,int x.a,int x.b,int x.k]] Rr (fun r=>r=.bool (p x))) :
  Eng.Spec Tryz.prog (fv 87) [v,fn] Rr [σ] (fun r H'=>∃ σ',fS 118 4 r (l.filter (fun y=>!p y)).length ((l.filter (fun y=>!p y)).flatMap gX) σ'/\H'=[σ']):=by
 have hat:SlE gX 4 σ v l:=hO.at
 obtain ⟨q,c,rfl,_⟩:=hat.val gF
 have hidx:=aCu σ _ l hat hl fn p Rr hf
 refine A8 Tryz.func87 Tryz.ntmps87 fun N β=>?_
 refine Aea ?_
 refine BT hidx rfl rfl (fun τ hτ=>by rcases aE.1 hτ with rfl|h2; exact .inr (by simp); exact .inl (by simp [h2])) rfl rfl ?_
 rintro _ (⟨k,rfl,hk,hp0,hp1⟩|⟨rfl,hp0⟩)
 rotate_left
 ·refine AD ?_
  refine AE ?_;refine Aag ?_;refine CJ ?_;refine Acu ?_;refine A2 (qR rfl rfl) fQ fK ⟨σ,?_,rfl⟩
  rw [eH.2 (fun x hx=>by rw [hp0 x hx]; rfl)]
  exact hO
 have hx0:=aA hk
 have hI0:yH p l k (k+1) l:=by
  refine ⟨by omega,by omega,rfl,?_,fun _ _=>rfl⟩
  rw [qX p hx0,if_pos (hp1 _ hx0),bX,eH.2 (fun x hx=>by rw [hp0 x hx]; rfl)]
 rcases hO.block with ⟨_,h2,_⟩|⟨b,cap,cur,e,_,hcap,_⟩
 ·rw [h2] at hk; simp at hk
 simp only [aN] at e
 obtain ⟨rfl,_,rfl⟩:=e
 clear hidx hp0 hp1 hx0 hat;refine Abv ?_;refine Acy ?_;refine Aag ?_;refine Abz ?_;refine AM ?_
 refine BE [0,1] (X:=(Nat × Nat) × (List Bk × PH)) ((k,k+1),(l,σ)) (fun x=>yH p l x.1.1 x.1.2 x.2.1/\fS 118 4 (.slice (some ⟨b,0,none⟩) l.length c) l.length (x.2.1.flatMap gX) x.2.2) (fun x=>[(5,int x.1.1),(6,int x.1.2)]) (fun x=>[x.2.2]) (fun x=>l.length-x.1.2) fT ⟨hI0,hO⟩ fP fK ?_
 rintro ⟨⟨i,j⟩,⟨m,σ1⟩⟩ ⟨hI,hO1⟩
 dsimp only at hI hO1 ⊢
 have ha:=hI.a
 have hb:=hI.b
 have hcl:=hI.c
 by_cases hlt:j<l.length
 ·have hx:=aA (show j<m.length by omega)
  have hO2:fS 118 4 (.slice (some ⟨b,0,none⟩) m.length c) m.length (m.flatMap gX) σ1:=by rw [hcl]; exact hO1
  have r1:=aN3 gF hO2 hx
  have hfx:=hf m[j]
  generalize m[j]=x at hx r1 hfx
  cases hpp:p x with
  | true =>
   rw [hpp] at hfx
   have hI2:=hI.skip hx hpp hlt
   refine Ad7 ?_;refine Acp ?_;refine Aaw ?_;refine Aa9 ?_
   refine A3 fun b=>?_
   refine Aa6 ?_;refine Aab ?_;refine AI ?_
   refine BT hfx rfl rfl (fun τ hτ=>.inl (by simp [hτ])) rfl rfl ?_
   rintro _ rfl;refine Acn ?_;refine Ack ?_
   exact AZ ((i,j+1),(m,σ1)) ⟨hI2,hO1⟩ (by dsimp only; omega) fP fK
  | false =>
   rw [hpp] at hfx
   have hI2:=hI.keep hx hpp hlt
   refine Ad7 ?_;refine Acp ?_;refine Aaw ?_;refine Aa9 ?_
   refine A3 fun b=>?_
   refine Aa6 ?_;refine Aab ?_;refine AI ?_
   refine BT hfx rfl rfl (fun τ hτ=>.inl (by simp [hτ])) rfl rfl ?_
   rintro _ rfl;refine Aei ?_;refine Aaw ?_;refine AI ?_;refine BL ?_
   refine CY (DU gF (a:=x) i hO2 rfl (bZ _) rfl (by unfold gX; exact iF) rfl fL (by omega)) rfl rfl ?_
   rintro _ _ ⟨rfl,σ2,hO3,rfl⟩;refine AE ?_;refine AA ?_;refine Ab8 ?_;refine Ack ?_
   refine AZ ((i+1,j+1),(m.set i x,σ2)) ⟨hI2,?_⟩ (by dsimp only; omega) fP fK
   dsimp only
   rw [cQ,hcl] at hO3;exact hO3
 ·have hje:j=l.length:=by omega
  have hd:=hI.d
  rw [hje,bJ] at hd
  have hlen:(l.filter (fun y=>!p y)).length=i:=by rw [← hd,aL]; omega
  have hO4:=aHe hO1 (i:=i) (by omega)
  refine Ad7 ?_;refine Ab5 ?_;refine Aaw ?_;refine FP ?_
  refine CY (FQ (by_:=32) (s:=4) (n:=i) rfl rfl rfl rfl rfl rfl (by intro u hu; have hu2:u∈[int 0,int 0,int 0,int 0]:=hu; simp at hu2; rw [hu2]; rfl) hO4 fL (by omega) (by omega)) rfl rfl ?_
  rintro _ _ ⟨rfl,σ2,hO5,rfl⟩;refine AE ?_;refine Aaw ?_;refine EF ?_;refine Aaa ?_;refine A2 (qR rfl rfl) fQ fK ⟨σ2,?_,rfl⟩;rw [hlen,← hd,sI gF];simp only [xI];exact hO5
theorem aKk {α:Type} {l:List α} {i:Nat} (h:i<l.length):l.take (i+1)=l.take i ++ [l[i]]:=aV h
theorem zJ (σ:PH) (u:Value) (l:List Int) (x:Int) (hu:gC σ u l) (hl:l.length<=1000000) :
  Ans Tryz.prog (fv 158) [u,int x] [σ] (fun r=>∃ k:Int,r=int k/\(0<=k↔x∈l)):=by
 obtain ⟨q,c,rfl,hr⟩:=hu.val Eng.encI_len
 refine A8 Tryz.func158 Tryz.ntmps158 fun N β=>?_
 refine Adf ?_
 refine BE [0,1,7] (0:Nat) (fun k=>k<=l.length/\x∉l.take k) (fun k=>[(8,int k)]) (fun _=>[]) (fun k=>l.length-k) fT ⟨by omega,by simp⟩ fP fK ?_
 rintro k ⟨hk,hn⟩
 by_cases hlt:k<l.length
 ·obtain ⟨b,o,rfl,g1⟩:=hr.int (aA hlt)
  by_cases he:x=l[k]
  ·refine AC ?_
   refine AA ?_;refine Aa4 ?_;refine Aa5 ?_;refine Acs ?_;refine Ac9 ?_;refine CJ ?_;refine Acu ?_;refine A2 (qR rfl rfl) fQ fK ⟨rfl,(k:Int),rfl,?_⟩
   exact ⟨fun _=>by rw [he]; exact cP hlt,fun _=>by omega⟩
  ·refine AC ?_
   refine AA ?_;refine Aa4 ?_;refine Aa5 ?_;refine Acs ?_;refine Ac9 ?_;refine B3 ?_;refine Ace ?_
   refine AZ (k+1) ⟨by omega,?_⟩ (by omega) fP fK
   rw [aKk hlt,aM,bI];rintro (h|h)
   ·exact hn h
   ·exact he h
 ·refine AC ?_
  refine AA ?_;refine Abi ?_;refine Aam ?_;refine A2 (qR rfl rfl) fQ fK ⟨rfl,-1,rfl,?_⟩
  rw [bV (by omega)] at hn
  exact ⟨fun h=>by omega,fun h=>absurd h hn⟩
theorem nV (σ:PH) (u:Value) (l:List Int) (x:Int) (hu:gC σ u l) (hl:l.length<=1000000) :
  Ans Tryz.prog (fv 89) [u,int x] [σ] (fun r=>r=.bool (decide (x∈l))):=by
 refine A8 Tryz.func89 Tryz.ntmps89 fun N β=>?_
 refine Aea ?_;refine BT (zJ σ u l x hu hl) rfl rfl rdZ rfl rfl ?_;rintro _ ⟨k,rfl,hk⟩
 by_cases hm:x∈l
 ·have:=hk.2 hm
  refine DQ ?_;refine Aaa ?_
  exact AV ⟨rfl,by rw [decide_eq_true hm]⟩
 ·have:k<0:=by
   apply Classical.byContradiction
   intro h
   exact hm (hk.1 (by omega))
  refine CP ?_;refine Aaa ?_
  exact AV ⟨rfl,by rw [decide_eq_false hm]⟩
theorem aKl (ba:Nat) (a b:Hp):Ans Tryz.prog (.func (.func 211) #[] #[.pointer (some ⟨ba,0,none⟩)]) [.agg #[int b.c,int b.b,int b.e,int b.a]] [sng ba (.cells #[int a.c,int a.b,int a.e,int a.a] 62 (0,0))] (fun r=>r=.bool (zH a b)):=by
 have bx12_3:=rdB ba 62 [int a.c,int a.b,int a.e,int a.a]
 have ca0:=rdC bx12_3 0
 have ca1:=rdC bx12_3 1
 have ca2:=rdC bx12_3 2
 have ca3:=rdC bx12_3 3
 refine CU [.pointer (some ⟨ba,0,none⟩)] Tryz.func211 Tryz.ntmps211 fun N β=>?_
 refine Aa ?_
 refine BV fun b2=>?_
 refine AW (ρ:=sng b2 (.cells #[int b.c,int b.b,int b.e,int b.a] 62 (0,0))) fL ?_
 have bx21_3:=rdB b2 62 [int b.c,int b.b,int b.e,int b.a]
 have cb0:=rdC bx21_3 0
 have cb1:=rdC bx21_3 1
 have cb2:=rdC bx21_3 2
 have cb3:=rdC bx21_3 3
 unfold zH
 by_cases h1:a.c=b.c
 ·by_cases h2:a.b<b.e
  ·by_cases h3:b.b<a.e
   ·rw [decide_eq_true (p:=a.c=b.c/\a.b<b.e/\b.b<a.e) ⟨h1,h2,h3⟩]
    refine Aed ?_;refine BM ?_;refine Aek ?_;refine BM ?_;refine Ac0 ?_;exact AV ⟨rfl,rfl⟩
   ·rw [decide_eq_false (p:=a.c=b.c/\a.b<b.e/\b.b<a.e) (fun h=>h3 h.2.2)]
    refine Aed ?_;refine BM ?_;refine Aek ?_;refine BD ?_;refine Ac0 ?_;exact AV ⟨rfl,rfl⟩
  ·rw [decide_eq_false (p:=a.c=b.c/\a.b<b.e/\b.b<a.e) (fun h=>h2 h.2.1)]
   refine Aed ?_;refine BD ?_;refine AY ?_;refine Aes ?_;exact AV ⟨rfl,rfl⟩
 ·rw [decide_eq_false (p:=a.c=b.c/\a.b<b.e/\b.b<a.e) (fun h=>h1 h.1)]
  refine Ac8 ?_;refine B3 ?_;refine Acg ?_;refine AT ?_;refine Aes ?_;exact AV ⟨rfl,rfl⟩
theorem aKm (bh:Nat) {lam:PH} {v:Value} {l:List Hp} (hv:SlE gE 4 lam v l) (hl:l.length<=1000) (a:Hp):Ans Tryz.prog (.func (.func 210) #[] #[.pointer (some ⟨bh,0,none⟩)]) [.agg #[int a.c,int a.b,int a.e,int a.a]] [sng bh (.cells #[v] 56 (0,0)),lam] (fun r=>r=.bool (l.any (zH a))):=by
 have ch:rdc (sng bh (.cells #[v] 56 (0,0))) bh 0=some v:=by rw [kE]; rfl
 refine CU [.pointer (some ⟨bh,0,none⟩)] Tryz.func210 Tryz.ntmps210 fun N β=>?_
 refine Aa ?_
 refine BV fun b2=>?_
 refine AW (ρ:=sng b2 (.cells #[int a.c,int a.b,int a.e,int a.a] 62 (0,0))) fL ?_
 have hco:=yG lam [sng b2 (.cells #[int a.c,int a.b,int a.e,int a.a] 62 (0,0))] v _ l (zH a) hv (by omega) (fun i x _=>aKl b2 a x)
 refine Aaa ?_;refine Abb ?_;refine BR ?_;refine A5 hco ?_;refine Aaa ?_;exact AV ⟨rfl,rfl⟩
end Go.Proofs.YtnijkofdlepfjaaGreat
namespace Go.Step
theorem wS {qs:List Int} {cs:List Ct} {q:Rq} (hp:gD qs cs=0) (hq:1<=q.size/\q.size<=65536):∀ {l:List Hp} {n t:Int},qN cs q n t l->0<=t->∀ h∈l,∃ (k:Nat) (c:Ct),cs[k]?=some c/\h.c=k/\t<=h.b/\h.b<h.e/\h.e<h.a/\0<=h.e/\h.e<=1099511627776
  | [],_,_,_,_,h,hh=>by cases hh
  | a::l,n,t,⟨⟨k,c,h1,h2,h3,h4,h5,h6,h7,h8,h9⟩,hc⟩,ht,h,hh=>by
    have hck:=(chkPl_ct hp (aF h1))
    have hd:=nB (s:=q.size) hck.1 hq
    have hg:=mA hck.1
    rcases aE.1 hh with rfl|hh
    · exact ⟨k,c,h1,h2,h5,by omega,by omega,by omega,by omega⟩
    · obtain ⟨k2,c2,e1,e2,e3,e4⟩:=wS hp hq hc (by omega) h hh
      exact ⟨k2,c2,e1,e2,by omega,e4⟩
theorem aE2 {qs:List Int} {cs:List Ct} {q:Rq} {l:List Hp} (hp:gD qs cs=0) (hq:nF qs.length q) (hr:rT cs q l):∀ h∈l,∃ (k:Nat) (c:Ct),cs[k]?=some c/\h.c=k/\q.rdy<=h.b/\0<=h.b/\h.b<h.e/\h.e<h.a/\0<=h.e/\h.e<=1099511627776:=fun h hh=>by
  have h0:=hq.2.2.1.2.2.1
  obtain ⟨k,c,e1,e2,e3,e4⟩:=wS hp ⟨hq.2.2.1.1,hq.2.2.1.2.1⟩ hr.ch h0 h hh
  exact ⟨k,c,e1,e2,e3,by omega,e4⟩
theorem aAo {x:Tk} (hne:x.hops≠[]) (h:jE x=false):0<mQ x.hops:=by
  obtain ⟨k,q,l⟩:=x
  cases l with
  | nil=>exact absurd rfl hne
  | cons a l =>
    have h1:¬ 0<a.b:=by simpa [jE] using h
    unfold mQ
    rw [List.takeWhile_cons,if_pos (by simp only [decide_eq_true_eq]; omega)]
    simp
theorem aHf {qs:List Int} {cs:List Ct} {x:Tk} (hp:gD qs cs=0) (hq:nF qs.length x.q) (hr:rT cs x.q x.hops) (h:jE x=true):∀ b∈aCf x,0<b.a:=fun b hb=>by
  obtain ⟨k,q,l⟩:=x
  dsimp only at hq hr
  obtain ⟨p,hp1,rfl⟩:=bE.1 hb
  show 0<p.b
  have hp1:p∈l:=hp1
  cases l with
  | nil=>cases hp1
  | cons a l =>
    have h1:0<a.b:=by simpa [jE] using h
    rcases aE.1 hp1 with rfl|h2
    · exact h1
    · have hc:=hr.ch
      obtain ⟨⟨k,c,e1,e2,e3,e4,e5,e6,e7,e8,e9⟩,hc⟩:=hc
      have hck:=(chkPl_ct hp (aF e1))
      have hd:=nB (s:=q.size) hck.1 ⟨hq.2.2.1.1,hq.2.2.1.2.1⟩
      have hg:=mA hck.1
      obtain ⟨_,_,_,_,f1,_⟩:=wS hp ⟨hq.2.2.1.1,hq.2.2.1.2.1⟩ hc (by omega) p h2
      omega
end Go.Step
namespace Go.Proofs.YtnijkofdlepfjaaGreat
open Go.Eng Go.Step
set_option maxRecDepth 100000
set_option maxHeartbeats 64000000
section
section
variable {ρ τ:PH} {pq pc pt:Option Addr} {kq kc kt:Nat} {qs:List Int} {cs:List Ct}
theorem aHg {γ:PH} (hq:gC ρ (.slice pq qs.length kq) qs) (hc:jW τ (.slice pc cs.length kc) cs) (hcap:cs.length<=kc) (lq:qs.length<=9223372036854775807) (lc:cs.length<=9223372036854775807) (hp:gD qs cs=0) {x:TkU} (hx:UOK qs cs γ x) (hne:x.t.hops≠[]) (hr:jE x.t=false) (hl:mQ x.t.hops=x.t.hops.length):Ans Tryz.prog (fv 207) [.agg #[.slice pq qs.length kq,.slice pc cs.length kc],.agg #[int x.t.k,int x.t.q.src,int x.t.q.dst,int x.t.q.size,int x.t.q.rdy,int x.t.q.dln,int x.t.q.pri,.bool x.t.q.cus,.slice x.p x.t.hops.length x.c,int x.st,int x.un],int 0] [ρ,τ,γ] (fun r=>∃ (a b:Int) (c:Bool),r=.tuple #[int a,int b,.bool c]):=by
 have hbg:=iL hx.hp hx.len
 have hpos:=aAo hne hr
 have hle:=aAg x.t.hops
 have hll:=hx.len
 have h1:x.st=1:=hx.st.1.elim (fun h=>h.2) (fun h=>absurd h.1 hne)
 have hro:=aE2 hp hx.q (hx.ro.resolve_right hne)
 have hxp:=hx.hp
 obtain ⟨⟨k,⟨qs1,qd,qz,qr,ql,qp,qc⟩,hops⟩,pp,cc,st,un⟩:=x
 dsimp only at hl hbg h1 hpos hle hll hro hxp ⊢
 subst h1;rw [hl] at hbg
 refine A8 Tryz.func207 Tryz.ntmps207 fun N β=>?_
 refine Aa ?_
 refine BV fun b3=>?_
 refine AW (ρ:=sng b3 (.cells #[.slice pq qs.length kq,.slice pc cs.length kc] 25 (0,0))) fL ?_
 refine BV fun b4=>?_
 refine AW (ρ:=sng b4 (.cells #[int k,int qs1,int qd,int qz,int qr,int ql,int qp,.bool qc,.slice pp hops.length cc,int 1,int un] 58 (0,0))) fL ?_
 have bx35_3:=rdB b4 58 [int k,int qs1,int qd,int qz,int qr,int ql,int qp,.bool qc,.slice pp hops.length cc,int 1,int un]
 have c0:=rdC bx35_3 0
 have c1:=rdC bx35_3 1
 have c2:=rdC bx35_3 2
 have c3:=rdC bx35_3 3
 have c4:=rdC bx35_3 4
 have c5:=rdC bx35_3 5
 have c6:=rdC bx35_3 6
 have c7:=rdC bx35_3 7
 have c8:=rdC bx35_3 8
 have c9:=rdC bx35_3 9
 have c10:=rdC bx35_3 10
 have cw:=rdB b4 58 [int k,int qs1,int qd,int qz,int qr,int ql,int qp,.bool qc,.slice pp hops.length cc,int 1,int un]
 refine Ac6 ?_;refine Ad4 ?_;refine A5 hbg ?_;refine Ad1 ?_;refine BN ?_;refine Aal ?_;refine Ab3 ?_;refine CJ ?_;refine AT ?_;refine Aah ?_;refine Aa ?_;refine Ac6 ?_;exact A2 (aPw rfl rfl rfl rfl) fQ fK ⟨rfl,_,_,_,rfl⟩
theorem aHh {γ:PH} (hq:gC ρ (.slice pq qs.length kq) qs) (hc:jW τ (.slice pc cs.length kc) cs) (hcap:cs.length<=kc) (lq:qs.length<=9223372036854775807) (lc:cs.length<=9223372036854775807) (hp:gD qs cs=0) {x:TkU} (hx:UOK qs cs γ x) (hne:x.t.hops≠[]) (hr:jE x.t=false) (hl:¬ mQ x.t.hops=x.t.hops.length):Ans Tryz.prog (fv 207) [.agg #[.slice pq qs.length kq,.slice pc cs.length kc],.agg #[int x.t.k,int x.t.q.src,int x.t.q.dst,int x.t.q.size,int x.t.q.rdy,int x.t.q.dln,int x.t.q.pri,.bool x.t.q.cus,.slice x.p x.t.hops.length x.c,int x.st,int x.un],int 0] [ρ,τ,γ] (fun r=>∃ (a b:Int) (c:Bool),r=.tuple #[int a,int b,.bool c]):=by
 have hbg:=iL hx.hp hx.len
 have hpos:=aAo hne hr
 have hle:=aAg x.t.hops
 have hll:=hx.len
 have h1:x.st=1:=hx.st.1.elim (fun h=>h.2) (fun h=>absurd h.1 hne)
 have hro:=aE2 hp hx.q (hx.ro.resolve_right hne)
 have hxp:=hx.hp
 obtain ⟨⟨k,⟨qs1,qd,qz,qr,ql,qp,qc⟩,hops⟩,pp,cc,st,un⟩:=x
 dsimp only at hl hbg h1 hpos hle hll hro hxp ⊢
 subst h1
 obtain ⟨m,hm⟩:∃ m,mQ hops=m+1:=⟨mQ hops-1,by omega⟩
 rw [hm] at hbg hl hle
 have hy:=aA (show m<hops.length by omega)
 obtain ⟨kc1,c,e1,e2,_⟩:=hro _ (aF hy)
 obtain ⟨_,_,e,hrh⟩:=SlE.val gJ hxp
 simp only [aN] at e
 obtain ⟨rfl,_,rfl⟩:=e
 obtain ⟨_,_,e,hrc⟩:=hc.val iU
 simp only [aN] at e
 obtain ⟨rfl,_,rfl⟩:=e
 obtain ⟨bl,ol,rfl,hrd⟩:=hrh _ _ hy
 obtain ⟨bq,oq,rfl,hrq⟩:=oC hrc e1
 have hil:=(aC.1 e1).1
 have q1:rdc τ bq (oq+kc1*7+1)=some (int c.t):=hrq.get (j:=1) rfl
 generalize hops[m]=y at hy hrd e2
 obtain ⟨yc,yb,ye,ya⟩:=y
 dsimp only at e2
 subst e2
 have hrd:RdN γ bl (ol+m*4) [int (kc1:Int),int yb,int ye,int ya]:=hrd
 have em:(((m+1:Nat):Int))-1=(m:Int):=by omega
 refine A8 Tryz.func207 Tryz.ntmps207 fun N β=>?_
 refine Aa ?_
 refine BV fun b3=>?_
 refine AW (ρ:=sng b3 (.cells #[.slice pq qs.length kq,.slice (some ⟨bq,oq,none⟩) cs.length kc] 25 (0,0))) fL ?_
 have bx116_3:=rdB b3 25 [.slice pq qs.length kq,.slice (some ⟨bq,oq,none⟩) cs.length kc]
 have cp0:=rdC bx116_3 0
 have cp1:=rdC bx116_3 1
 refine BV fun b4=>?_
 refine AW (ρ:=sng b4 (.cells #[int k,int qs1,int qd,int qz,int qr,int ql,int qp,.bool qc,.slice (some ⟨bl,ol,none⟩) hops.length cc,int 1,int un] 58 (0,0))) fL ?_
 have bx120_3:=rdB b4 58 [int k,int qs1,int qd,int qz,int qr,int ql,int qp,.bool qc,.slice (some ⟨bl,ol,none⟩) hops.length cc,int 1,int un]
 have c0:=rdC bx120_3 0
 have c1:=rdC bx120_3 1
 have c2:=rdC bx120_3 2
 have c3:=rdC bx120_3 3
 have c4:=rdC bx120_3 4
 have c5:=rdC bx120_3 5
 have c6:=rdC bx120_3 6
 have c7:=rdC bx120_3 7
 have c8:=rdC bx120_3 8
 have c9:=rdC bx120_3 9
 have c10:=rdC bx120_3 10
 have cw:=rdB b4 58 [int k,int qs1,int qd,int qz,int qr,int ql,int qp,.bool qc,.slice (some ⟨bl,ol,none⟩) hops.length cc,int 1,int un]
 refine Ac6 ?_;refine Ad4 ?_;refine A5 hbg ?_;refine Ad1 ?_;refine BN ?_;refine Aal ?_;refine Ab3 ?_;refine B3 ?_;refine Ac4 ?_
 refine A9 P3Z [] rfl (by kernel_rfl) Sel.nil ?_
 refine AR ?_;refine DN ?_;refine AN ?_;refine AP ?_;refine AR ?_;refine Ab1 ?_;refine F6 ?_;refine BP ?_;refine Ac ?_;refine Aag ?_;refine Adt ?_;refine Acm ?_;refine B6 ?_;refine Aa9 ?_
 refine A3 fun b=>?_
 refine Aa6 ?_
 refine A9 (.q 0 (.q 1 (.q 2 (.q 3 (.q 4 (.q 5 (.q 6 (.q 7 (.q 8 (.q 9 (.q 10 (.q 11 (.l 12 .b .nil))))))))))))) [] rfl (by kernel_rfl) Sel.nil ?_
 refine Abj ?_;refine Ael ?_;refine AP ?_;refine Aaj ?_;refine F6 ?_;refine BP ?_;refine F2 ?_;refine BC ?_;refine Aaw ?_;refine Ac6 ?_;exact A2 (aPw rfl rfl rfl rfl) fQ fK ⟨rfl,_,_,_,rfl⟩
theorem aHi {γ:PH} (hq:gC ρ (.slice pq qs.length kq) qs) (hc:jW τ (.slice pc cs.length kc) cs) (hcap:cs.length<=kc) (lq:qs.length<=9223372036854775807) (lc:cs.length<=9223372036854775807) (hp:gD qs cs=0) {x:TkU} (hx:UOK qs cs γ x) (hne:x.t.hops≠[]) (hr:jE x.t=false):Ans Tryz.prog (fv 207) [.agg #[.slice pq qs.length kq,.slice pc cs.length kc],.agg #[int x.t.k,int x.t.q.src,int x.t.q.dst,int x.t.q.size,int x.t.q.rdy,int x.t.q.dln,int x.t.q.pri,.bool x.t.q.cus,.slice x.p x.t.hops.length x.c,int x.st,int x.un],int 0] [ρ,τ,γ] (fun r=>∃ (a b:Int) (c:Bool),r=.tuple #[int a,int b,.bool c]):=by
 by_cases hl:mQ x.t.hops=x.t.hops.length
 ·exact aHg hq hc hcap lq lc hp hx hne hr hl
 ·exact aHh hq hc hcap lq lc hp hx hne hr hl
theorem aE3 {γ:PH} {x:TkU} (hx:UOK qs cs γ x) (hr:x.t.hops=[]):Ans Tryz.prog (fv 157) [.agg #[.slice pq qs.length kq,.slice pc cs.length kc],.agg #[int x.t.k,int x.t.q.src,int x.t.q.dst,int x.t.q.size,int x.t.q.rdy,int x.t.q.dln,int x.t.q.pri,.bool x.t.q.cus,.slice x.p x.t.hops.length x.c,int x.st,int x.un],int 0] [γ] (fun r=>r=.bool false):=by
 have hps:=aHc (pq:=pq) (pc:=pc) (kq:=kq) (kc:=kc) hx hr
 obtain ⟨⟨k,⟨qs1,qd,qz,qr,ql,qp,qc⟩,hops⟩,pp,cc,st,un⟩:=x
 dsimp only at hps ⊢
 refine A8 Tryz.func157 Tryz.ntmps157 fun N β=>?_
 refine Aa ?_
 refine BV fun b3=>?_
 refine AW (ρ:=sng b3 (.cells #[.slice pq qs.length kq,.slice pc cs.length kc] 25 (0,0))) fL ?_
 refine BV fun b4=>?_
 refine AW (ρ:=sng b4 (.cells #[int k,int qs1,int qd,int qz,int qr,int ql,int qp,.bool qc,.slice pp hops.length cc,int st,int un] 58 (0,0))) fL ?_
 have cw3:=rdB b3 25 [.slice pq qs.length kq,.slice pc cs.length kc]
 have cw:=rdB b4 58 [int k,int qs1,int qd,int qz,int qr,int ql,int qp,.bool qc,.slice pp hops.length cc,int st,int un]
 refine Aba ?_;refine Abs ?_;refine AB ?_;refine A5 hps ?_;refine Aem ?_;refine Ac6 ?_;refine Aab ?_;refine BX ?_;refine Ab6 ?_;exact AV ⟨rfl,rfl⟩
theorem aE4 {γ:PH} {x:TkU} (hx:UOK qs cs γ x) (hr:jE x.t=true):Ans Tryz.prog (fv 157) [.agg #[.slice pq qs.length kq,.slice pc cs.length kc],.agg #[int x.t.k,int x.t.q.src,int x.t.q.dst,int x.t.q.size,int x.t.q.rdy,int x.t.q.dln,int x.t.q.pri,.bool x.t.q.cus,.slice x.p x.t.hops.length x.c,int x.st,int x.un],int 0] [γ] (fun r=>r=.bool true):=by
 have hps:=yF (pq:=pq) (pc:=pc) (kq:=kq) (kc:=kc) hx hr
 have hbg:=iL hx.hp hx.len
 rw [sR hr] at hbg
 obtain ⟨⟨k,⟨qs1,qd,qz,qr,ql,qp,qc⟩,hops⟩,pp,cc,st,un⟩:=x
 dsimp only at hps hbg ⊢
 refine A8 Tryz.func157 Tryz.ntmps157 fun N β=>?_
 refine Aa ?_
 refine BV fun b3=>?_
 refine AW (ρ:=sng b3 (.cells #[.slice pq qs.length kq,.slice pc cs.length kc] 25 (0,0))) fL ?_
 refine BV fun b4=>?_
 refine AW (ρ:=sng b4 (.cells #[int k,int qs1,int qd,int qz,int qr,int ql,int qp,.bool qc,.slice pp hops.length cc,int st,int un] 58 (0,0))) fL ?_
 have bx272_3:=rdB b4 58 [int k,int qs1,int qd,int qz,int qr,int ql,int qp,.bool qc,.slice pp hops.length cc,int st,int un]
 have c0:=rdC bx272_3 0
 have c1:=rdC bx272_3 1
 have c2:=rdC bx272_3 2
 have c3:=rdC bx272_3 3
 have c4:=rdC bx272_3 4
 have c5:=rdC bx272_3 5
 have c6:=rdC bx272_3 6
 have c7:=rdC bx272_3 7
 have c8:=rdC bx272_3 8
 have c9:=rdC bx272_3 9
 have c10:=rdC bx272_3 10
 have cw3:=rdB b3 25 [.slice pq qs.length kq,.slice pc cs.length kc]
 have cw:=rdB b4 58 [int k,int qs1,int qd,int qz,int qr,int ql,int qp,.bool qc,.slice pp hops.length cc,int st,int un]
 refine Aba ?_;refine Abs ?_;refine AB ?_;refine A5 hps ?_;refine Aem ?_;refine Ac6 ?_;refine Aab ?_;refine Acn ?_;refine AC ?_;refine AC ?_
 refine A9 (.q 0 (.q 1 (.q 2 (.q 3 (.q 7 (.l 4 .e (.q 5 (.q 6 .nil)))))))) [] rfl (by kernel_rfl) Sel.nil ?_
 refine Aaj ?_;refine A7 ?_;refine Aa0 ?_
 focus ((refine BZ ?_; refine BQ rfl hbg rfl rfl rdZ rfl rfl ?_; rintro _ rfl))
 refine EG ?_;refine EL ?_;refine BC ?_;refine AM ?_
 refine BE [2,3,4,27,28] (X:=Unit) () (fun _=>True) (fun _=>[(29,int 0)]) (fun _=>[]) (fun _=>0) fT trivial fP Sel.nil ?_
 rintro ⟨⟩ -;refine Aep ?_;exact AV ⟨rfl,rfl⟩
theorem aE5 {γ:PH} (hq:gC ρ (.slice pq qs.length kq) qs) (hc:jW τ (.slice pc cs.length kc) cs) (hcap:cs.length<=kc) (lq:qs.length<=9223372036854775807) (lc:cs.length<=9223372036854775807) (hp:gD qs cs=0) {x:TkU} (hx:UOK qs cs γ x) (hne:x.t.hops≠[]) (hr:jE x.t=false):Ans Tryz.prog (fv 157) [.agg #[.slice pq qs.length kq,.slice pc cs.length kc],.agg #[int x.t.k,int x.t.q.src,int x.t.q.dst,int x.t.q.size,int x.t.q.rdy,int x.t.q.dln,int x.t.q.pri,.bool x.t.q.cus,.slice x.p x.t.hops.length x.c,int x.st,int x.un],int 0] [ρ,τ,γ] (fun r=>r=.bool false):=by
 have hps:=aHi hq hc hcap lq lc hp hx hne hr
 have hbg:=iL hx.hp hx.len
 have hpos:=aAo hne hr
 have hle:=aAg x.t.hops
 have hll:=hx.len
 have hcp:=hx.cap
 have hro:=aE2 hp hx.q (hx.ro.resolve_right hne)
 have hxp:=hx.hp
 have hlv:=fun {h:Hp} {k:Nat} {c:Ct} (h1:cs[k]?=some c) (h2:h.c=k) (h3:0<=h.e/\h.e<=1099511627776)=>wG (q:=x.t.q) hq hc hcap lq lc hp h1 h2 h3
 obtain ⟨⟨k,⟨qs1,qd,qz,qr,ql,qp,qc⟩,hops⟩,pp,cc,st,un⟩:=x
 dsimp only at hps hbg hpos hle hll hcp hro hxp hlv ⊢
 have hcut:=aW0 gJ hxp hcp hle
 have hn0:0<(hops.take (mQ hops)).length:=by rw [aL]; omega
 have hy:=aA hn0
 obtain ⟨k1,c,e1,e2,_,e4,e5,e6,e7,e8⟩:=hro _ (List.mem_of_mem_take (aF hy))
 have hlv:=hlv e1 e2 ⟨e7,e8⟩
 have hck:=((chkPl_ct hp).2 c (aF e1)).1
 have hg:=mA hck
 have hlp:0<jS cs ⟨qs1,qd,qz,qr,ql,qp,qc⟩ (hops.take (mQ hops))[0]:=by
  unfold jS;rw [e2,lZ e1]
  split <;> omega
 have hlu:jS cs ⟨qs1,qd,qz,qr,ql,qp,qc⟩ (hops.take (mQ hops))[0]<=1099511627776+2*c.g:=by
  unfold jS;rw [e2,lZ e1]
  split <;> omega
 obtain ⟨_,_,e,hrh⟩:=SlE.val gJ hcut
 simp only [aN] at e
 obtain ⟨rfl,_,rfl⟩:=e
 obtain ⟨bl,ol,hcp2,hrd⟩:=hrh 0 _ hy
 generalize (hops.take (mQ hops))[0]=y at hy hrd hlv hlp hlu e4 e5 e6
 generalize jS cs ⟨qs1,qd,qz,qr,ql,qp,qc⟩ y=lv at hlv hlp hlu
 have hrd:RdN γ bl (ol+0*4) [int y.c,int y.b,int y.e,int y.a]:=hrd
 have hcp3:∀ s,s=4->oH pp cc 0 s=some ⟨bl,ol,none⟩:=fun s e=>by rw [e]; exact hcp2
 refine A8 Tryz.func157 Tryz.ntmps157 fun N β=>?_
 refine Aa ?_
 refine BV fun b3=>?_
 refine AW (ρ:=sng b3 (.cells #[.slice pq qs.length kq,.slice pc cs.length kc] 25 (0,0))) fL ?_
 refine BV fun b4=>?_
 refine AW (ρ:=sng b4 (.cells #[int k,int qs1,int qd,int qz,int qr,int ql,int qp,.bool qc,.slice pp hops.length cc,int st,int un] 58 (0,0))) fL ?_
 have bx378_3:=rdB b4 58 [int k,int qs1,int qd,int qz,int qr,int ql,int qp,.bool qc,.slice pp hops.length cc,int st,int un]
 have c0:=rdC bx378_3 0
 have c1:=rdC bx378_3 1
 have c2:=rdC bx378_3 2
 have c3:=rdC bx378_3 3
 have c4:=rdC bx378_3 4
 have c5:=rdC bx378_3 5
 have c6:=rdC bx378_3 6
 have c7:=rdC bx378_3 7
 have c8:=rdC bx378_3 8
 have c9:=rdC bx378_3 9
 have c10:=rdC bx378_3 10
 have cw3:=rdB b3 25 [.slice pq qs.length kq,.slice pc cs.length kc]
 have cw:=rdB b4 58 [int k,int qs1,int qd,int qz,int qr,int ql,int qp,.bool qc,.slice pp hops.length cc,int st,int un]
 have cq:RdP (sng b4 (.cells #[int k,int qs1,int qd,int qz,int qr,int ql,int qp,.bool qc,.slice pp hops.length cc,int st,int un] 58 (0,0))) b4 1 [int qs1,int qd,int qz,int qr,int ql,int qp,.bool qc]:=iB (k:=1) (xs:=[int k,int qs1,int qd,int qz,int qr,int ql,int qp,.bool qc,.slice pp hops.length cc,int st,int un]) rfl
 refine Aba ?_;refine Abs ?_;refine AB ?_;refine BT hps rfl rfl rdZ rfl rfl ?_;rintro _ ⟨za,zb,zc,rfl⟩
 cases zc with
 | false =>
  refine Aem ?_;refine Ac6 ?_;refine Aab ?_;refine BX ?_;refine Ab6 ?_;exact AV ⟨rfl,rfl⟩
 | true =>
  refine Aem ?_;refine Ac6 ?_;refine Aab ?_;refine Acn ?_;refine AC ?_;refine AC ?_
  refine A9 (.q 0 (.q 1 (.q 2 (.q 3 (.q 7 (.l 4 .e (.q 5 (.q 6 .nil)))))))) [] rfl (by kernel_rfl) Sel.nil ?_
  refine Aaj ?_;refine A7 ?_;refine Aa0 ?_
  focus ((refine BZ ?_; refine BQ rfl hbg rfl rfl rdZ rfl rfl ?_; rintro _ rfl))
  refine EG ?_;refine EL ?_;refine BC ?_
  focus ((rw [hcp3]; rotate_left; (focus rfl)))
  refine AM ?_
  refine BE [2,3,4,27,28] (X:=Unit) () (fun _=>True) (fun _=>[(29,int ((0:Nat):Int))]) (fun _=>[]) (fun _=>0) fT trivial fP Sel.nil ?_
  rintro ⟨⟩ -;refine Ab2 ?_
  refine A3 fun b=>?_
  refine Aa6 ?_;refine Aar ?_;refine Ab4 ?_;refine AI ?_;refine A5 hlv ?_;refine AB ?_;refine C1 ?_;refine Acw ?_;refine AY ?_;refine Ab6 ?_;exact AV ⟨rfl,rfl⟩
theorem aE6 {γ:PH} (hq:gC ρ (.slice pq qs.length kq) qs) (hc:jW τ (.slice pc cs.length kc) cs) (hcap:cs.length<=kc) (lq:qs.length<=9223372036854775807) (lc:cs.length<=9223372036854775807) (hp:gD qs cs=0) {x:TkU} (hx:UOK qs cs γ x):Ans Tryz.prog (fv 157) [.agg #[.slice pq qs.length kq,.slice pc cs.length kc],.agg #[int x.t.k,int x.t.q.src,int x.t.q.dst,int x.t.q.size,int x.t.q.rdy,int x.t.q.dln,int x.t.q.pri,.bool x.t.q.cus,.slice x.p x.t.hops.length x.c,int x.st,int x.un],int 0] [ρ,τ,γ] (fun r=>r=.bool (jE x.t)):=by
 by_cases h0:x.t.hops=[]
 ·have e:jE x.t=false:=by unfold jE; rw [h0]
  rw [e]
  exact (aE3 hx h0).rsub (by simp)
 ·cases hr:jE x.t with
  | true=>exact (aE4 hx hr).rsub (by simp)
  | false=>exact aE5 hq hc hcap lq lc hp hx h0 hr
end
end
section
section
variable {ρ τ χ:PH} {Γ:List PH} {pq pc pt:Option Addr} {kq kc kt:Nat} {qs:List Int} {cs:List Ct}
def oJ (qs:List Int) (cs:List Ct) (L:List TkU):Prop:=∀ x∈L,TkV qs cs x.t/\StU x/\x.t.hops.length<=x.c
theorem qL.uok {v:Value} {L:List TkU} (h:qL χ Γ v L) (hG:oJ qs cs L) {x:TkU} (hx:x∈L):∃ γ∈Γ,UOK qs cs γ x:=by
 obtain ⟨γ,h1,h2⟩:=h.hp x hx
 obtain ⟨g1,g2,g3⟩:=hG x hx
 exact ⟨γ,h1,h2,g1.1,g1.2,g2,g3⟩
theorem aKn {L:List TkU} {i:Nat} {x:TkU} (hx:L[i]?=some x):lM ((L.take (i+1)).map (·.t))=lM ((L.take i).map (·.t)) ++ (if kZ x.t=true then [x.t.k] else []):=by
 unfold lM;rw [cV,hx,eX,cX,dW,cX,List.map_singleton]
 congr 1
 cases h:kZ x.t <;> simp [h]
theorem aDp (T:List Tk):(lM T).length<=T.length:=by
 unfold lM;rw [aU];exact cD _ _
theorem tD (hq:gC ρ (.slice pq qs.length kq) qs) (hc:jW τ (.slice pc cs.length kc) cs) (hcap:cs.length<=kc) (lq:qs.length<=9223372036854775807) (lc:cs.length<=9223372036854775807) (hp:gD qs cs=0) {L:List TkU} (hL:qL χ Γ (.slice pt L.length kt) L) (hG:oJ qs cs L) (hl:L.length<=100) :
  jM Tryz.prog (fv 86) [.agg #[.slice pq qs.length kq,.slice pc cs.length kc,.slice none 0 0,.slice pt L.length kt],int 0] (ρ::τ::χ::Γ) (fun r ν=>fS 3 1 r (lM (L.map (·.t))).length ((lM (L.map (·.t))).flatMap Eng.encI) ν):=by
 have hre:=fun (γ:PH) (x:TkU) (hx:UOK qs cs γ x)=>aE6 (pq:=pq) (pc:=pc) (kq:=kq) (kc:=kc) hq hc hcap lq lc hp hx
 have huo:=fun (x:TkU) (hx:x∈L)=>hL.uok hG hx
 obtain ⟨_,_,e,hrt⟩:=SlE.val jX hL.tk
 simp only [aN] at e
 obtain ⟨rfl,_,rfl⟩:=e
 refine A8 Tryz.func86 Tryz.ntmps86 fun N β=>?_
 refine Aa ?_
 refine BV fun b2=>?_
 refine AW (ρ:=sng b2 (.cells #[.slice pq qs.length kq,.slice pc cs.length kc,.slice none 0 0,.slice pt L.length kt] 32 (0,0))) fL ?_
 have bx41_3:=rdB b2 32 [.slice pq qs.length kq,.slice pc cs.length kc,.slice none 0 0,.slice pt L.length kt]
 have c0:=rdC bx41_3 0
 have c1:=rdC bx41_3 1
 have c2:=rdC bx41_3 2
 have c3:=rdC bx41_3 3
 have cpl:RdP (sng b2 (.cells #[.slice pq qs.length kq,.slice pc cs.length kc,.slice none 0 0,.slice pt L.length kt] 32 (0,0))) b2 0 [.slice pq qs.length kq,.slice pc cs.length kc]:=iB (k:=0) (xs:=[.slice pq qs.length kq,.slice pc cs.length kc,.slice none 0 0,.slice pt L.length kt]) rfl
 refine B9 ?_;refine Aaa ?_;refine Aam ?_;refine AC ?_;refine Aan ?_;refine Abh ?_
 refine BE [1,2,9,10] (X:=Nat × (List Int × (Value × PH))) (0,([],(.slice none 0 0,emp))) (fun z=>z.1<=L.length/\z.2.1=lM ((L.take z.1).map (·.t))/\fS 3 1 z.2.2.1 z.2.1.length (z.2.1.flatMap Eng.encI) z.2.2.2) (fun z=>[(11,int (z.1:Int)),(5,z.2.2.1)]) (fun z=>[z.2.2.2]) (fun z=>L.length-z.1) fT ⟨cA _,rfl,fS.nil _ _⟩ fP fK ?_
 rintro ⟨i,⟨W,⟨v,ν⟩⟩⟩ ⟨hi,hW,hO⟩
 dsimp only at hi hW hO ⊢
 have hwl:=aDp ((L.take i).map (·.t))
 rw [← hW,aU,aL] at hwl
 by_cases hlt:i<L.length
 ·have hx:=aA hlt
  have hxm:=cP hlt
  have hws:=aKn hx
  obtain ⟨γ,hγ,hu⟩:=huo _ hxm
  obtain ⟨bl,ol,rfl,hrd⟩:=hrt i _ hx
  have hre1:=hre γ _ hu
  generalize L[i]=x at hx hxm hrd hre1 hws
  obtain ⟨⟨kx,q,hops⟩,px,cx,st,un⟩:=x
  dsimp only at hre1 hws
  have hrd:RdN χ bl (ol+i*11) [int kx,int q.src,int q.dst,int q.size,int q.rdy,int q.dln,int q.pri,.bool q.cus,.slice px hops.length cx,int st,int un]:=hrd
  refine Ab2 ?_
  refine A3 fun b=>?_
  refine Aa6 ?_;refine Aa ?_;refine AG ?_;refine Adg ?_
  revert b; intro b7
  refine AW (ρ:=sng b7 _) fL ?_
  have bx101_3:=rdB b7 58 [int kx,int q.src,int q.dst,int q.size,int q.rdy,int q.dln,int q.pri,.bool q.cus,.slice px hops.length cx,int st,int un]
  have z0:=rdC bx101_3 0
  have z1:=rdC bx101_3 1
  have z2:=rdC bx101_3 2
  have z3:=rdC bx101_3 3
  have z4:=rdC bx101_3 4
  have z5:=rdC bx101_3 5
  have z6:=rdC bx101_3 6
  have z7:=rdC bx101_3 7
  have z8:=rdC bx101_3 8
  have z9:=rdC bx101_3 9
  have z10:=rdC bx101_3 10
  have zw:=rdB b7 58 [int kx,int q.src,int q.dst,int q.size,int q.rdy,int q.dln,int q.pri,.bool q.cus,.slice px hops.length cx,int st,int un]
  by_cases hp2:q.pri<2
  ·cases hrs:jE ⟨kx,q,hops⟩ with
   | true =>
    rw [hrs] at hre1
    have hwb:kZ ⟨kx,q,hops⟩=true:=by unfold kZ; rw [hrs,decide_eq_true (show (⟨kx,q,hops⟩:Tk).q.pri<2 from hp2)]; rfl
    rw [if_pos hwb,← hW] at hws;refine BM ?_;refine AB ?_;refine Ab4 ?_;refine AI ?_;refine AB ?_
    refine BT hre1 rfl rfl (fun z hz=>.inl (by simp only [aE,bD,or_false] at hz ⊢; rcases hz with h|h|h <;> simp [h,hγ])) rfl rfl ?_
    rintro _ rfl;refine Aci ?_;refine AA ?_;refine Aas ?_
    refine BW fun b=>?_
    refine CR (CA (by_:=8) (s:=1) (news:=[int kx]) rfl rfl rfl rfl rfl rfl rfl hO fL (fR gN) rfl iF (by omega) (by simp only [maxLen]; omega) (by omega)) rfl rfl rfl ?_
    rintro u1 _ ⟨σ1,hO1,rfl⟩;refine Aaa ?_;refine Ad5 ?_
    refine AZ (i+1,(W ++ [kx],(u1,σ1))) ⟨by dsimp only; omega,hws.symm,?_⟩ (by dsimp only; omega) fP fK
    dsimp only
    rw [aB,aX];exact hO1
   | false =>
    rw [hrs] at hre1
    have hwb:¬ kZ ⟨kx,q,hops⟩=true:=by unfold kZ; rw [hrs]; simp
    rw [if_neg hwb,← hW,bX] at hws;refine BM ?_;refine AB ?_;refine Ab4 ?_;refine AI ?_;refine AB ?_
    refine BT hre1 rfl rfl (fun z hz=>.inl (by simp only [aE,bD,or_false] at hz ⊢; rcases hz with h|h|h <;> simp [h,hγ])) rfl rfl ?_
    rintro _ rfl;refine AY ?_;refine Ace ?_;refine CM ?_
    exact AZ (i+1,(W,(v,ν))) ⟨by dsimp only; omega,hws.symm,hO⟩ (by dsimp only; omega) fP fK
  ·have hwb:¬ kZ ⟨kx,q,hops⟩=true:=by unfold kZ; rw [decide_eq_false (show ¬ (⟨kx,q,hops⟩:Tk).q.pri<2 from hp2)]; simp
   rw [if_neg hwb,← hW,bX] at hws;refine BD ?_;refine Acg ?_;refine Abe ?_;refine Ad5 ?_
   exact AZ (i+1,(W,(v,ν))) ⟨by dsimp only; omega,hws.symm,hO⟩ (by dsimp only; omega) fP fK
 have hke:i=L.length:=by omega
 subst hke;rw [bJ] at hW;subst hW;refine Abp ?_;refine Aa5 ?_;exact AV ⟨ν,hO,rfl⟩
end
end
theorem aKo (ρ:PH) (v:Value) (l:List (Int × Int)) (x:Int × Int) (hv:SlE kX 2 ρ v l) (hl:l.length<=100000) (hx:x∈l):Ans Tryz.prog (fv 233) [v,.agg #[int x.1,int x.2]] [ρ] (fun r=>∃ i:Nat,i<l.length/\r=int (i:Int)):=by
 obtain ⟨p,c,rfl,hrl⟩:=SlE.val (enc:=kX) mZ hv
 refine A8 Tryz.func233 Tryz.ntmps233 fun N β=>?_
 refine Aa ?_
 refine BF fun b3 cb=>?_
 refine Abv ?_;refine Abh ?_
 refine BE [0,3,7] (0:Nat) (fun k=>k<=l.length/\x∈l.drop k) (fun k=>[(8,int k)]) (fun _=>[]) (fun k=>l.length-k) fT ⟨by omega,hx⟩ fP fK ?_
 rintro k ⟨hk,hI⟩
 by_cases hlt:k<l.length
 rotate_left
 ·rw [cE (by omega)] at hI
  cases hI
 have hy:=aA hlt
 rw [bU hlt,aE] at hI
 obtain ⟨bq,oq,rfl,hRd,y0,y1⟩:=aEh hrl hy
 generalize l[k]=y at hy hI hRd y0 y1
 refine Ado ?_;refine AC ?_
 refine A9 (.q 0 (.q 1 (.q 2 (.q 3 (.q 4 (.q 5 .nil)))))) [] rfl (by kernel_rfl) fK ?_
 refine A7 ?_;refine Acl ?_
 focus ((refine' CX rfl _ rfl rfl rfl rfl _; rotate_left; (apply q_eqS [x.1,x.2] [y.1,y.2] (n:=2); exact rfl; exact rfl; kernel_rfl; kernel_rfl; kernel_rfl; exact rfl; exact rfl)))
 refine BC ?_
 by_cases e:x=y
 ·subst e
  rw [decide_eq_true (rfl:[x.1,x.2]=[x.1,x.2])];refine AQ rfl ?_;refine Aa5 ?_;exact AV ⟨rfl,k,hlt,rfl⟩
 ·rw [decide_eq_false (show ¬ [x.1,x.2]=[y.1,y.2] from fun h=>e (by simp only [dV,and_true] at h; exact Prod.ext h.1 h.2))]
  refine AJ rfl ?_;refine AK ?_;refine Aa3 ?_
  exact AZ (k+1) ⟨by omega,hI.resolve_left e⟩ (by omega) fP fK
theorem aHj (ρ:PH) (v:Value) (l:List (Int × Int)) (x:Int × Int) (hv:SlE kX 2 ρ v l) (hl:l.length<=100000) (hx:x∈l):Ans Tryz.prog (fv 177) [v,.agg #[int x.1,int x.2]] [ρ] (fun r=>r=.bool true):=by
 have hi:=aKo ρ v l x hv hl hx
 refine A8 Tryz.func177 Tryz.ntmps177 fun N β=>?_
 refine Aa ?_
 refine BF fun b3 cb=>?_
 refine Abq ?_;refine AI ?_;refine BT hi rfl rfl rdZ rfl rfl ?_;rintro _ ⟨i,hil,rfl⟩;refine DQ ?_;refine Aaa ?_;exact AV ⟨rfl,rfl⟩
section
variable {ρ τ σ υ:PH} {pq pc pb ph:Option Addr} {kq kc kb kh:Nat} {qs:List Int} {cs:List Ct} {bs:List Bk} {hs:List Hd} {q:Rq}
theorem pP (hT:oF ρ τ σ υ pq pc pb ph kq kc kb kh qs cs bs hs) (hK:TOK qs cs bs hs q) :
  Ans Tryz.prog (fv 10) [.agg #[.slice pq qs.length kq,.slice pc cs.length kc,.slice pb bs.length kb,.slice ph hs.length kh],.agg #[int q.src,int q.dst,int q.size,int q.rdy,int q.dln,int q.pri,.bool q.cus]] [ρ,τ,σ,υ] (fun r=>∃ L,iQ (fW qs cs bs hs q) L/\((∃ a,jG (fW qs cs bs hs q) L=some a/\r=.tuple #[int a,int 0])\/(jG (fW qs cs bs hs q) L=none/\r=.tuple #[int 0,int 18]))):=by
 have hb:=qI hT hK
 have hg:=iV hK
 generalize fW qs cs bs hs q=G at hb hg
 refine A8 Tryz.func10 Tryz.ntmps10 fun N β=>?_
 refine Aa ?_
 refine BF fun b2 ct=>?_
 refine BF fun b3 cr=>?_
 refine Aaq ?_;refine Abs ?_;refine B4 hb rfl rfl rdZ rfl rfl ?_;rintro _ γ ⟨A,rfl,hG⟩;refine AW (ρ:=γ) fL ?_
 have hla:=rR hG hg
 refine Ad2 ?_;refine Acn ?_;refine Aaw ?_;refine B4 hla rfl rfl rdZ rfl rfl ?_;rintro v lam ⟨L,hL,hO⟩;refine AW (ρ:=lam) fL ?_
 have hSL:SlE jI 4 lam v L:=hO.at
 have hLl:=hL.len
 have har:=aB7 hG hg v L hSL (by omega) (fun x hx=>by have:=sN hg (gQ hg (hL.rch x hx)); omega)
 skip
 refine A5 har ?_
 cases ha:jG G L with
 | none =>
  simp only [Option.getD_none,Option.isSome_none];refine Ad2 ?_;refine Aei ?_;refine Adl ?_;exact A2 (mB rfl rfl rfl) fQ fK ⟨rfl,L,hL,.inr ⟨ha,rfl⟩⟩
 | some a =>
  simp only [cO,Option.isSome_some];refine Ad2 ?_;refine Acn ?_;refine Aab ?_;refine Aaq ?_;exact A2 (mB rfl rfl rfl) fQ fK ⟨rfl,L,hL,.inl ⟨a,ha,rfl⟩⟩
theorem aP6 (hT:oF ρ τ σ υ pq pc pb ph kq kc kb kh qs cs bs hs) (hK:TOK qs cs bs hs q) :
  jM Tryz.prog (fv 41) [.agg #[.slice pq qs.length kq,.slice pc cs.length kc,.slice pb bs.length kb,.slice ph hs.length kh],.agg #[int q.src,int q.dst,int q.size,int q.rdy,int q.dln,int q.pri,.bool q.cus]] [ρ,τ,σ,υ] (fun r χ=>∃ L u,iQ (fW qs cs bs hs q) L/\r=.tuple #[u,int 0]/\fS 126 4 u L.length (L.flatMap jI) χ):=by
 have hb:=qI hT hK
 have hg:=iV hK
 generalize fW qs cs bs hs q=G at hb hg
 refine A8 Tryz.func41 Tryz.ntmps41 fun N β=>?_
 refine Aa ?_
 refine BF fun b2 ct=>?_
 refine BF fun b3 cr=>?_
 refine Aaq ?_;refine Abs ?_;refine B4 hb rfl rfl rdZ rfl rfl ?_;rintro _ γ ⟨A,rfl,hG⟩;refine AW (ρ:=γ) fL ?_
 have hla:=rR hG hg
 refine Ad2 ?_;refine Acn ?_;refine Aab ?_;refine B4 hla rfl rfl rdZ rfl rfl ?_;rintro v lam ⟨L,hL,hO⟩;refine Aaq ?_;exact A2 (mB rfl rfl rfl) fQ fK ⟨lam,⟨L,v,hL,rfl,hO⟩,rfl⟩
end
end Go.Proofs.YtnijkofdlepfjaaGreat
namespace Go.Eng
section
variable {L:Env} {R H:List PH}
theorem aP7 {fn:Func} {N:Bs} {M:Nat} {P:Program} {t u s b1 b2 b3:Nat} {T U V:TypeId} {v1 v2:List Value} {v3:Value} (hr:fn.results = #[.cell t T,.cell u U,.cell s V]) (ht:look L t=some (.pointer (some ⟨b1,0,none⟩))) (hu:look L u=some (.pointer (some ⟨b2,0,none⟩))) (hs:look L s=some (.pointer (some ⟨b3,0,none⟩)))
    (a1:lP P T=some true) (n1:szP P T=some v1.length) (a2:lP P U=some true) (n2:szP P U=some v2.length) (a3:lP P V=some false) (c1:mU N R H b1 0 v1) (c2:mU N R H b2 0 v2) (c3:aG8 N R H b3 0 v3) :
    ∀ a w,Frm M L a->Sat N R H w->(results fn a.tmps).run P w=.ok (.tuple #[.agg v1.toArray,.agg v2.toArray,v3]) w:=by
  intro a w hf hs'
  have e1:a.tmps[t]?.getD undef=.pointer (some ⟨b1,0,none⟩):=by simpa using hf.get t _ ht
  have e2:a.tmps[u]?.getD undef=.pointer (some ⟨b2,0,none⟩):=by simpa using hf.get u _ hu
  have e3:a.tmps[s]?.getD undef=.pointer (some ⟨b3,0,none⟩):=by simpa using hf.get s _ hs
  have l1:=run_loadCells_list (P:=P) (w:=w) ⟨b1,0,none⟩ v1 (fun j v hv=>by rw [Addr.add_lit]; exact c1 w hs' j v hv)
  have l2:=run_loadCells_list (P:=P) (w:=w) ⟨b2,0,none⟩ v2 (fun j v hv=>by rw [Addr.add_lit]; exact c2 w hs' j v hv)
  simp [results,hr,e1,e2,e3,loadVar,run_isAgg a1,run_isAgg a2,run_isAgg a3,run_sizeOf n1,run_sizeOf n2,l1,l2,c3 w hs',asAddr]
theorem wT {fn:Func} {N:Bs} {M:Nat} {P:Program} {t u s b1 b2:Nat} {T U:TypeId} {v1 v2:List Value} {v3:Value} (hr:fn.results = #[.cell t T,.cell u U,.tmp s]) (ht:look L t=some (.pointer (some ⟨b1,0,none⟩))) (hu:look L u=some (.pointer (some ⟨b2,0,none⟩))) (hs:look L s=some v3)
    (a1:lP P T=some true) (n1:szP P T=some v1.length) (a2:lP P U=some true) (n2:szP P U=some v2.length) (c1:mU N R H b1 0 v1) (c2:mU N R H b2 0 v2) :
    ∀ a w,Frm M L a->Sat N R H w->(results fn a.tmps).run P w=.ok (.tuple #[.agg v1.toArray,.agg v2.toArray,v3]) w:=by
  intro a w hf hs'
  have e1:a.tmps[t]?.getD undef=.pointer (some ⟨b1,0,none⟩):=by simpa using hf.get t _ ht
  have e2:a.tmps[u]?.getD undef=.pointer (some ⟨b2,0,none⟩):=by simpa using hf.get u _ hu
  have e3:a.tmps[s]?.getD undef=v3:=by simpa using hf.get s _ hs
  have l1:=run_loadCells_list (P:=P) (w:=w) ⟨b1,0,none⟩ v1 (fun j v hv=>by rw [Addr.add_lit]; exact c1 w hs' j v hv)
  have l2:=run_loadCells_list (P:=P) (w:=w) ⟨b2,0,none⟩ v2 (fun j v hv=>by rw [Addr.add_lit]; exact c2 w hs' j v hv)
  simp [results,hr,e1,e2,e3,loadVar,run_isAgg a1,run_isAgg a2,run_sizeOf n1,run_sizeOf n2,l1,l2,asAddr]
end
variable {C:Cx} {D:List Deferred} {R H:List PH} {L:Env} {K:List It}
theorem G3 {X:Type} {c:Code} {Lk:Env} {ρ:PH} {H1:List PH} (_t:gU ρ H H1) (keep:List Nat) (Inv:X->Prop) (Lx:X->Env) (Hx:X->List PH)
    (hk:wP L keep Lk)
    (first:JK C D R H L (.code c::.till (MidI C D R Inv (fun y=>Lx y ++ Lk) (fun y=>ρ::Hx y))::K))
    (rest:∀ x,Inv x->JK C D R (ρ::Hx x) (Lx x ++ Lk) K):JK C D R H L (.code c::K):=
  DG keep Inv Lx (fun y=>ρ::Hx y) hk first rest
end Go.Eng
namespace Go.Proofs.YtnijkofdlepfjaaGreat
open Go.Eng Go.Step
set_option maxRecDepth 100000
set_option maxHeartbeats 64000000
def aHk (l m:List Hp) (k:Nat):Prop:=m.length=l.length/\∀ p,p<l.length->m[p]?=if p<k\/l.length<=p+k then l[l.length-1-p]? else l[p]?
theorem aKp (l:List Hp):aHk l l 0:=⟨rfl,fun p hp=>by rw [if_neg (by omega)]⟩
theorem aN4 {l m:List Hp} {k:Nat} (h:aHk l m k) (hk:l.length<=2*k+1):m=l.reverse:=by
 apply List.ext_getElem?
 intro p
 by_cases hp:p<l.length
 ·rw [h.2 p hp,List.getElem?_reverse hp]
  split
  ·rfl
  ·rename_i hn
   have:p=l.length-1-p:=by omega
   rw [← this]
 ·rw [eE (by rw [h.1]; omega),eE (by simp; omega)]
theorem aKq {l m:List Hp} {k:Nat} {a c:Hp} (h:aHk l m k) (hk:2*k+1<l.length) (ha:m[k]?=some a) (hc:m[l.length-1-k]?=some c):aHk l ((m.set k c).set (l.length-1-k) a) (k+1):=by
 refine ⟨by simp [h.1],fun p hp=>?_⟩
 rw [List.getElem?_set,List.getElem?_set]
 have e1:=h.2 k (by omega)
 have e2:=h.2 (l.length-1-k) (by omega)
 rw [if_neg (by omega),ha] at e1
 rw [if_neg (by omega),hc] at e2
 by_cases c1:l.length-1-k=p
 ·subst c1
  rw [if_pos rfl,if_pos (by simp [h.1]; omega),if_pos (by omega),show l.length-1-(l.length-1-k)=k from by omega]
  exact e1
 ·rw [if_neg c1]
  by_cases c2:k=p
  ·subst c2
   rw [if_pos rfl,if_pos (by rw [h.1]; omega),if_pos (by omega)]
   exact e2
  ·rw [if_neg c2,h.2 p hp]
   by_cases c3:p<k\/l.length<=p+k
   ·rw [if_pos c3,if_pos (by omega)]
   ·rw [if_neg c3,if_neg (by omega)]
theorem aAp (σ:PH) (v:Value) (l:List Hp) (hO:fS 62 4 v l.length (l.flatMap gE) σ) (hl:l.length<=1000000) :
  Eng.Spec Tryz.prog (fv 85) [v] [] [σ] (fun r H'=>r=.tuple #[]/\∃ σ',fS 62 4 v l.length (l.reverse.flatMap gE) σ'/\H'=[σ']):=by
 refine A8 Tryz.func85 Tryz.ntmps85 fun N β=>?_
 have hlen:∃ p c,v=.slice p l.length c:=qO.cap hO.at
 obtain ⟨p,c,rfl⟩:=hlen
 refine Aab ?_;refine A6 ?_;refine CC ?_;refine Aaq ?_;refine AM ?_
 refine BE [0] (X:=Nat × (List Hp × PH)) (0,(l,σ)) (fun x=>x.1<=l.length/\2*x.1<=l.length+1/\aHk l x.2.1 x.1/\fS 62 4 (.slice p l.length c) l.length (x.2.1.flatMap gE) x.2.2) (fun x=>[(2,int x.1),(3,int ((l.length:Int)-1-x.1))]) (fun x=>[x.2.2]) (fun x=>l.length-x.1)
  fT ⟨by dsimp only; omega,by dsimp only; omega,aKp l,hO⟩ ?_ fK ?_
 ·refine ⟨rfl,?_,trivial⟩
  simp
  rfl
 rintro ⟨k,⟨m,σ1⟩⟩ ⟨hk,hk2,hR,hO1⟩
 dsimp only at hk hk2 hR hO1 ⊢
 by_cases hlt:(k:Int)<(l.length:Int)-1-k
 ·have hml:=hR.1
  have hkl:k<m.length:=by omega
  have hjl:l.length-1-k<m.length:=by omega
  have ha:=aA hkl
  have hc:=aA hjl
  have hst:=aKq hR (by omega) ha hc
  have ej:(l.length:Int)-1-k=((l.length-1-k:Nat):Int):=by omega
  have hO2:fS 62 4 (.slice p m.length c) m.length (m.flatMap gE) σ1:=by rw [hml]; exact hO1
  rcases hO2.block with ⟨_,h2,_⟩|⟨b,cap,cur,e,_⟩
  ·rw [h2] at hkl; simp at hkl
  simp only [aN] at e
  obtain ⟨rfl,_,rfl⟩:=e
  have r1:=aLx gJ hO2 ha
  have r2:=aLx gJ hO2 hc
  rw [ej];rw [ej] at hlt;refine Aav ?_;refine Acp ?_
  refine A9 (.q 0 (.q 1 (.p 2 (.p 3 (.q 4 (.q 5 (.q 6 (.q 7 (.q 8 (.q 9 (.q 10 (.q 11 (.q 12 (.l 13 .b (.q 14 (.l 15 .b .nil)))))))))))))))) [] rfl (by kernel_rfl) fK ?_
  refine Aa0 ?_;refine CG ?_;refine CG ?_;refine Acl ?_;refine Acl ?_;refine Ada ?_;refine' D7 rfl _ rfl rfl _ _
  rotate_left
  ·exact DU gJ (a:=m[l.length-1-k]) k hO2 rfl (bZ _) rfl (by unfold gE; exact iF) rfl fL hkl
  ·rintro _ _ ⟨_,_,_,rfl⟩ w hw; exact hw.sel fK
  rintro _ _ ⟨rfl,σ2,hO3,rfl⟩;refine Ada ?_;refine' D7 rfl _ rfl rfl _ _
  rotate_left
  ·exact DU gJ (a:=m[k]) (l:=m.set k m[l.length-1-k]) (cap:=c) (l.length-1-k) hO3 rfl (bZ _) rfl (by unfold gE; exact iF) rfl fL (by rw [cQ]; exact hjl)
  ·rintro _ _ ⟨_,_,_,rfl⟩ w hw; exact hw.sel fK
  rintro _ _ ⟨rfl,σ3,hO4,rfl⟩;refine BC ?_;refine Aay ?_;refine AB ?_;refine BI ?_;refine AB ?_;refine B6 ?_;refine Aaq ?_
  refine AZ (k+1,((m.set k m[l.length-1-k]).set (l.length-1-k) m[k],σ3)) ⟨by dsimp only; omega,by dsimp only; omega,hst,?_⟩ (by dsimp only; omega) ?_ fK
  ·dsimp only
   simp only [cQ] at hO4;rw [hml] at hO4;exact hO4
  ·dsimp only [aG,aH]
   rw [show (l.length:Int)-1-((k+1:Nat):Int)=((l.length-1-k-1:Nat):Int) from by omega]
   exact fP
 ·refine AC ?_
  refine Aaw ?_;refine Ab5 ?_;refine BJ (gY rfl) fQ fK ⟨rfl,σ1,?_,rfl⟩
  rw [← aN4 hR (by omega)]
  exact hO1
theorem aCv {γ τ lam:PH} {A:GA} {G:Gr} (hG:aJp γ τ A G) (hg:GOK G) (v:Value) (l:List Lb) (hv:SlE jI 4 lam v l) (hl:l.length<=100000) (hlb:∀ x∈l,0<=x.a/\x.a<=2199023255552) (bL bG:Nat) (to:Lb) :
  Ans Tryz.prog (.func (.func 82) #[] #[.pointer (some ⟨bL,0,none⟩),.pointer (some ⟨bG,0,none⟩)]) [.agg #[int to.n,int to.f,int to.t,int to.a]] [sng bL (.cells #[v] 44 (0,0)),sng bG (.cells #[gp A] 109 (0,0)),γ,τ,lam]
   (fun r=>(∃ x∈l,∃ m∈mvs G x,mG to m=true/\r=.tuple #[.agg #[int x.n,int x.f,int x.t,int x.a],.agg #[int m.2.c,int m.2.b,int m.2.e,int m.2.a],.bool true])\/((∀ x∈l,∀ m∈mvs G x,mG to m=false)/\r=.tuple #[.agg #[int 0,int 0,int 0,int 0],.agg #[int 0,int 0,int 0,int 0],.bool false])):=by
 have hit:=fun c1 c2 (x:Lb) hx=>qH hG hg c1 c2 x hx
 obtain ⟨bA,pq,nq,kq,pc,kc,pg,kg,pr,kr,pd,kd⟩:=A
 dsimp only at hit ⊢
 show Ans Tryz.prog _ _ [_,sng bG (.cells #[.pointer (some ⟨bA,0,none⟩)] 109 (0,0)),_,_,_] _
 obtain ⟨p,c,rfl,hrl⟩:=SlE.val jA hv
 have bx162_3:=rdB bL 44 [.slice p l.length c]
 have gL:=rdC bx162_3 0
 have bx163_3:=rdB bG 109 [.pointer (some ⟨bA,0,none⟩)]
 have gG:=rdC bx163_3 0
 refine CU [.pointer (some ⟨bL,0,none⟩),.pointer (some ⟨bG,0,none⟩)] Tryz.func82 Tryz.ntmps82 fun N β=>?_
 refine Aa ?_
 refine BV fun b3=>?_
 refine CT fun b4=>?_
 refine CT fun b5=>?_
 refine CR (DH rfl rfl) rfl rfl rfl ?_;rintro _ _ ⟨b6,rfl,rfl⟩;refine AW (ρ:=sng b3 _) fL ?_
 have ct:=rdB b3 126 [int to.n,int to.f,int to.t,int to.a]
 have ct3:=rdC ct 3
 refine B9 ?_;refine Aak ?_;refine Abb ?_;refine Abh ?_
 refine EE [1,2,3,4,5,6,10,11] (X:=Nat × (List Nat × PH)) (0,([],emp)) (fun x=>x.2.1.map mk) (fun x=>x.1<=l.length/\(∀ y∈l.take x.1,∀ m∈mvs G y,mG to m=false)/\sS x.2.2 x.2.1) (fun x=>[(12,int (x.1:Int))]) (fun x=>[sng b6 (.cells #[.bool false] 4 (0,0)),sng b5 (.cells #[int 0,int 0,int 0,int 0] 62 (0,0)),sng b4 (.cells #[int 0,int 0,int 0,int 0] 126 (0,0)),x.2.2]) (fun x=>l.length-x.1) fT rfl ⟨cA _,fun y h=>(by cases h),sS.nil⟩ fP fK ?_
 rintro ⟨k,⟨ms,μ⟩⟩ ⟨hk,hno,hM⟩
 dsimp only at hk hno hM ⊢
 by_cases hlt:k<l.length
 rotate_left
 ·have hke:k=l.length:=by omega
  subst hke;rw [bJ] at hno;refine Abp ?_;refine Aa ?_;refine CB ?_;refine CB ?_;refine AU ?_;refine AU ?_;refine Abx ?_;exact DY hM fL (aP7 (b1:=b4) (b2:=b5) (b3:=b6) (T:=126) (U:=62) (V:=4) (v1:=[int 0,int 0,int 0,int 0]) (v2:=[int 0,int 0,int 0,int 0]) (v3:=.bool false) rfl rfl rfl rfl rfl rfl rfl rfl rfl (fR gN) (fR gN) (jV gN rfl)) fQ fK ⟨rfl,.inr ⟨hno,rfl⟩⟩
 have hx:=aA hlt
 have hxm:=cP hlt
 have hxb:=hlb _ hxm
 have htk:l.take (k+1)=l.take k ++ [l[k]]:=by rw [List.take_succ,hx]; rfl
 obtain ⟨bl,ol,rfl,hrd⟩:=hrl k _ hx
 have hit1:=fun c1 c2=>hit c1 c2 _ hxb
 have hmv:=qG bA l[k]
 generalize l[k]=x at hx hxm hxb htk hrd hit1 hmv
 have hrd:RdN lam bl (ol+k*4) [int x.n,int x.f,int x.t,int x.a]:=hrd
 refine Ab2 ?_
 refine A3 fun b=>?_
 refine Aa6 ?_;refine Abb ?_;refine AI ?_
 revert b; intro b8
 refine AW (ρ:=sng b8 _) fL ?_
 have cx:=rdB b8 126 [int x.n,int x.f,int x.t,int x.a]
 skip
 refine BG hmv rfl rfl fU rdZ rfl rfl ?_;rintro _ _ ⟨c1,c2,rfl,rfl⟩;simp only [aG,aH];refine AW (ρ:=sng c2 _) fL ?_;refine AW (ρ:=sng c1 _) fL ?_;refine Ad3 ?_
 refine DL (gf:=153) (cap:=[.pointer (some ⟨c1,0,none⟩),.pointer (some ⟨c2,0,none⟩)]) (ps:=[19]) (X:=Option (Lb × Hp)) rfl Tryz.func153 rfl rfl
  (hit1 c1 c2) ?_ (fun j o=>o=none/\∀ m∈(mvs G x).take j,mG to m=false) (fun o=>match o with
   | none=>[sng b6 (.cells #[.bool false] 4 (0,0)),sng b5 (.cells #[int 0,int 0,int 0,int 0] 62 (0,0)),sng b4 (.cells #[int 0,int 0,int 0,int 0] 126 (0,0))]
   | some m=>[sng b6 (.cells #[.bool true] 4 (0,0)),sng b5 (.cells #[int m.2.c,int m.2.b,int m.2.e,int m.2.a] 62 (0,0)),sng b4 (.cells #[int x.n,int x.f,int x.t,int x.a] 126 (0,0))]) (fun c o=>c=.ret/\∃ m∈mvs G x,mG to m=true/\o=some m) none rfl fU ⟨rfl,fun m h=>(by cases h)⟩ ?_ ?_ ?_
 ·intro σ hσ
  simp only [aE,bD,or_false] at hσ ⊢
  rcases hσ with h|h|h|h <;> simp [h]
 ·rintro lo r j _ vs hvs ⟨rfl,hnj⟩ hps has hbd hst hpe hfr
  dsimp only
  obtain ⟨st,pe,fnn,tm,prm,asg,bdy,df⟩:=r
  simp only at hps has hbd hst hpe hfr;subst hps has hbd hst hpe;rw [aY] at hvs
  obtain ⟨m,hm,rfl⟩:=aQ.1 hvs
  have hmm:=aF hm
  have hmt:(mvs G x).take (j+1)=(mvs G x).take j ++ [m]:=by rw [cV,hm]; rfl
  have hsm:=xW m.1 to
  refine lF hfr rfl (by intro p hp; simp at hp; omega) aBm (fun N' β'=>?_)
  unfold aJq;refine AA ?_
  refine A3 fun b=>?_
  refine Aa6 ?_
  revert b; intro b9
  refine C7 rfl rfl ?_;refine DI fL rfl ?_;refine AW (ρ:=sng b9 _) fL ?_
  have bx276_3:=rdB b9 184 [int m.1.n,int m.1.f,int m.1.t,int m.1.a,int m.2.c,int m.2.b,int m.2.e,int m.2.a]
  have mz3:=rdC bx276_3 3
  have mP:=rdQ (xs:=[_,_,_,_]) bx276_3
  have mH:RdP (sng b9 (.cells #[int m.1.n,int m.1.f,int m.1.t,int m.1.a,int m.2.c,int m.2.b,int m.2.e,int m.2.a] 184 (0,0))) b9 4 [int m.2.c,int m.2.b,int m.2.e,int m.2.a]:=iB (xs:=[int m.1.n,int m.1.f,int m.1.t,int m.1.a,int m.2.c,int m.2.b,int m.2.e,int m.2.a]) rfl
  refine AM ?_;refine Acz ?_;refine AI ?_;refine A5 hsm ?_
  have skip:mG to m=false->∀ y∈(mvs G x).take (j+1),mG to y=false:=fun h y hy=>by
   rw [hmt,aM,bI] at hy
   rcases hy with hy|rfl
   ·exact hnj y hy
   ·exact h
  cases hs1:iP m.1 to with
  | false =>
   refine Aec ?_;refine Abe ?_;refine BB ?_
   exact CD fL fQ fK ⟨none,.inl ⟨rfl,⟨rfl,skip (by unfold mG; rw [hs1]; rfl)⟩,rfl⟩⟩
  | true =>
   by_cases hta:m.1.a=to.a
   ·have hle:mG to m=true:=sQ.2 ⟨hs1,hta⟩
    refine AB ?_;refine AG ?_;refine Ad0 ?_;refine CJ ?_;refine Aci ?_;refine AC ?_
    refine A9 (.q 0 (.p 1 (.p 2 (.l 3 .b (.l 4 .b (.l 5 .b .nil)))))) [] rfl (by kernel_rfl) Sel.nil ?_
    refine A7 ?_;refine DW ?_;refine EV ?_
    focus ((refine BZ ?_; refine' D7 rfl _ rfl rfl _ _; rotate_left; (apply DB; exact rfl; exact rfl; exact fL; exact iF; exact rfl; exact rfl); (focus (rintro _ _ ⟨_,rfl⟩ w hw; exact hw.sel fK)); rintro _ _ ⟨rfl,rfl⟩))
    focus ((refine BZ ?_; refine' D7 rfl _ rfl rfl _ _; rotate_left; (apply DB; exact rfl; exact rfl; exact fL; exact iF; exact rfl; exact rfl); (focus (rintro _ _ ⟨_,rfl⟩ w hw; exact hw.sel fK)); rintro _ _ ⟨rfl,rfl⟩))
    refine Adr ?_
    skip
    exact E9 fL fQ fK ⟨some m,.inr ⟨rfl,.ret,⟨rfl,m,hmm,hle,rfl⟩,rfl⟩⟩
   ·refine AB ?_
    refine AG ?_;refine Ad0 ?_;refine B3 ?_;refine Adw ?_;refine BB ?_
    exact CD fL fQ fK ⟨none,.inl ⟨rfl,⟨rfl,skip (by unfold mG; rw [hs1,decide_eq_false hta]; rfl)⟩,rfl⟩⟩
 ·rintro bm _ ⟨rfl,hna⟩
  dsimp only
  simp only [aG,aH];rw [aU,bJ] at hna
  refine ED (R':=[sng b3 (.cells #[int to.n,int to.f,int to.t,int to.a] 126 (0,0)),β,sng bL (.cells #[.slice (some ⟨bl,ol,none⟩) l.length c] 44 (0,0)),sng bG (.cells #[.pointer (some ⟨bA,0,none⟩)] 109 (0,0)),γ,τ,lam]) (by intro σ hσ; simp at hσ ⊢; rcases hσ with h|h|h|h|h|h|h <;> simp [h]) ?_
  refine C9 (b:=bm) fL (μ:=μ) fL hM ?_
  intro μ2 hM2
  refine BB ?_;refine Aa3 ?_
  refine DZ (k+1,(bm::ms,μ2)) rfl ⟨by dsimp only; omega,fun y hy=>?_,hM2⟩ (by dsimp only; omega) fP fK
  dsimp only at hy
  rw [htk,aM,bI] at hy
  rcases hy with hy|rfl
  ·exact hno y hy
  ·exact hna
 ·rintro bm cc _ ⟨rfl,m,hmm,hle,rfl⟩
  dsimp only
  simp only [aG,aH];refine C9 (b:=bm) fL (μ:=μ) fL hM ?_
  intro μ2 hM2
  exact DY hM2 fL (aP7 (b1:=b4) (b2:=b5) (b3:=b6) (T:=126) (U:=62) (V:=4) (v1:=[int x.n,int x.f,int x.t,int x.a]) (v2:=[int m.2.c,int m.2.b,int m.2.e,int m.2.a]) (v3:=.bool true) rfl rfl rfl rfl rfl rfl rfl rfl rfl (fR gN) (fR gN) (jV gN rfl)) fQ fK ⟨rfl,.inl ⟨x,hxm,m,hmm,hle,rfl⟩⟩
section
variable {ρ τ σ υ:PH} {pq pc pb ph:Option Addr} {kq kc kb kh:Nat} {qs:List Int} {cs:List Ct} {bs:List Bk} {hs:List Hd} {q:Rq}
theorem qZ (hT:oF ρ τ σ υ pq pc pb ph kq kc kb kh qs cs bs hs) (hK:TOK qs cs bs hs q) :
  jM Tryz.prog (fv 31) [.agg #[.slice pq qs.length kq,.slice pc cs.length kc,.slice pb bs.length kb,.slice ph hs.length kh],.agg #[int q.src,int q.dst,int q.size,int q.rdy,int q.dln,int q.pri,.bool q.cus]] [ρ,τ,σ,υ] (fun r χ=>(∃ l u L a p,kY qs cs bs hs q l/\iQ (fW qs cs bs hs q) L/\jG (fW qs cs bs hs q) L=some a/\l.getLast?=some p/\p.a=a/\r=.tuple #[u,int 0]/\fS 62 4 u l.length (l.flatMap gE) χ)\/∃ L,iQ (fW qs cs bs hs q) L/\jG (fW qs cs bs hs q) L=none/\r=.tuple #[.slice none 0 0,int 18]):=by
 have hb:=qI hT hK
 have hg:=iV hK
 have hasc:=pK hK
 have hqq:(fW qs cs bs hs q).q=q:=rfl
 have hfo:∀ l:List Hp,(∃ L y w,iQ (fW qs cs bs hs q) L/\y∈begs (fW qs cs bs hs q)/\Fro (fW qs cs bs hs q) L y w/\l=w.map (·.2))->l.length<=1000->kY qs cs bs hs q l:=fun l h1 h2=>⟨h1,h2⟩
 have hws:=fun {L:List Lb} (hL:iQ (fW qs cs bs hs q) L) {y:Lb} {w:List (Lb × Hp)} (h:Fro (fW qs cs bs hs q) L y w)=>aPl hK hL h
 generalize fW qs cs bs hs q=G at hb hg hasc hqq hfo hws ⊢
 refine A8 Tryz.func31 Tryz.ntmps31 fun N β=>?_
 refine Aa ?_
 refine BF fun b2 ct=>?_
 refine BF fun b3 cr=>?_
 have cr0:=rdC cr 0
 have cr1:=rdC cr 1
 have cr3:=rdC cr 3
 refine Aaq ?_;refine Abs ?_;refine B4 hb rfl rfl rdZ rfl rfl ?_;rintro _ γ ⟨A,rfl,hG⟩;refine AW (ρ:=γ) fL ?_
 have hla:=rR hG hg
 refine Abk ?_
 refine B5 fun b=>?_
 refine BK ?_;refine Abv ?_;refine Acn ?_;refine Abb ?_
 revert b; intro b6
 refine AW (ρ:=sng b6 _) fL ?_
 have bx60_3:=rdB b6 109 [gp A]
 have g0:=rdC bx60_3 0
 skip
 refine B4 hla rfl rfl rdZ rfl rfl ?_;rintro v lam ⟨L,hL,hO⟩;refine AW (ρ:=lam) fL ?_
 have hv1:=kL _ _ _ _ hO
 have hSL:SlE jI 4 lam v L:=hO.at
 have hLl:=hL.len
 have hlb:∀ x∈L,0<=x.a/\x.a<=2199023255552:=fun x hx=>by have:=sN hg (gQ hg (hL.rch x hx)); omega
 have har:=aB7 hG hg v L hSL (by omega) hlb
 have hbef:=fun bL bG to=>aCv hG hg v L hSL (by omega) hlb bL bG to
 refine B5 fun b=>?_
 refine Abx ?_;refine Abb ?_;refine AF ?_
 revert b; intro b8
 refine AW (ρ:=sng b8 _) fL ?_
 have g1:rdc (sng b8 (.cells #[v] 44 (0,0))) b8 0=some v:=by rw [kE]; rfl
 skip
 refine A5 har ?_
 cases ha:jG G L with
 | none =>
  simp only [Option.getD_none,Option.isSome_none];refine B9 ?_;refine Ad2 ?_;refine Aei ?_;refine Adl ?_;exact A2 (mB rfl rfl rfl) fQ fK ⟨emp,.inr ⟨L,hL,ha,rfl⟩,rfl⟩
 | some a =>
 simp only [cO,Option.isSome_some]
 obtain ⟨xa,hxa,ma,hma,hna,hae⟩:=vY ha
 have hab:=lL hg hma
 have hax:=hlb xa hxa
 have hdl:=hg.q.2.2.2.2.2.2.1
 have hqd:G.q.dst=q.dst:=by rw [hqq]
 refine B9 ?_;refine Ad2 ?_;refine Acn ?_;refine Adj ?_;refine Aaa ?_;refine Aam ?_;refine AC ?_;refine Acm ?_;refine CB ?_
 refine A3 fun b=>?_
 refine Aa6 ?_;refine AM ?_
 revert b; intro b13
 have hI0:OnW G L (aCm G a)/\Fro G L (aCm G a) []/\(∃ x∈L,∃ m∈mvs G x,mG (aCm G a) m=true)/\(([]:List (Lb × Hp))=[]/\aCm G a=aCm G a\/∃ p,([]:List (Lb × Hp)).getLast?=some p/\p.2.a=a):=⟨.inr rfl,.nil rfl,aTp ha,.inl ⟨rfl,rfl⟩⟩
 refine BE [2,3,6,8,11] (X:=(Lb × List (Lb × Hp)) × (Nat × (Value × PH))) ((aCm G a,[]),(b13,(.slice none 0 0,emp))) (fun z=>(OnW G L z.1.1/\Fro G L z.1.1 z.1.2/\(∃ x∈L,∃ m∈mvs G x,mG z.1.1 m=true)/\(z.1.2=[]/\z.1.1=aCm G a\/∃ p,z.1.2.getLast?=some p/\p.2.a=a))/\0<=z.1.1.a/\(z.1.2.length:Int)+z.1.1.a<=1099511627776/\fS 62 4 z.2.2.1 (z.1.2.map (·.2)).reverse.length ((z.1.2.map (·.2)).reverse.flatMap gE) z.2.2.2) (fun z=>[(13,.pointer (some ⟨z.2.1,0,none⟩)),(12,z.2.2.1)]) (fun z=>[sng z.2.1 (.cells #[int z.1.1.n,int z.1.1.f,int z.1.1.t,int z.1.1.a] 126 (0,0)),z.2.2.2]) (fun z=>z.1.1.a.toNat) fT ⟨hI0,by show 0<=a; omega,by show (0:Int)+a<=_; omega,fS.nil _ _⟩ fP ?_ ?_
 ·rw [← hqd]
  exact fK
 rintro ⟨⟨to,w⟩,⟨bt,⟨u,σ1⟩⟩⟩ ⟨⟨hon,hfr,hex,hls⟩,ht0,hwl,hOu⟩
 dsimp only at hon hfr hex hls ht0 hwl hOu ⊢
 have hu1:=kL _ _ _ _ hOu
 have hb1:=hbef b8 b6 to
 refine Aap ?_;refine Aab ?_;refine AI ?_;refine BT hb1 rfl rfl rdZ rfl rfl ?_;rintro _ (⟨x,hx,m,hm,hle,rfl⟩|⟨hno,_⟩)
 rotate_left
 ·exfalso
  obtain ⟨x,hx,m,hm,hle⟩:=hex
  rw [hno x hx m hm] at hle
  cases hle
 obtain ⟨hfr2,hlt⟩:=aTq hg hL hon hx hm hle hfr
 have hls2:∃ p,((x,m.2)::w).getLast?=some p/\p.2.a=a:=by
  rcases hls with ⟨rfl,e⟩|⟨p,e1,e2⟩
  ·refine ⟨(x,m.2),rfl,?_⟩
   have e3:=aNq hg hL hon hx hm hle
   obtain ⟨_,_,_,_,_,_,_,e4,_⟩:=oN hm
   have e5:m.1.a=m.2.a:=by rw [e4]
   show m.2.a=a
   rw [← e5,e3,e]
   rfl
  ·refine ⟨p,?_,e2⟩
   rw [List.getLast?_cons,e1]
   rfl
 have hxb:=hlb x hx
 have hrd:=aNp hg (hL.rch x hx)
 have hlw:(w.map (·.2)).reverse.length=w.length:=by simp
 have hrv:((w.map (·.2)).reverse ++ [m.2])=(((x,m.2)::w).map (·.2)).reverse:=by simp
 refine Aem ?_
 refine A3 fun b=>?_
 refine A3 fun b=>?_
 refine AU ?_;refine Aen ?_;refine Acn ?_;refine Aab ?_;refine AI ?_
 refine BW fun b=>?_
 revert b; intro bn
 revert b; intro b15
 revert b; intro b14
 refine AW (ρ:=sng b14 _) fL ?_
 have xw:=rdB b14 126 [int x.n,int x.f,int x.t,int x.a]
 have xz0:=rdC xw 0
 have xz3:=rdC xw 3
 refine CR (CA (by_:=32) (s:=4) (news:=[int m.2.c,int m.2.b,int m.2.e,int m.2.a]) rfl rfl rfl rfl rfl rfl rfl hOu fL (fR gN) rfl iF (by omega) (by simp only [maxLen]; omega) (by omega)) rfl rfl rfl ?_
 rintro u2 _ ⟨σ2,hO2,rfl⟩
 have hO3:fS 62 4 u2 (((x,m.2)::w).map (·.2)).reverse.length ((((x,m.2)::w).map (·.2)).reverse.flatMap gE) σ2:=by
  rw [← hrv,aB,aX];exact hO2
 clear hO2
 have hu2:=kL _ _ _ _ hO3
 by_cases hbg:x.n=q.src/\x.a=q.rdy
 rotate_left
 ·refine AD ?_
  refine AE ?_;refine Aar ?_;refine Aa6 ?_;refine Abr ?_
  by_cases hn:x.n=q.src
  ·have hna2:¬ x.a=q.rdy:=fun h=>hbg ⟨hn,h⟩
   refine Adv ?_;refine B3 ?_;refine Adw ?_;refine BB ?_;refine Aar ?_;refine AE ?_;refine AA ?_
   refine A3 fun b=>?_
   refine Aa6 ?_
   revert b; intro b13n
   refine CM ?_
   refine AZ ((x,(x,m.2)::w),(b13n,(u2,σ2))) ⟨⟨.inl hx,hfr2,aNr hg hasc hL hx (by rw [hqq]; exact hbg),.inr hls2⟩,hxb.1,?_,hO3⟩ ?_ fP fK
   ·dsimp only; rw [aS]; omega
   ·dsimp only; omega
  ·refine B3 ?_
   refine Acg ?_;refine Abe ?_;refine BB ?_;refine Aar ?_;refine AE ?_;refine AA ?_
   refine A3 fun b=>?_
   refine Aa6 ?_
   revert b; intro b13n
   refine CM ?_
   refine AZ ((x,(x,m.2)::w),(b13n,(u2,σ2))) ⟨⟨.inl hx,hfr2,aNr hg hasc hL hx (by rw [hqq]; exact hbg),.inr hls2⟩,hxb.1,?_,hO3⟩ ?_ fP fK
   ·dsimp only; rw [aS]; omega
   ·dsimp only; omega
 obtain ⟨hb2,hb3⟩:=hbg
 obtain ⟨pu,ku,rfl⟩:=hO3.form
 have hbeg:=aU3 hg (hL.rch x hx) (by rw [hqq]; exact hb3)
 have hwl2:(((x,m.2)::w).map (·.2)).reverse.length=w.length+1:=by simp
 have hrev:(((x,m.2)::w).map (·.2)).reverse.reverse=((x,m.2)::w).map (·.2):=List.reverse_reverse _
 have hfo2:=hfo (((x,m.2)::w).map (·.2)) ⟨L,x,(x,m.2)::w,hL,hbeg,hfr2,rfl⟩
 have hlf:(((x,m.2)::w).map (·.2)).length=w.length+1:=by simp
 have hsh:=hws hL hfr2
 rw [aS] at hsh
 have hls3:∃ p,(((x,m.2)::w).map (·.2)).getLast?=some p/\p.a=a:=by
  obtain ⟨p,e1,e2⟩:=hls2
  exact ⟨p.2,by rw [List.getLast?_map,e1]; rfl,e2⟩
 clear hls2 hls
 generalize (((x,m.2)::w).map (·.2)).reverse=Q at *
 generalize ((x,m.2)::w).map (·.2)=F at *
 obtain ⟨pl,hl3,hl4⟩:=hls3
 have hre:=aAp σ2 _ Q hO3 (by omega)
 rw [hrev] at hre;refine Aaa ?_;refine Aar ?_;refine Aa6 ?_;refine Abr ?_;refine Adv ?_;refine CJ ?_;refine Aci ?_;refine BA rfl ?_;refine Aag ?_;refine Ade ?_;refine Aai ?_;refine Aab ?_;refine BG hre rfl rfl fU rdZ rfl rfl ?_;rintro _ _ ⟨rfl,σ3,hO4,rfl⟩;refine AE ?_;refine Aab ?_;refine Aaq ?_
 refine A2 (mB rfl rfl rfl) fQ fK ⟨σ3,.inl ⟨F,_,L,a,pl,hfo2 (by omega),hL,ha,hl3,hl4,rfl,?_⟩,rfl⟩
 rw [hlf,← hwl2];exact hO4
end
end Go.Proofs.YtnijkofdlepfjaaGreat
