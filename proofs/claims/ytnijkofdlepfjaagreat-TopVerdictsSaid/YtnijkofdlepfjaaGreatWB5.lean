/- Texts of this proof, one after the other; no conditions. -/
import Derived.Test.YtnijkofdlepfjaaGreatWA
import Derived.Lib.RowBridge
import Derived.Test.YtnijkofdlepfjaaGreatWB4
import Derived.Test.YtnijkofdlepfjaaGreatWB3
import Derived.Test.YtnijkofdlepfjaaGreatWB1
import Derived.Test.YtnijkofdlepfjaaGreatWB0
set_option linter.all false
namespace Go.Proofs.YtnijkofdlepfjaaGreat
open Go.Eng Go.Step
set_option maxRecDepth 100000
set_option maxHeartbeats 64000000
theorem aF9 (τ:PH) (pq pc:Option Addr) (nq kq kc:Nat) (cs:List Ct) (x:Bk) (hc:jW τ (.slice pc cs.length kc) cs) :
  Ans Tryz.prog (fv 107) [.agg #[.slice pq nq kq,.slice pc cs.length kc],.agg #[int x.c,int x.a,int x.b,int x.k]] [τ] (fun r=>r=.bool (rL cs x)):=by
 obtain ⟨_,_,e,hrc⟩:=hc.val iU
 simp only [aN] at e
 obtain ⟨rfl,_,rfl⟩:=e
 refine A8 Tryz.func107 Tryz.ntmps107 fun N β=>?_
 refine Aa ?_
 refine BF fun b2 cp=>?_
 have cp1:=rdC cp 1
 refine BF fun b3 cx=>?_
 have cx0:=rdC cx 0
 have cx1:=rdC cx 1
 have cx2:=rdC cx 2
 have cx3:=rdC cx 3
 by_cases hin:0<=x.c/\x.c<cs.length/\0<=x.k/\x.k<=1152921504606846976
 ·obtain ⟨nn,hnn⟩:∃ nn:Nat,x.c=nn:=⟨x.c.toNat,by omega⟩
  have hlt:nn<cs.length:=by omega
  have hx:=aA hlt
  obtain ⟨b1,o1,rfl,hrd⟩:=oC hrc hx
  have hok:rL cs x=decide (cs[nn].s<=x.a/\x.a<x.b/\x.b<=cs[nn].e):=by
   unfold rL;rw [decide_eq_true hin,Bool.true_and,hnn,cL,hx]
  rw [hok]
  have cn:rdc (sng b3 (.cells #[int x.c,int x.a,int x.b,int x.k] 118 (0,0))) b3 0=some (int nn):=by rw [kE,← hnn]; rfl
  clear cx0 hok
  generalize cs[nn]=c at hrd
  refine Ad1 ?_;refine BD ?_;refine Abf ?_;refine A6 ?_;refine CP ?_;refine Ac1 ?_;refine BD ?_;refine Ac1 ?_;refine B7 ?_;refine Abe ?_;refine Abr ?_;refine Aa9 ?_
  refine A3 fun b=>?_
  refine Aa6 ?_;refine Abr ?_
  by_cases h1:c.s<=x.a
  ·by_cases h2:x.a<x.b
   ·by_cases h3:x.b<=c.e
    ·rw [decide_eq_true ⟨h1,h2,h3⟩]
     refine DQ ?_;refine Abf ?_;refine BM ?_;refine Aek ?_;refine EA ?_;refine Ac0 ?_;exact AV ⟨rfl,rfl⟩
    ·rw [decide_eq_false (fun h=>h3 h.2.2)]
     refine DQ ?_;refine Abf ?_;refine BM ?_;refine Aek ?_;refine DC ?_;refine Ac0 ?_;exact AV ⟨rfl,rfl⟩
   ·rw [decide_eq_false (fun h=>h2 h.2.1)]
    refine DQ ?_;refine Abf ?_;refine BD ?_;refine AY ?_;refine Aes ?_;exact AV ⟨rfl,rfl⟩
  ·rw [decide_eq_false (fun h=>h1 h.1)]
   refine CP ?_;refine Acg ?_;refine AT ?_;refine Aes ?_;exact AV ⟨rfl,rfl⟩
 ·have hok:rL cs x=false:=by
   unfold rL;rw [decide_eq_false hin,Bool.false_and]
  rw [hok]
  by_cases h1:x.c<0
  ·refine AD ?_
   refine Aak ?_;refine Aan ?_;refine BM ?_;refine Aec ?_;refine AY ?_;refine Acd ?_;refine AY ?_;refine Acd ?_;refine AY ?_;refine Ab6 ?_;exact AV ⟨rfl,rfl⟩
  by_cases h2:(cs.length:Int)<=x.c
  ·refine AD ?_
   refine Aak ?_;refine Aan ?_;refine BD ?_;refine Abf ?_;refine A6 ?_;refine DQ ?_;refine AT ?_;refine Acd ?_;refine AY ?_;refine Acd ?_;refine AY ?_;refine Ab6 ?_;exact AV ⟨rfl,rfl⟩
  by_cases h3:x.k<0
  ·refine AD ?_
   refine Aak ?_;refine Aan ?_;refine BD ?_;refine Abf ?_;refine A6 ?_;refine CP ?_;refine Ac1 ?_;refine BM ?_;refine AT ?_;refine Acd ?_;refine AY ?_;refine Ab6 ?_;exact AV ⟨rfl,rfl⟩
  by_cases h4:1152921504606846976<x.k
  ·refine AD ?_
   refine Aak ?_;refine Aan ?_;refine BD ?_;refine Abf ?_;refine A6 ?_;refine CP ?_;refine Ac1 ?_;refine BD ?_;refine Ac1 ?_;refine C1 ?_;refine AT ?_;refine Ab6 ?_;exact AV ⟨rfl,rfl⟩
  ·exfalso; omega
def gX (x:Bk):List Value:=[int x.c,int x.a,int x.b,int x.k]
theorem gF (x:Bk):(gX x).length=4:=rfl
abbrev BkAt (ρ:PH) (v:Value) (l:List Bk):Prop:=SlE gX 4 ρ v l
theorem aNd {ρ:PH} {p:Option Addr} {l:List Bk} (h:nH gX 4 ρ p l) {i:Nat} {x:Bk} (hx:l[i]?=some x) :
  ∃ b o,p=some ⟨b,o,none⟩/\RdN ρ b (o+i*4) [int x.c,int x.a,int x.b,int x.k]/\rdc ρ b (o+i*4)=some (int x.c)/\rdc ρ b (o+i*4+1)=some (int x.a)/\rdc ρ b (o+i*4+2)=some (int x.b)/\rdc ρ b (o+i*4+3)=some (int x.k):=by
 obtain ⟨b,o,e,hr⟩:=h i x hx
 exact ⟨b,o,e,hr,hr.get0,hr.get (j:=1) rfl,hr.get (j:=2) rfl,hr.get (j:=3) rfl⟩
theorem aBy (x y:Bk):Ans Tryz.prog (fv 108) [.agg #[int x.c,int x.a,int x.b,int x.k],.agg #[int y.c,int y.a,int y.b,int y.k]] [] (fun r=>r=int (qM x y)):=by
 refine A8 Tryz.func108 Tryz.ntmps108 fun N β=>?_
 refine Aa ?_
 refine B8 fun b=>?_
 refine B8 fun b=>?_
 refine Aba ?_
 refine A9 (.q 0 (.q 1 (.q 2 (.q 3 (.q 5 (.q 6 (.q 7 (.q 8 (.l 4 .e (.l 9 .e (.l 10 .e (.l 11 .e (.q 12 .nil))))))))))))) [] rfl (by kernel_rfl) fK ?_
 refine Aeq ?_
 focus ((refine BZ (BQ rfl (gO _ _) rfl rfl rdZ rfl rfl ?_); rintro _ rfl))
 focus ((refine BZ (BQ rfl (gO _ _) rfl rfl rdZ rfl rfl ?_); rintro _ rfl))
 refine BY fun b=>?_
 revert b; intro bo
 refine BZ (BQ rfl (sL (sng bo _) _ [gZ x.c y.c,gZ x.a y.a] (oI Eng.encI_len) (by simp)) rfl rfl rdZ rfl rfl ?_)
 rintro _ rfl;refine Ac ?_
 skip
 exact AV ⟨rfl,rfl⟩
theorem qD (ρ τ σ:PH) (pq pc:Option Addr) (kq kc:Nat) (qs:List Int) (cs:List Ct) (v:Value) (l:List Bk) (hq:gC ρ (.slice pq qs.length kq) qs) (hc:jW τ (.slice pc cs.length kc) cs) (hcap:cs.length<=kc) (lq:qs.length<=9223372036854775807) (lc:cs.length<=9223372036854775807) (hv:BkAt σ v l) (hl:l.length<=9223372036854775807) :
  Ans Tryz.prog (fv 45) [.agg #[.slice pq qs.length kq,.slice pc cs.length kc],v] [ρ,τ,σ] (fun r=>r=int (sZ qs cs l)):=by
 have hv2:=hv
 obtain ⟨q,c,rfl,hr⟩:=hv.val gF
 refine A8 Tryz.func45 Tryz.ntmps45 fun N β=>?_
 refine Aa ?_
 refine BF fun b1 c1=>?_
 refine Aba ?_;refine Aar ?_;refine A5 (iD ρ τ pq pc kq kc qs cs hq hc hcap lq lc) ?_;unfold sZ
 by_cases hp:gD qs cs=0
 rotate_left
 ·rw [if_pos hp]
  generalize gD qs cs=z at hp
  refine C5 ?_;refine Ab6 ?_;exact AV ⟨rfl,rfl⟩
 rw [if_neg (fun h=>h hp),hp]
 by_cases hbig:512<l.length
 ·rw [if_pos hbig]
  refine Adp ?_;refine A6 ?_;refine C1 ?_;refine Ab6 ?_;exact AV ⟨rfl,rfl⟩
 rw [if_neg hbig];refine Adp ?_;refine Ade ?_;refine Aai ?_;refine Aag ?_;refine Abh ?_
 refine BE [1,2,13,14] (0:Nat) (fun k=>k<=l.length/\gK (bkE cs l) k=0) (fun k=>[(15,int k)]) (fun _=>[]) (fun k=>l.length-k) fT ⟨by omega,rfl⟩ fP fK ?_
 rintro k ⟨hk,hI⟩
 by_cases hlt:k<l.length
 ·have hx:=aA hlt
  obtain ⟨b2,o2,rfl,hrd,g0,g1,g2,g3⟩:=aNd hr hx
  have hE:=aF8 (cs:=cs) hx
  generalize l[k]=x at hrd g0 g1 g2 g3 hE
  refine Aa8 ?_;refine Aab ?_;refine Aa9 ?_
  refine A3 fun b=>?_
  refine AD ?_;refine Adb ?_;refine Abs ?_
  revert b; intro b6
  refine A5 (aF9 τ pq pc qs.length kq kc cs x hc) ?_
  cases hok:rL cs x with
  | false =>
   rw [if_pos hok] at hE
   have hh:=jF hI (by rw [hE]; decide) _ hlt
   rw [hh,hE];refine BX ?_;refine Ab6 ?_;exact AV ⟨rfl,rfl⟩
  | true =>
  rw [if_neg (by rw [hok]; simp)] at hE
  by_cases h0:k=0
  ·subst h0
   rw [if_pos rfl] at hE;refine Acn ?_;refine Aag ?_;refine Aej ?_;refine Aeb ?_
   exact AZ (0+1) ⟨by omega,lJ hI hE⟩ (by omega) fP fK
  ·have hlt':k-1<l.length:=by omega
   have hx':=aA hlt'
   obtain ⟨_,_,e,hrd',p0,p1,p2,p3⟩:=aNd hr hx'
   simp only [aD,eI,and_true] at e
   obtain ⟨rfl,rfl⟩:=e
   rw [if_neg h0,aI,hx',cO] at hE
   generalize l[k-1]=p at hrd' p0 p1 p2 p3 hE
   have hle:=aBy p x
   unfold aSx at hE
   generalize qM p x=z at hle hE
   refine Acn ?_;refine Aag ?_;refine Acy ?_;refine AC ?_;refine AC ?_
   refine A9 (.q 0 (.q 1 (.q 2 (.q 3 (.q 4 (.q 5 (.l 6 .e (.q 7 .nil)))))))) [sng b6 _] rfl (by kernel_rfl) fK ?_
   refine Adk ?_;refine Abl ?_;refine A7 ?_;refine BZ (BQ rfl hle rfl rfl rdZ rfl rfl ?_);rintro _ rfl
   by_cases hc9:z<0
   rotate_left
   ·rw [if_pos hc9] at hE
    have hh:=jF hI (by rw [hE]; decide) _ hlt
    rw [hh,hE];refine G2 ?_;refine Acc ?_;refine Aam ?_;exact AV ⟨rfl,rfl⟩
   rw [if_neg (fun h=>h hc9)] at hE
   refine FM ?_;refine Ach ?_;refine AC ?_
   refine A9 P1Z [sng b6 _] rfl (by kernel_rfl) fK ?_
   by_cases e1:p.c=x.c
   ·by_cases e2:x.a<p.b
    ·rw [if_pos ⟨e1,e2⟩] at hE
     have hh:=jF hI (by rw [hE]; decide) _ hlt
     rw [hh,hE];refine Adk ?_;refine BH ?_;refine DN ?_;refine AN ?_;refine Aaj ?_;refine F4 ?_;refine AP ?_;refine Aaj ?_;refine Adk ?_;refine Ael ?_;refine D8 ?_;refine BU ?_;refine Acc ?_;refine Aam ?_;exact AV ⟨rfl,rfl⟩
    ·rw [if_neg (by omega)] at hE
     refine Adk ?_;refine BH ?_;refine DN ?_;refine AN ?_;refine Aaj ?_;refine F4 ?_;refine AP ?_;refine Aaj ?_;refine Adk ?_;refine Ael ?_;refine C4 ?_;refine BU ?_;refine Ach ?_;refine Aa3 ?_
     exact AZ (k+1) ⟨by omega,lJ hI hE⟩ (by omega) fP fK
   ·rw [if_neg (by omega)] at hE
    refine Adk ?_;refine BH ?_;refine DN ?_;refine AN ?_;refine Aaj ?_;refine F5 ?_;refine Adq ?_;refine Ady ?_;refine Ach ?_;refine Aa3 ?_
    exact AZ (k+1) ⟨by omega,lJ hI hE⟩ (by omega) fP fK
 have hke:k=l.length:=by omega
 subst hke;rw [hI];refine Aep ?_;exact AV ⟨rfl,rfl⟩
def kX (x:Int × Int):List Value:=[int x.1,int x.2]
theorem mZ (x:Int × Int):(kX x).length=2:=rfl
theorem aEh {ρ:PH} {p:Option Addr} {l:List (Int × Int)} (h:nH kX 2 ρ p l) {i:Nat} {x:Int × Int} (hx:l[i]?=some x) :
  ∃ b o,p=some ⟨b,o,none⟩/\RdN ρ b (o+i*2) [int x.1,int x.2]/\rdc ρ b (o+i*2)=some (int x.1)/\rdc ρ b (o+i*2+1)=some (int x.2):=by
 obtain ⟨b,o,e,hr⟩:=h i x hx
 exact ⟨b,o,e,hr,hr.get0,hr.get (j:=1) rfl⟩
structure oF (ρ τ σ υ:PH) (pq pc pb ph:Option Addr) (kq kc kb kh:Nat) (qs:List Int) (cs:List Ct) (bs:List Bk) (hs:List Hd):Prop where
 hq:gC ρ (.slice pq qs.length kq) qs
 hc:jW τ (.slice pc cs.length kc) cs
 hcap:cs.length<=kc
 lq:qs.length<=9223372036854775807
 lc:cs.length<=9223372036854775807
 hb:BkAt σ (.slice pb bs.length kb) bs
 lb:bs.length<=9223372036854775807
 hh:HdAt υ (.slice ph hs.length kh) hs
 lh:hs.length<=9223372036854775807
theorem oF.rc {ρ τ σ υ:PH} {pq pc pb ph:Option Addr} {kq kc kb kh:Nat} {qs:List Int} {cs:List Ct} {bs:List Bk} {hs:List Hd} (hT:oF ρ τ σ υ pq pc pb ph kq kc kb kh qs cs bs hs):nH zL 7 τ pc cs:=by
 obtain ⟨_,_,e,h⟩:=hT.hc.val iU
 simp only [aN] at e;rw [e.1]; exact h
theorem rM {ρ τ σ υ:PH} {pq pc pb ph:Option Addr} {kq kc kb kh:Nat} {qs:List Int} {cs:List Ct} {bs:List Bk} {hs:List Hd} (hT:oF ρ τ σ υ pq pc pb ph kq kc kb kh qs cs bs hs) :
  Ans Tryz.prog (fv 46) [.agg #[.slice pq qs.length kq,.slice pc cs.length kc,.slice pb bs.length kb,.slice ph hs.length kh]] [ρ,τ,σ,υ] (fun r=>r=int (aC8 qs cs bs hs)):=by
 refine A8 Tryz.func46 Tryz.ntmps46 fun N β=>?_
 refine Aa ?_
 refine BF fun b1 ct=>?_
 have ct0:=rdC ct 0
 have ct1:=rdC ct 1
 have ct2:=rdC ct 2
 have ct3:=rdC ct 3
 have ctp:=rdQ (xs:=[_,_]) ct
 refine Aba ?_;refine Acz ?_;refine A5 (iD ρ τ pq pc kq kc qs cs hT.hq hT.hc hT.hcap hT.lq hT.lc) ?_;unfold aC8
 by_cases h1:gD qs cs=0
 rotate_left
 ·rw [if_pos h1]
  generalize gD qs cs=z at h1
  refine Abq ?_;refine C5 ?_;refine Acu ?_;exact AV ⟨rfl,rfl⟩
 rw [if_neg (fun h=>h h1),h1]
 refine Ac7 ?_;refine AC ?_;refine Acz ?_;refine Aac ?_;refine A5 (qD ρ τ σ pq pc kq kc qs cs _ bs hT.hq hT.hc hT.hcap hT.lq hT.lc hT.hb hT.lb) ?_
 by_cases h2:sZ qs cs bs=0
 rotate_left
 ·rw [if_pos h2]
  generalize sZ qs cs bs=z at h2
  refine Abq ?_;refine C5 ?_;refine Acu ?_;exact AV ⟨rfl,rfl⟩
 rw [if_neg (fun h=>h h2),h2]
 refine Ac7 ?_;refine Acz ?_;refine Aac ?_;refine A5 (vO ρ τ υ pq pc kq kc qs cs _ hs hT.hq hT.hc hT.hcap hT.lq hT.lc hT.hh hT.lh) ?_;refine Aaa ?_;exact AV ⟨rfl,rfl⟩
theorem aOz (ρ:PH) (v:Value) (l:List Bk) (c:Int) (hv:BkAt ρ v l) (hl:l.length<=1000) :
  jM Tryz.prog (fv 217) [v,int c] [ρ] (fun r σ=>fS 207 2 r (kK l c).length ((kK l c).flatMap kX) σ):=by
 obtain ⟨q,cc,rfl,hr⟩:=hv.val gF
 refine A8 Tryz.func217 Tryz.ntmps217 fun N β=>?_
 refine B9 ?_;refine Aam ?_;refine Adf ?_
 refine BE [1,8,9] (X:=Nat × (Value × PH)) (0,(.slice none 0 0,emp)) (fun x=>x.1<=l.length/\fS 207 2 x.2.1 (kK (l.take x.1) c).length ((kK (l.take x.1) c).flatMap kX) x.2.2) (fun x=>[(10,int x.1),(5,x.2.1)]) (fun x=>[x.2.2]) (fun x=>l.length-x.1) fT ⟨by dsimp only; omega,fS.nil _ _⟩ fP fK ?_
 rintro ⟨k,u,σ⟩ ⟨hk,hO⟩
 dsimp only at hk hO ⊢
 by_cases hlt:k<l.length
 ·have hx:=aA hlt
  have hn:=aLt c hx
  have hrl:=xO (l.take k) c
  rw [aL,dU hk] at hrl
  obtain ⟨b1,o1,rfl,hRd1,g0,g1,g2,g3⟩:=aNd hr hx
  generalize l[k]=x at hRd1 g0 g1 g2 g3 hn
  by_cases hc:x.c=c
  rotate_left
  ·rw [if_neg hc,bX] at hn
   refine Ab2 ?_
   refine A3 fun b=>?_
   refine Aer ?_;refine B3 ?_;refine Ace ?_
   exact AZ (k+1,(u,σ)) ⟨by dsimp only; omega,by dsimp only; rw [hn]; exact hO⟩ (by dsimp only; omega) fP fK
  ·rw [if_pos hc] at hn
   refine Ab2 ?_
   refine A3 fun b=>?_
   refine Aer ?_;refine Aej ?_;refine AA ?_;refine Abf ?_;refine CB ?_
   refine BW fun b=>?_
   refine CR (CA (by_:=16) (s:=2) (news:=[int x.a,int x.b]) rfl rfl rfl rfl rfl rfl rfl hO fL (fR gN) rfl iF (by omega) (by simp only [maxLen]; omega) (by omega)) rfl rfl rfl ?_
   rintro u1 _ ⟨σ1,hO1,rfl⟩;refine Aaa ?_;refine Aa3 ?_
   refine AZ (k+1,(u1,σ1)) ⟨by dsimp only; omega,?_⟩ (by dsimp only; omega) fP fK
   dsimp only
   rw [hn,aB,aX];exact hO1
 ·have hke:k=l.length:=by omega
  subst hke;rw [bJ] at hO;refine Abp ?_;refine Aa5 ?_;exact AV ⟨σ,hO,rfl⟩
end Go.Proofs.YtnijkofdlepfjaaGreat
namespace Go.Step
structure Rq where
  src:Int
  dst:Int
  size:Int
  rdy:Int
  dln:Int
  pri:Int
  cus:Bool
structure Lb where
  n:Int
  f:Int
  t:Int
  a:Int
structure Hp where
  c:Int
  b:Int
  e:Int
  a:Int
structure Gr where
  cs:List Ct
  q:Rq
  gaps:List (List (Int × Int))
  rooms:List (List (Int × Int))
  dur:List Int
def vS (fr d:Int):List (Int × Int)->Option Int
  | []=>none
  | p::l=>if max p.1 fr+d<=p.2 then some (max p.1 fr) else vS fr d l
def iE (G:Gr) (n:Int):List (Int × Int):=if n=G.q.dst then [(0,1099511627776)] else G.rooms.getD n.toNat []
def oV (G:Gr) (i:Nat) (c:Ct) (fr:Int):Option Hp:=(vS fr (G.dur.getD i 0) (G.gaps.getD i [])).map fun b=>⟨i,b,b+G.dur.getD i 0,b+G.dur.getD i 0+c.g⟩
def jR (G:Gr) (c:Ct) (h:Hp):Int:=if G.q.cus then h.e+2*c.g else h.e
def mv1 (G:Gr) (x:Lb) (i:Nat) (c:Ct) (r:Int × Int):Option (Lb × Hp):=match oV G i c (max x.a r.1) with
  | none=>none
  | some h=>if x.t<jR G c h\/G.q.dln<h.a\/(c.t≠G.q.dst/\r.2<=h.a) then none else some (⟨c.t,r.1,r.2,h.a⟩,h)
def mvC (G:Gr) (x:Lb) (i:Nat) (c:Ct):List (Lb × Hp):=if c.f≠x.n then [] else (iE G c.t).filterMap (mv1 G x i c)
def mvF (G:Gr) (x:Lb):Nat->List Ct->List (Lb × Hp)
  | _,[]=>[]
  | i,c::l=>mvC G x i c ++ mvF G x (i+1) l
def mvs (G:Gr) (x:Lb):List (Lb × Hp):=mvF G x 0 G.cs
structure GOK (G:Gr):Prop where
  cs:∀ c∈G.cs,iC c=0/\c.t<G.rooms.length
  lc:G.cs.length<=11
  gl:G.gaps.length=G.cs.length
  dl:G.dur.length=G.cs.length
  gap:∀ l∈G.gaps,l.length<=600/\∀ p∈l,0<=p.1/\p.1<p.2/\p.2<=1099511627776
  room:∀ l∈G.rooms,l.length<=1100/\l.Pairwise (fun p q=>p.2<q.1)/\∀ p∈l,0<=p.1/\p.1<p.2/\p.2<=1099511627776
  rl:G.rooms.length<=6
  dur:∀ d∈G.dur,1<=d/\d<=1099511627776
  q:0<=G.q.src/\G.q.src<G.rooms.length/\0<=G.q.dst/\G.q.dst<G.rooms.length/\0<=G.q.rdy/\G.q.rdy<=G.q.dln/\G.q.dln<=1099511627776/\G.q.src≠G.q.dst
theorem sM {fr d:Int}:∀ {l:List (Int × Int)} {b:Int},vS fr d l=some b->∃ p∈l,b=max p.1 fr/\b+d<=p.2
  | [],b,h=>by cases h
  | p::l,b,h=>by
    unfold vS at h
    split at h
    · rename_i hp; cases h; exact ⟨p,by simp,rfl,hp⟩
    · obtain ⟨q,h1,h2⟩:=sM h; exact ⟨q,by simp [h1],h2⟩
theorem aO0 {fr d:Int} {l:List (Int × Int)} {k:Nat} {p:Int × Int} (h:l[k]?=some p):vS fr d (l.drop k)=if max p.1 fr+d<=p.2 then some (max p.1 fr) else vS fr d (l.drop (k+1)):=by
  obtain ⟨hlt,he⟩:=aC.1 h
  rw [bU hlt,he]
  rfl
theorem xP {G:Gr} (hg:GOK G) (n:Int):(iE G n).length<=1100/\(iE G n).Pairwise (fun p q=>p.2<q.1)/\∀ p∈iE G n,0<=p.1/\p.1<p.2/\p.2<=1099511627776:=by
  unfold iE
  split
  · refine ⟨by simp,by simp,fun p hp=>?_⟩
    simp at hp; subst hp; simp
  · cases h:G.rooms[n.toNat]? with
    | none =>
      have e:G.rooms.getD n.toNat []=[]:=by simp [aI,h]
      rw [e]; exact ⟨by simp,.nil,fun p hp=>by cases hp⟩
    | some l =>
      have e:G.rooms.getD n.toNat []=l:=by simp [aI,h]
      rw [e]; exact hg.room l (aF h)
theorem aAa {G:Gr} (hg:GOK G) {i:Nat} {c:Ct} (hi:G.cs[i]?=some c) {fr:Int} {h:Hp} (hh:oV G i c fr=some h):h.c=i/\fr<=h.b/\0<=h.b/\h.b<h.e/\h.e<=1099511627776/\h.a=h.e+c.g/\h.e=h.b+G.dur.getD i 0:=by
  have hl:=(aC.1 hi).1
  obtain ⟨L,hL⟩:∃ L,G.gaps[i]?=some L:=⟨_,aA (by have:=hg.gl; omega)⟩
  obtain ⟨d,hd⟩:∃ d,G.dur[i]?=some d:=⟨_,aA (by have:=hg.dl; omega)⟩
  have hdd:=hg.dur d (aF hd)
  have hLL:=(hg.gap L (aF hL)).2
  have e1:G.dur.getD i 0=d:=by simp [aI,hd]
  have e2:G.gaps.getD i []=L:=by simp [aI,hL]
  unfold oV at hh;rw [e1,e2,aQ] at hh
  obtain ⟨b,h1,rfl⟩:=hh
  obtain ⟨p,hp,rfl,h2⟩:=sM h1
  have:=hLL p hp
  rw [e1]
  refine ⟨rfl,?_,?_,?_,?_,rfl,rfl⟩ <;> dsimp only <;> omega
theorem aGa (G:Gr) (x:Lb):∀ (l m:List Ct) (i:Nat),mvF G x i (l ++ m)=mvF G x i l ++ mvF G x (i+l.length) m
  | [],m,i=>by simp [mvF]
  | c::l,m,i=>by
    simp only [aG,mvF,aGa G x l m (i+1),aS,aR]
    rw [show i+1+l.length=i+(l.length+1) by omega]
theorem aJd (G:Gr) (x:Lb) {k:Nat} {c:Ct} (h:G.cs[k]?=some c):mvF G x 0 (G.cs.take (k+1))=mvF G x 0 (G.cs.take k) ++ mvC G x k c:=by
  obtain ⟨hlt,he⟩:=aC.1 h
  rw [cV,h,aGa];simp only [eX,mvF,bX,aL]
  rw [show 0+min k G.cs.length=k by omega]
theorem aO1 (G:Gr) (x:Lb) {k:Nat} {c:Ct} (h:G.cs[k]?=some c):∃ post,mvs G x=mvF G x 0 (G.cs.take k) ++ (mvC G x k c ++ post):=by
  obtain ⟨hlt,he⟩:=aC.1 h
  refine ⟨mvF G x (k+1) (G.cs.drop (k+1)),?_⟩;unfold mvs;rw [← aR,← aJd G x h]
  have:=aGa G x (G.cs.take (k+1)) (G.cs.drop (k+1)) 0
  rw [bH] at this;rw [this,aL]
  rw [show 0+min (k+1) G.cs.length=k+1 by omega]
theorem aNe {α β:Type} (f:α->Option β) {l:List α} {j:Nat} {r:α} (h:l[j]?=some r):(l.take (j+1)).filterMap f=(l.take j).filterMap f ++ (f r).toList:=by
  rw [cV,h,List.filterMap_append]
  cases e:f r <;> simp [e]
theorem fm_at {α β:Type} (f:α->Option β) {l:List α} {j:Nat} {r:α} {m:β} (h:l[j]?=some r) (hm:f r=some m):∃ post,l.filterMap f=(l.take j).filterMap f ++ m::post:=by
  obtain ⟨hlt,he⟩:=aC.1 h
  refine ⟨(l.drop (j+1)).filterMap f,?_⟩
  conv=>lhs; rw [← bH (j+1) l]
  rw [List.filterMap_append,aNe f h,hm]
  simp
theorem aSy (G:Gr) (x:Lb) {k j:Nat} {c:Ct} {r:Int × Int} {m:Lb × Hp} (h:G.cs[k]?=some c) (hf:c.f=x.n) (hr:(iE G c.t)[j]?=some r) (hm:mv1 G x k c r=some m) :
    (mvs G x)[(mvF G x 0 (G.cs.take k)).length+(((iE G c.t).take j).filterMap (mv1 G x k c)).length]?=some m:=by
  obtain ⟨p1,h1⟩:=aO1 G x h
  obtain ⟨p2,h2⟩:=fm_at (mv1 G x k c) hr hm
  have h3:mvC G x k c=(iE G c.t).filterMap (mv1 G x k c):=by unfold mvC; rw [if_neg (by simp [hf])]
  rw [h1,h3,h2,bY (by omega)]
  rw [show (mvF G x 0 (G.cs.take k)).length+(((iE G c.t).take j).filterMap (mv1 G x k c)).length-(mvF G x 0 (G.cs.take k)).length=(((iE G c.t).take j).filterMap (mv1 G x k c)).length by omega]
  rw [aR,bY (by omega)]
  simp
def qQ (G:Gr) (o:Option Int) (m:Lb × Hp):Option Int:=if m.1.n=G.q.dst then (match o with
    | none=>some m.1.a
    | some b=>if m.1.a<b then some m.1.a else some b) else o
theorem aGb {G:Gr} {m:Lb × Hp} (h:¬ m.1.n=G.q.dst) (o:Option Int):qQ G o m=o:=by unfold qQ; rw [if_neg h]
theorem xQ {G:Gr} {m:Lb × Hp} (h:m.1.n=G.q.dst):qQ G none m=some m.1.a:=by unfold qQ; rw [if_pos h]
theorem aAb {G:Gr} {m:Lb × Hp} (h:m.1.n=G.q.dst) {b:Int} (hb:m.1.a<b):qQ G (some b) m=some m.1.a:=by unfold qQ; rw [if_pos h]; simp [hb]
theorem aAc {G:Gr} {m:Lb × Hp} (h:m.1.n=G.q.dst) {b:Int} (hb:¬ m.1.a<b):qQ G (some b) m=some b:=by unfold qQ; rw [if_pos h]; simp [hb]
def jG (G:Gr) (l:List Lb):Option Int:=(l.flatMap (mvs G)).foldl (qQ G) none
theorem aEi {α β:Type} (f:β->α->β) {l:List α} {i:Nat} {x:α} (h:l[i]?=some x) (b:β):(l.take (i+1)).foldl f b=f ((l.take i).foldl f b) x:=by
  rw [cV,h,List.foldl_append]; rfl
theorem aO2 {α β:Type} (f:α->List β) {l:List α} {k:Nat} {x:α} (h:l[k]?=some x):(l.take (k+1)).flatMap f=(l.take k).flatMap f ++ f x:=by
  rw [cV,h,aX]; simp
def iP (x y:Lb):Bool:=decide (x.n=y.n) && decide (x.f=y.f)
theorem fY {x y:Lb}:iP x y=true↔x.n=y.n/\x.f=y.f:=by simp [iP]
theorem uD (x:Lb):iP x x=true:=fY.2 ⟨rfl,rfl⟩
def begs (G:Gr):List Lb:=((G.rooms.getD G.q.src.toNat []).filter (fun p=>decide (p.1<=G.q.rdy) && decide (G.q.rdy<p.2))).map (fun p=>⟨G.q.src,p.1,p.2,G.q.rdy⟩)
inductive aBz (G:Gr):Lb->Prop
  | beg {x:Lb}:x∈begs G->aBz G x
  | mv {x:Lb} {m:Lb × Hp}:aBz G x->m∈mvs G x->m.1.n≠G.q.dst->aBz G m.1
def qE (G:Gr) (x:Lb):Prop:=x.n≠G.q.dst/\0<=x.n/\x.n<G.rooms.length/\(x.f,x.t)∈G.rooms.getD x.n.toNat []/\x.f<=x.a/\x.a<x.t
theorem aNf {G:Gr} {x:Lb} {m:Lb × Hp}:∀ {l:List Ct} {i:Nat},m∈mvF G x i l->∃ k c,l[k]?=some c/\m∈mvC G x (i+k) c
  | [],i,h=>by cases h
  | c::l,i,h=>by
    unfold mvF at h
    rcases aM.1 h with h|h
    · exact ⟨0,c,rfl,h⟩
    · obtain ⟨k,c',h1,h2⟩:=aNf h
      exact ⟨k+1,c',by simpa using h1,by rw [show i+(k+1)=i+1+k by omega]; exact h2⟩
theorem oN {G:Gr} {x:Lb} {m:Lb × Hp} (h:m∈mvs G x):∃ k c r,G.cs[k]?=some c/\c.f=x.n/\r∈iE G c.t/\oV G k c (max x.a r.1)=some m.2/\m.1=⟨c.t,r.1,r.2,m.2.a⟩/\jR G c m.2<=x.t/\m.2.a<=G.q.dln/\(c.t≠G.q.dst->m.2.a<r.2):=by
  obtain ⟨k,c,hc,hm⟩:=aNf h
  rw [bZ] at hm;unfold mvC at hm
  split at hm
  · cases hm
  · rename_i hf
    rw [eJ] at hm
    obtain ⟨r,hr,hm⟩:=hm
    unfold mv1 at hm
    split at hm
    · cases hm
    · rename_i hp hh
      split at hm
      · cases hm
      · rename_i hno
        cases hm
        refine ⟨k,c,r,hc,Classical.byContradiction fun h=>hf h,hr,hh,rfl,by dsimp only; omega,by dsimp only; omega,fun h=>?_⟩
        dsimp only
        rcases Int.lt_or_le hp.a r.2 with h1|h1
        · exact h1
        · exact absurd (.inr (.inr ⟨h,h1⟩)) hno
theorem aLv {G:Gr} {x:Lb} {k:Nat} {c:Ct} {r:Int × Int} {h:Hp} (hc:G.cs[k]?=some c) (hf:c.f=x.n) (hr:r∈iE G c.t) (hh:oV G k c (max x.a r.1)=some h) (h1:jR G c h<=x.t) (h2:h.a<=G.q.dln) (h3:c.t≠G.q.dst->h.a<r.2):((⟨c.t,r.1,r.2,h.a⟩,h):Lb × Hp)∈mvs G x:=by
  obtain ⟨j,hj⟩:=dI hr
  refine aF (aSy G x hc hf hj ?_);unfold mv1;rw [hh];simp only;rw [if_neg];rintro (q|q|⟨q1,q2⟩)
  · omega
  · omega
  · have:=h3 q1; omega
theorem lL {G:Gr} (hg:GOK G) {x:Lb} {m:Lb × Hp} (h:m∈mvs G x):x.a<m.1.a/\m.1.a<=1099511627776:=by
  obtain ⟨k,c,r,hc,hf,hr,hh,he,h1,h2,h3⟩:=oN h
  obtain ⟨e1,e2,e3,e4,e5,e6,e7⟩:=aAa hg hc hh
  have hck:=(hg.cs c (aF hc)).1
  have hq:=hg.q
  have hgg:1<=c.g:=by
    unfold iC aBp at hck
    split at hck
    · omega
    · rename_i hk; simp only [Classical.not_not] at hk; omega
  rw [he]
  dsimp only
  omega
theorem rN {G:Gr} (hg:GOK G) {x:Lb} {m:Lb × Hp} (h:m∈mvs G x) (hn:m.1.n≠G.q.dst):qE G m.1:=by
  obtain ⟨k,c,r,hc,hf,hr,hh,he,h1,h2,h3⟩:=oN h
  obtain ⟨e1,e2,e3,e4,e5,e6,e7⟩:=aAa hg hc hh
  have hck:=hg.cs c (aF hc)
  rw [he] at hn ⊢
  dsimp only at hn
  unfold iE at hr;rw [if_neg hn] at hr
  have hct:0<=c.t/\1<=c.g:=by
    have:=hck.1
    unfold iC aBp at this
    split at this
    · omega
    · rename_i hk; simp only [Classical.not_not] at hk; omega
  refine ⟨hn,hct.1,hck.2,hr,?_,h3 hn⟩
  dsimp only
  omega
theorem vT {G:Gr} (hg:GOK G) {x:Lb} (h:x∈begs G):qE G x:=by
  unfold begs at h;rw [bE] at h
  obtain ⟨p,hp,rfl⟩:=h
  rw [bT,aJ,decide_eq_true_eq,decide_eq_true_eq] at hp
  have hq:=hg.q
  exact ⟨hq.2.2.2.2.2.2.2,hq.1,hq.2.1,hp.1,hp.2.1,hp.2.2⟩
theorem gQ {G:Gr} (hg:GOK G) {x:Lb} (h:aBz G x):qE G x:=by
  induction h with
  | beg h=>exact vT hg h
  | mv _ h2 h3 _=>exact rN hg h2 h3
theorem sN {G:Gr} (hg:GOK G) {x:Lb} (h:qE G x):0<=x.a/\x.a<=1099511627776/\0<=x.f/\x.t<=1099511627776:=by
  obtain ⟨_,f1,f2,f3,f4,f5⟩:=h
  have hlt:x.n.toNat<G.rooms.length:=by omega
  have hr:=aA hlt
  rw [aI,hr,cO] at f3
  have:=(hg.room _ (aF hr)).2.2 _ f3
  dsimp only at this
  omega
def aC9 (D:List Lb) (x:Lb):Prop:=∃ y∈D,iP y x=true/\y.a<=x.a
structure aB0 (G:Gr) (D O:List Lb):Prop where
  rch:∀ x∈D ++ O,aBz G x
  dis:D.Pairwise (fun x y=>iP x y=false)
  ord:∀ x∈D,∀ y∈O,x.a<=y.a/\iP x y=false
  beg:∀ x∈begs G,aC9 (D ++ O) x
  clo:∀ x∈D,∀ m∈mvs G x,m.1.n≠G.q.dst->aC9 (D ++ O) m.1
  len:O.length<=1100+12100*D.length
def qF (G:Gr) (D:List Lb) (ms:List (Lb × Hp)):List Lb:=(ms.filter (fun m=>decide (m.1.n≠G.q.dst) && !D.any (iP m.1))).map (·.1)
theorem aO3 {G:Gr} {D:List Lb} {ms:List (Lb × Hp)} {j:Nat} {m:Lb × Hp} (h:ms[j]?=some m):qF G D (ms.take (j+1))=qF G D (ms.take j) ++ (if m.1.n≠G.q.dst/\D.any (iP m.1)=false then [m.1] else []):=by
  unfold qF;rw [cV,h,dW,cX]
  congr 1
  by_cases c1:m.1.n=G.q.dst <;> cases c2:D.any (iP m.1) <;> simp [c1,c2]
theorem aB0.zero {G:Gr} (hg:GOK G):aB0 G [] (begs G):=by
  refine ⟨fun x hx=>.beg (by simpa using hx),.nil,fun x hx=>(by cases hx),fun x hx=>⟨x,by simpa using hx,uD x,cH _⟩,fun x hx=>(by cases hx),?_⟩
  have h:=(xP hg)
  have hl:(G.rooms.getD G.q.src.toNat []).length<=1100:=by
    cases h:G.rooms[G.q.src.toNat]? with
    | none=>simp [aI,h]
    | some l=>have:=(hg.room l (aF h)).1; simpa [aI,h] using this
  have:=cD (fun p=>decide (p.1<=G.q.rdy) && decide (G.q.rdy<p.2)) (G.rooms.getD G.q.src.toNat [])
  simp only [begs,aU,cW];omega
theorem aAd {G:Gr} (hg:GOK G) (x:Lb):(mvs G x).length<=12100:=by
  have key:∀ (l:List Ct) (i:Nat),(mvF G x i l).length<=1100*l.length:=by
    intro l
    induction l with
    | nil=>intro i; simp [mvF]
    | cons c l ih =>
      intro i
      have h1:=ih (i+1)
      have h2:(mvC G x i c).length<=1100:=by
        unfold mvC
        split
        · simp
        · have:=List.length_filterMap_le (mv1 G x i c) (iE G c.t)
          have:=(xP hg c.t).1
          omega
      simp only [mvF,aB,aS];omega
  have:=key G.cs 0
  have:=hg.lc
  unfold mvs;omega
theorem aB0.step {G:Gr} (hg:GOK G) {D O:List Lb} (h:aB0 G D O) {x:Lb} (hx:x∈O) (hmin:∀ y∈O,x.a<=y.a):aB0 G (D ++ [x]) (O.filter (fun y=>!iP x y) ++ qF G (D ++ [x]) (mvs G x)):=by
  have hD:∀ d∈D ++ [x],d.a<=x.a:=fun d hd=>by
    rcases aM.1 hd with hd|hd
    · exact (h.ord d hd x hx).1
    · simp at hd; subst hd; exact cH _
  have hnew:∀ {y},y∈qF G (D ++ [x]) (mvs G x)↔∃ m∈mvs G x,m.1.n≠G.q.dst/\(D ++ [x]).any (iP m.1)=false/\m.1=y:=fun {y}=>by
    unfold qF;simp only [bE,bT,aJ,decide_eq_true_eq,dH]
    constructor
    · rintro ⟨m,⟨h1,h2,h3⟩,h4⟩; exact ⟨m,h1,h2,h3,h4⟩
    · rintro ⟨m,h1,h2,h3,h4⟩; exact ⟨m,⟨h1,h2,h3⟩,h4⟩
  have up:∀ {z},aC9 (D ++ O) z->aC9 (D ++ [x] ++ (O.filter (fun y=>!iP x y) ++ qF G (D ++ [x]) (mvs G x))) z:=fun {z} ⟨y,hy,h1,h2⟩=>by
    rcases aM.1 hy with hy|hy
    · exact ⟨y,by simp [hy],h1,h2⟩
    · by_cases hs:iP x y=true
      · refine ⟨x,by simp,?_,Int.le_trans (hmin y hy) h2⟩
        rw [fY] at *; omega
      · exact ⟨y,by simp [hy,hs],h1,h2⟩
  refine ⟨fun y hy=>?_,?_,fun d hd y hy=>?_,fun b hb=>up (h.beg b hb),fun d hd m hm hn=>?_,?_⟩
  · rw [aR] at hy
    rcases aM.1 hy with hy|hy
    · exact h.rch y (by simp [hy])
    · rcases aM.1 hy with hy|hy
      · simp at hy; subst hy; exact h.rch y (by simp [hx])
      · rcases aM.1 hy with hy|hy
        · exact h.rch y (by simp [(bT.1 hy).1])
        · obtain ⟨m,h1,h2,_,rfl⟩:=hnew.1 hy
          exact .mv (h.rch x (by simp [hx])) h1 h2
  · rw [cC]
    refine ⟨h.dis,by simp,fun a ha b hb=>?_⟩
    simp at hb; subst hb
    exact (h.ord a ha b hx).2
  · have hdx:=hD d hd
    rcases aM.1 hy with hy|hy
    · rw [bT,dH] at hy
      refine ⟨Int.le_trans hdx (hmin y hy.1),?_⟩
      rcases aM.1 hd with hd|hd
      · exact (h.ord d hd y hy.1).2
      · simp at hd; subst hd; exact hy.2
    · obtain ⟨m,h1,h2,h3,rfl⟩:=hnew.1 hy
      have:=(lL hg h1).1
      refine ⟨by omega,?_⟩
      have h4:=eP.1 h3 d hd
      cases e:iP d m.1 with
      | false=>rfl
      | true=>rw [fY] at e; exact absurd (fY.2 ⟨e.1.symm,e.2.symm⟩) h4
  · rcases aM.1 hd with hd|hd
    · exact up (h.clo d hd m hm hn)
    · simp at hd; subst hd
      cases e:(D ++ [d]).any (iP m.1) with
      | false=>exact ⟨m.1,by simp only [aM]; exact .inr (.inr (hnew.2 ⟨m,hm,hn,e,rfl⟩)),uD _,cH _⟩
      | true =>
        obtain ⟨d',hd',hs⟩:=eW.1 e
        have h1:=hD d' hd'
        have h2:=(lL hg hm).1
        refine ⟨d',by simp only [aM] at hd' ⊢; exact .inl hd',?_,by omega⟩
        rw [fY] at *; omega
  · have h1:=cD (fun y=>!iP x y) O
    have h2:(qF G (D ++ [x]) (mvs G x)).length<=12100:=by
      have h3:=aAd hg x
      have h4:=cD (fun m:Lb × Hp=>decide (m.1.n≠G.q.dst) && !(D ++ [x]).any (iP m.1)) (mvs G x)
      unfold qF;rw [aU];omega
    have:=h.len
    simp only [aB,aS,cW];omega
/-! only so many labels can be done -/
theorem xR {α:Type} [DecidableEq α]:∀ {a b:List α},a.Nodup->(∀ x∈a,x∈b)->a.length<=b.length
  | [],b,_,_=>cA _
  | x::a,b,hn,h=>by
    have hx:=h x (by simp)
    have hn':=eM.1 hn
    have:=xR (a:=a) (b:=b.erase x) hn'.2 (fun y hy=>(List.mem_erase_of_ne (fun e=>hn'.1 (by subst e; exact hy))).2 (h y (by simp [hy])))
    rw [List.length_erase_of_mem hx] at this
    have:=List.length_pos_of_mem hx
    simp only [aS];omega
def aJe:Nat->List (List (Int × Int))->List (Int × Int)
  | _,[]=>[]
  | n,l::r=>l.map (fun p=>((n:Int),p.1)) ++ aJe (n+1) r
theorem aJf:∀ {r:List (List (Int × Int))} {n k:Nat} {l:List (Int × Int)} {p:Int × Int},r[k]?=some l->p∈l->(((n+k:Nat):Int),p.1)∈aJe n r
  | [],n,k,l,p,h,_=>by simp at h
  | l0::r,n,0,l,p,h,hp=>by
    simp at h; subst h
    unfold aJe;exact aM.2 (.inl (bE.2 ⟨p,hp,rfl⟩))
  | l0::r,n,k+1,l,p,h,hp=>by
    unfold aJe;refine aM.2 (.inr ?_)
    rw [show n+(k+1)=n+1+k by omega]
    exact aJf (by simpa using h) hp
theorem aJg:∀ {r:List (List (Int × Int))} {n:Nat},(∀ l∈r,l.length<=1100)->(aJe n r).length<=1100*r.length
  | [],n,_=>by simp [aJe]
  | l::r,n,h=>by
    have h1:=aJg (r:=r) (n:=n+1) (fun l hl=>h l (by simp [hl]))
    have h2:=h l (by simp)
    simp only [aJe,aB,aU,aS];omega
theorem aB0.few {G:Gr} (hg:GOK G) {D O:List Lb} (h:aB0 G D O):D.length<=6600:=by
  have h1:(D.map (fun x=>(x.n,x.f))).length<=(aJe 0 G.rooms).length:=by
    refine xR ?_ (fun z hz=>?_)
    · unfold List.Nodup
      rw [List.pairwise_map]
      refine h.dis.imp (fun {x y} hxy e=>?_)
      simp only [Prod.mk.injEq] at e;rw [fY.2 e] at hxy; cases hxy
    · rw [bE] at hz
      obtain ⟨x,hx,rfl⟩:=hz
      obtain ⟨_,f1,f2,f3,_,_⟩:=gQ hg (h.rch x (by simp [hx]))
      have hlt:x.n.toNat<G.rooms.length:=by omega
      have hr:=aA hlt
      rw [aI,hr,cO] at f3
      have:=aJf (n:=0) hr f3
      rw [show (((0+x.n.toNat:Nat)):Int)=x.n by omega] at this
      exact this
  have h2:=aJg (r:=G.rooms) (n:=0) (fun l hl=>(hg.room l hl).1)
  have:=hg.rl
  rw [aU] at h1;omega
structure iQ (G:Gr) (L:List Lb):Prop where
  rch:∀ x∈L,aBz G x
  beg:∀ x∈begs G,aC9 L x
  clo:∀ x∈L,∀ m∈mvs G x,m.1.n≠G.q.dst->aC9 L m.1
  len:L.length<=6600
  dis:L.Pairwise (fun x y=>iP x y=false)
theorem aB0.done {G:Gr} (hg:GOK G) {D L:List Lb} (h:aB0 G D []) (hp:L.Perm D):iQ G L:=by
  have cov:∀ {x},aC9 (D ++ []) x->aC9 L x:=fun {x} ⟨y,h1,h2⟩=>⟨y,hp.mem_iff.2 (by simpa using h1),h2⟩
  exact ⟨fun x hx=>h.rch x (by simp [hp.mem_iff.1 hx]),fun x hx=>cov (h.beg x hx),fun x hx m hm hn=>cov (h.clo x (hp.mem_iff.1 hx) m hm hn),by rw [hp.length_eq]; exact h.few hg,(hp.pairwise_iff (fun {x y} hxy=>by cases e:iP y x with
    | false=>rfl
    | true=>rw [fY.2 ⟨(fY.1 e).1.symm,(fY.1 e).2.symm⟩] at hxy; cases hxy)).2 h.dis⟩
def aJh (t:Int) (x:Int × Int):Bool:=decide (x.1<=t) && decide (t<x.2)
abbrev Iv:=List (Int × Int)
def tJ (l:Iv):Prop:=(∀ x∈l,x.1<x.2)/\l.Pairwise (fun x y=>x.2<y.1)
def uE (l:Iv) (t:Int):Bool:=l.any (aJh t)
theorem aJi {t:Int} {x:Int × Int}:aJh t x=true↔x.1<=t/\t<x.2:=by simp [aJh]
theorem vU {l:Iv} {t:Int}:uE l t=true↔∃ x∈l,x.1<=t/\t<x.2:=by simp [uE,aJh]
theorem xS (x:Int × Int) (l:Iv) (t:Int):uE (x::l) t=(aJh t x || uE l t):=rfl
theorem tJ.nil:tJ []:=⟨by simp,.nil⟩
theorem tJ.cons {x:Int × Int} {l:Iv} (h:tJ l) (h1:x.1<x.2) (h2:∀ y∈l,x.2<y.1):tJ (x::l):=
  ⟨fun y hy=>by
    rcases aE.1 hy with rfl|hy
    · exact h1
    · exact h.1 y hy,aW.2 ⟨h2,h.2⟩⟩
/-! sets that are checked -/
/-! one more span -/
/-! intersection,span by span -/
/-! ends of spans -/
theorem aO4 {cs:List Ct} {l:List Bk} (h:gK (bkE cs l) l.length=0):l.Pairwise (fun x y=>x.c<y.c\/(x.c=y.c/\x.b<=y.a)):=by
  have hok:=aLu h
  have hlt:∀ x∈l,x.a<x.b:=fun x hx=>by
    obtain ⟨_,c,_,_,h2,_⟩:=hok x hx
    exact h2
  have hstep:∀ i,(hi:i+1<l.length)->l[i].c<l[i+1].c\/(l[i].c=l[i+1].c/\l[i].b<=l[i+1].a):=fun i hi=>by
    have h2:=jO h (i+1) hi
    rw [aF8 (aA hi)] at h2
    split at h2
    · omega
    rw [if_neg (by omega)] at h2
    rw [Nat.add_sub_cancel,aI,aA (by omega),cO] at h2
    unfold aSx at h2
    split at h2
    · omega
    rename_i h3
    split at h2
    · omega
    rename_i h4
    have h5:=(aBx _ _).1 (Decidable.not_not.1 h3)
    omega
  rw [aZ]
  intro i j hi hj hij
  obtain ⟨k,rfl⟩:∃ k,j=i+1+k:=⟨j-i-1,by omega⟩
  induction k with
  | zero=>exact hstep i hj
  | succ k ih =>
    have h1:=ih (by omega) (by omega)
    have h2:=hstep (i+1+k) (by omega)
    have h3:=hlt _ (cP (show i+1+k<l.length by omega))
    have e:i+1+(k+1)=i+1+k+1:=by omega
    simp only [e];omega
theorem aB1 {cs:List Ct} {l:List Bk} (h:gK (bkE cs l) l.length=0) (c:Int):(kK l c).Pairwise (fun x y=>x.2<=y.1):=by
  unfold kK;rw [List.pairwise_map]
  refine ((aO4 h).filter _).imp_of_mem (fun {x y} hx hy hxy=>?_)
  have h1:=of_decide_eq_true (bT.1 hx).2
  have h2:=of_decide_eq_true (bT.1 hy).2
  dsimp only
  omega
theorem aNg {cs:List Ct} {l:List Bk} (h:gK (bkE cs l) l.length=0) {i:Nat} {c:Ct} (hc:cs[i]?=some c):∀ x∈kK l i,c.s<=x.1/\x.1<x.2/\x.2<=c.e:=fun x hx=>by
  unfold kK at hx
  obtain ⟨y,hy,rfl⟩:=bE.1 hx
  obtain ⟨hy1,hy2⟩:=bT.1 hy
  have h2:=of_decide_eq_true hy2
  obtain ⟨_,c',e,h3⟩:=aLu h y hy1
  rw [h2,cL,hc] at e
  obtain rfl:=Option.some.inj e
  exact h3
def mF (e:Int):Int->List (Int × Int)->List (Int × Int)
  | a,[]=>if a<e then [(a,e)] else []
  | a,x::l=>(if a<x.1 then [(a,x.1)] else []) ++ mF e x.2 l
theorem xU (e:Int):∀ (l:List (Int × Int)) (a:Int),(mF e a l).length<=l.length+1
  | [],a=>by unfold mF; split <;> simp
  | x::l,a=>by
    have:=xU e l x.2
    unfold mF;rw [aB,aS]
    split <;> simp <;> omega
theorem aJj {e:Int}:∀ {l:List (Int × Int)} {a:Int},(∀ x∈l,a<=x.1/\x.1<x.2/\x.2<=e)->l.Pairwise (fun x y=>x.2<=y.1)->tJ (mF e a l)/\(∀ z∈mF e a l,a<=z.1/\z.2<=e)/\∀ t,uE (mF e a l) t=(decide (a<=t/\t<e) && !(uE l t))
  | [],a,_,_=>by
    unfold mF
    by_cases h:a<e
    · rw [if_pos h]
      refine ⟨tJ.nil.cons h (by simp),fun z hz=>?_,fun t=>?_⟩
      · rw [bI.1 hz]
        exact ⟨cH _,cH _⟩
      · simp [uE,aJh]
    · rw [if_neg h]
      refine ⟨tJ.nil,by simp,fun t=>?_⟩
      rw [decide_eq_false (by omega)]
      simp [uE]
  | x::l,a,hb,hp=>by
    obtain ⟨p1,p2⟩:=aW.1 hp
    obtain ⟨h1,h2,h3⟩:=hb x (by simp)
    obtain ⟨k1,k2,k3⟩:=aJj (e:=e) (l:=l) (a:=x.2) (fun y hy=>⟨p1 y hy,(hb y (by simp [hy])).2⟩) p2
    unfold mF
    have hm:∀ t,uE l t=true->x.2<=t:=fun t ht=>by
      obtain ⟨y,hy,h4,_⟩:=vU.1 ht
      have:=p1 y hy
      omega
    have hx:∀ t,aJh t x=decide (x.1<=t/\t<x.2):=fun t=>by rw [eC,aJi,decide_eq_true_eq]
    by_cases h:a<x.1
    · rw [if_pos h,List.singleton_append]
      refine ⟨k1.cons h (fun z hz=>?_),fun z hz=>?_,fun t=>?_⟩
      · have:=k2 z hz
        dsimp only
        omega
      · rcases aE.1 hz with rfl|hz
        · dsimp only; omega
        · have:=k2 z hz; omega
      · rw [xS,xS,k3,hx]
        have e1:aJh t (a,x.1)=decide (a<=t/\t<x.1):=by rw [eC,aJi,decide_eq_true_eq]
        rw [e1]
        have hmt:=hm t
        cases hml:uE l t with
        | true =>
          have:=hmt hml
          rw [decide_eq_false (show ¬ (a<=t/\t<x.1) by omega)]
          simp
        | false =>
          simp only [Bool.not_false,Bool.and_true,Bool.or_false];rw [eC];simp only [eG,aJ,decide_eq_true_eq,dH,decide_eq_false_iff_not];omega
    · rw [if_neg h,aH]
      refine ⟨k1,fun z hz=>by have:=k2 z hz; omega,fun t=>?_⟩
      rw [xS,k3,hx]
      have hmt:=hm t
      cases hml:uE l t with
      | true =>
        have:=hmt hml
        simp
      | false =>
        simp only [Bool.not_false,Bool.and_true,Bool.or_false];rw [eC];simp only [aJ,decide_eq_true_eq,dH,decide_eq_false_iff_not];omega
def iW (cs:List Ct) (bs:List Bk) (i:Nat):List (Int × Int):=match cs[i]? with
  | some c=>mF c.e c.s (kK bs i)
  | none=>[]
theorem rO {cs:List Ct} {bs:List Bk} (h:gK (bkE cs bs) bs.length=0) {i:Nat} {c:Ct} (hc:cs[i]?=some c):tJ (iW cs bs i)/\(∀ z∈iW cs bs i,c.s<=z.1/\z.2<=c.e)/\∀ t,uE (iW cs bs i) t=(decide (c.s<=t/\t<c.e) && !(vR bs i t)):=by
  have hf:iW cs bs i=mF c.e c.s (kK bs i):=by unfold iW; rw [hc]
  rw [hf];exact aJj (aNg h hc) (aB1 h i)
def tK:Nat->Int->List Int
  | 0,_=>[]
  | n+1,left=>if 0<left then min left 16::tK n (left-16) else []
def rP (s:Int):List Int:=tK s.toNat s
def nA (c:Ct) (n:Int):Int:=(n+8+c.r-1) / c.r
def aJk (c:Ct) (s:Int):Int:=(rP s).foldl (fun a n=>a+nA c n) 0
def kC (c:Ct) (s:Int):Int:=aJk c s+c.l*(2*c.g+1+nA c 16)
theorem aJl:∀ (n:Nat) (s:Int),s<=n->(∀ x∈tK n s,1<=x/\x<=16)/\(∀ (j:Nat) x,(tK n s)[j]?=some x->x=min (s-16*j) 16/\0<s-16*j)/\(0<s->0<(tK n s).length)/\16*(tK n s).length<max 0 s+16/\s<=16*(tK n s).length
  | 0,s,h=>⟨fun x hx=>(by cases hx),fun j x hx=>(by cases hx),fun h0=>(by omega),by simp [tK]; omega,by simp [tK]; omega⟩
  | n+1,s,h=>by
    unfold tK
    by_cases h0:0<s
    · obtain ⟨a,b,c,d,e⟩:=aJl n (s-16) (by omega)
      rw [if_pos h0]
      refine ⟨fun x hx=>?_,fun j x hx=>?_,fun _=>by simp,?_,?_⟩
      · rcases aE.1 hx with rfl|hx
        · omega
        · exact a x hx
      · cases j with
        | zero=>simp at hx; subst hx; exact ⟨by simp,by omega⟩
        | succ j =>
          simp only [dY] at hx
          have:=b j x hx
          omega
      · rw [aS]; omega
      · rw [aS]; omega
    · rw [if_neg h0]
      refine ⟨fun x hx=>(by cases hx),fun j x hx=>(by cases hx),fun h=>absurd h h0,?_,?_⟩
      · simp; omega
      · simp; omega
theorem aB2 (s:Int) (h0:0<=s):(∀ x∈rP s,1<=x/\x<=16)/\(∀ (j:Nat) x,(rP s)[j]?=some x->x=min (s-16*j) 16/\0<s-16*j)/\(0<s->0<(rP s).length)/\16*(rP s).length<max 0 s+16/\s<=16*(rP s).length:=aJl _ _ (by omega)
theorem rQ {c:Ct} {n:Int} (hr:1<=c.r) (hn:1<=n/\n<=16):1<=nA c n/\nA c n<=24:=by
  unfold nA
  constructor
  · exact (Int.le_ediv_iff_mul_le (by omega)).2 (by omega)
  · refine Int.le_of_lt_add_one ((Int.ediv_lt_iff_lt_mul (by omega)).2 ?_)
    have:c.r*24≥24+24*(c.r-1):=by omega
    omega
theorem aGc (c:Ct) (hr:1<=c.r):∀ (l:List Int) (a:Int),(∀ x∈l,1<=x/\x<=16)->a+l.length<=l.foldl (fun a n=>a+nA c n) a/\l.foldl (fun a n=>a+nA c n) a<=a+24*l.length
  | [],a,h=>by simp
  | x::l,a,h=>by
    have:=aGc c hr l (a+nA c x) (fun y hy=>h y (by simp [hy]))
    have hx:=rQ hr (h x (by simp))
    rw [eZ,aS];omega
theorem aAe {c:Ct} {s:Int} (hc:iC c=0) (hs:1<=s/\s<=65536):1<=kC c s/\kC c s<=40000000/\0<=aJk c s/\aJk c s<=100000:=by
  have hok:aBp c:=by
    unfold iC at hc
    split at hc
    · omega
    · rename_i h; exact Decidable.not_not.1 h
  obtain ⟨_,_,hr,hg,hl⟩:=hok
  obtain ⟨a,b,d,e,f⟩:=aB2 s (by omega)
  have h1:=aGc c hr.1 (rP s) 0 a
  have h2:=d (by omega)
  have h3:=rQ (c:=c) (n:=16) hr.1 (by omega)
  have h4:0<=c.l*(2*c.g+1+nA c 16)/\c.l*(2*c.g+1+nA c 16)<=16*(2*c.g+1+nA c 16):=⟨Int.mul_nonneg hl.1 (by omega),Int.mul_le_mul_of_nonneg_right hl.2 (by omega)⟩
  unfold kC aJk;omega
def fW (qs:List Int) (cs:List Ct) (bs:List Bk) (hs:List Hd) (q:Rq):Gr:=⟨cs,q,(List.range cs.length).map (iW cs bs),(List.range qs.length).map (fun n=>jH (qs.getD n 0) q.size (lvH hs n)),cs.map (fun c=>kC c q.size)⟩
def nF (n:Nat) (q:Rq):Prop:=(0<=q.src/\q.src<n/\0<=q.dst/\q.dst<n)/\q.src≠q.dst/\(1<=q.size/\q.size<=65536/\0<=q.rdy/\q.rdy<=q.dln/\q.dln<=1099511627776)/\0<=q.pri/\q.pri<=2
structure TOK (qs:List Int) (cs:List Ct) (bs:List Bk) (hs:List Hd) (q:Rq):Prop where
  t:aC8 qs cs bs hs=0
  q:nF qs.length q
  lq:qs.length<=6
  lc:cs.length<=11
theorem aW6 {n:Nat} {cs:List Ct} {i:Nat} {c:Ct} (hc:cs[i]?=some c) (h:ctE n cs i=0):iC c=0/\c.f<n/\c.t<n:=by
  unfold ctE at h;rw [hc] at h;simp only at h
  split at h
  · contradiction
  · rename_i h1
    split at h
    · omega
    · exact ⟨Decidable.not_not.1 h1,by omega,by omega⟩
theorem aB3 {qs:List Int} {cs:List Ct} (h:gD qs cs=0):(1<=qs.length/\qs.length<=16/\cs.length<=64)/\gK (aF0 qs) qs.length=0/\gK (ctE qs.length cs) cs.length=0:=by
  unfold gD at h
  split at h
  · omega
  · split at h
    · contradiction
    · rename_i h1 h2
      exact ⟨by omega,Decidable.not_not.1 h2,h⟩
theorem chkPl_ct {qs:List Int} {cs:List Ct} (h:gD qs cs=0) {c:Ct} (hc:c∈cs):iC c=0/\c.f<qs.length/\c.t<qs.length:=by
  obtain ⟨i,hi,rfl⟩:=bB hc
  exact aW6 (aA hi) (jO (aB3 h).2.2 i hi)
theorem mS {qs:List Int} {cs:List Ct} {hs:List Hd} (h:sX qs cs hs=0):hs.length<=512/\∀ x∈hs,lN qs.length x:=by
  unfold sX at h
  split at h
  · omega
  · split at h
    · omega
    · split at h
      · contradiction
      · rename_i h1 h2 h3
        refine ⟨by omega,fun x hx=>?_⟩
        have:=aLo (Decidable.not_not.1 h3) x (by rw [bJ]; exact hx)
        exact this
theorem zX (l:List Hd) (n:Int):(tmH l n).length<=2*l.length:=by
  unfold tmH
  induction l with
  | nil=>simp
  | cons x l ih =>
    rw [cU,aB,aS]
    have:(if x.n=n then [x.a,x.b] else []).length<=2:=by split <;> simp
    omega
theorem zZ (l:List Hd) (n:Int):(lvH l n).length<=2*l.length:=by
  unfold lvH
  have h1:=vM (stored l n) (hts l n) 0
  have h2:(hts l n).length<=(tmH l n).length:=by
    unfold hts
    exact cT (Go.Lib.compact_length_le _) (by rw [fD]; omega)
  have:=zX l n
  omega
theorem aO5 (Q s:Int) (f:List Lv):(jH Q s f).length<=f.length+2:=by
  have h1:=aF6 Q s f f.length
  unfold frS at h1;rw [bJ] at h1;unfold jH aLp
  split
  · rw [aB,bM]; omega
  · omega
section
variable {qs:List Int} {cs:List Ct} {bs:List Bk} {hs:List Hd} {q:Rq}
theorem aAf (qs:List Int) (cs:List Ct) (bs:List Bk) (hs:List Hd) (q:Rq) {i:Nat} (h:i<cs.length):(fW qs cs bs hs q).gaps[i]?=some (iW cs bs i):=by
  show ((List.range cs.length).map (iW cs bs))[i]?=_
  rw [aY,List.getElem?_range h]; rfl
theorem iV (h:TOK qs cs bs hs q):GOK (fW qs cs bs hs q):=by
  obtain ⟨ht,hq,lq,lc⟩:=h
  obtain ⟨hp,hb,hh⟩:=jQ ht
  obtain ⟨hb1,hb2⟩:=qC hb
  obtain ⟨hh1,hh2⟩:=mS hh
  have hrl:(fW qs cs bs hs q).rooms.length=qs.length:=by simp [fW]
  refine ⟨fun c hc=>?_,lc,by simp [fW],by simp [fW],fun l hl=>?_,fun l hl=>?_,by rw [hrl]; exact lq,fun d hd=>?_,?_⟩
  · have:=chkPl_ct hp (c:=c) hc
    rw [hrl];exact ⟨this.1,this.2.2⟩
  · obtain ⟨i,hi,rfl⟩:=bE.1 hl
    rw [List.mem_range] at hi
    have hc:=aA hi
    obtain ⟨f1,f2,f3⟩:=rO hb2 hc
    have hse:=vL (chkPl_ct hp (aF hc)).1
    refine ⟨?_,fun p hpp=>?_⟩
    · have e:iW cs bs i=mF cs[i].e cs[i].s (kK bs i):=by unfold iW; rw [hc]
      rw [e]
      have h1:=xU cs[i].e (kK bs i) cs[i].s
      have h2:=xO bs i
      omega
    · have h1:=f1.1 p hpp
      have h2:=f2 p hpp
      omega
  · obtain ⟨i,hi,rfl⟩:=bE.1 hl
    have hA:=(oE (n:=i) (Q:=qs.getD i 0) (s:=q.size) hh2 (by omega)).1
    refine ⟨?_,hA.sep,fun p hpp=>?_⟩
    · have h1:=aO5 (qs.getD i 0) q.size (lvH hs i)
      have h2:=zZ hs i
      omega
    · have:=hA.ok p hpp; omega
  · obtain ⟨c,hc,rfl⟩:=bE.1 hd
    have:=aAe (s:=q.size) (chkPl_ct hp hc).1 ⟨hq.2.2.1.1,hq.2.2.1.2.1⟩
    omega
  · rw [hrl]
    obtain ⟨⟨a1,a2,a3,a4⟩,b,⟨c1,c2,c3,c4,c5⟩,_⟩:=hq
    exact ⟨a1,a2,a3,a4,c3,c4,c5,b⟩
theorem pK (h:TOK qs cs bs hs q) (i:Nat):((fW qs cs bs hs q).gaps.getD i []).Pairwise (fun x y=>x.2<y.1):=by
  obtain ⟨hp,hb,hh⟩:=jQ h.t
  by_cases hi:i<cs.length
  · rw [aI,aAf qs cs bs hs q hi,cO]
    exact (rO (qC hb).2 (aA hi)).1.2
  · have:(fW qs cs bs hs q).gaps[i]?=none:=by
      rw [List.getElem?_eq_none_iff]; simp [fW]; omega
    rw [aI,this];exact .nil
end
end Go.Step
namespace Go.Proofs.YtnijkofdlepfjaaGreat
open Go.Eng Go.Step
set_option maxRecDepth 100000
set_option maxHeartbeats 64000000
theorem aUy {c:Ct} (hc:iC c=0):aBp c:=by
 unfold iC at hc
 split at hc
 ·omega
 ·rename_i h; exact Decidable.not_not.1 h
theorem aB4 (c:Ct) (n:Int) (hr:1<=c.r/\c.r<=1000) (hn:1<=n/\n<=16):Ans Tryz.prog (fv 219) [.agg #[int c.f,int c.t,int c.s,int c.e,int c.r,int c.g,int c.l],int n] [] (fun r=>r=int (nA c n)):=by
 refine A8 Tryz.func219 Tryz.ntmps219 fun N β=>?_
 unfold nA;refine Aa ?_
 refine B8 fun b=>?_
 refine Abq ?_;refine CF ?_;refine Aac ?_;refine CF ?_;refine CC ?_;refine Aac ?_;refine aW3 ?_;refine Aaa ?_;exact AV ⟨rfl,rfl⟩
theorem aO6 (s:Int):Eng.Spec Tryz.prog (fv 265) [int s] [] [] (fun r H'=>∃ c1,r=.func (.func 284) #[] #[.pointer (some ⟨c1,0,none⟩)]/\H'=[sng c1 (.cells #[int s] 3 (0,0))]):=by
 refine A8 Tryz.func265 Tryz.ntmps265 fun N β=>?_
 refine Aa ?_
 refine C3 fun c1=>?_
 refine Aaa ?_;refine Adj ?_;refine Aaa ?_;exact AV ⟨c1,rfl,rfl⟩
theorem aO7 (c1:Nat) (s:Int) (hs:1<=s/\s<=65536) :
  aP4 Tryz.prog (.func (.func 284) #[] #[.pointer (some ⟨c1,0,none⟩)]) [sng c1 (.cells #[int s] 3 (0,0))] ((rP s).map (fun n=>[int n])):=by
 intro y S Own Inv Stop Ry hy hyl σ0 hI0
 obtain ⟨yl,rfl⟩:=hyl
 obtain ⟨h1,h2,h3,h4,h5⟩:=aB2 s (by omega)
 generalize rP s=Q at hy hI0 h1 h2 h3 h4 h5 ⊢
 have bx58_3:=rdB c1 3 [int s]
 have v1:=rdC bx58_3 0
 simp only [aG,aH]
 refine CU [.pointer (some ⟨c1,0,none⟩)] Tryz.func284 Tryz.ntmps284 fun N β=>?_
 refine Abb ?_;refine Aaa ?_;refine AM ?_
 refine BE [0,1] (X:=Nat × Int × S) (0,s,σ0) (fun z=>z.1<=Q.length/\z.2.1=s-16*z.1/\Inv z.1 z.2.2) (fun z=>[(3,int z.2.1)]) (fun z=>Own z.2.2) (fun z=>Q.length-z.1) fT ⟨by dsimp only; omega,by dsimp only; omega,hI0⟩ fP Sel.refl ?_
 rintro ⟨k,lf,σ1⟩ ⟨hk,hlf,hI⟩
 dsimp only at hk hlf hI ⊢
 by_cases hlt:k<Q.length
 rotate_left
 ·have hke:k=Q.length:=by omega
  subst hke;refine Aag ?_;refine B7 ?_;refine Aa7 ?_
  refine BJ (gY rfl) (fun _ h=>h) Sel.refl ⟨σ1,rfl,.inl ?_⟩
  rw [aU];exact hI
 have hx:=aA hlt
 have hb:=h1 _ (aF hx)
 obtain ⟨e1,e2⟩:=h2 k _ hx
 have hya:=hy k σ1 [int Q[k]] (by rw [aY,hx]; rfl) hI
 rw [← hlf] at e1 e2
 generalize Q[k]=x at hx hb e1 hya
 refine Aag ?_;refine Adt ?_;refine Aat ?_;refine Aaw ?_;refine GS ?_
 focus ((rw [← e1]))
 refine BG hya rfl rfl gA.all (fun τ hτ=>.inl (by simp [hτ])) rfl rfl ?_
 rintro _ H' ⟨σ2,rfl,⟨rfl,hI2⟩|⟨rfl,hSt⟩⟩
 ·rw [bX]
  refine Acn ?_;refine Aay ?_;refine AB ?_;refine CC ?_;refine Aaa ?_
  exact AZ (k+1,lf-16,σ2) ⟨by dsimp only; omega,by dsimp only; omega,hI2⟩ (by dsimp only; omega) fP Sel.refl
 ·rw [bX]
  refine Aei ?_
  exact A2 (gY rfl) (fun _ h=>h) Sel.refl ⟨σ2,rfl,.inr hSt⟩
theorem aO8 (c:Ct) (s:Int) (hr:1<=c.r/\c.r<=1000) (hs:1<=s/\s<=65536):Ans Tryz.prog (fv 218) [.agg #[int c.f,int c.t,int c.s,int c.e,int c.r,int c.g,int c.l],int s] [] (fun r=>r=int (aJk c s)):=by
 refine A8 Tryz.func218 Tryz.ntmps218 fun N β=>?_
 obtain ⟨h1,h2,h3,h4,h5⟩:=aB2 s (by omega)
 have htk:=fun n hn=>aB4 c n hr hn
 refine Aa ?_
 refine BF fun b2 cb=>?_
 refine Aaa ?_;refine Aa ?_
 refine B5 fun b=>?_
 refine Abx ?_;refine Aag ?_
 revert b; intro b5
 refine BG (aO6 s) rfl rfl fU rdZ rfl rfl ?_;rintro _ _ ⟨c1,rfl,rfl⟩;simp only [aG,aH];refine AW (ρ:=sng c1 _) fL ?_;refine Ad3 ?_
 refine DL (gf:=284) (cap:=[.pointer (some ⟨c1,0,none⟩)]) (ps:=[9]) (X:=Int) rfl Tryz.func284 rfl rfl
  (aO7 c1 s hs) ?_ (fun j o=>o=((rP s).take j).foldl (fun a n=>a+nA c n) 0) (fun o=>[sng b5 (.cells #[int o] 3 (0,0))]) (fun _ _=>False) (0:Int) rfl fU rfl ?_ ?_ ?_
 ·intro σ hσ
  simp only [aE,bD,or_false] at hσ ⊢
  simp [hσ]
 ·rintro lo r j o vs hvs hI hps has hbd hst hpe hfr
  obtain ⟨st,pe,fnn,tm,prm,asg,bdy,df⟩:=r
  simp only at hps has hbd hst hpe hfr;subst hps has hbd hst hpe;rw [aY] at hvs
  obtain ⟨n,hn,rfl⟩:=aQ.1 hvs
  have hft:=aEi (fun a n=>a+nA c n) hn 0
  have hnb:=h1 n (aF hn)
  have hbd:=aGc c hr.1 ((rP s).take j) 0 (fun x hx=>h1 x (List.mem_of_mem_take hx))
  rw [← hI] at hft hbd;rw [aL] at hbd
  have htn:=rQ hr.1 hnb
  refine lF hfr rfl (by intro p hp; simp at hp; omega) aBm (fun N' β'=>?_)
  refine AA ?_;refine Aaa ?_;refine C7 rfl rfl ?_;refine DI fL rfl ?_;refine AM ?_
  refine A9 (.q 0 (.q 1 (.q 2 (.l 3 .e (.q 4 (.l 5 .b .nil)))))) [] rfl (by kernel_rfl) fK ?_
  refine AN ?_;refine Aef ?_;refine BZ (BQ rfl (htk n hnb) rfl rfl rdZ rfl rfl ?_);rintro _ rfl;refine DP ?_;refine Adr ?_;refine BB ?_;exact CD fL fQ fK ⟨_,.inl ⟨rfl,hft.symm,rfl⟩⟩
 ·rintro bm o hI
  rw [aU,bJ] at hI;subst hI;refine BB ?_;refine Abb ?_;refine Aaa ?_;exact FA (uQ.cons .here .nil) (qR rfl rfl) fQ fK ⟨rfl,rfl⟩
 ·rintro bm cc o' hf
  exact hf.elim
theorem aEj (c:Ct) (s:Int) (hc:iC c=0) (hs:1<=s/\s<=65536):Ans Tryz.prog (fv 166) [.agg #[int c.f,int c.t,int c.s,int c.e,int c.r,int c.g,int c.l],int s] [] (fun r=>r=int (kC c s)):=by
 have hbd:=aAe hc hs
 obtain ⟨hfr,htr,hr,hg,hl⟩:=aUy hc
 have hps:=aO8 c s hr hs
 have htk:=aB4 c 16 hr (by omega)
 have hm:0<=c.l*(2*c.g+1+nA c 16)/\c.l*(2*c.g+1+nA c 16)<=40000000:=by
  have:=rQ (c:=c) (n:=16) hr.1 (by omega)
  exact ⟨Int.mul_nonneg hl.1 (by omega),by unfold kC at hbd; omega⟩
 have ht:=rQ (c:=c) (n:=16) hr.1 (by omega)
 unfold kC at hbd ⊢
 refine A8 Tryz.func166 Tryz.ntmps166 fun N β=>?_
 refine Aa ?_
 refine BF fun b2 cb=>?_
 have f5:=rdC cb 5
 have f6:=rdC cb 6
 refine Aba ?_
 refine A9 (.q 0 (.q 1 (.q 3 (.q 4 (.q 5 (.q 6 (.q 7 (.q 8 (.q 9 (.l 2 .e (.l 10 .e (.q 11 (.q 12 (.q 13 (.q 14 .nil))))))))))))))) [] rfl (by kernel_rfl) fK ?_
 refine Aef ?_;refine Abj ?_;refine FO ?_;refine DP ?_;refine A7 ?_;refine BZ (BQ rfl hps rfl rfl rdZ rfl rfl ?_);rintro _ rfl
 skip
 refine BZ (BQ rfl htk rfl rfl rdZ rfl rfl ?_);rintro _ rfl;refine DP ?_;refine FO ?_;refine DP ?_;refine Ac ?_
 skip
 exact AV ⟨rfl,rfl⟩
theorem aB5 (c:Ct) (s:Int) (hc:iC c=0) (hs:1<=s/\s<=65536):Ans Tryz.prog (fv 165) [.agg #[int c.f,int c.t,int c.s,int c.e,int c.r,int c.g,int c.l],int s] [] (fun r=>r=int 0):=by
 have hck:=nN c
 rw [hc] at hck
 refine A8 Tryz.func165 Tryz.ntmps165 fun N β=>?_
 refine Aa ?_
 refine BF fun b2 cb=>?_
 refine Aba ?_;refine Aar ?_;refine A5 hck ?_;refine Adp ?_;refine BT (yW s 1 65536) rfl rfl rdZ rfl rfl ?_;rintro _ (⟨rfl,h⟩|⟨rfl,h⟩)
 ·refine BX ?_
  refine Aai ?_;refine Aam ?_;exact AV ⟨rfl,rfl⟩
 ·omega
theorem aJm (c:Ct) (s:Int) (hc:iC c=0) (hs:1<=s/\s<=65536):Ans Tryz.prog (fv 96) [.agg #[int c.f,int c.t,int c.s,int c.e,int c.r,int c.g,int c.l],int s] [] (fun r=>r=.tuple #[int (kC c s),int 0]):=by
 have hck:=aB5 c s hc hs
 have hdu:=aEj c s hc hs
 refine A8 Tryz.func96 Tryz.ntmps96 fun N β=>?_
 refine Aa ?_
 refine BF fun b2 cb=>?_
 refine Aaq ?_;refine AC ?_;refine Ad4 ?_;refine A5 hck ?_;refine Ac7 ?_;refine Ad4 ?_;refine A5 hdu ?_;refine Aaq ?_;exact A2 (mB rfl rfl rfl) fQ fK ⟨rfl,rfl⟩
end Go.Proofs.YtnijkofdlepfjaaGreat
namespace Go.Eng
variable {C:Cx} {D:List Deferred} {R Hf H:List PH} {L:Env} {K:List It} {ps ls:List Nat}
def isMv (all:Array Oper) (j:Nat):Bool:=match all[j]? with
  | some ⟨_,.move _,_,_,_,_⟩=>true
  | _=>false
theorem aUz {all:Array Oper} {j:Nat} {o:Oper} (h:isMv all j=true) (ho:all[j]?=some o):∃ x,o.op=.move x:=by
  unfold isMv at h;rw [ho] at h
  obtain ⟨d,op,a,b,c,e⟩:=o
  cases op <;> first|exact ⟨_,rfl⟩|(exfalso; simp at h)
theorem wQ.mv {all:Array Oper} {o:Oper} {v:Value} {H':List PH} (h:wQ C R H L all o v) {x:Operand} (hx:o.op=.move x) {w0:World} (hs:Sat C.N R H w0):wQ C R H' L all o v:=by
  rcases h with ⟨h1,h2⟩|h
  · refine .inl ⟨h1,h2.nd,fun a w hon _=>?_⟩
    have:=h2.run a w0 hon hs
    simp only [execOp,hx] at this ⊢
    simpa using this
  · exact .inr h
theorem F9 {all:Array Oper} {done:List Nat} {i:Nat} {rest:Pl} {o:Oper} {post:Value->List PH->Prop} {L':Value->Env} {Hf':List PH} (ho:all[i]?=some o) (hl:iX C R H L o post) (hg:gT all L o=some true)
    (hL:(∃ d,o.dst=some d/\Nat.blt d C.M=true/\L'=fun v=>(d,v)::L)\/(o.dst=none/\L'=fun _=>L))
    (hfull:((done.all fun j=>isMv all j || (qU all (all.size*all.size) (iG all i ++ ls) []).contains j) && ls.all (fun j=>Nat.blt j all.size))=true)
    (hsub:∀ v H',post v H'->∀ w,Sat C.N R H' w->Sat C.N R Hf' w)
    (h:∀ v H',post v H'->DJ C D R Hf' H' (L' v) all (i::done) ps (i::ls) rest K):mV C D R Hf H L all done ps ls i .b rest K:=by
  intro hlo hpl hrd fuel listed a w hinv hm
  simp only [nU] at hlo
  obtain ⟨k1,k2,k3⟩:=kH.1 hrd
  have hms:i<listed.size:=by rw [hinv.size]; exact k1
  have hrdy:=(mem_ready.1 hm).2.2
  have bnd:∀ j,listed.getD j false=true->j<all.size/\isL listed j:=fun j hlj=>by
    have hjs:j<all.size:=by
      rw [← hinv.size]
      cases hb:listed[j]? with
      | none=>simp [aP,hb] at hlj
      | some b=>exact (bP.1 hb).1
    exact ⟨hjs,(kS hinv.size hjs).1 hlj⟩
  have hall:∀ j∈done,isL listed j\/isMv all j=true:=fun j hj=>by
    rw [aJ,dA,dA] at hfull
    have h3:=hfull.1 j hj
    rw [eG] at h3
    rcases h3 with h3|h3
    · exact .inr h3
    refine .inl (wR (all:=all) (E:=fun j=>j<all.size/\isL listed j) (fun i hi=>hinv.dc i hi.1 hi.2) _ (iG all i ++ ls) [] (fun j hj=>?_) (by simp) j (by simpa using h3)).2
    rcases aM.1 hj with hj|hj
    · exact bnd j (hrdy j hj)
    · exact ⟨aT (hfull.2 j hj),hinv.lds j hj⟩
  have hpend:∀ j∈done,¬ isL listed j->ps.contains j=true/\pN all [j] i=true/\tN all [j] i=true:=fun j hj hnj=>by
    rw [dA] at hlo
    have h3:=hlo j hj
    simp only [eG,aJ] at h3
    rcases h3 with (h3|h3)|⟨⟨h3,h4⟩,h5⟩
    rotate_left
    · exact absurd (hinv.lds j (by simpa using h3)) hnj
    rotate_left
    · exact absurd (wR (all:=all) (E:=fun j=>j<all.size/\isL listed j) (fun i hi=>hinv.dc i hi.1 hi.2) _ (iG all i) [] (fun j hj=>bnd j (hrdy j hj)) (by simp) j (by simpa using h3)).2 hnj
    · exact ⟨h3,h4,h5⟩
  have hdata:∀ j∈done,¬ isL listed j->∀ d∈gP all j,d∉kQ all i:=fun j hj hnj d hd hr=>by
    have:=uP (hpend j hj hnj).2.2 j (by simp) d hd hr
    exact hnj (bnd j (hrdy j this)).2
  have hon:∀ t∈iK all o,∀ v,look L t=some v->a.tmps.getD t undef=v:=fun t ht v hv=>by
    rcases hinv.get t v hv with hg'|⟨j,hj,hnj,hjt⟩
    · exact hg'
    · exact absurd (by unfold kQ; rw [ho]; exact ht) (hdata j hj hnj t hjt)
  obtain ⟨l1,l2,l3⟩:=hinv.listed hm
  unfold wpOpIn;rw [ho];simp only;rw [if_pos (lA hg hon)]
  refine hl.run a w (aAk hon) hinv.sat _ _ (fun v H' w' hp hs'=>(h v H' hp).run hpl _ _ _ _ ?_)
  have back:∀ j∈done,¬ isL (listed.setIfInBounds i true) j->¬ isL listed j:=fun j _ hn hl=>hn ((gB hms).2 (.inr hl))
  have cs:∀ j,j∈i::done->¬ isL (listed.setIfInBounds i true) j->j∈done:=fun j hj hn=>by
    simp at hj
    rcases hj with rfl|hj
    · exact absurd ((gB hms).2 (.inl rfl)) hn
    · exact hj
  have hlds:∀ j∈i::ls,isL (listed.setIfInBounds i true) j:=fun j hj=>by
    simp at hj
    rcases hj with rfl|hj
    · exact (gB hms).2 (.inl rfl)
    · exact (gB hms).2 (.inr (hinv.lds j hj))
  have hfr:∀ j∈done,¬ isL listed j->∀ d∈gP all i,d∉kQ all j/\d∉gP all j:=fun j hj hnj d hd=>(qV (hpend j hj hnj).2.1 hd).2 j (by simp)
  refine ⟨l1,l2,fun j hj hlj=>?_,l3,?_,?_,hs',fun t u hu=>?_,fun j hj hnl=>?_,fun w hw=>hsub v H' hp w hw,hlds,fun j hj hnl k hk d' hd' hr=>?_,fun j hj hnl k hk hkj d' hd'=>?_,⟨k1,k3,hinv.chron⟩⟩
  · rcases (gB hms).1 hlj with rfl|hlj
    · simp
    · simp [hinv.sub j hj hlj]
  · have:=hinv.tm
    cases hd:o.dst <;> simpa [Act.put] using this
  · have:=hinv.df
    cases hd:o.dst <;> simpa [Act.put] using this
  · rcases hL with ⟨d,hd,hM,rfl⟩|⟨hd,rfl⟩
    · rw [hd]
      simp only at hu;rw [gV] at hu
      by_cases e:d=t
      · subst e
        simp only [if_true,aD] at hu; subst hu
        left
        simp [Act.put,hinv.tm,show d<C.M from aT hM]
      · rw [if_neg e] at hu
        rcases hinv.get t u hu with hg'|⟨j,hj,hnj,hjt⟩
        · left; simpa [Act.put,aP,e] using hg'
        · right
          refine ⟨j,by simp [hj],fun hlj=>?_,hjt⟩
          rcases (gB hms).1 hlj with rfl|hlj
          · exact k2 hj
          · exact hnj hlj
    · rw [hd]
      simp only [Act.put] at hu ⊢
      rcases hinv.get t u hu with hg'|⟨j,hj,hnj,hjt⟩
      · exact .inl hg'
      · right
        refine ⟨j,by simp [hj],fun hlj=>?_,hjt⟩
        rcases (gB hms).1 hlj with rfl|hlj
        · exact k2 hj
        · exact hnj hlj
  · have hj':=cs j hj hnl
    have hnj:=back j hj' hnl
    have hmv:=(hall j hj').resolve_left hnj
    obtain ⟨o',d',v',e1,e2,e3,e4,e5⟩:=hinv.prom j hj' hnj
    obtain ⟨x,hx⟩:=aUz hmv e1
    rw [(hpend j hj' hnj).1,if_pos rfl] at e5 ⊢
    have e6:wQ C R Hf' L all o' v':=e5.mv hx (hinv.hf w hinv.sat)
    rcases hL with ⟨d,hd,hM,rfl⟩|⟨hd,rfl⟩
    · have hdi:d∈gP all i:=by unfold gP; rw [ho]; simp [hd]
      obtain ⟨f1,f2⟩:=hfr j hj' hnj d hdi
      have hne:d≠d':=fun e=>f2 (by unfold gP; rw [e1]; simp [e2,e])
      refine ⟨o',d',v',e1,e2,e3,by rw [gV,if_neg hne]; exact e4,e6.cons ?_⟩
      unfold kQ at f1; rw [e1] at f1; exact f1
    · exact ⟨o',d',v',e1,e2,e3,e4,e6⟩
  · have hj':=cs j hj hnl
    by_cases ek:k=i
    · subst ek
      exact absurd hr (hfr j hj' (back j hj' hnl) d' hd').1
    · exact hinv.data j hj' (back j hj' hnl) k (by simp at hk; exact hk.resolve_left ek) d' hd' hr
  · have hj':=cs j hj hnl
    by_cases ek:k=i
    · subst ek
      intro hdk
      exact (hfr j hj' (back j hj' hnl) d' hdk).2 hd'
    · exact hinv.uniq j hj' (back j hj' hnl) k (by simp at hk; exact hk.resolve_left ek) hkj d' hd'
end Go.Eng
namespace Go.Proofs.YtnijkofdlepfjaaGreat
open Go.Eng Go.Step
set_option maxRecDepth 100000
set_option maxHeartbeats 64000000
theorem chkPl_ct {qs:List Int} {cs:List Ct} (h:gD qs cs=0):cs.length<=64/\∀ c∈cs,iC c=0/\c.f<qs.length/\c.t<qs.length:=by
 unfold gD at h
 by_cases h1:qs.length<1\/16<qs.length\/64<cs.length
 ·rw [if_pos h1] at h; omega
 rw [if_neg h1] at h
 by_cases h2:gK (aF0 qs) qs.length=0
 ·rw [if_neg (by simpa using h2)] at h
  refine ⟨by omega,fun c hc=>?_⟩
  obtain ⟨i,hi,rfl⟩:=bB hc
  have h3:=jO h i hi
  rw [aSn (aA hi)] at h3
  by_cases h4:iC cs[i]=0
  ·rw [if_neg (by simpa using h4)] at h3
   by_cases h5:(qs.length:Int)<=cs[i].f\/(qs.length:Int)<=cs[i].t
   ·rw [if_pos h5] at h3; omega
   ·exact ⟨h4,by omega,by omega⟩
  ·rw [if_pos h4] at h3; exact absurd h3 h4
 ·rw [if_pos h2] at h; exact absurd h h2
theorem xV {c:Ct} (h:iC c=0):(0<=c.f/\c.f<=15)/\(0<=c.t/\c.t<=15)/\(0<=c.s/\c.s<c.e/\c.e<=1099511627776)/\(1<=c.r/\c.r<=1000)/\(1<=c.g/\c.g<=1048576):=by
 have h2:=vL h
 unfold iC at h
 by_cases h1:aBp c
 ·unfold aBp at h1
  exact ⟨h1.1,h1.2.1,h2,h1.2.2.1,h1.2.2.2.1⟩
 ·rw [if_pos h1] at h; omega
end Go.Proofs.YtnijkofdlepfjaaGreat
namespace Go.Eng
section
variable {C:Cx} {R H:List PH} {L:Env}
def vV (P:Program):List Field->Option (List (Nat × Nat))
  | []=>some []
  | f::fs=>match szP P f.type,vV P fs with
    | some n,some r=>some ((f.offset,n)::r)
    | _,_=>none
def aB6 (L:Env):List (Nat × Operand)->Option (List (Nat × Value))
  | []=>some []
  | (i,x)::ps=>match fM L x,aB6 L ps with
    | some v,some r=>some ((i,v)::r)
    | _,_=>none
def aJn (pl:List (Nat × Nat)):List Value->List (Nat × Value)->Option (List Value)
  | zs,[]=>some zs
  | zs,(i,v)::r=>match pl[i]? with
    | none=>none
    | some (off,size)=>if v.cells.size=size/\off+size<=zs.length then aJn pl (zs.take off ++ (v.cells.toList ++ zs.drop (off+size))) r else none
theorem aJo {pl:List (Nat × Nat)}:∀ {pvs:List (Nat × Value)} {zs out:List Value},aJn pl zs pvs=some out->Instr.fill (fun i=>pl[i]?) zs.toArray pvs=some out.toArray
  | [],zs,out,h=>by simp [aJn] at h; subst h; rfl
  | (i,v)::r,zs,out,h=>by
    unfold aJn at h;unfold Instr.fill
    split at h
    · simp at h
    · rename_i off size e
      rw [e]
      split at h
      · rename_i hc
        have ih:=aJo h
        have hs:=qT v.cells.toList 0 off zs.toArray (by simp; omega)
        simp only
        rw [if_neg (by simp; omega)]
        rw [← ih]
        congr 1
        apply Array.ext'
        simpa [← Array.toList_zipIdx,← hc.1] using hs
      · simp at h
theorem aEk {a:Act}:∀ {ps:List (Nat × Operand)} {pvs:List (Nat × Value)},aB6 L ps=some pvs->(∀ x∈ps.map (·.2),OnE L a x)->ps.map (fun (x:Nat × Operand)=>(x.1,a.eval x.2))=pvs
  | [],pvs,h,_=>by simp [aB6] at h; subst h; rfl
  | (i,x)::ps,pvs,h,hx=>by
    unfold aB6 at h
    split at h
    · rename_i v r e1 e2
      simp at h; subst h
      rw [dK,aEk e2 (fun y hy=>hx y (by simp at hy ⊢; exact .inr hy)),hx x (by simp) v e1]
    · simp at h
theorem zA {P:Program}:∀ (fs:List Field) (pl:List (Nat × Nat)) (w:World),vV P fs=some pl->(fs.mapM (fun f=>Prod.mk f.offset <$> sizeOf f.type:Field->Sem (Nat × Nat))).run P w=.ok pl w
  | [],pl,w,h=>by simp [vV] at h; subst h; simp
  | f::fs,pl,w,h=>by
    unfold vV at h
    split at h
    · rename_i n r e1 e2
      simp at h; subst h
      simp [fG,run_sizeOf e1,zA fs r w e2]
    · simp at h
theorem CW {dst:Option Tmp} {ty:TypeId} {pos:String} {aft:Array Edge} {g:Option (Nat × Bool)} {t:TypeId} {ps:List (Nat × Operand)} {fs:List Field} {pl:List (Nat × Nat)} {pvs:List (Nat × Value)} {zs out:List Value}
    (hu:C.P.underlying t=some (.struct fs.toArray)) (hz:kD C.P t=some (.agg zs.toArray)) (hpl:vV C.P fs=some pl) (hv:aB6 L ps=some pvs) (ho:aJn pl zs pvs=some out) :
    fO C R H L ⟨dst,.build t ps.toArray,ty,pos,aft,g⟩ (.agg out.toArray):=
  ⟨by intro c; simp,fun a w hxx _=>by
    have h1:=aEk (a:=a) hv (fun x hx=>hxx x (by simp [Op.operands] at hx ⊢; exact hx))
    have h2:=zA fs pl w hpl
    have h3:=aJo ho
    simp only [execOp,Instr.build]
    simp [gI hz,Value.cells,run_underlying hu,h1,h2,h3]⟩
end
variable {L:Env} {R H:List PH}
theorem zB {fn:Func} {N:Bs} {M:Nat} {P:Program} {t b1:Nat} {T:TypeId} {v1:List Value} (hr:fn.results = #[.cell t T]) (ht:look L t=some (.pointer (some ⟨b1,0,none⟩))) (a1:lP P T=some true)
    (n1:szP P T=some v1.length) (c1:mU N R H b1 0 v1):∀ a w,Frm M L a->Sat N R H w->(results fn a.tmps).run P w=.ok (.agg v1.toArray) w:=by
  intro a w hf hs
  have e1:a.tmps[t]?.getD undef=.pointer (some ⟨b1,0,none⟩):=by simpa using hf.get t _ ht
  have l1:=run_loadCells_list (P:=P) (w:=w) ⟨b1,0,none⟩ v1 (fun j v hv=>by rw [Addr.add_lit]; exact c1 w hs j v hv)
  simp [results,hr,e1,loadVar,run_isAgg a1,run_sizeOf n1,l1,asAddr]
theorem zC {fn:Func} {N:Bs} {M:Nat} {P:Program} {t u b1:Nat} {T:TypeId} {v1:List Value} {v2:Value} (hr:fn.results = #[.cell t T,.tmp u]) (ht:look L t=some (.pointer (some ⟨b1,0,none⟩))) (hu:look L u=some v2) (a1:lP P T=some true)
    (n1:szP P T=some v1.length) (c1:mU N R H b1 0 v1):∀ a w,Frm M L a->Sat N R H w->(results fn a.tmps).run P w=.ok (.tuple #[.agg v1.toArray,v2]) w:=by
  intro a w hf hs
  have e1:a.tmps[t]?.getD undef=.pointer (some ⟨b1,0,none⟩):=by simpa using hf.get t _ ht
  have e2:a.tmps[u]?.getD undef=v2:=by simpa using hf.get u _ hu
  have l1:=run_loadCells_list (P:=P) (w:=w) ⟨b1,0,none⟩ v1 (fun j v hv=>by rw [Addr.add_lit]; exact c1 w hs j v hv)
  simp [results,hr,e1,e2,loadVar,run_isAgg a1,run_sizeOf n1,l1,asAddr]
end Go.Eng
namespace Go.Proofs.YtnijkofdlepfjaaGreat
open Go.Eng Go.Step
set_option maxRecDepth 100000
set_option maxHeartbeats 64000000
def jI (x:Lb):List Value:=[int x.n,int x.f,int x.t,int x.a]
def gE (h:Hp):List Value:=[int h.c,int h.b,int h.e,int h.a]
theorem jA (x:Lb):(jI x).length=4:=rfl
theorem gJ (x:Hp):(gE x).length=4:=rfl
def aSz (γ:PH) (p:Option Addr) (L:List (List (Int × Int))):Prop:=∀ i l,L[i]?=some l->∃ b o q k,p=some ⟨b,o,none⟩/\rdc γ b (o+i)=some (.slice q l.length k)/\SlE kX 2 γ (.slice q l.length k) l
structure GA where
 b:Nat
 pq:Option Addr
 nq:Nat
 kq:Nat
 pc:Option Addr
 kc:Nat
 pg:Option Addr
 kg:Nat
 pr:Option Addr
 kr:Nat
 pd:Option Addr
 kd:Nat
structure aJp (γ τ:PH) (A:GA) (G:Gr):Prop where
 qv:rdc γ A.b 0=some (.slice A.pq A.nq A.kq)
 nq:A.nq=G.rooms.length
 cv:rdc γ A.b 1=some (.slice A.pc G.cs.length A.kc)
 src:rdc γ A.b 4=some (int G.q.src)
 dst:rdc γ A.b 5=some (int G.q.dst)
 rdy:rdc γ A.b 7=some (int G.q.rdy)
 dln:rdc γ A.b 8=some (int G.q.dln)
 cus:rdc γ A.b 10=some (.bool G.q.cus)
 gv:rdc γ A.b 11=some (.slice A.pg G.gaps.length A.kg)
 rv:rdc γ A.b 12=some (.slice A.pr G.rooms.length A.kr)
 dv:rdc γ A.b 13=some (.slice A.pd G.dur.length A.kd)
 hc:nH zL 7 τ A.pc G.cs
 gaps:aSz γ A.pg G.gaps
 rooms:aSz γ A.pr G.rooms
 durs:nH Eng.encI 1 γ A.pd G.dur
abbrev gp (A:GA):Value:=.pointer (some ⟨A.b,0,none⟩)
theorem vW {α:Type} {l:List α} {i:Nat} {x d:α} (h:l[i]?=some x):l.getD i d=x:=by simp [aI,h]
theorem aLw {γ τ:PH} {A:GA} {G:Gr} (hG:aJp γ τ A G) (hg:GOK G) {i:Nat} {c:Ct} (hi:G.cs[i]?=some c) (h:Hp) (hc:h.c=i) (he:0<=h.e/\h.e<=9007199254740992) :
  Ans Tryz.prog (fv 156) [gp A,.agg (gE h).toArray] [γ,τ] (fun r=>r=int (jR G c h)):=by
 obtain ⟨bA,pq,nq,kq,pc,kc,pg,kg,pr,kr,pd,kd⟩:=A
 obtain ⟨qv,hnq,cv,src,dst,rdy,dln,cus,gv,rv,dv,hcs,gaps,rooms,durs⟩:=hG
 dsimp only at qv hnq cv src dst rdy dln cus gv rv dv hcs gaps rooms durs ⊢
 obtain ⟨bq,oq,rfl,hrd⟩:=oC hcs hi
 have g5:rdc τ bq (oq+i*7+5)=some (int c.g):=hrd.get (j:=5) rfl
 have hil:=(aC.1 hi).1
 have hlc:=hg.lc
 have hck:=xV (hg.cs c (aF hi)).1
 have hgg:1<=c.g/\c.g<=1048576:=hck.2.2.2.2
 obtain ⟨hc0,hb0,he0,ha0⟩:=h
 dsimp only at hc he
 subst hc;unfold jR
 have hgen:∀ q,G.q.cus=q->Ans Tryz.prog (fv 156) [.pointer (some ⟨bA,0,none⟩),.agg #[int (i:Int),int hb0,int he0,int ha0]] [γ,τ] (fun r=>r=int (if q then he0+2*c.g else he0)):=by
  intro q hq
  rw [hq] at cus
  refine A8 Tryz.func156 Tryz.ntmps156 fun N β=>?_
  cases q with
  | true =>
   refine Aa ?_
   refine B8 fun b=>?_
   refine Abv ?_;refine Acj ?_;refine Adg ?_;refine Aah ?_;refine AC ?_
   refine A9 (.q 0 (.q 1 (.q 2 (.q 3 (.q 4 (.q 5 (.q 6 (.q 7 (.q 8 (.q 9 (.q 10 (.q 11 (.q 12 (.q 13 (.q 14 (.q 15 .nil)))))))))))))))) [] rfl (by kernel_rfl) fK ?_
   refine Ac3 ?_;refine Abo ?_;refine AR ?_;refine Abj ?_;refine Ael ?_;refine FO ?_;refine DP ?_;refine Ac ?_
   skip
   exact AV ⟨rfl,rfl⟩
  | false =>
   refine Aa ?_
   refine B8 fun b=>?_
   refine Abv ?_;refine Acj ?_;refine Adg ?_;refine Aai ?_;refine Aan ?_;refine Aaa ?_;exact AV ⟨rfl,rfl⟩
 exact hgen _ rfl
theorem aGd {γ τ:PH} {A:GA} {G:Gr} (hG:aJp γ τ A G) (hg:GOK G) (n:Int) (hn:0<=n/\n<G.rooms.length) :
  aVr Tryz.prog (fv 154) [gp A,int n] [γ] (fun r ρ=>SlE kX 2 ρ r (iE G n)):=by
 obtain ⟨bA,pq,nq,kq,pc,kc,pg,kg,pr,kr,pd,kd⟩:=A
 obtain ⟨qv,hnq,cv,src,dst,rdy,dln,cus,gv,rv,dv,hcs,gaps,rooms,durs⟩:=hG
 dsimp only at qv hnq cv src dst rdy dln cus gv rv dv hcs gaps rooms durs ⊢
 unfold iE
 obtain ⟨m,rfl⟩:=dZ hn.1
 refine A8 Tryz.func154 Tryz.ntmps154 fun N β=>?_
 by_cases h:(m:Int)=G.q.dst
 ·rw [if_pos h]
  refine Aam ?_;refine Aav ?_;refine Acj ?_;refine Adg ?_;refine Aej ?_;refine Aa ?_;refine CB ?_
  refine BW fun b=>?_
  refine Aaa ?_;exact AV ⟨_,oI (l:=[((0:Int),1099511627776)]) mZ,.inl rfl⟩
 ·rw [if_neg h]
  have hlt:m<G.rooms.length:=by omega
  rw [cL]
  have hx:=aA hlt
  obtain ⟨b1,o1,q1,k1,rfl,h1,h2⟩:=rooms _ _ hx
  rw [vW hx];refine Aam ?_;refine Aav ?_;refine Acj ?_;refine Adg ?_;refine Acy ?_;refine Aab ?_;refine BO ?_;refine Aac ?_;refine AB ?_;refine Ac9 ?_;refine Aaa ?_
  exact AV ⟨γ,h2,.inr ⟨rfl,by simp⟩⟩
theorem aS0 {γ τ:PH} {A:GA} {G:Gr} (hG:aJp γ τ A G) (hg:GOK G) {i:Nat} {c:Ct} (hi:G.cs[i]?=some c) (fr:Int) (hfr:0<=fr/\fr<=2199023255552) :
  Ans Tryz.prog (fv 155) [gp A,int (i:Int),int fr] [γ,τ] (fun r=>r=.tuple #[.agg (gE ((oV G i c fr).getD ⟨0,0,0,0⟩)).toArray,.bool (oV G i c fr).isSome]):=by
 obtain ⟨bA,pq,nq,kq,pc,kc,pg,kg,pr,kr,pd,kd⟩:=A
 obtain ⟨qv,hnq,cv,src,dst,rdy,dln,cus,gv,rv,dv,hcs,gaps,rooms,durs⟩:=hG
 dsimp only at qv hnq cv src dst rdy dln cus gv rv dv hcs gaps rooms durs ⊢
 obtain ⟨bq,oq,rfl,hrd⟩:=oC hcs hi
 have g5:rdc τ bq (oq+i*7+5)=some (int c.g):=hrd.get (j:=5) rfl
 have hil:=(aC.1 hi).1
 have hlc:=hg.lc
 have hgl:=hg.gl
 have hdl:=hg.dl
 have hck:=xV (hg.cs c (aF hi)).1
 have hgg:1<=c.g/\c.g<=1048576:=hck.2.2.2.2
 obtain ⟨L,hL⟩:∃ L,G.gaps[i]?=some L:=⟨_,aA (by omega)⟩
 obtain ⟨d,hd⟩:∃ d,G.dur[i]?=some d:=⟨_,aA (by omega)⟩
 have hdd:=hg.dur d (aF hd)
 have hLL:=hg.gap L (aF hL)
 obtain ⟨bd,od,rfl,hdv⟩:=durs.int hd
 obtain ⟨bg,og,q,k,rfl,hgv,hSp⟩:=gaps i L hL
 obtain ⟨_,_,ew,hrw⟩:=SlE.val (enc:=kX) mZ hSp
 simp only [aN] at ew
 obtain ⟨rfl,_,rfl⟩:=ew
 have hres:oV G i c fr=(vS fr d L).map fun b=>⟨i,b,b+d,b+d+c.g⟩:=by
  unfold oV; rw [vW hd,vW hL]
 rw [hres]
 refine A8 Tryz.func155 Tryz.ntmps155 fun N β=>?_
 refine Aa ?_
 refine A3 fun b=>?_
 refine Abq ?_;refine BO ?_;refine Aac ?_;refine AB ?_;refine Ac9 ?_;refine Abv ?_;refine BO ?_;refine Aac ?_;refine AB ?_;refine Ac9 ?_;refine Abh ?_
 revert b; intro bR
 refine BE [0,1,2,26,27,7,8,6] (0:Nat) (fun k=>k<=L.length/\vS fr d L=vS fr d (L.drop k)) (fun k=>[(28,int k)]) (fun _=>[sng bR (.cells #[int 0,int 0,int 0,int 0] 62 (0,0))]) (fun k=>L.length-k) fT ⟨by omega,rfl⟩ fP fK ?_
 rintro k ⟨hk,hI⟩
 by_cases hlt:k<L.length
 ·have hx:=aA hlt
  have hpp:=hLL.2 _ (aF hx)
  have hsk:=aO0 (fr:=fr) (d:=d) hx
  obtain ⟨b6,o6,rfl,hRd6,y0,y1⟩:=aEh hrw hx
  generalize L[k]=y at hx hpp hsk hRd6 y0 y1
  obtain ⟨m,hm⟩:∃ m,max y.1 fr=m:=⟨_,rfl⟩
  have hm0:0<=m/\m<=2199023255552:=by omega
  rw [hm] at hsk
  by_cases hle:m+d<=y.2
  ·rw [if_pos hle] at hsk
   rw [hI,hsk];refine Ab2 ?_
   refine A3 fun b=>?_
   refine Aer ?_;refine EN ?_;refine Aaa ?_;refine Adh ?_;refine Aac ?_;refine EA ?_;refine Aah ?_;refine Adh ?_;refine Abq ?_;refine Aal ?_;refine Aal ?_;refine Acj ?_;refine AG ?_;refine Aac ?_;refine AB ?_;refine BL ?_;refine Adg ?_;refine CF ?_;refine CB ?_
   focus ((rw [hm]))
   refine Add ?_;exact A2 (zC (b1:=bR) (T:=62) (v1:=[int (i:Int),int m,int (m+d),int (m+d+c.g)]) rfl rfl rfl rfl rfl (fR gN)) fQ fK ⟨rfl,rfl⟩
  ·rw [if_neg hle] at hsk
   refine Ab2 ?_
   refine A3 fun b=>?_
   refine Aer ?_;refine EN ?_;refine Aaa ?_;refine Adh ?_;refine Aac ?_;refine DC ?_;refine Ace ?_
   focus ((rw [hm]))
   refine AZ (k+1) ⟨by omega,by rw [hI,hsk]⟩ (by omega) fP fK
 ·have hke:k=L.length:=by omega
  subst hke;rw [hI,List.drop_length];refine Abp ?_;refine Aa ?_;refine CB ?_;refine Add ?_;exact A2 (zC (b1:=bR) (T:=62) (v1:=[int 0,int 0,int 0,int 0]) rfl rfl rfl rfl rfl (fR gN)) fQ fK ⟨rfl,rfl⟩
end Go.Proofs.YtnijkofdlepfjaaGreat
namespace Go.Eng
theorem fS.form {e:TypeId} {s n:Nat} {v:Value} {xs:List Value} {ρ:PH} (h:fS e s v n xs ρ):∃ p c,v=.slice p n c:=by
  obtain ⟨_,⟨rfl,rfl,_⟩|⟨b,cap,_,rfl,_⟩⟩:=h
  · exact ⟨none,0,rfl⟩
  · exact ⟨_,cap,rfl⟩
theorem qO.mono {ρ γ:PH} {s n:Nat} {v:Value} {xs:List Value} (h:qO ρ s v n xs) (hs:PH.sub ρ γ):qO γ s v n xs:=by
  obtain ⟨h1,h2|⟨b,o,c,e,h3⟩⟩:=h
  · exact ⟨h1,.inl h2⟩
  · exact ⟨h1,.inr ⟨b,o,c,e,fun j u hu=>hs.rdc (h3 j u hu)⟩⟩
theorem SlE.mono {α:Type} {enc:α->List Value} {s:Nat} {ρ γ:PH} {v:Value} {l:List α} (h:SlE enc s ρ v l) (hs:PH.sub ρ γ):SlE enc s γ v l:=qO.mono h hs
variable {C:Cx} {D:List Deferred} {R H:List PH} {L:Env} {K:List It}
theorem CM {σ:PH} (h:JK C D R H L K):JK C D (σ::R) H L K:=
  ⟨fun a w hf hd hs=>h.run a w hf hd ⟨hs.sz,fun ρ hρ=>hs.r ρ (bS _ hρ),hs.h,hs.hd,fun ρ hρ=>hs.rd ρ (bS _ hρ)⟩⟩
theorem fS.formC {e:TypeId} {s n:Nat} {v:Value} {xs:List Value} {ρ:PH} (h:fS e s v n xs ρ):∃ p c,v=.slice p n c/\n<=c:=by
  obtain ⟨_,⟨rfl,rfl,_⟩|⟨b,cap,cur,rfl,_,h1,_⟩⟩:=h
  · exact ⟨none,0,rfl,aK _⟩
  · exact ⟨_,cap,rfl,h1⟩
theorem Sat.left_out {N:Bs} {w:World}:∀ {H':List PH},Sat N R (H' ++ H) w->Sat N R H w:=fun {H'} h =>
  ⟨h.sz,h.r,fun ρ hρ=>h.h ρ (aM.2 (.inr hρ)),(cC.1 h.hd).2.1,fun ρ hρ σ hσ=>h.rd ρ hρ σ (aM.2 (.inr hσ))⟩
end Go.Eng
