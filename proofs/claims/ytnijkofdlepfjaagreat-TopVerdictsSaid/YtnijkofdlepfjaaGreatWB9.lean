/- Texts of this proof, one after the other; no conditions. -/
import Derived.Test.YtnijkofdlepfjaaGreatWA
import Derived.Laws.BytesString
import Derived.Laws.Strings2
import Derived.Test.YtnijkofdlepfjaaGreatWB8
import Derived.Test.YtnijkofdlepfjaaGreatWB3
import Derived.Test.YtnijkofdlepfjaaGreatWB7
import Derived.Test.YtnijkofdlepfjaaGreatWB2
import Derived.Test.YtnijkofdlepfjaaGreatWB5
import Derived.Test.YtnijkofdlepfjaaGreatWB4
import Derived.Test.YtnijkofdlepfjaaGreatWB1
set_option linter.all false
namespace Go.Proofs.YtnijkofdlepfjaaGreat
open Go.Eng Go.Step
set_option maxRecDepth 100000
set_option maxHeartbeats 64000000
section
variable {ρ τ:PH} {pq pc:Option Addr} {kq kc:Nat} {qs:List Int} {cs:List Ct} {q:Rq}
theorem aGv (hq:gC ρ (.slice pq qs.length kq) qs) (hc:jW τ (.slice pc cs.length kc) cs) (hcap:cs.length<=kc) (lq:qs.length<=9223372036854775807) (lc:cs.length<=9223372036854775807) (hp:gD qs cs=0) (hs:1<=q.size/\q.size<=65536) (hr0:0<=q.rdy) {lam:PH} {pv:Option Addr} {cv:Nat} {l:List Hp} (hv:SlE gE 4 lam (.slice pv l.length cv) l) (hl:l.length<=1000) (k u:Int) (hch:qN cs q q.src q.rdy l) :
  jM Tryz.prog (fv 80) [.agg #[.slice pq qs.length kq,.slice pc cs.length kc],.agg #[int q.src,int q.dst,int q.size,int q.rdy,int q.dln,int q.pri,.bool q.cus],.slice pv l.length cv,int k,int u] [τ,lam] (fun r χ=>fS 259 5 r (hZ cs q k q.src q.rdy l).length ((hZ cs q k q.src q.rdy l).flatMap hY) χ):=by
 have hlv:=fun {h:Hp} {k:Nat} {c:Ct} (hi:cs[k]?=some c) (hk:h.c=k) hb=>wG (ρ:=ρ) (q:=q) hq hc hcap lq lc hp hi hk hb
 have hcp:=hp
 obtain ⟨_,_,e,hrv⟩:=SlE.val gJ hv
 simp only [aN] at e
 obtain ⟨rfl,_,rfl⟩:=e
 obtain ⟨_,_,e,hrc⟩:=hc.val iU
 simp only [aN] at e
 obtain ⟨rfl,_,rfl⟩:=e
 refine A8 Tryz.func80 Tryz.ntmps80 fun N β=>?_
 refine Aa ?_
 refine BF fun b5 cp=>?_
 refine BF fun b6 cr=>?_
 refine C3 fun b8=>?_
 refine AW (ρ:=sng b8 _) fL ?_;refine B9 ?_
 have cp1:=rdC cp 1
 have cr0:=rdC cr 0
 have cr1:=rdC cr 1
 have cr3:=rdC cr 3
 refine Aaa ?_;refine Aa ?_
 refine B5 fun b=>?_
 refine Aak ?_
 revert b; intro b11
 refine DG (X:=Nat × Nat) [2,4,5,6,8,11] (fun _=>True) (fun x=>[(12,.pointer (some ⟨x.1,0,none⟩)),(13,.pointer (some ⟨x.2,0,none⟩))]) (fun x=>[sng x.1 (.cells #[int q.src] 3 (0,0)),sng x.2 (.cells #[int q.rdy] 3 (0,0)),sng b11 (.cells #[.slice none 0 0] 39 (0,0)),emp]) fT ?_ ?_
 ·refine A9 (.q 0 (.q 1 (.p 2 (.p 3 (.l2 4 .e (.l 5 .e (.l 6 .b (.l 7 .b .nil))) 5 .e (.l 4 .e (.l 6 .b (.l 7 .b .nil)))))))) [] rfl (by kernel_rfl) fK ?_
  repeat' (first
   | (refine AN ?_)
   | (refine AR ?_)
   | (refine EJ ?_)
   | (refine DW ?_)
   | (refine BC ?_)
   | (refine EP ?_ ?_)
   | (refine E2 fun b=>?_)
   | (refine CI ?_)
   | (refine E1 fun b=>?_)
   | fail)
  all_goals exact CK (_,_) trivial fP fK
 rintro ⟨bN,bF⟩ _
 dsimp only
 refine Adj ?_;refine Abv ?_;refine Abh ?_
 refine BE [4,5,6,11,12,13,14,22,23] (X:=(Nat × (Int × (Int × Int))) × (List Hd × (Value × PH))) ((0,(q.src,(q.rdy,q.rdy))),([],(.slice none 0 0,emp))) (fun z=>z.1.1<=l.length/\qN cs q z.1.2.1 z.1.2.2.2 (l.drop z.1.1)/\z.1.2.2.1<=z.1.2.2.2/\hZ cs q k q.src q.rdy l=z.2.1 ++ hZ cs q k z.1.2.1 z.1.2.2.1 (l.drop z.1.1)/\z.2.1.length=z.1.1/\fS 259 5 z.2.2.1 z.2.1.length (z.2.1.flatMap hY) z.2.2.2) (fun z=>[(24,int (z.1.1:Int))]) (fun z=>[sng bN (.cells #[int z.1.2.1] 3 (0,0)),sng bF (.cells #[int z.1.2.2.1] 3 (0,0)),sng b11 (.cells #[z.2.2.1] 39 (0,0)),z.2.2.2]) (fun z=>l.length-z.1.1) fT ⟨cA _,hch,cH _,rfl,rfl,fS.nil _ _⟩ fP fK ?_
 rintro ⟨⟨i,⟨n1,⟨f1,t1⟩⟩⟩,⟨D,⟨v,σ⟩⟩⟩ ⟨hi,hcn,hft,hd,hDl,hO⟩
 dsimp only at hi hcn hft hd hDl hO ⊢
 by_cases hlt:i<l.length
 ·have hdk:l.drop i=l[i]::l.drop (i+1):=bU hlt
  rw [hdk] at hd hcn
  have hx:=aA hlt
  obtain ⟨bl,ol,rfl,hrd⟩:=hrv i _ hx
  generalize l[i]=h at hd hcn hx hrd
  obtain ⟨⟨kc1,c,hh⟩,hcn⟩:=hcn
  have hct:=hh.1
  have hcc:(aCd cs h.c).t=c.t:=by rw [hh.2.1,lZ hct]
  rw [hcc] at hcn
  have hil:=(aC.1 hct).1
  have hck:=((Go.Step.chkPl_ct hcp) (aF hct)).1
  have hg:=mA hck
  have hdp:=nB hck hs
  obtain ⟨_,g2,_,_,g5,g6,g7,g8,_⟩:=id hh
  have hle:=hlv hct g2 ⟨by omega,by omega⟩
  have hlw:h.e<=jS cs q h:=by unfold jS; rw [g2,lZ hct]; split <;> omega
  obtain ⟨bq,oq,rfl,hrq⟩:=oC hrc hct
  have q1:rdc τ bq (oq+kc1*7+1)=some (int c.t):=hrq.get (j:=1) rfl
  have hd2:hZ cs q k q.src q.rdy l=(D ++ [(⟨n1,f1,jS cs q h,q.size,k⟩:Hd)]) ++ hZ cs q k c.t h.b (l.drop (i+1)):=by
   rw [hd]; simp only [hZ,hcc,aR,aG,aH]
  have hadd:=aL6 (q:=q) bF b11 bN b6 b8 f1 n1 k (jS cs q h) (by omega) v σ D hO (by omega)
  have hgb:h.b<=h.a:=by have:=hh.2.2.2.2.2.2.2.2; omega
  generalize jS cs q h=lv at hle hd2 hadd hlw
  obtain ⟨hc0,hb0,he0,ha0⟩:=h
  dsimp only at g2 hcn hd2 hgb
  subst g2
  have hrd:RdN lam bl (ol+i*4) [int (kc1:Int),int hb0,int he0,int ha0]:=hrd
  refine Ab2 ?_
  refine A3 fun b=>?_
  refine Aa6 ?_;refine Aab ?_;refine AI ?_;refine AI ?_;refine AI ?_
  revert b; intro b16
  refine AW (ρ:=sng b16 _) fL ?_
  have mw:=rdB b16 62 [int (kc1:Int),int hb0,int he0,int ha0]
  have m0:=rdC mw 0
  have m1:=rdC mw 1
  skip
  refine A5 hle ?_;refine BG hadd rfl rfl fU rdZ rfl rfl ?_;rintro _ _ ⟨rfl,v2,σ2,hO2,rfl⟩;simp only [aG,aH];refine AE ?_
  refine A9 (.q 0 (.q 1 (.q 2 (.q 3 (.q 4 (.q 5 (.q 6 (.p 7 (.p 8 (.l 9 .b (.l 10 .b .nil))))))))))) [] rfl (by kernel_rfl) fK ?_
  refine Abj ?_;refine Ael ?_;refine DW ?_;refine EJ ?_;refine CI ?_;refine Adr ?_;refine Ad5 ?_
  exact AZ ((i+1,(c.t,(hb0,ha0))),(D ++ [(⟨n1,f1,lv,q.size,k⟩:Hd)],(v2,σ2))) ⟨by dsimp only; omega,hcn,hgb,hd2,by dsimp only; rw [aB,bM]; omega,hO2⟩ (by dsimp only; omega) fP fK
 have hke:i=l.length:=by omega
 subst hke;rw [List.drop_length] at hcn hd
 have hnd:n1=q.dst:=hcn
 have hD2:hZ cs q k q.src q.rdy l=D:=by rw [hd]; simp [hZ]
 rw [hD2]
 have hu:=kL _ _ _ _ hO
 refine Abp ?_;refine Ac5 ?_;refine Aac ?_;refine Abn ?_;refine Abb ?_;refine Aaa ?_;exact AV ⟨σ,hO,rfl⟩
end
theorem aDi (pq pc pb ph:Option Addr) (nq nc kq kc kb kh:Nat) (bs:List Bk) (hs:List Hd) (σ υ:PH) (hb:fS 118 4 (.slice pb bs.length kb) bs.length (bs.flatMap gX) σ) (hh:fS 259 5 (.slice ph hs.length kh) hs.length (hs.flatMap hY) υ) (lb:bs.length<=100000) (lh:hs.length<=100000) :
  Eng.Spec Tryz.prog (fv 81) [.agg #[.slice pq nq kq,.slice pc nc kc,.slice pb bs.length kb,.slice ph hs.length kh]] [] [σ,υ] (fun r H'=>r=.agg #[.slice pq nq kq,.slice pc nc kc,.slice pb bs.length kb,.slice ph hs.length kh]/\∃ bs' hs' σ' υ',bs'.Perm bs/\BkW bs'/\hs'.Perm hs/\nJ hs'/\fS 118 4 (.slice pb bs.length kb) bs'.length (bs'.flatMap gX) σ'/\fS 259 5 (.slice ph hs.length kh) hs'.length (hs'.flatMap hY) υ'/\H'=[σ',υ']):=by
 refine A8 Tryz.func81 Tryz.ntmps81 fun N β=>?_
 refine Aa ?_
 refine BF fun b1 ct=>?_
 refine CT fun b2=>?_
 have ct2:=rdC ct 2
 have ct3:=rdC ct 3
 refine AE ?_;refine Aan ?_
 refine BG (wE aTl (fv 150) aGu _ _ _ hb (by omega)) rfl rfl fU rdZ rfl rfl ?_
 rintro _ _ ⟨rfl,bs',σ',hpb,hsb,hO1,rfl⟩;simp only [aG,aH];refine AE ?_;refine Aan ?_
 refine BG (aGs aW9 (fv 152) aJ2 _ _ _ hh (by omega)) rfl rfl fU rdZ rfl rfl ?_
 rintro _ _ ⟨rfl,hs',υ',hph,hsh,hO2,rfl⟩;simp only [aG,aH];refine AE ?_;refine Aar ?_;refine Aa6 ?_;exact A2 (zB (b1:=b2) (T:=41) (v1:=[.slice pq nq kq,.slice pc nc kc,.slice pb bs.length kb,.slice ph hs.length kh]) rfl rfl rfl rfl (fR gN)) fQ fK ⟨rfl,bs',hs',σ',υ',hpb,hsb,hph,hsh,hO1,hO2,rfl⟩
end Go.Proofs.YtnijkofdlepfjaaGreat
namespace Go.Step
section
inductive Fro (G:Gr) (L:List Lb):Lb->List (Lb × Hp)->Prop
  | nil {y:Lb}:y.n=G.q.dst->Fro G L y []
  | cons {x:Lb} {m:Lb × Hp} {w:List (Lb × Hp)}:x∈L->m∈mvs G x->Fro G L m.1 w->Fro G L x ((x,m.2)::w)
theorem Fro.times {G:Gr} (hg:GOK G) {L:List Lb} {y:Lb} {w:List (Lb × Hp)} (h:Fro G L y w):(∀ p∈w,y.a<=p.1.a/\p.1∈L)/\w.Pairwise (fun p q=>p.1.a<q.1.a):=by
  induction h with
  | nil _=>exact ⟨fun p h=>(by cases h),.nil⟩
  | @cons x m w hx hm hw ih =>
    obtain ⟨i1,i2⟩:=ih
    have hla:=(lL hg hm).1
    refine ⟨fun p hp=>?_,aW.2 ⟨fun p hp=>?_,i2⟩⟩
    · rcases aE.1 hp with rfl|hp
      · exact ⟨cH _,hx⟩
      · have:=i1 p hp; exact ⟨by omega,this.2⟩
    · have:=i1 p hp; dsimp only; omega
section
variable {qs:List Int} {cs:List Ct} {bs:List Bk} {hs:List Hd} {q:Rq}
theorem aXb (qs:List Int) (bs:List Bk) (hs:List Hd) (q:Rq) {k:Nat} {c:Ct} (h:cs[k]?=some c):(fW qs cs bs hs q).dur.getD k 0=kC c q.size:=by
  show (cs.map (fun c=>kC c q.size)).getD k 0=_
  rw [aI,aY,h]; rfl
theorem aL7 (hK:TOK qs cs bs hs q) {x:Lb} {m:Lb × Hp} (h:m∈mvs (fW qs cs bs hs q) x) (hd:x.n≠q.dst):∃ (k:Nat) (c:Ct),aJx cs q x.n x.a m.2 k c/\c.t=m.1.n/\m.2.a=m.1.a/\m.1.f<=m.2.b/\jS cs q m.2<=x.t/\m.2.a<=q.dln/\(∀ y∈bs,y.c=m.2.c->y.b<=m.2.b\/m.2.e<=y.a)/\m.2.b<m.2.e/\m.2.e<m.2.a:=by
  have hg:=iV hK
  obtain ⟨k,c,ok⟩:=mv_ok hg h
  obtain ⟨hp,hb,hh⟩:=jQ hK.t
  have hct:cs[k]?=some c:=ok.ct
  have hki:=(aC.1 hct).1
  obtain ⟨p,hpm,p1,p2⟩:=ok.gap
  rw [aI,aAf qs cs bs hs q hki,cO] at hpm
  obtain ⟨n1,n2,n3⟩:=rO (qC hb).2 hct
  have hin:=n2 p hpm
  have he:=ok.en
  rw [aXb qs bs hs q hct] at he
  have hck:=mA (chkPl_ct hp (aF hct)).1
  have hhc:=ok.hc
  have hlv:=ok.lv
  have hag:=ok.ag
  refine ⟨k,c,⟨hct,hhc,ok.fr,hd,ok.ta,by omega,by omega,he,hag⟩,ok.to,ok.ar,ok.tf,?_,ok.dl,fun y hy hyc=>?_,ok.be,by omega⟩
  · unfold jS jR at *
    rw [hhc,lZ hct];exact hlv
  · obtain ⟨_,c',_,_,hly,_⟩:=aLu (qC hb).2 y hy
    have hbe:=ok.be
    by_cases c1:y.b<=m.2.b\/m.2.e<=y.a
    · exact c1
    · exfalso
      have hm:uE (iW cs bs k) (max y.a m.2.b)=true:=vU.2 ⟨p,hpm,by omega,by omega⟩
      rw [n3,aJ] at hm
      have hbk:vR bs k (max y.a m.2.b)=true:=zE.2 ⟨y,hy,by omega,by omega,by omega⟩
      rw [hbk] at hm
      exact absurd hm.2 (by simp)
theorem aGw (hK:TOK qs cs bs hs q) {L:List Lb} (hL:iQ (fW qs cs bs hs q) L) {x:Lb} (hx:x∈L):x.n≠q.dst:=(gQ (iV hK) (hL.rch x hx)).1
theorem yA (hK:TOK qs cs bs hs q) {L:List Lb} (hL:iQ (fW qs cs bs hs q) L) {y:Lb} {w:List (Lb × Hp)} (h:Fro (fW qs cs bs hs q) L y w):qN cs q y.n y.a (w.map (·.2))/\(∀ p∈w,p.2.a<=q.dln)/\(w.map (·.2)).Pairwise (fun p q=>p.e<=q.b)/\(∀ p∈w,y.a<=p.2.b/\∀ b∈bs,b.c=p.2.c->b.b<=p.2.b\/p.2.e<=b.a):=by
  induction h with
  | nil h=>exact ⟨h,fun p h=>(by cases h),.nil,fun p h=>(by cases h)⟩
  | @cons x m w hx hm hw ih =>
    obtain ⟨i1,i2,i3,i4⟩:=ih
    obtain ⟨k,c,h1,h2,h3,h4,h5,h6,h7,h8,h9⟩:=aL7 hK hm (aGw hK hL hx)
    have hcc:aCd cs m.2.c=c:=by rw [h1.2.1]; exact lZ h1.1
    refine ⟨⟨⟨k,c,h1⟩,?_⟩,fun p hp=>?_,?_,fun p hp=>?_⟩
    · rw [hcc,h2,h3]; exact i1
    · rcases aE.1 hp with rfl|hp
      · exact h6
      · exact i2 p hp
    · rw [dK]
      refine aW.2 ⟨fun z hz=>?_,i3⟩
      obtain ⟨p,hp,rfl⟩:=bE.1 hz
      have:=(i4 p hp).1
      dsimp only; omega
    · have hta:=h1.2.2.2.2.1
      rcases aE.1 hp with rfl|hp
      · exact ⟨hta,h7⟩
      · have:=i4 p hp
        exact ⟨by omega,this.2⟩
theorem sP (qs:List Int) (cs:List Ct) (bs:List Bk) (hs:List Hd) (q:Rq) {n:Nat} (hn:n<qs.length):(fW qs cs bs hs q).rooms.getD n []=jH (qs.getD n 0) q.size (lvH hs n):=by
  rw [aI]
  show (((List.range qs.length).map (fun n:Nat=>jH (qs.getD n 0) q.size (lvH hs n)))[n]?).getD []=_
  rw [aY,List.getElem?_range hn]; rfl
theorem aTm (hK:TOK qs cs bs hs q) {x:Lb} (hF:qE (fW qs cs bs hs q) x) {t:Int} (h1:x.f<=t) (h2:t<x.t):stored hs x.n t+q.size<=qs.getD x.n.toNat 0:=by
  have hg:=iV hK
  have hbd:=sN hg hF
  obtain ⟨_,f1,f2,f3,f4,f5⟩:=hF
  have hrl:(fW qs cs bs hs q).rooms.length=qs.length:=by simp [fW]
  have hlt:x.n.toNat<qs.length:=by omega
  rw [sP qs cs bs hs q hlt,show ((x.n.toNat:Nat):Int)=x.n by omega] at f3
  obtain ⟨_,_,hh⟩:=jQ hK.t
  obtain ⟨l1,k1⟩:=mS hh
  exact ((oE k1 (by omega)).2 t (by omega) (by omega)).1 ⟨_,f3,h1,h2⟩
theorem aGx {G:Gr} (hg:GOK G) {x y:Lb} (hx:qE G x) (hy:qE G y) (hn:x.n=y.n) {t:Int} (h1:x.f<=t/\t<x.t) (h2:y.f<=t/\t<y.t):iP x y=true:=by
  obtain ⟨_,x1,x2,x3,x4,x5⟩:=hx
  obtain ⟨_,y1,y2,y3,y4,y5⟩:=hy
  rw [hn] at x3
  have hlt:y.n.toNat<G.rooms.length:=by omega
  have hr:=aA hlt
  rw [aI,hr,cO] at x3 y3
  have hR:=(hg.room _ (aF hr)).2.1
  obtain ⟨i,hi,ei⟩:=bB x3
  obtain ⟨j,hj,ej⟩:=bB y3
  rcases fE i j with c|c|c
  · have:=aZ.1 hR i j hi hj c
    rw [ei,ej] at this; dsimp only at this; omega
  · subst c
    rw [ei] at ej
    injection ej with e1 e2
    exact fY.2 ⟨hn,e1⟩
  · have:=aZ.1 hR j i hj hi c
    rw [ei,ej] at this; dsimp only at this; omega
theorem aL8 (hK:TOK qs cs bs hs q) {L:List Lb} (hL:iQ (fW qs cs bs hs q) L) (k n t:Int) {y:Lb} {w:List (Lb × Hp)} (h:Fro (fW qs cs bs hs q) L y w):∀ f,y.f<=f ->
    stored (hZ cs q k y.n f (w.map (·.2))) n t=0\/(stored (hZ cs q k y.n f (w.map (·.2))) n t=q.size/\∃ p∈w,p.1.n=n/\p.1.f<=t/\t<p.1.t):=by
  induction h with
  | nil _=>exact fun f _=>.inl rfl
  | @cons x m w hx hm hw ih =>
    intro f hf
    have hg:=iV hK
    obtain ⟨k1,c,h1,h2,h3,h4,h5,h6,h7,h8,h9⟩:=aL7 hK hm (aGw hK hL hx)
    have hcc:aCd cs m.2.c=c:=by rw [h1.2.1]; exact lZ h1.1
    have i1:=ih m.2.b h4
    simp only [dK,hZ,stored];rw [hcc,h2]
    by_cases c1:x.n=n/\f<=t/\t<jS cs q m.2
    · rw [if_pos c1]
      rcases i1 with i1|⟨i1,p,hp,e1,e2,e3⟩
      · exact .inr ⟨by rw [i1]; omega,(x,m.2),by simp,c1.1,by dsimp only; omega,by dsimp only; omega⟩
      · exfalso
        have hla:=(lL hg hm).1
        have ht:=(hw.times hg).1 p hp
        have hs:=aGx hg (gQ hg (hL.rch x hx)) (gQ hg (hL.rch _ ht.2)) (by rw [c1.1,e1]) (t:=t) ⟨by omega,by omega⟩ ⟨e2,e3⟩
        have:=aGi hL.dis ht.2 hx hs
        rw [this] at hla;omega
    · rw [if_neg c1,Int.zero_add]
      rcases i1 with i1|⟨i1,p,hp,e⟩
      · exact .inl i1
      · exact .inr ⟨i1,p,bS _ hp,e⟩
structure kY (qs:List Int) (cs:List Ct) (bs:List Bk) (hs:List Hd) (q:Rq) (l:List Hp):Prop where
  ex:∃ L y w,iQ (fW qs cs bs hs q) L/\y∈begs (fW qs cs bs hs q)/\Fro (fW qs cs bs hs q) L y w/\l=w.map (·.2)
  len:l.length<=1000
theorem aCl {G:Gr} {y:Lb} (h:y∈begs G):y.n=G.q.src/\y.a=G.q.rdy/\y.f<=G.q.rdy:=by
  unfold begs at h;rw [bE] at h
  obtain ⟨p,hp,rfl⟩:=h
  rw [bT,aJ,decide_eq_true_eq,decide_eq_true_eq] at hp;exact ⟨rfl,rfl,hp.2.1⟩
theorem kY.rou (hK:TOK qs cs bs hs q) {l:List Hp} (h:kY qs cs bs hs q l):rT cs q l:=by
  obtain ⟨⟨L,y,w,hL,hy,hw,rfl⟩,hlen⟩:=h
  obtain ⟨e1,e2,e3⟩:=aCl hy
  obtain ⟨i1,i2,i3,i4⟩:=yA hK hL hw
  rw [e1,e2] at i1
  refine ⟨fun hn=>?_,hlen,i1,fun h hh=>?_⟩
  · rw [hn] at i1
    exact hK.q.2.1 i1
  · obtain ⟨p,hp,rfl⟩:=bE.1 (List.mem_of_getLast? hh)
    exact i2 p hp
end
end
section
theorem aL9 {a b:List Hd} (h:a.Sublist b) (hz:∀ x∈b,0<=x.s) (n t:Int):stored a n t<=stored b n t:=by
  induction h with
  | slnil=>exact cH _
  | @cons l1 l2 x _ ih =>
    have h1:=ih (fun y hy=>hz y (by simp [hy]))
    have h2:=hz x (by simp)
    simp only [stored]
    split <;> omega
  | @cons_cons l1 l2 x _ ih =>
    have h1:=ih (fun y hy=>hz y (by simp [hy]))
    simp only [stored];omega
theorem aTn {qs:List Int} {a b:List Hd} (h:a.Sublist b) (hz:∀ x∈b,0<=x.s) (hf:vN qs b=true):vN qs a=true:=by
  rw [vP] at *
  exact fun y hy=>Int.le_trans (aL9 h hz _ _) (hf y (h.subset hy))
section
variable {qs:List Int} {cs:List Ct} {q:Rq} {bs:List Bk} {hs:List Hd}
structure oG (qs:List Int) (cs:List Ct) (B:List Bk) (S:List Hd):Prop where
  pl:gD qs cs=0
  okB:∀ y∈B,aF7 cs y
  okH:∀ y∈S,lN qs.length y
  ap:B.Pairwise apB
  fit:vN qs S=true
theorem oG.perm {B B':List Bk} {S S':List Hd} (h:oG qs cs B S) (pb:B.Perm B') (ph:S.Perm S'):oG qs cs B' S':=
  ⟨h.pl,fun y hy=>h.okB y (pb.mem_iff.2 hy),fun y hy=>h.okH y (ph.mem_iff.2 hy),(pb.pairwise_iff (fun h=>aCg h)).1 h.ap,aEq ph h.fit⟩
theorem oG.sub {B B':List Bk} {S S':List Hd} (h:oG qs cs B S) (pb:B'.Sublist B) (ph:S'.Sublist S):oG qs cs B' S':=
  ⟨h.pl,fun y hy=>h.okB y (pb.subset hy),fun y hy=>h.okH y (ph.subset hy),h.ap.sublist pb,aTn ph (fun y hy=>by have:=(h.okH y hy).2.2.1; omega) h.fit⟩
theorem oG.tab {B:List Bk} {S:List Hd} (h:oG qs cs B S) (lB:B.length<=512) (lS:S.length<=512) (pb:bs.Perm B) (sb:BkW bs) (ph:hs.Perm S) (sh:nJ hs):aC8 qs cs bs hs=0:=by
  have okb:∀ y∈bs,aF7 cs y:=fun y hy=>h.okB y (pb.mem_iff.1 hy)
  have okh:∀ y∈hs,lN qs.length y:=fun y hy=>h.okH y (ph.mem_iff.1 hy)
  have hap:bs.Pairwise apB:=(pb.pairwise_iff (fun h=>aCg h)).2 h.ap
  have hB:sZ qs cs bs=0:=by
    unfold sZ
    rw [if_neg (by simp [h.pl]),if_neg (by rw [pb.length_eq]; omega)]
    refine aW8 okb ?_
    refine List.Pairwise.imp_of_mem (fun {x y} hx hy hxy=>?_) (List.pairwise_and_iff.2 ⟨sb,hap⟩)
    obtain ⟨h1,h2⟩:=hxy
    obtain ⟨_,c1,_,_,hlx,_⟩:=okb x hx
    obtain ⟨_,c2,_,_,hly,_⟩:=okb y hy
    rcases (rU x y).1 h1 with h1|⟨h1,h3⟩
    · exact .inl h1
    · refine .inr ⟨h1,?_⟩
      rcases h2 h1 with h2|h2 <;> omega
  have hH:sX qs cs hs=0:=aUx h.pl (by rw [ph.length_eq]; exact lS) okh sh (aEq ph.symm h.fit)
  unfold aC8
  rw [if_neg (by simp [h.pl]),if_neg (by simp [hB])]
  exact hH
theorem aXc (hp:gD qs cs=0) {n:Int} (h:0<=n/\n<qs.length):0<=qs.getD n.toNat 0:=by
  have h0:=jO (aB3 hp).2.1 n.toNat (by omega)
  unfold aF0 at h0
  rw [aA (by omega)] at h0
  rw [aI,aA (by omega),cO]
  simp only at h0
  split at h0 <;> omega
theorem oG.add {B0 B:List Bk} {S:List Hd} (h:oG qs cs B S) (hK:TOK qs cs bs hs q) (pb:bs.Perm B0) (ph:hs.Perm S) {l:List Hp} (hF:kY qs cs bs hs q l) {k:Int} (hk:0<=k/\k<=1152921504606846976)
    (hB:∀ y∈B,y∈B0\/∀ p∈l,apB y (qJ k p)):oG qs cs (B ++ l.map (qJ k)) (S ++ hZ cs q k q.src q.rdy l):=by
  obtain ⟨⟨L,y,w,hL,hy,hw,rfl⟩,hlen⟩:=hF
  obtain ⟨e1,e2,e3⟩:=aCl hy
  obtain ⟨i1,i2,i3,i4⟩:=yA hK hL hw
  have hg:=iV hK
  rw [e1,e2] at i1
  have hzn:∀ z∈hZ cs q k q.src q.rdy (w.map (·.2)),lN qs.length z:=aEp h.pl ⟨hK.q.2.2.1.1,hK.q.2.2.1.2.1⟩ hk (t:=q.rdy) i1 ⟨hK.q.2.2.1.2.2.1,cH _⟩
  have hbn:∀ z∈(w.map (·.2)).map (qJ k),aF7 cs z:=aEo h.pl ⟨hK.q.2.2.1.1,hK.q.2.2.1.2.1⟩ hk i1
  refine ⟨h.pl,fun z hz=>(aM.1 hz).elim (h.okB z) (hbn z),fun z hz=>(aM.1 hz).elim (h.okH z) (hzn z),?_,?_⟩
  · rw [cC]
    refine ⟨h.ap,?_,fun a ha b hb=>?_⟩
    · rw [List.pairwise_map]
      exact i3.imp (fun {x y} hxy=>fun _=>.inl hxy)
    · obtain ⟨p,hp,rfl⟩:=bE.1 hb
      rcases hB a ha with ha|ha
      · obtain ⟨p',hp',rfl⟩:=bE.1 hp
        exact fun e=>(i4 p' hp').2 a (pb.mem_iff.2 ha) e
      · exact ha p hp
  · have hz1:∀ x∈S,0<=x.s:=fun x hx=>by have:=(h.okH x hx).2.2.1; omega
    rw [vP]
    intro z hz
    rw [aC7]
    have hzok:lN qs.length z:=(aM.1 hz).elim (h.okH z) (hzn z)
    have hQ:0<=qs.getD z.n.toNat 0:=aXc h.pl hzok.1
    have h3:=aL8 hK hL k z.n z.a hw q.rdy e3
    rw [e1] at h3
    change _\/_ at h3
    rcases h3 with h3|⟨h3,p,hp,p1,p2,p3⟩
    · have h4:=aU1 hz1 h.fit hQ (t:=z.a)
      have h3:stored (hZ cs q k q.src q.rdy (w.map (·.2))) z.n z.a=0:=h3
      omega
    · have h4:=aTm hK (gQ hg (hL.rch _ ((hw.times hg).1 p hp).2)) p2 p3
      rw [p1,oO ph] at h4
      have h3:stored (hZ cs q k q.src q.rdy (w.map (·.2))) z.n z.a=q.size:=h3
      omega
def TkV (qs:List Int) (cs:List Ct) (x:Tk):Prop:=nF qs.length x.q/\(rT cs x.q x.hops\/x.hops=[])
def kF (V:List Int) (T:List Tk):List Bk:=(jJ T).filter (fun b=>decide (b.k∉V))
structure LgV (qs:List Int) (cs:List Ct) (T:List Tk) (V:List Int):Prop where
  tk:∀ x∈T,TkV qs cs x
  num:∀ (i:Nat) x,T[i]?=some x->x.k=(i:Int)+1
  len:T.length<=4
  tb:oG qs cs (kF V T) (jB cs T)
theorem LgV.kb {T:List Tk} {V:List Int} (h:LgV qs cs T V):∀ x∈T,1<=x.k/\x.k<=4:=fun x hx=>by
  obtain ⟨i,hi,rfl⟩:=bB hx
  have:=h.num i _ (aA hi)
  have:=h.len
  omega
theorem rX (T:List Tk):kF [] T=jJ T:=by
  unfold kF;rw [eH]
  intro b _
  simp
theorem jC (V:List Int) (A B:List Tk):kF V (A ++ B)=kF V A ++ kF V B:=by
  unfold kF jJ;rw [aX,dW]
theorem jD (A B:List Tk):jB cs (A ++ B)=jB cs A ++ jB cs B:=aX
theorem rY {x:Tk} {b:Bk} (h:b∈aCf x):b.k=x.k:=by
  obtain ⟨p,_,rfl⟩:=bE.1 h
  rfl
theorem aU2 {V:List Int} {x:Tk} (h:x.k∈V):kF V [x]=[]:=by
  unfold kF jJ;rw [eB,List.filter_eq_nil_iff]
  intro b hb
  rw [rY hb]
  simpa using h
theorem aJ3 {V:List Int} {x:Tk} (h:x.k∉V):kF V [x]=aCf x:=by
  unfold kF jJ;rw [eB,eH]
  intro b hb
  rw [rY hb]
  simpa using h
theorem aEs (V:List Int) {x:Tk} (h:x.hops=[]):kF V [x]=[]:=by
  unfold kF jJ aCf;rw [eB,h]
  rfl
theorem aEt {V:List Int} {k:Int} {A:List Tk} (h:∀ x∈A,x.k≠k):kF (k::V) A=kF V A:=by
  unfold kF
  refine List.filter_congr (fun b hb=>?_)
  obtain ⟨x,hx,hb⟩:=dB.1 hb
  have:=h x hx
  rw [rY hb]
  simp [this]
theorem aEu {x:Tk} (h:x.hops=[]):jB cs [x]=[]:=by
  unfold jB aPe;rw [eB,h]
  rfl
theorem aJ4 {T:List Tk} {i:Nat} {x:Tk} (h:T[i]?=some x):T=T.take i ++ ([x] ++ T.drop (i+1))/\∀ y,T.set i y=T.take i ++ ([y] ++ T.drop (i+1)):=by
  have hi:=(aC.1 h).1
  have e:=(aC.1 h).2
  refine ⟨?_,fun y=>?_⟩
  · have:=bU hi
    rw [e] at this;rw [List.singleton_append,← this,bH]
  · rw [List.set_eq_take_append_cons_drop,if_pos hi]
    rfl
theorem aXd {T:List Tk} (h:∀ (i:Nat) x,T[i]?=some x->x.k=(i:Int)+1) {i:Nat} {x:Tk} (hx:T[i]?=some x):(∀ y∈T.take i,y.k≠x.k)/\∀ y∈T.drop (i+1),y.k≠x.k:=by
  have hk:=h i x hx
  refine ⟨fun y hy=>?_,fun y hy=>?_⟩
  · obtain ⟨j,hj,rfl⟩:=bB hy
    rw [aL] at hj
    have h2:=h j (T.take i)[j] (by rw [List.getElem_take]; exact aA (by omega))
    omega
  · obtain ⟨j,hj,rfl⟩:=bB hy
    rw [cB] at hj
    have h2:=h (i+1+j) (T.drop (i+1))[j] (by rw [List.getElem_drop]; exact aA (by omega))
    omega
theorem aNo {T:List Tk} (h:∀ (i:Nat) x,T[i]?=some x->x.k=(i:Int)+1) {i:Nat} {x y:Tk} (hx:T[i]?=some x) (hy:y.k=x.k):∀ (j:Nat) z,(T.set i y)[j]?=some z->z.k=(j:Int)+1:=fun j z hz=>by
  rw [List.getElem?_set] at hz
  split at hz
  · rename_i e
    split at hz
    · cases hz
      subst e;rw [hy];exact h i x hx
    · cases hz
  · exact h j z hz
theorem LgV.stop {T:List Tk} {V:List Int} {i:Nat} {x:Tk} (h:LgV qs cs T (x.k::V)) (hx:T[i]?=some x):LgV qs cs (T.set i { x with hops:=[] }) V:=by
  obtain ⟨e1,e2⟩:=aJ4 hx
  obtain ⟨n1,n2⟩:=aXd h.num hx
  have hm:=aF hx
  refine ⟨fun y hy=>?_,aNo h.num hx rfl,by rw [cQ]; exact h.len,?_⟩
  · rcases cY hy with hy|rfl
    · exact h.tk y hy
    · exact ⟨(h.tk x hm).1,.inr rfl⟩
  · have hb:kF V (T.set i { x with hops:=[] })=kF (x.k::V) T:=by
      rw [e2]
      conv=>rhs; rw [e1]
      rw [jC,jC,jC,jC,aEs V (x:={ x with hops:=[] }) rfl,aU2 (V:=x.k::V) (x:=x) (by simp),aEt n1,aEt n2]
    rw [hb];refine h.tb.sub (List.Sublist.refl _) ?_;rw [e2]
    conv=>rhs; rw [e1]
    rw [jD,jD,jD,jD,aEu (x:={ x with hops:=[] }) rfl,aH];exact (List.Sublist.refl _).append (List.sublist_append_right _ _)
theorem LgV.resume {T:List Tk} {V:List Int} {i:Nat} {x:Tk} (h:LgV qs cs T V) (hx:T[i]?=some x) (hn:x.hops=[]) (hV:x.k∉V) (hK:TOK qs cs bs hs x.q) (pb:bs.Perm (kF V T)) (ph:hs.Perm (jB cs T)) {l:List Hp} (hF:kY qs cs bs hs x.q l) :
    LgV qs cs (T.set i { x with hops:=l }) V:=by
  obtain ⟨e1,e2⟩:=aJ4 hx
  have hm:=aF hx
  have hkb:=h.kb x hm
  refine ⟨fun y hy=>?_,aNo h.num hx rfl,by rw [cQ]; exact h.len,?_⟩
  · rcases cY hy with hy|rfl
    · exact h.tk y hy
    · exact ⟨hK.q,.inl (hF.rou hK)⟩
  · refine (h.tb.add hK pb ph hF (k:=x.k) ⟨by omega,by omega⟩ (fun y hy=>.inl hy)).perm ?_ ?_
    · rw [e2]
      conv=>lhs; rw [e1]
      rw [jC,jC,jC,jC,aEs V hn,aJ3 (V:=V) (x:={ x with hops:=l }) hV,aH,aR];exact (List.Perm.refl _).append (cS)
    · rw [e2]
      conv=>lhs; rw [e1]
      rw [jD,jD,jD,jD,aEu hn,aH,aR]
      have:jB cs [{ x with hops:=l }]=hZ cs x.q x.k x.q.src x.q.rdy l:=by
        unfold jB aPe;rw [eB]
      rw [this];exact (List.Perm.refl _).append (cS)
theorem LgV.new {T:List Tk} {V W:List Int} (h:LgV qs cs T []) (hT:T.length<=3) (hq:nF qs.length q) (hK:TOK qs cs bs hs q) (pb:bs.Perm (kF W T)) (ph:hs.Perm (jB cs T)) {l:List Hp} (hF:kY qs cs bs hs q l)
    (hV:((T.length:Int)+1)∉V) (hW:∀ x∈T,x.k∈W->x.k∉V->∀ a∈x.hops,∀ p∈l,apB (qJ x.k a) (qJ ((T.length:Int)+1) p)):LgV qs cs (T ++ [⟨(T.length:Int)+1,q,l⟩]) V:=by
  refine ⟨fun x hx=>?_,fun i x hx=>?_,by rw [aB,bM]; omega,?_⟩
  · rcases aM.1 hx with hx|hx
    · exact h.tk x hx
    · rw [bI] at hx; subst hx; exact ⟨hq,.inl (hF.rou hK)⟩
  · rw [List.getElem?_append] at hx
    split at hx
    · exact h.num i x hx
    · rename_i hc
      obtain ⟨hi,hxx⟩:=aC.1 hx
      rw [bM] at hi
      have:i=T.length:=by omega
      subst this
      simp at hxx
      rw [← hxx]
  · have h0:oG qs cs (kF V T) (jB cs T):=h.tb.sub (by rw [rX]; exact List.filter_sublist) (List.Sublist.refl _)
    have h1:=h0.add hK pb ph hF (k:=(T.length:Int)+1) ⟨by omega,by omega⟩ (fun y hy=>?_)
    · rw [jC,aJ3 (V:=V) (x:=⟨(T.length:Int)+1,q,l⟩) hV,jD]
      have e:jB cs [⟨(T.length:Int)+1,q,l⟩]=hZ cs q ((T.length:Int)+1) q.src q.rdy l:=by
        unfold jB aPe;rw [eB]
      rw [e];exact h1
    · obtain ⟨hy1,hy2⟩:=bT.1 hy
      obtain ⟨x,hx,hb⟩:=dB.1 hy1
      rw [rY hb] at hy2
      by_cases hxW:x.k∈W
      · obtain ⟨a,ha,rfl⟩:=bE.1 hb
        exact .inr (fun p hp=>hW x hx hxW (by simpa using hy2) a ha p hp)
      · exact .inl (bT.2 ⟨hy1,by rw [rY hb]; simpa using hxW⟩)
end
end
def aCm (G:Gr) (a:Int):Lb:=⟨G.q.dst,0,1099511627776,a⟩
theorem aTo {G:Gr} {x:Lb} {m:Lb × Hp} (h:m∈mvs G x) (hn:m.1.n=G.q.dst):m.1=aCm G m.1.a:=by
  obtain ⟨k,c,r,hc,hf,hr,hh,he,h1,h2,h3⟩:=oN h
  rw [he] at hn ⊢
  dsimp only at hn
  unfold iE at hr;rw [if_pos hn] at hr;simp only [bI] at hr;subst hr;unfold aCm
  dsimp only
  rw [hn]
def mG (to:Lb) (m:Lb × Hp):Bool:=iP m.1 to && decide (m.1.a=to.a)
theorem sQ {to:Lb} {m:Lb × Hp}:mG to m=true↔iP m.1 to=true/\m.1.a=to.a:=by unfold mG; simp
theorem aNp {G:Gr} (hg:GOK G) {x:Lb} (h:aBz G x):G.q.rdy<=x.a:=by
  induction h with
  | beg h=>have:=(aCl h).2.1; omega
  | mv _ hm _ ih=>have:=(lL hg hm).1; omega
theorem aU3 {G:Gr} (hg:GOK G) {x:Lb} (h:aBz G x) (ha:x.a=G.q.rdy):x∈begs G:=by
  cases h with
  | beg h=>exact h
  | mv hr hm _=>have:=(lL hg hm).1; have:=aNp hg hr; omega
def OnW (G:Gr) (L:List Lb) (to:Lb):Prop:=to∈L\/to=aCm G to.a
theorem aNq {G:Gr} (hg:GOK G) {L:List Lb} (hL:iQ G L) {to x:Lb} {m:Lb × Hp} (ht:OnW G L to) (hx:x∈L) (hm:m∈mvs G x) (hl:mG to m=true):m.1=to:=by
  obtain ⟨h1,h2⟩:=sQ.1 hl
  obtain ⟨e1,e2⟩:=fY.1 h1
  rcases ht with ht|ht
  · have hf:=gQ hg (hL.rch to ht)
    have hf2:=rN hg hm (by rw [e1]; exact hf.1)
    have e3:=nQ hg hf hf2 h1
    generalize m.1=u at *
    obtain ⟨n,f,t,a⟩:=u
    obtain ⟨n',f',t',a'⟩:=to
    dsimp only at *
    subst e1 e2 e3 h2
    rfl
  · have e:m.1.n=G.q.dst:=by rw [e1,ht]; rfl
    rw [aTo hm e,ht,h2]
theorem aNr {G:Gr} (hg:GOK G) (ha:∀ i,(G.gaps.getD i []).Pairwise (fun x y=>x.2<y.1)) {L:List Lb} (hL:iQ G L) {to:Lb} (ht:to∈L) (hb:¬ (to.n=G.q.src/\to.a=G.q.rdy)):∃ x∈L,∃ m∈mvs G x,mG to m=true:=by
  rcases aTb hg ha hL ht with h|⟨x,hx,m,hm,e⟩
  · obtain ⟨e1,e2,_⟩:=aCl h
    exact absurd ⟨e1,e2⟩ hb
  · exact ⟨x,hx,m,hm,sQ.2 ⟨by rw [e]; exact uD to,by rw [e]⟩⟩
theorem aTp {G:Gr} {L:List Lb} {a:Int} (h:jG G L=some a):∃ x∈L,∃ m∈mvs G x,mG (aCm G a) m=true:=by
  obtain ⟨x,hx,m,hm,hn,rfl⟩:=vY h
  refine ⟨x,hx,m,hm,sQ.2 ⟨fY.2 ⟨hn,?_⟩,rfl⟩⟩;rw [aTo hm hn]; rfl
theorem aTq {G:Gr} (hg:GOK G) {L:List Lb} (hL:iQ G L) {to x:Lb} {m:Lb × Hp} {w:List (Lb × Hp)} (ht:OnW G L to) (hx:x∈L) (hm:m∈mvs G x) (hl:mG to m=true) (hw:Fro G L to w):Fro G L x ((x,m.2)::w)/\x.a<to.a:=by
  have e:=aNq hg hL ht hx hm hl
  have:=(lL hg hm).1
  rw [e] at this
  exact ⟨.cons hx hm (by rw [e]; exact hw),this⟩
section
section
variable {qs:List Int} {cs:List Ct} {q:Rq} {bs bs0:List Bk} {hs hs0:List Hd}
theorem aU4 (h0:aC8 qs cs bs0 hs0=0) (h:aC8 qs cs bs hs=0) {i:Nat} {c:Ct} (hc:cs[i]?=some c) {p0:Int × Int} (hp0:p0∈iW cs bs0 i) {b e:Int} (h1:p0.1<=b) (h2:b<e) (h3:e<=p0.2) (hn:∀ y∈bs,y.c=i->y.b<=b\/e<=y.a):∃ p∈iW cs bs i,p.1<=b/\e<=p.2:=by
  obtain ⟨_,hb1,_⟩:=jQ h0
  obtain ⟨_,hb2,_⟩:=jQ h
  obtain ⟨n1,n2,n3⟩:=rO (qC hb2).2 hc
  obtain ⟨m1,m2,m3⟩:=rO (qC hb1).2 hc
  refine aNc (aL3 n1 n2) h2 (fun t k1 k2=>?_)
  have hm:uE (iW cs bs0 i) t=true:=vU.2 ⟨p0,hp0,by omega,by omega⟩
  rw [m3,aJ] at hm
  have hk:uE (iW cs bs i) t=true:=by
    rw [n3,aJ];refine ⟨hm.1,?_⟩
    cases hx:vR bs i t with
    | false=>rfl
    | true =>
      obtain ⟨y,hy,e1,e2,e3⟩:=zE.1 hx
      rcases hn y hy e1 with h4|h4 <;> omega
  exact vU.1 hk
theorem aPi (hK0:TOK qs cs bs0 hs0 q) (hK:TOK qs cs bs hs q) (hst:∀ (n:Nat) t,stored hs n t<=stored hs0 n t) {x y:Lb} (hy:uJ y x) {m':Lb × Hp} (hm:m'∈mvs (fW qs cs bs0 hs0 q) x) (hn:∀ z∈bs,z.c=m'.2.c->z.b<=m'.2.b\/m'.2.e<=z.a) (hbe:m'.2.b<m'.2.e):∃ m∈mvs (fW qs cs bs hs q) y,uJ m.1 m'.1:=by
  obtain ⟨y1,y2,y3,y4⟩:=hy
  obtain ⟨k,c,r',hc,hf,hr,hh,he,h1,h2,h3⟩:=oN hm
  have hc':cs[k]?=some c:=hc
  have hkl:=(aC.1 hc').1
  have hg:=iV hK
  obtain ⟨hp,hb2,hh2⟩:=jQ hK.t
  obtain ⟨_,hb1,hh1⟩:=jQ hK0.t
  obtain ⟨l1,k1⟩:=mS hh1
  obtain ⟨l2,k2⟩:=mS hh2
  have hrm:∃ r∈iE (fW qs cs bs hs q) c.t,r.1<=r'.1/\r'.2<=r.2:=by
    unfold iE at hr ⊢
    change r'∈(if c.t=q.dst then _ else _) at hr
    show ∃ r∈(if c.t=q.dst then _ else _),_
    by_cases e:c.t=q.dst
    · rw [if_pos e] at hr ⊢
      exact ⟨r',hr,by omega,by omega⟩
    · rw [if_neg e] at hr ⊢
      have hct:=(chkPl_ct hp (aF hc')).2
      have hcg:=mA (chkPl_ct hp (aF hc')).1
      rw [sP qs cs bs0 hs0 q (by omega)] at hr
      rw [sP qs cs bs hs q (by omega)]
      exact aNk k2 k1 (by omega) (by omega) (hst _) r' hr
  obtain ⟨r,hr2,r1,r2⟩:=hrm
  unfold oV at hh;rw [aQ] at hh
  obtain ⟨b',g1,g2⟩:=hh
  have eg0:(fW qs cs bs0 hs0 q).gaps.getD k []=iW cs bs0 k:=by rw [aI,aAf qs cs bs0 hs0 q hkl,cO]
  have eg:(fW qs cs bs hs q).gaps.getD k []=iW cs bs k:=by rw [aI,aAf qs cs bs hs q hkl,cO]
  rw [eg0] at g1
  obtain ⟨p',hp',rfl,hle⟩:=sM g1
  have hdur:(fW qs cs bs0 hs0 q).dur.getD k 0=(fW qs cs bs hs q).dur.getD k 0:=rfl
  rw [hdur] at hle g2
  generalize hd0:(fW qs cs bs hs q).dur.getD k 0=d at hle g2
  have hd:0<=d:=by
    have:m'.2.e=m'.2.b+d:=by rw [← g2]
    omega
  rw [← g2] at hn hbe h1 h2 h3 he
  dsimp only at hn hbe h2 h3 he
  obtain ⟨p,hpp,c1,c2⟩:=aU4 hK0.t hK.t hc' hp' (b:=max p'.1 (max x.a r'.1)) (e:=max p'.1 (max x.a r'.1)+d) (by omega) hbe hle hn
  have has:(iW cs bs k).Pairwise (fun x y=>x.2<y.1):=by
    have:=pK hK k
    rwa [eg] at this
  obtain ⟨b,e1,e2⟩:=aGj (fr:=max y.a r.1) hd has hpp (by omega)
  have hR:oV (fW qs cs bs hs q) k c (max y.a r.1)=some ⟨k,b,b+d,b+d+c.g⟩:=by
    unfold oV;rw [eg,hd0,e1]
    rfl
  have hl:jR (fW qs cs bs hs q) c ⟨k,b,b+d,b+d+c.g⟩<=jR (fW qs cs bs0 hs0 q) c ⟨k,max p'.1 (max x.a r'.1),max p'.1 (max x.a r'.1)+d,max p'.1 (max x.a r'.1)+d+c.g⟩:=by
    unfold jR
    show (if q.cus then _ else _)<=(if q.cus then _ else _)
    split <;> dsimp only <;> omega
  refine ⟨_,aLv hc (by rw [hf,y1]) hr2 hR (by omega) (by dsimp only; exact Int.le_trans (by omega) h2) (fun e=>by have:=h3 e; dsimp only; omega),?_⟩
  rw [he]
  exact ⟨rfl,r1,r2,by dsimp only; omega⟩
theorem aPj (hK0:TOK qs cs bs0 hs0 q) (hK:TOK qs cs bs hs q) (hst:∀ (n:Nat) t,stored hs n t<=stored hs0 n t) {L0 L:List Lb} (hL0:iQ (fW qs cs bs0 hs0 q) L0) (hL:iQ (fW qs cs bs hs q) L) {x:Lb} {w:List (Lb × Hp)} (h:Fro (fW qs cs bs0 hs0 q) L0 x w) :
    (∀ p∈w,∀ z∈bs,z.c=p.2.c->z.b<=p.2.b\/p.2.e<=z.a)->∀ y∈L,uJ y x->x.n≠q.dst->∃ a,jG (fW qs cs bs hs q) L=some a:=by
  induction h with
  | nil h=>exact fun _ y _ _ hn=>absurd h hn
  | @cons x m w hx hm hw ih =>
    intro hcl y hy hay hn
    obtain ⟨_,c,h1,h2,h3,h4,h5,h6,h7,h8,h9⟩:=aL7 hK0 hm (aGw hK0 hL0 hx)
    obtain ⟨m2,hm2,a1,a2,a3,a4⟩:=aPi hK0 hK hst hay hm (fun z hz=>hcl (x,m.2) (by simp) z hz) h8
    have hg:=iV hK
    by_cases hd:m.1.n=q.dst
    · obtain ⟨a,e1,_⟩:=aGh hy hm2 (by rw [a1]; exact hd)
      exact ⟨a,e1⟩
    · have hn2:m2.1.n≠q.dst:=by rw [a1]; exact hd
      obtain ⟨z,hz,hs,hle⟩:=hL.clo y hy m2 hm2 hn2
      have ht:=nQ hg (rN hg hm2 hn2) (gQ hg (hL.rch z hz)) hs
      obtain ⟨e1,e2⟩:=fY.1 hs
      exact ih (fun p hp=>hcl p (by simp [hp])) z hz ⟨by rw [e1,a1],by omega,by omega,by omega⟩ hd
theorem aPk (hK0:TOK qs cs bs0 hs0 q) (hK:TOK qs cs bs hs q) (hst:∀ (n:Nat) t,stored hs n t<=stored hs0 n t) {l:List Hp} (hF:kY qs cs bs0 hs0 q l) (hcl:∀ p∈l,∀ z∈bs,z.c=p.c->z.b<=p.b\/p.e<=z.a) {L:List Lb} (hL:iQ (fW qs cs bs hs q) L):∃ a,jG (fW qs cs bs hs q) L=some a:=by
  obtain ⟨⟨L0,y,w,hL0,hy,hw,rfl⟩,_⟩:=hF
  obtain ⟨e1,e2,e3⟩:=aCl hy
  have hg:=iV hK
  obtain ⟨hp,hb2,hh2⟩:=jQ hK.t
  obtain ⟨_,hb1,hh1⟩:=jQ hK0.t
  obtain ⟨l1,k1⟩:=mS hh1
  obtain ⟨l2,k2⟩:=mS hh2
  have hb:∃ z∈begs (fW qs cs bs hs q),uJ z y:=by
    unfold begs at hy;rw [bE] at hy
    obtain ⟨p',hp',rfl⟩:=hy
    rw [bT,aJ,decide_eq_true_eq,decide_eq_true_eq] at hp'
    obtain ⟨hm,c1,c2⟩:=hp'
    have hsrc:q.src.toNat<qs.length:=by have:=hK.q.1; omega
    have hm:p'∈(fW qs cs bs0 hs0 q).rooms.getD q.src.toNat []:=hm
    rw [sP qs cs bs0 hs0 q hsrc] at hm
    obtain ⟨p,hpp,d1,d2⟩:=aNk k2 k1 (by omega) (by omega) (hst _) p' hm
    have c1:p'.1<=q.rdy:=c1
    have c2:q.rdy<p'.2:=c2
    refine ⟨⟨q.src,p.1,p.2,q.rdy⟩,?_,rfl,d1,d2,cH _⟩;unfold begs;rw [bE];refine ⟨p,bT.2 ⟨?_,?_⟩,rfl⟩
    · show p∈(fW qs cs bs hs q).rooms.getD q.src.toNat []
      rw [sP qs cs bs hs q hsrc];exact hpp
    · rw [aJ,decide_eq_true_eq,decide_eq_true_eq]
      show p.1<=q.rdy/\q.rdy<p.2
      omega
  obtain ⟨z,hz,hzy⟩:=hb
  obtain ⟨u,hu,hs,hle⟩:=hL.beg z hz
  have ht:=nQ hg (vT hg hz) (gQ hg (hL.rch u hu)) hs
  obtain ⟨f1,f2⟩:=fY.1 hs
  obtain ⟨g1,g2,g3,g4⟩:=hzy
  exact aPj hK0 hK hst hL0 hL hw (fun p hp=>hcl p.2 (List.mem_map_of_mem hp)) u hu ⟨by rw [f1,g1],by omega,by omega,by omega⟩ (by rw [e1]; exact hK.q.2.1)
end
end
structure LgW (qs:List Int) (cs:List Ct) (T:List Tk):Prop where
  v:LgV qs cs T []
  nb:(jJ T).length<=512
  nh:(jB cs T).length<=512
section
variable {qs:List Int} {cs:List Ct} {q:Rq} {bs:List Bk} {hs:List Hd}
theorem LgW.tab {T:List Tk} (h:LgW qs cs T) (pb:bs.Perm (jJ T)) (sb:BkW bs) (ph:hs.Perm (jB cs T)) (sh:nJ hs):aC8 qs cs bs hs=0:=by
  have h1:=h.v.tb
  rw [rX] at h1;exact h1.tab h.nb h.nh pb sb ph sh
theorem LgW.zero (hp:gD qs cs=0):LgW qs cs []:=
  ⟨⟨fun x hx=>(by cases hx),fun i x hx=>(by simp at hx),by simp,⟨hp,fun y hy=>(by cases hy),fun y hy=>(by cases hy),.nil,by simp [jB,vN]⟩⟩,by simp [jJ],by simp [jB]⟩
theorem oG.some {B:List Bk} {S:List Hd} (h:oG qs cs B S) (lB:B.length<=512) (lS:S.length<=512) (pb:bs.Perm B) (sb:BkW bs) (ph:hs.Perm S) (sh:nJ hs) (hq:nF qs.length q) (lq:qs.length<=6) (lc:cs.length<=11):TOK qs cs bs hs q:=
  ⟨h.tab lB lS pb sb ph sh,hq,lq,lc⟩
theorem BkW.filter {l:List Bk} (h:BkW l) (p:Bk->Bool):BkW (l.filter p):=List.Pairwise.filter p h
end
end Go.Step
namespace Go.Proofs.YtnijkofdlepfjaaGreat
open Go.Eng Go.Step
set_option maxRecDepth 100000
set_option maxHeartbeats 64000000
section
section
variable {ρ τ:PH} {pq pc:Option Addr} {kq kc:Nat} {qs:List Int} {cs:List Ct} {q:Rq}
theorem aJ5 (bF bO bN bQ bK:Nat) (f to:Int) (hft:to<=f) :
  Ans Tryz.prog (.func (.func 148) #[] #[.pointer (some ⟨bF,0,none⟩),.pointer (some ⟨bO,0,none⟩),.pointer (some ⟨bN,0,none⟩),.pointer (some ⟨bQ,0,none⟩),.pointer (some ⟨bK,0,none⟩)]) [int to] [sng bF (.cells #[int f] 3 (0,0))] (fun r=>r=.tuple #[]):=by
 have bx17_3:=rdB bF 3 [int f]
 have cF:=rdC bx17_3 0
 refine CU [.pointer (some ⟨bF,0,none⟩),.pointer (some ⟨bO,0,none⟩),.pointer (some ⟨bN,0,none⟩),.pointer (some ⟨bQ,0,none⟩),.pointer (some ⟨bK,0,none⟩)] Tryz.func148 Tryz.ntmps148 fun N β=>?_
 refine Abb ?_;refine AB ?_;refine BD ?_;refine Aai ?_;exact BJ (gY rfl) fQ fK ⟨rfl,rfl⟩
theorem aDj {pv:Option Addr} {cv:Nat} (hne:q.src≠q.dst) (k u:Int) (hu:u<=q.rdy) :
  jM Tryz.prog (fv 80) [.agg #[.slice pq qs.length kq,.slice pc cs.length kc],.agg #[int q.src,int q.dst,int q.size,int q.rdy,int q.dln,int q.pri,.bool q.cus],.slice pv 0 cv,int k,int u] [] (fun r χ=>r=.slice none 0 0/\χ=emp):=by
 refine A8 Tryz.func80 Tryz.ntmps80 fun N β=>?_
 refine Aa ?_
 refine BF fun b5 cp=>?_
 refine BF fun b6 cr=>?_
 refine C3 fun b8=>?_
 refine AW (ρ:=sng b8 _) fL ?_;refine B9 ?_
 have cp1:=rdC cp 1
 have cr0:=rdC cr 0
 have cr1:=rdC cr 1
 have cr3:=rdC cr 3
 refine Aaa ?_;refine Aa ?_
 refine B5 fun b=>?_
 refine Aak ?_
 revert b; intro b11
 refine DG (X:=Nat × Nat) [2,4,5,6,8,11] (fun _=>True) (fun x=>[(12,.pointer (some ⟨x.1,0,none⟩)),(13,.pointer (some ⟨x.2,0,none⟩))]) (fun x=>[sng x.1 (.cells #[int q.src] 3 (0,0)),sng x.2 (.cells #[int q.rdy] 3 (0,0)),sng b11 (.cells #[.slice none 0 0] 39 (0,0)),emp]) fT ?_ ?_
 ·refine A9 (.q 0 (.q 1 (.p 2 (.p 3 (.l2 4 .e (.l 5 .e (.l 6 .b (.l 7 .b .nil))) 5 .e (.l 4 .e (.l 6 .b (.l 7 .b .nil)))))))) [] rfl (by kernel_rfl) fK ?_
  repeat' (first
   | (refine AN ?_)
   | (refine AR ?_)
   | (refine EJ ?_)
   | (refine DW ?_)
   | (refine BC ?_)
   | (refine EP ?_ ?_)
   | (refine E2 fun b=>?_)
   | (refine CI ?_)
   | (refine E1 fun b=>?_)
   | fail)
  all_goals exact CK (_,_) trivial fP fK
 rintro ⟨bN,bF⟩ _
 dsimp only
 refine Adj ?_;refine Abv ?_;refine Abh ?_
 refine BE [4,5,6,11,12,13,14,22,23] (X:=Unit) () (fun _=>True) (fun _=>[(24,int 0)]) (fun _=>[sng bN (.cells #[int q.src] 3 (0,0)),sng bF (.cells #[int q.rdy] 3 (0,0)),sng b11 (.cells #[.slice none 0 0] 39 (0,0)),emp]) (fun _=>0) fT trivial fP fK ?_
 rintro ⟨⟩ -
 have hadd:=aJ5 bF b11 bN b6 b8 q.rdy u hu
 refine Abp ?_;refine Ac5 ?_;refine Aac ?_;refine Adu ?_;refine Abu ?_;refine A5 hadd ?_;refine AE ?_;refine Abb ?_;refine Aaa ?_;exact AV ⟨emp,⟨rfl,rfl⟩,rfl⟩
theorem aGy (hq:gC ρ (.slice pq qs.length kq) qs) (hc:jW τ (.slice pc cs.length kc) cs) (hcap:cs.length<=kc) (lq:qs.length<=9223372036854775807) (lc:cs.length<=9223372036854775807) (hp:gD qs cs=0) (hq2:nF qs.length q) {lam:PH} {pv:Option Addr} {cv:Nat} {l:List Hp} (hv:SlE gE 4 lam (.slice pv l.length cv) l) (k u:Int) (hr:rT cs q l\/l=[]/\u<=q.rdy) :
  jM Tryz.prog (fv 80) [.agg #[.slice pq qs.length kq,.slice pc cs.length kc],.agg #[int q.src,int q.dst,int q.size,int q.rdy,int q.dln,int q.pri,.bool q.cus],.slice pv l.length cv,int k,int u] [τ,lam] (fun r χ=>fS 259 5 r (hZ cs q k q.src q.rdy l).length ((hZ cs q k q.src q.rdy l).flatMap hY) χ):=by
 rcases hr with hr|⟨rfl,hu⟩
 ·exact aGv (ρ:=ρ) hq hc hcap lq lc hp ⟨hq2.2.2.1.1,hq2.2.2.1.2.1⟩ hq2.2.2.1.2.2.1 hv hr.len k u hr.ch
 ·refine Spec.rsub (R:=[]) (Spec.mono (aDj (pq:=pq) (kq:=kq) (pc:=pc) (kc:=kc) (qs:=qs) (cs:=cs) (pv:=pv) (cv:=cv) hq2.2.1 k u hu) (fun r H' h=>?_)) (fun _ h=>absurd h bD)
  obtain ⟨_,⟨rfl,rfl⟩,rfl⟩:=h
  exact ⟨emp,fS.nil _ _,rfl⟩
end
structure TkU where
 t:Tk
 p:Option Addr
 c:Nat
 st:Int
 un:Int
def mD (x:TkU):List Value:=[int x.t.k,int x.t.q.src,int x.t.q.dst,int x.t.q.size,int x.t.q.rdy,int x.t.q.dln,int x.t.q.pri,.bool x.t.q.cus,.slice x.p x.t.hops.length x.c,int x.st,int x.un]
theorem jX (x:TkU):(mD x).length=11:=rfl
structure qL (χ:PH) (Γ:List PH) (v:Value) (L:List TkU):Prop where
 tk:SlE mD 11 χ v L
 hp:∀ x∈L,∃ γ∈Γ,SlE gE 4 γ (.slice x.p x.t.hops.length x.c) x.t.hops
theorem qL.mono {χ δ:PH} {Γ:List PH} {v:Value} {L:List TkU} (h:qL χ Γ v L) (hs:PH.sub χ δ) (hg:∀ γ∈Γ,PH.sub γ δ):qL δ [δ] v L:=⟨h.tk.mono hs,fun x hx=>by
 obtain ⟨γ,h1,h2⟩:=h.hp x hx
 exact ⟨δ,by simp,h2.mono (hg γ h1)⟩⟩
def aCn (qs:List Int) (cs:List Ct) (L:List TkU):Prop:=∀ x∈L,nF qs.length x.t.q/\(rT cs x.t.q x.t.hops\/x.t.hops=[]/\x.un<=x.t.q.rdy)
theorem tM:Ans Tryz.prog (fv 78) [.slice none 0 0] [] (fun r=>r=.slice none 0 0):=by
 refine A8 Tryz.func78 Tryz.ntmps78 fun N β=>?_
 refine Ab9 ?_
 focus ((refine' CN _ rfl rfl rfl _; rotate_left; (apply FD; exact rfl; exact rfl; exact rfl)))
 refine Ab6 ?_;exact AV ⟨rfl,rfl⟩
section
variable {ρ τ:PH} {pq pc:Option Addr} {kq kc:Nat} {qs:List Int} {cs:List Ct}
theorem rZ (cs:List Ct) (q:Rq) (k:Int):∀ (l:List Hp) (n f:Int),(hZ cs q k n f l).length=l.length
 | [],_,_=>rfl
 | h::l,n,f=>by simp [hZ,rZ cs q k l]
theorem aU5:∀ (l:List Hd),∀ u∈l.flatMap hY,u.oneCell'=true:=fun l u hu=>by
 obtain ⟨x,_,hx⟩:=dB.1 hu
 simp only [hY,aE,bD,or_false] at hx
 rcases hx with rfl|rfl|rfl|rfl|rfl <;> rfl
theorem jY (hq:gC ρ (.slice pq qs.length kq) qs) (hc:jW τ (.slice pc cs.length kc) cs) (hcap:cs.length<=kc) (lq:qs.length<=9223372036854775807) (lc:cs.length<=9223372036854775807) (hp:gD qs cs=0) {χ:PH} {Γ:List PH} {pt:Option Addr} {kt:Nat} {L:List TkU} (hL:qL χ Γ (.slice pt L.length kt) L) (hl:L.length<=5) (hok:aCn qs cs L) :
  Eng.Spec Tryz.prog (fv 27) [.agg #[.slice pq qs.length kq,.slice pc cs.length kc,.slice none 0 0,.slice pt L.length kt]] (τ::χ::Γ) [] (fun r H'=>∃ (bs:List Bk) (hs:List Hd) (pb ph:Option Addr) (kb kh:Nat) (σ υ:PH),r=.agg #[.slice pq qs.length kq,.slice pc cs.length kc,.slice pb bs.length kb,.slice ph hs.length kh]/\bs.Perm (jJ (L.map (·.t)))/\BkW bs/\hs.Perm (jB cs (L.map (·.t)))/\nJ hs/\fS 118 4 (.slice pb bs.length kb) bs.length (bs.flatMap gX) σ/\fS 259 5 (.slice ph hs.length kh) hs.length (hs.flatMap hY) υ/\H'=[σ,υ]):=by
 have hbk:=fun {lam:PH} {pv:Option Addr} {cv:Nat} {l:List Hp} (hv:SlE gE 4 lam (.slice pv l.length cv) l) hl k=>aL5 hv hl k
 have hho:=fun {q:Rq} hq2 {lam:PH} {pv:Option Addr} {cv:Nat} {l:List Hp} (hv:SlE gE 4 lam (.slice pv l.length cv) l) k u hr=>aGy (ρ:=ρ) (q:=q) hq hc hcap lq lc hp hq2 hv k u hr
 obtain ⟨hTk,hHp⟩:=hL
 obtain ⟨_,_,e,hrt⟩:=SlE.val jX hTk
 simp only [aN] at e
 obtain ⟨rfl,_,rfl⟩:=e
 refine A8 Tryz.func27 Tryz.ntmps27 fun N β=>?_
 refine Aa ?_
 refine BF fun b1 bx180=>?_
 refine CT fun b2=>?_
 have cg2:=rdC bx180 2
 have cg3:=rdC bx180 3
 have cgp:=rdQ (xs:=[_,_]) bx180
 refine B9 ?_;refine B9 ?_;refine Aak ?_
 refine DG (X:=Nat) [1,2] (fun _=>True) (fun x=>[(3,.pointer (some ⟨x,0,none⟩))]) (fun x=>[sng x (.cells #[.slice pq qs.length kq,.slice pc cs.length kc,.slice none 0 0,.slice none 0 0] 41 (0,0)),sng b2 (.cells #[.slice none 0 0,.slice none 0 0,.slice none 0 0,.slice none 0 0] 41 (0,0)),emp,emp]) fT ?_ ?_
 ·refine A9 (.q 0 (.q 1 (.q 2 (.q 3 (.l2 4 .e (.q 5 (.l 6 .e (.l 7 .b .nil))) 6 .e (.l 4 .e (.q 5 (.l 7 .b .nil)))))))) [] rfl (by kernel_rfl) fK ?_
  repeat' (first
   | (refine AN ?_)
   | (refine AR ?_)
   | (refine A7 ?_)
   | (focus ((refine BQ rfl tM rfl rfl rdZ rfl rfl ?_; rintro _ rfl)))
   | (focus ((refine BZ (BQ rfl tM rfl rfl rdZ rfl rfl ?_); rintro _ rfl)))
   | (refine BC ?_)
   | (refine EP ?_ ?_)
   | (focus ((refine' CX rfl _ rfl rfl rfl rfl _; rotate_left; (apply CW (out:=[.slice pq qs.length kq,.slice pc cs.length kc,.slice none 0 0,.slice none 0 0]); exact rfl; exact rfl; exact rfl; exact rfl; exact rfl))))
   | (focus ((refine BZ ?_; refine' D7 rfl _ rfl rfl _ _; rotate_left; (apply DB; exact rfl; exact rfl; exact fL; exact iF; exact rfl; exact rfl); (focus (rintro _ _ ⟨_,rfl⟩ w hw; exact hw.sel fK)); rintro _ _ ⟨rfl,rfl⟩)))
   | (refine E0 fun b=>?_)
   | (refine EZ fun b=>?_)
   | fail)
  all_goals exact CK _ trivial fP fK
 rintro b3 _;refine AC ?_;refine Aan ?_;refine Abh ?_
 refine BE [1,2,3,13,14] (X:=(Nat × (List Bk × List Hd)) × ((Value × PH) × (Value × PH))) ((0,([],[])),((.slice none 0 0,emp),(.slice none 0 0,emp))) (fun z=>z.1.1<=L.length/\z.1.2.1.Perm (jJ ((L.take z.1.1).map (·.t)))/\z.1.2.2=jB cs ((L.take z.1.1).map (·.t))/\z.1.2.1.length<=1000*z.1.1/\z.1.2.2.length<=1000*z.1.1/\fS 118 4 z.2.1.1 z.1.2.1.length (z.1.2.1.flatMap gX) z.2.1.2/\fS 259 5 z.2.2.1 z.1.2.2.length (z.1.2.2.flatMap hY) z.2.2.2) (fun z=>[(15,int (z.1.1:Int))]) (fun z=>[sng b3 (.cells #[.slice pq qs.length kq,.slice pc cs.length kc,z.2.1.1,z.2.2.1] 41 (0,0)),sng b2 (.cells #[.slice none 0 0,.slice none 0 0,.slice none 0 0,.slice none 0 0] 41 (0,0)),z.2.1.2,z.2.2.2]) (fun z=>L.length-z.1.1) fT ⟨cA _,List.Perm.refl _,rfl,cA _,cA _,fS.nil _ _,fS.nil _ _⟩ fP fK ?_
 rintro ⟨⟨i,⟨B,D⟩⟩,⟨⟨vb,σ⟩,⟨vh,υ⟩⟩⟩ ⟨hi,hB,hD,lB,lD,hOB,hOH⟩
 dsimp only at hi hB hD lB lD hOB hOH ⊢
 have hvb:=kL _ _ _ _ hOB
 have hvh:=kL _ _ _ _ hOH
 by_cases hlt:i<L.length
 ·have hx:=aA hlt
  have hxm:=cP hlt
  have htk:(L.take (i+1)).map (·.t)=(L.take i).map (·.t) ++ [L[i].t]:=by rw [cV,hx,cX]; rfl
  obtain ⟨bl,ol,rfl,hrd⟩:=hrt i _ hx
  obtain ⟨ok1,ok2⟩:=hok _ hxm
  obtain ⟨lam,hlam,hpp⟩:=hHp _ hxm
  generalize L[i]=x at hx hxm htk hrd ok1 ok2 hpp
  obtain ⟨⟨kx,q,hops⟩,px,cx,st,un⟩:=x
  dsimp only at ok1 ok2 hpp htk
  have hrd:RdN χ bl (ol+i*11) [int kx,int q.src,int q.dst,int q.size,int q.rdy,int q.dln,int q.pri,.bool q.cus,.slice px hops.length cx,int st,int un]:=hrd
  have hll:hops.length<=1000:=by
   rcases ok2 with h|h
   ·exact h.len
   ·rw [h.1]; exact cA _
  have hbk1:=hbk hpp hll kx
  have hho1:=hho (q:=q) ok1 hpp kx un ok2
  have hlh:=rZ cs q kx hops q.src q.rdy
  have hD2:jB cs ((L.take (i+1)).map (·.t))=D ++ hZ cs q kx q.src q.rdy hops:=by rw [htk,hD]; simp [jB,aPe]
  have hB2:∀ bs:List Bk,bs.Perm (hops.map (qJ kx))->(B ++ bs).Perm (jJ ((L.take (i+1)).map (·.t))):=fun bs h=>by
   rw [htk]
   have e:jJ ((L.take i).map (·.t) ++ [(⟨kx,q,hops⟩:Tk)])=jJ ((L.take i).map (·.t)) ++ hops.map (qJ kx):=by simp [jJ,aCf]
   rw [e];exact List.Perm.append hB h
  generalize hZ cs q kx q.src q.rdy hops=hw at hho1 hlh hD2
  refine Ab2 ?_
  refine A3 fun b=>?_
  refine Adb ?_
  revert b; intro b5
  refine AW (ρ:=sng b5 _) fL ?_
  have bx254_3:=rdB b5 58 [int kx,int q.src,int q.dst,int q.size,int q.rdy,int q.dln,int q.pri,.bool q.cus,.slice px hops.length cx,int st,int un]
  have z0:=rdC bx254_3 0
  have z8:=rdC bx254_3 8
  have z10:=rdC bx254_3 10
  have zp:RdP (sng b5 (.cells #[int kx,int q.src,int q.dst,int q.size,int q.rdy,int q.dln,int q.pri,.bool q.cus,.slice px hops.length cx,int st,int un] 58 (0,0))) b5 1 [int q.src,int q.dst,int q.size,int q.rdy,int q.dln,int q.pri,.bool q.cus]:=iB (xs:=[int kx,int q.src,int q.dst,int q.size,int q.rdy,int q.dln,int q.pri,.bool q.cus,.slice px hops.length cx,int st,int un]) rfl
  refine A9 (.q 0 (.q 1 (.q 2 (.q 3 (.q 4 (.q 5 (.l 6 .e (.l 7 .b (.q 8 (.l 9 .b .nil)))))))))) [] rfl (by kernel_rfl) fK ?_
  refine Abj ?_;refine Aaj ?_
  refine BZ (C8 rfl hbk1 rfl rfl (fun z hz=>by rw [bI] at hz; subst hz; exact .inl (by simp [hlam])) rfl rfl ?_)
  rintro vn _ ⟨χ1,⟨bs1,hp1,hO1⟩,rfl⟩
  have hl1:=hp1.length_eq
  rw [aU] at hl1;simp only [aG,aH]
  skip
  refine BZ (a_b rfl (DS (by_:=32) (s:=4) (σ:=χ1) (news:=bs1.flatMap gX) (m:=bs1.length) rfl rfl rfl rfl rfl rfl rfl hOB fL hO1.at (fun b o h=>aAl h gN) (aXa bs1) (by simp only [maxLen]; omega) (by omega)) rfl rfl rfl (fun _ _ _ w hw=>hw.sel Sel.nil) ?_)
  rintro vb2 _ ⟨σ2,hOB2,rfl⟩
  have hvb2:=kL _ _ _ _ hOB2
  refine AR ?_;refine Adr ?_
  skip
  refine A9 (.q 0 (.q 1 (.q 2 (.q 3 (.q 4 (.q 5 (.q 6 (.q 7 (.q 8 (.q 9 (.q 10 (.q 11 (.l 12 .e (.l 13 .b (.q 14 (.l 15 .b .nil)))))))))))))))) [] rfl (by kernel_rfl) fK ?_
  refine Aaj ?_;refine AR ?_;refine A7 ?_;refine AR ?_;refine A7 ?_;refine Abj ?_;refine Aaj ?_
  refine BZ (C8 rfl hho1 rfl rfl (fun z hz=>by simp only [aE,bD,or_false] at hz; rcases hz with rfl|rfl; exact .inl (by simp); exact .inl (by simp [hlam])) rfl rfl ?_)
  rintro vn2 _ ⟨χ2,hO2,rfl⟩;simp only [aG,aH]
  skip
  refine BZ (a_b rfl (DS (by_:=40) (s:=5) (σ:=χ2) (news:=hw.flatMap hY) (m:=hw.length) rfl rfl rfl rfl rfl rfl rfl hOH fL hO2.at (fun b o h=>aAl h gN) (aU5 hw) (by simp only [maxLen]; omega) (by omega)) rfl rfl rfl (fun _ _ _ w hw=>hw.sel Sel.nil) ?_)
  rintro vh2 _ ⟨υ2,hOH2,rfl⟩
  have hvh2:=kL _ _ _ _ hOH2
  refine AR ?_;refine Adr ?_;refine Ad5 ?_
  refine AZ ((i+1,(B ++ bs1,D ++ hw)),((vb2,σ2),(vh2,υ2))) ⟨by dsimp only; omega,hB2 bs1 hp1,hD2.symm,by dsimp only; rw [aB]; omega,by dsimp only; rw [aB]; omega,by dsimp only; rw [aB,aX]; exact hOB2,by dsimp only; rw [aB,aX]; exact hOH2⟩ (by dsimp only; omega) fP fK
 have hke:i=L.length:=by omega
 subst hke;rw [bJ] at hB hD
 obtain ⟨pb,kb,rfl⟩:=hOB.form
 obtain ⟨ph,kh,rfl⟩:=hOH.form
 have hso:=aDi pq pc pb ph qs.length cs.length kq kc kb kh B D σ υ hOB hOH (by omega) (by omega)
 refine Abp ?_;refine Aar ?_;refine BG hso rfl rfl fU rdZ rfl rfl ?_;rintro _ _ ⟨rfl,bs',hs',σ',υ',p1,s1,p2,s2,o1,o2,rfl⟩;simp only [aG,aH];refine Aa6 ?_
 have l1:=p1.length_eq
 have l2:=p2.length_eq
 refine A2 (zB (b1:=b2) (T:=41) (v1:=[.slice pq qs.length kq,.slice pc cs.length kc,.slice pb B.length kb,.slice ph D.length kh]) rfl rfl rfl rfl (fR gN)) fQ fK ⟨bs',hs',pb,ph,kb,kh,σ',υ',by rw [l1,l2],p1.trans hB,s1,by rw [← hD]; exact p2,s2,by rw [l1] at o1 ⊢; exact o1,by rw [l2] at o2 ⊢; exact o2,rfl⟩
end
end
section
theorem aJ6 (fn:Value):Ans Tryz.prog (fv 105) [.slice none 0 0,fn] [] (fun r=>r=int (-1)):=by
 refine A8 Tryz.func105 Tryz.ntmps105 fun N β=>?_
 refine Adf ?_
 refine BE [0,1,6,7] (X:=Unit) () (fun _=>True) (fun _=>[(8,int 0)]) (fun _=>[]) (fun _=>0) fT trivial fP fK ?_
 rintro _ _;refine Aep ?_;exact AV ⟨rfl,rfl⟩
theorem aGz (fn:Value):Ans Tryz.prog (fv 42) [.slice none 0 0,fn] [] (fun r=>r=.bool false):=by
 refine A8 Tryz.func42 Tryz.ntmps42 fun N β=>?_
 refine Aea ?_;refine A5 (aJ6 fn) ?_;refine CP ?_;refine Aaa ?_;exact AV ⟨rfl,rfl⟩
section
variable {ρ τ:PH} {pq pc:Option Addr} {kq kc:Nat} {qs:List Int} {cs:List Ct}
theorem aJ7 (hq:gC ρ (.slice pq qs.length kq) qs) (hc:jW τ (.slice pc cs.length kc) cs) (hcap:cs.length<=kc) (lq:qs.length<=9223372036854775807) (lc:cs.length<=9223372036854775807) (hp:gD qs cs=0) {q:Rq} (ho:nF qs.length q) {pv:Option Addr} {cv:Nat}:Ans Tryz.prog (fv 106) [.agg #[.slice pq qs.length kq,.slice pc cs.length kc],.agg #[int q.src,int q.dst,int q.size,int q.rdy,int q.dln,int q.pri,.bool q.cus],.slice pv 0 cv] [ρ,τ] (fun r=>∃ e:Int,e≠0/\r=int e):=by
 have hcr:=mO (q:=q) hq hc hcap lq lc hp ho
 refine A8 Tryz.func106 Tryz.ntmps106 fun N β=>?_
 refine Aa ?_
 refine BV fun b3=>?_
 refine BV fun b4=>?_
 refine CR (DH rfl rfl) rfl rfl rfl ?_;rintro _ _ ⟨b6,rfl,rfl⟩;refine AW (ρ:=sng b3 _) fL ?_;refine AW (ρ:=sng b4 _) fL ?_
 have cp:=rdB b3 25 [.slice pq qs.length kq,.slice pc cs.length kc]
 have cp1:=rdC cp 1
 have cr:=rdB b4 38 [int q.src,int q.dst,int q.size,int q.rdy,int q.dln,int q.pri,.bool q.cus]
 have cr1:=rdC cr 1
 have cr4:=rdC cr 4
 refine Aak ?_;refine Abs ?_;refine A5 hcr ?_;refine Adp ?_;refine A6 ?_;refine Aej ?_;refine Aa ?_;refine Abx ?_
 exact A2 (aEr (b1:=b6) (T:=33) (v1:=int 20) rfl rfl rfl (jV gN rfl)) fQ fK ⟨rfl,20,by decide,rfl⟩
theorem aG0 (hq:gC ρ (.slice pq qs.length kq) qs) (hc:jW τ (.slice pc cs.length kc) cs) (hcap:cs.length<=kc) (lq:qs.length<=9223372036854775807) (lc:cs.length<=9223372036854775807) (hp:gD qs cs=0) {χ:PH} (x:TkU) (hx:SlE gE 4 χ (.slice x.p x.t.hops.length x.c) x.t.hops) (ho:nF qs.length x.t.q) (hr:rT cs x.t.q x.t.hops) (hs1:x.st=1) (hs2:x.un=0) (before:Int) (hb:before<x.t.k) (hk:x.t.k<=1152921504606846976) :
  Ans Tryz.prog (fv 44) [.agg #[.slice pq qs.length kq,.slice pc cs.length kc],.agg #[int x.t.k,int x.t.q.src,int x.t.q.dst,int x.t.q.size,int x.t.q.rdy,int x.t.q.dln,int x.t.q.pri,.bool x.t.q.cus,.slice x.p x.t.hops.length x.c,int x.st,int x.un],int before] [ρ,τ,χ] (fun r=>r=int 0):=by
 obtain ⟨⟨kx,q,hops⟩,px,cx,st,un⟩:=x
 dsimp only at hx ho hr hb hk hs1 hs2 ⊢
 subst hs1 hs2
 have hcr:=mO (q:=q) hq hc hcap lq lc hp ho
 have hrc:=zN (q:=q) hq hc hcap lq lc hp ho hx hr
 refine A8 Tryz.func44 Tryz.ntmps44 fun N β=>?_
 refine Aa ?_
 refine BF fun b3 cp=>?_
 refine BF fun b4 bx111=>?_
 have ct0:=rdC bx111 0
 have ct8:=rdC bx111 8
 have ct9:=rdC bx111 9
 have ct10:=rdC bx111 10
 have zp:RdP (sng b4 (.cells #[int kx,int q.src,int q.dst,int q.size,int q.rdy,int q.dln,int q.pri,.bool q.cus,.slice px hops.length cx,int 1,int 0] 58 (0,0))) b4 1 [int q.src,int q.dst,int q.size,int q.rdy,int q.dln,int q.pri,.bool q.cus]:=iB (xs:=[int kx,int q.src,int q.dst,int q.size,int q.rdy,int q.dln,int q.pri,.bool q.cus,.slice px hops.length cx,int 1,int 0]) rfl
 refine Aba ?_;refine Acm ?_;refine DC ?_;refine Aas ?_;refine B7 ?_;refine Ac4 ?_;refine Aan ?_;refine BN ?_;refine Acd ?_;refine Ac4 ?_;refine Aar ?_;refine Ab4 ?_;refine A5 hcr ?_;refine Abn ?_;refine Aar ?_;refine Ab4 ?_;refine Aac ?_;refine A5 hrc ?_;refine Acv ?_;refine CJ ?_;refine Aal ?_;refine CJ ?_;refine AY ?_;refine Aas ?_;refine CJ ?_;refine AY ?_;refine Acv ?_;refine B3 ?_;refine Aec ?_;refine Aad ?_;refine AT ?_;refine Acd ?_;refine AT ?_;refine Acd ?_;refine AT ?_;refine Abv ?_;refine BX ?_;refine Abd ?_;refine Abe ?_;refine Aam ?_;exact AV ⟨rfl,rfl⟩
theorem aDk (hq:gC ρ (.slice pq qs.length kq) qs) (hc:jW τ (.slice pc cs.length kc) cs) (hcap:cs.length<=kc) (lq:qs.length<=9223372036854775807) (lc:cs.length<=9223372036854775807) (hp:gD qs cs=0) {χ:PH} (x:TkU) (hx:SlE gE 4 χ (.slice x.p x.t.hops.length x.c) x.t.hops) (ho:nF qs.length x.t.q) (hr:x.t.hops=[]) (hs1:x.st=2) (hs2:x.un=0) (before:Int) (hb:before<x.t.k) (hk:x.t.k<=1152921504606846976) :
  Ans Tryz.prog (fv 44) [.agg #[.slice pq qs.length kq,.slice pc cs.length kc],.agg #[int x.t.k,int x.t.q.src,int x.t.q.dst,int x.t.q.size,int x.t.q.rdy,int x.t.q.dln,int x.t.q.pri,.bool x.t.q.cus,.slice x.p x.t.hops.length x.c,int x.st,int x.un],int before] [ρ,τ,χ] (fun r=>r=int 0):=by
 obtain ⟨⟨kx,q,hops⟩,px,cx,st,un⟩:=x
 dsimp only at hx ho hr hb hk hs1 hs2 ⊢
 subst hs1 hs2 hr
 have hcr:=mO (q:=q) hq hc hcap lq lc hp ho
 have hrc:=aJ7 (q:=q) (pv:=px) (cv:=cx) hq hc hcap lq lc hp ho
 refine A8 Tryz.func44 Tryz.ntmps44 fun N β=>?_
 refine Aa ?_
 refine BV fun b3=>?_
 refine BV fun b4=>?_
 refine AW (ρ:=sng b3 _) fL ?_;refine AW (ρ:=sng b4 _) fL ?_
 have cp:=rdB b3 25 [.slice pq qs.length kq,.slice pc cs.length kc]
 have bx238_3:=rdB b4 58 [int kx,int q.src,int q.dst,int q.size,int q.rdy,int q.dln,int q.pri,.bool q.cus,.slice px 0 cx,int 2,int 0]
 have ct0:=rdC bx238_3 0
 have ct8:=rdC bx238_3 8
 have ct9:=rdC bx238_3 9
 have ct10:=rdC bx238_3 10
 have zp:RdP (sng b4 (.cells #[int kx,int q.src,int q.dst,int q.size,int q.rdy,int q.dln,int q.pri,.bool q.cus,.slice px 0 cx,int 2,int 0] 58 (0,0))) b4 1 [int q.src,int q.dst,int q.size,int q.rdy,int q.dln,int q.pri,.bool q.cus]:=iB (xs:=[int kx,int q.src,int q.dst,int q.size,int q.rdy,int q.dln,int q.pri,.bool q.cus,.slice px 0 cx,int 2,int 0]) rfl
 refine Aba ?_;refine Acm ?_;refine DC ?_;refine Aas ?_;refine B7 ?_;refine Ac4 ?_;refine Aan ?_;refine C5 ?_;refine Aas ?_;refine BN ?_;refine Adw ?_;refine AC ?_;refine Aar ?_;refine Ab4 ?_;refine A5 hcr ?_;refine Abn ?_;refine Aar ?_;refine Ab4 ?_;refine Aac ?_;refine BT hrc rfl rfl rdZ rfl rfl ?_;rintro _ ⟨e,he,rfl⟩;refine Acv ?_;refine B3 ?_;refine Abd ?_;refine AT ?_;refine Acd ?_;refine Acf ?_;refine Aan ?_;refine CJ ?_;refine Aas ?_;refine A6 ?_;refine CJ ?_;refine Abd ?_;refine AY ?_;refine AY ?_;refine Aas ?_;refine DQ ?_;refine AY ?_;refine Aas ?_;refine EA ?_;refine AY ?_;refine Abv ?_;refine BX ?_;refine Aal ?_;refine BX ?_;refine Adw ?_;refine Aam ?_;exact AV ⟨rfl,rfl⟩
def StU (x:TkU):Prop:=(x.t.hops≠[]/\x.st=1\/x.t.hops=[]/\x.st=2)/\x.un=0
theorem wH {T:List Tk} {L:List TkU} (hL:L.map (·.t)=T) (h:∀ x∈T,TkV qs cs x) (hs:∀ x∈L,StU x):aCn qs cs L:=fun x hx=>by
 have h1:=h x.t (by rw [← hL]; exact List.mem_map_of_mem hx)
 refine ⟨h1.1,h1.2.imp id (fun h2=>⟨h2,?_⟩)⟩
 rw [(hs x hx).2];exact h1.1.2.2.1.2.2.1
theorem nR (hq:gC ρ (.slice pq qs.length kq) qs) (hc:jW τ (.slice pc cs.length kc) cs) (hcap:cs.length<=kc) (lq:qs.length<=9223372036854775807) (lc:cs.length<=9223372036854775807) (hp:gD qs cs=0) {χ:PH} {Γ:List PH} {pt:Option Addr} {kt:Nat} {L:List TkU} (hL:qL χ Γ (.slice pt L.length kt) L) (hok:LgW qs cs (L.map (·.t))) (hst:∀ x∈L,StU x) :
  Ans Tryz.prog (fv 12) [.agg #[.slice pq qs.length kq,.slice pc cs.length kc,.slice none 0 0,.slice pt L.length kt]] (ρ::τ::χ::Γ) (fun r=>r=int 0):=by
 have hll:L.length<=4:=by have:=hok.v.len; rwa [aU] at this
 have htk:aCn qs cs L:=wH rfl hok.v.tk hst
 have hnum:∀ (i:Nat) (x:TkU),L[i]?=some x->x.t.k=(i:Int)+1:=fun i x hx=>hok.v.num i x.t (by rw [aY,hx]; rfl)
 have hta:=jY hq hc hcap lq lc hp hL (by omega) htk
 have hpc:=iD ρ τ pq pc kq kc qs cs hq hc hcap lq lc
 rw [hp] at hpc
 have hbc:=qD ρ τ emp pq pc kq kc qs cs (.slice none 0 0) [] hq hc hcap lq lc (fS.nil 118 4).at (by simp)
 have hb0:sZ qs cs []=0:=by unfold sZ; rw [if_neg (by simp [hp]),if_neg (by simp)]; rfl
 rw [hb0] at hbc
 have hck:∀ (lam:PH) (x:TkU),SlE gE 4 lam (.slice x.p x.t.hops.length x.c) x.t.hops->x∈L->∀ before:Int,before<x.t.k->x.t.k<=1152921504606846976->Ans Tryz.prog (fv 44) [.agg #[.slice pq qs.length kq,.slice pc cs.length kc],.agg #[int x.t.k,int x.t.q.src,int x.t.q.dst,int x.t.q.size,int x.t.q.rdy,int x.t.q.dln,int x.t.q.pri,.bool x.t.q.cus,.slice x.p x.t.hops.length x.c,int x.st,int x.un],int before] [ρ,τ,lam] (fun r=>r=int 0):=fun lam x hx hm before hb hk=>by
  obtain ⟨h1,h2⟩:=hok.v.tk x.t (List.mem_map_of_mem hm)
  obtain ⟨h3,h4⟩:=hst x hm
  by_cases h0:x.t.hops=[]
  ·exact aDk hq hc hcap lq lc hp x hx h1 h0 (h3.elim (fun h=>absurd h0 h.1) (fun h=>h.2)) h4 before hb hk
  ·exact aG0 hq hc hcap lq lc hp x hx h1 (h2.resolve_right h0) (h3.elim (fun h=>h.2) (fun h=>absurd h.1 h0)) h4 before hb hk
 have hLg:=hL
 obtain ⟨hTk,hHp⟩:=hL
 obtain ⟨_,_,e,hrt⟩:=SlE.val jX hTk
 simp only [aN] at e
 obtain ⟨rfl,_,rfl⟩:=e
 refine A8 Tryz.func12 Tryz.ntmps12 fun N β=>?_
 refine Aa ?_
 refine BF fun b1 cg=>?_
 have cg2:=rdC cg 2
 have cg3:=rdC cg 3
 have cgp:=rdQ (xs:=[_,_]) cg
 refine B9 ?_;refine Aba ?_;refine Acz ?_;refine A5 hpc ?_;refine Ac7 ?_;refine AC ?_;refine Aan ?_;refine A5 (aGz _) ?_;refine Aai ?_;refine AC ?_;refine Aan ?_;refine Ade ?_;refine Aai ?_;refine Aam ?_;refine AC ?_;refine Aan ?_;refine Abh ?_
 refine BE [1,23,24] (X:=Nat) 0 (fun i=>i<=L.length) (fun i=>[(25,int (i:Int)),(4,int (i:Int))]) (fun _=>[emp]) (fun i=>L.length-i) fT (cA _) fP fK ?_
 rintro i hi
 by_cases hlt:i<L.length
 ·have hx:=aA hlt
  have hxm:=cP hlt
  have hkx:=hnum i _ hx
  obtain ⟨bl,ol,rfl,hrd⟩:=hrt i _ hx
  obtain ⟨ok1,ok2⟩:=htk _ hxm
  obtain ⟨lam,hlam,hpp⟩:=hHp _ hxm
  have hck1:=hck lam _ hpp hxm (i:Int) (by omega) (by omega)
  generalize L[i]=x at hx hxm hkx hrd ok1 ok2 hck1 hpp
  obtain ⟨⟨kx,q,hops⟩,px,cx,st,un⟩:=x
  dsimp only at ok1 ok2 hck1 hkx
  have ek:kx=((i+1:Nat):Int):=by omega
  subst ek
  have hrd:RdN χ bl (ol+i*11) [int ((i+1:Nat):Int),int q.src,int q.dst,int q.size,int q.rdy,int q.dln,int q.pri,.bool q.cus,.slice px hops.length cx,int st,int un]:=hrd
  refine Ab2 ?_
  refine A3 fun b=>?_
  refine Adb ?_;refine Acz ?_;refine AI ?_;refine AB ?_
  revert b; intro b6
  refine AW (ρ:=sng b6 _) fL ?_
  have zw:=rdB b6 58 [int ((i+1:Nat):Int),int q.src,int q.dst,int q.size,int q.rdy,int q.dln,int q.pri,.bool q.cus,.slice px hops.length cx,int st,int un]
  have z0:=rdC zw 0
  skip
  refine BT hck1 rfl rfl (fun z hz=>by simp only [aE,bD,or_false] at hz; rcases hz with rfl|rfl|rfl; exact .inl (by simp); exact .inl (by simp); exact .inl (by simp [hlam])) rfl rfl ?_
  rintro _ rfl;refine Ac7 ?_;refine AA ?_;refine Aac ?_;refine Aaa ?_;refine Ad5 ?_
  exact AZ (i+1) (by omega) (by omega) fP fK
 have hke:i=L.length:=by omega
 subst hke;refine Abp ?_;refine AC ?_;refine Acz ?_;refine Aac ?_;refine A5 hbc ?_;refine Ac7 ?_;refine Aar ?_;refine BG hta rfl rfl fU rdZ rfl rfl ?_;rintro _ _ ⟨bs,hs,pb,ph,kb,kh,σ,υ,rfl,p1,s1,p2,s2,o1,o2,rfl⟩
 have hTb:oF ρ τ σ υ pq pc pb ph kq kc kb kh qs cs bs hs:=⟨hq,hc,hcap,lq,lc,o1.at,by have:=p1.length_eq; have:=hok.nb; omega,o2.at,by have:=p2.length_eq; have:=hok.nh; omega⟩
 have hct:=rM hTb
 rw [hok.tab p1 s1 p2 s2] at hct;simp only [aG,aH];refine A5 hct ?_;refine Aaa ?_;exact AV ⟨rfl,rfl⟩
theorem aJ8 (hq:gC ρ (.slice pq qs.length kq) qs) (hc:jW τ (.slice pc cs.length kc) cs) (hcap:cs.length<=kc) (lq:qs.length<=9223372036854775807) (lc:cs.length<=9223372036854775807) (hp:gD qs cs=0) {χ:PH} {Γ:List PH} {pt:Option Addr} {kt:Nat} {L:List TkU} (hL:qL χ Γ (.slice pt L.length kt) L) (hok:LgW qs cs (L.map (·.t))) (hst:∀ x∈L,StU x) :
  Eng.Spec Tryz.prog (fv 8) [.agg #[.slice pq qs.length kq,.slice pc cs.length kc,.slice none 0 0,.slice pt L.length kt]] (ρ::τ::χ::Γ) [] (fun r H'=>∃ (bs:List Bk) (hs:List Hd) (pb ph:Option Addr) (kb kh:Nat) (σ υ:PH),r=.tuple #[.agg #[.slice pq qs.length kq,.slice pc cs.length kc,.slice pb bs.length kb,.slice ph hs.length kh],int 0]/\bs.Perm (jJ (L.map (·.t)))/\BkW bs/\hs.Perm (jB cs (L.map (·.t)))/\nJ hs/\fS 118 4 (.slice pb bs.length kb) bs.length (bs.flatMap gX) σ/\fS 259 5 (.slice ph hs.length kh) hs.length (hs.flatMap hY) υ/\H'=[σ,υ]):=by
 have hll:L.length<=4:=by have:=hok.v.len; rwa [aU] at this
 have htk:aCn qs cs L:=wH rfl hok.v.tk hst
 have hta:=jY hq hc hcap lq lc hp hL (by omega) htk
 have hck:=nR hq hc hcap lq lc hp hL hok hst
 refine A8 Tryz.func8 Tryz.ntmps8 fun N β=>?_
 refine Aa ?_
 refine BF fun b1 cg=>?_
 refine CT fun b2=>?_
 refine Aba ?_;refine Aar ?_;refine A5 hck ?_;refine Abn ?_;refine Aar ?_;refine BG hta rfl rfl fU rdZ rfl rfl ?_;rintro _ _ ⟨bs,hs,pb,ph,kb,kh,σ,υ,rfl,p1,s1,p2,s2,o1,o2,rfl⟩;simp only [aG,aH];refine Add ?_;exact A2 (zC (b1:=b2) (T:=41) (v1:=[.slice pq qs.length kq,.slice pc cs.length kc,.slice pb bs.length kb,.slice ph hs.length kh]) rfl rfl rfl rfl rfl (fR gN)) fQ fK ⟨bs,hs,pb,ph,kb,kh,σ,υ,rfl,p1,s1,p2,s2,o1,o2,rfl⟩
end
end
theorem aXe:∀ (l:List TkU),∀ u∈l.flatMap mD,u.oneCell'=true:=fun l u hu=>by
 obtain ⟨x,_,hx⟩:=dB.1 hu
 simp only [mD,aE,bD,or_false] at hx
 rcases hx with rfl|rfl|rfl|rfl|rfl|rfl|rfl|rfl|rfl|rfl|rfl <;> rfl
theorem aDl (ρ:PH) (v:Value) (l:List TkU) (hv:SlE mD 11 ρ v l) (hl:l.length<=1000000) :
  jM Tryz.prog (fv 92) [v] [ρ] (fun r σ=>fS 58 11 r l.length (l.flatMap mD) σ):=by
 have hv2:=hv
 obtain ⟨q,c,rfl,hr⟩:=hv.val jX
 refine A8 Tryz.func92 Tryz.ntmps92 fun N β=>?_
 cases q with
 | none =>
  have hnil:l=[]:=by
   cases l with
   | nil=>rfl
   | cons a l =>
    obtain ⟨b,o,e,_⟩:=hr 0 a rfl
    simp at e
  subst hnil;refine B9 ?_;refine Ab9 ?_
  focus ((refine' CN _ rfl rfl rfl _; rotate_left; (apply FD; exact rfl; exact rfl; exact rfl)))
  refine Ab6 ?_;exact AV ⟨emp,fS.nil _ _,rfl⟩
 | some ad =>
  refine Ab9 ?_
  focus ((refine' CN _ rfl rfl rfl _; rotate_left; (apply F0; exact rfl; exact rfl; exact rfl)))
  refine Aai ?_;refine Aa ?_
  refine BW fun b=>?_
  refine AB ?_
  refine CR (DS (by_:=104) (s:=11) (σ:=ρ) (news:=l.flatMap mD) (m:=l.length) rfl rfl rfl rfl rfl rfl rfl (fS.empty (b:=b)) fL hv2 (fun b o h=>tQ h gN) (aXe l) (by simp only [maxLen]; omega) (by omega)) rfl rfl rfl ?_
  rintro r1 _ ⟨σ,hO,rfl⟩;refine Aaa ?_;refine A2 (qR rfl rfl) fQ fK ⟨σ,?_,rfl⟩
  simpa using hO
theorem zF (b3:Nat) (x y:TkU) (hne:y.t.k≠x.t.k):Ans Tryz.prog (.func (.func 94) #[] #[.pointer (some ⟨b3,0,none⟩)]) [.agg #[int y.t.k,int y.t.q.src,int y.t.q.dst,int y.t.q.size,int y.t.q.rdy,int y.t.q.dln,int y.t.q.pri,.bool y.t.q.cus,.slice y.p y.t.hops.length y.c,int y.st,int y.un]] [sng b3 (.cells #[int x.t.k,int x.t.q.src,int x.t.q.dst,int x.t.q.size,int x.t.q.rdy,int x.t.q.dln,int x.t.q.pri,.bool x.t.q.cus,.slice x.p x.t.hops.length x.c,int x.st,int x.un] 58 (0,0))] (fun r=>r=.bool false):=by
 have bx72_3:=rdB b3 58 [int x.t.k,int x.t.q.src,int x.t.q.dst,int x.t.q.size,int x.t.q.rdy,int x.t.q.dln,int x.t.q.pri,.bool x.t.q.cus,.slice x.p x.t.hops.length x.c,int x.st,int x.un]
 have cx0:=rdC bx72_3 0
 refine CU [.pointer (some ⟨b3,0,none⟩)] Tryz.func94 Tryz.ntmps94 fun N β=>?_
 refine Aa ?_
 refine BF fun b2 bx76=>?_
 have cy0:=rdC bx76 0
 refine Ac8 ?_;refine B3 ?_;refine Aaa ?_;exact AV ⟨rfl,rfl⟩
theorem aG1 (b3:Nat) (x y:TkU) (hne:y.t.k=x.t.k):Ans Tryz.prog (.func (.func 94) #[] #[.pointer (some ⟨b3,0,none⟩)]) [.agg #[int y.t.k,int y.t.q.src,int y.t.q.dst,int y.t.q.size,int y.t.q.rdy,int y.t.q.dln,int y.t.q.pri,.bool y.t.q.cus,.slice y.p y.t.hops.length y.c,int y.st,int y.un]] [sng b3 (.cells #[int x.t.k,int x.t.q.src,int x.t.q.dst,int x.t.q.size,int x.t.q.rdy,int x.t.q.dln,int x.t.q.pri,.bool x.t.q.cus,.slice x.p x.t.hops.length x.c,int x.st,int x.un] 58 (0,0))] (fun r=>r=.bool true):=by
 have bx91_3:=rdB b3 58 [int x.t.k,int x.t.q.src,int x.t.q.dst,int x.t.q.size,int x.t.q.rdy,int x.t.q.dln,int x.t.q.pri,.bool x.t.q.cus,.slice x.p x.t.hops.length x.c,int x.st,int x.un]
 have cx0:=rdC bx91_3 0
 refine CU [.pointer (some ⟨b3,0,none⟩)] Tryz.func94 Tryz.ntmps94 fun N β=>?_
 refine Aa ?_
 refine BF fun b2 bx97=>?_
 have cy0:=rdC bx97 0
 refine Ac8 ?_;refine CJ ?_;refine Aaa ?_;exact AV ⟨rfl,rfl⟩
theorem zG (ρ:PH) (v:Value) (l:List TkU) (hv:SlE mD 11 ρ v l) (hl:l.length<=1000000) (b3:Nat) (x:TkU) (hne:∀ y∈l,y.t.k≠x.t.k) :
  Ans Tryz.prog (fv 93) [v,.func (.func 94) #[] #[.pointer (some ⟨b3,0,none⟩)]] [ρ,sng b3 (.cells #[int x.t.k,int x.t.q.src,int x.t.q.dst,int x.t.q.size,int x.t.q.rdy,int x.t.q.dln,int x.t.q.pri,.bool x.t.q.cus,.slice x.p x.t.hops.length x.c,int x.st,int x.un] 58 (0,0))] (fun r=>r=int (-1)):=by
 obtain ⟨q,c,rfl,hr⟩:=hv.val jX
 refine A8 Tryz.func93 Tryz.ntmps93 fun N β=>?_
 refine Adf ?_
 refine BE [0,1,6,7] (0:Nat) (fun k=>k<=l.length) (fun k=>[(8,int k)]) (fun _=>[]) (fun k=>l.length-k) fT (cA _) fP fK ?_
 rintro k hk
 by_cases hlt:k<l.length
 ·have hx:=aA hlt
  have hney:=hne _ (cP hlt)
  obtain ⟨b7,o7,rfl,hrd⟩:=hr k _ hx
  generalize l[k]=y at hx hrd hney
  have hfx:=zF b3 x y hney
  have hrd:RdN ρ b7 (o7+k*11) [int y.t.k,int y.t.q.src,int y.t.q.dst,int y.t.q.size,int y.t.q.rdy,int y.t.q.dln,int y.t.q.pri,.bool y.t.q.cus,.slice y.p y.t.hops.length y.c,int y.st,int y.un]:=hrd
  refine Ae ?_;refine A5 hfx ?_;refine Ace ?_
  exact AZ (k+1) (by omega) (by omega) fP fK
 ·have hke:k=l.length:=by omega
  subst hke;refine Aep ?_;exact AV ⟨rfl,rfl⟩
theorem aJ9 (ρ:PH) (v:Value) (l:List TkU) (hv:SlE mD 11 ρ v l) (hl:l.length<=1000000) (b3:Nat) (x:TkU) {j:Nat} (hj:j<l.length) (hne:∀ (i:Nat) (y:TkU),l[i]?=some y->(y.t.k=x.t.k↔i=j)) :
  Ans Tryz.prog (fv 93) [v,.func (.func 94) #[] #[.pointer (some ⟨b3,0,none⟩)]] [ρ,sng b3 (.cells #[int x.t.k,int x.t.q.src,int x.t.q.dst,int x.t.q.size,int x.t.q.rdy,int x.t.q.dln,int x.t.q.pri,.bool x.t.q.cus,.slice x.p x.t.hops.length x.c,int x.st,int x.un] 58 (0,0))] (fun r=>r=int (j:Int)):=by
 obtain ⟨q,c,rfl,hr⟩:=hv.val jX
 refine A8 Tryz.func93 Tryz.ntmps93 fun N β=>?_
 refine Adf ?_
 refine BE [0,1,6,7] (0:Nat) (fun k=>k<=j) (fun k=>[(8,int k)]) (fun _=>[]) (fun k=>j-k) fT (cA _) fP fK ?_
 rintro k hk
 have hlt:k<l.length:=by omega
 have hx:=aA hlt
 have hney:=hne _ _ hx
 obtain ⟨b7,o7,rfl,hrd⟩:=hr k _ hx
 generalize l[k]=y at hx hrd hney
 have hrd:RdN ρ b7 (o7+k*11) [int y.t.k,int y.t.q.src,int y.t.q.dst,int y.t.q.size,int y.t.q.rdy,int y.t.q.dln,int y.t.q.pri,.bool y.t.q.cus,.slice y.p y.t.hops.length y.c,int y.st,int y.un]:=hrd
 by_cases hkj:k=j
 ·have hfx:=aG1 b3 x y (hney.2 hkj)
  subst hkj;refine Ae ?_;refine A5 hfx ?_;refine Acu ?_;exact AV ⟨rfl,rfl⟩
 ·have hfx:=zF b3 x y (fun h=>hkj (hney.1 h))
  refine Ae ?_;refine A5 hfx ?_;refine Ace ?_
  exact AZ (k+1) (by omega) (by omega) fP fK
section
variable {pq pc pt:Option Addr} {nq nc kq kc kt:Nat}
theorem aKa (bb:Nat) (κ:PH) (l:List TkU) (hv:SlE mD 11 κ (.slice pt l.length kt) l) (hl:l.length<=100) (hn:∀ (i:Nat) (x:TkU),l[i]?=some x->x.t.k=(i:Int)+1) :
  Ans Tryz.prog (fv 34) [.pointer (some ⟨bb,0,none⟩)] [sng bb (.cells #[.slice pq nq kq,.slice pc nc kc,.slice none 0 0,.slice pt l.length kt] 102 (0,0)),κ] (fun r=>r=int ((l.length:Int)+1)):=by
 obtain ⟨_,_,e,hr⟩:=SlE.val jX hv
 simp only [aN] at e
 obtain ⟨rfl,_,rfl⟩:=e
 have bx275_3:=rdB bb 102 [.slice pq nq kq,.slice pc nc kc,.slice none 0 0,.slice pt l.length kt]
 have cb3:=rdC bx275_3 3
 refine A8 Tryz.func34 Tryz.ntmps34 fun N β=>?_
 by_cases h0:l.length=0
 ·rw [h0] at cb3 ⊢
  refine Ab9 ?_;refine Acj ?_;refine Ab3 ?_;refine CJ ?_;refine Ab6 ?_;exact AV ⟨rfl,rfl⟩
 have hx:=aA (show l.length-1<l.length by omega)
 have hk:=hn _ _ hx
 obtain ⟨b7,o7,rfl,hrd⟩:=hr _ _ hx
 generalize l[l.length-1]=y at hx hrd hk
 have r0:rdc κ b7 (o7+(l.length-1)*11)=some (int y.t.k):=hrd.get0
 have ek:y.t.k=(l.length:Int):=by omega
 rw [ek] at r0;refine Ab9 ?_;refine Acj ?_;refine Ab3 ?_;refine Acy ?_;refine AC ?_
 refine A9 P4Z [] rfl (by kernel_rfl) fK ?_
 refine Adn ?_;refine Ac3 ?_;refine Abo ?_;refine Aaj ?_;refine EL ?_;refine CE ?_;refine BH ?_;refine DN ?_;refine AN ?_;refine FJ ?_;refine Ac ?_
 skip
 exact AV ⟨rfl,rfl⟩
theorem aG2 {e4 e5 e6 e7 e8 e9 e10:Value} (bb:Nat) (κ:PH) (l:List TkU) (hv:SlE mD 11 κ (.slice pt l.length kt) l) (hl:l.length<=100) (hn:∀ (i:Nat) (x:TkU),l[i]?=some x->x.t.k=(i:Int)+1) :
  Ans Tryz.prog (fv 34) [.pointer (some ⟨bb,0,none⟩)] [sng bb (.cells #[.slice pq nq kq,.slice pc nc kc,.slice none 0 0,.slice pt l.length kt,e4,e5,e6,e7,e8,e9,e10] 104 (0,0)),κ] (fun r=>r=int ((l.length:Int)+1)):=by
 obtain ⟨_,_,e,hr⟩:=SlE.val jX hv
 simp only [aN] at e
 obtain ⟨rfl,_,rfl⟩:=e
 have bx351_3:=rdB bb 104 [.slice pq nq kq,.slice pc nc kc,.slice none 0 0,.slice pt l.length kt,e4,e5,e6,e7,e8,e9,e10]
 have cb3:=rdC bx351_3 3
 refine A8 Tryz.func34 Tryz.ntmps34 fun N β=>?_
 by_cases h0:l.length=0
 ·rw [h0] at cb3 ⊢
  refine Ab9 ?_;refine Acj ?_;refine Ab3 ?_;refine CJ ?_;refine Ab6 ?_;exact AV ⟨rfl,rfl⟩
 have hx:=aA (show l.length-1<l.length by omega)
 have hk:=hn _ _ hx
 obtain ⟨b7,o7,rfl,hrd⟩:=hr _ _ hx
 generalize l[l.length-1]=y at hx hrd hk
 have r0:rdc κ b7 (o7+(l.length-1)*11)=some (int y.t.k):=hrd.get0
 have ek:y.t.k=(l.length:Int):=by omega
 rw [ek] at r0;refine Ab9 ?_;refine Acj ?_;refine Ab3 ?_;refine Acy ?_;refine AC ?_
 refine A9 P4Z [] rfl (by kernel_rfl) fK ?_
 refine Adn ?_;refine Ac3 ?_;refine Abo ?_;refine Aaj ?_;refine EL ?_;refine CE ?_;refine BH ?_;refine DN ?_;refine AN ?_;refine FJ ?_;refine Ac ?_
 skip
 exact AV ⟨rfl,rfl⟩
theorem aMa (bb:Nat) (κ:PH) (l:List TkU) (hO:fS 58 11 (.slice pt l.length kt) l.length (l.flatMap mD) κ) (hl:l.length<=100) (x:TkU) (hne:∀ y∈l,y.t.k≠x.t.k) :
  Eng.Spec Tryz.prog (fv 35) [.pointer (some ⟨bb,0,none⟩),.agg #[int x.t.k,int x.t.q.src,int x.t.q.dst,int x.t.q.size,int x.t.q.rdy,int x.t.q.dln,int x.t.q.pri,.bool x.t.q.cus,.slice x.p x.t.hops.length x.c,int x.st,int x.un]] [] [sng bb (.cells #[.slice pq nq kq,.slice pc nc kc,.slice none 0 0,.slice pt l.length kt] 102 (0,0)),κ] (fun r H'=>r=.tuple #[]/\∃ pt' kt' κ',fS 58 11 (.slice pt' (l ++ [x]).length kt') (l ++ [x]).length ((l ++ [x]).flatMap mD) κ'/\H'=[sng bb (.cells #[.slice pq nq kq,.slice pc nc kc,.slice none 0 0,.slice pt' (l ++ [x]).length kt'] 102 (0,0)),κ']):=by
 have bx424_3:=rdB bb 102 [.slice pq nq kq,.slice pc nc kc,.slice none 0 0,.slice pt l.length kt]
 have cb3:=rdC bx424_3 3
 have hix:=fun b3=>zG κ _ l hO.at (by omega) b3 x hne
 refine A8 Tryz.func35 Tryz.ntmps35 fun N β=>?_
 refine Aa ?_
 refine BF fun b3 cx=>?_
 refine AE ?_;refine Aab ?_;refine Acj ?_;refine Aac ?_;refine BR ?_;refine A5 (hix b3) ?_;refine Abv ?_;refine Ab0 ?_;refine AC ?_
 refine A9 (.p 0 (.q 1 (.q 2 (.q 3 (.q 4 (.q 5 (.q 6 (.l 7 .e (.l 8 .b (.q 9 (.q 10 (.q 11 (.l 12 .b .nil))))))))))))) [] rfl (by kernel_rfl) fK ?_
 refine CG ?_;refine Adn ?_;refine Aaj ?_;refine A7 ?_
 have hfl:iS [.agg #[int x.t.k,int x.t.q.src,int x.t.q.dst,int x.t.q.size,int x.t.q.rdy,int x.t.q.dln,int x.t.q.pri,.bool x.t.q.cus,.slice x.p x.t.hops.length x.c,int x.st,int x.un]] [int x.t.k,int x.t.q.src,int x.t.q.dst,int x.t.q.size,int x.t.q.rdy,int x.t.q.dln,int x.t.q.pri,.bool x.t.q.cus,.slice x.p x.t.hops.length x.c,int x.st,int x.un]:=iS.agg (ws:=[int x.t.k,int x.t.q.src,int x.t.q.dst,int x.t.q.size,int x.t.q.rdy,int x.t.q.dln,int x.t.q.pri,.bool x.t.q.cus,.slice x.p x.t.hops.length x.c,int x.st,int x.un]) iS.nil
 refine BZ (a_e rfl (CL (cs:=[int x.t.k,int x.t.q.src,int x.t.q.dst,int x.t.q.size,int x.t.q.rdy,int x.t.q.dln,int x.t.q.pri,.bool x.t.q.cus,.slice x.p x.t.hops.length x.c,int x.st,int x.un]) rfl rfl rfl rfl rfl iF hfl rfl) rfl rfl rfl (by rintro _ _ ⟨b,rfl,rfl⟩ w hw; exact hw.tail) ?_)
 rintro _ _ ⟨bn,rfl,rfl⟩
 skip
 refine BZ (a_b rfl (CA (by_:=104) (s:=11) (news:=[int x.t.k,int x.t.q.src,int x.t.q.dst,int x.t.q.size,int x.t.q.rdy,int x.t.q.dln,int x.t.q.pri,.bool x.t.q.cus,.slice x.p x.t.hops.length x.c,int x.st,int x.un]) rfl rfl rfl rfl rfl rfl rfl hO fL (fR gN) rfl iF (by omega) (by simp only [maxLen]; omega) (by omega)) rfl rfl rfl (fun _ _ _ w hw=>hw.sel Sel.nil) ?_)
 rintro u1 _ ⟨κ1,hO1,rfl⟩
 obtain ⟨pu,ku,rfl⟩:=hO1.form
 refine Abo ?_;refine AR ?_;refine Adr ?_
 skip
 have hlen:(l ++ [x]).length=l.length+1:=by rw [aB]; rfl
 have hO2:fS 58 11 (.slice pu (l ++ [x]).length ku) (l ++ [x]).length ((l ++ [x]).flatMap mD) κ1:=by
  rw [hlen,aX];exact hO1
 exact A2 (H':=[sng bb (.cells #[.slice pq nq kq,.slice pc nc kc,.slice none 0 0,.slice pu (l.length+1) ku] 102 (0,0)),κ1]) (gY rfl) fQ fK ⟨rfl,pu,ku,κ1,hO2,by rw [hlen]⟩
theorem aKb {e4 e5 e6 e7 e8 e9 e10:Value} (bb:Nat) (κ:PH) (l:List TkU) (hO:fS 58 11 (.slice pt l.length kt) l.length (l.flatMap mD) κ) (hl:l.length<=100) (x:TkU) (hne:∀ y∈l,y.t.k≠x.t.k) :
  Eng.Spec Tryz.prog (fv 35) [.pointer (some ⟨bb,0,none⟩),.agg #[int x.t.k,int x.t.q.src,int x.t.q.dst,int x.t.q.size,int x.t.q.rdy,int x.t.q.dln,int x.t.q.pri,.bool x.t.q.cus,.slice x.p x.t.hops.length x.c,int x.st,int x.un]] [] [sng bb (.cells #[.slice pq nq kq,.slice pc nc kc,.slice none 0 0,.slice pt l.length kt,e4,e5,e6,e7,e8,e9,e10] 104 (0,0)),κ] (fun r H'=>r=.tuple #[]/\∃ pt' kt' κ',fS 58 11 (.slice pt' (l ++ [x]).length kt') (l ++ [x]).length ((l ++ [x]).flatMap mD) κ'/\H'=[sng bb (.cells #[.slice pq nq kq,.slice pc nc kc,.slice none 0 0,.slice pt' (l ++ [x]).length kt',e4,e5,e6,e7,e8,e9,e10] 104 (0,0)),κ']):=by
 have bx478_3:=rdB bb 104 [.slice pq nq kq,.slice pc nc kc,.slice none 0 0,.slice pt l.length kt,e4,e5,e6,e7,e8,e9,e10]
 have cb3:=rdC bx478_3 3
 have hix:=fun b3=>zG κ _ l hO.at (by omega) b3 x hne
 refine A8 Tryz.func35 Tryz.ntmps35 fun N β=>?_
 refine Aa ?_
 refine BF fun b3 cx=>?_
 refine AE ?_;refine Aab ?_;refine Acj ?_;refine Aac ?_;refine BR ?_;refine A5 (hix b3) ?_;refine Abv ?_;refine Ab0 ?_;refine AC ?_
 refine A9 (.p 0 (.q 1 (.q 2 (.q 3 (.q 4 (.q 5 (.q 6 (.l 7 .e (.l 8 .b (.q 9 (.q 10 (.q 11 (.l 12 .b .nil))))))))))))) [] rfl (by kernel_rfl) fK ?_
 refine CG ?_;refine Adn ?_;refine Aaj ?_;refine A7 ?_
 have hfl:iS [.agg #[int x.t.k,int x.t.q.src,int x.t.q.dst,int x.t.q.size,int x.t.q.rdy,int x.t.q.dln,int x.t.q.pri,.bool x.t.q.cus,.slice x.p x.t.hops.length x.c,int x.st,int x.un]] [int x.t.k,int x.t.q.src,int x.t.q.dst,int x.t.q.size,int x.t.q.rdy,int x.t.q.dln,int x.t.q.pri,.bool x.t.q.cus,.slice x.p x.t.hops.length x.c,int x.st,int x.un]:=iS.agg (ws:=[int x.t.k,int x.t.q.src,int x.t.q.dst,int x.t.q.size,int x.t.q.rdy,int x.t.q.dln,int x.t.q.pri,.bool x.t.q.cus,.slice x.p x.t.hops.length x.c,int x.st,int x.un]) iS.nil
 refine BZ (a_e rfl (CL (cs:=[int x.t.k,int x.t.q.src,int x.t.q.dst,int x.t.q.size,int x.t.q.rdy,int x.t.q.dln,int x.t.q.pri,.bool x.t.q.cus,.slice x.p x.t.hops.length x.c,int x.st,int x.un]) rfl rfl rfl rfl rfl iF hfl rfl) rfl rfl rfl (by rintro _ _ ⟨b,rfl,rfl⟩ w hw; exact hw.tail) ?_)
 rintro _ _ ⟨bn,rfl,rfl⟩
 skip
 refine BZ (a_b rfl (CA (by_:=104) (s:=11) (news:=[int x.t.k,int x.t.q.src,int x.t.q.dst,int x.t.q.size,int x.t.q.rdy,int x.t.q.dln,int x.t.q.pri,.bool x.t.q.cus,.slice x.p x.t.hops.length x.c,int x.st,int x.un]) rfl rfl rfl rfl rfl rfl rfl hO fL (fR gN) rfl iF (by omega) (by simp only [maxLen]; omega) (by omega)) rfl rfl rfl (fun _ _ _ w hw=>hw.sel Sel.nil) ?_)
 rintro u1 _ ⟨κ1,hO1,rfl⟩
 obtain ⟨pu,ku,rfl⟩:=hO1.form
 refine Abo ?_;refine AR ?_;refine Adr ?_
 skip
 have hlen:(l ++ [x]).length=l.length+1:=by rw [aB]; rfl
 have hO2:fS 58 11 (.slice pu (l ++ [x]).length ku) (l ++ [x]).length ((l ++ [x]).flatMap mD) κ1:=by
  rw [hlen,aX];exact hO1
 exact A2 (H':=[sng bb (.cells #[.slice pq nq kq,.slice pc nc kc,.slice none 0 0,.slice pu (l.length+1) ku,e4,e5,e6,e7,e8,e9,e10] 104 (0,0)),κ1]) (gY rfl) fQ fK ⟨rfl,pu,ku,κ1,hO2,by rw [hlen]⟩
end
end Go.Proofs.YtnijkofdlepfjaaGreat
namespace Go.Step
section
section
variable {qs:List Int} {cs:List Ct} {q:Rq} {bs:List Bk} {hs:List Hd}
theorem aMb (hK:TOK qs cs bs hs q) {x:Lb} (hF:qE (fW qs cs bs hs q) x):x.f=0\/∃ h∈hs,h.n=x.n/\h.b=x.f:=by
  have hg:=iV hK
  have hbd:=sN hg hF
  obtain ⟨_,f1,f2,f3,f4,f5⟩:=hF
  have hrl:(fW qs cs bs hs q).rooms.length=qs.length:=by simp [fW]
  have hlt:x.n.toNat<qs.length:=by omega
  rw [sP qs cs bs hs q hlt,show ((x.n.toNat:Nat):Int)=x.n by omega] at f3
  obtain ⟨_,_,hh⟩:=jQ hK.t
  obtain ⟨l1,k1⟩:=mS hh
  obtain ⟨hap,hco⟩:=oE (n:=x.n) (Q:=qs.getD x.n.toNat 0) (s:=q.size) k1 (by omega)
  by_cases h0:x.f=0
  · exact .inl h0
  right
  have hap2:=hap.sep
  have hok:=hap.ok _ f3
  dsimp only at hok
  have c1:stored hs x.n x.f+q.size<=qs.getD x.n.toNat 0:=(hco x.f (by omega) (by omega)).1 ⟨_,f3,cH _,by dsimp only; omega⟩
  have c2:¬ stored hs x.n (x.f-1)+q.size<=qs.getD x.n.toNat 0:=fun h=>by
    obtain ⟨r,hr,r1,r2⟩:=(hco (x.f-1) (by omega) (by omega)).2 h
    obtain ⟨i,hi,ei⟩:=bB f3
    obtain ⟨j,hj,ej⟩:=bB hr
    rcases fE i j with c|c|c
    · have:=aZ.1 hap2 i j hi hj c
      rw [ei,ej] at this; dsimp only at this; omega
    · subst c
      rw [ei] at ej;rw [← ej] at r1
      dsimp only at r1; omega
    · have:=aZ.1 hap2 j i hj hi c
      rw [ei,ej] at this; dsimp only at this; omega
  have hz:∀ y∈hs,0<=y.s:=fun y hy=>by have:=(k1 y hy).2.2.1; omega
  by_cases hex:∃ h∈hs,h.n=x.n/\h.b=x.f
  · exact hex
  · exfalso
    have:=qK (n:=x.n) (t:=x.f-1) (s:=x.f) hz (fun y hy e1 e2 e3=>by
      have:¬ y.b=x.f:=fun e=>hex ⟨y,hy,e1,e⟩
      omega)
    omega
theorem aPl (hK:TOK qs cs bs hs q) {L:List Lb} (hL:iQ (fW qs cs bs hs q) L) {y:Lb} {w:List (Lb × Hp)} (h:Fro (fW qs cs bs hs q) L y w):w.length<=518:=by
  have hg:=iV hK
  obtain ⟨t1,t2⟩:=h.times hg
  have hnd:(w.map (fun p=>(p.1.n,p.1.f))).Nodup:=by
    unfold List.Nodup;rw [List.pairwise_map]
    refine List.Pairwise.imp_of_mem (fun {p r} hp hr hpr=>?_) t2
    intro e
    simp only [Prod.mk.injEq] at e
    have hs:=aGi hL.dis (t1 r hr).2 (t1 p hp).2 (fY.2 e)
    rw [hs] at hpr;omega
  have hsub:∀ k∈w.map (fun p=>(p.1.n,p.1.f)),k∈(List.range qs.length).map (fun n:Nat=>((n:Int),(0:Int))) ++ hs.map (fun h=>(h.n,h.b)):=fun k hk=>by
    obtain ⟨p,hp,rfl⟩:=bE.1 hk
    have hF:=gQ hg (hL.rch _ (t1 p hp).2)
    have hrl:(fW qs cs bs hs q).rooms.length=qs.length:=by simp [fW]
    rw [aM]
    rcases aMb hK hF with h0|⟨z,hz,e1,e2⟩
    · left
      obtain ⟨_,f1,f2,_⟩:=hF
      refine bE.2 ⟨p.1.n.toNat,List.mem_range.2 (by omega),?_⟩
      rw [h0];simp only [Prod.mk.injEq,and_true];omega
    · right
      exact bE.2 ⟨z,hz,by rw [e1,e2]⟩
  have hle:=xR hnd hsub
  obtain ⟨_,_,hh⟩:=jQ hK.t
  obtain ⟨l1,_⟩:=mS hh
  have hq:=hK.lq
  rw [aU,aB,aU,aU,List.length_range] at hle;omega
theorem sA (hK:TOK qs cs bs hs q) {L L':List Lb} (hL:iQ (fW qs cs bs hs q) L) (hL':iQ (fW qs cs bs hs q) L'):jG (fW qs cs bs hs q) L=jG (fW qs cs bs hs q) L':=by
  have hg:=iV hK
  have hR:aPc (fW qs cs bs hs q) (fW qs cs bs hs q):=⟨rfl,rfl,rfl,fun i p hp=>⟨p,hp,cH _,cH _⟩,fun n p hp=>⟨p,hp,cH _,cH _⟩⟩
  cases h1:jG (fW qs cs bs hs q) L with
  | none =>
    cases h2:jG (fW qs cs bs hs q) L' with
    | none=>rfl
    | some a =>
      obtain ⟨b,e,_⟩:=aCc hg (pK hK) hR hL hL' h2
      rw [h1] at e
      cases e
  | some a =>
    obtain ⟨b,e,hb⟩:=aCc hg (pK hK) hR hL' hL h1
    obtain ⟨c,e2,hc⟩:=aCc hg (pK hK) hR hL hL' e
    rw [h1] at e2
    cases e2
    rw [e,show a=b by omega]
end
end
def jE (x:Tk):Bool:=match x.hops with
  | []=>false
  | h::_=>decide (0<h.b)
def mQ (l:List Hp):Nat:=(l.takeWhile (fun h=>decide (h.b<=0))).length
def kZ (x:Tk):Bool:=decide (x.q.pri<2) && jE x
def lM (T:List Tk):List Int:=(T.filter kZ).map (·.k)
def zH (a b:Hp):Bool:=decide (a.c=b.c/\a.b<b.e/\b.b<a.e)
def ovB (x:Tk) (l:List Hp):Bool:=x.hops.any (fun a=>l.any (zH a))
def aKc (T:List Tk) (l:List Hp):List Int:=(T.filter (fun x=>kZ x && ovB x l)).map (·.k)
theorem sR {x:Tk} (h:jE x=true):mQ x.hops=0:=by
  unfold jE at h;unfold mQ
  split at h
  · cases h
  · rename_i e
    rw [e,List.takeWhile_cons,if_neg (by simpa using h)]
    rfl
theorem aAg (l:List Hp):mQ l<=l.length:=(List.takeWhile_prefix _).length_le
theorem aNs:∀ {l:List Hp} {i:Nat},i<mQ l->∃ y,l[i]?=some y/\y.b<=0
  | [],i,h=>by simp [mQ] at h
  | a::l,i,h=>by
    unfold mQ at h;rw [List.takeWhile_cons] at h
    split at h
    · rename_i hc
      cases i with
      | zero=>exact ⟨a,rfl,by simpa using hc⟩
      | succ i =>
        rw [aS] at h
        obtain ⟨y,h1,h2⟩:=aNs (l:=l) (i:=i) (by unfold mQ; omega)
        exact ⟨y,by rw [dY]; exact h1,h2⟩
    · simp at h
theorem aPm {l:List Hp} {y:Hp} (h:l[mQ l]?=some y):0<y.b:=by
  induction l with
  | nil=>simp at h
  | cons a l ih =>
    unfold mQ at h ih;rw [List.takeWhile_cons] at h
    split at h
    · rw [aS,dY] at h
      exact ih h
    · rename_i hc
      simp at h
      subst h
      simpa using hc
theorem yB {T:List Tk} {k:Int}:k∈lM T↔∃ x∈T,kZ x=true/\x.k=k:=by
  unfold lM;rw [bE]
  constructor
  · rintro ⟨x,hx,rfl⟩
    obtain ⟨h1,h2⟩:=bT.1 hx
    exact ⟨x,h1,h2,rfl⟩
  · rintro ⟨x,hx,h,rfl⟩
    exact ⟨x,bT.2 ⟨hx,h⟩,rfl⟩
theorem aTr {T:List Tk} {l:List Hp} {k:Int}:k∈aKc T l↔∃ x∈T,(kZ x && ovB x l)=true/\x.k=k:=by
  unfold aKc;rw [bE]
  constructor
  · rintro ⟨x,hx,rfl⟩
    obtain ⟨h1,h2⟩:=bT.1 hx
    exact ⟨x,h1,h2,rfl⟩
  · rintro ⟨x,hx,h,rfl⟩
    exact ⟨x,bT.2 ⟨hx,h⟩,rfl⟩
theorem aKd {x:Tk} {l:List Hp} (h:ovB x l=false) {k k':Int}:∀ a∈x.hops,∀ p∈l,apB (qJ k a) (qJ k' p):=fun a ha p hp=>by
  unfold ovB at h;rw [eP] at h
  have h1:=h a ha
  have h2:(l.any (zH a))=false:=by simpa using h1
  rw [eP] at h2
  have h3:=h2 p hp
  unfold zH at h3
  intro e
  have e:a.c=p.c:=e
  have:¬ (a.c=p.c/\a.b<p.e/\p.b<a.e):=by simpa using h3
  show a.e<=p.b\/p.e<=a.b
  omega
end Go.Step
