/- Texts of this proof, one after the other; no conditions. -/
import Derived.Test.YtcmggofkjcejgaaGreatDoorRows
import Derived.Test.YtcmggofkjcejgaaGreatDoorTie
import Derived.Test.YtcmggofkjcejgaaGreatDoorCards
import Derived.LaidMore
import Derived.Lay
import Derived.SevenTiedAt
import Derived.Test.YtcmggofkjcejgaaGreatDoorWB5
import Derived.Test.YtcmggofkjcejgaaGreatDoorWB4
import Derived.Test.YtcmggofkjcejgaaGreatDoorWB2
import Derived.Test.YtcmggofkjcejgaaGreatDoorWB6
import Derived.Test.YtcmggofkjcejgaaGreatDoorWB9
import Derived.Test.YtcmggofkjcejgaaGreatDoorWB3
import Derived.Test.YtcmggofkjcejgaaGreatDoorWB1
set_option linter.all false
/- What a sender sends again is what is missing. No conditions. -/
namespace Go.Step
open Go.Eng
theorem miss_pcs {n:Int} {K:Iv} (h:InI n K) (hn:0<n) :
    (∀ x∈pcsAll (missI n K),0≤x.1∧x.1<x.2∧x.2≤n)∧(∀ t,memI (pcsAll (missI n K)) t=(decide (0≤t∧t<n) && !memI K t))∧lenI (pcsAll (missI n K))=lenI (missI n K)∧(pcsAll (missI n K)).Pairwise (fun x y=>x.2≤y.1)∧((pcsAll (missI n K)).length:Int)≤n:=by
  obtain ⟨m1,m2⟩:=missI_ok h hn
  obtain ⟨p1,p2,p3,p4⟩:=pcsAll_ok m1.1 (fun x hx=>(m1.at x hx).1)
  refine ⟨fun x hx=>?_,fun t=>by rw [p2,m2],p3,p4,pcsAll_len m1 (by omega)⟩
  obtain ⟨y,hy,g1,g2,g3,_⟩:=p1 x hx
  have:=m1.at y hy
  omega
theorem lrn_any {n:Int} {K Kj:Iv} {j:Nat} {x:Int × Int} (hK:InI n K) (hn:0<n) (hx:(pcsAll (missI n K))[j]?=some x) (hj:∀ t,memI Kj t=(memI K t || memI ((pcsAll (missI n K)).take j) t)) :
    Kj.any (fun y=>decide (y.1<x.2∧x.1<y.2))=false∨¬ NormI Kj:=by
  by_cases hnk:NormI Kj
  rotate_left
  · exact .inr hnk
  refine .inl (List.any_eq_false.2 (fun y hy=>?_))
  rw [decide_eq_true_iff];rintro ⟨h1,h2⟩
  obtain ⟨p1,p2,_,p4,_⟩:=miss_pcs hK hn
  have hxm:=List.mem_of_getElem? hx
  have hxa:=p1 x hxm
  have hya:=hnk.1 y hy
  obtain ⟨t,ht⟩:∃ t,max y.1 x.1=t:=⟨_,rfl⟩
  have m1:memI Kj t=true:=memI_iff.2 ⟨y,hy,by omega,by omega⟩
  have m2:memI (pcsAll (missI n K)) t=true:=memI_iff.2 ⟨x,hxm,by omega,by omega⟩
  rw [p2,Bool.and_eq_true] at m2
  have m3:memI K t=false:=by simpa using m2.2
  rw [hj,m3,Bool.false_or] at m1
  obtain ⟨z,hz,g1,g2⟩:=memI_iff.1 m1
  obtain ⟨i,hi,e⟩:=List.mem_iff_getElem.1 hz
  obtain ⟨hjl,e2⟩:=List.getElem?_eq_some_iff.1 hx
  rw [List.length_take] at hi;rw [List.getElem_take] at e
  have:=List.pairwise_iff_getElem.1 p4 i j (by omega) hjl (by omega)
  rw [e,e2] at this;omega
theorem lrn_put {n:Int} {K Kj:Iv} {j:Nat} {x:Int × Int} (hK:InI n K) (hn:0<n) (hx:(pcsAll (missI n K))[j]?=some x) (hj:∀ t,memI Kj t=(memI K t || memI ((pcsAll (missI n K)).take j) t)) (hI:InI n Kj) :
    InI n (unionI Kj [x])∧(∀ t,memI (unionI Kj [x]) t=(memI K t || memI ((pcsAll (missI n K)).take (j+1)) t))∧unionI Kj [x]≠[]:=by
  obtain ⟨p1,_⟩:=miss_pcs hK hn
  have hxa:=p1 x (List.mem_of_getElem? hx)
  obtain ⟨k1,k2,k3⟩:=hI.put hxa.1 hxa.2.1 hxa.2.2
  refine ⟨k1,fun t=>?_,k3⟩
  rw [k2,hj,List.take_add_one,hx,memI_append,Bool.or_assoc]
  congr 2
  show _=memI [x] t
  rw [show x=(x.1,x.2) from rfl,mem_one]
theorem lrn_end {n:Int} {K Kj:Iv} (hK:InI n K) (hn:0<n) (hj:∀ t,memI Kj t=(memI K t || memI ((pcsAll (missI n K)).take (pcsAll (missI n K)).length) t)) (hI:InI n Kj):Kj=[(0,n)]:=by
  obtain ⟨_,p2,_⟩:=miss_pcs hK hn
  refine hI.all hn (fun t a b=>?_)
  rw [hj,List.take_length,p2,decide_eq_true ⟨a,b⟩,Bool.true_and]
  cases memI K t <;> rfl
theorem lenI_succ {P:Iv} {j:Nat} {x:Int × Int} (hx:P[j]?=some x):lenI (P.take (j+1))=lenI (P.take j)+(x.2-x.1):=by
  rw [List.take_add_one,hx,lenI_append]
  simp [lenI]
theorem lenI_bd {P:Iv} (h:∀ x∈P,x.1<x.2∧x.2-x.1≤120):0≤lenI P∧lenI P≤120*P.length:=by
  induction P with
  | nil=>simp [lenI]
  | cons x P ih =>
    obtain ⟨h1,h2⟩:=ih (fun y hy=>h y (by simp [hy]))
    have hx:=h x (by simp)
    have e:lenI (x::P)=(x.2-x.1)+lenI P:=by simp [lenI]
    rw [e,List.length_cons,Int.natCast_add];omega
theorem lenI_take {P:Iv} (h:∀ x∈P,x.1<x.2∧x.2-x.1≤120) (hl:P.length≤1000) (i:Nat):0≤lenI (P.take i)∧lenI (P.take i)≤120000:=by
  obtain ⟨h1,h2⟩:=lenI_bd (P:=P.take i) (fun x hx=>h x (List.mem_of_mem_take hx))
  have:(P.take i).length≤P.length:=by rw [List.length_take]; exact Nat.min_le_right _ _
  omega
theorem slAt_rd {ρ:PH} {s n c b o:Nat} {xs:List Value} (h:SlAt ρ s (.slice (some ⟨b,o,none⟩) n c) n xs) (hn:0<n):RdN ρ b o xs:=by
  obtain ⟨_,⟨h0,_⟩|⟨b',o',c',e,h2⟩⟩:=h
  · omega
  · simp only [Value.slice.injEq,Option.some.injEq,Addr.mk.injEq,and_true] at e
    obtain ⟨⟨rfl,rfl⟩,_⟩:=e
    exact h2
theorem whole_in {n:Int} {K:Iv} (hK:InI n K) (hn:0<n):unionI K [(0,n)]=[(0,n)]:=
  unionI_sub hK (InI.whole hn) (fun t h=>by rw [mem_one,decide_eq_true_iff]; exact hK.2 t h)
theorem bat_at {sr:Int} {n:Int} {P:Iv} {j:Nat} {y:Sg} (hP:∀ x∈P,0≤x.1∧x.1<x.2∧x.2≤n) (hy:(bat sr P)[j]?=some y):∃ x,P[j]?=some x∧x=((y.a:Int),(y.b:Int))∧y.sr=if j+1=P.length then sr else 0:=by
  rw [bat_get] at hy
  obtain ⟨x,hx,rfl⟩:=Option.map_eq_some_iff.1 hy
  have:=hP x (List.mem_of_getElem? hx)
  exact ⟨x,hx,by obtain ⟨x1,x2⟩:=x; dsimp only at this ⊢; congr 1 <;> omega,rfl⟩
end Go.Step
namespace Go.Proofs.YtcmggofkjcejgaaGreatDoor
open Go.Eng Go.Step
set_option maxRecDepth 100000
set_option maxHeartbeats 64000000
theorem indexSnS_spec (ρ:PH) (Rs:List PH) (v fn:Value) (l:List (Int × Int)) (p:(Int × Int)→Bool) (hv:SlE encS 2 ρ v l) (hl:l.length≤9223372036854775807) (hfn:∀ (i:Nat) (x:(Int × Int)),l[i]?=some x→Ans Tryz.prog fn [.agg (encS x).toArray] Rs (fun r=>r=.bool (p x))) :
  Ans Tryz.prog (fv 32) [v,fn] (ρ::Rs) (fun r=>(∃ (i:Nat) (x:(Int × Int)),l[i]?=some x∧p x=true∧(∀ (j:Nat) (y:(Int × Int)),j<i→l[j]?=some y→p y=false)∧r=int i)∨((∀ x∈l,p x=false)∧r=int (-1))):=by
 obtain ⟨q,c,rfl,hr⟩:=hv.val encS_len
 refine spec_in (cap:=[]) Tryz.func32 rfl rfl Tryz.ntmps32 rfl envZ (fun N β=>?_)
 refine Abz ?_;refine Abr ?_
 refine BT [0,1,7] (0:Nat) (fun k=>k≤l.length∧∀ (i:Nat) (x:(Int × Int)),i<k→l[i]?=some x→p x=false) (fun k=>[(8,int k)]) (fun _=>[]) (fun k=>l.length-k) pickZ ⟨by omega,fun i x h=>by omega⟩ covZ selZ ?_
 rintro k ⟨hk,hI⟩
 by_cases hlt:k<l.length
 ·have hx:=List.getElem?_eq_getElem hlt
  obtain ⟨b1,o1,rfl,hrd⟩:=hr k _ hx
  have hrd2:RdN ρ b1 (o1+k*2) (encS l[k]):=hrd
  have hf:=hfn k _ hx
  refine Abk ?_;refine AZ ?_;refine Aaf ?_;refine Abv ?_;refine Aak ?_;refine Ac ?_
  refine AT hf rfl rfl (fun τ hτ=>.inl (by simp [hτ])) rfl rfl ?_
  rintro _ rfl
  cases hp:p l[k] with
  | true =>
   refine Aan ?_;refine Aaf ?_;refine Aaa ?_;exact AM (res1 rfl rfl) rsubZ selZ ⟨rfl,.inl ⟨k,l[k],hx,hp,hI,rfl⟩⟩
  | false =>
   refine Aag ?_;refine Aa4 ?_
   refine BB (k+1) ⟨by omega,fun i x hi hix=>?_⟩ (by omega) covZ selZ
   by_cases e:i=k
   ·subst e; rw [hx] at hix; injection hix with hix; rw [← hix]; exact hp
   ·exact hI i x (by omega) hix
 ·refine AC ?_
  refine AA ?_;refine Abt ?_;refine Aar ?_
  refine AM (res1 rfl rfl) rsubZ selZ ⟨rfl,.inr ⟨fun x hx=>?_,rfl⟩⟩
  obtain ⟨i,hi,rfl⟩:=List.getElem_of_mem hx
  exact hI i _ (by omega) (List.getElem?_eq_getElem hi)
theorem contSnS_spec (ρ:PH) (Rs:List PH) (v fn:Value) (l:List (Int × Int)) (p:(Int × Int)→Bool) (hv:SlE encS 2 ρ v l) (hl:l.length≤9223372036854775807) (hfn:∀ (i:Nat) (x:(Int × Int)),l[i]?=some x→Ans Tryz.prog fn [.agg (encS x).toArray] Rs (fun r=>r=.bool (p x))) :
  Ans Tryz.prog (fv 11) [v,fn] (ρ::Rs) (fun r=>r=.bool (l.any p)):=by
 have hix:=indexSnS_spec ρ Rs v fn l p hv hl hfn
 obtain ⟨q,c,rfl,hr⟩:=hv.val encS_len
 refine spec_in (cap:=[]) Tryz.func11 rfl rfl Tryz.ntmps11 rfl envZ (fun N β=>?_)
 refine Aar ?_;refine Aa2 ?_
 refine AT hix rfl rfl (fun τ hτ=>.inl (List.mem_cons_of_mem _ hτ)) rfl rfl ?_
 rintro _ (⟨i,x,hi,hp,_,rfl⟩|⟨hall2,rfl⟩)
 ·have hfl:l.any p=true:=List.any_eq_true.2 ⟨x,List.mem_of_getElem? hi,hp⟩
  refine C3 ?_;refine Aaa ?_
  exact AM (res1 rfl rfl) rsubZ selZ ⟨rfl,by rw [hfl]⟩
 ·have hfl:l.any p=false:=List.any_eq_false.2 (fun x hx=>by rw [hall2 x hx]; simp)
  refine D5 ?_;refine Aaa ?_
  exact AM (res1 rfl rfl) rsubZ selZ ⟨rfl,by rw [hfl]⟩
def encPk (b:Bool):List Value:=[.bool b]
theorem encPk_len (b:Bool):(encPk b).length=1:=rfl
theorem lrnIn_spec {t1:Int} {d:List UInt8} {x:Sg} {ck:Bool} (y:Int × Int) (hx:okG d.length x) (hn:d.length≤990) (b1:Nat) :
  Ans Tryz.prog (.func (.func 12) #[] #[.pointer (some ⟨b1,0,none⟩)]) [.agg (encS y).toArray] [sng b1 (.cells #[int t1,int 1,int 0,int x.sr,int (x.a:Int),int (d.length:Int),.bool ck,str (cutD d x.a x.b),.slice none 0 0] 41 (0,0))] (fun r=>r=.bool (decide (y.1<(x.b:Int)∧(x.a:Int)<y.2))):=by
 obtain ⟨h1,h2,h3,h4,h5⟩:=hx
 have hl:=cutD_len (Nat.le_of_lt h1) h2
 have bx127_3:=rdB b1 41 [int t1,int 1,int 0,int x.sr,int (x.a:Int),int (d.length:Int),.bool ck,str (cutD d x.a x.b),.slice none 0 0]
 have f4:=rdC bx127_3 4
 have f7:=rdC bx127_3 7
 refine spec_in (cap:=[.pointer (some ⟨b1,0,none⟩)]) Tryz.func12 rfl rfl Tryz.ntmps12 rfl envZ (fun N β=>?_)
 refine Aa ?_;refine BG (BH rfl) rfl rfl rfl ?_;rintro _ _ ⟨b2,rfl,rfl⟩;refine AP (ρ:=sng b2 _) takeZ ?_
 have cy:=rdB b2 50 [int y.1,int y.2]
 have cy0:=rdC cy 0
 have cy1:=rdC cy 1
 by_cases g1:y.1<(x.b:Int)
 ·by_cases g2:(x.a:Int)<y.2
  ·rw [decide_eq_true (And.intro g1 g2)]
   refine Aba ?_;refine Ab3 ?_;refine Ab3 ?_
   focus ((refine' BK _ rfl rfl rfl _; rotate_left; (apply BM; exact rfl; exact rfl)))
   refine CH ?_;refine BZ ?_;refine AD ?_;refine Ab3 ?_;refine Aac ?_;refine BZ ?_;refine Aax ?_;exact A5 ⟨rfl,rfl⟩
  ·rw [decide_eq_false (fun h:y.1<(x.b:Int)∧(x.a:Int)<y.2=>g2 h.2)]
   refine Aba ?_;refine Ab3 ?_;refine Ab3 ?_
   focus ((refine' BK _ rfl rfl rfl _; rotate_left; (apply BM; exact rfl; exact rfl)))
   refine CH ?_;refine BZ ?_;refine AD ?_;refine Ab3 ?_;refine Aac ?_;refine BP ?_;refine Aax ?_;exact A5 ⟨rfl,rfl⟩
 ·rw [decide_eq_false (fun h:y.1<(x.b:Int)∧(x.a:Int)<y.2=>g1 h.1)]
  refine Aba ?_;refine Ab3 ?_;refine Ab3 ?_
  focus ((refine' BK _ rfl rfl rfl _; rotate_left; (apply BM; exact rfl; exact rfl)))
  refine CH ?_;refine BP ?_;refine Abc ?_;refine Aab ?_;refine AN ?_;refine Aaa ?_;exact A5 ⟨rfl,rfl⟩
theorem lrnHear_spec {ρ:PH} {se:Int} {d:List UInt8} {K K':Iv} {p:Option Addr} {c:Nat} {x:Sg} (hv:SpAt ρ (.slice p K.length c) K) (hK:InI d.length K) (hn1:1≤d.length) (hn:d.length≤990) (hse:0≤se∧se≤1099511627776) (hx:okG d.length x) (hU:unionI K [((x.a:Int),(x.b:Int))]=K') (hne:K'≠[]) :
    Eng.Spec Tryz.prog (fv 7) [.agg #[int se,int (totR d K),.slice p K.length c,str (datR d K)],.agg #[int 1,int se,int x.sr,int (x.a:Int),int (d.length:Int),.bool (decide (1≤x.sr)),str (cutD d x.a x.b),.slice none 0 0]] [ρ] [] (fun r H'=>∃ p1 c1 σ1,OwnS 50 2 (.slice p1 K'.length c1) K'.length (K'.flatMap encS) σ1 ∧
      ((¬ 1≤x.sr∧r=.tuple #[.agg #[int se,int (totR d K'),.slice p1 K'.length c1,str (datR d K')],.slice none 0 0,int 0]∧H'=[σ1]) ∨
       (1≤x.sr∧∃ p2 c2 σ2 bn,OwnS 50 2 (.slice p2 K'.length c2) K'.length (K'.flatMap encS) σ2∧r=.tuple #[.agg #[int se,int (totR d K'),.slice p1 K'.length c1,str (datR d K')],.slice (some ⟨bn,0,none⟩) 1 1,int 0]∧H'=[sng bn (.cells #[int 2,int se,int x.sr,int 0,int (d.length:Int),.bool false,str [],.slice p2 K'.length c2] 39 (0,0)),σ2,σ1]))):=by
  subst hU
  have e1:totR d (unionI K [((x.a:Int),(x.b:Int))])=(d.length:Int):=if_neg hne
  have e2:datR d (unionI K [((x.a:Int),(x.b:Int))])=maskD d (unionI K [((x.a:Int),(x.b:Int))]):=if_neg hne
  rw [e1,e2];exact rcvHear_spec hv hK hn1 hn hse hx
structure Ln where
 i:Nat
 K:Iv
 p:Option Addr
 k:Nat
 s:PH
 u:Value
 sA:PH
 Hl:List PH
 tot:Int
theorem learns_law {ρp:PH} {vp:Value} {picks:List Bool} (c:Ct) (d:List UInt8) (hp:SlE encPk 1 ρp vp picks) (hpl:picks.length≤9223372036854775807) :
  Ans Tryz.prog (fv 3) [.agg #[int c.f,int c.t,int c.s,int c.e,int c.r,int c.g,int c.l],str d,vp] [ρp] (fun r=>r=.bool true):=by
 obtain ⟨qp,cp,rfl,hrp⟩:=hp.val encPk_len
 have haw:Ans Tryz.prog (.func (.func 4) #[] #[]) [] [] (fun r=>r=.bool true):=awake_spec
 refine spec_in (cap:=[]) Tryz.func3 rfl rfl Tryz.ntmps3 rfl envZ (fun N β=>?_)
 refine CV ?_;refine AP (ρ:=emp) takeZ ?_;refine Aa ?_;refine BG (BH rfl) rfl rfl rfl ?_;rintro _ _ ⟨b3,rfl,rfl⟩;refine AP (ρ:=sng b3 _) takeZ ?_
 have cc:=rdB b3 23 [int c.f,int c.t,int c.s,int c.e,int c.r,int c.g,int c.l]
 have cc0:=rdC cc 0
 have cc1:=rdC cc 1
 have cc2:=rdC cc 2
 have cc3:=rdC cc 3
 have cc4:=rdC cc 4
 have cc5:=rdC cc 5
 have cc6:=rdC cc 6
 refine Aas ?_
 focus ((refine' BK _ rfl rfl rfl _; rotate_left; (apply BM; exact rfl; exact rfl)))
 by_cases hd:d.length≤120
 rotate_left
 ·refine DT ?_
  refine Abe ?_;refine Abm ?_;refine Aa ?_;refine AT haw rfl rfl rdZ rfl rfl ?_;rintro _ rfl;refine Aaa ?_;exact A5 ⟨rfl,rfl⟩
 by_cases hg:c.g≤1000
 rotate_left
 ·refine BV ?_
  refine Aal ?_;refine DT ?_;refine AN ?_;refine Aan ?_;refine Aa ?_;refine AT haw rfl rfl rdZ rfl rfl ?_;rintro _ rfl;refine Aaa ?_;exact A5 ⟨rfl,rfl⟩
 have hst:=sndStart_spec c (se:=0) (t0:=c.s) (e:=c.e) (d:=d) (by omega) ⟨by omega,by omega⟩
 refine BV ?_;refine Aal ?_;refine BV ?_;refine Ab2 ?_;refine Aaq ?_;refine Abg ?_
 refine BI hst rfl rfl Takes.nil (fun τ hτ=>by simp at hτ) rfl rfl ?_
 rintro _ _ (⟨hE,rfl,rfl⟩|⟨hE,⟨hc,hn1,_,_,_,hok⟩,p0,c0,σ0,rfl,hO0,rfl⟩)
 ·generalize stE c d c.s c.e=er at hE
  refine Aay ?_;refine AL ?_;refine A3 ?_; rintro _ _ ⟨b,rfl,rfl⟩;refine AV ?_; rintro _ _ ⟨rfl,rfl⟩;refine Aca ?_;refine DS ?_;refine Aan ?_;refine Aa ?_;refine AT haw rfl rfl rdZ rfl rfl ?_;rintro _ rfl;refine Aaa ?_;exact A5 ⟨rfl,rfl⟩
 obtain ⟨hr,hgg,hce⟩:=chkCt_rg hc
 have hcs:=chkCt_se hc
 have hM0:=(missI_ok (InI.nil (d.length:Int)) (by omega)).1
 obtain ⟨q1,q2,q3,q4,q5⟩:=miss_pcs (InI.nil (d.length:Int)) (by omega)
 have hP0:pcsAll (missI (d.length:Int) [])≠[]:=pcsAll_ne hM0.1 (fun x hx=>(hM0.at x hx).1) (missI_ne (InI.nil _) (by omega) (by simp))
 have hN:=List.length_pos_iff.2 hP0
 have hG0:=bat_ok (sr:=1) hM0 (by omega) (by omega)
 have hb0:=bat_len 1 (pcsAll (missI (d.length:Int) []))
 have hEb:=endG_le hr.1 (t:=c.s) hG0
 have htl:=timed_len c.r (bat 1 (pcsAll (missI d.length []))) c.s
 have hget:=fun i x=>timed_get c.r (bat 1 (pcsAll (missI d.length []))) c.s i x
 have hbat:=fun i y=>bat_at (sr:=1) (j:=i) (y:=y) q1
 generalize endG c.r c.s (bat 1 (pcsAll (missI d.length [])))=E0 at hok hEb
 generalize timed c.r c.s (bat 1 (pcsAll (missI d.length [])))=X0 at hO0 htl hget
 rw [← hb0] at hN q5 hbat
 generalize (bat 1 (pcsAll (missI d.length [])))=G0 at *
 rw [htl] at hO0;refine Aay ?_;refine AL ?_;refine A3 ?_; rintro _ _ ⟨b,rfl,rfl⟩;refine AV ?_; rintro _ _ ⟨rfl,rfl⟩;refine Aca ?_;refine Ab1 ?_;refine Aaf ?_;refine BE ?_;refine CK ?_;refine Aag ?_;refine Aa ?_
 revert b; intro b7
 refine AT rcvNew_spec rfl rfl rdZ rfl rfl ?_;rintro _ rfl;refine Aay ?_;refine A3 ?_; rintro _ _ ⟨b,rfl,rfl⟩;refine AV ?_; rintro _ _ ⟨rfl,rfl⟩;refine Aaa ?_;refine Abz ?_;refine Abr ?_
 revert b; intro b10
 refine CV ?_;refine CV ?_
 obtain ⟨_,_,e0,hR0⟩:=SlE.val (encO_len 0 d) (by rw [← htl] at hO0; exact hO0.at)
 simp only [Value.slice.injEq] at e0
 obtain ⟨rfl,_,rfl⟩:=e0
 refine AP (ρ:=σ0) takeZ ?_
 refine BT [1,2,3,7,10,58] (X:=Ln) ⟨0,[],none,0,emp,.slice none 0 0,emp,[],0⟩ (fun z=>z.i≤G0.length∧InI d.length z.K∧OwnS 50 2 (.slice z.p z.K.length z.k) z.K.length (z.K.flatMap encS) z.s∧(z.i<G0.length→OwnS 39 8 z.u 0 [] z.sA∧z.Hl=[])∧(z.i=G0.length→z.K≠[]∧∃ p2 k2 σ2,OwnS 50 2 (.slice p2 z.K.length k2) z.K.length (z.K.flatMap encS) σ2∧OwnS 39 8 z.u 1 [int 2,int 0,int 1,int 0,int (d.length:Int),.bool false,str [],.slice p2 z.K.length k2] z.sA∧z.Hl=[σ2])) (fun z=>[(59,int (z.i:Int)),(12,z.u),(11,int 0),(57,.slice p0 G0.length c0),(8,.slice p0 G0.length c0)]) (fun z=>sng b10 (.cells #[int 0,int (totR d z.K),.slice z.p z.K.length z.k,str (datR d z.K)] 34 (0,0))::sng b7 (.cells #[int c.f,int c.t,int c.s,int c.e,int c.r,int c.g,int c.l,int 0,str d,int c.e,int E0,int 1,.slice none 0 0,int (E0+2*c.g+1),int 1] 28 (0,0))::z.s::z.sA::z.Hl) (fun z=>G0.length-z.i) pickZ ⟨Nat.zero_le _,InI.nil _,OwnS.nil _ _,fun _=>⟨OwnS.nil _ _,rfl⟩,fun h=>by dsimp only at h; omega⟩ covZ selZ ?_
 rintro ⟨i,K,p,k,σK,u,σA,Hl,tt⟩ ⟨hi,hK,hO,hA0,hA1⟩
 dsimp only at hi hK hO hA0 hA1 ⊢
 by_cases hlt:i<G0.length
 ·obtain ⟨hA,rfl⟩:=hA0 hlt
  have hx:=List.getElem?_eq_getElem hlt
  have hgx:=hG0 _ (List.getElem_mem hlt)
  generalize G0[i]=x at hx hgx
  have hX:=hget i x hx
  obtain ⟨b8,o8,rfl,hRd⟩:=hR0 i _ hX
  generalize endG c.r c.s (G0.take (i+1))=t1 at hX hRd
  have hRd:RdN σ0 b8 (o8+i*9) [int t1,int 1,int 0,int x.sr,int (x.a:Int),int (d.length:Int),.bool (decide (1≤x.sr)),str (cutD d x.a x.b),.slice none 0 0]:=hRd
  obtain ⟨y,hy,hyx,hsr⟩:=hbat i x hx
  obtain ⟨h1,h2,h3,h4,h5⟩:=hgx
  obtain ⟨hK2,_,hne2⟩:=hK.put (a:=(x.a:Int)) (b:=(x.b:Int)) (by omega) (by omega) (by omega)
  have hhear:=lrnHear_spec (K':=unionI K [((x.a:Int),(x.b:Int))]) hO.at hK hn1 (by omega) (show (0:Int)≤0∧(0:Int)≤1099511627776 by omega) ⟨h1,h2,h3,h4,h5⟩ rfl hne2
  have hu1:u.oneCell'=true:=by obtain ⟨_,_,rfl⟩:=hA.form; rfl
  generalize unionI K [((x.a:Int),(x.b:Int))]=K2 at hK2 hne2 hhear
  refine Abk ?_;refine AZ ?_;refine Aaf ?_;refine Ac ?_;refine A3 ?_; rintro _ _ ⟨b,rfl,rfl⟩;refine AB ?_;refine AV ?_; rintro _ _ ⟨rfl,rfl⟩;refine Aam ?_;refine Aa2 ?_;refine BE ?_;refine BR ?_
  revert b; intro b14
  refine AP (ρ:=sng b14 _) takeZ ?_
  have cp:RdP (sng b14 (.cells #[int t1,int 1,int 0,int x.sr,int (x.a:Int),int (d.length:Int),.bool (decide (1≤x.sr)),str (cutD d x.a x.b),.slice none 0 0] 41 (0,0))) b14 1 [int 1,int 0,int x.sr,int (x.a:Int),int (d.length:Int),.bool (decide (1≤x.sr)),str (cutD d x.a x.b),.slice none 0 0]:=rdP_sng (xs:=[int t1,int 1,int 0,int x.sr,int (x.a:Int),int (d.length:Int),.bool (decide (1≤x.sr)),str (cutD d x.a x.b),.slice none 0 0]) rfl
  by_cases hi1:i<G0.length-1
  ·have hs:¬ 1≤x.sr:=by rw [hsr,if_neg (by omega)]; omega
   by_cases hpi:i<picks.length
   ·have hpx:=List.getElem?_eq_getElem hpi
    obtain ⟨b9,o9,rfl,hpr⟩:=hrp i _ hpx
    generalize picks[i]=bp at hpx hpr
    have hp1:rdc ρp b9 (o9+i*1)=some (.bool bp):=RdN.get0 (vs:=[]) hpr
    have hp2:rdc ρp b9 (o9+i)=some (.bool bp):=by rw [Nat.mul_one] at hp1; exact hp1
    cases bp with
    | true =>
     refine BZ ?_;refine Aa0 ?_;refine BE ?_;refine BZ ?_;refine AQ ?_;refine Aa0 ?_;refine ER ?_;refine AF ?_;refine Abm ?_;refine BS rfl ?_;refine AA ?_;refine Aa3 ?_;refine BQ ?_
     exact BB ⟨i+1,K,p,k,σK,u,σA,[],0⟩ ⟨by dsimp only; omega,hK,hO,fun _=>⟨hA,rfl⟩,fun h=>by dsimp only at h; omega⟩ (by dsimp only; omega) covZ selZ
    | false =>
     refine BZ ?_;refine Aa0 ?_;refine BE ?_;refine BZ ?_;refine AQ ?_;refine Aa0 ?_;refine ER ?_;refine AF ?_;refine AQ ?_;refine Aao ?_;refine Aaf ?_;refine Abl ?_;refine Aar ?_;refine Aaq ?_;refine AG ?_;refine AR ?_;refine BI hhear rfl rfl Takes.nil rdZ rfl rfl ?_;rintro _ _ ⟨p1,c1,σ1,hO1,⟨_,rfl,rfl⟩|⟨hs',_⟩⟩
     rotate_left
     ·exact absurd hs' hs
     refine Aay ?_;refine AL ?_;refine AV ?_; rintro _ _ ⟨rfl,rfl⟩;refine Aap ?_;refine AA ?_;refine Aak ?_
     refine BG (CP (by_:=88) (s:=8) (w0:=.slice none 0 0) (σ:=emp) (m:=0) (news:=[]) rfl rfl rfl rfl rfl rfl rfl hA takeZ ⟨rfl,.inl ⟨rfl,none,0,rfl⟩⟩ (fun b o h=>cellsR h memZ) (by simp) (by simp only [maxLen]; omega) (by omega)) rfl rfl rfl ?_
     rintro u2 _ ⟨σA2,hA2,rfl⟩
     have hu2:u2.oneCell'=true:=by obtain ⟨_,_,rfl⟩:=hA2.form; rfl
     refine Aaa ?_;refine Ab7 ?_
     exact BB ⟨i+1,K2,p1,c1,σ1,u2,σA2,[],0⟩ ⟨by dsimp only; omega,hK2,hO1,fun _=>⟨hA2,rfl⟩,fun h=>by dsimp only at h; omega⟩ (by dsimp only; omega) covZ selZ
   ·skip
    refine BZ ?_;refine Aa0 ?_;refine BE ?_;refine BP ?_;refine AQ ?_;refine Abc ?_;refine Aa7 ?_;refine Aaf ?_;refine Abl ?_;refine Aar ?_;refine Aaq ?_;refine AG ?_;refine AR ?_;refine BI hhear rfl rfl Takes.nil rdZ rfl rfl ?_;rintro _ _ ⟨p1,c1,σ1,hO1,⟨_,rfl,rfl⟩|⟨hs',_⟩⟩
    rotate_left
    ·exact absurd hs' hs
    refine Aay ?_;refine AL ?_;refine AV ?_; rintro _ _ ⟨rfl,rfl⟩;refine Aap ?_;refine AA ?_;refine Aak ?_
    refine BG (CP (by_:=88) (s:=8) (w0:=.slice none 0 0) (σ:=emp) (m:=0) (news:=[]) rfl rfl rfl rfl rfl rfl rfl hA takeZ ⟨rfl,.inl ⟨rfl,none,0,rfl⟩⟩ (fun b o h=>cellsR h memZ) (by simp) (by simp only [maxLen]; omega) (by omega)) rfl rfl rfl ?_
    rintro u2 _ ⟨σA2,hA2,rfl⟩
    have hu2:u2.oneCell'=true:=by obtain ⟨_,_,rfl⟩:=hA2.form; rfl
    refine Aaa ?_;refine Ab7 ?_
    exact BB ⟨i+1,K2,p1,c1,σ1,u2,σA2,[],0⟩ ⟨by dsimp only; omega,hK2,hO1,fun _=>⟨hA2,rfl⟩,fun h=>by dsimp only at h; omega⟩ (by dsimp only; omega) covZ selZ
  ·have hs1:x.sr=1:=by rw [hsr,if_pos (by omega)]
   have hs:1≤x.sr:=by omega
   refine BP ?_;refine Abc ?_;refine AN ?_;refine Abc ?_;refine Aa7 ?_;refine Aaf ?_;refine Abl ?_;refine Aar ?_;refine Aaq ?_;refine AG ?_;refine AR ?_;refine BI hhear rfl rfl Takes.nil rdZ rfl rfl ?_;rintro _ _ ⟨p1,c1,σ1,hO1,⟨hs',_⟩|⟨_,p2,c2,σ2,bn,hO2,rfl,rfl⟩⟩
   ·exact absurd hs hs'
   rw [hs1];refine Aay ?_;refine AL ?_;refine AV ?_; rintro _ _ ⟨rfl,rfl⟩;refine Aap ?_;refine AA ?_;refine Aak ?_
   refine BG (CP (by_:=88) (s:=8) (w0:=.slice (some ⟨bn,0,none⟩) 1 1) (σ:=sng bn (.cells #[int 2,int 0,int 1,int 0,int (d.length:Int),.bool false,str [],.slice p2 K2.length c2] 39 (0,0))) (m:=1) (news:=[int 2,int 0,int 1,int 0,int (d.length:Int),.bool false,str [],.slice p2 K2.length c2]) rfl rfl rfl rfl rfl rfl rfl hA takeZ (slE_sng (enc:=fun (_:Unit)=>[int 2,int 0,int 1,int 0,int (d.length:Int),.bool false,str [],.slice p2 K2.length c2]) (l:=[()]) (fun _=>rfl)) (fun b o h=>cellsH h memZ) oneZ (by simp only [maxLen]; omega) (by omega)) rfl rfl rfl ?_
   rintro u2 _ ⟨σA2,hA2,rfl⟩
   have hu2:u2.oneCell'=true:=by obtain ⟨_,_,rfl⟩:=hA2.form; rfl
   refine Aaa ?_;refine Ab7 ?_
   exact BB ⟨i+1,K2,p1,c1,σ1,u2,σA2,[σ2],0⟩ ⟨by dsimp only; omega,hK2,hO1,fun h=>by dsimp only at h; omega,fun _=>⟨hne2,p2,c2,σ2,hO2,hA2,rfl⟩⟩ (by dsimp only; omega) covZ selZ
 have hie:i=G0.length:=by omega
 subst hie
 obtain ⟨hne,p2,k2,σ2,hC,hA,rfl⟩:=hA1 rfl
 obtain ⟨bA,kA,rfl⟩:=hA.formP (by omega)
 have hAr:=slAt_rd hA.at (by omega)
 have hUn:=unionI_nil hK.1
 have hhs:=sndHear_spec (ρ:=emp) (ρ2:=σ2) (c:=c) (se:=0) (e:=c.e) (busy:=E0) (sr:=1) (due:=E0+2*c.g+1) (st:=1) (t0:=E0+2*c.g) (sr':=1) (d:=d) (K:=[]) (C:=K) (p:=none) (p2:=p2) (k:=0) (k2:=k2) ((OwnS.nil 50 2).at) hC.at hc ⟨by omega,by omega⟩ hn1 (by omega) (by omega) (by omega) (InI.nil _) hK (.inl ⟨rfl,by simp,rfl⟩) (by omega) (by omega)
 simp only [RepPost,hUn] at hhs
 have hcm:=rcvComplete_spec (se:=0) hO.at hK hn1 (by omega) ⟨by omega,by omega⟩
 refine Ab0 ?_;refine Abb ?_;refine BA ?_;refine Aak ?_;refine BE ?_;refine BA ?_;refine Ab2 ?_;refine Aaj ?_;refine Aac ?_;refine D7 ?_;refine CH ?_;refine Aah ?_
 refine A9 (.q 0 (.q 1 (.q 2 (.q 3 (.q 4 (.l 5 .e (.q 6 (.q 7 (.p 8 (.p 9 (.l 10 .b (.q 11 (.q 12 .nil))))))))))))) [] rfl (by kernel_rfl) Sel.nil ?_
 refine BO ?_;refine Abx ?_;refine DB ?_;refine BO ?_;refine B9 (BW rfl hhs rfl rfl rdZ rfl rfl ?_);rintro _ _ (⟨_,hrep⟩|⟨hst1,_⟩)
 rotate_left
 ·exact absurd rfl hst1
 rcases hrep with ⟨hs,_⟩|⟨_,hw,p3,c3,σU,hU,rfl,rfl⟩|⟨_,hw,hlate,p3,c3,σU,hU,rfl,rfl⟩|⟨_,hw,hok1,p3,c3,σU,p4,c4,σ4,hU,hO4,rfl,rfl⟩
 ·exact absurd rfl hs
 ·rw [decide_eq_true hw] at hcm
  refine AS ?_;refine Abp ?_;refine BD ?_;refine B9 ?_;refine' DG rfl _ rfl rfl _ _
  rotate_left
  ·apply BL; exact rfl; exact rfl; exact takeZ; exact oneZ; exact rfl; exact rfl
  ·rintro _ _ ⟨_,rfl⟩ w hw; exact hw.sel Sel.nil
  rintro _ _ ⟨rfl,rfl⟩;refine Abu ?_;refine Abb ?_;refine Ab1 ?_;refine Aaq ?_;refine AT hcm rfl rfl rdZ rfl rfl ?_;rintro _ rfl;refine Aan ?_;refine Aaj ?_;refine B7 ?_;refine Aak ?_;refine BE ?_;refine B7 ?_;refine AQ ?_;refine AD ?_;refine AT haw rfl rfl rdZ rfl rfl ?_;rintro _ rfl;refine Aax ?_;exact A5 ⟨rfl,rfl⟩
 ·rw [decide_eq_false hw] at hcm
  refine AS ?_;refine Abp ?_;refine BD ?_;refine B9 ?_;refine' DG rfl _ rfl rfl _ _
  rotate_left
  ·apply BL; exact rfl; exact rfl; exact takeZ; exact oneZ; exact rfl; exact rfl
  ·rintro _ _ ⟨_,rfl⟩ w hw; exact hw.sel Sel.nil
  rintro _ _ ⟨rfl,rfl⟩;refine Abu ?_;refine Abb ?_;refine Ab1 ?_;refine Aaq ?_;refine AT hcm rfl rfl rdZ rfl rfl ?_;rintro _ rfl;refine Aao ?_;refine Aaj ?_;refine B7 ?_;refine Aan ?_;refine Aaf ?_;refine BE ?_;refine B7 ?_;refine AD ?_;refine AT haw rfl rfl rdZ rfl rfl ?_;rintro _ rfl;refine Aax ?_;exact A5 ⟨rfl,rfl⟩
 rw [decide_eq_false hw] at hcm;refine AS ?_;refine Abp ?_;refine BD ?_;refine B9 ?_;refine' DG rfl _ rfl rfl _ _
 rotate_left
 ·apply BL; exact rfl; exact rfl; exact takeZ; exact oneZ; exact rfl; exact rfl
 ·rintro _ _ ⟨_,rfl⟩ w hw; exact hw.sel Sel.nil
 rintro _ _ ⟨rfl,rfl⟩;refine Abu ?_;refine Abb ?_;refine Ab1 ?_;refine Aaq ?_;refine AT hcm rfl rfl rdZ rfl rfl ?_;rintro _ rfl;refine Aao ?_;refine Aaj ?_;refine CK ?_;refine Aag ?_;refine Aaq ?_
 obtain ⟨q1',q2',q3',q4',q5'⟩:=miss_pcs hK (by omega)
 have hM1:=missI_ok hK (by omega)
 have hP1:pcsAll (missI (d.length:Int) K)≠[]:=pcsAll_ne hM1.1.1 (fun x hx=>(hM1.1.at x hx).1) (missI_ne hK (by omega) hw)
 have hN1:=List.length_pos_iff.2 hP1
 have hG1:=bat_ok (sr:=1+1) hM1.1 (by omega) (by omega)
 have hb1:=bat_len (1+1) (pcsAll (missI (d.length:Int) K))
 have hEb1:=endG_le hr.1 (t:=E0+2*c.g) hG1
 have htl1:=timed_len c.r (bat (1+1) (pcsAll (missI d.length K))) (E0+2*c.g)
 have hget1:=fun i x=>timed_get c.r (bat (1+1) (pcsAll (missI d.length K))) (E0+2*c.g) i x
 have hbat1:=fun i y=>bat_at (sr:=1+1) (j:=i) (y:=y) q1'
 have hPb:∀ x∈pcsAll (missI (d.length:Int) K),x.1<x.2∧x.2-x.1≤120:=fun x hx=>by have:=q1' x hx; omega
 have hMb:∀ x∈missI (d.length:Int) K,x.1<x.2∧x.2-x.1≤120:=fun x hx=>by have:=hM1.1.at x hx; omega
 have hML:=hM1.1.len (by omega)
 generalize endG c.r (E0+2*c.g) (bat (1+1) (pcsAll (missI d.length K)))=E1 at hok1 hEb1 ⊢
 generalize timed c.r (E0+2*c.g) (bat (1+1) (pcsAll (missI d.length K)))=X1 at hO4 htl1 hget1
 rw [← hb1] at hN1 q5' hbat1
 have hlt1:∀ i,0≤lenI ((pcsAll (missI (d.length:Int) K)).take i)∧lenI ((pcsAll (missI (d.length:Int) K)).take i)≤120000:=fun i=>lenI_take hPb (by omega) i
 have hlM:∀ i,0≤lenI ((missI (d.length:Int) K).take i)∧lenI ((missI (d.length:Int) K).take i)≤120000:=fun i=>lenI_take hMb (by omega) i
 generalize hGG1:(bat (1+1) (pcsAll (missI d.length K)))=G1 at *
 have hmi:=sndMissing2_spec (ρ:=σU) (c:=c) (se:=0) (e:=c.e) (busy:=E1) (sr:=1+1) (due:=E1+2*c.g+1) (st:=1) (d:=d) (K:=K) (p:=p3) (k:=c3) hU.at hc ⟨by omega,by omega⟩ hn1 (by omega) (by omega) (by omega) hK (.inl ⟨rfl,hw,rfl⟩)
 refine CG hmi rfl rfl rdZ rfl rfl ?_;rintro _ σM ⟨pM,cM,rfl,hOM⟩;rw [htl1] at hO4
 obtain ⟨_,_,e1,hR1⟩:=SlE.val (encO_len 0 d) (by rw [← htl1] at hO4; exact hO4.at)
 simp only [Value.slice.injEq] at e1
 obtain ⟨rfl,_,rfl⟩:=e1
 obtain ⟨_,_,e2,hRM⟩:=SlE.val encS_len hOM.at
 simp only [Value.slice.injEq] at e2
 obtain ⟨rfl,_,rfl⟩:=e2
 refine AP (ρ:=σ4) takeZ ?_;refine AP (ρ:=σM) takeZ ?_;refine Ab9 ?_;refine Abz ?_;refine Abr ?_
 refine BT [1,3,7,10,148] (X:=Ln) ⟨0,K,p,k,σK,.slice (some ⟨bA,0,none⟩) 1 kA,σA,[σ2],0⟩ (fun z=>z.i≤G1.length∧InI d.length z.K∧(∀ t,memI z.K t=(memI K t || memI ((pcsAll (missI d.length K)).take z.i) t))∧OwnS 50 2 (.slice z.p z.K.length z.k) z.K.length (z.K.flatMap encS) z.s∧z.tot=lenI ((pcsAll (missI d.length K)).take z.i)∧(z.i=G1.length→∃ p2 k2 σ2 bn,OwnS 50 2 (.slice p2 z.K.length k2) z.K.length (z.K.flatMap encS) σ2∧z.u=.slice (some ⟨bn,0,none⟩) 1 1∧z.sA=sng bn (.cells #[int 2,int 0,int (1+1),int 0,int (d.length:Int),.bool false,str [],.slice p2 z.K.length k2] 39 (0,0))∧z.Hl=[σ2])) (fun z=>[(149,int (z.i:Int)),(12,z.u),(11,int 0),(19,int z.tot),(147,.slice p4 G1.length c4),(17,.slice pM (missI d.length K).length cM),(18,int 0)]) (fun z=>sng b10 (.cells #[int 0,int (totR d z.K),.slice z.p z.K.length z.k,str (datR d z.K)] 34 (0,0))::sng b7 (.cells #[int c.f,int c.t,int c.s,int c.e,int c.r,int c.g,int c.l,int 0,str d,int c.e,int E1,int (1+1),.slice p3 K.length c3,int (E1+2*c.g+1),int 1] 28 (0,0))::σU::z.s::z.sA::z.Hl) (fun z=>G1.length-z.i) pickZ ⟨Nat.zero_le _,hK,fun t=>by rw [List.take_zero]; show memI K t=(memI K t || false); rw [Bool.or_false],hO,rfl,fun h=>by dsimp only at h; omega⟩ covZ selZ ?_
 rintro ⟨j,Kj,p,k,σK,u,sA,Hl,tt⟩ ⟨hj,hKj,hmj,hOj,htt,hfin⟩
 dsimp only at hj hKj hmj hOj htt hfin ⊢
 by_cases hlt:j<G1.length
 ·have hx:=List.getElem?_eq_getElem hlt
  have hgx:=hG1 _ (List.getElem_mem hlt)
  generalize G1[j]=x at hx hgx
  have hX:=hget1 j x hx
  obtain ⟨b8,o8,rfl,hRd⟩:=hR1 j _ hX
  generalize endG c.r (E0+2*c.g) (G1.take (j+1))=t1 at hX hRd
  have hRd:RdN σ4 b8 (o8+j*9) [int t1,int 1,int 0,int x.sr,int (x.a:Int),int (d.length:Int),.bool (decide (1≤x.sr)),str (cutD d x.a x.b),.slice none 0 0]:=hRd
  obtain ⟨y,hy,hyx,hsr⟩:=hbat1 j x hx
  have hcn:=fun b21=>contSnS_spec σK [sng b21 (.cells #[int t1,int 1,int 0,int x.sr,int (x.a:Int),int (d.length:Int),.bool (decide (1≤x.sr)),str (cutD d x.a x.b),.slice none 0 0] 41 (0,0))] _ _ Kj (fun y=>decide (y.1<(x.b:Int)∧(x.a:Int)<y.2)) hOj.at (by have:=hKj.len (by omega); omega) (fun _ y _=>lrnIn_spec (t1:=t1) (ck:=decide (1≤x.sr)) y hgx (by omega) b21)
  have hany:=(lrn_any hK (by omega) hy hmj).resolve_right (fun h=>h hKj.1)
  have hput:=lrn_put hK (by omega) hy hmj hKj
  have hls:=lenI_succ hy
  rw [hyx] at hany hput hls
  dsimp only at hany
  rw [hany] at hcn
  obtain ⟨hK2,hm2,hne2⟩:=hput
  have hl:=cutD_len (Nat.le_of_lt hgx.1) hgx.2.1
  have hb:=hgx.1
  have hq1:0≤tt∧tt≤120000:=by rw [htt]; exact hlt1 j
  have hq2:(cutD d x.a x.b).length≤16:=by rw [hl]; exact hgx.2.2.1
  have hhear:=lrnHear_spec (K':=unionI Kj [((x.a:Int),(x.b:Int))]) hOj.at hKj hn1 (by omega) (show (0:Int)≤0∧(0:Int)≤1099511627776 by omega) hgx rfl hne2
  generalize unionI Kj [((x.a:Int),(x.b:Int))]=K2 at hK2 hm2 hne2 hhear
  refine Ab4 ?_;refine Ac ?_;refine A3 ?_; rintro _ _ ⟨b,rfl,rfl⟩;refine AV ?_; rintro _ _ ⟨rfl,rfl⟩;refine Aam ?_;refine Aaj ?_;refine BN ?_
  revert b; intro b21
  have hcn:=hcn b21
  refine AP (ρ:=sng b21 _) takeZ ?_
  have cp:RdP (sng b21 (.cells #[int t1,int 1,int 0,int x.sr,int (x.a:Int),int (d.length:Int),.bool (decide (1≤x.sr)),str (cutD d x.a x.b),.slice none 0 0] 41 (0,0))) b21 1 [int 1,int 0,int x.sr,int (x.a:Int),int (d.length:Int),.bool (decide (1≤x.sr)),str (cutD d x.a x.b),.slice none 0 0]:=rdP_sng (xs:=[int t1,int 1,int 0,int x.sr,int (x.a:Int),int (d.length:Int),.bool (decide (1≤x.sr)),str (cutD d x.a x.b),.slice none 0 0]) rfl
  have bx975_3:=rdB b21 41 [int t1,int 1,int 0,int x.sr,int (x.a:Int),int (d.length:Int),.bool (decide (1≤x.sr)),str (cutD d x.a x.b),.slice none 0 0]
  have f7:=rdC bx975_3 7
  by_cases hjl:j+1=G1.length
  ·have hs1:x.sr=1+1:=by rw [hsr,if_pos hjl]
   have hs:1≤x.sr:=by omega
   skip
   refine AT hcn rfl rfl rdZ rfl rfl ?_;rintro _ rfl;refine Aag ?_;refine Aaf ?_;refine Ab3 ?_
   focus ((refine' BK _ rfl rfl rfl _; rotate_left; (apply BM; exact rfl; exact rfl)))
   refine CH ?_;refine Aaa ?_;refine Aaq ?_;refine AG ?_;refine AR ?_;refine BI hhear rfl rfl Takes.nil rdZ rfl rfl ?_;rintro _ _ ⟨p1,c1,σ1,hO1,⟨hs',_⟩|⟨_,p5,c5,σ5,bn,hO5,rfl,rfl⟩⟩
   ·exact absurd hs hs'
   rw [hs1];refine Aay ?_;refine AL ?_;refine AV ?_; rintro _ _ ⟨rfl,rfl⟩;refine Aap ?_;refine Aaf ?_;refine Abl ?_;refine Ab7 ?_
   exact BB ⟨j+1,K2,p1,c1,σ1,.slice (some ⟨bn,0,none⟩) 1 1,sng bn (.cells #[int 2,int 0,int (1+1),int 0,int (d.length:Int),.bool false,str [],.slice p5 K2.length c5] 39 (0,0)),[σ5],tt+((cutD d x.a x.b).length:Int)⟩ ⟨by dsimp only; omega,hK2,hm2,hO1,by dsimp only; rw [hls,htt,hl]; dsimp only; omega,fun _=>⟨p5,c5,σ5,bn,hO5,rfl,rfl,rfl⟩⟩ (by dsimp only; omega) covZ selZ
  ·have hs:¬ 1≤x.sr:=by rw [hsr,if_neg hjl]; omega
   skip
   refine AT hcn rfl rfl rdZ rfl rfl ?_;rintro _ rfl;refine Aag ?_;refine Aaf ?_;refine Ab3 ?_
   focus ((refine' BK _ rfl rfl rfl _; rotate_left; (apply BM; exact rfl; exact rfl)))
   refine CH ?_;refine Aaa ?_;refine Aaq ?_;refine AG ?_;refine AR ?_;refine BI hhear rfl rfl Takes.nil rdZ rfl rfl ?_;rintro _ _ ⟨p1,c1,σ1,hO1,⟨_,rfl,rfl⟩|⟨hs',_⟩⟩
   rotate_left
   ·exact absurd hs' hs
   refine Aay ?_;refine AL ?_;refine AV ?_; rintro _ _ ⟨rfl,rfl⟩;refine Aap ?_;refine Aaf ?_;refine Abl ?_;refine Ab7 ?_
   exact BB ⟨j+1,K2,p1,c1,σ1,.slice none 0 0,sA,[],tt+((cutD d x.a x.b).length:Int)⟩ ⟨by dsimp only; omega,hK2,hm2,hO1,by dsimp only; rw [hls,htt,hl]; dsimp only; omega,fun h=>by dsimp only at h; omega⟩ (by dsimp only; omega) covZ selZ
 have hje:j=G1.length:=by omega
 subst hje
 obtain ⟨p5,c5,σ5,bn,hO5,rfl,rfl,rfl⟩:=hfin rfl
 have hwh:=lrn_end hK (by omega) (by rw [← hb1]; exact hmj) hKj
 subst hwh
 have hPl:(pcsAll (missI (d.length:Int) K)).take G1.length=pcsAll (missI (d.length:Int) K):=by rw [hb1,List.take_length]
 rw [hPl,q3'] at htt
 have hda:=rcvData_spec (se:=0) hOj.at hKj hn1 (by omega) ⟨by omega,by omega⟩ rfl
 have hAr2:=rdB bn 39 [int 2,int 0,int (1+1),int 0,int (d.length:Int),.bool false,str [],.slice p5 [((0:Int),(d.length:Int))].length c5]
 have hUw:=whole_in hK (show (0:Int)<(d.length:Int) by omega)
 have hhs2:=sndHear_spec (ρ:=σU) (ρ2:=σ5) (c:=c) (se:=0) (e:=c.e) (busy:=E1) (sr:=1+1) (due:=E1+2*c.g+1) (st:=1) (t0:=E1+2*c.g) (sr':=1+1) (d:=d) (K:=K) (C:=[((0:Int),(d.length:Int))]) (p:=p3) (p2:=p5) (k:=c3) (k2:=c5) hU.at hO5.at hc ⟨by omega,by omega⟩ hn1 (by omega) (by omega) (by omega) hK (InI.whole (by omega)) (.inl ⟨rfl,hw,rfl⟩) (by omega) (by omega)
 simp only [RepPost,hUw] at hhs2;clear hhs hmi hcm hget hget1 hbat hbat1;refine Ab0 ?_;refine Abz ?_;refine Abr ?_
 refine BT [1,3,7,10,11,12,18,19,175] (X:=Nat × Int) (0,0) (fun z=>z.1≤(missI (d.length:Int) K).length∧z.2=lenI ((missI (d.length:Int) K).take z.1)) (fun z=>[(176,int (z.1:Int)),(22,int z.2),(174,.slice pM (missI d.length K).length cM)]) (fun z=>[sng b10 (.cells #[int 0,int (totR d [((0:Int),(d.length:Int))]),.slice p [((0:Int),(d.length:Int))].length k,str (datR d [((0:Int),(d.length:Int))])] 34 (0,0)),sng b7 (.cells #[int c.f,int c.t,int c.s,int c.e,int c.r,int c.g,int c.l,int 0,str d,int c.e,int E1,int (1+1),.slice p3 K.length c3,int (E1+2*c.g+1),int 1] 28 (0,0)),σU,σK,sng bn (.cells #[int 2,int 0,int (1+1),int 0,int (d.length:Int),.bool false,str [],.slice p5 [((0:Int),(d.length:Int))].length c5] 39 (0,0)),σ5]) (fun z=>(missI (d.length:Int) K).length-z.1) pickZ ⟨Nat.zero_le _,rfl⟩ covZ selZ ?_
 rintro ⟨i2,cnt⟩ ⟨hi2,hcnt⟩
 dsimp only at hi2 hcnt ⊢
 have hcb:=hlM i2
 by_cases hlt2:i2<(missI (d.length:Int) K).length
 ·have hx2:=List.getElem?_eq_getElem hlt2
  have hxb:=hMb _ (List.getElem_mem hlt2)
  have hls2:=lenI_succ hx2
  obtain ⟨b9,o9,rfl,hrd9,y0,y1⟩:=spRow hRM hx2
  generalize (missI (d.length:Int) K)[i2]=y at hx2 hxb hls2 hrd9 y0 y1
  have hya:=hM1.1.at y (List.mem_of_getElem? hx2)
  refine Ab4 ?_;refine Ac ?_;refine A3 ?_; rintro _ _ ⟨b,rfl,rfl⟩;refine AV ?_; rintro _ _ ⟨rfl,rfl⟩;refine AE ?_;refine AA ?_;refine Abg ?_;refine D6 ?_;refine CH ?_;refine Aaa ?_;refine Aa4 ?_
  revert b; intro b24
  refine AP (ρ:=sng b24 _) takeZ ?_
  have bx1150_3:=rdB b24 50 [int y.1,int y.2]
  have m0:=rdC bx1150_3 0
  have m1:=rdC bx1150_3 1
  skip
  refine BQ ?_
  exact BB (i2+1,cnt+(y.2-y.1)) ⟨by dsimp only; omega,by dsimp only; omega⟩ (by dsimp only; omega) covZ selZ
 have hie2:i2=(missI (d.length:Int) K).length:=by omega
 subst hie2;rw [List.take_length] at hcnt;refine Ab0 ?_;refine Aaq ?_;refine AT hda rfl rfl rdZ rfl rfl ?_;rintro _ rfl;refine Aay ?_;refine Aca ?_;refine BA ?_;refine Aak ?_;refine BA ?_;refine AN ?_;refine Aa0 ?_;refine BK (q_neT rfl rfl) rfl rfl rfl ?_;rw [beq_self_eq_true];refine AN ?_;refine Aa0 ?_;refine BA ?_;refine AN ?_;refine Aak ?_;refine BE ?_;refine BA ?_;refine Aa7 ?_
 refine A9 (.q 0 (.q 1 (.q 2 (.q 3 (.q 4 (.q 5 (.q 6 (.q 7 (.q 8 (.q 9 (.l 10 .e (.q 11 (.q 12 (.p 13 (.p 14 (.l 15 .b (.q 16 (.q 17 .nil)))))))))))))))))) [] rfl (by kernel_rfl) Sel.nil ?_
 refine BO ?_;refine Aai ?_;refine Aai ?_;refine zd_mul ?_;refine EV ?_;refine AS ?_;refine DB ?_;refine BO ?_;refine B9 (BW rfl hhs2 rfl rfl rdZ rfl rfl ?_);rintro _ _ (⟨_,hrep⟩|⟨hst1,_⟩)
 rotate_left
 ·exact absurd rfl hst1
 rcases hrep with ⟨hs,_⟩|⟨_,_,p6,c6,σ6,hO6,rfl,rfl⟩|⟨_,hw2,_⟩|⟨_,hw2,_⟩
 ·exact absurd rfl hs
 rotate_left
 ·exact absurd rfl hw2
 ·exact absurd rfl hw2
 refine AS ?_;refine Abp ?_;refine BD ?_;refine B9 ?_;refine' DG rfl _ rfl rfl _ _
 rotate_left
 ·apply BL; exact rfl; exact rfl; exact takeZ; exact oneZ; exact rfl; exact rfl
 ·rintro _ _ ⟨_,rfl⟩ w hw; exact hw.sel Sel.nil
 rintro _ _ ⟨rfl,rfl⟩;refine Abu ?_;refine Aaf ?_;refine B7 ?_;refine Aal ?_;refine B7 ?_;refine AQ ?_;refine Aak ?_;refine BE ?_;refine B7 ?_;refine AQ ?_;refine AD ?_;refine AT haw rfl rfl rdZ rfl rfl ?_;rintro _ rfl;refine Aax ?_;exact A5 ⟨rfl,rfl⟩
end Go.Proofs.YtcmggofkjcejgaaGreatDoor
namespace Go.Eng
open Go.ChangeShapes Go.WideShapes Go.RowKit
variable {P:Program} {W:World} {t:TypeId}
end Go.Eng
namespace Go.Proofs.YtcmggofkjcejgaaGreatDoor
open Go.Eng Go.Step
set_option maxRecDepth 100000
set_option maxHeartbeats 64000000
open Go.ChangeShapes Go.WideShapes Go.ChangeAt Go.RowKit
theorem Tryz.own:ownKnob Tryz.prog.godebug=none:=by kernel_rfl
theorem Tryz.laidOut:laidOutB Tryz.prog=true:=by kernel_rfl
theorem snContact_of {W:World} {r:Reach} {base:Nat} {v0:Value} (hv:Value.okWide Tryz.prog W r base 23 v0) (h:RdT Tryz.prog W 23 v0.cells.toList):∃ x:Ct,v0=.agg #[int x.f,int x.t,int x.s,int x.e,int x.r,int x.g,int x.l]:=by
 obtain ⟨cs,rfl⟩:=okWide_agg Tryz.underlying23 hv
 obtain ⟨h1,_⟩:=h.struct Tryz.underlying23
 have hc:Tryz.prog.cellsOf 23=7:=by kernel_rfl
 rw [hc] at h1
 obtain ⟨x⟩:=cs
 match x,h1 with
 | [c0,c1,c2,c3,c4,c5,c6],_ =>
  have k:Tryz.prog.cellsOf 3=1:=by kernel_rfl
  obtain ⟨x0,e0,_⟩:=(h.fld1 Tryz.underlying23 0 rfl rfl rfl k rfl).i64 Tryz.underlying3
  obtain ⟨x1,e1,_⟩:=(h.fld1 Tryz.underlying23 1 rfl rfl rfl k rfl).i64 Tryz.underlying3
  obtain ⟨x2,e2,_⟩:=(h.fld1 Tryz.underlying23 2 rfl rfl rfl k rfl).i64 Tryz.underlying3
  obtain ⟨x3,e3,_⟩:=(h.fld1 Tryz.underlying23 3 rfl rfl rfl k rfl).i64 Tryz.underlying3
  obtain ⟨x4,e4,_⟩:=(h.fld1 Tryz.underlying23 4 rfl rfl rfl k rfl).i64 Tryz.underlying3
  obtain ⟨x5,e5,_⟩:=(h.fld1 Tryz.underlying23 5 rfl rfl rfl k rfl).i64 Tryz.underlying3
  obtain ⟨x6,e6,_⟩:=(h.fld1 Tryz.underlying23 6 rfl rfl rfl k rfl).i64 Tryz.underlying3
  simp at e0 e1 e2 e3 e4 e5 e6
  subst e0 e1 e2 e3 e4 e5 e6;exact ⟨⟨x0,x1,x2,x3,x4,x5,x6⟩,rfl⟩
theorem snPicks_of {W:World} {r:Reach} {base:Nat} {v0:Value} (hv:Value.okWide Tryz.prog W r base 24 v0) (h:RdT Tryz.prog W 24 v0.cells.toList):∃ (p:Option Addr) (k:Nat) (l:List Bool),v0=.slice p l.length k∧SlE encPk 1 (heapPH W) (.slice p l.length k) l∧l.length≤9223372036854775807:=by
 obtain ⟨a,len,cap,rfl⟩:=okWide_slice Tryz.underlying24 hv
 have h':RdT Tryz.prog W 24 [Value.slice a len cap]:=h
 obtain ⟨v,e,l,h1,h2,h3⟩:=h'.sliceE (enc:=encPk) (Q:=fun _=>True) Tryz.underlying24 (s:=1) (by kernel_rfl) (by omega) (fun x hx=>by obtain ⟨b,hb⟩:=hx.bool Tryz.underlying4; exact ⟨b,hb,trivial⟩)
 simp only [List.cons.injEq,and_true] at e;subst e
 obtain ⟨p,k,e2,_⟩:=h1.val encPk_len
 rw [e2] at h1 ⊢
 exact ⟨p,k,l,rfl,h1,by simp only [maxLen] at h3; omega⟩
set_option maxRecDepth 100000 in
theorem topSenderLearns_lifted (os:Os) (started:os.Started) (H:Type) (enc:TypeId × Value→H) :
  ReturnsInHanded {} Tryz.checked os 3 .any (fun w args=>(Rows.topSenderLearnsSpec.pre enc Tryz.prog Tryz.f3 [] false w args∧laidMetH Tryz.prog Rows.topSenderLearnsRow.laid w)∧sizedMet enc Tryz.prog Tryz.f3 (OpenSpec.ofChange Rows.topSenderLearnsSpec) false w args)
   (Rows.topSenderLearnsSpec.post enc Tryz.prog Tryz.f3 false true false false):=by
 refine returnsInHanded_of_change_and (C:=Tryz.checked) (X:=fun w _=>laidMetH Tryz.prog Rows.topSenderLearnsRow.laid w) (fun _ _ _ hh h=>h.of_heap hh) Tryz.own started (by kernel_rfl) Tryz.func3
  (ChangeSpec.witness_shaped (enc:=enc) (C:=Tryz.checked) (os:=os) (X:=fun w _=>laidMetH Tryz.prog Rows.topSenderLearnsRow.laid w) false (World.laidAll Tryz.prog os Rows.topSenderLearnsRow.laid) #[.agg #[.int .i64 0,.int .i64 0,.int .i64 0,.int .i64 0,.int .i64 0,.int .i64 0,.int .i64 0],.string ⟨#[]⟩,.slice none 0 0] 8 (World.laidAll_os _ _ _)
   (World.shaped_of_ZipB (by kernel_rfl) (by kernel_rfl)) (by kernel_rfl) (by kernel_rfl) (by kernel_rfl)
   (by rw [MakeChecks.laidMetH_plain _ _ _ (by kernel_rfl)]; exact laidMet_laidAll _ (by kernel_rfl) (by kernel_rfl))) ?_
 intro W base args ds gs before hval0 hW _ _ _ _
 have hval:∀ (j:Nat) t v,Tryz.f3.params[j]?=some t→args[j]?=some v→Value.okWide Tryz.prog W .any base t v:=hval0
 have hW':=hW
 obtain ⟨p,q,hA0,hV,rfl,hfz,hnd⟩:=hW
 have hA:DataW.TrodAll enc Tryz.prog W 0 (fun _=>true) true Tryz.f3.params.toList args.toList ds p:=hA0
 rw [Tryz.params3] at hA hval
 obtain ⟨v0,vs0,d0,ds0,p0,q0,hargs,rfl,rfl,h0,r0⟩:=trodAll_cons hA
 obtain ⟨v1,vs1,d1,ds1,p1,q1,rfl,rfl,rfl,h1,r1⟩:=trodAll_cons r0
 obtain ⟨v2,vs2,d2,ds2,p2,q2,rfl,rfl,rfl,h2,r2⟩:=trodAll_cons r1
 obtain ⟨rfl,rfl,rfl⟩:=trodAll_nil r2
 obtain rfl:args = #[v0,v1,v2]:=by cases args; simp_all
 obtain ⟨rfl,rfl⟩:=trodVars_none hV
 have lt0:∀ x∈p0,x.block<W.heap.size:=by obtain ⟨m,hm⟩:=h0; exact DataW.trod_lt m _ _ _ hm
 have lt1:∀ x∈p1,x.block<W.heap.size:=by obtain ⟨m,hm⟩:=h1; exact DataW.trod_lt m _ _ _ hm
 have lt2:∀ x∈p2,x.block<W.heap.size:=by obtain ⟨m,hm⟩:=h2; exact DataW.trod_lt m _ _ _ hm
 have hlaw:Ans Tryz.prog (fv 3) [v0,v1,v2] [heapPH W] (fun v=>v=.bool true):=by
  obtain ⟨x,rfl⟩:=snContact_of (hval 0 _ v0 rfl rfl) (RdT.of h0)
  obtain ⟨⟨⟨d⟩⟩,rfl⟩:=okWide_string Tryz.underlying9 (hval 1 _ v1 rfl rfl)
  obtain ⟨p,k,l,rfl,hl,ll⟩:=snPicks_of (hval 2 _ v2 rfl rfl) (RdT.of h2)
  exact (learns_law x d hl ll).rsub (fun _ h=>by simpa using h)
 refine (law_calls Tryz.func3 rfl rfl hlaw).mono fun e W' ⟨he,bel⟩=>?_
 subst he
 exact ⟨_,rfl,_,_,_,[],_,[],hW',trodAll_mk1 (shut_bool Tryz.underlying4 _),(trodAll_cons_mk (Below.trod Tryz.laidOut (by kernel_rfl) (of_decide_eq_true (by kernel_rfl)) h0 bel lt0) (trodAll_cons_mk (Below.trod Tryz.laidOut (by kernel_rfl) (of_decide_eq_true (by kernel_rfl)) h1 bel lt1) (trodAll_cons_mk (Below.trod Tryz.laidOut (by kernel_rfl) (of_decide_eq_true (by kernel_rfl)) h2 bel lt2) trodAll_mk0))),rfl,bel.frame _,fun h=>by cases h⟩
end Go.Proofs.YtcmggofkjcejgaaGreatDoor
namespace Go.Proofs.YtcmggofkjcejgaaGreatDoor
open Go.Eng Go.Step
set_option maxRecDepth 100000
set_option maxHeartbeats 64000000
open Go.ChangeShapes Go.WideShapes Go.ChangeAt Go.RowKit

theorem learns_inPlace : Rows.topSenderLearnsRow.inPlace = Tryz.prog.inPlace 3 := by kernel_rfl
theorem learns_unfollowed : Tryz.prog.unfollowed 3 = true := by kernel_rfl
theorem learns_recurses : Tryz.prog.recurses 3 = true := by kernel_rfl
theorem learns_named : Rows.topSenderLearnsRow.named = Tryz.prog.varsNamed 3 := by kernel_rfl
theorem learns_func : Tryz.prog.funcNamed "mailboat/mailboattop.TopSenderLearns" = some 3 := by kernel_rfl
theorem learns_joined : joinedFacts Tryz.prog 3 Tryz.f3 Rows.topSenderLearnsSpec Rows.topSenderLearnsRow = true := by
 unfold joinedFacts;rw [← learns_inPlace, learns_unfollowed, learns_recurses, ← learns_named]
 kernel_rfl
theorem topSenderLearns_holds : Rows.TopSenderLearnsSaid :=
 OpenClaim.holds_of_wide 3 Tryz.f3 rfl rfl rfl rfl rfl rfl rfl ⟨rfl, rfl, rfl, rfl, rfl⟩ rfl rfl rfl rfl rfl learns_func Tryz.func3 learns_joined
  (of_decide_eq_true (by kernel_rfl)) (by unfold Func.isWrapper; first | (rw [if_pos (by decide +kernel)]; kernel_rfl) | (rw [if_neg (by decide +kernel)]; exact ⟨rfl, rfl⟩))
  (fun os started H enc _ => topSenderLearns_lifted os started H enc)
theorem topSenderLearnsCard_holds : Rows.TopSenderLearnsCardSaid :=
 Claim7.holds_tied_plain_at .later [] [.data, .pinned] true (true, "bd66cbfe6d30a658ae689c8754871e770b56dc608ce4eba1275a23e24282acfd") false topSenderLearns_holds (fun _ h => by cases h) (by as_aux_lemma => kernel_rfl) (fun _ h => by cases h) topSenderLearns_row_tie rfl ⟨rfl, rfl⟩ (by as_aux_lemma => kernel_rfl) rfl
  (fun f fn hf hfn => by
   obtain rfl : f = 3 := Option.some.inj (learns_func.symm.trans hf) |>.symm
   obtain rfl : fn = Tryz.f3 := (Option.some.inj (Tryz.func3.symm.trans hfn)).symm
   exact ⟨by as_aux_lemma => kernel_rfl, fun j t ht => by
    rw [Tryz.params3] at ht
    have hm : t ∈ [23, 9, 24] := by simpa using Array.mem_of_getElem? ht
    have hall : ([23, 9, 24].all fun u => !Tryz.prog.wantsStandIn u) = true := by kernel_rfl
    exact (show Tryz.prog.wantsStandIn t = false by simpa using List.all_eq_true.1 hall t hm)⟩)
  (by as_aux_lemma => kernel_rfl)
end Go.Proofs.YtcmggofkjcejgaaGreatDoor
