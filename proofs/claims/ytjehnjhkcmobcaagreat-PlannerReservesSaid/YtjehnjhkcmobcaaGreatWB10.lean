/- Texts of this proof, one after the other; no conditions. -/
import Derived.Laws.Externs
import Derived.Test.YtjehnjhkcmobcaaGreatWB9
import Derived.Test.YtjehnjhkcmobcaaGreatWB3
import Derived.Test.YtjehnjhkcmobcaaGreatWB8
import Derived.Test.YtjehnjhkcmobcaaGreatWB4
import Derived.Test.YtjehnjhkcmobcaaGreatWB5
import Derived.Test.YtjehnjhkcmobcaaGreatWB2
import Derived.Test.YtjehnjhkcmobcaaGreatWB6
import Derived.Test.YtjehnjhkcmobcaaGreatWB0
import Derived.Test.YtjehnjhkcmobcaaGreatWB1
import Derived.Test.YtjehnjhkcmobcaaGreatWB7
set_option linter.all false
/- The document's holds of shipments. -/
namespace Go.Proofs.YtjehnjhkcmobcaaGreat
open Go.Eng Go.Step
set_option maxRecDepth 100000
set_option maxHeartbeats 64000000
theorem holdsT_app (n:Int) (S:List ((Int × Int) × Int)) (p:(Int × Int) × Int):holdsT n (S ++ [p])=holdsT n S ++ pieces n p.1.1 p.1.2 p.2 (pieceN p.2):=by
 unfold holdsT;rw [List.flatMap_append]
 simp
theorem holds54_spec (ρ τ ω:PH) (pq pc:Option Addr) (kq kc:Nat) (qs:List Int) (cs:List Ct) (hc:CtAt τ (.slice pc cs.length kc) cs) (v:Value) (l:List Sh) (hv:ShAt ω v l) (hll:l.length≤500000) (hok:∀ x∈l,ShB cs x) (hql:qs.length≤16) :
  Eng.Spec Tryz.prog (fv 51) [.agg #[.slice pq qs.length kq,.slice pc cs.length kc],v] [τ,ω] [] (fun r H'=>∃ u ok χ,r=.tuple #[u,.bool ok]∧H'=[χ]∧((negA cs qs.length l∧ok=false)∨(¬ negA cs qs.length l∧ok=true∧(holdsA cs l qs.length).length≤15260000000*qs.length∧OwnS 99 5 u (holdsA cs l qs.length).length ((holdsA cs l qs.length).flatMap encH) χ))):=by
 have hv2:=hv
 obtain ⟨q,cc,rfl,hr⟩:=hv.val encX_len
 refine spec_in (cap:=[]) Tryz.func51 rfl rfl Tryz.ntmps51 rfl envZ (fun N β=>?_)
 refine Aa ?_;refine BH (BO rfl) rfl rfl rfl ?_;rintro _ _ ⟨b2,rfl,rfl⟩;refine AW (ρ:=sng b2 _) takeZ ?_
 have cp:=rdB b2 25 [.slice pq qs.length kq,.slice pc cs.length kc]
 have cp0:=rdC cp 0
 have cp1:=rdC cp 1
 refine Aal ?_;refine Aa ?_;refine AZ ?_; rintro _ _ ⟨b,rfl,rfl⟩;refine Adt ?_
 revert b; intro bh
 refine BA [1,2] (X:=Nat × Value × PH) (0,.slice (some ⟨bh,0,none⟩) 0 0,sng bh (.cells #[] 99 (0,0))) (fun x=>x.1≤qs.length∧(∀ m:Nat,m<x.1→negN cs m l=false)∧(holdsA cs l x.1).length≤15260000000*x.1∧OwnS 99 5 x.2.1 (holdsA cs l x.1).length ((holdsA cs l x.1).flatMap encH) x.2.2) (fun x=>[(7,int x.1),(6,x.2.1)]) (fun x=>[x.2.2]) (fun x=>qs.length-x.1) pickZ ⟨by dsimp only; omega,by intro m hm; dsimp only at hm; omega,by simp [holdsA],OwnS.empty⟩ covZ selZ ?_
 rintro ⟨k,u,χ⟩ ⟨hk,hng,hln,hO⟩
 dsimp only at hk hng hln hO ⊢
 by_cases hlt:k<qs.length
 rotate_left
 ·have hke:k=qs.length:=by omega
  subst hke
  have hnA:¬ negA cs qs.length l:=fun ⟨n,h1,h2⟩=>by rw [hng n h1] at h2; simp at h2
  refine Ac9 ?_;refine AU ?_;refine Abv ?_;refine Afh ?_;exact AO (res2 rfl rfl rfl) rsubZ selZ ⟨_,true,χ,rfl,rfl,.inr ⟨hnA,rfl,hln,hO⟩⟩
 refine Ac9 ?_;refine AU ?_;refine Aa9 ?_;refine Abt ?_;refine Aao ?_
 refine BV (times54_spec ρ τ ω pq pc kq kc qs cs hc _ l (k:Int) hv2 (by omega) hok) rfl rfl rdZ rfl rfl ?_
 rintro uT χt hOT
 obtain ⟨pT,kT,rfl⟩:=hOT.form
 have hIT:IntsAt χt (.slice pT (evtN cs (k:Int) l).length kT) (evtN cs (k:Int) l):=hOT.at
 have hrT:=rowN Eng.encI_len hIT
 refine AW (ρ:=χt) takeZ ?_
 obtain ⟨F,hF⟩:∃ F:Int→Int,F=fun t=>haveS cs (k:Int) t l:=⟨_,rfl⟩
 have hFt:∀ t,haveS cs (k:Int) t l=F t:=fun t=>by rw [hF]
 have hst:=fun z=>stored54_spec ρ τ ω pq pc kq kc qs cs hc _ l (k:Int) z hv2 (by omega) hok
 have hFb:∀ t,F t≤1000000000:=fun t=>by
  have:=haveS_bd cs (k:Int) t l (fun z hz=>(hok z hz).n)
  rw [hFt] at this;omega
 have hev:=holdsA_even (cs:=cs) (l:=l) (k:=k)
 have hod:=holdsA_odd (cs:=cs) (l:=l) (k:=k)
 have hnil:=evt_nil (cs:=cs) (n:=(k:Int)) (l:=l)
 have hlast:=fun z=>evt_last (cs:=cs) (n:=(k:Int)) (l:=l) (z:=z)
 have hneg54:=neg54 (cs:=cs) (n:=(k:Int)) (l:=l)
 have hlen:=evt_len cs (k:Int) l
 have hlv:lvN cs (k:Int) l=comb F 0 (evtN cs (k:Int) l):=by rw [hF]; rfl
 simp only [hFt] at hst hlast hneg54
 generalize evtN cs (k:Int) l=T at hOT hIT hrT hnil hlast hneg54 hlen hlv
 by_cases hTz:T=[]
 ·obtain ⟨e1,e2⟩:=hnil hTz
  have h0:T.length=0:=by rw [hTz]; rfl
  have hn1:negN cs (k:Int) l=false:=by
   cases hb:negN cs (k:Int) l with
   | false=>rfl
   | true =>
    obtain ⟨t,ht,_⟩:=(hneg54 e1).1 hb
    rw [hTz] at ht
    simp at ht
  have hsame:holdsA cs l (k+1)=holdsA cs l k:=by
   rw [hev e1,e2]
   show holdsA cs l k ++ []=_
   rw [List.append_nil]
  refine Abl ?_;refine AC ?_
  refine A6 P2Z [] rfl (by kernel_rfl) selZ ?_
  refine AI ?_;refine CZ ?_;refine DP ?_;refine Af8 ?_;refine AS rfl rfl rfl rfl rfl ?_;refine Adg ?_;refine A8 rfl ?_;refine Ae7 ?_;refine DF ?_
  exact AT (k+1,u,χ) ⟨by dsimp only; omega,fun m hm=>by dsimp only at hm; rcases Nat.lt_succ_iff_lt_or_eq.1 hm with h|rfl; exact hng m h; exact hn1,by dsimp only; rw [hsame]; omega,by dsimp only; rw [hsame]; exact hO⟩ (by dsimp only; omega) covZ selZ
 have hTp:0<T.length:=List.length_pos_iff.2 hTz
 obtain ⟨z,hz⟩:∃ z,T.getLast?=some z:=⟨T.getLast hTz,List.getLast?_eq_some_getLast hTz⟩
 have hzn:=hlast z hz
 have hzi:T[T.length-1]?=some z:=by rw [← List.getLast?_eq_getElem?]; exact hz
 obtain ⟨bT,oT,rfl,gz⟩:=hrT.int hzi
 by_cases hz0:netS cs (k:Int) l=0
 rotate_left
 ·have hn1:negN cs (k:Int) l=false:=by unfold negN; rw [decide_eq_false hz0,Bool.false_and]
  have hzz:F z≠0:=by rw [hzn]; exact hz0
  refine Abl ?_;refine AC ?_
  refine A6 (.q 0 (.q 1 (.q 2 (.q 3 (.q 4 (.q 5 (.q 6 (.q 7 (.q 8 (.q 9 (.q 10 (.q 11 (.q 12 (.l 13 .e (.q 14 (.q 15 .nil)))))))))))))))) [] rfl (by kernel_rfl) selZ ?_
  refine AI ?_;refine CZ ?_;refine C7 ?_;refine Ag7 ?_;refine Ae2 ?_;refine BQ ?_;refine Aco ?_;refine CF (CC rfl (hst z) rfl rfl rdZ rfl rfl ?_);rintro _ rfl;refine GR ?_;refine BM ?_;refine Ab5 ?_;refine A8 rfl ?_;refine Ae7 ?_;refine DF ?_
  exact AT (k+1,u,χ) ⟨by dsimp only; omega,fun m hm=>by dsimp only at hm; rcases Nat.lt_succ_iff_lt_or_eq.1 hm with h|rfl; exact hng m h; exact hn1,by dsimp only; rw [hod hz0]; omega,by dsimp only; rw [hod hz0]; exact hO⟩ (by dsimp only; omega) covZ selZ
 have hFz:F z=0:=by rw [hzn]; exact hz0
 refine Abl ?_;refine AC ?_
 refine A6 (.q 0 (.q 1 (.q 2 (.q 3 (.q 4 (.q 5 (.q 6 (.q 7 (.q 8 (.q 9 (.q 10 (.q 11 (.q 12 (.l 13 .e (.q 14 (.q 15 .nil)))))))))))))))) [] rfl (by kernel_rfl) selZ ?_
 refine AI ?_;refine CZ ?_;refine C7 ?_;refine Ag7 ?_;refine Ae2 ?_;refine BQ ?_;refine Aco ?_;refine CF (CC rfl (hst z) rfl rfl rdZ rfl rfl ?_);rintro _ rfl;refine EV ?_;refine Ag2 ?_;refine Aai ?_;refine Abw ?_
 refine BA [1,2,7,8] (X:=Nat × List Hd × Value × PH) (0,holdsA cs l k,u,χ) (fun x=>x.1≤T.length∧(∀ (j:Nat) (t:Int),j<x.1→T[j]?=some t→0≤F t)∧(∃ S,x.2.1=holdsA cs l k ++ holdsT (k:Int) S∧S ++ sp2 F (if x.1=0 then 0 else F (T.getD (x.1-1) 0)) (T.drop x.1)=sp2 F 0 T)∧x.2.1.length≤15260000000*k+15260*x.1∧OwnS 99 5 x.2.2.1 x.2.1.length (x.2.1.flatMap encH) x.2.2.2) (fun x=>[(10,int x.1),(6,x.2.2.1)]) (fun x=>[x.2.2.2]) (fun x=>T.length-x.1) pickZ ⟨by dsimp only; omega,by intro j t h; dsimp only at h; omega,⟨[],by dsimp only; show _=_ ++ []; rw [List.append_nil],by dsimp only; rw [if_pos rfl,List.drop_zero,List.nil_append]⟩,by dsimp only; omega,hO⟩ covZ selZ ?_
 clear hO;rintro ⟨i,O,u1,χ1⟩ ⟨hi,hnn,⟨S,hS1,hS2⟩,hOl,hO⟩
 dsimp only at hi hnn hS1 hS2 hOl hO ⊢
 by_cases hil:i<T.length
 rotate_left
 ·have hie:i=T.length:=by omega
  rw [hie,List.drop_length] at hS2
  have hSe:S=spL (lvN cs (k:Int) l):=by
   rw [hlv,sp2_spL (fun w hw=>by rw [hz] at hw; obtain rfl:=Option.some.inj hw; exact hFz),← hS2]
   show S=S ++ []
   rw [List.append_nil]
  have hn1:negN cs (k:Int) l=false:=by
   cases hb:negN cs (k:Int) l with
   | false=>rfl
   | true =>
    obtain ⟨t,ht,h⟩:=(hneg54 hz0).1 hb
    obtain ⟨j,hj⟩:=List.getElem?_of_mem ht
    have:=hnn j t (by have:=(List.getElem?_eq_some_iff.1 hj).1; omega) hj
    omega
  have hOe:O=holdsA cs l (k+1):=by rw [hev hz0,hS1,hSe]
  subst hOe;refine Aci ?_;refine Aa2 ?_;refine DF ?_
  exact AT (k+1,u1,χ1) ⟨by dsimp only; omega,fun m hm=>by dsimp only at hm; rcases Nat.lt_succ_iff_lt_or_eq.1 hm with h|rfl; exact hng m h; exact hn1,by dsimp only; omega,hO⟩ (by dsimp only; omega) covZ selZ
 have hx:=List.getElem?_eq_getElem hil
 have hxm:=List.getElem_mem hil
 obtain ⟨b3,o3,e3,gi⟩:=hrT.int hx
 simp only [Option.some.injEq,Addr.mk.injEq,and_true] at e3
 obtain ⟨rfl,rfl⟩:=e3
 have hstp:=sp2_step (F:=F) (c:=if i=0 then 0 else F (T.getD (i-1) 0)) hx
 have hnext:(if i+1=0 then (0:Int) else F (T.getD (i+1-1) 0))=F T[i]:=by
  rw [if_neg (by omega),Nat.add_sub_cancel,List.getD_eq_getElem?_getD,hx]
  rfl
 have hprev:0<i→∃ t',T[i-1]?=some t'∧(if i=0 then (0:Int) else F (T.getD (i-1) 0))=F t':=fun h=>by
  have h1:=List.getElem?_eq_getElem (show i-1<T.length by omega)
  exact ⟨_,h1,by rw [if_neg (by omega),List.getD_eq_getElem?_getD,h1]; rfl⟩
 have hc0:i=0→(if i=0 then (0:Int) else F (T.getD (i-1) 0))=0:=fun h=>if_pos h
 generalize (if i=0 then (0:Int) else F (T.getD (i-1) 0))=c at hS2 hstp hprev hc0
 generalize T[i]=t at hx hxm gi hstp hnext
 have hFtb:=hFb t
 refine Ad9 ?_
 refine A6 (.q 0 (.q 1 (.q 2 (.q 3 (.q 4 (.q 5 (.q 6 (.l 7 .e (.q 8 .nil))))))))) [] rfl (by kernel_rfl) selZ ?_
 refine Ae1 ?_;refine Adj ?_;refine CF (CC rfl (hst t) rfl rfl rdZ rfl rfl ?_);rintro _ rfl;refine Adr ?_
 by_cases hneg:F t<0
 ·refine AC ?_
  refine Aac ?_;refine BD ?_;refine Aeg ?_;exact AO (res2 rfl rfl rfl) rsubZ selZ ⟨_,false,χ1,rfl,rfl,.inl ⟨⟨k,hlt,(hneg54 hz0).2 ⟨t,hxm,hneg⟩⟩,rfl⟩⟩
 have hnn1:∀ (j:Nat) (s:Int),j<i+1→T[j]?=some s→0≤F s:=fun j s hj hs=>by
  by_cases e:j=i
  ·subst e
   rw [hx] at hs
   obtain rfl:=Option.some.inj hs
   omega
  ·exact hnn j s (by omega) hs
 refine Aah ?_;refine Aeb ?_;refine Acp ?_
 obtain ⟨bb,hbb⟩:∃ bb:Bool,bb=decide (0<i∧c=F t):=⟨_,rfl⟩
 refine DR (X:=Unit) [1,2,6,7,8,10,11] (fun _=>True) (fun _=>[(72,.bool bb)]) (fun _=>[χ1]) pickZ ?_ ?_
 ·rcases Nat.eq_zero_or_pos i with h0|h0
  ·rw [decide_eq_false (fun h=>by omega)] at hbb
   subst hbb
   refine A6 (.q 0 (.q 1 (.q 2 (.q 3 (.q 4 (.q 5 (.q 6 (.q 7 (.q 8 (.q 9 (.q 10 (.q 12 (.q 11 (.q 13 (.q 14 .nil))))))))))))))) [] rfl (by kernel_rfl) selZ ?_
   refine AI ?_;refine DL ?_;refine Af8 ?_;refine Ad ?_;refine A7 ?_;exact B5 () trivial covZ selZ
  ·obtain ⟨t',ht',hct⟩:=hprev h0
   obtain ⟨b4,o4,e4,gp⟩:=hrT.int ht'
   simp only [Option.some.injEq,Addr.mk.injEq,and_true] at e4
   obtain ⟨rfl,rfl⟩:=e4
   by_cases hcc:F t'=F t
   ·rw [decide_eq_true ⟨h0,by rw [hct]; exact hcc⟩] at hbb
    subst hbb
    refine A6 (.q 0 (.q 1 (.q 2 (.q 3 (.q 4 (.q 5 (.q 6 (.q 7 (.q 8 (.q 9 (.q 10 (.q 12 (.l 11 .e (.q 13 (.q 14 .nil))))))))))))))) [] rfl (by kernel_rfl) selZ ?_
    refine Afk ?_;refine Ag7 ?_;refine Aan ?_;refine BQ ?_;refine Aco ?_;refine AI ?_;refine CF (CC rfl (hst t') rfl rfl rdZ rfl rfl ?_);rintro _ rfl;refine DP ?_;refine BG ?_;refine A7 ?_;exact B5 () trivial covZ selZ
   ·rw [decide_eq_false (fun h=>hcc (by rw [← hct]; exact h.2))] at hbb
    subst hbb
    refine A6 (.q 0 (.q 1 (.q 2 (.q 3 (.q 4 (.q 5 (.q 6 (.q 7 (.q 8 (.q 9 (.q 10 (.q 12 (.l 11 .e (.q 13 (.q 14 .nil))))))))))))))) [] rfl (by kernel_rfl) selZ ?_
    refine Afk ?_;refine Ag7 ?_;refine Aan ?_;refine BQ ?_;refine Aco ?_;refine AI ?_;refine CF (CC rfl (hst t') rfl rfl rdZ rfl rfl ?_);rintro _ rfl;refine C7 ?_;refine BG ?_;refine A7 ?_;exact B5 () trivial covZ selZ
 rintro _ _
 try dsimp only
 by_cases hsm:0<i∧c=F t
 ·rw [decide_eq_true hsm] at hbb
  subst hbb
  rw [if_neg (fun h=>h.1 hsm.2.symm),List.nil_append] at hstp
  rw [hstp] at hS2;refine AL rfl ?_;refine A8 rfl ?_;refine Ae7 ?_
  refine AT (i+1,O,u1,χ1) ⟨by dsimp only; omega,hnn1,⟨S,hS1,?_⟩,by dsimp only; omega,hO⟩ (by dsimp only; omega) covZ selZ
  dsimp only
  rw [hnext];exact hS2
 rw [decide_eq_false hsm] at hbb;subst hbb
 have hcond:0<F t→F t≠c:=fun h1 h2=>by
  rcases Nat.eq_zero_or_pos i with h0|h0
  ·have:=hc0 h0
   omega
  ·exact hsm ⟨h0,h2.symm⟩
 have hone:∀ (j:Nat) (s:Int),i≤j→j<i+1→T[j]?=some s→F s=F t:=fun j s h1 h2 h3=>by
  have e:j=i:=by omega
  subst e;rw [hx] at h3;rw [Option.some.inj h3]
 refine Abd ?_;refine Aay ?_;refine Acb ?_;refine Abr ?_;refine Aaz ?_;refine Aap ?_
 refine BA [1,2,6,7,8,9,10,11] (i+1) (fun kk=>i+1≤kk∧kk≤T.length∧(∀ (j:Nat) (s:Int),i≤j→j<kk→T[j]?=some s→F s=F t)∧nxtF F (F t) (T.drop kk)=nxtF F (F t) (T.drop (i+1))) (fun kk=>[(12,int (kk:Int))]) (fun _=>[χ1]) (fun kk=>T.length-kk) pickZ ⟨by omega,by omega,fun j s h1 h2 h3=>hone j s h1 h2 h3,rfl⟩ covZ selZ ?_
 rintro kk ⟨hk1,hk2,hk3,hk4⟩
 by_cases hkl:kk<T.length
 rotate_left
 ·have hF0:F t=0:=by
   rw [← hk3 (T.length-1) z (by omega) (by omega) hzi]
   exact hFz
  rw [if_neg (fun h=>by omega),List.nil_append] at hstp
  rw [hstp] at hS2;refine Acp ?_
  refine A6 (.q 0 (.q 1 (.q 2 (.q 3 (.q 4 (.q 5 (.q 6 (.q 7 (.q 8 (.q 9 (.q 10 (.q 11 (.q 13 (.q 12 (.q 14 (.q 15 .nil)))))))))))))))) [] rfl (by kernel_rfl) selZ ?_
  refine Ae2 ?_;refine DK ?_;refine Af8 ?_;refine BM ?_;refine Af1 ?_;refine AM ?_
  refine BA [1,2,6,7,8,10,11] (X:=Unit) () (fun _=>True) (fun _=>[]) (fun _=>[χ1]) (fun _=>0) pickZ trivial covZ selZ ?_
  rintro _ _;refine Aah ?_;refine B7 ?_;refine Aa7 ?_;refine Aa2 ?_
  refine AT (i+1,O,u1,χ1) ⟨by dsimp only; omega,hnn1,⟨S,hS1,?_⟩,by dsimp only; omega,hO⟩ (by dsimp only; omega) covZ selZ
  dsimp only
  rw [hnext];exact hS2
 have hy:=List.getElem?_eq_getElem hkl
 obtain ⟨b5,o5,e5,gk⟩:=hrT.int hy
 simp only [Option.some.injEq,Addr.mk.injEq,and_true] at e5
 obtain ⟨rfl,rfl⟩:=e5
 have hns:=nxt_step (F:=F) (v:=F t) hy
 generalize T[kk]=zz at hy gk hns
 by_cases heq:F zz=F t
 ·rw [if_pos heq] at hns
  refine Acp ?_
  refine A6 (.q 0 (.q 1 (.q 2 (.q 3 (.q 4 (.q 5 (.q 6 (.q 7 (.q 8 (.q 9 (.q 10 (.q 11 (.q 13 (.l 12 .e (.q 14 (.q 15 .nil)))))))))))))))) [] rfl (by kernel_rfl) selZ ?_
  refine Ae2 ?_;refine D6 ?_;refine Ag7 ?_;refine Adj ?_;refine AI ?_;refine CF (CC rfl (hst zz) rfl rfl rdZ rfl rfl ?_);rintro _ rfl;refine DP ?_;refine Adg ?_;refine Ae8 ?_;refine Ae7 ?_;refine A2 ?_
  refine AT (kk+1) ⟨by omega,by omega,fun j s h1 h2 h3=>?_,by rw [← hns]; exact hk4⟩ (by omega) covZ selZ
  by_cases e:j=kk
  ·subst e
   rw [hy] at h3;rw [← Option.some.inj h3];exact heq
  ·exact hk3 j s h1 (by omega) h3
 rw [if_neg heq] at hns;rw [hns] at hk4;refine Acp ?_
 refine A6 (.q 0 (.q 1 (.q 2 (.q 3 (.q 4 (.q 5 (.q 6 (.q 7 (.q 8 (.q 9 (.q 10 (.q 11 (.q 13 (.l 12 .e (.q 14 (.q 15 .nil)))))))))))))))) [] rfl (by kernel_rfl) selZ ?_
 refine Ae2 ?_;refine D6 ?_;refine Ag7 ?_;refine Adj ?_;refine AI ?_;refine CF (CC rfl (hst zz) rfl rfl rdZ rfl rfl ?_);rintro _ rfl;refine C7 ?_;refine BG ?_;refine Af1 ?_;refine AM ?_
 generalize F t=sz at hFtb hcond hstp hk4 hneg hnext heq ⊢
 have hpb:pieceN sz≤15260:=by unfold pieceN; omega
 refine BA [1,2,7,8,9,10,12] (X:=Nat × Value × PH) (0,u1,χ1) (fun x=>x.1≤pieceN sz∧OwnS 99 5 x.2.1 (O ++ pieces (k:Int) t zz sz x.1).length ((O ++ pieces (k:Int) t zz sz x.1).flatMap encH) x.2.2) (fun x=>[(11,int (sz-65536*(x.1:Int))),(6,x.2.1)]) (fun x=>[x.2.2]) (fun x=>pieceN sz-x.1) pickZ ⟨by dsimp only; omega,by dsimp only; rw [pieces_zero,List.append_nil]; exact hO⟩ (by dsimp only; rw [show sz-65536*((0:Nat):Int)=sz by omega]; exact covZ) selZ ?_
 clear hO;rintro ⟨j,w2,χ2⟩ ⟨hj,hO⟩
 dsimp only at hj hO ⊢
 by_cases hpos:0<sz-65536*(j:Int)
 rotate_left
 ·have hje:=pieceN_end hj hpos
  subst hje
  have hPl:(O ++ pieces (k:Int) t zz sz (pieceN sz)).length=O.length+pieceN sz:=by rw [List.length_append,pieces_len]
  refine Aah ?_;refine B7 ?_;refine Aa7 ?_;refine Aa2 ?_
  refine AT (i+1,O ++ pieces (k:Int) t zz sz (pieceN sz),w2,χ2) ⟨by dsimp only; omega,hnn1,?_,by dsimp only; omega,hO⟩ (by dsimp only; omega) covZ selZ
  dsimp only
  rw [hnext]
  by_cases h0:0<sz
  ·rw [if_pos ⟨hcond h0,h0⟩,← hk4] at hstp
   rw [hstp,← List.append_assoc] at hS2
   exact ⟨S ++ [((t,zz),sz)],by rw [holdsT_app,hS1,List.append_assoc],hS2⟩
  ·rw [if_neg (fun h=>h0 h.2),List.nil_append] at hstp
   rw [hstp] at hS2
   have hp0:pieceN sz=0:=by unfold pieceN; omega
   rw [hp0,pieces_zero,List.append_nil];exact ⟨S,hS1,hS2⟩
 have hj1:=pieceN_lt hpos
 have hPl:(O ++ pieces (k:Int) t zz sz j).length=O.length+j:=by rw [List.length_append,pieces_len]
 refine Aah ?_;refine CT ?_;refine Aa1 ?_;refine Ac3 ?_;refine Abp ?_;refine BT ?_;refine Abq ?_;refine EX ?_;refine BY ?_;refine AZ ?_; rintro _ _ ⟨b,rfl,rfl⟩
 refine BH (BI (by_:=40) (s:=5) (news:=[int (k:Int),int t,int zz,int (min (sz-65536*(j:Int)) 65536),int 0]) rfl rfl rfl rfl rfl rfl rfl hO takeZ (cells_own memZ) rfl oneZ (by omega) (by simp only [maxLen]; omega) (by omega)) rfl rfl rfl ?_
 rintro u3 _ ⟨σ3,hO5,rfl⟩;refine Aaa ?_;refine Aax ?_;refine CP ?_;refine Aaa ?_
 refine AT (j+1,u3,σ3) ⟨by dsimp only; omega,?_⟩ (by dsimp only; omega) ?_ selZ
 ·dsimp only
  rw [pieces_snoc,← List.append_assoc,show (O ++ pieces (k:Int) t zz sz j ++ [(⟨(k:Int),t,zz,min (sz-65536*(j:Int)) 65536,0⟩:Hd)]).length=(O ++ pieces (k:Int) t zz sz j).length+1 from List.length_append,List.flatMap_append]
  exact hO5
 ·dsimp only
  rw [show sz-65536*((j+1:Nat):Int)=sz-65536*(j:Int)-65536 by omega]
  exact covZ
theorem bookings54_spec (ω:PH) (v:Value) (l:List Sh) (hv:ShAt ω v l) (hll:l.length≤1000000) (hok:∀ x∈l,0≤x.t∧x.t≤1099511627776) (hnd:(ticksS l).Nodup) :
  Makes Tryz.prog (fv 52) [v] [ω] (fun r σ=>∃ R:List Bk,OwnS 95 4 r R.length (R.flatMap encB) σ∧R.length≤l.length∧R.Nodup∧∀ b,b∈R↔IsRun (ticksS l) b):=by
 have hv2:=hv
 obtain ⟨q,cc,rfl,hr⟩:=hv.val encX_len
 have htb:∀ c t,(c,t)∈ticksS l→0≤t∧t≤1099511627776:=fun c t h=>by
  obtain ⟨x,hx,_,e⟩:=mem_ticks.1 h
  rw [← e];exact hok x hx
 refine spec_in (cap:=[]) Tryz.func52 rfl rfl Tryz.ntmps52 rfl envZ (fun N β=>?_)
 refine Aai ?_;refine Aa ?_;refine AZ ?_; rintro _ _ ⟨b,rfl,rfl⟩;refine Adt ?_
 revert b; intro bo
 refine BA [0] (X:=Nat × List Bk × Value × PH) (0,[],.slice (some ⟨bo,0,none⟩) 0 0,sng bo (.cells #[] 95 (0,0))) (fun x=>x.1≤l.length∧BksI l x.1 x.2.1∧OwnS 95 4 x.2.2.1 x.2.1.length (x.2.1.flatMap encB) x.2.2.2) (fun x=>[(4,int x.1),(3,x.2.2.1)]) (fun x=>[x.2.2.2]) (fun x=>l.length-x.1) pickZ ⟨by dsimp only; omega,BksI.start l,OwnS.empty⟩ covZ selZ ?_
 rintro ⟨k,O,u,σ⟩ ⟨hk,hI,hO⟩
 dsimp only at hk hI hO ⊢
 by_cases hlt:k<l.length
 rotate_left
 ·have hke:k=l.length:=by omega
  subst hke
  obtain ⟨a1,a2⟩:=hI.all
  refine Aci ?_;refine Aca ?_;exact AO (res1 rfl rfl) rsubZ selZ ⟨σ,⟨O,hO,hI.len,a1,a2⟩,rfl⟩
 have hx:=List.getElem?_eq_getElem hlt
 have htk:=ticks_at hx
 have hxb:=hok _ (List.getElem_mem hlt)
 have hOl:=hI.len
 obtain ⟨b6,o6,rfl,hrx,x0,x1,x2⟩:=shRow hr hx
 generalize l[k]=x at hx hrx x0 x1 x2 htk hxb
 obtain ⟨c,t,xn⟩:=x
 dsimp only at hrx x0 x1 x2 htk hxb
 have hmem:(c,t)∈ticksS l:=List.mem_of_getElem? htk
 refine Ad9 ?_
 refine A6 P1Z [] rfl (by kernel_rfl) selZ ?_
 refine Agk ?_;refine Ado ?_;refine B4 ?_;refine Adr ?_;refine Agc ?_;refine CP ?_;refine BC (has_spec ω _ l c (t-1) hv2 hll) rfl rfl rdZ rfl rfl ?_;rintro _ rfl
 by_cases hp:(c,t-1)∈ticksS l
 ·rw [decide_eq_true hp]
  refine Aag ?_;refine A8 rfl ?_;refine Ae7 ?_
  exact AT (k+1,O,u,σ) ⟨by dsimp only; omega,hI.skip htk hp,hO⟩ (by dsimp only; omega) covZ selZ
 rw [decide_eq_false hp];refine Aak ?_;refine Aca ?_;refine Aap ?_
 refine BA [0,3,4,5,6] (X:=Nat) 0 (fun j=>(∀ s,t≤s→s<t+j→(c,s)∈ticksS l)∧t+j≤1099511627777) (fun j=>[(7,int (t+(j:Int)))]) (fun _=>[σ]) (fun j=>(1099511627777-(t+(j:Int))).toNat) pickZ ⟨fun s h1 h2=>by omega,by omega⟩ (by dsimp only; rw [show t+((0:Nat):Int)=t by omega]; exact covZ) selZ ?_
 rintro j ⟨hJ,hjb⟩;refine Agc ?_;refine BC (has_spec ω _ l c (t+j) hv2 hll) rfl rfl rdZ rfl rfl ?_;rintro _ rfl
 by_cases hq:(c,t+(j:Int))∈ticksS l
 ·rw [decide_eq_true hq]
  have hqb:=(htb _ _ hq).2
  refine Aag ?_;refine Ae8 ?_;refine Ade ?_;refine Adv ?_;refine A2 ?_
  refine AT (j+1) ⟨fun s h1 h2=>?_,by omega⟩ (by omega) ?_ selZ
  ·by_cases e:s=t+j
   ·rw [e]; exact hq
   ·exact hJ s h1 (by omega)
  ·rw [show t+((j+1:Nat):Int)=t+j+1 by omega]
   exact covZ
 rw [decide_eq_false hq]
 have hj0:0<j:=by
  rcases Nat.eq_zero_or_pos j with h|h
  ·subst h
   exact absurd (by rw [show t+((0:Nat):Int)=t by omega]; exact hmem) hq
  ·exact h
 have hrun:IsRun (ticksS l) ⟨c,t,t+j,0⟩:=⟨rfl,by dsimp only; omega,hJ,hp,hq⟩
 refine Aa7 ?_;refine Ac3 ?_;refine Aao ?_;refine BY ?_;refine AZ ?_; rintro _ _ ⟨b,rfl,rfl⟩
 refine BH (BI (by_:=32) (s:=4) (news:=[int c,int t,int (t+(j:Int)),int 0]) rfl rfl rfl rfl rfl rfl rfl hO takeZ (cells_own memZ) rfl oneZ (by omega) (by simp only [maxLen]; omega) (by omega)) rfl rfl rfl ?_
 rintro u1 _ ⟨σ1,hO1,rfl⟩;refine Adb ?_
 refine AT (k+1,O ++ [⟨c,t,t+j,0⟩],u1,σ1) ⟨by dsimp only; omega,hI.push hnd htk hrun,?_⟩ (by dsimp only; omega) covZ selZ
 dsimp only
 rw [List.length_append,List.flatMap_append];exact hO1
theorem chkH_ok {qs:List Int} {cs:List Ct} {l:List Hd} (h:chkH qs cs l=0):(∀ x∈l,okHd qs.length x)∧l.length≤512∧(1≤qs.length∧qs.length≤16):=by
 unfold chkH at h
 split at h
 ·omega
 ·rename_i hp
  split at h
  ·omega
  ·split at h
   ·rename_i h2; exact absurd h h2
   ·rename_i h1 h2
    have h3:firstE (hdE qs.length l) l.length=0:=Decidable.not_not.1 h2
    have:=hdE_ok h3
    rw [List.take_length] at this
    exact ⟨this,by omega,(chkPl_quo (Decidable.not_not.1 hp)).1⟩
theorem equalV_spec (ρ τ:PH) (v w:Value) (l m:List Lv) (hv:LvAt ρ v l) (hw:LvAt τ w m) (hl:l.length≤9223372036854775807) :
  Ans Tryz.prog (fv 27) [v,w] [ρ,τ] (fun r=>r=.bool (decide (l=m))):=by
 obtain ⟨q,c,rfl,hr⟩:=hv.val encV_len
 obtain ⟨q',c',rfl,hr'⟩:=hw.val encV_len
 refine spec_in (cap:=[]) Tryz.func27 rfl rfl Tryz.ntmps27 rfl envZ (fun N β=>?_)
 by_cases hlen:l.length=m.length
 rotate_left
 ·refine AC ?_
  refine AA ?_;refine Aaa ?_;refine Aew ?_;refine CJ ?_;refine Aba ?_
  exact AO (res1 rfl rfl) rsubZ selZ ⟨rfl,by rw [decide_eq_false (fun h=>hlen (by rw [h]))]⟩
 refine Ahh ?_;refine Acm ?_
 refine BA [0,1,12] (0:Nat) (fun k=>k≤l.length∧l.take k=m.take k) (fun k=>[(13,int k)]) (fun _=>[]) (fun k=>l.length-k) pickZ ⟨by omega,by simp⟩ covZ selZ ?_
 rintro k ⟨hk,hI⟩
 by_cases hlt:k<l.length
 ·have hx:=List.getElem?_eq_getElem hlt
  have hx':=List.getElem?_eq_getElem (show k<m.length by omega)
  obtain ⟨b1,o1,rfl,hRd1,_⟩:=lvRow hr hx
  obtain ⟨b2,o2,rfl,hRd2,_⟩:=lvRow hr' hx'
  refine Ac6 ?_;refine Abl ?_
  refine A6 P7Z [] rfl (by kernel_rfl) Sel.nil ?_
  refine Ae ?_;refine Ae ?_
  focus ((refine' C1 rfl _ rfl rfl rfl rfl _; rotate_left; (apply FQ [l[k].a,l[k].v] [m[k].a,m[k].v] (n:=2); exact rfl; exact rfl; kernel_rfl; kernel_rfl; kernel_rfl; exact rfl; exact rfl)))
  refine A7 ?_
  by_cases he:l[k]=m[k]
  ·rw [he]
   rw [show (!decide ([m[k].a,m[k].v]=[m[k].a,m[k].v]))=false by simp]
   skip
   refine Abd ?_;refine Abf ?_
   refine AT (k+1) ⟨by omega,?_⟩ (by omega) covZ selZ
   rw [List.take_succ_eq_append_getElem hlt,List.take_succ_eq_append_getElem (show k<m.length by omega),hI,he]
  ·have hne:¬ ([l[k].a,l[k].v]=[m[k].a,m[k].v]):=fun h=>he (by
    simp only [List.cons.injEq,and_true] at h
    generalize l[k]=x at *
    generalize m[k]=y at *
    obtain ⟨x1,x2⟩:=x
    obtain ⟨y1,y2⟩:=y
    simp only at h
    rw [h.1,h.2])
   rw [show (!decide ([l[k].a,l[k].v]=[m[k].a,m[k].v]))=true by simp only [decide_eq_false hne,Bool.not_false]]
   skip
   refine AL rfl ?_;refine Aai ?_
   exact AO (res1 rfl rfl) rsubZ selZ ⟨rfl,by rw [decide_eq_false (fun h=>he (by subst h; rfl))]⟩
 ·rw [List.take_of_length_le (by omega),List.take_of_length_le (by omega)] at hI
  refine Acd ?_;refine Aai ?_
  exact AO (res1 rfl rfl) rsubZ selZ ⟨rfl,by rw [decide_eq_true hI]⟩
end Go.Proofs.YtjehnjhkcmobcaaGreat
namespace Go.Eng
variable {C:Cx} {D:List Deferred} {R H:List PH} {L:Env} {K:List It}
section
variable {dst:Option Tmp} {ty:TypeId} {pos:String} {aft:Array Edge} {g:Option (Nat × Bool)}
end
end Go.Eng
namespace Go.Eng
variable {C:Cx} {D:List Deferred} {R H:List PH} {L:Env} {K:List It}
section
variable {dst:Option Tmp} {ty:TypeId} {pos:String} {aft:Array Edge} {g:Option (Nat × Bool)}
end
end Go.Eng
namespace Go.Proofs.YtjehnjhkcmobcaaGreat
open Go.Eng Go.Step
set_option maxRecDepth 100000
set_option maxHeartbeats 64000000
theorem ones_H:∀ (l:List Hd),∀ u∈l.flatMap encH,u.oneCell'=true:=fun l u hu=>by
 obtain ⟨x,_,hx⟩:=List.mem_flatMap.1 hu
 simp only [encH,List.mem_cons,List.not_mem_nil,or_false] at hx
 rcases hx with rfl|rfl|rfl|rfl|rfl <;> rfl
theorem same28_spec (ρ τ:PH) (v w:Value) (l m:List Hd) (hv:HdAt ρ v l) (hw:HdAt τ w m) (hl:l.length≤9223372036854775807) :
  Ans Tryz.prog (fv 58) [v,w] [ρ,τ] (fun r=>r=.bool (decide (l=m))):=by
 obtain ⟨q,c,rfl,hr⟩:=hv.val encH_len
 obtain ⟨q',c',rfl,hr'⟩:=hw.val encH_len
 refine spec_in (cap:=[]) Tryz.func58 rfl rfl Tryz.ntmps58 rfl envZ (fun N β=>?_)
 by_cases hlen:l.length=m.length
 rotate_left
 ·refine AC ?_
  refine AA ?_;refine Aaa ?_;refine Aew ?_;refine CJ ?_;refine Aba ?_
  exact AO (res1 rfl rfl) rsubZ selZ ⟨rfl,by rw [decide_eq_false (fun h=>hlen (by rw [h]))]⟩
 refine Ahh ?_;refine Acv ?_
 refine BA [0,1] (0:Nat) (fun k=>k≤l.length∧l.take k=m.take k) (fun k=>[(5,int k)]) (fun _=>[]) (fun k=>l.length-k) pickZ ⟨by omega,by simp⟩ covZ selZ ?_
 rintro k ⟨hk,hI⟩
 by_cases hlt:k<l.length
 ·have hx:=List.getElem?_eq_getElem hlt
  have hx':=List.getElem?_eq_getElem (show k<m.length by omega)
  obtain ⟨b1,o1,rfl,hRd1,_⟩:=hdRow5 hr hx
  obtain ⟨b2,o2,rfl,hRd2,_⟩:=hdRow5 hr' hx'
  refine Ad9 ?_
  refine A6 P7Z [] rfl (by kernel_rfl) Sel.nil ?_
  refine Ae ?_;refine Ae ?_
  focus ((refine' C1 rfl _ rfl rfl rfl rfl _; rotate_left; (apply FQ [l[k].n,l[k].a,l[k].b,l[k].s,l[k].k] [m[k].n,m[k].a,m[k].b,m[k].s,m[k].k] (n:=5); exact rfl; exact rfl; kernel_rfl; kernel_rfl; kernel_rfl; exact rfl; exact rfl)))
  refine A7 ?_
  by_cases he:l[k]=m[k]
  ·rw [he]
   rw [show (!decide ([m[k].n,m[k].a,m[k].b,m[k].s,m[k].k]=[m[k].n,m[k].a,m[k].b,m[k].s,m[k].k]))=false by simp]
   skip
   refine Abd ?_;refine Aa2 ?_
   refine AT (k+1) ⟨by omega,?_⟩ (by omega) covZ selZ
   rw [List.take_succ_eq_append_getElem hlt,List.take_succ_eq_append_getElem (show k<m.length by omega),hI,he]
  ·have hne:¬ ([l[k].n,l[k].a,l[k].b,l[k].s,l[k].k]=[m[k].n,m[k].a,m[k].b,m[k].s,m[k].k]):=fun h=>he (by
    simp only [List.cons.injEq,and_true] at h
    generalize l[k]=x at *
    generalize m[k]=y at *
    obtain ⟨x1,x2,x3,x4,x5⟩:=x
    obtain ⟨y1,y2,y3,y4,y5⟩:=y
    simp only at h
    rw [h.1,h.2.1,h.2.2.1,h.2.2.2.1,h.2.2.2.2])
   rw [show (!decide ([l[k].n,l[k].a,l[k].b,l[k].s,l[k].k]=[m[k].n,m[k].a,m[k].b,m[k].s,m[k].k]))=true by simp only [decide_eq_false hne,Bool.not_false]]
   skip
   refine AL rfl ?_;refine Aai ?_
   exact AO (res1 rfl rfl) rsubZ selZ ⟨rfl,by rw [decide_eq_false (fun h=>he (by subst h; rfl))]⟩
 ·rw [List.take_of_length_le (by omega),List.take_of_length_le (by omega)] at hI
  refine Aha ?_
  exact AO (res1 rfl rfl) rsubZ selZ ⟨rfl,by rw [decide_eq_true hI]⟩
/- the reference's place of a hold -/
theorem takeW_next {l:List Hd} {h:Hd} {k:Nat} (hp:∀ x∈l.take k,cmpHd x h≤0) (hs:∀ x,l[k]?=some x→¬ cmpHd x h≤0):insH l h=insL l k h:=by
 have e:insW (fun x=>decide (cmpHd x h≤0)) (l.take k ++ l.drop k) h=l.take k ++ insW (fun x=>decide (cmpHd x h≤0)) (l.drop k) h:=insW_pre _ _ (fun x hx=>by simpa using hp x hx)
 rw [List.take_append_drop] at e;unfold insH;rw [e];unfold insL
 congr 1
 have:∀ m:List Hd,(∀ x,m.head?=some x→¬ cmpHd x h≤0)→insW (fun x=>decide (cmpHd x h≤0)) m h=h::m:=by
  intro m hm
  cases m with
  | nil=>rfl
  | cons x m =>
   have:=hm x rfl
   unfold insW
   rw [List.takeWhile_cons_of_neg (by simpa using this),List.dropWhile_cons_of_neg (by simpa using this)]
   rfl
 exact this _ (fun x hx=>hs x (by rw [List.head?_drop] at hx; exact hx))
theorem refInsert_spec (ρ:PH) (v:Value) (l:List Hd) (h:Hd) (hv:HdAt ρ v l) (hcap:CapOK v) (hl:l.length≤1000) :
  Makes Tryz.prog (fv 118) [v,.agg #[int h.n,int h.a,int h.b,int h.s,int h.k]] [ρ] (fun r σ=>OwnS 99 5 r (insH l h).length ((insH l h).flatMap encH) σ):=by
 have hv2:=hv
 obtain ⟨q,c,rfl,hr⟩:=hv.val encH_len
 refine spec_in (cap:=[]) Tryz.func118 rfl rfl Tryz.ntmps118 rfl envZ (fun N β=>?_)
 refine Aa ?_;refine BH (BO rfl) rfl rfl rfl ?_;rintro _ _ ⟨b3,rfl,rfl⟩;refine AW (ρ:=sng b3 _) takeZ ?_
 have c0:=rdB b3 99 [int h.n,int h.a,int h.b,int h.s,int h.k]
 refine Afa ?_;refine AZ ?_; rintro _ _ ⟨b,rfl,rfl⟩;refine Aaa ?_;refine Aai ?_;refine Aap ?_
 revert b; intro bo
 refine BA [0,3] (X:=Nat × (Value × PH)) (0,(.slice (some ⟨bo,0,none⟩) 0 0,sng bo (.cells #[] 99 (0,0)))) (fun x=>x.1≤l.length∧(∀ y∈l.take x.1,cmpHd y h≤0)∧OwnS 99 5 x.2.1 x.1 ((l.take x.1).flatMap encH) x.2.2) (fun x=>[(6,int x.1),(5,x.2.1)]) (fun x=>[x.2.2]) (fun x=>l.length-x.1) pickZ ⟨by dsimp only; omega,by simp,OwnS.empty⟩ covZ selZ ?_
 rintro ⟨k,u,σ⟩ ⟨hk,hp,hO⟩
 dsimp only at hk hp hO ⊢
 by_cases hlt:k<l.length
 ·have hx:=List.getElem?_eq_getElem hlt
  have htk:=List.take_succ_eq_append_getElem hlt
  obtain ⟨b1,o1,rfl,hRd1,g0,g1,g2,g3,g4⟩:=hdRow5 hr hx
  generalize l[k]=x at hRd1 g0 g1 g2 g3 g4 hx htk
  have hle:=less_spec h x
  refine Acp ?_
  refine A6 (.q 0 (.q 1 (.q 2 (.q 3 (.q 4 (.q 5 (.q 6 (.q 7 (.q 8 (.q 9 (.l 10 .e (.q 11 (.q 12 .nil))))))))))))) [] rfl (by kernel_rfl) Sel.nil ?_
  refine Ae2 ?_;refine D6 ?_;refine AI ?_;refine BJ ?_;refine Ae ?_;refine CF (CC rfl hle rfl rfl rdZ rfl rfl ?_);rintro _ rfl
  have hneg:=cmpHd_neg h x
  by_cases hc:cmpHd h x<0
  ·rw [decide_eq_true hc]
   have hstop:∀ y,l[k]?=some y→¬ cmpHd y h≤0:=fun y hy=>by rw [hx] at hy; obtain rfl:=Option.some.inj hy; omega
   refine C8 ?_;refine BG ?_;refine Af1 ?_;refine Aac ?_;refine AV ?_;refine AZ ?_; rintro _ _ ⟨b,rfl,rfl⟩
   refine BH (BI (by_:=40) (s:=5) (news:=[int h.n,int h.a,int h.b,int h.s,int h.k]) rfl rfl rfl rfl rfl rfl rfl hO takeZ (cells_own memZ) rfl oneZ (by omega) (by simp only [maxLen]; omega) (by omega)) rfl rfl rfl ?_
   rintro u1 _ ⟨σ1,hO1,rfl⟩;refine Abr ?_;refine Aao ?_;refine F0 ?_
   refine BH (C4 (by_:=40) (s:=5) (σ:=ρ) (w0:=.slice (cutP (some ⟨b1,o1,none⟩) c k 5) (l.length-k) (c-k)) (news:=(l.drop k).flatMap encH) (m:=(l.drop k).length) rfl rfl rfl rfl rfl rfl rfl hO1 takeZ (slE_lo encH_len hv2 hcap.le hk rfl) (fun b o h=>cellsR h memZ) (ones_H _) (by rw [List.length_drop]; simp only [maxLen]; omega) (by rw [List.length_drop]; omega)) rfl rfl rfl ?_
   rintro u2 _ ⟨σ2,hO2,rfl⟩;refine Aaa ?_;refine AO (res1 rfl rfl) rsubZ selZ ⟨σ2,?_,rfl⟩;rw [takeW_next hp hstop,insL_len];unfold insL;rw [List.flatMap_append,List.flatMap_cons,← List.append_assoc]
   have e:k+1+(l.drop k).length=l.length+1:=by rw [List.length_drop]; omega
   rw [e] at hO2;exact hO2
  ·rw [decide_eq_false hc]
   refine C8 ?_;refine Adg ?_;refine Ae8 ?_;refine Aev ?_;refine Abm ?_;refine AZ ?_; rintro _ _ ⟨b,rfl,rfl⟩
   refine BH (BI (by_:=40) (s:=5) (news:=[int x.n,int x.a,int x.b,int x.s,int x.k]) rfl rfl rfl rfl rfl rfl rfl hO takeZ (cells_own memZ) rfl oneZ (by omega) (by simp only [maxLen]; omega) (by omega)) rfl rfl rfl ?_
   rintro u1 _ ⟨σ1,hO1,rfl⟩;refine Aaa ?_;refine Ae7 ?_;refine A2 ?_
   refine AT (k+1,(u1,σ1)) ⟨by dsimp only; omega,?_,?_⟩ (by dsimp only; omega) covZ selZ
   ·dsimp only
    rw [htk]
    intro y hy
    rcases List.mem_append.1 hy with hy|hy
    ·exact hp y hy
    ·simp only [List.mem_singleton] at hy; subst hy; omega
   ·dsimp only
    rw [htk,List.flatMap_append];exact hO1
 ·have hke:k=l.length:=by omega
  have hstop:∀ y,l[k]?=some y→¬ cmpHd y h≤0:=fun y hy=>by rw [List.getElem?_eq_none (by omega)] at hy; simp at hy
  refine Acp ?_
  refine A6 P3Z [] rfl (by kernel_rfl) Sel.nil ?_
  refine Ae2 ?_;refine DK ?_;refine AI ?_;refine Abb ?_;refine Aae ?_;refine Ad ?_;refine Af1 ?_;refine Aac ?_;refine AV ?_;refine AZ ?_; rintro _ _ ⟨b,rfl,rfl⟩
  refine BH (BI (by_:=40) (s:=5) (news:=[int h.n,int h.a,int h.b,int h.s,int h.k]) rfl rfl rfl rfl rfl rfl rfl hO takeZ (cells_own memZ) rfl oneZ (by omega) (by simp only [maxLen]; omega) (by omega)) rfl rfl rfl ?_
  rintro u1 _ ⟨σ1,hO1,rfl⟩;refine Abr ?_;refine Aao ?_;refine F0 ?_
  refine BH (C4 (by_:=40) (s:=5) (σ:=ρ) (w0:=.slice (cutP q c k 5) (l.length-k) (c-k)) (news:=(l.drop k).flatMap encH) (m:=(l.drop k).length) rfl rfl rfl rfl rfl rfl rfl hO1 takeZ (slE_lo encH_len hv2 hcap.le hk rfl) (fun b o h=>cellsR h memZ) (ones_H _) (by rw [List.length_drop]; simp only [maxLen]; omega) (by rw [List.length_drop]; omega)) rfl rfl rfl ?_
  rintro u2 _ ⟨σ2,hO2,rfl⟩;refine Aaa ?_;refine AO (res1 rfl rfl) rsubZ selZ ⟨σ2,?_,rfl⟩;rw [takeW_next hp hstop,insL_len];unfold insL;rw [List.flatMap_append,List.flatMap_cons,← List.append_assoc]
  have e:k+1+(l.drop k).length=l.length+1:=by rw [List.length_drop]; omega
  rw [e] at hO2;exact hO2
theorem valid_ok {qs:List Int} {cs:List Ct} {bs:List Bk} {hs:List Hd} {d:Dm} (h:validT qs cs bs hs d=true):(∀ c∈cs,chkCt c=0∧c.f<qs.length∧c.t<qs.length)∧bs.length≤512∧(∀ x∈hs,okHd qs.length x)∧hs.length≤512∧(1≤qs.length∧qs.length≤16)∧(∀ (j:Nat) (q:Int),qs[j]?=some q→0≤q∧q≤1073741824)∧okDm qs.length d∧cs.length≤64:=by
 obtain ⟨h1,h2⟩:=of_decide_eq_true h
 obtain ⟨p,b,hh⟩:=chkT_ok h1
 obtain ⟨k1,k2⟩:=chkPl_ct p
 obtain ⟨k3,k4⟩:=chkPl_quo p
 have k5:=chkB_ok b
 have k6:(∀ x∈hs,okHd qs.length x)∧hs.length≤512:=by
  unfold chkH at hh
  rw [if_neg (by simpa using p)] at hh
  by_cases c1:512<hs.length
  ·rw [if_pos c1] at hh; omega
  rw [if_neg c1] at hh
  by_cases c2:firstE (hdE qs.length hs) hs.length=0
  ·have:=hdE_ok c2
   rw [List.take_length] at this
   exact ⟨this,by omega⟩
  ·rw [if_pos c2] at hh; exact absurd hh c2
 exact ⟨k2,k5.1,k6.1,k6.2,k3,k4,h2,k1⟩
end Go.Proofs.YtjehnjhkcmobcaaGreat
namespace Go.Step
open Go.Eng
def placesN (d:Dm) (n:Nat) (t:Int):List (Int × Int):=(rngI d.r t).map (fun u=>((n:Int),u))
def placesA (d:Dm):Nat→List (Int × Int)
  | 0=>[]
  | n+1=>placesA d n ++ placesN d n (d.e+1)
theorem placesN_len (d:Dm) (n:Nat) (t:Int):(placesN d n t).length=(t-d.r).toNat:=by unfold placesN; rw [List.length_map,rngI_len]
theorem placesA_len {d:Dm} (h:d.r≤d.e):∀ m:Nat,((placesA d m).length:Int)=m*wd d
  | 0=>by simp [placesA]
  | m+1=>by
    have ih:=placesA_len h m
    unfold placesA;rw [List.length_append,placesN_len,Int.natCast_add,ih,Int.natCast_add,Int.add_mul];unfold wd;omega
theorem places_at {d:Dm} (h:d.r≤d.e) {k:Nat} {t:Int} (ht:d.r≤t):((placesA d k ++ placesN d k t).length:Int)=vtx d k t:=by
  rw [List.length_append,placesN_len,Int.natCast_add,placesA_len h];unfold vtx;omega
theorem placesN_snoc {d:Dm} {k:Nat} {t:Int} (ht:d.r≤t):placesN d k (t+1)=placesN d k t ++ [((k:Int),t)]:=by
  unfold placesN;rw [rngI_snoc ht,List.map_append]
  rfl
theorem placesN_nil (d:Dm) (k:Nat):placesN d k d.r=[]:=by
  unfold placesN;rw [rngI_nil (Int.le_refl _)]
  rfl
theorem placesA_get {d:Dm} (h:d.r≤d.e) {n:Nat} {t:Int} (h1:d.r≤t) (h2:t≤d.e):∀ {m:Nat},n<m→(placesA d m)[(vtx d n t).toNat]?=some ((n:Int),t)
  | 0,hm=>by omega
  | m+1,hm=>by
    have hl:=placesA_len h m
    have hp:0≤vtx d n t:=by
      unfold vtx
      have:=Int.mul_nonneg (show 0≤(n:Int) by omega) (show 0≤wd d by unfold wd; omega)
      omega
    unfold placesA
    by_cases hn:n<m
    · have hlt:=(vtx_lt (d:=d) (n:=n) (t:=t) (N:=m) (by omega) (by omega) h1 h2).2
      rw [List.getElem?_append_left (by omega)]
      exact placesA_get h h1 h2 hn
    · obtain rfl:n=m:=by omega
      have hv:vtx d n t=n*wd d+(t-d.r):=rfl
      rw [List.getElem?_append_right (by omega)]
      have e:(vtx d n t).toNat-(placesA d n).length=(t-d.r).toNat:=by omega
      rw [e];unfold placesN
      rw [List.getElem?_map,rngI_get (by omega)]
      simp only [Option.map_some,Option.some.injEq,Prod.mk.injEq,true_and];omega
theorem tickL_len (r e g:Int) (F:List (Int × Int)) {k:Nat} {x:Int × Int} (h:F[k]?=some x):(tickL r e g (F.take (k+1))).length=(tickL r e g (F.take k)).length+(min x.2 (e-g)-max x.1 r).toNat:=by
  obtain ⟨hk,rfl⟩:=List.getElem?_eq_some_iff.1 h
  unfold tickL;rw [List.take_succ_eq_append_getElem hk,List.flatMap_append,List.length_append]
  congr 1
  simp [tickS,rngI_len]
theorem tickL_at (r e g:Int) (F:List (Int × Int)) {k:Nat} {x:Int × Int} (h:F[k]?=some x) {t:Int} (h1:max x.1 r≤t) (h2:t<min x.2 (e-g)):(tickL r e g F)[(tickL r e g (F.take k)).length+(t-max x.1 r).toNat]?=some t:=by
  obtain ⟨hk,rfl⟩:=List.getElem?_eq_some_iff.1 h
  have hF:tickL r e g F=tickL r e g (F.take k) ++ (tickS r e g F[k] ++ tickL r e g (F.drop (k+1))):=by
    have h3:F=F.take k ++ F[k]::F.drop (k+1):=by rw [← List.drop_eq_getElem_cons hk,List.take_append_drop]
    conv=>lhs; rw [h3]
    unfold tickL;rw [List.flatMap_append,List.flatMap_cons]
  rw [hF,List.getElem?_append_right (by omega),Nat.add_sub_cancel_left,List.getElem?_append_left (by unfold tickS; rw [rngI_len]; omega)]
  unfold tickS
  rw [rngI_get (by omega)]
  congr 1
  omega
def NumAt (d:Dm) (k t:Int) (M:List (List Int × Value)):Prop:=(∀ e∈M,e.1.length=2)∧∀ n u:Int,mgetS [n,u] M=if (0≤n∧d.r≤u∧u≤d.e)∧(n<k∨(n=k∧u<t)) then some (int (vtx d n u)) else none
theorem NumAt.nil (d:Dm):NumAt d 0 d.r []:=⟨by simp,fun n u=>by rw [if_neg (by omega)]; rfl⟩
theorem NumAt.row {d:Dm} {k t:Int} {M:List (List Int × Value)} (h:NumAt d k t M) (ht:d.e<t):NumAt d (k+1) d.r M:=⟨h.1,fun n u=>by
  rw [h.2]
  by_cases c:(0≤n∧d.r≤u∧u≤d.e)∧(n<k∨(n=k∧u<t))
  · rw [if_pos c,if_pos (by omega)]
  · rw [if_neg c,if_neg (by omega)]⟩
theorem NumAt.add {d:Dm} {k t:Int} {M:List (List Int × Value)} (h:NumAt d k t M) (hk:0≤k) (h1:d.r≤t) (h2:t≤d.e):NumAt d k (t+1) (msetS [k,t] (int (vtx d k t)) M):=⟨msetS_len rfl h.1,fun n u=>by
  rw [mgetS_mset]
  by_cases c:[n,u]=[k,t]
  · rw [if_pos c]
    simp only [List.cons.injEq,and_true] at c
    obtain ⟨rfl,rfl⟩:=c
    rw [if_pos (by omega)]
  · rw [if_neg c,h.2]
    have c2:¬ (n=k∧u=t):=fun h=>c (by rw [h.1,h.2])
    by_cases c3:(0≤n∧d.r≤u∧u≤d.e)∧(n<k∨(n=k∧u<t))
    · rw [if_pos c3,if_pos (by omega)]
    · rw [if_neg c3,if_neg (by omega)]⟩
end Go.Step
namespace Go.Eng
variable {C:Cx} {R H:List PH} {L:Env} {dst:Option Tmp} {ty:TypeId} {pos:String} {aft:Array Edge} {g:Option (Nat × Bool)}
theorem G7 {x y:Operand} {t e:TypeId} {b o n i:Nat} {k:IntKind} (h:evalE L x=some (.pointer (some ⟨b,o,none⟩))) (h2:evalE L y=some (.int k (i:Int))) (ht:C.P.underlying t=some (.array n e)) (hs:szP C.P e=some 1) (hn:i<n) :
    Quiet C R H L ⟨dst,.indexAddr t x y,ty,pos,aft,g⟩ (.pointer (some ⟨b,o+i,none⟩)):=
  ⟨by intro c; simp,fun a w hx _=>by
    simp [execOp,hx x (by simp [Op.operands]) _ h,hx y (by simp [Op.operands]) _ h2,Instr.indexAt,Instr.sureAddr,asIntOf,run_underlying ht,hn,run_sizeOf hs,Addr.add_lit]⟩
theorem HP {x y:Operand} {t e:TypeId} {b o n:Nat} {k:IntKind} (h:evalE L x=some (.pointer (some ⟨b,o,none⟩))) (h2:evalE L y=some (.int k 0)) (ht:C.P.underlying t=some (.array n e)) (hs:szP C.P e=some 1) (hn:0<n) :
    Quiet C R H L ⟨dst,.indexAddr t x y,ty,pos,aft,g⟩ (.pointer (some ⟨b,o,none⟩)):=G7 (i:=0) h h2 ht hs hn
theorem HQ {x y:Operand} {t e:TypeId} {b o n:Nat} {k:IntKind} (h:evalE L x=some (.pointer (some ⟨b,o,none⟩))) (h2:evalE L y=some (.int k 1)) (ht:C.P.underlying t=some (.array n e)) (hs:szP C.P e=some 1) (hn:1<n) :
    Quiet C R H L ⟨dst,.indexAddr t x y,ty,pos,aft,g⟩ (.pointer (some ⟨b,o+1,none⟩)):=G7 (i:=1) h h2 ht hs hn
theorem EE {x y:Operand} {t e:TypeId} {z0 z1 v0 v1:Value} (h:evalE L x=some v0) (h2:evalE L y=some v1) (ht:C.P.underlying t=some (.array 2 e)) (hs:szP C.P e=some 1) (hz:zeroP C.P t=some (.agg #[z0,z1])) (o0:v0.oneCell'=true) (o1:v1.oneCell'=true) :
    Quiet C R H L ⟨dst,.build t #[(0,x),(1,y)],ty,pos,aft,g⟩ (.agg #[v0,v1]):=
  ⟨by intro c; simp,fun a w hx _=>by
    have c0:v0.cells = #[v0]:=by cases v0 <;> first|rfl|simp [Value.oneCell'] at o0
    have c1:v1.cells = #[v1]:=by cases v1 <;> first|rfl|simp [Value.oneCell'] at o1
    have cz:(Value.agg #[z0,z1]).cells = #[z0,z1]:=rfl
    simp [execOp,hx x (by simp [Op.operands]) _ h,hx y (by simp [Op.operands]) _ h2,Instr.build,run_zeroValue hz,run_underlying ht,run_sizeOf hs,cz,Instr.fill,c0,c1]⟩
end Go.Eng
namespace Go.Eng
variable {C:Cx} {R H:List PH} {L:Env}
def placesP (P:Program):List Field→Option (List (Nat × Nat))
  | []=>some []
  | f::fs=>match szP P f.type,placesP P fs with
    | some n,some r=>some ((f.offset,n)::r)
    | _,_=>none
def evalPs (L:Env):List (Nat × Operand)→Option (List (Nat × Value))
  | []=>some []
  | (i,x)::ps=>match evalE L x,evalPs L ps with
    | some v,some r=>some ((i,v)::r)
    | _,_=>none
def fillL (pl:List (Nat × Nat)):List Value→List (Nat × Value)→Option (List Value)
  | zs,[]=>some zs
  | zs,(i,v)::r=>match pl[i]? with
    | none=>none
    | some (off,size)=>if v.cells.size=size∧off+size≤zs.length then fillL pl (zs.take off ++ (v.cells.toList ++ zs.drop (off+size))) r else none
theorem fillL_eq {pl:List (Nat × Nat)}:∀ {pvs:List (Nat × Value)} {zs out:List Value},fillL pl zs pvs=some out→Instr.fill (fun i=>pl[i]?) zs.toArray pvs=some out.toArray
  | [],zs,out,h=>by simp [fillL] at h; subst h; rfl
  | (i,v)::r,zs,out,h=>by
    unfold fillL at h;unfold Instr.fill
    split at h
    · simp at h
    · rename_i off size e
      rw [e]
      split at h
      · rename_i hc
        have ih:=fillL_eq h
        have hs:=splice_fold v.cells.toList 0 off zs.toArray (by simp; omega)
        simp only
        rw [if_neg (by simp; omega)]
        rw [← ih]
        congr 1
        apply Array.ext'
        simpa [← Array.toList_zipIdx,← hc.1] using hs
      · simp at h
theorem evalPs_eq {a:Act}:∀ {ps:List (Nat × Operand)} {pvs:List (Nat × Value)},evalPs L ps=some pvs→(∀ x∈ps.map (·.2),OnE L a x)→ps.map (fun (x:Nat × Operand)=>(x.1,a.eval x.2))=pvs
  | [],pvs,h,_=>by simp [evalPs] at h; subst h; rfl
  | (i,x)::ps,pvs,h,hx=>by
    unfold evalPs at h
    split at h
    · rename_i v r e1 e2
      simp at h; subst h
      rw [List.map_cons,evalPs_eq e2 (fun y hy=>hx y (by simp at hy ⊢; exact .inr hy)),hx x (by simp) v e1]
    · simp at h
theorem placesP_run {P:Program}:∀ (fs:List Field) (pl:List (Nat × Nat)) (w:World),placesP P fs=some pl→(fs.mapM (fun f=>Prod.mk f.offset <$> sizeOf f.type:Field→Sem (Nat × Nat))).run P w=.ok pl w
  | [],pl,w,h=>by simp [placesP] at h; subst h; simp
  | f::fs,pl,w,h=>by
    unfold placesP at h
    split at h
    · rename_i n r e1 e2
      simp at h; subst h
      simp [List.mapM_cons,run_sizeOf e1,placesP_run fs r w e2]
    · simp at h
theorem BW {dst:Option Tmp} {ty:TypeId} {pos:String} {aft:Array Edge} {g:Option (Nat × Bool)} {t:TypeId} {ps:List (Nat × Operand)} {fs:List Field} {pl:List (Nat × Nat)} {pvs:List (Nat × Value)} {zs out:List Value}
    (hu:C.P.underlying t=some (.struct fs.toArray)) (hz:zeroP C.P t=some (.agg zs.toArray)) (hpl:placesP C.P fs=some pl) (hv:evalPs L ps=some pvs) (ho:fillL pl zs pvs=some out) :
    Quiet C R H L ⟨dst,.build t ps.toArray,ty,pos,aft,g⟩ (.agg out.toArray):=
  ⟨by intro c; simp,fun a w hxx _=>by
    have h1:=evalPs_eq (a:=a) hv (fun x hx=>hxx x (by simp [Op.operands] at hx ⊢; exact hx))
    have h2:=placesP_run fs pl w hpl
    have h3:=fillL_eq ho
    simp only [execOp,Instr.build]
    simp [run_zeroValue hz,Value.cells,run_underlying hu,h1,h2,h3]⟩
end Go.Eng
namespace Go.Proofs.YtjehnjhkcmobcaaGreat
open Go.Eng Go.Step
set_option maxRecDepth 100000
set_option maxHeartbeats 64000000
theorem vok {qs:List Int} {cs:List Ct} {bs:List Bk} {hs:List Hd} {d:Dm} (h:validT qs cs bs hs d=true):VOk qs cs bs hs d:=by
 obtain ⟨hcs0,hbl,hok,hhl,hql,hquo,hdm,hcsl⟩:=valid_ok h
 obtain ⟨_,hb,hh⟩:=chkT_ok (of_decide_eq_true h).1
 exact ⟨fun c hc=>by
  have h1:=chkCt_all (hcs0 c hc).1
  have h2:=(hcs0 c hc).2
  exact ⟨⟨h1.1.1,by omega⟩,⟨h1.2.1.1,by omega⟩,h1.2.2.1,h1.2.2.2.1,h1.2.2.2.2⟩,hbl,(chkB_ok hb).2,hok,hhl,fit_of hh,hql,hquo,hdm,hcsl⟩
theorem vokB {qs:List Int} {cs:List Ct} {bs:List Bk} {hs:List Hd} {d:Dm} (h:validT qs cs bs hs d=true):chkB qs cs bs=0:=(chkT_ok (of_decide_eq_true h).1).2.1
theorem bkCheck0_spec {ρ τ σ υ:PH} {pq pc pb ph:Option Addr} {kq kc kb kh:Nat} {qs:List Int} {cs:List Ct} {bs:List Bk} {hs:List Hd} (hT:TbAt ρ τ σ υ pq pc pb ph kq kc kb kh qs cs bs hs) (i:Nat) (h0:chkB qs cs bs=0) (hi:i<cs.length) :
  Ans Tryz.prog (fv 209) [.agg #[.slice pq qs.length kq,.slice pc cs.length kc],.slice pb bs.length kb,int (i:Int)] [ρ,τ,σ] (fun r=>r=int 0):=by
 have hck:=bkCheck_spec ρ τ σ pq pc kq kc qs cs _ bs hT.hq hT.hc hT.hcap hT.lq hT.lc hT.hb hT.lb
 rw [h0] at hck
 refine spec_in (cap:=[]) Tryz.func209 rfl rfl Tryz.ntmps209 rfl envZ (fun N β=>?_)
 refine Aa ?_;refine BH (BO rfl) rfl rfl rfl ?_;rintro _ _ ⟨b3,rfl,rfl⟩;refine AW (ρ:=sng b3 _) takeZ ?_
 have c:=rdB b3 25 [.slice pq qs.length kq,.slice pc cs.length kc]
 have c0:=rdC c 0
 have c1:=rdC c 1
 refine Abl ?_;refine Afm ?_;refine BC hck rfl rfl rdZ rfl rfl ?_;rintro _ rfl;refine Abh ?_;refine Aah ?_;refine A0 ?_;refine AB ?_;refine Aaj ?_;refine AU ?_;refine Ael ?_;refine Aai ?_;exact A3 ⟨rfl,rfl⟩
theorem freeAdd_spec (bA bO:Nat) (a to:Int) (u:Value) (G:List (Int × Int)) (χ:PH) (hO:OwnS 152 2 u G.length (G.flatMap encS) χ) (hl:G.length≤100000) :
  Eng.Spec Tryz.prog (.func (.func 226) #[] #[.pointer (some ⟨bA,0,none⟩),.pointer (some ⟨bO,0,none⟩)]) [int to] [] [sng bA (.cells #[int a] 3 (0,0)),sng bO (.cells #[u] 148 (0,0)),χ] (fun r H'=>r=.tuple #[]∧∃ u' χ',H'=[sng bA (.cells #[int a] 3 (0,0)),sng bO (.cells #[u'] 148 (0,0)),χ']∧OwnS 152 2 u' (G ++ if a<to then [(a,to)] else []).length ((G ++ if a<to then [(a,to)] else []).flatMap encS) χ'):=by
 have hone:∀ z n (xs:List Value) (χ:PH),OwnS 152 2 z n xs χ→z.oneCell'=true:=fun z n xs χ h=>by obtain ⟨_,_,rfl⟩:=h.form; rfl
 have hu:=hone _ _ _ _ hO
 refine spec_in (cap:=[.pointer (some ⟨bA,0,none⟩),.pointer (some ⟨bO,0,none⟩)]) Tryz.func226 rfl rfl Tryz.ntmps226 rfl envZ (fun N β=>?_)
 by_cases h:a<to
 ·rw [if_pos h]
  refine Aex ?_;refine BD ?_;refine Aag ?_;refine AA ?_;refine AF ?_;refine Abq ?_;refine BY ?_;refine AZ ?_; rintro _ _ ⟨b,rfl,rfl⟩
  refine BH (BI (by_:=16) (s:=2) (news:=[int a,int to]) rfl rfl rfl rfl rfl rfl rfl hO takeZ (cells_own memZ) rfl oneZ (by omega) (by simp only [maxLen]; omega) (by omega)) rfl rfl rfl ?_
  rintro u1 _ ⟨χ1,hO1,rfl⟩
  have hu2:=hone _ _ _ _ hO1
  refine BS ?_; rintro _ _ ⟨rfl,rfl⟩;refine AE ?_;refine C6 (res0 rfl) rsubZ selZ ⟨rfl,u1,χ1,rfl,?_⟩;rw [List.length_append,List.flatMap_append];exact hO1
 ·rw [if_neg h,List.append_nil]
  refine Aex ?_;refine Aeb ?_;exact C6 (res0 rfl) rsubZ selZ ⟨rfl,u,χ,rfl,hO⟩
theorem gapsP_at {e:Int} {l:List (Int × Int)} {k:Nat} (h:k<l.length) (a:Int):gapsP e a (l.drop k)=(if a<l[k].1 then [(a,l[k].1)] else []) ++ gapsP e l[k].2 (l.drop (k+1)):=by
 rw [List.drop_eq_getElem_cons h]
 rfl
theorem bkFree0_spec {ρ τ σ υ:PH} {pq pc pb ph:Option Addr} {kq kc kb kh:Nat} {qs:List Int} {cs:List Ct} {bs:List Bk} {hs:List Hd} (hT:TbAt ρ τ σ υ pq pc pb ph kq kc kb kh qs cs bs hs) (i:Nat) (x:Ct) (hx:cs[i]?=some x) (hb:firstE (bkE cs bs) bs.length=0) (hbl:bs.length≤512) :
  Makes Tryz.prog (fv 210) [.agg #[.slice pq qs.length kq,.slice pc cs.length kc],.slice pb bs.length kb,int (i:Int),int x.s] [ρ,τ,σ] (fun r χ=>OwnS 152 2 r (freeC cs bs i).length ((freeC cs bs i).flatMap encS) χ):=by
 have hbusy:=busy_spec σ _ bs i hT.hb (by omega)
 have hbi:=busy_in hb hx
 have hbp:=busy_apart hb i
 have hbll:=busyL_len bs i
 have hfc:freeC cs bs i=gapsP x.e x.s (busyL bs i):=by unfold freeC; rw [hx]
 have hgl:=gapsP_len x.e (busyL bs i) x.s
 have hone:∀ z n (xs:List Value) (χ:PH),OwnS 152 2 z n xs χ→z.oneCell'=true:=fun z n xs χ h=>by obtain ⟨_,_,rfl⟩:=h.form; rfl
 rw [hfc]
 have hi:=(List.getElem?_eq_some_iff.1 hx).1
 obtain ⟨bq,oq,e4,hrd⟩:=ctRow hT.rc hx
 refine spec_in (cap:=[]) Tryz.func210 rfl rfl Tryz.ntmps210 rfl envZ (fun N β=>?_)
 refine Aa ?_;refine BH (BO rfl) rfl rfl rfl ?_;rintro _ _ ⟨b3,rfl,rfl⟩;refine AW (ρ:=sng b3 _) takeZ ?_
 have c:=rdB b3 25 [.slice pq qs.length kq,.slice pc cs.length kc]
 have c0:=rdC c 0
 have c1:=rdC c 1
 refine BZ ?_;subst e4;refine Aaa ?_;refine Ach ?_;refine Abm ?_;refine A4 ?_; rintro _ _ ⟨b,rfl,rfl⟩;refine AY ?_; rintro _ _ ⟨rfl,rfl⟩;refine AE ?_;refine Aa ?_;refine CK ?_; rintro _ _ ⟨b,rfl,rfl⟩;refine AE ?_;refine Ach ?_;refine FJ ?_;refine CK ?_; rintro _ _ ⟨b,rfl,rfl⟩;refine BS ?_; rintro _ _ ⟨rfl,rfl⟩;refine AE ?_;refine Aa ?_;refine CL ?_;refine Aaa ?_;refine Aav ?_
 revert b; intro bA
 revert b; intro bO
 revert b; intro bC
 rw [show max x.s x.s=x.s by omega]
 refine AW (ρ:=sng bC _) takeZ ?_
 have bx172_3:=rdB bC 114 [int x.f,int x.t,int x.s,int x.e,int x.r,int x.g,int x.l]
 have g2:=rdC bx172_3 3
 refine BV hbusy rfl rfl rdZ rfl rfl ?_;rintro w χb hOb
 have hSb:=hOb.at
 obtain ⟨pw,kw,rfl⟩:=hOb.form
 obtain ⟨_,_,ew,hrw⟩:=SlE.val (enc:=encS) encS_len (show SlE encS 2 χb _ (busyL bs i) from hSb)
 simp only [Value.slice.injEq] at ew
 obtain ⟨rfl,_,rfl⟩:=ew
 refine AW (ρ:=χb) takeZ ?_
 generalize busyL bs i=L at hbi hbp hbll hOb hSb hrw hgl
 refine Afl ?_
 refine BA [2,12,27,28,9,10,11] (X:=Nat × Int × List (Int × Int) × Value × PH) (0,x.s,[],.slice none 0 0,emp) (fun z=>z.1≤L.length∧(∀ y∈L.drop z.1,z.2.1≤y.1)∧gapsP x.e x.s L=z.2.2.1 ++ gapsP x.e z.2.1 (L.drop z.1)∧OwnS 152 2 z.2.2.2.1 z.2.2.1.length (z.2.2.1.flatMap encS) z.2.2.2.2) (fun z=>[(29,int z.1)]) (fun z=>[sng bA (.cells #[int z.2.1] 3 (0,0)),sng bO (.cells #[z.2.2.2.1] 148 (0,0)),z.2.2.2.2]) (fun z=>L.length-z.1) pickZ ⟨by dsimp only; omega,fun y hy=>by rw [List.drop_zero] at hy; exact (hbi y hy).1,rfl,OwnS.nil _ _⟩ covZ selZ ?_
 rintro ⟨k,a,G,u,χ⟩ ⟨hk,ha,hG,hO⟩
 dsimp only at hk ha hG hO ⊢
 have hGl:G.length≤L.length+1:=by
  have:=congrArg List.length hG
  rw [List.length_append] at this;omega
 by_cases hlt:k<L.length
 ·have hy:=List.getElem?_eq_getElem hlt
  have hga:=gapsP_at (e:=x.e) hlt a
  have hmem:=List.getElem_mem hlt
  have hin:=hbi _ hmem
  have hak:=ha L[k] (by rw [List.drop_eq_getElem_cons hlt]; exact List.mem_cons_self)
  have hpk:∀ y∈L.drop (k+1),L[k].2≤y.1:=fun y hy=>by
   have h1:=List.Pairwise.sublist (List.drop_sublist k L) hbp
   rw [List.drop_eq_getElem_cons hlt] at h1;exact (List.pairwise_cons.1 h1).1 y hy
  obtain ⟨b6,o6,rfl,hRd6,y0,y1⟩:=spRow hrw hy
  generalize L[k]=y at hy hga hin hak hpk hRd6 y0 y1
  have hadd:=freeAdd_spec bA bO a y.1 u G χ hO (by omega)
  refine Ac4 ?_;refine A4 ?_; rintro _ _ ⟨b,rfl,rfl⟩;refine AY ?_; rintro _ _ ⟨rfl,rfl⟩;refine Aej ?_;refine Aad ?_
  revert b; intro b14
  refine BL hadd rfl rfl takesZ rdZ rfl rfl ?_;rintro _ _ ⟨rfl,u',χ',rfl,hO'⟩
  have hmx:max a y.2=y.2:=by omega
  refine Afj ?_;refine AF ?_;refine Aad ?_;refine FJ ?_
  focus ((rw [hmx]))
  refine BS ?_; rintro _ _ ⟨rfl,rfl⟩;refine Ae9 ?_
  refine AT (k+1,y.2,G ++ (if a<y.1 then [(a,y.1)] else []),u',χ') ⟨by dsimp only; omega,hpk,?_,hO'⟩ (by dsimp only; omega) covZ selZ
  dsimp only
  rw [hG,hga,List.append_assoc]
 ·have hke:k=L.length:=by omega
  subst hke
  have hadd:=freeAdd_spec bA bO a x.e u G χ hO (by omega)
  have hfin:gapsP x.e x.s L=G ++ (if a<x.e then [(a,x.e)] else []):=by
   rw [hG,List.drop_length]
   rfl
  rw [hfin];refine Acd ?_;refine Aac ?_;refine Aad ?_;refine BL hadd rfl rfl takesZ rdZ rfl rfl ?_;rintro _ _ ⟨rfl,u',χ',rfl,hO'⟩;refine AE ?_;refine Acz ?_;refine Aaa ?_;exact AO (res1 rfl rfl) rsubZ selZ ⟨χ',hO',rfl⟩
theorem bkFree_spec {ρ τ σ υ:PH} {pq pc pb ph:Option Addr} {kq kc kb kh:Nat} {qs:List Int} {cs:List Ct} {bs:List Bk} {hs:List Hd} (hT:TbAt ρ τ σ υ pq pc pb ph kq kc kb kh qs cs bs hs) (i:Nat) (x:Ct) (hx:cs[i]?=some x) (h0:chkB qs cs bs=0) :
  Makes Tryz.prog (fv 179) [.agg #[.slice pq qs.length kq,.slice pc cs.length kc],.slice pb bs.length kb,int (i:Int)] [ρ,τ,σ] (fun r χ=>∃ u,r=.tuple #[u,int 0]∧OwnS 152 2 u (freeC cs bs i).length ((freeC cs bs i).flatMap encS) χ):=by
 obtain ⟨hbl,hb⟩:=chkB_ok h0
 have hck:=bkCheck0_spec hT i h0 (List.getElem?_eq_some_iff.1 hx).1
 have hfr:=bkFree0_spec hT i x hx hb hbl
 have hi:=(List.getElem?_eq_some_iff.1 hx).1
 obtain ⟨bq,oq,e4,hrd⟩:=ctRow hT.rc hx
 have g2:rdc τ bq (oq+i*7+2)=some (int x.s):=hrd.get (j:=2) rfl
 refine spec_in (cap:=[]) Tryz.func179 rfl rfl Tryz.ntmps179 rfl envZ (fun N β=>?_)
 refine Aa ?_;refine BH (BO rfl) rfl rfl rfl ?_;rintro _ _ ⟨b3,rfl,rfl⟩;refine AW (ρ:=sng b3 _) takeZ ?_
 have c:=rdB b3 25 [.slice pq qs.length kq,.slice pc cs.length kc]
 have c0:=rdC c 0
 have c1:=rdC c 1
 subst e4;refine Aal ?_;refine AC ?_;refine Abt ?_;refine Aao ?_;refine BC hck rfl rfl rdZ rfl rfl ?_;rintro _ rfl;refine Abr ?_;refine Aek ?_
 refine A6 (.q 0 (.q 1 (.q 2 (.q 3 (.q 4 (.q 5 (.q 6 (.q 7 (.q 8 (.l 9 .e (.q 10 (.q 11 .nil)))))))))))) [] rfl (by kernel_rfl) Sel.nil ?_
 refine Ae1 ?_;refine Acl ?_;refine BB ?_;refine Aby ?_;refine CF (BU rfl hfr rfl rfl rdZ rfl rfl ?_);rintro u _ ⟨χ,hO,rfl⟩;refine B4 ?_;refine Adr ?_
 skip
 exact AO (res2 rfl rfl rfl) rsubZ selZ ⟨χ,⟨u,rfl,hO⟩,rfl⟩
theorem exValid_spec {ρ τ σ υ:PH} {pq pc pb ph:Option Addr} {kq kc kb kh:Nat} {qs:List Int} {cs:List Ct} {bs:List Bk} {hs:List Hd} (hT:TbAt ρ τ σ υ pq pc pb ph kq kc kb kh qs cs bs hs) (d:Dm) :
  Ans Tryz.prog (fv 127) [.agg #[.slice pq qs.length kq,.slice pc cs.length kc,.slice pb bs.length kb,.slice ph hs.length kh],.agg #[int d.s,int d.d,int d.v,int d.r,int d.e]] [ρ,τ,σ,υ] (fun r=>r=.bool (validT qs cs bs hs d)):=by
 refine spec_in (cap:=[]) Tryz.func127 rfl rfl Tryz.ntmps127 rfl envZ (fun N β=>?_)
 refine Aa ?_;refine BH (BO rfl) rfl rfl rfl ?_;rintro _ _ ⟨b1,rfl,rfl⟩;refine AW (ρ:=sng b1 _) takeZ ?_
 have ct:=rdB b1 29 [.slice pq qs.length kq,.slice pc cs.length kc,.slice pb bs.length kb,.slice ph hs.length kh]
 have ct0:=rdC ct 0
 have ct1:=rdC ct 1
 have ct2:=rdC ct 2
 have ct3:=rdC ct 3
 have ctp:=rdQ (xs:=[_,_]) ct
 refine BH (BO rfl) rfl rfl rfl ?_;rintro _ _ ⟨b2,rfl,rfl⟩;refine AW (ρ:=sng b2 _) takeZ ?_
 have cd:=rdB b2 31 [int d.s,int d.d,int d.v,int d.r,int d.e]
 have cd0:=rdC cd 0
 have cd1:=rdC cd 1
 have cd2:=rdC cd 2
 have cd3:=rdC cd 3
 have cd4:=rdC cd 4
 refine Afa ?_;refine Acx ?_;refine Abl ?_;refine Abt ?_;refine BC (chkTab_spec hT) rfl rfl rdZ rfl rfl ?_;rintro _ rfl
 by_cases h0:chkT qs cs bs hs=0
 rotate_left
 ·have hv:validT qs cs bs hs d=false:=decide_eq_false (fun h=>h0 h.1)
  rw [hv]
  generalize chkT qs cs bs hs=z at h0
  refine CJ ?_;refine Acq ?_;refine Ad8 ?_;refine Acq ?_;refine Ad8 ?_;refine Aft ?_;exact A3 ⟨rfl,rfl⟩
 rw [h0]
 have hbad:¬ okDm qs.length d→validT qs cs bs hs d=false:=fun h=>decide_eq_false (fun k=>h k.2)
 by_cases hs1:0≤d.s
 rotate_left
 ·rw [hbad (fun h=>by unfold okDm at h; omega)]
  refine Afq ?_;refine BD ?_;refine AN ?_;refine Ad8 ?_;refine Acq ?_;refine Ad8 ?_;refine Aft ?_;exact A3 ⟨rfl,rfl⟩
 by_cases hs2:d.s<(qs.length:Int)
 rotate_left
 ·rw [hbad (fun h=>by unfold okDm at h; omega)]
  refine Afq ?_;refine Acc ?_;refine AB ?_;refine CX ?_;refine AN ?_;refine Acq ?_;refine Ad8 ?_;refine Aft ?_;exact A3 ⟨rfl,rfl⟩
 by_cases hd1:0≤d.d
 rotate_left
 ·rw [hbad (fun h=>by unfold okDm at h; omega)]
  refine Agd ?_;refine BD ?_;refine AN ?_;refine Ad8 ?_;refine Aft ?_;exact A3 ⟨rfl,rfl⟩
 by_cases hd2:d.d<(qs.length:Int)
 rotate_left
 ·rw [hbad (fun h=>by unfold okDm at h; omega)]
  refine Agd ?_;refine Acc ?_;refine AB ?_;refine CX ?_;refine AN ?_;refine Aft ?_;exact A3 ⟨rfl,rfl⟩
 by_cases h3:d.s≠d.d
 rotate_left
 ·rw [hbad (fun h=>by unfold okDm at h; omega)]
  refine Agd ?_;refine Ad3 ?_;refine CQ ?_;refine Aeo ?_;exact A3 ⟨rfl,rfl⟩
 by_cases h4:1≤d.v
 rotate_left
 ·rw [hbad (fun h=>by unfold okDm at h; omega)]
  refine Agd ?_;refine Aeq ?_;refine Abn ?_;refine Aas ?_;refine BP ?_;refine Aeh ?_;refine Aeh ?_;refine Afe ?_;refine Aeh ?_;refine Ahi ?_;exact A3 ⟨rfl,rfl⟩
 by_cases h5:d.v≤1099511627776
 rotate_left
 ·rw [hbad (fun h=>by unfold okDm at h; omega)]
  refine Agd ?_;refine Aeq ?_;refine Abn ?_;refine Afr ?_;refine Aaj ?_;refine DB ?_;refine AR ?_;refine Aeh ?_;refine Afe ?_;refine Aeh ?_;refine Ahi ?_;exact A3 ⟨rfl,rfl⟩
 by_cases h6:0≤d.r
 rotate_left
 ·rw [hbad (fun h=>by unfold okDm at h; omega)]
  refine Agd ?_;refine Aeq ?_;refine Abn ?_;refine Afr ?_;refine Aaj ?_;refine C9 ?_;refine Adw ?_;refine BP ?_;refine AR ?_;refine Afe ?_;refine Aeh ?_;refine Ahi ?_;exact A3 ⟨rfl,rfl⟩
 by_cases h7:d.r<d.e
 rotate_left
 ·rw [hbad (fun h=>by unfold okDm at h; omega)]
  refine Agd ?_;refine Aeq ?_;refine Abn ?_;refine Afr ?_;refine Aaj ?_;refine C9 ?_;refine Adw ?_;refine CX ?_;refine Ad4 ?_;refine A0 ?_;refine AR ?_;refine Aeh ?_;refine Ahi ?_;exact A3 ⟨rfl,rfl⟩
 by_cases h8:d.e≤1099511627776
 rotate_left
 ·rw [hbad (fun h=>by unfold okDm at h; omega)]
  refine Agd ?_;refine Aeq ?_;refine Abn ?_;refine Afr ?_;refine Aaj ?_;refine C9 ?_;refine Adw ?_;refine CX ?_;refine Ad4 ?_;refine BD ?_;refine Adw ?_;refine DB ?_;refine AR ?_;refine Ahi ?_;exact A3 ⟨rfl,rfl⟩
 by_cases h9:d.e-d.r≤100
 rotate_left
 ·rw [hbad (fun h=>by unfold okDm at h; omega)]
  refine Agd ?_;refine Aeq ?_;refine Abn ?_;refine Afr ?_;refine Aaj ?_;refine C9 ?_;refine Adw ?_;refine CX ?_;refine Ad4 ?_;refine BD ?_;refine Adw ?_;refine C9 ?_;refine Ad4 ?_;refine CP ?_;refine DB ?_;refine Acs ?_;exact A3 ⟨rfl,rfl⟩
 have hv:validT qs cs bs hs d=true:=decide_eq_true ⟨h0,by unfold okDm; omega⟩
 rw [hv];refine Agd ?_;refine Aeq ?_;refine Abn ?_;refine Afr ?_;refine Aaj ?_;refine C9 ?_;refine Adw ?_;refine CX ?_;refine Ad4 ?_;refine BD ?_;refine Adw ?_;refine C9 ?_;refine Ad4 ?_;refine CP ?_;refine C9 ?_;refine Acs ?_;exact A3 ⟨rfl,rfl⟩
theorem build_spec {ρ τ σ υ:PH} {pq pc pb ph:Option Addr} {kq kc kb kh:Nat} {qs:List Int} {cs:List Ct} {bs:List Bk} {hs:List Hd} (hT:TbAt ρ τ σ υ pq pc pb ph kq kc kb kh qs cs bs hs) (d:Dm) :
  Eng.Spec Tryz.prog (fv 67) [.agg #[.slice pq qs.length kq,.slice pc cs.length kc,.slice pb bs.length kb,.slice ph hs.length kh],.agg #[int d.s,int d.d,int d.v,int d.r,int d.e]] [ρ,τ,σ,υ] [] (fun r H'=>(validT qs cs bs hs d=false∧r=.tuple #[.pointer none,.bool false]∧H'=[])∨(validT qs cs bs hs d=true∧∃ bw bm u χ M,r=.tuple #[.pointer (some ⟨bw,0,none⟩),.bool true]∧H'=[sng bw (.cells #[.slice pq qs.length kq,.slice pc cs.length kc,.slice pb bs.length kb,.slice ph hs.length kh,int d.s,int d.d,int d.v,int d.r,int d.e,u,.map (some bm)] 147 (0,0)),sng bm (mapS M),χ]∧OwnS 143 2 u (placesA d qs.length).length ((placesA d qs.length).flatMap encS) χ∧NumAt d qs.length d.r M)):=by
 have hval:=exValid_spec hT d
 have hone:∀ z n (xs:List Value) (χ:PH),OwnS 143 2 z n xs χ→z.oneCell'=true:=fun z n xs χ h=>by obtain ⟨_,_,rfl⟩:=h.form; rfl
 refine spec_in (cap:=[]) Tryz.func67 rfl rfl Tryz.ntmps67 rfl envZ (fun N β=>?_)
 refine Aa ?_;refine BH (BO rfl) rfl rfl rfl ?_;rintro _ _ ⟨b1,rfl,rfl⟩;refine AW (ρ:=sng b1 _) takeZ ?_
 have ct:=rdB b1 29 [.slice pq qs.length kq,.slice pc cs.length kc,.slice pb bs.length kb,.slice ph hs.length kh]
 have ct0:=rdC ct 0
 have ct1:=rdC ct 1
 have ct2:=rdC ct 2
 have ct3:=rdC ct 3
 have ctp:=rdQ (xs:=[_,_]) ct
 refine BH (BO rfl) rfl rfl rfl ?_;rintro _ _ ⟨b2,rfl,rfl⟩;refine AW (ρ:=sng b2 _) takeZ ?_
 have cd:=rdB b2 31 [int d.s,int d.d,int d.v,int d.r,int d.e]
 have cd0:=rdC cd 0
 have cd1:=rdC cd 1
 have cd2:=rdC cd 2
 have cd3:=rdC cd 3
 have cd4:=rdC cd 4
 refine Aal ?_;refine AC ?_;refine Acu ?_;refine BC hval rfl rfl rdZ rfl rfl ?_;rintro _ rfl
 cases hv:validT qs cs bs hs d with
 | false =>
  refine Afo ?_;refine Aal ?_;exact AO (res2 rfl rfl rfl) rsubZ selZ (.inl ⟨rfl,rfl,rfl⟩)
 | true =>
 have h:=vok hv
 have hdm:=h.dm
 unfold okDm at hdm
 have hnq:=h.nq
 refine BZ ?_;refine Acw ?_;refine Acu ?_
 focus ((refine' BH _ rfl rfl rfl _; rotate_left; (exact EZ); rintro _ _ ⟨b,rfl,rfl⟩))
 revert b; intro bm
 refine CW (BW (out:=[.slice pq qs.length kq,.slice pc cs.length kc,.slice pb bs.length kb,.slice ph hs.length kh,int d.s,int d.d,int d.v,int d.r,int d.e,.slice none 0 0,.map (some bm)]) rfl rfl rfl rfl rfl) rfl rfl rfl ?_;refine CO ?_; rintro _ _ ⟨b,rfl,rfl⟩;refine Abl ?_;refine Aa ?_;refine Acx ?_;refine Ab6 ?_
 revert b; intro bw
 refine BA [2,3,6,22] (X:=Nat × Value × PH × List (List Int × Value)) (0,.slice none 0 0,emp,[]) (fun x=>x.1≤qs.length∧OwnS 143 2 x.2.1 (placesA d x.1).length ((placesA d x.1).flatMap encS) x.2.2.1∧NumAt d x.1 d.r x.2.2.2) (fun x=>[(23,int x.1)]) (fun x=>[sng bw (.cells #[.slice pq qs.length kq,.slice pc cs.length kc,.slice pb bs.length kb,.slice ph hs.length kh,int d.s,int d.d,int d.v,int d.r,int d.e,x.2.1,.map (some bm)] 147 (0,0)),sng bm (mapS x.2.2.2),x.2.2.1]) (fun x=>qs.length-x.1) pickZ ⟨by dsimp only; omega,OwnS.nil _ _,NumAt.nil d⟩ covZ selZ ?_
 rintro ⟨k,u,χ,M⟩ ⟨hk,hO,hM⟩
 dsimp only at hk hO hM ⊢
 by_cases hlt:k<qs.length
 rotate_left
 ·have hke:k=qs.length:=by omega
  subst hke;refine Acd ?_;refine Afh ?_;exact AO (res2 rfl rfl rfl) rsubZ selZ (.inr ⟨rfl,bw,bm,u,χ,M,rfl,rfl,hO,hM⟩)
 refine Abk ?_;refine Aca ?_;refine Aas ?_;refine Aaa ?_;refine AM ?_
 refine BA [2,3,6,7,22,23] (X:=Int × Value × PH × List (List Int × Value)) (d.r,u,χ,M) (fun x=>d.r≤x.1∧x.1≤d.e+1∧OwnS 143 2 x.2.1 (placesA d k ++ placesN d k x.1).length ((placesA d k ++ placesN d k x.1).flatMap encS) x.2.2.1∧NumAt d k x.1 x.2.2.2) (fun x=>[(8,int x.1)]) (fun x=>[sng bw (.cells #[.slice pq qs.length kq,.slice pc cs.length kc,.slice pb bs.length kb,.slice ph hs.length kh,int d.s,int d.d,int d.v,int d.r,int d.e,x.2.1,.map (some bm)] 147 (0,0)),sng bm (mapS x.2.2.2),x.2.2.1]) (fun x=>(d.e+1-x.1).toNat) pickZ ⟨by dsimp only; omega,by dsimp only; omega,by dsimp only; rw [placesN_nil,List.append_nil]; exact hO,hM⟩ covZ selZ ?_
 rintro ⟨t,u2,χ2,M2⟩ ⟨ht1,ht2,hO2,hM2⟩
 dsimp only at ht1 ht2 hO2 hM2 ⊢
 by_cases hte:t≤d.e
 rotate_left
 ·have hte2:t=d.e+1:=by omega
  subst hte2;refine Ac9 ?_;refine DB ?_;refine Aa7 ?_;refine Abf ?_
  exact AT (k+1,u2,χ2,M2) ⟨by dsimp only; omega,hO2,by dsimp only; exact hM2.row (by omega)⟩ (by dsimp only; omega) covZ selZ
 have hlen:=places_at (d:=d) (by omega) (k:=k) ht1
 have hvt:=vtx_lt (d:=d) (n:=k) (t:=t) (N:=16) (by omega) (by omega) ht1 hte
 have hvb:vtx d k t<1616:=by
  have hw:=h.wd
  have:=Int.mul_le_mul_of_nonneg_left hw.2 (show (0:Int)≤((16:Nat):Int) by omega)
  omega
 have hsn:=placesN_snoc (k:=k) ht1
 have hadd:=hM2.add (by omega) ht1 hte
 have hMl:=hM2.1
 obtain ⟨pu,ku,rfl⟩:=hO2.form
 have hflat:(placesA d k ++ placesN d k (t+1))=(placesA d k ++ placesN d k t) ++ [((k:Int),t)]:=by rw [hsn,List.append_assoc]
 generalize placesA d k ++ placesN d k t=P at hlen hO2 hflat
 refine Ac9 ?_;refine C9 ?_;refine Aa1 ?_;refine Aay ?_;refine BY ?_;refine A4 ?_; rintro _ _ ⟨b,rfl,rfl⟩;refine AY ?_; rintro _ _ ⟨rfl,rfl⟩;refine Aat ?_
 revert b; intro b9
 refine A6 (.q 0 (.q 1 (.q 2 (.q 3 (.q 4 (.q 5 (.q 6 (.q 7 (.q 8 (.q 9 (.l 10 .b .nil))))))))))) [] rfl (by kernel_rfl) Sel.nil ?_
 refine AI ?_;refine Aec ?_;refine BJ ?_;refine AI ?_;refine Aec ?_;refine CZ ?_;rw [hlen];refine CF ?_
 refine' FW rfl (EI 2 [(k:Int),t] (v:=int (vtx d k t)) (l:=M2) rfl rfl rfl rfl ⟨by kernel_rfl,by kernel_rfl⟩ rfl hMl takeZ) rfl rfl _ _
 ·rintro _ _ ⟨_,rfl⟩ w hw; exact hw.sel Sel.nil
 rintro _ _ ⟨rfl,rfl⟩;refine A7 ?_
 skip
 refine A6 (.p 0 (.q 1 (.q 2 (.q 3 (.q 4 (.q 5 (.l 6 .e (.l 7 .b (.q 8 (.q 9 (.l 10 .b .nil))))))))))) [] rfl (by kernel_rfl) Sel.nil ?_
 refine DO ?_;refine AI ?_;refine Aec ?_;refine BJ ?_;refine BF ?_; rintro _ _ ⟨b,rfl,rfl⟩
 refine CF (a_b rfl (BI (by_:=16) (s:=2) (news:=[int (k:Int),int t]) rfl rfl rfl rfl rfl rfl rfl hO2 takeZ (cells_own memZ) rfl oneZ (by omega) (by simp only [maxLen]; omega) (by omega)) rfl rfl rfl (fun _ _ _ w hw=>hw.sel Sel.nil) ?_)
 rintro u3 _ ⟨χ3,hO3,rfl⟩
 have hu3:=hone _ _ _ _ hO3
 refine Ae3 ?_;refine D0 ?_; rintro _ _ ⟨rfl,rfl⟩;refine A7 ?_;refine Agu ?_
 refine AT (t+1,u3,χ3,_) ⟨by dsimp only; omega,by dsimp only; omega,?_,hadd⟩ (by dsimp only; omega) covZ selZ
 dsimp only
 rw [hflat,List.length_append,List.flatMap_append];exact hO3
end Go.Proofs.YtjehnjhkcmobcaaGreat
namespace Go.Eng
variable {C:Cx} {D:List Deferred} {R H Hf:List PH} {L:Env} {K:List It} {ps ls:List Nat}
theorem Quiet.perm {H':List PH} {o:Oper} {v:Value} (hp:H'.Perm H) (h:Quiet C R H L o v):Quiet C R H' L o v:=⟨h.1,fun a w hx hs=>h.2 a w hx (hs.perm hp)⟩
theorem E9 {H':List PH} {all:Array Oper} {done:List Nat} {plan:Pl} (hp:H.Perm H') (h:DJ C D R Hf H' L all done ps ls plan K):DJ C D R Hf H L all done ps ls plan K:=by
  refine ⟨fun hpl fuel listed a w hinv=>h.run hpl fuel listed a w ⟨hinv.size,hinv.dc,hinv.sub,hinv.fuel,hinv.tm,hinv.df,hinv.sat.perm hp,hinv.get,fun i hi hn=>?_,fun w hw=>hinv.hf w (hw.perm hp.symm),hinv.lds,hinv.data,hinv.uniq,hinv.chron⟩⟩
  obtain ⟨o,d,v,h1,h2,h3,h4,h5⟩:=hinv.prom i hi hn
  refine ⟨o,d,v,h1,h2,h3,h4,?_⟩
  rcases h5 with ⟨k1,k2⟩|k
  · refine .inl ⟨k1,?_⟩
    split at k2
    · rename_i c; rw [if_pos c]; exact k2
    · rename_i c; rw [if_neg c]; exact k2.perm hp.symm
  · exact .inr k
end Go.Eng
namespace Go.Proofs.YtjehnjhkcmobcaaGreat
open Go.Eng Go.Step
set_option maxRecDepth 100000
set_option maxHeartbeats 64000000
theorem exRoom_spec {ρ τ σ υ:PH} {pq pc pb ph:Option Addr} {kq kc kb kh:Nat} {qs:List Int} {cs:List Ct} {bs:List Bk} {hs:List Hd} (hT:TbAt ρ τ σ υ pq pc pb ph kq kc kb kh qs cs bs hs) (bw bm:Nat) (u:Value) (d:Dm) (h:VOk qs cs bs hs d) (nn:Nat) (t:Int) (hnl:nn<qs.length) :
  Ans Tryz.prog (fv 132) [.pointer (some ⟨bw,0,none⟩),.agg #[int (nn:Int),int t]] [sng bw (.cells #[.slice pq qs.length kq,.slice pc cs.length kc,.slice pb bs.length kb,.slice ph hs.length kh,int d.s,int d.d,int d.v,int d.r,int d.e,u,.map (some bm)] 147 (0,0)),ρ,τ,σ,υ] (fun r=>r=int (roomT qs hs d nn t)):=by
 have hr:=hT.rh
 have hQ:=List.getElem?_eq_getElem hnl
 have hQb:=h.quo _ _ hQ
 have hok:=h.hd
 have hl:=h.nh
 have hR:roomT qs hs d nn t=if (nn:Int)=d.s∨(nn:Int)=d.d then 1099511627776 else qs[nn]-Step.stored hs nn t:=by
  unfold roomT;rw [Int.toNat_natCast,List.getD_eq_getElem?_getD,hQ,Option.getD_some]
 rw [hR]
 generalize qs[nn]=Q at hQ hQb
 have bx23_3:=rdB bw 147 [.slice pq qs.length kq,.slice pc cs.length kc,.slice pb bs.length kb,.slice ph hs.length kh,int d.s,int d.d,int d.v,int d.r,int d.e,u,.map (some bm)]
 have w0:=rdC bx23_3 0
 have w1:=rdC bx23_3 1
 have w2:=rdC bx23_3 2
 have w3:=rdC bx23_3 3
 have w4:=rdC bx23_3 4
 have w5:=rdC bx23_3 5
 have w6:=rdC bx23_3 6
 have w7:=rdC bx23_3 7
 have w8:=rdC bx23_3 8
 have w9:=rdC bx23_3 9
 have w10:=rdC bx23_3 10
 refine spec_in (cap:=[]) Tryz.func132 rfl rfl Tryz.ntmps132 rfl envZ (fun N β=>?_)
 refine Aa ?_;refine BH (BO rfl) rfl rfl rfl ?_;rintro _ _ ⟨b3,rfl,rfl⟩;refine AW (ρ:=sng b3 _) takeZ ?_
 have cp:=rdB b3 143 [int (nn:Int),int t]
 have cp0:=rdC cp 0
 have cp1:=rdC cp 1
 by_cases s1:(nn:Int)=d.s
 ·rw [if_pos (.inl s1)]
  refine Abl ?_;refine AC ?_
  refine A6 P5Z [] rfl (by kernel_rfl) Sel.nil ?_
  refine Acl ?_;refine Ae3 ?_;refine Ac ?_;refine DP ?_;refine Ac2 ?_;refine Agr ?_;exact A3 ⟨rfl,rfl⟩
 by_cases s2:(nn:Int)=d.d
 ·rw [if_pos (.inr s2)]
  refine Abl ?_;refine AC ?_
  refine A6 P5Z [] rfl (by kernel_rfl) Sel.nil ?_
  refine Acl ?_;refine Ae3 ?_;refine Ac ?_;refine C7 ?_;refine AI ?_;refine Acl ?_;refine Ae3 ?_;refine Aby ?_;refine DP ?_;refine BM ?_;refine Ah ?_;exact A3 ⟨rfl,rfl⟩
 rw [if_neg (by omega)]
 obtain ⟨bq,oq,rfl,gq⟩:=hT.rq.int hQ
 refine Abl ?_;refine AC ?_
 refine A6 P5Z [] rfl (by kernel_rfl) Sel.nil ?_
 refine Acl ?_;refine Ae3 ?_;refine Ac ?_;refine C7 ?_;refine AI ?_;refine Acl ?_;refine Ae3 ?_;refine Aby ?_;refine C7 ?_;refine Ag2 ?_;refine AC ?_
 refine A6 P6Z [] rfl (by kernel_rfl) Sel.nil ?_
 refine AI ?_;refine Ae3 ?_;refine AX ?_;refine Adl ?_;refine Aco ?_;refine Adr ?_;refine Aah ?_;refine CG ?_;refine Acx ?_;refine Ab6 ?_
 refine BA [0,3,40,41] (0:Nat) (fun k=>k≤hs.length) (fun k=>[(42,int k),(5,int (Q-Step.stored (hs.take k) nn t))]) (fun _=>[]) (fun k=>hs.length-k) pickZ (by omega) ?_ selZ ?_
 ·rw [List.take_zero]
  simp only [Step.stored,Int.sub_zero];exact covZ
 intro k hk
 by_cases hlt:k<hs.length
 ·have hx:=List.getElem?_eq_getElem hlt
  have hh:=(hok _ (List.getElem_mem hlt)).2.2.1
  obtain ⟨b7,o7,rfl,hrd,g0,g1,g2,g3,_⟩:=hdRow5 hr hx
  have hm:=stored_snoc nn t hs[k] (hs.take k)
  rw [← List.take_succ_eq_append_getElem hlt] at hm
  have hb:=stored_bd (n:=nn) (t:=t) (l:=hs.take k) (fun h hm=>hok h (List.mem_of_mem_take hm))
  rw [List.length_take,Nat.min_eq_left hk] at hb
  generalize hs[k]=x at hrd g0 g1 g2 g3 hm hh
  generalize Step.stored (hs.take k) nn t=s at hm hb
  by_cases c1:x.n=nn
  ·by_cases c2:x.a≤t
   ·by_cases c3:t<x.b
    ·rw [if_pos ⟨c1,c2,c3⟩] at hm
     refine Ac4 ?_;refine A4 ?_; rintro _ _ ⟨b,rfl,rfl⟩;refine AY ?_; rintro _ _ ⟨rfl,rfl⟩;refine AE ?_;refine Ab4 ?_;refine CQ ?_;refine Abj ?_;refine C9 ?_;refine Ad4 ?_;refine BD ?_;refine Aez ?_;refine AA ?_;refine Aaj ?_;refine CP ?_;refine Af4 ?_
     refine AT (k+1) (by omega) (by omega) ?_ selZ
     rw [hm,show Q-(s+x.s)=Q-s-x.s by omega]
     exact covZ
    ·rw [if_neg (by omega),Int.add_zero] at hm
     refine Ac4 ?_;refine A4 ?_; rintro _ _ ⟨b,rfl,rfl⟩;refine AY ?_; rintro _ _ ⟨rfl,rfl⟩;refine AE ?_;refine Ab4 ?_;refine CQ ?_;refine Abj ?_;refine C9 ?_;refine Ad4 ?_;refine A0 ?_;refine Aem ?_;refine Abf ?_
     refine AT (k+1) (by omega) (by omega) ?_ selZ
     rw [hm];exact covZ
   ·rw [if_neg (by omega),Int.add_zero] at hm
    refine Ac4 ?_;refine A4 ?_; rintro _ _ ⟨b,rfl,rfl⟩;refine AY ?_; rintro _ _ ⟨rfl,rfl⟩;refine AE ?_;refine Ab4 ?_;refine CQ ?_;refine Abj ?_;refine DB ?_;refine AR ?_;refine Aa4 ?_;refine Ad7 ?_;refine Abf ?_
    refine AT (k+1) (by omega) (by omega) ?_ selZ
    rw [hm];exact covZ
  ·rw [if_neg (by omega),Int.add_zero] at hm
   refine Ac4 ?_;refine A4 ?_; rintro _ _ ⟨b,rfl,rfl⟩;refine AY ?_; rintro _ _ ⟨rfl,rfl⟩;refine AE ?_;refine Ab4 ?_;refine CE ?_;refine Afe ?_;refine Aa4 ?_;refine Ad7 ?_;refine Abf ?_
   refine AT (k+1) (by omega) (by omega) ?_ selZ
   rw [hm];exact covZ
 ·have hke:k=hs.length:=by omega
  subst hke;rw [List.take_length];refine Ago ?_;exact A3 ⟨rfl,rfl⟩
theorem ticks_spec (bw:Nat) (i:Nat) :
  Eng.Spec Tryz.prog (fv 133) [.pointer (some ⟨bw,0,none⟩),int (i:Int)] [] [] (fun r H'=>∃ c1 c2,r=.func (.func 178) #[] #[.pointer (some ⟨c1,0,none⟩),.pointer (some ⟨c2,0,none⟩)]∧H'=[sng c2 (.cells #[int (i:Int)] 3 (0,0)),sng c1 (.cells #[.pointer (some ⟨bw,0,none⟩)] 137 (0,0))]):=by
 refine spec_in (cap:=[]) Tryz.func133 rfl rfl Tryz.ntmps133 rfl envZ (fun N β=>?_)
 refine Aa ?_;refine BH (D5 rfl rfl) rfl rfl rfl ?_;rintro _ _ ⟨c1,rfl,rfl⟩;refine BH (D5 rfl rfl) rfl rfl rfl ?_;rintro _ _ ⟨c2,rfl,rfl⟩;refine Afa ?_;refine CL ?_;refine Aaa ?_;exact AO (res1 rfl rfl) rsubZ selZ ⟨c1,c2,rfl,rfl⟩
theorem ticks_iter {ρ τ σ υ:PH} {pq pc pb ph:Option Addr} {kq kc kb kh:Nat} {qs:List Int} {cs:List Ct} {bs:List Bk} {hs:List Hd} (hT:TbAt ρ τ σ υ pq pc pb ph kq kc kb kh qs cs bs hs) (bw bm c1 c2:Nat) (u:Value) (d:Dm) (h:VOk qs cs bs hs d) (h0:chkB qs cs bs=0) (i:Nat) (x:Ct) (hx:cs[i]?=some x) :
  Iter Tryz.prog (.func (.func 178) #[] #[.pointer (some ⟨c1,0,none⟩),.pointer (some ⟨c2,0,none⟩)]) [sng c1 (.cells #[.pointer (some ⟨bw,0,none⟩)] 137 (0,0)),sng c2 (.cells #[int (i:Int)] 3 (0,0)),sng bw (.cells #[.slice pq qs.length kq,.slice pc cs.length kc,.slice pb bs.length kb,.slice ph hs.length kh,int d.s,int d.d,int d.v,int d.r,int d.e,u,.map (some bm)] 147 (0,0)),ρ,τ,σ,υ] ((tickL d.r d.e x.g (freeC cs bs i)).map Eng.encI):=by
 intro y S Own Inv Stop Ry hy hyl σ0 hI0
 obtain ⟨yl,rfl⟩:=hyl
 have hi:=(List.getElem?_eq_some_iff.1 hx).1
 have hdm:=h.dm
 unfold okDm at hdm
 have hct:=h.ct x (List.mem_of_getElem? hx)
 have hfree:=bkFree_spec hT i x hx h0
 have hfl:(freeC cs bs i).length≤600:=by
  have hf:freeC cs bs i=gapsP x.e x.s (busyL bs i):=by unfold freeC; rw [hx]
  have h1:=gapsP_len x.e (busyL bs i) x.s
  have h2:=busyL_len bs i
  have h3:=h.nb
  rw [hf];omega
 have hfin:=(h.free hx).2.1
 obtain ⟨bq,oq,e4,hrd⟩:=ctRow hT.rc hx
 have bx432_3:=rdB bw 147 [.slice pq qs.length kq,.slice pc cs.length kc,.slice pb bs.length kb,.slice ph hs.length kh,int d.s,int d.d,int d.v,int d.r,int d.e,u,.map (some bm)]
 have w0:=rdC bx432_3 0
 have w1:=rdC bx432_3 1
 have w2:=rdC bx432_3 2
 have w3:=rdC bx432_3 3
 have w4:=rdC bx432_3 4
 have w5:=rdC bx432_3 5
 have w6:=rdC bx432_3 6
 have w7:=rdC bx432_3 7
 have w8:=rdC bx432_3 8
 have w9:=rdC bx432_3 9
 have w10:=rdC bx432_3 10
 have wp:=rdQ (xs:=[_,_]) bx432_3
 have bx444_3:=rdB c1 137 [.pointer (some ⟨bw,0,none⟩)]
 have v1:=rdC bx444_3 0
 have bx445_3:=rdB c2 3 [int (i:Int)]
 have v2:=rdC bx445_3 0
 subst e4;simp only [List.cons_append,List.nil_append]
 refine spec_in (cap:=[.pointer (some ⟨c1,0,none⟩),.pointer (some ⟨c2,0,none⟩)]) Tryz.func178 rfl rfl Tryz.ntmps178 rfl envZ (fun N β=>?_)
 refine AC ?_
 refine A6 (.q 0 (.q 1 (.q 2 (.q 3 (.q 4 (.q 5 (.q 6 (.q 7 (.q 8 (.l 9 .e (.l 10 .b .nil))))))))))) [] rfl (by kernel_rfl) Sel.nil ?_
 refine AQ ?_;refine Ae3 ?_;refine AX ?_;refine Aau ?_;refine AQ ?_;refine BB ?_;refine BJ ?_;refine C5 ?_; rintro _ _ ⟨b,rfl,rfl⟩
 focus ((refine CF ?_; refine' FW rfl _ rfl rfl _ _; rotate_left; (focus (apply DV; exact rfl; exact rfl; exact takeZ; exact oneZ; exact rfl; exact rfl)); (focus (rintro _ _ ⟨_,rfl⟩ w hw; exact hw.sel Sel.nil)); rintro _ _ ⟨rfl,rfl⟩))
 refine A7 ?_
 revert b; intro b4
 refine AC ?_;refine AW (ρ:=sng b4 _) takeZ ?_
 have bx466_3:=rdB b4 114 [int x.f,int x.t,int x.s,int x.e,int x.r,int x.g,int x.l]
 have g5:=rdC bx466_3 5
 refine A6 (.q 0 (.q 1 (.q 2 (.q 3 (.q 4 (.q 5 (.q 6 (.q 7 (.q 8 (.q 9 (.q 10 (.l 11 .e (.q 12 (.q 13 (.q 14 (.q 15 (.q 16 .nil))))))))))))))))) [] rfl (by kernel_rfl) Sel.nil ?_
 refine AQ ?_;refine Ae3 ?_;refine AX ?_;refine BJ ?_;refine AQ ?_;refine Ae3 ?_;refine Aau ?_;refine AQ ?_;refine CF (BU rfl hfree rfl rfl rdZ rfl rfl ?_);rintro _ _ ⟨χ,⟨uf,rfl,hO⟩,rfl⟩
 have hSf:=hO.at
 obtain ⟨pf,kf,rfl⟩:=hO.form
 obtain ⟨_,_,ef,hrf⟩:=SlE.val (enc:=encS) encS_len (show SlE encS 2 χ _ (freeC cs bs i) from hSf)
 simp only [Value.slice.injEq] at ef
 obtain ⟨rfl,_,rfl⟩:=ef
 refine AI ?_;refine DQ ?_;refine DQ ?_;refine B4 ?_;refine Adr ?_;refine Aac ?_;refine Afl ?_;refine AW (ρ:=χ) takeZ ?_
 generalize freeC cs bs i=F at hy hfl hfin hrf hO hSf
 refine BA [0,1,2,4,34,35] (X:=Nat × S) (0,σ0) (fun z=>z.1≤F.length∧Inv (tickL d.r d.e x.g (F.take z.1)).length z.2) (fun z=>[(36,int z.1)]) (fun z=>Own z.2) (fun z=>F.length-z.1) pickZ ⟨by dsimp only; omega,hI0⟩ covZ Sel.refl ?_
 rintro ⟨k,σ'⟩ ⟨hk,hI⟩
 dsimp only at hk hI ⊢
 by_cases hlt:k<F.length
 rotate_left
 ·have hke:k=F.length:=by omega
  subst hke;rw [List.take_length] at hI;refine Acd ?_
  refine C6 (res0 rfl) (fun _ h=>List.mem_cons_of_mem _ (List.mem_cons_of_mem _ h)) Sel.refl ⟨σ',rfl,.inl ?_⟩
  rw [List.length_map];exact hI
 have hz:=List.getElem?_eq_getElem hlt
 have hlen:=tickL_len d.r d.e x.g F hz
 have hat:=fun t h1 h2=>tickL_at d.r d.e x.g F hz (t:=t) h1 h2
 have hin:=hfin _ (List.getElem_mem hlt)
 obtain ⟨b6,o6,rfl,hRd6,y0,y1⟩:=spRow hrf hz
 generalize F[k]=z at hz hlen hat hin hRd6 y0 y1
 refine Ac4 ?_;refine A4 ?_; rintro _ _ ⟨b,rfl,rfl⟩;refine AY ?_; rintro _ _ ⟨rfl,rfl⟩;refine Aat ?_
 revert b; intro b8
 refine A6 P7Z [] rfl (by kernel_rfl) Sel.nil ?_
 refine Aau ?_;refine AQ ?_;refine Ae3 ?_;refine Aby ?_;refine G6 ?_;refine Adr ?_;refine AM ?_
 refine BA [0,1,2,4,8,34,35,36] (X:=Int × S) (max z.1 d.r,σ') (fun w=>max z.1 d.r≤w.1∧(w.1≤min z.2 (d.e-x.g)∨w.1=max z.1 d.r)∧Inv ((tickL d.r d.e x.g (F.take k)).length+(w.1-max z.1 d.r).toNat) w.2) (fun w=>[(9,int w.1)]) (fun w=>sng b8 (.cells #[int z.1,int z.2] 152 (0,0))::Own w.2) (fun w=>(1099511627776-w.1).toNat) pickZ ⟨by dsimp only; omega,by dsimp only; omega,by dsimp only; rw [show (max z.1 d.r-max z.1 d.r).toNat=0 by omega,Nat.add_zero]; exact hI⟩ covZ Sel.refl ?_
 rintro ⟨t,σ2⟩ ⟨ht1,ht2,hI2⟩
 dsimp only at ht1 ht2 hI2 ⊢
 by_cases hz2:t<z.2
 ·by_cases hg2:t+1+x.g≤d.e
  ·have hya:=hy _ σ2 (Eng.encI t) (by rw [List.getElem?_map,hat t ht1 (by omega)]; rfl) hI2
   refine Acp ?_
   refine A6 P4Z [] rfl (by kernel_rfl) Sel.nil ?_
   refine Afy ?_;refine D6 ?_;refine Aan ?_;refine Ag4 ?_;refine AQ ?_;refine Ae3 ?_;refine Aby ?_;refine ES ?_;refine Adg ?_;refine Aaq ?_;refine Aay ?_
   refine BL hya rfl rfl (Takes.skip Takes.all) (fun τ hτ=>.inl (by simp [hτ])) rfl rfl ?_
   rintro _ H' ⟨σ3,rfl,⟨rfl,hI3⟩|⟨rfl,hSt⟩⟩
   ·refine DD (H':=_::Own σ3) (List.perm_append_comm (l₂:=[_])) ?_
    refine Acw ?_;refine Agu ?_
    refine AT (t+1,σ3) ⟨by dsimp only; omega,by dsimp only; omega,?_⟩ (by dsimp only; omega) covZ Sel.refl
    dsimp only
    rw [show (t+1-max z.1 d.r).toNat=(t-max z.1 d.r).toNat+1 by omega]
    exact hI3
   ·refine BN ?_
    refine Aag ?_
    exact AO (res0 rfl) (fun _ h=>List.mem_cons_of_mem _ (List.mem_cons_of_mem _ h)) Sel.left ⟨σ3,rfl,.inr hSt⟩
  ·refine AC ?_
   refine AC ?_
   refine A6 P4Z [] rfl (by kernel_rfl) Sel.nil ?_
   refine Afy ?_;refine D6 ?_;refine Aan ?_;refine Ag4 ?_;refine AQ ?_;refine Ae3 ?_;refine Aby ?_;refine DZ ?_;refine BG ?_;refine Af1 ?_;refine Abf ?_
   refine AT (k+1,σ2) ⟨by dsimp only; omega,?_⟩ (by dsimp only; omega) covZ (Sel.skip Sel.refl)
   dsimp only
   rw [hlen,show (min z.2 (d.e-x.g)-max z.1 d.r).toNat=(t-max z.1 d.r).toNat by omega]
   exact hI2
 ·refine AC ?_
  refine AC ?_
  refine A6 P4Z [] rfl (by kernel_rfl) Sel.nil ?_
  refine Afy ?_;refine DK ?_;refine Af8 ?_;refine Ad ?_;refine Af1 ?_;refine Abf ?_
  refine AT (k+1,σ2) ⟨by dsimp only; omega,?_⟩ (by dsimp only; omega) covZ (Sel.skip Sel.refl)
  dsimp only
  rw [hlen,show (min z.2 (d.e-x.g)-max z.1 d.r).toNat=(t-max z.1 d.r).toNat by omega]
  exact hI2
end Go.Proofs.YtjehnjhkcmobcaaGreat
namespace Go.Eng
variable {C:Cx} {R H:List PH} {L:Env} {dst:Option Tmp} {ty:TypeId} {pos:String} {aft:Array Edge} {g:Option (Nat × Bool)}
theorem DN {x y:Operand} {t kt et:TypeId} {b:Nat} (n:Nat) (k:List Int) {l:List (List Int × Value)} {z v:Value} (h:evalE L x=some (.map (some b))) (hk:evalE L y=some (aggI k)) (ht:C.P.underlying t=some (.map kt et)) (hkt:KeyS C.P kt n) (hn:k.length=n) (hl:∀ x∈l,x.1.length=n) (hz:zeroP C.P et=some z) (hv:mgetS k l=some v) (hm:MapAtS C.N R H b l) :
    Quiet C R H L ⟨dst,.lookup t x y false,ty,pos,aft,g⟩ v:=by
  have:=FL (C:=C) (R:=R) (H:=H) (L:=L) (dst:=dst) (ty:=ty) (pos:=pos) (aft:=aft) (g:=g) n k h hk ht hkt hn hl hz hm
  rwa [hv,Option.getD_some] at this
theorem GX {P:Program} {fn:Func} {N:Bs} {M:Nat} {R R0 H H1 H':List PH} {L:Env} {post:Value→List PH→Prop} {v:Value} {ms:List Nat} {μ:PH} (m:MkIn μ ms) (t:Take μ H H1)
    (hv:∀ a w,Frm M L a→Sat N R H1 w→(results fn a.tmps).run P w=.ok v w) (hR:∀ ρ∈R0,ρ∈R) (hH:Sel H1 H') (hp:post v H') :
    JK ⟨none,P,FnQ P fn N R0 post,N,M⟩ (ms.map mk) R H L []:=by
  refine ⟨fun a w hf hd hs=>?_⟩
  show MarksQ _ _ _ _ a.defers w
  rw [hd]
  exact m.run (hs.take t) (fun w' hs'=>⟨v,hv a w' hf hs',H',hp,(hs'.rsub hR).sel hH⟩)
end Go.Eng
namespace Go.Step
section
variable {qs:List Int} {cs:List Ct} {bs:List Bk} {hs:List Hd} {d:Dm}
theorem waitN_at {n:Int} {t:Int} (h1:d.r≤t) (h2:t<d.e):(waitN qs hs d n)[(t-d.r).toNat]?=some ⟨⟨vtx d n t,vtx d n (t+1),roomT qs hs d n t⟩,-1,t⟩:=by
  unfold waitN
  rw [List.getElem?_map,rngI_get (by omega),show d.r+((t-d.r).toNat:Int)=t by omega]
  rfl
theorem waitA_at {n:Nat} {t:Int} (h1:d.r≤t) (h2:t<d.e):∀ {m:Nat},n<m→(waitA qs hs d m)[n*(d.e-d.r).toNat+(t-d.r).toNat]?=some ⟨⟨vtx d n t,vtx d n (t+1),roomT qs hs d n t⟩,-1,t⟩
  | 0,h=>by omega
  | m+1,h=>by
    have hl:=waitA_len qs hs d m
    unfold waitA
    by_cases hn:n<m
    · have h3:(n+1)*(d.e-d.r).toNat≤m*(d.e-d.r).toNat:=Nat.mul_le_mul_right _ hn
      rw [Nat.add_mul,Nat.one_mul] at h3
      rw [List.getElem?_append_left (by omega)]
      exact waitA_at h1 h2 hn
    · obtain rfl:n=m:=by omega
      rw [List.getElem?_append_right (by omega),hl,Nat.add_sub_cancel_left]
      exact waitN_at h1 h2
theorem conA_pre (cs:List Ct) (bs:List Bk) (d:Dm) (i:Nat):∀ m:Nat,i<m→∃ rest,conA cs bs d m=conA cs bs d i ++ (conN cs bs d i ++ rest)
  | 0,h=>by omega
  | m+1,h=>by
    by_cases hi:i<m
    · obtain ⟨rest,e⟩:=conA_pre cs bs d i m hi
      refine ⟨rest ++ conN cs bs d m,?_⟩
      show conA cs bs d m ++ _=_
      rw [e]
      simp
    · obtain rfl:i=m:=by omega
      exact ⟨[],by show conA cs bs d i ++ _=_; simp⟩
theorem arcs_wait {n:Nat} {t:Int} (hn:n<qs.length) (h1:d.r≤t) (h2:t<d.e):(arcsE qs cs bs hs d)[n*(d.e-d.r).toNat+(t-d.r).toNat]?=some ⟨⟨vtx d n t,vtx d n (t+1),roomT qs hs d n t⟩,-1,t⟩:=by
  have hl:=waitA_len qs hs d qs.length
  have h3:(n+1)*(d.e-d.r).toNat≤qs.length*(d.e-d.r).toNat:=Nat.mul_le_mul_right _ hn
  rw [Nat.add_mul,Nat.one_mul] at h3;unfold arcsE
  rw [List.getElem?_append_left (by omega)]
  exact waitA_at h1 h2 hn
theorem arcs_con {i:Nat} {c:Ct} (hc:cs[i]?=some c) {j:Nat} {t:Int} (ht:(tickL d.r d.e c.g (freeC cs bs i))[j]?=some t):(arcsE qs cs bs hs d)[(waitA qs hs d qs.length).length+(conA cs bs d i).length+j]?=some (conE d c i t):=by
  obtain ⟨rest,e⟩:=conA_pre cs bs d i cs.length (List.getElem?_eq_some_iff.1 hc).1
  have hN:conN cs bs d i=(tickL d.r d.e c.g (freeC cs bs i)).map (conE d c i):=by unfold conN; rw [hc]
  unfold arcsE
  rw [e,List.getElem?_append_right (by omega),show (waitA qs hs d qs.length).length+(conA cs bs d i).length+j-(waitA qs hs d qs.length).length=(conA cs bs d i).length+j by omega,List.getElem?_append_right (by omega),Nat.add_sub_cancel_left,List.getElem?_append_left (by
    rw [hN,List.length_map]
    exact (List.getElem?_eq_some_iff.1 ht).1),hN,List.getElem?_map,ht]
  rfl
theorem conA_next (cs:List Ct) (bs:List Bk) (d:Dm) {i:Nat} {c:Ct} (hc:cs[i]?=some c):(conA cs bs d (i+1)).length=(conA cs bs d i).length+(tickL d.r d.e c.g (freeC cs bs i)).length:=by
  show (conA cs bs d i ++ conN cs bs d i).length=_
  unfold conN;rw [hc,List.length_append,List.length_map]
theorem place_of (h:d.r≤d.e) {k N:Nat} (hk:(k:Int)<N*wd d):∃ (n:Nat) (t:Int),n<N∧d.r≤t∧t≤d.e∧(k:Int)=vtx d n t∧k=n*(wd d).toNat+(t-d.r).toNat:=by
  obtain ⟨⟨a1,a2⟩,⟨b1,b2⟩,c⟩:=vtx_of (d:=d) (v:=(k:Int)) (N:=N) (by unfold wd; omega) (by omega) hk
  obtain ⟨n,hn⟩:=Int.eq_ofNat_of_zero_le a1
  have hw:(((wd d).toNat:Nat):Int)=wd d:=by unfold wd; omega
  rw [hn] at c
  generalize (k:Int) % wd d=m at b1 b2 c
  refine ⟨n,d.r+m,by omega,b1,b2,c.symm,?_⟩
  have e:((n*(wd d).toNat+(d.r+m-d.r).toNat:Nat):Int)=(k:Int):=by
    rw [Int.natCast_add,Int.natCast_mul,hw,← c];unfold vtx;omega
  omega
end
end Go.Step
namespace Go.Eng
variable {C:Cx} {D:List Deferred} {R H:List PH} {L:Env} {K:List It}
end Go.Eng
namespace Go.Proofs.YtjehnjhkcmobcaaGreat
open Go.Eng Go.Step
set_option maxRecDepth 100000
set_option maxHeartbeats 64000000
def encEA (x:EA):List Value:=[.agg #[int x.a.f,int x.a.t,int x.a.c,int x.c,int x.t]]
theorem arcs_spec (bw:Nat) :
  Eng.Spec Tryz.prog (fv 79) [.pointer (some ⟨bw,0,none⟩)] [] [] (fun r H'=>∃ c1,r=.func (.func 131) #[] #[.pointer (some ⟨c1,0,none⟩)]∧H'=[sng c1 (.cells #[.pointer (some ⟨bw,0,none⟩)] 137 (0,0))]):=by
 refine spec_in (cap:=[]) Tryz.func79 rfl rfl Tryz.ntmps79 rfl envZ (fun N β=>?_)
 refine Aa ?_;refine BH (D5 rfl rfl) rfl rfl rfl ?_;rintro _ _ ⟨c1,rfl,rfl⟩;refine Afa ?_;refine CL ?_;refine Aaa ?_;exact AO (res1 rfl rfl) rsubZ selZ ⟨c1,rfl,rfl⟩
theorem numAt_get {d:Dm} {N:Nat} {M:List (List Int × Value)} (h:NumAt d N d.r M) {n t:Int} (h0:0≤n) (hn:n<N) (h1:d.r≤t) (h2:t≤d.e):mgetS [n,t] M=some (int (vtx d n t)):=by
 rw [h.2,if_pos (by omega)]
theorem arcs_iter {ρ τ σ υ:PH} {pq pc pb ph:Option Addr} {kq kc kb kh:Nat} {qs:List Int} {cs:List Ct} {bs:List Bk} {hs:List Hd} (hT:TbAt ρ τ σ υ pq pc pb ph kq kc kb kh qs cs bs hs) (bw bm c1 kp:Nat) (pl:Option Addr) (χ:PH) (M:List (List Int × Value)) (d:Dm) (h:VOk qs cs bs hs d) (h0:chkB qs cs bs=0) (hpl:SlE encS 2 χ (.slice pl (placesA d qs.length).length kp) (placesA d qs.length)) (hM:NumAt d qs.length d.r M) :
  Iter Tryz.prog (.func (.func 131) #[] #[.pointer (some ⟨c1,0,none⟩)]) [sng c1 (.cells #[.pointer (some ⟨bw,0,none⟩)] 137 (0,0)),sng bw (.cells #[.slice pq qs.length kq,.slice pc cs.length kc,.slice pb bs.length kb,.slice ph hs.length kh,int d.s,int d.d,int d.v,int d.r,int d.e,.slice pl (placesA d qs.length).length kp,.map (some bm)] 147 (0,0)),sng bm (mapS M),χ,ρ,τ,σ,υ] ((arcsE qs cs bs hs d).map encEA):=by
 intro y S Own Inv Stop Ry hy hyl σ0 hI0
 obtain ⟨yl,rfl⟩:=hyl
 have hdm:=h.dm
 unfold okDm at hdm
 have hnq:=h.nq
 have hnc:=h.nc
 have hMl:=hM.1
 have hW:2≤(wd d).toNat∧(wd d).toNat=(d.e-d.r).toNat+1:=by unfold wd; omega
 have hplen:=placesA_len (d:=d) (by omega) qs.length
 have hpb:(placesA d qs.length).length≤1616:=by
  have:=h.vs
  unfold vsN at this;omega
 obtain ⟨_,_,ep,hrp⟩:=hpl.val encS_len
 simp only [Value.slice.injEq] at ep
 obtain ⟨rfl,_,rfl⟩:=ep
 have bx47_3:=rdB bw 147 [.slice pq qs.length kq,.slice pc cs.length kc,.slice pb bs.length kb,.slice ph hs.length kh,int d.s,int d.d,int d.v,int d.r,int d.e,.slice pl (placesA d qs.length).length kp,.map (some bm)]
 have w0:=rdC bx47_3 0
 have w1:=rdC bx47_3 1
 have w2:=rdC bx47_3 2
 have w3:=rdC bx47_3 3
 have w4:=rdC bx47_3 4
 have w5:=rdC bx47_3 5
 have w6:=rdC bx47_3 6
 have w7:=rdC bx47_3 7
 have w8:=rdC bx47_3 8
 have w9:=rdC bx47_3 9
 have w10:=rdC bx47_3 10
 have wp:=rdQ (xs:=[_,_]) bx47_3
 have bx59_3:=rdB c1 137 [.pointer (some ⟨bw,0,none⟩)]
 have v1:=rdC bx59_3 0
 simp only [List.cons_append,List.nil_append]
 refine spec_in (cap:=[.pointer (some ⟨c1,0,none⟩)]) Tryz.func131 rfl rfl Tryz.ntmps131 rfl envZ (fun N β=>?_)
 refine Aa ?_;refine BH (D5 rfl rfl) rfl rfl rfl ?_;rintro _ _ ⟨b2,rfl,rfl⟩;refine AW (ρ:=sng b2 _) takeZ ?_
 have bx67_3:=rdB b2 220 [yv yl]
 have v2:=rdC bx67_3 0
 refine Aat ?_;refine Acz ?_;refine Af0 ?_;refine Afl ?_
 refine BA [0,1,2,13,14] (X:=Nat × S) (0,σ0) (fun z=>z.1≤(placesA d qs.length).length∧Inv (z.1-z.1 / (wd d).toNat) z.2) (fun z=>[(15,int z.1)]) (fun z=>Own z.2) (fun z=>(placesA d qs.length).length-z.1) pickZ ⟨by dsimp only; omega,by dsimp only; rw [Nat.zero_sub]; exact hI0⟩ covZ Sel.refl ?_
 rintro ⟨k,σ'⟩ ⟨hk,hI⟩
 dsimp only at hk hI ⊢
 by_cases hlt:k<(placesA d qs.length).length
 ·obtain ⟨n,t,hn,ht1,ht2,hkv,hkn⟩:=place_of (d:=d) (by omega) (k:=k) (N:=qs.length) (by omega)
  have hx:=placesA_get (d:=d) (by omega) ht1 ht2 hn
  rw [← hkv,Int.toNat_natCast] at hx
  have hdiv:k / (wd d).toNat=n:=by
   rw [hkn,Nat.mul_comm,Nat.mul_add_div (by omega),Nat.div_eq_of_lt (by omega),Nat.add_zero]
  obtain ⟨b6,o6,rfl,hRd6,y0,y1⟩:=spRow hrp hx
  have hl1:=numAt_get hM (n:=n) (t:=t) (by omega) (by omega) ht1 ht2
  have hroom:=exRoom_spec hT bw bm (.slice (some ⟨b6,o6,none⟩) (placesA d qs.length).length kp) d h n t hn
  rw [hdiv] at hI
  by_cases hte:t=d.e
  ·have hnext:(k+1)-(k+1) / (wd d).toNat=k-n:=by
    have e:k+1=(n+1)*(wd d).toNat:=by rw [Nat.add_mul,Nat.one_mul]; omega
    rw [e,Nat.mul_div_cancel _ (by omega)]
    omega
   refine Ac4 ?_;refine A4 ?_; rintro _ _ ⟨b,rfl,rfl⟩;refine AY ?_; rintro _ _ ⟨rfl,rfl⟩;refine Aat ?_;refine AC ?_
   revert b; intro b4
   refine A6 (.q 0 (.q 1 (.q 2 (.q 3 (.q 4 (.q 5 (.q 6 (.q 7 .nil)))))))) [] rfl (by kernel_rfl) Sel.nil ?_
   refine Aau ?_;refine AQ ?_;refine Ae3 ?_;refine Aby ?_;refine DP ?_;refine Ab5 ?_;refine A8 rfl ?_;refine AA ?_;refine Abe ?_
   exact AT (k+1,σ') ⟨by dsimp only; omega,by dsimp only; rw [hnext]; exact hI⟩ (by dsimp only; omega) covZ (Sel.skip Sel.refl)
  have hl2:=numAt_get hM (n:=n) (t:=t+1) (by omega) (by omega) (by omega) (by omega)
  have hnm:k-n=n*(d.e-d.r).toNat+(t-d.r).toNat:=by
   rw [hkn,hW.2,Nat.mul_add,Nat.mul_one];omega
  have hnext:(k+1)-(k+1) / (wd d).toNat=k-n+1:=by
   have e:(k+1) / (wd d).toNat=n:=by
    rw [show k+1=(wd d).toNat*n+((t-d.r).toNat+1) by rw [Nat.mul_comm]; omega,Nat.mul_add_div (by omega),Nat.div_eq_of_lt (by omega),Nat.add_zero]
   have:n≤k:=by
    have:=Nat.le_mul_of_pos_right n (show 0<(wd d).toNat by omega)
    omega
   rw [e];omega
  have hat:=arcs_wait (qs:=qs) (cs:=cs) (bs:=bs) (hs:=hs) hn ht1 (show t<d.e by omega)
  rw [← hnm] at hat
  have hya:=hy _ σ' (encEA ⟨⟨vtx d n t,vtx d n (t+1),roomT qs hs d n t⟩,-1,t⟩) (by rw [List.getElem?_map,hat]; rfl) hI
  refine Ac4 ?_;refine A4 ?_; rintro _ _ ⟨b,rfl,rfl⟩;refine AY ?_; rintro _ _ ⟨rfl,rfl⟩;refine Aat ?_;refine AC ?_
  revert b; intro b4
  refine A6 (.q 0 (.q 1 (.q 2 (.q 3 (.q 4 (.q 5 (.q 6 (.q 7 .nil)))))))) [] rfl (by kernel_rfl) Sel.nil ?_
  refine Aau ?_;refine AQ ?_;refine Ae3 ?_;refine Aby ?_;refine C7 ?_;refine Ab8 ?_;refine AC ?_
  refine DR (X:=Nat) [0,1,2,4,13,14,15] (fun _=>True) (fun x=>[(5,.pointer (some ⟨x,0,none⟩))]) (fun x=>sng x (.cells #[int (vtx d n t),int (vtx d n (t+1)),int (roomT qs hs d n t)] 157 (0,0))::sng b4 (.cells #[int (n:Int),int t] 143 (0,0))::Own σ') pickZ ?_ ?_
  ·refine A6 (.q 0 (.q 1 (.q 2 (.q 3 (.q 4 (.q 5 (.q 6 (.q 7 (.q 8 (.q 9 (.q 10 (.q 11 (.q 12 (.q 13 (.q 14 (.q 15 (.q 16 (.q 17 (.q 18 (.l2 19 .e (.q 20 (.l 21 .e (.l 22 .b .nil))) 21 .e (.l 19 .e (.q 20 (.l 22 .b .nil))))))))))))))))))))))) [] rfl (by kernel_rfl) Sel.nil ?_
   repeat' (first
    | (refine AQ ?_)
    | (refine AX ?_)
    | (refine BE ?_)
    | (refine CY ?_)
    | (refine BJ ?_)
    | (refine CV ?_)
    | (focus ((refine' C1 rfl _ rfl rfl rfl rfl _; rotate_left; (focus (first|exact DN 2 [(n:Int),t] rfl rfl rfl ⟨by kernel_rfl,by kernel_rfl⟩ rfl hMl rfl hl1 (mapAtS_rd memZ)|exact DN 2 [(n:Int),t+1] rfl rfl rfl ⟨by kernel_rfl,by kernel_rfl⟩ rfl hMl rfl hl2 (mapAtS_rd memZ))))))
    | (focus ((refine CC rfl hroom rfl rfl rdZ rfl rfl ?_; rintro _ rfl)))
    | (refine A7 ?_)
    | (refine DS ?_ ?_)
    | (focus ((refine CF (CC rfl hroom rfl rfl rdZ rfl rfl ?_); rintro _ rfl)))
    | (focus ((refine CF ?_; refine' FW rfl _ rfl rfl _ _; rotate_left; (focus (apply DV; exact rfl; exact rfl; exact takeZ; exact oneZ; exact rfl; exact rfl)); (focus (rintro _ _ ⟨_,rfl⟩ w hw; exact hw.sel Sel.nil)); rintro _ _ ⟨rfl,rfl⟩)))
    | (refine C5 ?_; rintro _ _ ⟨b,rfl,rfl⟩)
    | (refine CS ?_; rintro _ _ ⟨b,rfl,rfl⟩)
    | fail)
   all_goals (refine B5 _ trivial covZ Sel.refl)
  rintro b5 _;refine Acz ?_;refine AV ?_;refine Aad ?_;refine CW (BW (out:=[int (vtx d n t),int (vtx d n (t+1)),int (roomT qs hs d n t),int (-1),int t]) rfl rfl rfl rfl rfl) rfl rfl rfl ?_
  refine BL hya rfl rfl (Takes.skip (Takes.skip Takes.all)) (fun τ hτ=>.inl (by simp [hτ])) rfl rfl ?_
  rintro _ H' ⟨σ3,rfl,⟨rfl,hI3⟩|⟨rfl,hSt⟩⟩
  ·refine DD (H':=_::_::Own σ3) (List.perm_append_comm (l₂:=[_,_])) ?_
   refine Acw ?_;refine Abf ?_
   exact AT (k+1,σ3) ⟨by dsimp only; omega,by dsimp only; rw [hnext]; exact hI3⟩ (by dsimp only; omega) covZ (Sel.skip (Sel.skip Sel.refl))
  ·refine BN ?_
   refine Aag ?_
   exact AO (res0 rfl) (fun _ h=>List.mem_cons_of_mem _ h) Sel.left ⟨σ3,rfl,.inr hSt⟩
 have hke:k=(placesA d qs.length).length:=by omega
 subst hke
 have hcnt:(placesA d qs.length).length-(placesA d qs.length).length / (wd d).toNat=(waitA qs hs d qs.length).length:=by
  have e:(placesA d qs.length).length=qs.length*(wd d).toNat:=by
   have hw:(((wd d).toNat:Nat):Int)=wd d:=by unfold wd; omega
   have:(((placesA d qs.length).length:Nat):Int)=((qs.length*(wd d).toNat:Nat):Int):=by rw [hplen,Int.natCast_mul,hw]
   omega
  rw [e,Nat.mul_div_cancel _ (by omega),waitA_len,hW.2,Nat.mul_add,Nat.mul_one]
  omega
 rw [hcnt] at hI;refine BZ ?_;refine Acd ?_;refine Acz ?_;refine CG ?_;refine AG ?_;refine Acx ?_;refine Ab6 ?_
 refine EL [0,1,2,61,62] (X:=Nat × S × (List Nat × PH)) (0,σ',([],emp)) (fun x=>x.2.2.1.map mk) (fun x=>x.1≤cs.length∧Inv ((waitA qs hs d qs.length).length+(conA cs bs d x.1).length) x.2.1∧MkIn x.2.2.2 x.2.2.1) (fun x=>[(63,int x.1)]) (fun x=>x.2.2.2::Own x.2.1) (fun x=>cs.length-x.1) pickZ rfl ⟨by dsimp only; omega,hI,MkIn.nil⟩ covZ Sel.refl ?_
 rintro ⟨i,σ4,ms,μ⟩ ⟨hi,hI4,hMk⟩
 dsimp only at hi hI4 hMk ⊢
 by_cases hlt2:i<cs.length
 rotate_left
 ·have hie:i=cs.length:=by omega
  subst hie;refine Acd ?_
  refine GX hMk Take.here (res0 rfl) (fun _ h=>List.mem_cons_of_mem _ h) Sel.refl ⟨σ4,rfl,.inl ?_⟩
  rw [List.length_map];unfold arcsE;rw [List.length_append];exact hI4
 have hc:=List.getElem?_eq_getElem hlt2
 have hct:=h.ct _ (List.getElem_mem hlt2)
 have hcn:=conA_next cs bs d hc
 obtain ⟨b8,o8,rfl,hRd8⟩:=ctRow hT.rc hc
 have hticks:=fun c1' c2'=>ticks_iter hT bw bm c1' c2' (.slice pl (placesA d qs.length).length kp) d h h0 i _ hc
 have hat:=fun (j:Nat) (t:Int) (ht:(tickL d.r d.e cs[i].g (freeC cs bs i))[j]?=some t)=>arcs_con (qs:=qs) (hs:=hs) hc ht
 have hfree:=(h.free hc).2.2
 generalize cs[i]=x at hc hct hcn hRd8 hticks hat hfree
 refine Afb ?_;refine CK ?_; rintro _ _ ⟨b,rfl,rfl⟩;refine A4 ?_; rintro _ _ ⟨b,rfl,rfl⟩;refine BS ?_; rintro _ _ ⟨rfl,rfl⟩;refine AY ?_; rintro _ _ ⟨rfl,rfl⟩;refine AE ?_;refine Acz ?_;refine AF ?_
 revert b; intro b7
 revert b; intro b6
 refine BL (ticks_spec bw i) rfl rfl Takes.nil (fun τ hτ=>by simp at hτ) rfl rfl ?_
 rintro _ _ ⟨c3,c4,rfl,rfl⟩;refine AW (ρ:=sng c3 _) takeZ ?_;refine AW (ρ:=sng c4 _) takeZ ?_;refine AW (ρ:=sng b6 _) takeZ ?_;refine AW (ρ:=sng b7 _) takeZ ?_
 have bx313_3:=rdB b6 3 [int (i:Int)]
 have g6:=rdC bx313_3 0
 have bx314_3:=rdB b7 114 [int x.f,int x.t,int x.s,int x.e,int x.r,int x.g,int x.l]
 have f0:=rdC bx314_3 0
 have f1:=rdC bx314_3 1
 have f4:=rdC bx314_3 4
 have f5:=rdC bx314_3 5
 refine AE ?_;refine AM ?_
 refine D4 (gf:=178) (cap:=[.pointer (some ⟨c3,0,none⟩),.pointer (some ⟨c4,0,none⟩)]) (ps:=[71]) (X:=S) rfl Tryz.func178 rfl rfl
  (hticks c3 c4) ?_ (fun j σ=>Inv ((waitA qs hs d qs.length).length+(conA cs bs d i).length+j) σ) (fun σ=>Own σ) (fun c σ=>c=.ret∧Stop σ) σ4 rfl (Takes.skip Takes.all) hI4 ?_ ?_ ?_
 ·intro σ' hσ
  simp only [List.mem_cons,List.not_mem_nil,or_false] at hσ ⊢
  rcases hσ with h|h|h|h|h|h|h <;> simp [h]
 ·rintro lo r j σ5 vs hvs hI5 hps has hbd hst hpe hfr
  obtain ⟨st,pe,fnn,tm,prm,asg,bdy,df⟩:=r
  simp only at hps has hbd hst hpe hfr;subst hps has hbd hst hpe;rw [List.getElem?_map] at hvs
  obtain ⟨t,ht,rfl⟩:=Option.map_eq_some_iff.1 hvs
  obtain ⟨_,ht1,ht2⟩:=mem_tickL.1 (List.mem_of_getElem? ht)
  have hl1:=numAt_get hM (n:=x.f) (t:=t) hct.1.1 hct.1.2 ht1 (by omega)
  have hl2:=numAt_get hM (n:=x.t) (t:=t+1+x.g) hct.2.1.1 hct.2.1.2 (by omega) (by omega)
  have hya:=hy _ σ5 (encEA (conE d x i t)) (by rw [List.getElem?_map,hat j t ht]; rfl) hI5
  refine yield_spec hfr rfl (by intro p hp; simp at hp; omega) putiZ (fun N' β'=>?_)
  dsimp only
  refine AA ?_;refine Aaa ?_;refine DI rfl rfl ?_;refine DW takeZ rfl ?_;refine AM ?_;refine AC ?_
  refine A6 (.q 0 (.q 1 (.q 2 (.q 3 (.q 4 (.q 5 (.q 6 (.q 7 (.q 8 (.q 9 (.q 10 (.q 11 (.q 12 (.q 13 (.q 14 (.q 15 (.q 16 (.q 17 (.q 18 (.q 19 (.q 20 (.q 21 (.q 22 (.q 23 (.q 24 (.l 25 .e (.l 26 .b .nil))))))))))))))))))))))))))) [] rfl (by kernel_rfl) Sel.nil ?_
  refine AQ ?_;refine Aec ?_;refine Acl ?_;refine CV ?_
  focus ((refine' C1 rfl _ rfl rfl rfl rfl _; rotate_left; (focus (first|exact DN 2 [x.f,t] rfl rfl rfl ⟨by kernel_rfl,by kernel_rfl⟩ rfl hMl rfl hl1 (mapAtS_rd memZ)|exact DN 2 [x.t,t+1+x.g] rfl rfl rfl ⟨by kernel_rfl,by kernel_rfl⟩ rfl hMl rfl hl2 (mapAtS_rd memZ)))))
  refine AQ ?_;refine Aec ?_;refine Acl ?_;refine Ag4 ?_;refine CV ?_
  focus ((refine' C1 rfl _ rfl rfl rfl rfl _; rotate_left; (focus (first|exact DN 2 [x.f,t] rfl rfl rfl ⟨by kernel_rfl,by kernel_rfl⟩ rfl hMl rfl hl1 (mapAtS_rd memZ)|exact DN 2 [x.t,t+1+x.g] rfl rfl rfl ⟨by kernel_rfl,by kernel_rfl⟩ rfl hMl rfl hl2 (mapAtS_rd memZ)))))
  refine Aau ?_;refine CV ?_;refine C5 ?_; rintro _ _ ⟨b,rfl,rfl⟩
  focus ((refine CF ?_; refine' FW rfl _ rfl rfl _ _; rotate_left; (focus (apply DV; exact rfl; exact rfl; exact takeZ; exact oneZ; exact rfl; exact rfl)); (focus (rintro _ _ ⟨_,rfl⟩ w hw; exact hw.sel Sel.nil)); rintro _ _ ⟨rfl,rfl⟩))
  refine A7 ?_
  revert b; intro b9
  refine Acz ?_;refine AV ?_;refine Abq ?_;refine CW (BW (out:=[int (vtx d x.f t),int (vtx d x.t (t+1+x.g)),int x.r,int (i:Int),int t]) rfl rfl rfl rfl rfl) rfl rfl rfl ?_
  refine BL hya rfl rfl (Takes.skip (Takes.skip Takes.all)) (fun τ hτ=>.inl (by simp [hτ])) rfl rfl ?_
  rintro _ H' ⟨σ6,rfl,⟨rfl,hI6⟩|⟨rfl,hSt⟩⟩
  ·refine DD (H':=_::_::Own σ6) (List.perm_append_comm (l₂:=[_,_])) ?_
   refine Acw ?_;refine A2 ?_;exact CH (Take.there Take.here) rsubZ (Sel.cons Take.here (Sel.skip Sel.refl)) ⟨σ6,.inl ⟨rfl,hI6,rfl⟩⟩
  ·refine DD (H':=_::_::Own σ6) (List.perm_append_comm (l₂:=[_,_])) ?_
   refine BN ?_;refine Aag ?_;exact FO (Take.there Take.here) rsubZ (Sel.cons Take.here (Sel.skip Sel.refl)) ⟨σ6,.inr ⟨rfl,.ret,⟨rfl,hSt⟩,rfl⟩⟩
 ·rintro b9 σ5 hI5
  rw [List.length_map] at hI5;refine DD (H':=sng b9 defO::μ::Own σ5) (List.Perm.cons _ (List.perm_append_comm (l₂:=[_]))) ?_
  refine EK (R':=_) (fun _ h=>List.mem_cons_of_mem _ (List.mem_cons_of_mem _ (List.mem_cons_of_mem _ (List.mem_cons_of_mem _ (h))))) ?_
  refine DT (b:=b9) Take.here (μ:=μ) Take.here hMk ?_
  intro μ2 hM2
  refine A2 ?_;refine Abf ?_
  refine EC (i+1,σ5,(b9::ms,μ2)) rfl ⟨by dsimp only; omega,?_,hM2⟩ (by dsimp only; omega) covZ Sel.refl
  dsimp only
  rw [hcn,← Nat.add_assoc];exact hI5
 ·rintro b9 c σ5 ⟨rfl,hSt⟩
  refine DD (H':=sng b9 defO::μ::Own σ5) (List.Perm.cons _ (List.perm_append_comm (l₂:=[_]))) ?_;refine DT (b:=b9) Take.here (μ:=μ) Take.here hMk ?_
  intro μ2 hM2
  exact EJ (ms:=b9::ms) hM2 Take.here (res0 rfl) (fun _ h=>List.mem_cons_of_mem _ (List.mem_cons_of_mem _ (List.mem_cons_of_mem _ (List.mem_cons_of_mem _ (List.mem_cons_of_mem _ (h)))))) Sel.refl ⟨σ5,rfl,.inr hSt⟩
end Go.Proofs.YtjehnjhkcmobcaaGreat
namespace Go.Eng
variable {L:Env} {R H:List PH}
theorem resS1 {fn:Func} {N:Bs} {M:Nat} {P:Program} {t b1:Nat} {T:TypeId} {v1:List Value} (hr:fn.results = #[.cell t T]) (ht:look L t=some (.pointer (some ⟨b1,0,none⟩))) (a1:aggP P T=some true)
    (n1:szP P T=some v1.length) (c1:Cells N R H b1 0 v1):∀ a w,Frm M L a→Sat N R H w→(results fn a.tmps).run P w=.ok (.agg v1.toArray) w:=by
  intro a w hf hs
  have e1:a.tmps[t]?.getD undef=.pointer (some ⟨b1,0,none⟩):=by simpa using hf.get t _ ht
  have l1:=run_loadCells_list (P:=P) (w:=w) ⟨b1,0,none⟩ v1 (fun j v hv=>by rw [Addr.add_lit]; exact c1 w hs j v hv)
  simp [results,hr,e1,loadVar,run_isAgg a1,run_sizeOf n1,l1,asAddr]
theorem resSE {fn:Func} {N:Bs} {M:Nat} {P:Program} {t u b1:Nat} {T:TypeId} {v1:List Value} {v2:Value} (hr:fn.results = #[.cell t T,.tmp u]) (ht:look L t=some (.pointer (some ⟨b1,0,none⟩))) (hu:look L u=some v2) (a1:aggP P T=some true)
    (n1:szP P T=some v1.length) (c1:Cells N R H b1 0 v1):∀ a w,Frm M L a→Sat N R H w→(results fn a.tmps).run P w=.ok (.tuple #[.agg v1.toArray,v2]) w:=by
  intro a w hf hs
  have e1:a.tmps[t]?.getD undef=.pointer (some ⟨b1,0,none⟩):=by simpa using hf.get t _ ht
  have e2:a.tmps[u]?.getD undef=v2:=by simpa using hf.get u _ hu
  have l1:=run_loadCells_list (P:=P) (w:=w) ⟨b1,0,none⟩ v1 (fun j v hv=>by rw [Addr.add_lit]; exact c1 w hs j v hv)
  simp [results,hr,e1,e2,loadVar,run_isAgg a1,run_sizeOf n1,l1,asAddr]
end Go.Eng
