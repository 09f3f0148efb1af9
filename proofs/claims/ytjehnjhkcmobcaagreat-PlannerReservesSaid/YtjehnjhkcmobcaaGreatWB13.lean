/- Texts of this proof, one after the other; no conditions. -/
import Derived.Test.YtjehnjhkcmobcaaGreatWB12
import Derived.Test.YtjehnjhkcmobcaaGreatWB3
import Derived.Test.YtjehnjhkcmobcaaGreatWB8
import Derived.Test.YtjehnjhkcmobcaaGreatWB5
import Derived.Test.YtjehnjhkcmobcaaGreatWB9
import Derived.Test.YtjehnjhkcmobcaaGreatWB2
import Derived.Test.YtjehnjhkcmobcaaGreatWB7
import Derived.Test.YtjehnjhkcmobcaaGreatWB4
import Derived.Test.YtjehnjhkcmobcaaGreatWB10
import Derived.Test.YtjehnjhkcmobcaaGreatWB6
set_option linter.all false
/- The holds of shipments. -/
namespace Go.Proofs.YtjehnjhkcmobcaaGreat
open Go.Eng Go.Step
set_option maxRecDepth 100000
set_option maxHeartbeats 64000000
theorem holds_spec {ρ τ σ υ:PH} (ω:PH) {pq pc pb ph:Option Addr} {kq kc kb kh:Nat} {qs:List Int} {cs:List Ct} {bs:List Bk} {hs:List Hd} (hT:TbAt ρ τ σ υ pq pc pb ph kq kc kb kh qs cs bs hs) (v:Value) (l:List Sh) (hv:ShAt ω v l) (hll:l.length≤500000) (hok:∀ x∈l,ShB cs x) (hnh:hs.length≤512) (hnq:qs.length≤1000) :
  Eng.Spec Tryz.prog (fv 35) [.agg #[.slice pq qs.length kq,.slice pc cs.length kc,.slice pb bs.length kb,.slice ph hs.length kh],v] [ρ,τ,σ,υ,ω] [] (fun r H'=>∃ u e χ,r=.tuple #[u,int e]∧H'=[χ]∧((negA cs qs.length l∧e=24)∨(¬ negA cs qs.length l∧512<hs.length+(holdsA cs l qs.length).length∧e=4)∨(¬ negA cs qs.length l∧hs.length+(holdsA cs l qs.length).length≤512∧e=0∧OwnS 99 5 u (holdsA cs l qs.length).length ((holdsA cs l qs.length).flatMap encH) χ))):=by
 have hql:=hT.lq
 refine spec_in (cap:=[]) Tryz.func35 rfl rfl Tryz.ntmps35 rfl envZ (fun N β=>?_)
 refine Aa ?_;refine BH (BO rfl) rfl rfl rfl ?_;rintro _ _ ⟨b1,rfl,rfl⟩;refine AW (ρ:=sng b1 _) takeZ ?_
 have ct:=rdB b1 29 [.slice pq qs.length kq,.slice pc cs.length kc,.slice pb bs.length kb,.slice ph hs.length kh]
 have ct0:=rdC ct 0
 have ct1:=rdC ct 1
 have ct2:=rdC ct 2
 have ct3:=rdC ct 3
 have ctp:=rdQ (xs:=[_,_]) ct
 refine BZ ?_;refine Aal ?_;refine Aai ?_;refine Aai ?_;refine AC ?_;refine Aa ?_;refine Acx ?_;refine Ab6 ?_
 refine BA [1,2,20] (X:=Nat × List Hd × Bool × Value × PH) (0,[],false,.slice none 0 0,emp) (fun x=>x.1≤qs.length∧(∀ m:Nat,m<x.1→negN cs m l=false)∧TruncH hs.length x.2.1 (holdsA cs l x.1) x.2.2.1∧OwnS 99 5 x.2.2.2.1 x.2.1.length (x.2.1.flatMap encH) x.2.2.2.2) (fun x=>[(21,int x.1),(6,x.2.2.2.1),(7,.bool x.2.2.1)]) (fun x=>[x.2.2.2.2]) (fun x=>qs.length-x.1) pickZ ⟨by dsimp only; omega,by intro m hm; dsimp only at hm; omega,TruncH.nil hnh,OwnS.nil _ _⟩ covZ selZ ?_
 rintro ⟨k,O,mny,u,χ⟩ ⟨hk,hng,hTr,hO⟩
 dsimp only at hk hng hTr hO ⊢
 by_cases hlt:k<qs.length
 rotate_left
 ·have hke:k=qs.length:=by omega
  rw [hke] at hTr hng
  have hnA:¬ negA cs qs.length l:=fun ⟨n,h1,h2⟩=>by rw [hng n h1] at h2; simp at h2
  cases mny with
  | true =>
   rcases hTr with ⟨h,_⟩|⟨_,h1,h2,h3⟩
   ·simp at h
   refine Acd ?_;refine Aah ?_;refine Acg ?_;refine Aal ?_
   exact AO (res2 rfl rfl rfl) rsubZ selZ ⟨_,4,χ,rfl,rfl,.inr (.inl ⟨hnA,by omega,rfl⟩)⟩
  | false =>
   rcases hTr with ⟨_,rfl,h1⟩|⟨h,_⟩
   rotate_left
   ·simp at h
   refine Acd ?_;refine Aah ?_;refine Aak ?_;refine Afh ?_;exact AO (res2 rfl rfl rfl) rsubZ selZ ⟨_,0,χ,rfl,rfl,.inr (.inr ⟨hnA,h1,rfl,hO⟩)⟩
 have hOl:=hTr.len
 refine Abk ?_;refine Aca ?_;refine Abt ?_;refine Aao ?_
 refine BL (changes_spec ω hT v l (k:Int) hv (by omega) hok) rfl rfl Takes.nil rdZ rfl rfl ?_
 rintro _ _ ⟨bm,m,rfl,rfl,hE⟩
 by_cases hz:netS cs (k:Int) l=0
 rotate_left
 ·rw [decide_eq_false hz]
  have hn1:negN cs (k:Int) l=false:=by unfold negN; rw [decide_eq_false hz,Bool.false_and]
  have hod:=holdsA_odd hz
  refine Adi ?_;refine BN ?_;refine Aag ?_;refine A8 rfl ?_;refine AA ?_;refine Abe ?_
  exact AT (k+1,O,mny,u,χ) ⟨by dsimp only; omega,fun m hm=>by dsimp only at hm; rcases Nat.lt_succ_iff_lt_or_eq.1 hm with h|rfl; exact hng m h; exact hn1,by dsimp only; rw [hod]; exact hTr,hO⟩ (by dsimp only; omega) covZ selZ
 rw [decide_eq_true hz]
 have hev:=holdsA_even hz
 refine Adi ?_;refine Acw ?_;refine Aac ?_;refine BL (intervals_spec cs (k:Int) l bm m hE hok hll) rfl rfl Takes.nil rdZ rfl rfl ?_;rintro _ _ ⟨u1,u2,okk,σ1,σ2,rfl,rfl,⟨rfl,y,hy,hneg⟩|⟨rfl,hnn,hO1,hO2⟩⟩
 ·have hn1:negN cs (k:Int) l=true:=by
   unfold negN;rw [decide_eq_true hz,Bool.true_and,List.any_eq_true];exact ⟨y,hy,decide_eq_true hneg⟩
  refine Ab ?_;refine AP ?_;refine Agx ?_;refine Afo ?_;refine Aal ?_;exact AO (res2 rfl rfl rfl) rsubZ selZ ⟨_,24,χ,rfl,rfl,.inl ⟨⟨k,hlt,hn1⟩,rfl⟩⟩
 have hn1:negN cs (k:Int) l=false:=by
  unfold negN;rw [decide_eq_true hz,Bool.true_and,List.any_eq_false]
  intro y hy
  have:=hnn y hy
  simp
  omega
 have hLl:=spL_len (lvN cs (k:Int) l)
 have hll2:=lvN_len cs (k:Int) l
 have hLv:∀ p∈spL (lvN cs (k:Int) l),0<p.2∧p.2≤1000000000:=fun p hp=>by
  obtain ⟨q1,q2,q3,⟨y,hy,e1,e2⟩,_⟩:=spL_low (p:=-1000000000000000) (lvN_ok cs (k:Int) l).1 (fun y hy=>by
   have h1:=(((lvN_ok cs (k:Int) l).2.1 y).1 hy).2
   have h3:y.a∈evsN cs (k:Int) l:=Classical.not_not.1 (fun h=>h1 (chg_evs h))
   obtain ⟨x,hx,⟨_,h4⟩|⟨_,h4⟩⟩:=mem_evsN.1 h3
   ·obtain ⟨c,_,_,_,h5,_⟩:=hok x hx
    omega
   ·obtain ⟨c,_,h8,_,h5,_,h6⟩:=hok x hx
    rw [h4];unfold arrOf;rw [h8]
    omega) p hp
  have h1:=(((lvN_ok cs (k:Int) l).2.1 y).1 hy).1
  have h2:=haveS_bd cs (k:Int) y.a l (fun z hz=>(hok z hz).n)
  omega
 have hI1:SlE encS 2 σ1 u1 ((spL (lvN cs (k:Int) l)).map (fun p=>p.1)):=hO1.at
 have hI2:IntsAt σ2 u2 ((spL (lvN cs (k:Int) l)).map (fun p=>p.2)):=hO2.at
 obtain ⟨pu1,ku1,rfl⟩:=hO1.form
 obtain ⟨pu2,ku2,rfl⟩:=hO2.form
 have hr1:=rowN encS_len hI1
 have hr2:=rowN Eng.encI_len hI2
 generalize hL:spL (lvN cs (k:Int) l)=Ls at hev hO1 hO2 hLl hLv hI1 hI2 hr1 hr2
 have e1:(Ls.map (fun p=>p.1)).length=Ls.length:=List.length_map _
 have e2:(Ls.map (fun p=>p.2)).length=Ls.length:=List.length_map _
 rw [e1,e2];refine Ab ?_;refine AP ?_;refine Agx ?_;refine Acw ?_;refine Aac ?_;refine Afl ?_
 refine BA [1,2,8,12,20,21,41,42] (X:=Nat × List Hd × Bool × Value × PH) (0,O,mny,u,χ) (fun x=>x.1≤Ls.length∧TruncH hs.length x.2.1 (holdsA cs l k ++ holdsT (k:Int) (Ls.take x.1)) x.2.2.1∧OwnS 99 5 x.2.2.2.1 x.2.1.length (x.2.1.flatMap encH) x.2.2.2.2) (fun x=>[(43,int x.1),(6,x.2.2.2.1),(7,.bool x.2.2.1)]) (fun x=>[σ1,σ2,x.2.2.2.2]) (fun x=>Ls.length-x.1) pickZ ⟨by dsimp only; omega,by dsimp only; rw [List.take_zero]; show TruncH _ _ (_ ++ []) _; rw [List.append_nil]; exact hTr,hO⟩ covZ selZ ?_
 rintro ⟨i,O1,mny1,w1,χ1⟩ ⟨hi,hTr1,hO3⟩
 dsimp only at hi hTr1 hO3 ⊢
 by_cases hil:i<Ls.length
 rotate_left
 ·have hie:i=Ls.length:=by omega
  rw [hie,List.take_length,← hev] at hTr1;refine Acd ?_;refine Abf ?_
  exact AT (k+1,O1,mny1,w1,χ1) ⟨by dsimp only; omega,fun m hm=>by dsimp only at hm; rcases Nat.lt_succ_iff_lt_or_eq.1 hm with h|rfl; exact hng m h; exact hn1,hTr1,hO3⟩ (by dsimp only; omega) covZ selZ
 have hx:=List.getElem?_eq_getElem hil
 have hsn:=holdsT_snoc (k:Int) Ls i hil
 have hxv:=hLv _ (List.getElem_mem hil)
 obtain ⟨b3,o3,rfl,hrd3,hq0,hq1⟩:=spRow hr1 (show (Ls.map (fun p=>p.1))[i]?=some Ls[i].1 by rw [List.getElem?_map,hx]; rfl)
 obtain ⟨b4,o4,rfl,g4⟩:=hr2.int (show (Ls.map (fun p=>p.2))[i]?=some Ls[i].2 by rw [List.getElem?_map,hx]; rfl)
 generalize Ls[i]=x at hx hsn hxv hrd3 hq0 hq1 g4
 obtain ⟨⟨xa,xb⟩,sz⟩:=x
 dsimp only at hsn hxv hrd3 hq0 hq1 g4
 refine Afb ?_;refine A4 ?_; rintro _ _ ⟨b,rfl,rfl⟩;refine AD ?_;refine AY ?_; rintro _ _ ⟨rfl,rfl⟩;refine AE ?_;refine Aay ?_;refine Acb ?_;refine Aaa ?_;refine AM ?_
 revert b; intro b15
 skip
 refine BA [1,2,8,12,15,20,21,41,42,43] (X:=Nat × List Hd × Bool × Value × PH) (0,O1,mny1,w1,χ1) (fun x=>x.1≤pieceN sz∧TruncH hs.length x.2.1 (holdsA cs l k ++ holdsT (k:Int) (Ls.take i) ++ pieces (k:Int) xa xb sz x.1) x.2.2.1∧OwnS 99 5 x.2.2.2.1 x.2.1.length (x.2.1.flatMap encH) x.2.2.2.2) (fun x=>[(16,int (sz-65536*(x.1:Int))),(6,x.2.2.2.1),(7,.bool x.2.2.1)]) (fun x=>[sng b15 (.cells #[int xa,int xb] 152 (0,0)),σ1,σ2,x.2.2.2.2]) (fun x=>pieceN sz-x.1) pickZ ⟨by dsimp only; omega,by dsimp only; rw [pieces_zero,List.append_nil]; exact hTr1,hO3⟩ (by dsimp only; rw [show sz-65536*((0:Nat):Int)=sz by omega]; exact covZ) selZ ?_
 rintro ⟨j,O2,mny2,w2,χ2⟩ ⟨hj,hTr2,hO4⟩
 dsimp only at hj hTr2 hO4 ⊢
 have hpb:=(pieceN_ok hxv.1).1
 by_cases hpos:0<sz-65536*(j:Int)
 rotate_left
 ·have hje:=pieceN_end hj hpos
  rw [hje,List.append_assoc,← hsn] at hTr2;refine Aah ?_;refine B7 ?_;refine Aa4 ?_;refine AN ?_;refine Aa7 ?_;refine Abf ?_
  exact AT (i+1,O2,mny2,w2,χ2) ⟨by dsimp only; omega,hTr2,hO4⟩ (by dsimp only; omega) covZ selZ
 cases mny2 with
 | true =>
  have hTr3:TruncH hs.length O2 (holdsA cs l k ++ holdsT (k:Int) (Ls.take (i+1))) true:=hTr2.more (by
   rw [hsn];simp only [List.length_append,pieces_len]
   omega)
  refine Aah ?_;refine CT ?_;refine Aao ?_;refine BN ?_;refine AR ?_;refine Aa7 ?_;refine Abf ?_
  exact AT (i+1,O2,true,w2,χ2) ⟨by dsimp only; omega,hTr3,hO4⟩ (by dsimp only; omega) covZ selZ
 | false =>
 have hO2l:=hTr2.short
 have hj1:=pieceN_lt hpos
 have hps:=hTr2.push ⟨(k:Int),xa,xb,min (sz-65536*(j:Int)) 65536,0⟩
 rw [List.append_assoc,← pieces_snoc] at hps;refine Aah ?_;refine CT ?_;refine Aao ?_;refine BN ?_;refine AR ?_;refine Aa1 ?_;refine Aac ?_;refine Abj ?_;refine AB ?_;refine EX ?_;refine BY ?_;refine AZ ?_; rintro _ _ ⟨b,rfl,rfl⟩
 refine BH (BI (by_:=40) (s:=5) (news:=[int (k:Int),int xa,int xb,int (min (sz-65536*(j:Int)) 65536),int 0]) rfl rfl rfl rfl rfl rfl rfl hO4 takeZ (cells_own memZ) rfl oneZ (by omega) (by simp only [maxLen]; omega) (by omega)) rfl rfl rfl ?_
 rintro u3 _ ⟨σ3,hO5,rfl⟩
 obtain ⟨p3,k3,rfl⟩:=hO5.form
 have hgoal:OwnS 99 5 (.slice p3 (O2.length+1) k3) (O2 ++ [(⟨(k:Int),xa,xb,min (sz-65536*(j:Int)) 65536,0⟩:Hd)]).length ((O2 ++ [(⟨(k:Int),xa,xb,min (sz-65536*(j:Int)) 65536,0⟩:Hd)]).flatMap encH) σ3:=by
  rw [List.length_append,List.flatMap_append];exact hO5
 by_cases hc:512<hs.length+(O2.length+1)
 ·rw [decide_eq_true hc] at hps
  refine Aaa ?_;refine AA ?_;refine Aad ?_;refine AU ?_;refine Ada ?_;refine CB ?_;refine CT ?_;refine Aaa ?_;refine Aax ?_;refine CP ?_;refine Aaa ?_
  refine AT (j+1,O2 ++ [(⟨(k:Int),xa,xb,min (sz-65536*(j:Int)) 65536,0⟩:Hd)],true,.slice p3 (O2.length+1) k3,σ3) ⟨by dsimp only; omega,hps,hgoal⟩ (by dsimp only; omega) ?_ selZ
  dsimp only
  rw [show sz-65536*((j+1:Nat):Int)=sz-65536*(j:Int)-65536 by omega]
  exact covZ
 ·rw [decide_eq_false hc] at hps
  refine Aaa ?_;refine AA ?_;refine Aad ?_;refine AU ?_;refine Ada ?_;refine CB ?_;refine B7 ?_;refine Aaa ?_;refine Aax ?_;refine CP ?_;refine Aaa ?_
  refine AT (j+1,O2 ++ [(⟨(k:Int),xa,xb,min (sz-65536*(j:Int)) 65536,0⟩:Hd)],false,.slice p3 (O2.length+1) k3,σ3) ⟨by dsimp only; omega,hps,hgoal⟩ (by dsimp only; omega) ?_ selZ
  dsimp only
  rw [show sz-65536*((j+1:Nat):Int)=sz-65536*(j:Int)-65536 by omega]
  exact covZ
theorem addT_len (out:List Bk) (x:Int × Int):(addT out x).length≤out.length+1:=by
 unfold addT
 split
 ·split
  ·rw [List.length_append,List.length_dropLast,List.length_singleton]; omega
  ·simp
 ·simp
theorem runsK_len:∀ K:List (Int × Int),(runsK K).length≤K.length:=fun K=>by
 have h:∀ k,k≤K.length→(runsK (K.take k)).length≤k:=fun k=>by
  induction k with
  | zero=>intro _; simp [runsK]
  | succ k ih =>
   intro hk
   rw [List.take_succ_eq_append_getElem (by omega),runsK_snoc]
   have:=addT_len (runsK (K.take k)) K[k]
   have:=ih (by omega)
   omega
 have:=h K.length (Nat.le_refl _)
 rwa [List.take_length] at this
theorem set_last {α:Type} (l:List α) (x y:α):(l ++ [x]).set ((l ++ [x]).length-1) y=l ++ [y]:=by
 rw [List.length_append,List.length_singleton,Nat.add_sub_cancel,List.set_append_right _ _ (Nat.le_refl _),Nat.sub_self]
 rfl
theorem bookings_spec (ω:PH) (v:Value) (l:List Sh) (hv:ShAt ω v l) (hll:l.length≤1000000) (hok:∀ x∈l,0≤x.t∧x.t≤1099511627776) (hnd:(ticksS l).Nodup) :
  Makes Tryz.prog (fv 37) [v] [ω] (fun r σ=>∃ R:List Bk,OwnS 95 4 r R.length (R.flatMap encB) σ∧R.length≤l.length∧R.Nodup∧∀ b,b∈R↔IsRun (ticksS l) b):=by
 obtain ⟨q,cc,rfl,hr⟩:=hv.val encX_len
 have htl:(ticksS l).length=l.length:=by unfold ticksS; rw [List.length_map]
 refine spec_in (cap:=[]) Tryz.func37 rfl rfl Tryz.ntmps37 rfl envZ (fun N β=>?_)
 refine BZ ?_;refine Aai ?_;refine Aac ?_;refine AU ?_
 refine BH (GB (enc:=encS) (s:=2) (by_:=16) ((0,0):Int × Int) rfl rfl rfl rfl rfl rfl rfl rfl (by omega) (by omega)) rfl rfl rfl ?_
 rintro _ _ ⟨bk,rfl,rfl⟩;refine Af2 ?_
 refine BA [0,3,13,14] (X:=Nat × List (Int × Int)) (0,List.replicate l.length (0,0)) (fun x=>x.1≤l.length∧x.2.length=l.length∧x.2.take x.1=(ticksS l).take x.1) (fun x=>[(15,int x.1)]) (fun x=>[sng bk (.cells (elems encS x.2) 173 (0,0)),emp]) (fun x=>l.length-x.1) pickZ ⟨by dsimp only; omega,by simp,by simp⟩ covZ selZ ?_
 rintro ⟨k,K⟩ ⟨hk,hKl,hKt⟩
 dsimp only at hk hKl hKt ⊢
 by_cases hlt:k<l.length
 ·have hx:=List.getElem?_eq_getElem hlt
  have htk:(ticksS l)[k]?=some (l[k].c,l[k].t):=by unfold ticksS; rw [List.getElem?_map,hx]; rfl
  obtain ⟨b6,o6,rfl,hrx,_⟩:=shRow hr hx
  generalize l[k]=x at hx hrx htk
  refine Afb ?_;refine A4 ?_; rintro _ _ ⟨b,rfl,rfl⟩;refine AD ?_;refine AY ?_; rintro _ _ ⟨rfl,rfl⟩;refine AE ?_;refine Ade ?_;refine Abj ?_;refine BY ?_;refine A5 ?_
  refine CI (E5 encS_len (a:=(x.c,x.t)) k rfl (by first|omega|(show 0+k*2=k*2; omega)|(show k*2=k*2; rfl)) rfl (one_T _) rfl takeZ (by omega)) rfl rfl ?_
  rintro _ _ ⟨rfl,rfl⟩;refine Ae9 ?_
  refine AT (k+1,K.set k (x.c,x.t)) ⟨by dsimp only; omega,by dsimp only; rw [List.length_set]; exact hKl,?_⟩ (by dsimp only; omega) covZ selZ
  dsimp only
  obtain ⟨h1,h2⟩:=List.getElem?_eq_some_iff.1 htk
  rw [List.take_succ_eq_append_getElem (show k<(K.set k (x.c,x.t)).length by rw [List.length_set]; omega),List.getElem_set_self,List.take_set_of_le (Nat.le_refl _),hKt,List.take_succ_eq_append_getElem h1,h2]
 have hKe:K=ticksS l:=by
  have h1:K.take k=K:=List.take_of_length_le (by omega)
  have h2:(ticksS l).take k=ticksS l:=List.take_of_length_le (by omega)
  rw [← h1,hKt,h2]
 subst hKe
 have hO0:OwnS 173 2 (.slice (some ⟨bk,0,none⟩) l.length l.length) (ticksS l).length ((ticksS l).flatMap encS) (sng bk (.cells (elems encS (ticksS l)) 173 (0,0))):=by
  rw [← htl]
  exact ⟨by rw [flat_len encS_len],.inr ⟨bk,_,_,rfl,rfl,Nat.le_refl _,by simp only [maxLen]; omega,elems_size encS_len _,by unfold elems; rw [← flat_len encS_len,List.take_length]⟩⟩
 refine Acd ?_;refine Aac ?_
 refine BL (sortT_spec _ _ _ hO0 (by omega)) rfl rfl takesZ (fun τ hτ=>by simp at hτ) rfl rfl ?_
 rintro _ _ ⟨rfl,K,σK,hperm,hpw,hOK,rfl⟩
 have hKn:K.Nodup:=hperm.nodup_iff.2 hnd
 have hlex:K.Pairwise lexT:=(hpw.and hKn).imp (fun {x y} h=>by
  have h1:=h.1
  rw [cmpT_lt] at h1
  have h2:x.1≠y.1∨x.2≠y.2:=by
   apply Decidable.byContradiction
   intro hh
   rw [not_or,Decidable.not_not,Decidable.not_not] at hh;exact h.2 (Prod.ext hh.1 hh.2)
  unfold lexT at *
  omega)
 have hKlen:K.length=l.length:=by rw [hperm.length_eq,htl]
 rw [← hKlen] at hOK
 have hKA:SlE encS 2 σK (.slice (some ⟨bk,0,none⟩) K.length K.length) K:=hOK.at
 have hrK:=rowN encS_len hKA
 have hKb:∀ x∈K,0≤x.2∧x.2≤1099511627776:=fun x hx=>by
  obtain ⟨y,hy,e⟩:=List.mem_map.1 (hperm.mem_iff.1 hx)
  subst e;exact hok y hy
 have hRO:=runsK_ok hlex
 refine AW (ρ:=σK) takeZ ?_;rw [← hKlen];refine AE ?_;refine Ad6 ?_
 refine BA [3,31,32] (X:=Nat × Value × PH) (0,.slice none 0 0,emp) (fun x=>x.1≤K.length∧OwnS 95 4 x.2.1 (runsK (K.take x.1)).length ((runsK (K.take x.1)).flatMap encB) x.2.2) (fun x=>[(33,int x.1),(6,x.2.1)]) (fun x=>[x.2.2]) (fun x=>K.length-x.1) pickZ ⟨by dsimp only; omega,OwnS.nil _ _⟩ covZ selZ ?_
 rintro ⟨k,u,σ⟩ ⟨hk,hO⟩
 dsimp only at hk hO ⊢
 by_cases hlt:k<K.length
 rotate_left
 ·have hke:k=K.length:=by omega
  rw [hke,List.take_length] at hO;refine Ago ?_
  refine AO (res1 rfl rfl) rsubZ selZ ⟨σ,⟨runsK K,hO,by have:=runsK_len K; omega,hRO.is.2,fun b=>?_⟩,rfl⟩
  rw [hRO.is.1];unfold IsRun;simp only [hperm.mem_iff]
 have hx:=List.getElem?_eq_getElem hlt
 have hxb:=hKb _ (List.getElem_mem hlt)
 have hsn:runsK (K.take (k+1))=addT (runsK (K.take k)) K[k]:=by rw [List.take_succ_eq_append_getElem hlt,runsK_snoc]
 have hOl:(runsK (K.take k)).length≤K.length:=by
  have:=runsK_len (K.take k)
  rw [List.length_take] at this;omega
 obtain ⟨b9,o9,e9,hrd9,_⟩:=spRow hrK hx
 generalize K[k]=x at hx hxb hsn hrd9
 obtain ⟨xc,xt⟩:=x
 dsimp only at hxb
 generalize runsK (K.take k)=O at hO hsn hOl
 simp only [Option.some.injEq,Addr.mk.injEq,and_true] at e9
 obtain ⟨rfl,rfl⟩:=e9
 rcases List.eq_nil_or_concat O with rfl|⟨pre,b,rfl⟩
 ·have hz0:([]:List Bk).length=0:=rfl
  have ha:addT [] (xc,xt)=[⟨xc,xt,xt+1,0⟩]:=rfl
  rw [ha] at hsn
  obtain ⟨pu,cu,rfl⟩:=hO.form
  refine Ac4 ?_;refine A4 ?_; rintro _ _ ⟨b,rfl,rfl⟩;refine AY ?_; rintro _ _ ⟨rfl,rfl⟩;refine AE ?_;refine Abg ?_;refine Abl ?_
  revert b; intro b8
  refine DR (X:=Unit) [3,31,32,33,6,8] (fun _=>True) (fun _=>[(62,.bool false)]) (fun _=>[sng b8 (.cells #[int xc,int xt] 173 (0,0)),σ]) pickZ ?_ ?_
  ·refine A6 P9Z [] rfl (by kernel_rfl) selZ ?_
   refine AI ?_;refine DL ?_;refine Ac2 ?_;refine Ad ?_;refine Ac2 ?_;refine Ad ?_;refine A7 ?_;exact B5 () trivial covZ selZ
  rintro _ _
  try dsimp only
  refine Abd ?_;refine AA ?_;refine Abj ?_;refine Agm ?_;refine BY ?_;refine AZ ?_; rintro _ _ ⟨b,rfl,rfl⟩
  refine BH (BI (by_:=32) (s:=4) (news:=[int xc,int xt,int (xt+1),int 0]) rfl rfl rfl rfl rfl rfl rfl hO takeZ (cells_own memZ) rfl oneZ (by omega) (by simp [maxLen]) (by simp)) rfl rfl rfl ?_
  rintro u1 _ ⟨σ1,hO1,rfl⟩;refine Af4 ?_
  refine AT (k+1,u1,σ1) ⟨by dsimp only; omega,?_⟩ (by dsimp only; omega) covZ selZ
  dsimp only
  rw [hsn];exact hO1
 rw [List.concat_eq_append] at hO hsn hOl
 obtain ⟨bo,cu,rfl⟩:=hO.formP (by simp)
 have hbl:(pre ++ [b])[(pre ++ [b]).length-1]?=some b:=by simp
 have hrb:=OwnS.row encB_len hO hbl
 have g0:rdc σ bo (0+((pre ++ [b]).length-1)*4)=some (int b.c):=hrb.get0
 have g2:rdc σ bo (0+((pre ++ [b]).length-1)*4+2)=some (int b.b):=hrb.get (j:=2) rfl
 have hp1:1≤(pre ++ [b]).length:=by simp
 have hgl:(pre ++ [b]).getLast?=some b:=by simp
 have hsn2:addT (pre ++ [b]) (xc,xt)=if b.c=xc∧b.b=xt then pre ++ [⟨b.c,b.a,b.b+1,b.k⟩] else (pre ++ [b]) ++ [⟨xc,xt,xt+1,0⟩]:=by
  unfold addT;rw [hgl]
  dsimp only
  rw [List.dropLast_concat]
 rw [hsn2] at hsn
 have hsl:=set_last pre b ⟨b.c,b.a,b.b+1,b.k⟩
 generalize hPB:pre ++ [b]=PB at hO hsn hOl hbl hrb g0 g2 hp1 hsl
 clear hgl hsn2;refine Ac4 ?_;refine A4 ?_; rintro _ _ ⟨b,rfl,rfl⟩;refine AY ?_; rintro _ _ ⟨rfl,rfl⟩;refine AE ?_;refine Abg ?_;refine Abl ?_
 revert b; intro b8
 refine DR (X:=Unit) [3,31,32,33,6,8,9] (fun _=>True) (fun _=>[(62,.bool (decide (b.c=xc∧b.b=xt)))]) (fun _=>[sng b8 (.cells #[int xc,int xt] 173 (0,0)),σ]) pickZ ?_ ?_
 ·refine A6 P9Z [] rfl (by kernel_rfl) selZ ?_
  by_cases d1:b.c=xc
  ·by_cases d2:b.b=xt
   ·rw [decide_eq_true (And.intro d1 d2)]
    refine Afk ?_;refine Ab3 ?_;refine Add ?_;refine Adq ?_;refine DP ?_;refine BG ?_;refine Ab3 ?_;refine Add ?_;refine Aby ?_;refine Aau ?_;refine DP ?_;refine BG ?_;refine A7 ?_;exact B5 () trivial covZ selZ
   ·rw [decide_eq_false (fun c=>d2 c.2)]
    refine Afk ?_;refine Ab3 ?_;refine Add ?_;refine Adq ?_;refine DP ?_;refine BG ?_;refine Ab3 ?_;refine Add ?_;refine Aby ?_;refine Aau ?_;refine C7 ?_;refine BG ?_;refine A7 ?_;exact B5 () trivial covZ selZ
  ·rw [decide_eq_false (fun c=>d1 c.1)]
   refine Afk ?_;refine Ab3 ?_;refine Add ?_;refine Adq ?_;refine C7 ?_;refine BG ?_;refine Ac2 ?_;refine Ad ?_;refine A7 ?_;exact B5 () trivial covZ selZ
 rintro _ _
 try dsimp only
 by_cases hc:b.c=xc∧b.b=xt
 ·rw [decide_eq_true hc]
  rw [if_pos hc] at hsn;refine AL rfl ?_;refine Aay ?_;refine D8 ?_;refine Acf ?_;refine CB ?_;refine Ab2 ?_
  refine CI (EM encB_len (a:=b) (PB.length-1) 2 ⟨b.c,b.a,b.b+1,b.k⟩ hO rfl (by show 0+(PB.length-1)*4+2=(PB.length-1)*4+2; omega) (by decide) hbl rfl rfl rfl rfl takeZ) rfl rfl ?_
  rintro _ _ ⟨rfl,σ2,hO2,rfl⟩;rw [hsl] at hO2;refine AE ?_;refine A8 rfl ?_;refine AA ?_;refine Abe ?_
  refine AT (k+1,_,σ2) ⟨by dsimp only; omega,?_⟩ (by dsimp only; omega) covZ selZ
  dsimp only
  rw [hsn]
  have hlen:(pre ++ [(⟨b.c,b.a,b.b+1,b.k⟩:Bk)]).length=PB.length:=by rw [← hPB]; simp
  rw [← hlen];exact hO2
 ·rw [decide_eq_false hc]
  rw [if_neg hc] at hsn;refine Abd ?_;refine AA ?_;refine Abj ?_;refine Agm ?_;refine BY ?_;refine AZ ?_; rintro _ _ ⟨b,rfl,rfl⟩
  refine BH (BI (by_:=32) (s:=4) (news:=[int xc,int xt,int (xt+1),int 0]) rfl rfl rfl rfl rfl rfl rfl hO takeZ (cells_own memZ) rfl oneZ (by omega) (by simp only [maxLen]; omega) (by omega)) rfl rfl rfl ?_
  rintro u1 _ ⟨σ1,hO1,rfl⟩;refine Af4 ?_
  refine AT (k+1,u1,σ1) ⟨by dsimp only; omega,?_⟩ (by dsimp only; omega) covZ selZ
  dsimp only
  rw [hsn,List.length_append,List.flatMap_append];exact hO1
theorem two_all {α:Type} {enc:α→List Value} {s:Nat} {σ1 σ2:PH} {w1 w2:Value} {l1 l2:List α} (h1:SlE enc s σ1 w1 l1) (h2:SlE enc s σ2 w2 l2):∀ (i:Nat) (w:Value) (l:List α),[w1,w2][i]?=some w→[l1,l2][i]?=some l→∃ σ∈[σ1,σ2],SlE enc s σ w l:=by
 intro i w l e1 e2
 match i with
 | 0 =>
  simp at e1 e2
  subst e1;subst e2
  exact ⟨σ1,by simp,h1⟩
 | 1 =>
  simp at e1 e2
  subst e1;subst e2
  exact ⟨σ2,by simp,h2⟩
 | i+2=>simp at e1
theorem flat2 {α:Type} (a b:List α):[a,b].flatten=a ++ b:=by simp
theorem tab_ok {qs:List Int} {cs:List Ct} {bs:List Bk} {hs:List Hd} (h:chkT qs cs bs hs=0):bs.length≤512∧hs.length≤512∧qs.length≤16:=by
 obtain ⟨p,b,hh⟩:=chkT_ok h
 have:=chkH_ok hh
 have:=chkB_ok b
 omega
theorem shB_of {qs:List Int} {cs:List Ct} {bs:List Bk} {hs:List Hd} {l:List Sh} (h:chkT qs cs bs hs=0) (hE:firstE (rsvE cs bs l) l.length=0):∀ x∈l,ShB cs x:=fun x hx=>by
 obtain ⟨p,b,hh⟩:=chkT_ok h
 obtain ⟨k1,k2⟩:=chkPl_ct p
 obtain ⟨c,h1,h2,h3,h4,h5,h6,h7⟩:=rsv1_ok ((rsv_facts hE).1 x hx).1
 have hk:=chkCt_all (k2 c (List.mem_of_getElem? h1)).1
 exact ⟨c,h1,h2,h3,by omega,by omega,by omega⟩
theorem rsv_lens {qs:List Int} {cs:List Ct} {bs:List Bk} {hs:List Hd} {l:List Sh} {R:List Bk} (h0:chkB qs cs bs=0) (hE:firstE (rsvE cs bs l) l.length=0) (rn:R.Nodup) (rm:∀ b,b∈R↔IsRun (ticksS l) b):∃ R' bs1 hs1,RsvOK qs cs bs hs l R' bs1 hs1∧bs1.length=bs.length+R.length∧hs1.length=hs.length+(holdsA cs l qs.length).length:=by
 obtain ⟨R',bs1,hs1,hk⟩:=rsv_exists (qs:=qs) (hs:=hs) h0 hE
 obtain ⟨e1,e2⟩:=hk.lens
 have hp:R'.Perm R:=(List.perm_ext_iff_of_nodup hk.rn rn).2 (fun b=>by rw [hk.rm,rm])
 exact ⟨R',bs1,hs1,hk,by rw [e1,hp.length_eq],e2⟩
theorem Reserve_spec {ρ τ σ υ:PH} (ω:PH) {pq pc pb ph:Option Addr} {kq kc kb kh:Nat} {qs:List Int} {cs:List Ct} {bs:List Bk} {hs:List Hd} (hT:TbAt ρ τ σ υ pq pc pb ph kq kc kb kh qs cs bs hs) (v:Value) (l:List Sh) (hv:ShAt ω v l) (hll:l.length≤500000) :
  Eng.Spec Tryz.prog (fv 10) [.agg #[.slice pq qs.length kq,.slice pc cs.length kc,.slice pb bs.length kb,.slice ph hs.length kh],v] [ρ,τ,σ,υ,ω] [] (fun r H'=>(∃ e,e≠0∧r=.tuple #[.agg #[.slice none 0 0,.slice none 0 0,.slice none 0 0,.slice none 0 0],int e]∧H'=[]∧RsvR qs cs bs hs l e [] [])∨(∃ (bs':List Bk) (hs':List Hd) (p1:Option Addr) (k1:Nat) (p2:Option Addr) (k2:Nat) (σ1 σ2:PH),r=.tuple #[.agg #[.slice pq qs.length kq,.slice pc cs.length kc,.slice p1 bs'.length k1,.slice p2 hs'.length k2],int 0]∧H'=[σ1,σ2]∧RsvR qs cs bs hs l 0 bs' hs'∧bs'.length≤512∧hs'.length≤512∧SlE encB 4 σ1 (.slice p1 bs'.length k1) bs'∧HdAt σ2 (.slice p2 hs'.length k2) hs')):=by
 have hlb:=hT.lb
 refine spec_in (cap:=[]) Tryz.func10 rfl rfl Tryz.ntmps10 rfl envZ (fun N β=>?_)
 refine Aa ?_;refine BH (BO rfl) rfl rfl rfl ?_;rintro _ _ ⟨b1,rfl,rfl⟩;refine AW (ρ:=sng b1 _) takeZ ?_
 have ct:=rdB b1 29 [.slice pq qs.length kq,.slice pc cs.length kc,.slice pb bs.length kb,.slice ph hs.length kh]
 have ct0:=rdC ct 0
 have ct1:=rdC ct 1
 have ct2:=rdC ct 2
 have ct3:=rdC ct 3
 have ctp:=rdQ (xs:=[_,_]) ct
 refine A4 ?_; rintro _ _ ⟨b,rfl,rfl⟩;refine Abl ?_;refine Abt ?_
 revert b; intro b4
 refine BC (chkTab_spec hT) rfl rfl rdZ rfl rfl ?_;rintro _ rfl
 by_cases h0:chkT qs cs bs hs=0
 rotate_left
 ·refine CJ ?_
  refine Acg ?_;refine CW (BW (out:=[.slice none 0 0,.slice none 0 0,.slice none 0 0,.slice none 0 0]) rfl rfl rfl rfl rfl) rfl rfl rfl ?_;refine AY ?_; rintro _ _ ⟨rfl,rfl⟩;refine Aaa ?_
  exact AO (resSE (b1:=b4) (T:=29) (v1:=[.slice none 0 0,.slice none 0 0,.slice none 0 0,.slice none 0 0]) rfl rfl rfl rfl rfl (cells_own memZ)) rsubZ selZ (.inl ⟨1,by decide,rfl,rfl,.inl ⟨h0,rfl,rfl,rfl⟩⟩)
 obtain ⟨nb,nh,nq⟩:=tab_ok h0
 have hB0:=(chkT_ok h0).2.1
 refine Aek ?_;refine Afm ?_
 refine BC (pCheckSh_spec ω hT v l hv (by omega) (by omega)) rfl rfl rdZ rfl rfl ?_
 rintro _ rfl
 by_cases hE:firstE (rsvE cs bs l) l.length=0
 rotate_left
 ·refine AD ?_
  refine Aej ?_;refine Ae0 ?_;refine CW (BW (out:=[.slice none 0 0,.slice none 0 0,.slice none 0 0,.slice none 0 0]) rfl rfl rfl rfl rfl) rfl rfl rfl ?_;refine AB ?_;refine AY ?_; rintro _ _ ⟨rfl,rfl⟩;refine Aaa ?_;exact AO (resSE (b1:=b4) (T:=29) (v1:=[.slice none 0 0,.slice none 0 0,.slice none 0 0,.slice none 0 0]) rfl rfl rfl rfl rfl (cells_own memZ)) rsubZ selZ (.inl ⟨firstE (rsvE cs bs l) l.length,hE,rfl,rfl,.inr ⟨h0,.inl ⟨hE,rfl,rfl,rfl⟩⟩⟩)
 rw [hE]
 have hok:=shB_of h0 hE
 have hnd:=ticks_nodup (rsv_facts hE).2
 have hok2:∀ x∈l,0≤x.t∧x.t≤1099511627776:=fun x hx=>by
  obtain ⟨_,_,_,_,h5,_⟩:=hok x hx
  exact h5
 refine Ahd ?_;refine Afm ?_
 refine BL (holds_spec ω hT v l hv hll hok nh (by omega)) rfl rfl Takes.nil rdZ rfl rfl ?_
 rintro _ _ ⟨uh,e,χH,rfl,rfl,⟨hA,rfl⟩|⟨hA,hL,rfl⟩|⟨hA,hL,rfl,hOh⟩⟩
 ·refine AB ?_
  refine Ahj ?_;refine Aah ?_;refine Ae0 ?_;refine CW (BW (out:=[.slice none 0 0,.slice none 0 0,.slice none 0 0,.slice none 0 0]) rfl rfl rfl rfl rfl) rfl rfl rfl ?_;refine AB ?_;refine AY ?_; rintro _ _ ⟨rfl,rfl⟩;refine Aaa ?_
  exact AO (resSE (b1:=b4) (T:=29) (v1:=[.slice none 0 0,.slice none 0 0,.slice none 0 0,.slice none 0 0]) rfl rfl rfl rfl rfl (cells_own memZ)) rsubZ selZ (.inl ⟨24,by decide,rfl,rfl,.inr ⟨h0,.inr ⟨hE,.inl ⟨hA,rfl,rfl,rfl⟩⟩⟩⟩)
 ·obtain ⟨R,bs1,hs1,hk⟩:=rsv_exists (qs:=qs) (hs:=hs) hB0 hE
  have hk2:=hk.lens
  refine Adi ?_;refine Ae0 ?_;refine CW (BW (out:=[.slice none 0 0,.slice none 0 0,.slice none 0 0,.slice none 0 0]) rfl rfl rfl rfl rfl) rfl rfl rfl ?_;refine AB ?_;refine AY ?_; rintro _ _ ⟨rfl,rfl⟩;refine Aaa ?_
  exact AO (resSE (b1:=b4) (T:=29) (v1:=[.slice none 0 0,.slice none 0 0,.slice none 0 0,.slice none 0 0]) rfl rfl rfl rfl rfl (cells_own memZ)) rsubZ selZ (.inl ⟨4,by decide,rfl,rfl,.inr ⟨h0,.inr ⟨hE,.inr ⟨hA,R,bs1,hs1,hk,.inl ⟨by omega,rfl,rfl,rfl⟩⟩⟩⟩⟩)
 obtain ⟨puh,kuh,rfl⟩:=hOh.form
 have hHA:SlE encH 5 χH (.slice puh (holdsA cs l qs.length).length kuh) (holdsA cs l qs.length):=hOh.at
 have hbk:=bookings_spec ω _ l hv (by omega) hok2 hnd
 have hcB:=fun {b:Nat} {t:TypeId} {fr:Nat × Nat} {c:Nat} {χR:PH} {R:List Bk} {pR:Option Addr} {kR:Nat} (h:OwnS 95 4 (.slice pR R.length kR) R.length (R.flatMap encB) χR) (hl:R.length≤l.length)=>concatBk_spec _ [σ,χR] _ [_,_] [bs,R] (slE_sng (b:=b) (t:=t) (fr:=fr) (c:=c) encW_len) rfl (two_all hT.hb h.at) (show 2≤1000 by decide) (by simp only [totL,List.map_cons,List.map_nil,List.foldr_cons,List.foldr_nil]; omega)
 have hcH:=fun {b:Nat} {t:TypeId} {fr:Nat × Nat} {c:Nat}=>concatHd_spec _ [υ,χH] _ [_,_] [hs,holdsA cs l qs.length] (slE_sng (b:=b) (t:=t) (fr:=fr) (c:=c) encW_len) rfl (two_all hT.hh hHA) (show 2≤1000 by decide) (by simp only [totL,List.map_cons,List.map_nil,List.foldr_cons,List.foldr_nil]; omega)
 refine Adi ?_;refine Aek ?_
 refine DR (X:=Nat × List Bk × (Value × PH) × (Value × PH)) [2,4,5] (fun x=>x.2.1.Nodup∧(∀ b,b∈x.2.1↔IsRun (ticksS l) b)∧x.2.1.length≤l.length∧OwnS 95 4 x.2.2.1.1 (bs ++ x.2.1).length ((bs ++ x.2.1).flatMap encB) x.2.2.1.2∧OwnS 99 5 x.2.2.2.1 (hs ++ holdsA cs l qs.length).length ((hs ++ holdsA cs l qs.length).flatMap encH) x.2.2.2.2) (fun x=>[(9,.pointer (some ⟨x.1,0,none⟩))]) (fun x=>[sng x.1 (.cells #[.slice pq qs.length kq,.slice pc cs.length kc,x.2.2.1.1,x.2.2.2.1] 29 (0,0)),sng b4 (.cells #[.slice none 0 0,.slice none 0 0,.slice none 0 0,.slice none 0 0] 29 (0,0)),x.2.2.1.2,x.2.2.2.2]) pickZ ?_ ?_
 ·refine A6 (.q 0 (.q 1 (.q 2 (.q 3 (.q 4 (.q 8 (.q 9 (.q 10 (.l3 5 .e (.l3 6 .e (.l3 7 .e (.l2 11 .e (.l2 12 .e (.q 13 (.l 14 .e (.l 15 .b .nil))) 14 .e (.l 12 .e (.q 13 (.l 15 .b .nil)))) 14 .e (.l 11 .e (.l 12 .e (.q 13 (.l 15 .b .nil))))) 11 .e (.l2 7 .e (.l2 12 .e (.q 13 (.l 14 .e (.l 15 .b .nil))) 14 .e (.l 12 .e (.q 13 (.l 15 .b .nil)))) 14 .e (.l 7 .e (.l 12 .e (.q 13 (.l 15 .b .nil))))) 14 .e (.l2 7 .e (.l 11 .e (.l 12 .e (.q 13 (.l 15 .b .nil)))) 11 .e (.l 7 .e (.l 12 .e (.q 13 (.l 15 .b .nil)))))) 11 .e (.l2 6 .e (.l2 7 .e (.l2 12 .e (.q 13 (.l 14 .e (.l 15 .b .nil))) 14 .e (.l 12 .e (.q 13 (.l 15 .b .nil)))) 14 .e (.l 7 .e (.l 12 .e (.q 13 (.l 15 .b .nil))))) 14 .e (.l 6 .e (.l 7 .e (.l 12 .e (.q 13 (.l 15 .b .nil)))))) 14 .e (.l2 6 .e (.l2 7 .e (.l 11 .e (.l 12 .e (.q 13 (.l 15 .b .nil)))) 11 .e (.l 7 .e (.l 12 .e (.q 13 (.l 15 .b .nil))))) 11 .e (.l 6 .e (.l 7 .e (.l 12 .e (.q 13 (.l 15 .b .nil))))))) 11 .e (.l2 5 .e (.l2 6 .e (.l2 7 .e (.l2 12 .e (.q 13 (.l 14 .e (.l 15 .b .nil))) 14 .e (.l 12 .e (.q 13 (.l 15 .b .nil)))) 14 .e (.l 7 .e (.l 12 .e (.q 13 (.l 15 .b .nil))))) 14 .e (.l 6 .e (.l 7 .e (.l 12 .e (.q 13 (.l 15 .b .nil)))))) 14 .e (.l 5 .e (.l 6 .e (.l 7 .e (.l 12 .e (.q 13 (.l 15 .b .nil))))))) 14 .e (.l2 5 .e (.l2 6 .e (.l2 7 .e (.l 11 .e (.l 12 .e (.q 13 (.l 15 .b .nil)))) 11 .e (.l 7 .e (.l 12 .e (.q 13 (.l 15 .b .nil))))) 11 .e (.l 6 .e (.l 7 .e (.l 12 .e (.q 13 (.l 15 .b .nil)))))) 11 .e (.l 5 .e (.l 6 .e (.l 7 .e (.l 12 .e (.q 13 (.l 15 .b .nil)))))))))))))))) [] rfl (by kernel_rfl) Sel.nil ?_
  refine AX ?_;refine BJ ?_;refine Acl ?_;refine Acl ?_;refine HF ?_ ?_ ?_
  ·refine BU rfl hbk rfl rfl rdZ rfl rfl ?_; rintro uR _ ⟨χR,⟨R,hOR,hRl,hRn,hRm⟩,rfl⟩; obtain ⟨pR,kR,rfl⟩:=hOR.form
   refine HF ?_ ?_ ?_
   ·refine B9 ?_; rintro _ _ ⟨b,rfl,rfl⟩
    refine HF ?_ ?_ ?_
    ·refine BU rfl (hcB hOR hRl) rfl rfl rdZ rfl rfl ?_; rintro uB _ ⟨σB,hOB,rfl⟩; rw [flat2] at hOB; obtain ⟨pB,kB,rfl⟩:=hOB.form
     refine DS ?_ ?_
     ·refine B9 ?_; rintro _ _ ⟨b,rfl,rfl⟩
      refine DS ?_ ?_
      ·refine BU rfl hcH rfl rfl rdZ rfl rfl ?_; rintro uH _ ⟨σH,hOH,rfl⟩; rw [flat2] at hOH; obtain ⟨pH,kH,rfl⟩:=hOH.form
       refine C1 rfl (BW (out:=[.slice pq qs.length kq,.slice pc cs.length kc,.slice pB _ kB,.slice pH _ kH]) rfl rfl rfl rfl rfl) rfl rfl rfl rfl ?_;refine C5 ?_; rintro _ _ ⟨b,rfl,rfl⟩;refine Adm ?_;exact B5 (_,R,(.slice pB _ kB,σB),(.slice pH _ kH,σH)) ⟨hRn,hRm,hRl,hOB,hOH⟩ covZ selZ
      ·refine CS ?_; rintro _ _ ⟨b,rfl,rfl⟩
       refine CF (BU rfl hcH rfl rfl rdZ rfl rfl ?_); rintro uH _ ⟨σH,hOH,rfl⟩; rw [flat2] at hOH; obtain ⟨pH,kH,rfl⟩:=hOH.form;refine C1 rfl (BW (out:=[.slice pq qs.length kq,.slice pc cs.length kc,.slice pB _ kB,.slice pH _ kH]) rfl rfl rfl rfl rfl) rfl rfl rfl rfl ?_;refine Adm ?_;exact B5 (_,R,(.slice pB _ kB,σB),(.slice pH _ kH,σH)) ⟨hRn,hRm,hRl,hOB,hOH⟩ covZ selZ
     ·refine CS ?_; rintro _ _ ⟨b,rfl,rfl⟩
      refine BF ?_; rintro _ _ ⟨b,rfl,rfl⟩;refine CF (BU rfl hcH rfl rfl rdZ rfl rfl ?_); rintro uH _ ⟨σH,hOH,rfl⟩; rw [flat2] at hOH; obtain ⟨pH,kH,rfl⟩:=hOH.form;refine C1 rfl (BW (out:=[.slice pq qs.length kq,.slice pc cs.length kc,.slice pB _ kB,.slice pH _ kH]) rfl rfl rfl rfl rfl) rfl rfl rfl rfl ?_;refine Adm ?_;exact B5 (_,R,(.slice pB _ kB,σB),(.slice pH _ kH,σH)) ⟨hRn,hRm,hRl,hOB,hOH⟩ covZ selZ
    ·refine B9 ?_; rintro _ _ ⟨b,rfl,rfl⟩
     refine DS ?_ ?_
     ·refine BU rfl (hcB hOR hRl) rfl rfl rdZ rfl rfl ?_; rintro uB _ ⟨σB,hOB,rfl⟩; rw [flat2] at hOB; obtain ⟨pB,kB,rfl⟩:=hOB.form
      refine DS ?_ ?_
      ·refine BU rfl hcH rfl rfl rdZ rfl rfl ?_; rintro uH _ ⟨σH,hOH,rfl⟩; rw [flat2] at hOH; obtain ⟨pH,kH,rfl⟩:=hOH.form
       refine C1 rfl (BW (out:=[.slice pq qs.length kq,.slice pc cs.length kc,.slice pB _ kB,.slice pH _ kH]) rfl rfl rfl rfl rfl) rfl rfl rfl rfl ?_;refine C5 ?_; rintro _ _ ⟨b,rfl,rfl⟩;refine Adm ?_;exact B5 (_,R,(.slice pB _ kB,σB),(.slice pH _ kH,σH)) ⟨hRn,hRm,hRl,hOB,hOH⟩ covZ selZ
      ·refine CS ?_; rintro _ _ ⟨b,rfl,rfl⟩
       refine CF (BU rfl hcH rfl rfl rdZ rfl rfl ?_); rintro uH _ ⟨σH,hOH,rfl⟩; rw [flat2] at hOH; obtain ⟨pH,kH,rfl⟩:=hOH.form;refine C1 rfl (BW (out:=[.slice pq qs.length kq,.slice pc cs.length kc,.slice pB _ kB,.slice pH _ kH]) rfl rfl rfl rfl rfl) rfl rfl rfl rfl ?_;refine Adm ?_;exact B5 (_,R,(.slice pB _ kB,σB),(.slice pH _ kH,σH)) ⟨hRn,hRm,hRl,hOB,hOH⟩ covZ selZ
     ·refine CS ?_; rintro _ _ ⟨b,rfl,rfl⟩
      refine CF (BU rfl (hcB hOR hRl) rfl rfl rdZ rfl rfl ?_); rintro uB _ ⟨σB,hOB,rfl⟩; rw [flat2] at hOB; obtain ⟨pB,kB,rfl⟩:=hOB.form;refine CF (BU rfl hcH rfl rfl rdZ rfl rfl ?_); rintro uH _ ⟨σH,hOH,rfl⟩; rw [flat2] at hOH; obtain ⟨pH,kH,rfl⟩:=hOH.form;refine C1 rfl (BW (out:=[.slice pq qs.length kq,.slice pc cs.length kc,.slice pB _ kB,.slice pH _ kH]) rfl rfl rfl rfl rfl) rfl rfl rfl rfl ?_;refine Adm ?_;exact B5 (_,R,(.slice pB _ kB,σB),(.slice pH _ kH,σH)) ⟨hRn,hRm,hRl,hOB,hOH⟩ covZ selZ
    ·refine CS ?_; rintro _ _ ⟨b,rfl,rfl⟩
     refine DS ?_ ?_
     ·refine BU rfl (hcB hOR hRl) rfl rfl rdZ rfl rfl ?_; rintro uB _ ⟨σB,hOB,rfl⟩; rw [flat2] at hOB; obtain ⟨pB,kB,rfl⟩:=hOB.form
      refine BF ?_; rintro _ _ ⟨b,rfl,rfl⟩;refine CF (BU rfl hcH rfl rfl rdZ rfl rfl ?_); rintro uH _ ⟨σH,hOH,rfl⟩; rw [flat2] at hOH; obtain ⟨pH,kH,rfl⟩:=hOH.form;refine C1 rfl (BW (out:=[.slice pq qs.length kq,.slice pc cs.length kc,.slice pB _ kB,.slice pH _ kH]) rfl rfl rfl rfl rfl) rfl rfl rfl rfl ?_;refine Adm ?_;exact B5 (_,R,(.slice pB _ kB,σB),(.slice pH _ kH,σH)) ⟨hRn,hRm,hRl,hOB,hOH⟩ covZ selZ
     ·refine B9 ?_; rintro _ _ ⟨b,rfl,rfl⟩
      refine CF (BU rfl (hcB hOR hRl) rfl rfl rdZ rfl rfl ?_); rintro uB _ ⟨σB,hOB,rfl⟩; rw [flat2] at hOB; obtain ⟨pB,kB,rfl⟩:=hOB.form;refine CF (BU rfl hcH rfl rfl rdZ rfl rfl ?_); rintro uH _ ⟨σH,hOH,rfl⟩; rw [flat2] at hOH; obtain ⟨pH,kH,rfl⟩:=hOH.form;refine C1 rfl (BW (out:=[.slice pq qs.length kq,.slice pc cs.length kc,.slice pB _ kB,.slice pH _ kH]) rfl rfl rfl rfl rfl) rfl rfl rfl rfl ?_;refine Adm ?_;exact B5 (_,R,(.slice pB _ kB,σB),(.slice pH _ kH,σH)) ⟨hRn,hRm,hRl,hOB,hOH⟩ covZ selZ
   ·refine B9 ?_; rintro _ _ ⟨b,rfl,rfl⟩
    refine DS ?_ ?_
    ·refine B9 ?_; rintro _ _ ⟨b,rfl,rfl⟩
     refine DS ?_ ?_
     ·refine BU rfl (hcB hOR hRl) rfl rfl rdZ rfl rfl ?_; rintro uB _ ⟨σB,hOB,rfl⟩; rw [flat2] at hOB; obtain ⟨pB,kB,rfl⟩:=hOB.form
      refine DS ?_ ?_
      ·refine BU rfl hcH rfl rfl rdZ rfl rfl ?_; rintro uH _ ⟨σH,hOH,rfl⟩; rw [flat2] at hOH; obtain ⟨pH,kH,rfl⟩:=hOH.form
       refine C1 rfl (BW (out:=[.slice pq qs.length kq,.slice pc cs.length kc,.slice pB _ kB,.slice pH _ kH]) rfl rfl rfl rfl rfl) rfl rfl rfl rfl ?_;refine C5 ?_; rintro _ _ ⟨b,rfl,rfl⟩;refine Adm ?_;exact B5 (_,R,(.slice pB _ kB,σB),(.slice pH _ kH,σH)) ⟨hRn,hRm,hRl,hOB,hOH⟩ covZ selZ
      ·refine CS ?_; rintro _ _ ⟨b,rfl,rfl⟩
       refine CF (BU rfl hcH rfl rfl rdZ rfl rfl ?_); rintro uH _ ⟨σH,hOH,rfl⟩; rw [flat2] at hOH; obtain ⟨pH,kH,rfl⟩:=hOH.form;refine C1 rfl (BW (out:=[.slice pq qs.length kq,.slice pc cs.length kc,.slice pB _ kB,.slice pH _ kH]) rfl rfl rfl rfl rfl) rfl rfl rfl rfl ?_;refine Adm ?_;exact B5 (_,R,(.slice pB _ kB,σB),(.slice pH _ kH,σH)) ⟨hRn,hRm,hRl,hOB,hOH⟩ covZ selZ
     ·refine CS ?_; rintro _ _ ⟨b,rfl,rfl⟩
      refine CF (BU rfl (hcB hOR hRl) rfl rfl rdZ rfl rfl ?_); rintro uB _ ⟨σB,hOB,rfl⟩; rw [flat2] at hOB; obtain ⟨pB,kB,rfl⟩:=hOB.form;refine CF (BU rfl hcH rfl rfl rdZ rfl rfl ?_); rintro uH _ ⟨σH,hOH,rfl⟩; rw [flat2] at hOH; obtain ⟨pH,kH,rfl⟩:=hOH.form;refine C1 rfl (BW (out:=[.slice pq qs.length kq,.slice pc cs.length kc,.slice pB _ kB,.slice pH _ kH]) rfl rfl rfl rfl rfl) rfl rfl rfl rfl ?_;refine Adm ?_;exact B5 (_,R,(.slice pB _ kB,σB),(.slice pH _ kH,σH)) ⟨hRn,hRm,hRl,hOB,hOH⟩ covZ selZ
    ·refine CS ?_; rintro _ _ ⟨b,rfl,rfl⟩
     refine BF ?_; rintro _ _ ⟨b,rfl,rfl⟩;refine CF (BU rfl (hcB hOR hRl) rfl rfl rdZ rfl rfl ?_); rintro uB _ ⟨σB,hOB,rfl⟩; rw [flat2] at hOB; obtain ⟨pB,kB,rfl⟩:=hOB.form;refine CF (BU rfl hcH rfl rfl rdZ rfl rfl ?_); rintro uH _ ⟨σH,hOH,rfl⟩; rw [flat2] at hOH; obtain ⟨pH,kH,rfl⟩:=hOH.form;refine C1 rfl (BW (out:=[.slice pq qs.length kq,.slice pc cs.length kc,.slice pB _ kB,.slice pH _ kH]) rfl rfl rfl rfl rfl) rfl rfl rfl rfl ?_;refine Adm ?_;exact B5 (_,R,(.slice pB _ kB,σB),(.slice pH _ kH,σH)) ⟨hRn,hRm,hRl,hOB,hOH⟩ covZ selZ
   ·refine CS ?_; rintro _ _ ⟨b,rfl,rfl⟩
    refine DS ?_ ?_
    ·refine B9 ?_; rintro _ _ ⟨b,rfl,rfl⟩
     refine DS ?_ ?_
     ·refine BU rfl (hcB hOR hRl) rfl rfl rdZ rfl rfl ?_; rintro uB _ ⟨σB,hOB,rfl⟩; rw [flat2] at hOB; obtain ⟨pB,kB,rfl⟩:=hOB.form
      refine BF ?_; rintro _ _ ⟨b,rfl,rfl⟩;refine CF (BU rfl hcH rfl rfl rdZ rfl rfl ?_); rintro uH _ ⟨σH,hOH,rfl⟩; rw [flat2] at hOH; obtain ⟨pH,kH,rfl⟩:=hOH.form;refine C1 rfl (BW (out:=[.slice pq qs.length kq,.slice pc cs.length kc,.slice pB _ kB,.slice pH _ kH]) rfl rfl rfl rfl rfl) rfl rfl rfl rfl ?_;refine Adm ?_;exact B5 (_,R,(.slice pB _ kB,σB),(.slice pH _ kH,σH)) ⟨hRn,hRm,hRl,hOB,hOH⟩ covZ selZ
     ·refine B9 ?_; rintro _ _ ⟨b,rfl,rfl⟩
      refine CF (BU rfl (hcB hOR hRl) rfl rfl rdZ rfl rfl ?_); rintro uB _ ⟨σB,hOB,rfl⟩; rw [flat2] at hOB; obtain ⟨pB,kB,rfl⟩:=hOB.form;refine CF (BU rfl hcH rfl rfl rdZ rfl rfl ?_); rintro uH _ ⟨σH,hOH,rfl⟩; rw [flat2] at hOH; obtain ⟨pH,kH,rfl⟩:=hOH.form;refine C1 rfl (BW (out:=[.slice pq qs.length kq,.slice pc cs.length kc,.slice pB _ kB,.slice pH _ kH]) rfl rfl rfl rfl rfl) rfl rfl rfl rfl ?_;refine Adm ?_;exact B5 (_,R,(.slice pB _ kB,σB),(.slice pH _ kH,σH)) ⟨hRn,hRm,hRl,hOB,hOH⟩ covZ selZ
    ·refine B9 ?_; rintro _ _ ⟨b,rfl,rfl⟩
     refine BF ?_; rintro _ _ ⟨b,rfl,rfl⟩;refine CF (BU rfl (hcB hOR hRl) rfl rfl rdZ rfl rfl ?_); rintro uB _ ⟨σB,hOB,rfl⟩; rw [flat2] at hOB; obtain ⟨pB,kB,rfl⟩:=hOB.form;refine CF (BU rfl hcH rfl rfl rdZ rfl rfl ?_); rintro uH _ ⟨σH,hOH,rfl⟩; rw [flat2] at hOH; obtain ⟨pH,kH,rfl⟩:=hOH.form;refine C1 rfl (BW (out:=[.slice pq qs.length kq,.slice pc cs.length kc,.slice pB _ kB,.slice pH _ kH]) rfl rfl rfl rfl rfl) rfl rfl rfl rfl ?_;refine Adm ?_;exact B5 (_,R,(.slice pB _ kB,σB),(.slice pH _ kH,σH)) ⟨hRn,hRm,hRl,hOB,hOH⟩ covZ selZ
  ·refine B9 ?_; rintro _ _ ⟨b,rfl,rfl⟩
   refine DS ?_ ?_
   ·refine BU rfl hbk rfl rfl rdZ rfl rfl ?_; rintro uR _ ⟨χR,⟨R,hOR,hRl,hRn,hRm⟩,rfl⟩; obtain ⟨pR,kR,rfl⟩:=hOR.form
    refine DS ?_ ?_
    ·refine B9 ?_; rintro _ _ ⟨b,rfl,rfl⟩
     refine DS ?_ ?_
     ·refine BU rfl (hcB hOR hRl) rfl rfl rdZ rfl rfl ?_; rintro uB _ ⟨σB,hOB,rfl⟩; rw [flat2] at hOB; obtain ⟨pB,kB,rfl⟩:=hOB.form
      refine DS ?_ ?_
      ·refine BU rfl hcH rfl rfl rdZ rfl rfl ?_; rintro uH _ ⟨σH,hOH,rfl⟩; rw [flat2] at hOH; obtain ⟨pH,kH,rfl⟩:=hOH.form
       refine C1 rfl (BW (out:=[.slice pq qs.length kq,.slice pc cs.length kc,.slice pB _ kB,.slice pH _ kH]) rfl rfl rfl rfl rfl) rfl rfl rfl rfl ?_;refine C5 ?_; rintro _ _ ⟨b,rfl,rfl⟩;refine Adm ?_;exact B5 (_,R,(.slice pB _ kB,σB),(.slice pH _ kH,σH)) ⟨hRn,hRm,hRl,hOB,hOH⟩ covZ selZ
      ·refine CS ?_; rintro _ _ ⟨b,rfl,rfl⟩
       refine CF (BU rfl hcH rfl rfl rdZ rfl rfl ?_); rintro uH _ ⟨σH,hOH,rfl⟩; rw [flat2] at hOH; obtain ⟨pH,kH,rfl⟩:=hOH.form;refine C1 rfl (BW (out:=[.slice pq qs.length kq,.slice pc cs.length kc,.slice pB _ kB,.slice pH _ kH]) rfl rfl rfl rfl rfl) rfl rfl rfl rfl ?_;refine Adm ?_;exact B5 (_,R,(.slice pB _ kB,σB),(.slice pH _ kH,σH)) ⟨hRn,hRm,hRl,hOB,hOH⟩ covZ selZ
     ·refine CS ?_; rintro _ _ ⟨b,rfl,rfl⟩
      refine CF (BU rfl (hcB hOR hRl) rfl rfl rdZ rfl rfl ?_); rintro uB _ ⟨σB,hOB,rfl⟩; rw [flat2] at hOB; obtain ⟨pB,kB,rfl⟩:=hOB.form;refine CF (BU rfl hcH rfl rfl rdZ rfl rfl ?_); rintro uH _ ⟨σH,hOH,rfl⟩; rw [flat2] at hOH; obtain ⟨pH,kH,rfl⟩:=hOH.form;refine C1 rfl (BW (out:=[.slice pq qs.length kq,.slice pc cs.length kc,.slice pB _ kB,.slice pH _ kH]) rfl rfl rfl rfl rfl) rfl rfl rfl rfl ?_;refine Adm ?_;exact B5 (_,R,(.slice pB _ kB,σB),(.slice pH _ kH,σH)) ⟨hRn,hRm,hRl,hOB,hOH⟩ covZ selZ
    ·refine CS ?_; rintro _ _ ⟨b,rfl,rfl⟩
     refine BF ?_; rintro _ _ ⟨b,rfl,rfl⟩;refine CF (BU rfl (hcB hOR hRl) rfl rfl rdZ rfl rfl ?_); rintro uB _ ⟨σB,hOB,rfl⟩; rw [flat2] at hOB; obtain ⟨pB,kB,rfl⟩:=hOB.form;refine CF (BU rfl hcH rfl rfl rdZ rfl rfl ?_); rintro uH _ ⟨σH,hOH,rfl⟩; rw [flat2] at hOH; obtain ⟨pH,kH,rfl⟩:=hOH.form;refine C1 rfl (BW (out:=[.slice pq qs.length kq,.slice pc cs.length kc,.slice pB _ kB,.slice pH _ kH]) rfl rfl rfl rfl rfl) rfl rfl rfl rfl ?_;refine Adm ?_;exact B5 (_,R,(.slice pB _ kB,σB),(.slice pH _ kH,σH)) ⟨hRn,hRm,hRl,hOB,hOH⟩ covZ selZ
   ·refine CS ?_; rintro _ _ ⟨b,rfl,rfl⟩
    refine CF (BU rfl hbk rfl rfl rdZ rfl rfl ?_); rintro uR _ ⟨χR,⟨R,hOR,hRl,hRn,hRm⟩,rfl⟩; obtain ⟨pR,kR,rfl⟩:=hOR.form;refine BF ?_; rintro _ _ ⟨b,rfl,rfl⟩;refine CF (BU rfl (hcB hOR hRl) rfl rfl rdZ rfl rfl ?_); rintro uB _ ⟨σB,hOB,rfl⟩; rw [flat2] at hOB; obtain ⟨pB,kB,rfl⟩:=hOB.form;refine CF (BU rfl hcH rfl rfl rdZ rfl rfl ?_); rintro uH _ ⟨σH,hOH,rfl⟩; rw [flat2] at hOH; obtain ⟨pH,kH,rfl⟩:=hOH.form;refine C1 rfl (BW (out:=[.slice pq qs.length kq,.slice pc cs.length kc,.slice pB _ kB,.slice pH _ kH]) rfl rfl rfl rfl rfl) rfl rfl rfl rfl ?_;refine Adm ?_;exact B5 (_,R,(.slice pB _ kB,σB),(.slice pH _ kH,σH)) ⟨hRn,hRm,hRl,hOB,hOH⟩ covZ selZ
  ·refine CS ?_; rintro _ _ ⟨b,rfl,rfl⟩
   refine DS ?_ ?_
   ·refine BU rfl hbk rfl rfl rdZ rfl rfl ?_; rintro uR _ ⟨χR,⟨R,hOR,hRl,hRn,hRm⟩,rfl⟩; obtain ⟨pR,kR,rfl⟩:=hOR.form
    refine DS ?_ ?_
    ·refine B9 ?_; rintro _ _ ⟨b,rfl,rfl⟩
     refine DS ?_ ?_
     ·refine BU rfl (hcB hOR hRl) rfl rfl rdZ rfl rfl ?_; rintro uB _ ⟨σB,hOB,rfl⟩; rw [flat2] at hOB; obtain ⟨pB,kB,rfl⟩:=hOB.form
      refine BF ?_; rintro _ _ ⟨b,rfl,rfl⟩;refine CF (BU rfl hcH rfl rfl rdZ rfl rfl ?_); rintro uH _ ⟨σH,hOH,rfl⟩; rw [flat2] at hOH; obtain ⟨pH,kH,rfl⟩:=hOH.form;refine C1 rfl (BW (out:=[.slice pq qs.length kq,.slice pc cs.length kc,.slice pB _ kB,.slice pH _ kH]) rfl rfl rfl rfl rfl) rfl rfl rfl rfl ?_;refine Adm ?_;exact B5 (_,R,(.slice pB _ kB,σB),(.slice pH _ kH,σH)) ⟨hRn,hRm,hRl,hOB,hOH⟩ covZ selZ
     ·refine B9 ?_; rintro _ _ ⟨b,rfl,rfl⟩
      refine CF (BU rfl (hcB hOR hRl) rfl rfl rdZ rfl rfl ?_); rintro uB _ ⟨σB,hOB,rfl⟩; rw [flat2] at hOB; obtain ⟨pB,kB,rfl⟩:=hOB.form;refine CF (BU rfl hcH rfl rfl rdZ rfl rfl ?_); rintro uH _ ⟨σH,hOH,rfl⟩; rw [flat2] at hOH; obtain ⟨pH,kH,rfl⟩:=hOH.form;refine C1 rfl (BW (out:=[.slice pq qs.length kq,.slice pc cs.length kc,.slice pB _ kB,.slice pH _ kH]) rfl rfl rfl rfl rfl) rfl rfl rfl rfl ?_;refine Adm ?_;exact B5 (_,R,(.slice pB _ kB,σB),(.slice pH _ kH,σH)) ⟨hRn,hRm,hRl,hOB,hOH⟩ covZ selZ
    ·refine B9 ?_; rintro _ _ ⟨b,rfl,rfl⟩
     refine BF ?_; rintro _ _ ⟨b,rfl,rfl⟩;refine CF (BU rfl (hcB hOR hRl) rfl rfl rdZ rfl rfl ?_); rintro uB _ ⟨σB,hOB,rfl⟩; rw [flat2] at hOB; obtain ⟨pB,kB,rfl⟩:=hOB.form;refine CF (BU rfl hcH rfl rfl rdZ rfl rfl ?_); rintro uH _ ⟨σH,hOH,rfl⟩; rw [flat2] at hOH; obtain ⟨pH,kH,rfl⟩:=hOH.form;refine C1 rfl (BW (out:=[.slice pq qs.length kq,.slice pc cs.length kc,.slice pB _ kB,.slice pH _ kH]) rfl rfl rfl rfl rfl) rfl rfl rfl rfl ?_;refine Adm ?_;exact B5 (_,R,(.slice pB _ kB,σB),(.slice pH _ kH,σH)) ⟨hRn,hRm,hRl,hOB,hOH⟩ covZ selZ
   ·refine B9 ?_; rintro _ _ ⟨b,rfl,rfl⟩
    refine CF (BU rfl hbk rfl rfl rdZ rfl rfl ?_); rintro uR _ ⟨χR,⟨R,hOR,hRl,hRn,hRm⟩,rfl⟩; obtain ⟨pR,kR,rfl⟩:=hOR.form;refine BF ?_; rintro _ _ ⟨b,rfl,rfl⟩;refine CF (BU rfl (hcB hOR hRl) rfl rfl rdZ rfl rfl ?_); rintro uB _ ⟨σB,hOB,rfl⟩; rw [flat2] at hOB; obtain ⟨pB,kB,rfl⟩:=hOB.form;refine CF (BU rfl hcH rfl rfl rdZ rfl rfl ?_); rintro uH _ ⟨σH,hOH,rfl⟩; rw [flat2] at hOH; obtain ⟨pH,kH,rfl⟩:=hOH.form;refine C1 rfl (BW (out:=[.slice pq qs.length kq,.slice pc cs.length kc,.slice pB _ kB,.slice pH _ kH]) rfl rfl rfl rfl rfl) rfl rfl rfl rfl ?_;refine Adm ?_;exact B5 (_,R,(.slice pB _ kB,σB),(.slice pH _ kH,σH)) ⟨hRn,hRm,hRl,hOB,hOH⟩ covZ selZ
 rintro ⟨b9,R,⟨uB,σB⟩,⟨uH,σH⟩⟩ ⟨hRn,hRm,hRl,hOB,hOH⟩
 dsimp only at hRn hRm hRl hOB hOH ⊢
 obtain ⟨pB,kB,rfl⟩:=hOB.form
 obtain ⟨pH,kH,rfl⟩:=hOH.form
 have lB:(bs ++ R).length=bs.length+R.length:=List.length_append
 have lH:(hs ++ holdsA cs l qs.length).length=hs.length+(holdsA cs l qs.length).length:=List.length_append
 by_cases hc:512<(bs ++ R).length
 ·obtain ⟨R',bs1,hs1,hk,e1,e2⟩:=rsv_lens (qs:=qs) (hs:=hs) hB0 hE hRn hRm
  refine AC ?_;refine Acr ?_;refine CT ?_;refine Acg ?_;refine CW (BW (out:=[.slice none 0 0,.slice none 0 0,.slice none 0 0,.slice none 0 0]) rfl rfl rfl rfl rfl) rfl rfl rfl ?_;refine AY ?_; rintro _ _ ⟨rfl,rfl⟩;refine Aaa ?_
  exact AO (resSE (b1:=b4) (T:=29) (v1:=[.slice none 0 0,.slice none 0 0,.slice none 0 0,.slice none 0 0]) rfl rfl rfl rfl rfl (cells_own memZ)) rsubZ selZ (.inl ⟨4,by decide,rfl,rfl,.inr ⟨h0,.inr ⟨hE,.inr ⟨hA,R',bs1,hs1,hk,.inl ⟨by omega,rfl,rfl,rfl⟩⟩⟩⟩⟩)
 refine AC ?_;refine Acr ?_;refine Af ?_;refine Aas ?_
 refine BL (sortB_spec σB _ (bs ++ R) hOB (by omega)) rfl rfl takesZ (fun τ hτ=>by simp at hτ) rfl rfl ?_
 rintro _ _ ⟨rfl,B1,σB',hpB,hwB,hOB1,rfl⟩
 have hB1l:=hpB.length_eq
 refine AE ?_;refine Aas ?_
 refine BL (sortH_spec σH _ (hs ++ holdsA cs l qs.length) hOH (by omega)) rfl rfl takesZ (fun τ hτ=>by simp at hτ) rfl rfl ?_
 rintro _ _ ⟨rfl,H1,σH',hpH,hwH,hOH1,rfl⟩
 have hH1l:=hpH.length_eq
 have hRO:RsvOK qs cs bs hs l R B1 H1:=⟨hRn,hRm,hpB,bks_strict hB0 hE hRn hRm hpB hwB,hpH,hds_sort hwH⟩
 rw [← hB1l] at hOB1;rw [← hH1l] at hOH1
 have hBA:SlE encB 4 σB' (.slice pB B1.length kB) B1:=hOB1.at
 have hHA1:HdAt σH' (.slice pH H1.length kH) H1:=hOH1.at
 rw [← hB1l,← hH1l];refine AW (ρ:=sng b9 (.cells #[.slice pq qs.length kq,.slice pc cs.length kc,.slice pB B1.length kB,.slice pH H1.length kH] 29 (0,0))) takeZ ?_
 have c9:=rdB b9 29 [.slice pq qs.length kq,.slice pc cs.length kc,.slice pB B1.length kB,.slice pH H1.length kH]
 have c90:=rdC c9 0
 have c91:=rdC c9 1
 have c92:=rdC c9 2
 have c93:=rdC c9 3
 have c9p:=rdQ (xs:=[_,_]) c9
 have hck:=check28_spec ρ τ σH' pq pc kq kc qs cs _ H1 hT.hq hT.hc hT.hcap hT.lq hT.lc hHA1 (by omega)
 refine Aat ?_;refine Aa ?_;refine Agh ?_;refine Aad ?_;refine BC hck rfl rfl rdZ rfl rfl ?_;rintro _ rfl
 by_cases hz:chkH qs cs H1=0
 rotate_left
 ·refine CJ ?_
  refine Acg ?_;refine CW (BW (out:=[.slice none 0 0,.slice none 0 0,.slice none 0 0,.slice none 0 0]) rfl rfl rfl rfl rfl) rfl rfl rfl ?_;refine AY ?_; rintro _ _ ⟨rfl,rfl⟩;refine Aaa ?_
  exact AO (resSE (b1:=b4) (T:=29) (v1:=[.slice none 0 0,.slice none 0 0,.slice none 0 0,.slice none 0 0]) rfl rfl rfl rfl rfl (cells_own memZ)) rsubZ selZ (.inl ⟨15,by decide,rfl,rfl,.inr ⟨h0,.inr ⟨hE,.inr ⟨hA,R,B1,H1,hRO,.inr ⟨⟨by omega,by omega⟩,.inl ⟨hz,rfl,rfl,rfl⟩⟩⟩⟩⟩⟩)
 rw [hz];refine Abh ?_;refine Abt ?_;refine AY ?_; rintro _ _ ⟨rfl,rfl⟩;refine Aaa ?_
 exact AO (resSE (b1:=b4) (T:=29) (v1:=[.slice pq qs.length kq,.slice pc cs.length kc,.slice pB B1.length kB,.slice pH H1.length kH]) rfl rfl rfl rfl rfl (cells_own memZ)) rsubZ selZ (.inr ⟨B1,H1,pB,kB,pH,kH,σB',σH',rfl,rfl,.inr ⟨h0,.inr ⟨hE,.inr ⟨hA,R,B1,H1,hRO,.inr ⟨⟨by omega,by omega⟩,.inr ⟨hz,rfl,rfl,rfl⟩⟩⟩⟩⟩,by omega,by omega,hBA,hHA1⟩)
theorem insH_ok {nq:Nat} {l:List Hd} {h:Hd} (hok:∀ x∈l,okHd nq x) (hh:okHd nq h):∀ x∈insH l h,okHd nq x:=fun x hx=>by
 rcases (insW_mem _ l h x).1 hx with rfl|hx
 ·exact hh
 ·exact hok x hx
theorem insH_len (l:List Hd) (h:Hd):(insH l h).length=l.length+1:=insW_len _ _ _
theorem refAdd_spec (ρ τ σ:PH) (pq pc:Option Addr) (kq kc:Nat) (qs:List Int) (cs:List Ct) (v:Value) (l:List Hd) (h:Hd) (hq:IntsAt ρ (.slice pq qs.length kq) qs) (hc:CtAt τ (.slice pc cs.length kc) cs) (lq:qs.length≤9223372036854775807) (lc:cs.length≤9223372036854775807) (hv:HdAt σ v l) (hcv:CapOK v) (hl:l.length≤9223372036854775807) :
  Makes Tryz.prog (fv 54) [.agg #[.slice pq qs.length kq,.slice pc cs.length kc],v,.agg #[int h.n,int h.a,int h.b,int h.s,int h.k]] [ρ,τ,σ] (fun r σ'=>∃ u,r=.tuple #[u,int (addR qs cs l h).2]∧OwnS 99 5 u (addR qs cs l h).1.length ((addR qs cs l h).1.flatMap encH) σ'):=by
 have hv2:=hv
 obtain ⟨q,c,rfl,hr⟩:=hv.val encH_len
 refine spec_in (cap:=[]) Tryz.func54 rfl rfl Tryz.ntmps54 rfl envZ (fun N β=>?_)
 refine Aa ?_;refine BH (BO rfl) rfl rfl rfl ?_;rintro _ _ ⟨b1,rfl,rfl⟩;refine AW (ρ:=sng b1 _) takeZ ?_;refine BH (BO rfl) rfl rfl rfl ?_;rintro _ _ ⟨b2,rfl,rfl⟩;refine AW (ρ:=sng b2 _) takeZ ?_
 have c1:=rdB b1 25 [.slice pq qs.length kq,.slice pc cs.length kc]
 have c2:=rdB b2 99 [int h.n,int h.a,int h.b,int h.s,int h.k]
 refine Aal ?_;refine AC ?_;refine Afm ?_;refine BC (refCheck28_spec ρ τ σ pq pc kq kc qs cs _ l hq hc lq lc hv2 hl) rfl rfl rdZ rfl rfl ?_;rintro _ rfl
 by_cases h0:chkH qs cs l=0
 rotate_left
 ·have hR:addR qs cs l h=([],1):=by unfold addR; rw [if_pos h0]
  rw [hR]
  generalize chkH qs cs l=z at h0
  refine Ae0 ?_;refine AZ ?_; rintro _ _ ⟨b,rfl,rfl⟩;refine Aal ?_;exact AO (res2 rfl rfl rfl) rsubZ selZ ⟨_,⟨_,rfl,OwnS.empty⟩,rfl⟩
 rw [h0]
 obtain ⟨hok,hlen,hql⟩:=chkH_ok h0
 refine Aek ?_;refine Acu ?_;refine BC (refValid28_spec (.slice pq qs.length kq) (.slice pc cs.length kc) ρ qs kq pq h rfl rfl) rfl rfl rdZ rfl rfl ?_;rintro _ rfl
 by_cases hh:okHd qs.length h
 rotate_left
 ·have hR:addR qs cs l h=([],2):=by unfold addR; rw [if_neg (fun h=>h h0),if_pos hh]
  rw [hR,decide_eq_false hh];refine Afo ?_;refine AZ ?_; rintro _ _ ⟨b,rfl,rfl⟩;refine Aal ?_;exact AO (res2 rfl rfl rfl) rsubZ selZ ⟨_,⟨_,rfl,OwnS.empty⟩,rfl⟩
 rw [decide_eq_true hh]
 by_cases hfull:l.length=512
 ·have hR:addR qs cs l h=([],4):=by unfold addR; rw [if_neg (fun h=>h h0),if_neg (fun h=>h hh),if_pos hfull]
  rw [hR];refine Acw ?_;refine Abg ?_;refine CQ ?_;refine Acg ?_;refine AZ ?_; rintro _ _ ⟨b,rfl,rfl⟩;refine Aal ?_;exact AO (res2 rfl rfl rfl) rsubZ selZ ⟨_,⟨_,rfl,OwnS.empty⟩,rfl⟩
 refine Acw ?_;refine Abg ?_;refine Adu ?_;refine Aac ?_;refine AV ?_
 refine BV (refInsert_spec σ _ l h hv2 hcv (by omega)) rfl rfl rdZ rfl rfl ?_
 rintro ui σi hOi;refine Abl ?_;refine Afm ?_
 refine BC (fits_spec ρ σi pq pc kq cs.length kc qs ui (insH l h) hq hOi.at (insH_ok hok hh) (by rw [insH_len]; omega)) rfl rfl rdZ rfl rfl ?_
 rintro _ rfl
 cases hfit:fitB qs (insH l h) with
 | true =>
  have hR:addR qs cs l h=(insH l h,0):=by unfold addR; rw [if_neg (fun h=>h h0),if_neg (fun h=>h hh),if_neg hfull,if_pos hfit]
  rw [hR];refine Acw ?_;refine Afh ?_;exact AO (res2 rfl rfl rfl) rsubZ selZ ⟨_,⟨_,rfl,hOi⟩,rfl⟩
 | false =>
  have hR:addR qs cs l h=([],15):=by unfold addR; rw [if_neg (fun h=>h h0),if_neg (fun h=>h hh),if_neg hfull,hfit]; rfl
  rw [hR];refine Afo ?_;refine AZ ?_; rintro _ _ ⟨b,rfl,rfl⟩;refine Aal ?_;exact AO (res2 rfl rfl rfl) rsubZ selZ ⟨_,⟨_,rfl,OwnS.empty⟩,rfl⟩
theorem Reserve54_spec {ρ τ σ υ:PH} (ω:PH) {pq pc pb ph:Option Addr} {kq kc kb kh:Nat} {qs:List Int} {cs:List Ct} {bs:List Bk} {hs:List Hd} (hT:TbAt ρ τ σ υ pq pc pb ph kq kc kb kh qs cs bs hs) (v:Value) (l:List Sh) (hv:ShAt ω v l) (hll:l.length≤500000) (hch:hs.length≤kh) :
  Eng.Spec Tryz.prog (fv 18) [.agg #[.slice pq qs.length kq,.slice pc cs.length kc,.slice pb bs.length kb,.slice ph hs.length kh],v] [ρ,τ,σ,υ,ω] [] (fun r H'=>(∃ e,e≠0∧r=.tuple #[.agg #[.slice none 0 0,.slice none 0 0,.slice none 0 0,.slice none 0 0],int e]∧H'=[]∧RsvR qs cs bs hs l e [] [])∨(∃ (bs':List Bk) (hs':List Hd) (p1:Option Addr) (k1:Nat) (p2:Option Addr) (k2:Nat) (σ1 σ2:PH),r=.tuple #[.agg #[.slice pq qs.length kq,.slice pc cs.length kc,.slice p1 bs'.length k1,.slice p2 hs'.length k2],int 0]∧H'=[σ1,σ2]∧RsvR qs cs bs hs l 0 bs' hs'∧bs'.length≤512∧hs'.length≤512∧hs'.length≤k2∧(SlE encB 4 σ (.slice p1 bs'.length k1) bs'∨SlE encB 4 σ1 (.slice p1 bs'.length k1) bs')∧(HdAt υ (.slice p2 hs'.length k2) hs'∨HdAt σ2 (.slice p2 hs'.length k2) hs'))):=by
 have hlb:=hT.lb
 have hlh:=hT.lh
 refine spec_in (cap:=[]) Tryz.func18 rfl rfl Tryz.ntmps18 rfl envZ (fun N β=>?_)
 refine Aa ?_;refine BH (BO rfl) rfl rfl rfl ?_;rintro _ _ ⟨b2,rfl,rfl⟩;refine Afv ?_;refine A4 ?_; rintro _ _ ⟨b,rfl,rfl⟩;refine Abl ?_;refine Abt ?_
 revert b; intro b4
 refine BC (refChkTab_spec hT) rfl rfl rdZ rfl rfl ?_;rintro _ rfl
 by_cases h0:chkT qs cs bs hs=0
 rotate_left
 ·refine CJ ?_
  refine Acg ?_;refine CW (BW (out:=[.slice none 0 0,.slice none 0 0,.slice none 0 0,.slice none 0 0]) rfl rfl rfl rfl rfl) rfl rfl rfl ?_;refine AY ?_; rintro _ _ ⟨rfl,rfl⟩;refine Aaa ?_
  exact AO (resSE (b1:=b4) (T:=29) (v1:=[.slice none 0 0,.slice none 0 0,.slice none 0 0,.slice none 0 0]) rfl rfl rfl rfl rfl (cells_own memZ)) rsubZ selZ (.inl ⟨1,by decide,rfl,rfl,.inl ⟨h0,rfl,rfl,rfl⟩⟩)
 obtain ⟨nb,nh,nq⟩:=tab_ok h0
 have hB0:=(chkT_ok h0).2.1
 have hH0:=(chkT_ok h0).2.2
 refine Aek ?_;refine Afm ?_
 refine BC (checkSh54_spec ω hT v l hv (by omega) (by omega)) rfl rfl rdZ rfl rfl ?_
 rintro _ rfl
 by_cases hE:firstE (rsvE cs bs l) l.length=0
 rotate_left
 ·refine AD ?_
  refine Aej ?_;refine Ae0 ?_;refine CW (BW (out:=[.slice none 0 0,.slice none 0 0,.slice none 0 0,.slice none 0 0]) rfl rfl rfl rfl rfl) rfl rfl rfl ?_;refine AB ?_;refine AY ?_; rintro _ _ ⟨rfl,rfl⟩;refine Aaa ?_;exact AO (resSE (b1:=b4) (T:=29) (v1:=[.slice none 0 0,.slice none 0 0,.slice none 0 0,.slice none 0 0]) rfl rfl rfl rfl rfl (cells_own memZ)) rsubZ selZ (.inl ⟨firstE (rsvE cs bs l) l.length,hE,rfl,rfl,.inr ⟨h0,.inl ⟨hE,rfl,rfl,rfl⟩⟩⟩)
 rw [hE]
 have hok:=shB_of h0 hE
 have hnd:=ticks_nodup (rsv_facts hE).2
 have hok2:∀ x∈l,0≤x.t∧x.t≤1099511627776:=fun x hx=>by
  obtain ⟨_,_,_,_,h5,_⟩:=hok x hx
  exact h5
 refine Ahd ?_;refine Aa ?_;refine AG ?_
 focus ((refine CW (EP (vs:=[.slice pq qs.length kq,.slice pc cs.length kc]) rfl rfl (cellsQ (xs:=[.slice pq qs.length kq,.slice pc cs.length kc]) (ys:=[.slice pb bs.length kb,.slice ph hs.length kh]) memZ) rfl) rfl rfl rfl ?_))
 refine AB ?_;refine BL (holds54_spec ρ τ ω pq pc kq kc qs cs hT.hc v l hv hll hok nq) rfl rfl Takes.nil rdZ rfl rfl ?_;rintro _ _ ⟨uh,okk,χH,rfl,rfl,⟨hA,rfl⟩|⟨hA,rfl,hHl,hOh⟩⟩
 ·refine AB ?_
  refine Ahj ?_;refine Aah ?_;refine Afo ?_;refine CW (BW (out:=[.slice none 0 0,.slice none 0 0,.slice none 0 0,.slice none 0 0]) rfl rfl rfl rfl rfl) rfl rfl rfl ?_;refine AY ?_; rintro _ _ ⟨rfl,rfl⟩;refine Aaa ?_
  exact AO (resSE (b1:=b4) (T:=29) (v1:=[.slice none 0 0,.slice none 0 0,.slice none 0 0,.slice none 0 0]) rfl rfl rfl rfl rfl (cells_own memZ)) rsubZ selZ (.inl ⟨24,by decide,rfl,rfl,.inr ⟨h0,.inr ⟨hE,.inl ⟨hA,rfl,rfl,rfl⟩⟩⟩⟩)
 obtain ⟨puh,kuh,rfl⟩:=hOh.form
 have hHA:HdAt χH (.slice puh (holdsA cs l qs.length).length kuh) (holdsA cs l qs.length):=hOh.at
 have hrH:=rowN encH_len hHA
 refine AW (ρ:=χH) takeZ ?_;refine Adi ?_;refine Acw ?_;refine Aac ?_
 refine BV (bookings54_spec ω v l hv (by omega) hok2 hnd) rfl rfl rdZ rfl rfl ?_
 rintro uR χR ⟨R,hOR,hRl,hRn,hRm⟩
 obtain ⟨pR,kR,rfl⟩:=hOR.form
 have hRA:SlE encB 4 χR (.slice pR R.length kR) R:=hOR.at
 have hrR:=rowN encB_len hRA
 refine AW (ρ:=χR) takeZ ?_
 obtain ⟨R',bs1,hs1,hk,e1,e2⟩:=rsv_lens (qs:=qs) (hs:=hs) hB0 hE hRn hRm
 have hsz:=fun y h=>holdsA_sz (cs:=cs) (l:=l) (k:=qs.length) y h
 generalize hHAe:holdsA cs l qs.length=HA at hOh hHA hrH e2 hsz hHl
 by_cases c1:512<bs.length+R.length
 ·refine AD ?_
  refine Aat ?_;refine Acr ?_;refine Ada ?_;refine CB ?_;refine CT ?_;refine Abs ?_;refine Abx ?_;refine Acg ?_;refine CW (BW (out:=[.slice none 0 0,.slice none 0 0,.slice none 0 0,.slice none 0 0]) rfl rfl rfl rfl rfl) rfl rfl rfl ?_;refine AY ?_; rintro _ _ ⟨rfl,rfl⟩;refine Aaa ?_
  exact AO (resSE (b1:=b4) (T:=29) (v1:=[.slice none 0 0,.slice none 0 0,.slice none 0 0,.slice none 0 0]) rfl rfl rfl rfl rfl (cells_own memZ)) rsubZ selZ (.inl ⟨4,by decide,rfl,rfl,.inr ⟨h0,.inr ⟨hE,.inr ⟨hA,R',bs1,hs1,hk,.inl ⟨by omega,rfl,rfl,rfl⟩⟩⟩⟩⟩)
 by_cases c2:512<hs.length+HA.length
 ·refine AD ?_
  refine Aat ?_;refine Acr ?_;refine Ada ?_;refine CB ?_;refine B7 ?_;refine Aaj ?_;refine AU ?_;refine Ada ?_;refine CB ?_;refine CT ?_;refine AN ?_;refine Acg ?_;refine CW (BW (out:=[.slice none 0 0,.slice none 0 0,.slice none 0 0,.slice none 0 0]) rfl rfl rfl rfl rfl) rfl rfl rfl ?_;refine AY ?_; rintro _ _ ⟨rfl,rfl⟩;refine Aaa ?_
  exact AO (resSE (b1:=b4) (T:=29) (v1:=[.slice none 0 0,.slice none 0 0,.slice none 0 0,.slice none 0 0]) rfl rfl rfl rfl rfl (cells_own memZ)) rsubZ selZ (.inl ⟨4,by decide,rfl,rfl,.inr ⟨h0,.inr ⟨hE,.inr ⟨hA,R',bs1,hs1,hk,.inl ⟨by omega,rfl,rfl,rfl⟩⟩⟩⟩⟩)
 clear hk e1 e2;refine Abl ?_;refine Acr ?_;refine Ada ?_;refine CB ?_;refine B7 ?_;refine Aaj ?_;refine AU ?_;refine Ada ?_;refine CB ?_;refine Aei ?_;refine Acv ?_
 refine BA [1,2,4,7,9] (X:=Nat × List Bk × (Option Addr × Nat) × PH) (0,bs,(pb,kb),emp) (fun x=>x.1≤R.length∧x.2.1.Perm (bs ++ R.take x.1)∧BkS x.2.1∧(SlE encB 4 σ (.slice x.2.2.1.1 x.2.1.length x.2.2.1.2) x.2.1∨SlE encB 4 x.2.2.2 (.slice x.2.2.1.1 x.2.1.length x.2.2.1.2) x.2.1)) (fun x=>[(10,int x.1)]) (fun x=>[sng b2 (.cells #[.slice pq qs.length kq,.slice pc cs.length kc,.slice x.2.2.1.1 x.2.1.length x.2.2.1.2,.slice ph hs.length kh] 29 (0,0)),sng b4 (.cells #[.slice none 0 0,.slice none 0 0,.slice none 0 0,.slice none 0 0] 29 (0,0)),x.2.2.2,emp]) (fun x=>R.length-x.1) pickZ ⟨by dsimp only; omega,by dsimp only; rw [List.take_zero,List.append_nil],bks_weak hB0,.inl hT.hb⟩ covZ selZ ?_
 rintro ⟨i,L,⟨p5,k5⟩,χb⟩ ⟨hi,hLp,hLs,hLB⟩
 dsimp only at hi hLp hLs hLB ⊢
 have hLl:L.length=bs.length+i:=by rw [hLp.length_eq,List.length_append,List.length_take]; omega
 by_cases hil:i<R.length
 ·have hx:=List.getElem?_eq_getElem hil
  have htk:R.take (i+1)=R.take i ++ [R[i]]:=List.take_succ_eq_append_getElem hil
  obtain ⟨b6,o6,rfl,hrd6,_⟩:=bkRow hrR hx
  generalize R[i]=x at hx htk hrd6
  refine D3 (P:=fun z=>SlE encB 4 z (.slice p5 L.length k5) L) (σ:=σ) (χ:=χb) memZ takeZ hLB (fun σ' hB'=>?_)
  refine Abo ?_
  refine A6 (.q 0 (.q 1 (.q 2 (.q 3 (.q 4 (.q 5 (.l 6 .e (.q 7 (.l 8 .b .nil))))))))) [] rfl (by kernel_rfl) Sel.nil ?_
  refine Aau ?_;refine Ae ?_
  refine CF (BU rfl (insert27_spec σ' _ L x hB' (by omega)) rfl rfl rdZ rfl rfl ?_)
  rintro u7 _ ⟨χ7,⟨A,B,hAB,hAn,hBn,hO7⟩,rfl⟩
  obtain ⟨p7,k7,rfl⟩:=hO7.form
  have hpL:(A ++ x::B).Perm (bs ++ R.take (i+1)):=by
   rw [htk,← List.append_assoc];refine List.perm_middle.trans ((List.Perm.cons x ?_).trans (List.perm_append_singleton x _).symm);rw [← hAB];exact hLp
  have hsL:BkS (A ++ x::B):=ins_bk (by rw [← hAB]; exact hLs) hAn hBn
  refine AX ?_;refine D0 ?_; rintro _ _ ⟨rfl,rfl⟩;refine A7 ?_;refine Aa2 ?_;refine DF ?_
  exact AT (i+1,A ++ x::B,(p7,k7),χ7) ⟨by dsimp only; omega,hpL,hsL,.inr hO7.at⟩ (by dsimp only; omega) covZ selZ
 have hie:i=R.length:=by omega
 rw [hie,List.take_length] at hLp
 have hLs2:=bks_strict hB0 hE hRn hRm hLp hLs
 refine Aci ?_;refine Acv ?_
 refine BA [1,2,4,7] (X:=Nat × List Hd × (Option Addr × Nat) × PH) (0,hs,(ph,kh),emp) (fun x=>x.1≤HA.length∧AddI qs cs hs HA x.1 x.2.1∧x.2.1.length≤x.2.2.1.2∧(HdAt υ (.slice x.2.2.1.1 x.2.1.length x.2.2.1.2) x.2.1∨HdAt x.2.2.2 (.slice x.2.2.1.1 x.2.1.length x.2.2.1.2) x.2.1)) (fun x=>[(11,int x.1)]) (fun x=>[sng b2 (.cells #[.slice pq qs.length kq,.slice pc cs.length kc,.slice p5 L.length k5,.slice x.2.2.1.1 x.2.1.length x.2.2.1.2] 29 (0,0)),sng b4 (.cells #[.slice none 0 0,.slice none 0 0,.slice none 0 0,.slice none 0 0] 29 (0,0)),χb,x.2.2.2]) (fun x=>HA.length-x.1) pickZ ⟨by dsimp only; omega,AddI.start hH0,hch,.inl hT.hh⟩ covZ selZ ?_
 rintro ⟨j,M,⟨p6,k6⟩,χh⟩ ⟨hj,hI,hMc,hMH⟩
 dsimp only at hj hI hMc hMH ⊢
 have hMl:M.length=hs.length+j:=by rw [hI.pm.length_eq,List.length_append,List.length_take]; omega
 by_cases hjl:j<HA.length
 rotate_left
 ·have hje:j=HA.length:=by omega
  rw [hje] at hI
  obtain ⟨m1,m2,m3⟩:=hI.end
  have hRO:RsvOK qs cs bs hs l R L M:=⟨hRn,hRm,hLp,hLs2,by rw [hHAe]; exact m1,m2⟩
  refine Aci ?_;refine Abt ?_;refine AY ?_; rintro _ _ ⟨rfl,rfl⟩;refine Aaa ?_
  exact AO (resSE (b1:=b4) (T:=29) (v1:=[.slice pq qs.length kq,.slice pc cs.length kc,.slice p5 L.length k5,.slice p6 M.length k6]) rfl rfl rfl rfl rfl (cells_own memZ)) rsubZ selZ (.inr ⟨L,M,p5,k5,p6,k6,χb,χh,rfl,rfl,.inr ⟨h0,.inr ⟨hE,.inr ⟨hA,R,L,M,hRO,.inr ⟨⟨by omega,by omega⟩,.inr ⟨m3,rfl,rfl,rfl⟩⟩⟩⟩⟩,by omega,by omega,hMc,hLB,hMH⟩)
 have hx:=List.getElem?_eq_getElem hjl
 obtain ⟨b6,o6,rfl,hrd6,_⟩:=hdRow5 hrH hx
 generalize HA[j]=x at hx hrd6
 refine D3 (P:=fun z=>HdAt z (.slice p6 M.length k6) M) (σ:=υ) (χ:=χh) memZ takeZ hMH (fun υ' hH'=>?_)
 have hadd:=refAdd_spec ρ τ υ' pq pc kq kc qs cs _ M x hT.hq hT.hc hT.lq hT.lc hH' ⟨_,_,_,rfl,hMc⟩ (by omega)
 have hstep:=hI.step hx (by omega) hsz
 refine Ad9 ?_
 refine A6 (.q 0 (.q 1 (.q 2 (.q 3 (.q 4 (.q 5 (.q 6 (.q 7 (.l 8 .e (.q 9 (.q 10 (.q 11 (.q 12 (.q 13 .nil)))))))))))))) [] rfl (by kernel_rfl) Sel.nil ?_
 refine AX ?_
 focus ((refine C1 rfl (EP (vs:=[.slice pq qs.length kq,.slice pc cs.length kc]) rfl rfl (cellsQ (xs:=[.slice pq qs.length kq,.slice pc cs.length kc]) (ys:=[.slice p5 L.length k5,.slice p6 M.length k6]) memZ) rfl) rfl rfl rfl rfl ?_))
 refine Aau ?_;refine Ae ?_
 focus ((refine CF (BU rfl hadd rfl rfl rdZ rfl rfl ?_); rintro _ _ ⟨χ8,⟨u8,rfl,hO8⟩,rfl⟩))
 refine AI ?_;refine DQ ?_;refine DQ ?_;refine B4 ?_;refine Adr ?_
 rcases hstep with ⟨ea,hI2⟩|⟨en,ea,hM9⟩
 ·rw [ea] at hO8 ⊢
  dsimp only at hO8 ⊢
  obtain ⟨p8,k8,rfl,hc8⟩:=hO8.formC
  refine Aah ?_;refine Abh ?_;refine Ade ?_;refine AG ?_;refine BS ?_; rintro _ _ ⟨rfl,rfl⟩;refine Ag5 ?_;refine DF ?_
  exact AT (j+1,insH M x,(p8,k8),χ8) ⟨by dsimp only; omega,hI2,hc8,.inr hO8.at⟩ (by dsimp only; omega) covZ selZ
 ·obtain ⟨hs9,hk9⟩:=rsv_with (qs:=qs) (hs:=hs) hB0 hE hRn hRm hLp hLs
  have l9:=hk9.lens
  have hc9:=hM9 hs9 (by have:=hk9.ph; rwa [hHAe] at this)
  rw [hHAe] at l9
  generalize (addR qs cs M x).2=e9 at en ⊢
  refine Aah ?_;refine Ae0 ?_;refine CW (BW (out:=[.slice none 0 0,.slice none 0 0,.slice none 0 0,.slice none 0 0]) rfl rfl rfl rfl rfl) rfl rfl rfl ?_;refine AY ?_; rintro _ _ ⟨rfl,rfl⟩;refine Aaa ?_
  exact AO (resSE (b1:=b4) (T:=29) (v1:=[.slice none 0 0,.slice none 0 0,.slice none 0 0,.slice none 0 0]) rfl rfl rfl rfl rfl (cells_own memZ)) rsubZ selZ (.inl ⟨15,by decide,rfl,rfl,.inr ⟨h0,.inr ⟨hE,.inr ⟨hA,R,L,hs9,hk9,.inr ⟨⟨by omega,by omega⟩,.inl ⟨hc9,rfl,rfl,rfl⟩⟩⟩⟩⟩⟩)
theorem refNormal_spec (ρ:PH) (p:Option Addr) (kk:Nat) (l:Iv) (hv:SpAt ρ (.slice p l.length kk) l) (hl:l.length≤1000) (hok:∀ x∈l,okSp x) :
  Makes Tryz.prog (fv 164) [.slice p l.length kk] [ρ] (fun r σ=>∃ u,r=.tuple #[u,int 0]∧OwnS 152 2 u (insAll [] l).length ((insAll [] l).flatMap encS) σ):=by
 have hr:=rowN encS_len hv
 refine spec_in (cap:=[]) Tryz.func164 rfl rfl Tryz.ntmps164 rfl envZ (fun N β=>?_)
 refine Ad5 ?_;refine Abg ?_;refine Af ?_;refine Aa ?_;refine AZ ?_; rintro _ _ ⟨b,rfl,rfl⟩;refine Adt ?_
 revert b; intro bo
 refine BA [0] (X:=Nat × Value × PH) (0,.slice (some ⟨bo,0,none⟩) 0 0,sng bo (.cells #[] 152 (0,0))) (fun z=>z.1≤l.length∧OwnS 152 2 z.2.1 (insAll [] (l.take z.1)).length ((insAll [] (l.take z.1)).flatMap encS) z.2.2) (fun z=>[(5,int z.1),(4,z.2.1)]) (fun z=>[z.2.2]) (fun z=>l.length-z.1) pickZ ⟨by dsimp only; omega,OwnS.empty⟩ covZ selZ ?_
 rintro ⟨k,u,σ⟩ ⟨hk,hO⟩
 dsimp only at hk hO ⊢
 by_cases hlt:k<l.length
 rotate_left
 ·rw [List.take_of_length_le (by omega)] at hO
  refine Aci ?_;refine Afh ?_;exact AO (res2 rfl rfl rfl) rsubZ selZ ⟨σ,⟨u,rfl,hO⟩,rfl⟩
 have hx:=List.getElem?_eq_getElem hlt
 have hm:=hok _ (List.getElem_mem hlt)
 have hti:insAll [] (l.take (k+1))=insI (insAll [] (l.take k)) l[k]:=by
  rw [List.take_succ_eq_append_getElem hlt];unfold insAll;rw [List.foldl_append]
  rfl
 have hil:=(insAll_ok (b:=l.take k) (a:=[]) ⟨by simp,List.Pairwise.nil⟩ (fun x hx=>(hok x (List.mem_of_mem_take hx)).1)).2.2
 rw [List.length_take] at hil;simp only [List.length_nil] at hil
 obtain ⟨b7,o7,rfl,hrd⟩:=hr k _ hx
 generalize insAll [] (l.take k)=O at hO hti hil
 generalize l[k]=x at hx hm hti hrd
 have hV:=refIvValid_spec x
 rw [decide_eq_true hm] at hV
 have hI:=refIvInsert_spec σ u O x (show SpAt σ u O from hO.at) hO.capOK (by omega)
 have hrd2:RdN ρ b7 (o7+k*2) [int x.1,int x.2]:=hrd
 refine Abo ?_;refine Aav ?_;refine Abm ?_;refine BC hV rfl rfl rdZ rfl rfl ?_;rintro _ rfl;refine Acw ?_;refine Ac8 ?_;refine Abm ?_;refine BV hI rfl rfl rdZ rfl rfl ?_;rintro u1 σ1 hO1;refine Adb ?_
 refine AT (k+1,u1,σ1) ⟨by dsimp only; omega,?_⟩ (by dsimp only; omega) covZ selZ
 dsimp only
 rw [hti];exact hO1
theorem refSides_spec {ρ τ σ υ:PH} {pq pc pb ph:Option Addr} {kq kc kb kh:Nat} {qs:List Int} {cs:List Ct} {bs:List Bk} {hs:List Hd} (hT:TbAt ρ τ σ υ pq pc pb ph kq kc kb kh qs cs bs hs) (d:Dm) (ω:PH) (u0:Value) (side:List Int) (hu:IntsAt ω u0 side) (hsl:side.length≤1000000) :
  Eng.Spec Tryz.prog (fv 107) [.agg #[.slice pq qs.length kq,.slice pc cs.length kc,.slice pb bs.length kb,.slice ph hs.length kh],.agg #[int d.s,int d.d,int d.v,int d.r,int d.e],u0] [ρ,τ,σ,υ,ω] [] (fun r H'=>∃ (L:List Sq) (u:Value) (σ' χ':PH),r=.tuple #[u,int (sidesE qs cs bs hs d side)]∧H'=[σ',χ']∧cuL L=(if sidesE qs cs bs hs d side=0 then sidesC d qs.length side else [])∧CutL σ' χ' u L):=by
 obtain ⟨pf,kf,rfl,hrf⟩:=hu.val Eng.encI_len
 refine spec_in (cap:=[]) Tryz.func107 rfl rfl Tryz.ntmps107 rfl envZ (fun N β=>?_)
 refine Aa ?_;refine BH (BO rfl) rfl rfl rfl ?_;rintro _ _ ⟨b1,rfl,rfl⟩;refine AW (ρ:=sng b1 _) takeZ ?_
 have ct:=rdB b1 29 [.slice pq qs.length kq,.slice pc cs.length kc,.slice pb bs.length kb,.slice ph hs.length kh]
 have ct0:=rdC ct 0
 have ct1:=rdC ct 1
 have ct2:=rdC ct 2
 have ct3:=rdC ct 3
 have ctp:=rdQ (xs:=[_,_]) ct
 refine BH (BO rfl) rfl rfl rfl ?_;rintro _ _ ⟨b2,rfl,rfl⟩;refine AW (ρ:=sng b2 _) takeZ ?_
 have cd:=rdB b2 31 [int d.s,int d.d,int d.v,int d.r,int d.e]
 have cd0:=rdC cd 0
 have cd1:=rdC cd 1
 have cd2:=rdC cd 2
 have cd3:=rdC cd 3
 have cd4:=rdC cd 4
 refine BZ ?_;refine Aal ?_;refine Acu ?_;refine BV (refGraph53_spec hT d) rfl rfl rdZ rfl rfl ?_;rintro _ σg hg
 cases hv:validT qs cs bs hs d with
 | false =>
  rw [hv,if_neg (by simp)] at hg
  obtain ⟨rfl,rfl⟩:=hg
  have hE:sidesE qs cs bs hs d side=1:=by unfold sidesE; rw [if_neg (by simp [hv])]
  rw [hE];refine Ab ?_;refine A4 ?_; rintro _ _ ⟨b,rfl,rfl⟩;refine AY ?_; rintro _ _ ⟨rfl,rfl⟩;refine Adz ?_;refine Ae0 ?_;refine AZ ?_; rintro _ _ ⟨b,rfl,rfl⟩;refine AB ?_;refine Aal ?_
  exact AO (res2 rfl rfl rfl) rsubZ selZ ⟨[],_,sng b (.cells #[] 148 (0,0)),emp,rfl,rfl,by rw [if_neg (by omega)]; rfl,(OwnS.empty (e:=148) (size:=1)).at,by simp⟩
 | true =>
 rw [hv,if_pos rfl] at hg
 obtain ⟨ug,rfl,hOg⟩:=hg
 have hAt:ArcsAt σg ug (arcsG qs cs bs hs d):=hOg.at
 obtain ⟨pg,kg,rfl⟩:=hOg.form
 have hEv:sidesE qs cs bs hs d side=(Go.Flow.capacitySpec (vsN qs d) (arcsG qs cs bs hs d) side).2:=by unfold sidesE; rw [if_pos hv]
 have h:=vok hv
 have hdm:=h.dm
 unfold okDm at hdm
 have hnq:=h.nq
 have hEl:=ea_len qs cs bs hs d h
 have hAl:(arcsG qs cs bs hs d).length=(arcsE qs cs bs hs d).length:=by unfold arcsG; rw [List.length_map]
 refine AW (ρ:=σg) takeZ ?_;refine Ab ?_;refine A4 ?_; rintro _ _ ⟨b,rfl,rfl⟩;refine AY ?_; rintro _ _ ⟨rfl,rfl⟩;refine Adz ?_;refine Aek ?_;refine Ab4 ?_;refine AB ?_
 revert b; intro bg
 have hval:=refCapacity_spec σg ω (.slice pg (arcsG qs cs bs hs d).length kg) (.slice pf side.length kf) (vsN qs d) (arcsG qs cs bs hs d) side hAt hu (by omega) (by omega)
 skip
 refine BC hval rfl rfl rdZ rfl rfl ?_;rintro _ rfl;rw [← hEv]
 generalize (Go.Flow.capacitySpec (vsN qs d) (arcsG qs cs bs hs d) side).1=vv
 by_cases hz:sidesE qs cs bs hs d side=0
 rotate_left
 ·rw [if_neg hz]
  refine Adn ?_;refine Ae0 ?_;refine AZ ?_; rintro _ _ ⟨b,rfl,rfl⟩;refine AB ?_;refine Aal ?_
  exact AO (res2 rfl rfl rfl) rsubZ selZ ⟨[],_,sng b (.cells #[] 148 (0,0)),emp,rfl,rfl,rfl,(OwnS.empty (e:=148) (size:=1)).at,by simp⟩
 rw [if_pos hz]
 have hin:=sidesE_in hv hz
 have hasc:=sidesE_asc hv hz
 have hw:wd d=d.e-d.r+1:=rfl
 rw [hz];refine Adn ?_;refine Abh ?_;refine Ab4 ?_;refine CP ?_;refine Adv ?_;refine Aa ?_;refine AZ ?_; rintro _ _ ⟨b,rfl,rfl⟩;refine Adt ?_
 revert b; intro bo
 refine BA [2,3,4,12] (X:=Nat × List Sq × Value × PH × PH) (0,[],.slice (some ⟨bo,0,none⟩) 0 0,sng bo (.cells #[] 148 (0,0)),emp) (fun x=>x.1≤qs.length∧cuL x.2.1=sidesC d x.1 side∧OwnS 148 1 x.2.2.1 x.2.1.length (x.2.1.flatMap encQ) x.2.2.2.1∧∀ z∈x.2.1,SpAt x.2.2.2.2 (.slice z.1.1 z.2.length z.1.2) z.2∧z.2.length≤9223372036854775807) (fun x=>[(14,int x.1),(13,x.2.2.1)]) (fun x=>[x.2.2.2.1,x.2.2.2.2]) (fun x=>qs.length-x.1) pickZ ⟨by dsimp only; omega,rfl,OwnS.empty,by simp⟩ covZ selZ ?_
 rintro ⟨n,L,u,σo,χo⟩ ⟨hn,hL,hO,hS⟩
 dsimp only at hn hL hO hS ⊢
 have hLl:L.length≤qs.length:=by
  have:=congrArg List.length hL
  rw [List.length_map,sidesC_len] at this;omega
 by_cases hlt:n<qs.length
 rotate_left
 ·have hne:n=qs.length:=by omega
  subst hne;refine Agf ?_;refine Abv ?_;refine Afh ?_;exact AO (res2 rfl rfl rfl) rsubZ selZ ⟨L,u,σo,χo,rfl,rfl,hL,hO.at,hS⟩
 have hnext:sidesC d (n+1) side=sidesC d n side ++ [sideI d side n]:=by unfold sidesC; rw [List.range_succ,List.map_append]; rfl
 refine Agf ?_;refine Aa9 ?_;refine Aa ?_;refine AZ ?_; rintro _ _ ⟨b,rfl,rfl⟩;refine Adt ?_
 revert b; intro bl
 refine BA [2,3,4,12,13,14] (X:=Nat × Value × PH) (0,.slice (some ⟨bl,0,none⟩) 0 0,sng bl (.cells #[] 152 (0,0))) (fun z=>z.1≤side.length∧OwnS 152 2 z.2.1 (singI d n (side.take z.1)).length ((singI d n (side.take z.1)).flatMap encS) z.2.2) (fun z=>[(16,int z.1),(15,z.2.1)]) (fun z=>[z.2.2,σo,χo]) (fun z=>side.length-z.1) pickZ ⟨by dsimp only; omega,OwnS.empty⟩ covZ selZ ?_
 rintro ⟨k,wl,σl⟩ ⟨hk,hOl⟩
 dsimp only at hk hOl ⊢
 have hsgl:=singI_small h (side:=side.take k) (hasc.sublist (List.take_sublist _ _)) n
 by_cases hlk:k<side.length
 ·have hx:=List.getElem?_eq_getElem hlk
  have hxi:=hin _ (List.getElem_mem hlk)
  have hnx:=singI_next d n hlk
  obtain ⟨bq,oq,epf,gf⟩:=hrf.int hx
  have hm0:=Int.emod_nonneg side[k] (show d.e-d.r+1≠0 by omega)
  have hm1:=Int.emod_lt_of_pos side[k] (show 0<d.e-d.r+1 by omega)
  have hvs:=h.vs
  rw [hw] at hnx
  generalize side[k]=v at hx hxi hnx gf hm0 hm1
  generalize singI d n (side.take k)=S at hOl hnx hsgl
  subst epf
  by_cases hc:v / (d.e-d.r+1)=n
  ·rw [if_pos hc] at hnx
   refine Ac7 ?_;refine BT ?_;refine Abq ?_;refine G5 ?_;refine AB ?_;refine Ag1 ?_;refine AC ?_
   refine A6 (.q 0 (.q 1 (.q 2 (.q 3 (.q 4 (.q 5 (.q 6 (.q 7 (.q 8 (.q 9 .nil)))))))))) [] rfl (by kernel_rfl) Sel.nil ?_
   refine Aau ?_;refine Adj ?_;refine AI ?_;refine zd_rem ?_;refine CY ?_;refine Adr ?_;refine Ac8 ?_;refine CB ?_;refine BY ?_;refine AZ ?_; rintro _ _ ⟨b,rfl,rfl⟩
   refine BH (BI (by_:=16) (s:=2) (news:=[int (d.r+v % (d.e-d.r+1)),int (d.r+v % (d.e-d.r+1)+1)]) rfl rfl rfl rfl rfl rfl rfl hOl takeZ (cells_own memZ) rfl oneZ (by omega) (by simp only [maxLen]; omega) (by omega)) rfl rfl rfl ?_
   rintro u1 _ ⟨σ1,hO1,rfl⟩;refine Adb ?_
   refine AT (k+1,u1,σ1) ⟨by dsimp only; omega,?_⟩ (by dsimp only; omega) covZ selZ
   dsimp only
   rw [hnx,List.length_append,List.flatMap_append];exact hO1
  ·rw [if_neg hc,List.append_nil] at hnx
   refine Ac7 ?_;refine BT ?_;refine Abq ?_;refine G5 ?_;refine AB ?_;refine Adu ?_;refine Aa2 ?_
   refine AT (k+1,wl,σl) ⟨by dsimp only; omega,?_⟩ (by dsimp only; omega) covZ selZ
   dsimp only
   rw [hnx];exact hOl
 rw [List.take_of_length_le (by omega)] at hOl hsgl
 have hSl:SpAt σl wl (singI d n side):=hOl.at
 obtain ⟨pl,kl,rfl⟩:=hOl.form
 have hsok:∀ x∈singI d n side,okSp x:=fun x hx=>by
  unfold singI at hx
  obtain ⟨v,hv1,rfl⟩:=List.mem_map.1 hx
  have hv2:=hin v (List.mem_filter.1 hv1).1
  have hm0:=Int.emod_nonneg v (show wd d≠0 by omega)
  have hm1:=Int.emod_lt_of_pos v (show 0<wd d by omega)
  exact ⟨by dsimp only; omega,by dsimp only; omega,by dsimp only; omega⟩
 have hN:=refNormal_spec σl pl kl (singI d n side) hSl (by omega) hsok
 have hIe:insAll [] (singI d n side)=sideI d side n:=rfl
 have hIl:=sideI_small h side n
 rw [hIe] at hN
 generalize sideI d side n=I0 at hN hIl hnext
 refine Aci ?_;refine Aac ?_;refine BV hN rfl rfl rdZ rfl rfl ?_;rintro _ σi ⟨ui,rfl,hOi⟩
 obtain ⟨pi,ci,rfl⟩:=hOi.form
 refine Ab ?_;refine Ahg ?_;refine AZ ?_; rintro _ _ ⟨b,rfl,rfl⟩
 refine BH (BI (by_:=24) (s:=1) (news:=[.slice pi I0.length ci]) rfl rfl rfl rfl rfl rfl rfl hO takeZ (cells_own memZ) rfl oneZ (by omega) (by simp only [maxLen]; omega) (by omega)) rfl rfl rfl ?_
 rintro u1 _ ⟨σ1,hO1,rfl⟩;refine Adb ?_
 refine DC (ρ:=σi) (σ:=χo) takeZ takeZ (fun χ1 s1 s2=>?_)
 refine AT (n+1,L ++ [((pi,ci),I0)],u1,σ1,χ1) ⟨by dsimp only; omega,?_,?_,fun z hz=>?_⟩ (by dsimp only; omega) covZ selZ
 ·dsimp only
  rw [hnext,← hL];exact List.map_append
 ·dsimp only
  rw [List.length_append,List.flatMap_append];exact hO1
 ·rcases List.mem_append.1 hz with hz|hz
  ·exact ⟨(hS z hz).1.mono s2,(hS z hz).2⟩
  ·obtain rfl:=List.mem_singleton.1 hz
   exact ⟨SlE.mono (show SpAt σi _ _ from hOi.at) s1,by dsimp only; omega⟩
end Go.Proofs.YtjehnjhkcmobcaaGreat
namespace Go.Proofs.YtjehnjhkcmobcaaGreat
open Go.Eng Go.Flow
set_option maxRecDepth 100000
set_option maxHeartbeats 64000000
def encR (rm:Nat→Int) (x:Lk):List Value:=[int x.f,int x.t,int (rm x.k)]
theorem encR_len (rm:Nat→Int) (x:Lk):(encR rm x).length=3:=rfl
theorem lrRow {rm:Nat→Int} {ρ:PH} {p:Option Addr} {l:List Lk} (h:RowsE (encR rm) 3 ρ p l) {i:Nat} {x:Lk} (hx:l[i]?=some x) :
  ∃ b o,p=some ⟨b,o,none⟩∧rdc ρ b (o+i*3)=some (int x.f)∧rdc ρ b (o+i*3+1)=some (int x.t)∧rdc ρ b (o+i*3+2)=some (int (rm x.k)):=by
 obtain ⟨b,o,e,hr⟩:=h i x hx
 exact ⟨b,o,e,hr.get0,hr.get (j:=1) rfl,hr.get (j:=2) rfl⟩
theorem refDistances_spec (ρ:PH) (v:Value) (n t:Nat) (ls:List Lk) (rm:Nat→Int) (hv:SlE (encR rm) 3 ρ v ls) (hls:∀ x∈ls,x.f<n∧x.t<n) (hn:n≤2000) (hl:ls.length≤40000) (ht:t<n) :
  Makes Tryz.prog (fv 202) [int n,v,int t] [ρ] (fun r σ=>∃ b D,r=.slice (some ⟨b,0,none⟩) n n∧σ=sng b (.cells (ints D) 3 (0,0))∧IsDist n t (opn ls rm) D):=by
 obtain ⟨q,c,rfl,hr⟩:=hv.val (encR_len rm)
 have hE:∀ x,opn ls rm x→x.f<n∧x.t<n:=fun x hx=>hls x hx.1
 refine spec_in (cap:=[]) Tryz.func202 rfl rfl Tryz.ntmps202 rfl envZ (fun N β=>?_)
 refine Aai ?_;refine Aac ?_;refine DX ?_; rintro _ _ ⟨b,rfl,rfl⟩;refine Adt ?_
 revert b; intro bd
 rw [show List.replicate n (0:Int)=List.replicate 0 (-1) ++ List.replicate (n-0) 0 from by simp]
 refine BA [0,1,2,7] (0:Nat) (fun k=>k≤n) (fun k=>[(8,int k)]) (fun k=>[sng bd (.cells (ints (List.replicate k (-1) ++ List.replicate (n-k) 0)) 3 (0,0))]) (fun k=>n-k) pickZ (by omega) covZ selZ ?_
 intro k hk
 have hfl:(List.replicate k (-1:Int) ++ List.replicate (n-k) 0).length=n:=by simp; omega
 by_cases hlt:k<n
 ·have hf:=fillL n k hlt
  refine Aav ?_;refine Aa9 ?_;refine Ac3 ?_;refine BR ?_;refine DA ?_; rintro _ _ ⟨rfl,rfl⟩;refine Ag5 ?_
  refine AT (k+1) (by omega) (by omega) covZ ?_
  rw [← hf];exact selZ
 obtain rfl:k=n:=by omega
 rw [Nat.sub_self,List.replicate_zero,List.append_nil] at hfl ⊢
 obtain ⟨hs0,hs1⟩:=LInv.start (E:=opn ls rm) ht
 refine Aav ?_;refine Abv ?_;refine Aay ?_;refine BR ?_;refine DA ?_; rintro _ _ ⟨rfl,rfl⟩;refine AE ?_;refine Af5 ?_
 refine BA [0,1,2,7] (X:=Nat × (Bool × List Int)) (0,(true,(List.replicate k (-1:Int)).set t 0)) (fun x=>LInv k t (opn ls rm) x.2.2 x.1 []∧(x.2.1=true→(∀ v,v<k→x.2.2.getD v 0≤(x.1:Int))∧x.1+unl x.2.2≤k)∧(x.2.1=false→IsDist k t (opn ls rm) x.2.2))
  (fun x=>[(10,int x.1),(9,.bool x.2.1)]) (fun x=>[sng bd (.cells (ints x.2.2) 3 (0,0))]) (fun x=>2*unl x.2.2+(if x.2.1=true then 1 else 0)) pickZ ⟨hs0,fun _=>⟨hs1,by have:=unl_start ht; dsimp only; omega⟩,by simp⟩ covZ selZ ?_
 rintro ⟨d,⟨found,D⟩⟩ ⟨hI,hT,hF⟩
 dsimp only at hI hT hF ⊢
 cases found with
 | false =>
  have hD:=hF rfl
  refine Aah ?_;refine Aa7 ?_;refine Aca ?_;exact AO (res1 rfl rfl) rsubZ selZ ⟨_,⟨bd,D,rfl,rfl,hD⟩,rfl⟩
 | true =>
  obtain ⟨hT1,hT2⟩:=hT rfl
  refine Aah ?_;refine Aa1 ?_;refine Aai ?_;refine Abw ?_
  refine BA [0,1,2,7,10] (X:=Nat × (Bool × List Int)) (0,(false,D)) (fun x=>x.1≤ls.length∧LInv k t (opn ls rm) x.2.2 d (ls.take x.1)∧(x.2.1=true→d+1+unl x.2.2≤k∧unl x.2.2+1≤unl D)∧(x.2.1=false→x.2.2=D))
   (fun x=>[(11,int x.1),(9,.bool x.2.1)]) (fun x=>[sng bd (.cells (ints x.2.2) 3 (0,0))]) (fun x=>ls.length-x.1) pickZ ⟨by dsimp only; omega,by simpa using hI,by simp,fun _=>rfl⟩ covZ selZ ?_
  rintro ⟨i,⟨fnd,D1⟩⟩ ⟨hi,hI1,hT3,hF3⟩
  dsimp only at hi hI1 hT3 hF3 ⊢
  have hDl:D1.length=k:=hI1.len
  have hdk:d≤k:=by omega
  by_cases hlt2:i<ls.length
  ·have hx:=List.getElem?_eq_getElem hlt2
   obtain ⟨b,o,rfl,g0,g1,g2⟩:=lrRow hr hx
   have hxn:=hls ls[i] (List.getElem_mem hlt2)
   have htk:=take_snoc' hlt2
   have hlow:=hI1.low ls[i].f hxn.1
   by_cases hp:0<rm ls[i].k
   ·have hop:opn ls rm ls[i]:=⟨List.getElem_mem hlt2,hp⟩
    by_cases hd:D1.getD ls[i].t 0=(d:Int)
    ·by_cases hneg:D1.getD ls[i].f 0 = -1
     ·have hm:=hI1.mark hop hxn.1 hd hneg
      have hu:=unl_set (D:=D1) (i:=ls[i].f) (x:=(d:Int)+1) (by omega) (by omega) (by omega)
      have hfin:d+1+unl (D1.set ls[i].f ((d:Int)+1))≤k∧unl (D1.set ls[i].f ((d:Int)+1))+1≤unl D:=by
       cases fnd with
       | true=>have:=hT3 rfl; omega
       | false=>have:=hF3 rfl; subst this; omega
      refine Agg ?_;refine CT ?_;refine Agp ?_;refine Afn ?_;refine CQ ?_;refine AR ?_;refine Ad0 ?_;refine Afp ?_;refine Adf ?_;refine CQ ?_;refine AR ?_;refine Ac0 ?_;refine Aao ?_;refine Aer ?_;refine A9 ?_;refine BR ?_;refine DA ?_; rintro _ _ ⟨rfl,rfl⟩;refine Afj ?_;refine Adb ?_
      refine AT (i+1,(true,_)) ⟨by dsimp only; omega,?_,fun _=>hfin,by simp⟩ (by dsimp only; omega) covZ selZ
      dsimp only
      rw [htk]; exact hm
     ·have hm:=hI1.skip (x:=ls[i]) (fun _ _=>by omega)
      refine Agg ?_;refine CT ?_;refine Agp ?_;refine Afn ?_;refine CQ ?_;refine AR ?_;refine Ad0 ?_;refine Afp ?_;refine Adf ?_;refine CE ?_;refine Agq ?_
      refine AT (i+1,(fnd,D1)) ⟨by dsimp only; omega,?_,hT3,hF3⟩ (by dsimp only; omega) covZ selZ
      dsimp only
      rw [htk]; exact hm
    ·have hm:=hI1.skip (x:=ls[i]) (fun _ h=>absurd h hd)
     refine Agg ?_;refine CT ?_;refine Agp ?_;refine Afn ?_;refine CE ?_;refine AR ?_;refine Adh ?_;refine Afs ?_
     refine AT (i+1,(fnd,D1)) ⟨by dsimp only; omega,?_,hT3,hF3⟩ (by dsimp only; omega) covZ selZ
     dsimp only
     rw [htk]; exact hm
   ·have hm:=hI1.skip (x:=ls[i]) (fun h _=>absurd h.2 hp)
    refine Agg ?_;refine B7 ?_;refine Adh ?_;refine Aab ?_;refine Aab ?_;refine AN ?_;refine Adh ?_;refine Afs ?_
    refine AT (i+1,(fnd,D1)) ⟨by dsimp only; omega,?_,hT3,hF3⟩ (by dsimp only; omega) covZ selZ
    dsimp only
    rw [htk]; exact hm
  ·rw [List.take_of_length_le (by omega)] at hI1
   have hnx:=hI1.next (ls:=ls) (fun x hx=>hx.1) hE (fun x hx=>hx)
   refine Aci ?_;refine Aa2 ?_
   refine AT (d+1,(fnd,D1)) ⟨hnx,fun h=>⟨fun v hv=>by have:=hnx.hi v hv; have:=hI1.hi v hv; dsimp only; omega,by have:=hT3 h; dsimp only; omega⟩,fun h=>?_⟩ ?_ covZ selZ
   ·dsimp only at h ⊢
    have e:=hF3 h
    subst e
    exact hnx.dist hE (fun v hv=>hT1 v hv)
   ·dsimp only
    cases fnd with
    | true=>have:=hT3 rfl; simp; omega
    | false=>have:=hF3 rfl; subst this; simp
end Go.Proofs.YtjehnjhkcmobcaaGreat
namespace Go.Flow
def zLk (l:List Arc):Lk:=⟨2*l.length,0,0⟩
theorem rm_zLk (l:List Arc) (fl:List Int) (h:fl.length=l.length):rmR l fl (zLk l).k=0:=by
  unfold rmR zLk
  dsimp only
  rw [if_pos (by omega),show 2*l.length / 2=l.length from by omega,List.getD_eq_getElem?_getD,List.getElem?_eq_none (by omega),List.getD_eq_getElem?_getD,List.getElem?_eq_none (by omega)]
  rfl
def fillR (l:List Arc) (i:Nat):List Lk:=rlinks (l.take i) ++ List.replicate (2*l.length-2*i) (zLk l)
theorem fillR_zero (l:List Arc):fillR l 0=List.replicate (2*l.length) (zLk l):=by simp [fillR,rlinks,rlFrom]
theorem fillR_len (l:List Arc) {i:Nat} (h:i≤l.length):(fillR l i).length=2*l.length:=by
  unfold fillR;rw [List.length_append,rlinks_len,List.length_replicate,List.length_take];omega
theorem fillR_end (l:List Arc):fillR l l.length=rlinks l:=by simp [fillR]
theorem fillR_step {l:List Arc} {i:Nat} (h:i<l.length):((fillR l i).set (2*i) ⟨2*i,l[i].f.toNat,l[i].t.toNat⟩).set (2*i+1) ⟨2*i+1,l[i].t.toNat,l[i].f.toNat⟩=fillR l (i+1):=by
  have hlen:(rlinks (l.take i)).length=2*i:=by rw [rlinks_len,List.length_take]; omega
  unfold fillR;rw [take_snoc' h,rlinks_snoc]
  obtain ⟨r,hr⟩:∃ r,2*l.length-2*i=r+2:=⟨2*l.length-2*i-2,by omega⟩
  have hr2:2*l.length-2*(i+1)=r:=by omega
  have hti:(l.take i).length=i:=by rw [List.length_take]; omega
  rw [hr,hr2,List.replicate_succ,List.replicate_succ,List.set_append_right _ _ (by omega),List.set_append_right _ _ (by omega),hlen,hti]
  rw [show 2*i-2*i=0 from by omega,show 2*i+1-2*i=1 from by omega]
  simp
theorem rmR_le {n:Nat} {l:List Arc} {fl:List Int} (hok:∀ a∈l,okArc n a=true) (hl:l.length=fl.length) (hc:inCap l fl=true) {x:Lk} (hx:x∈rlinks l):rmR l fl x.k≤1099511627776:=by
  obtain ⟨j,a,ha,hxe⟩:=rlinks_iff.1 hx
  have hjl:j<l.length:=(List.getElem?_eq_some_iff.1 ha).1
  have hfj:fl[j]?=some (fl.getD j 0):=by simp [List.getD_eq_getElem?_getD,show j<fl.length by omega]
  have hlj:l.getD j default=a:=by simp [List.getD_eq_getElem?_getD,ha]
  have hin:=inCap_get l fl hc j a _ ha hfj
  have:=okArc_iff.1 (hok a (List.mem_of_getElem? ha))
  unfold rmR
  rcases hxe with rfl|rfl
  · dsimp only
    rw [if_pos (by omega),show 2*j / 2=j from by omega,hlj]; omega
  · dsimp only
    rw [if_neg (by omega),show (2*j+1) / 2=j from by omega]; omega
theorem find_at {α:Type} {p:α→Bool}:∀ {l:List α} {x:α},l.find? p=some x→∃ i:Nat,l[i]?=some x∧p x=true∧∀ (j:Nat) (y:α),j<i→l[j]?=some y→p y=false
  | [],x,h=>by simp at h
  | a::l,x,h=>by
    rw [List.find?_cons] at h
    cases hp:p a with
    | true =>
      rw [hp] at h
      simp at h; subst h
      exact ⟨0,rfl,hp,fun j y hj=>by omega⟩
    | false =>
      rw [hp] at h;simp only at h
      obtain ⟨i,h1,h2,h3⟩:=find_at h
      refine ⟨i+1,by simpa using h1,h2,fun j y hj hy=>?_⟩
      cases j with
      | zero=>simp at hy; subst hy; exact hp
      | succ j=>exact h3 j y (by omega) (by simpa using hy)
end Go.Flow
namespace Go.Proofs.YtjehnjhkcmobcaaGreat
open Go.Eng Go.Flow
set_option maxRecDepth 100000
set_option maxHeartbeats 64000000
theorem refResidual_spec (ρ σ:PH) (v u:Value) (n:Nat) (l:List Arc) (fl:List Int) (hv:ArcsAt ρ v l) (hu:IntsAt σ u fl) (hl:l.length≤20000) (hfl:fl.length=l.length) (hok:∀ a∈l,okArc n a=true) (hc:inCap l fl=true) :
  Makes Tryz.prog (fv 162) [v,u] [ρ,σ] (fun r τ=>∃ b,r=.slice (some ⟨b,0,none⟩) (2*l.length) (2*l.length)∧τ=sng b (.cells (elems (encR (rmR l fl)) (rlinks l)) 253 (0,0))):=by
 obtain ⟨q,c,rfl,hr⟩:=hv.val encA_len
 obtain ⟨q2,c2,rfl,hr2⟩:=hu.val Eng.encI_len
 have hz0:=rm_zLk l fl hfl
 have hze:encR (rmR l fl) (zLk l)=[int 0,int 0,int 0]:=by unfold encR; rw [hz0]; rfl
 refine spec_in (cap:=[]) Tryz.func162 rfl rfl Tryz.ntmps162 rfl envZ (fun N β=>?_)
 refine Aai ?_;refine Aac ?_;refine AU ?_;refine zq_dbl ?_
 refine BH (GB (enc:=encR (rmR l fl)) (s:=3) (by_:=24) (zLk l) rfl rfl rfl rfl rfl rfl (by rw [hze]; rfl) rfl (by omega) (by omega)) rfl rfl rfl ?_
 rintro _ _ ⟨b,rfl,rfl⟩;rw [← fillR_zero];refine Adt ?_
 refine BA [0,1,5] (0:Nat) (fun i=>i≤l.length) (fun i=>[(6,int i)]) (fun i=>[sng b (.cells (elems (encR (rmR l fl)) (fillR l i)) 253 (0,0))]) (fun i=>l.length-i) pickZ (by omega) covZ selZ ?_
 intro i hi
 by_cases hlt:i<l.length
 ·have hx:=List.getElem?_eq_getElem hlt
  obtain ⟨b1,o1,rfl,hA,g0,g1,g2⟩:=arcRow hr hx
  have hlt2:i<fl.length:=by omega
  obtain ⟨b2,o2,rfl,g3⟩:=hr2.int (List.getElem?_eq_getElem hlt2)
  have hin:=inCap_get l fl hc i l[i] fl[i] hx (List.getElem?_eq_getElem hlt2)
  obtain ⟨k1,k2,k3,k4,k5,k6,k7⟩:=okArc_iff.1 (hok l[i] (List.getElem_mem hlt))
  obtain ⟨f,hf⟩:=Int.eq_ofNat_of_zero_le k1
  obtain ⟨t,ht⟩:=Int.eq_ofNat_of_zero_le k3
  have hst:=fillR_step hlt
  have hlen:=fillR_len l (i:=i) (by omega)
  rw [hf,ht] at hst;simp only [Int.toNat_natCast] at hst;rw [hf] at g0;rw [ht] at g1
  have e1:encR (rmR l fl) ⟨2*i,f,t⟩=[int f,int t,int (l[i].c-fl[i])]:=by
   unfold encR rmR
   dsimp only
   rw [if_pos (by omega),show 2*i / 2=i from by omega,List.getD_eq_getElem?_getD,hx,List.getD_eq_getElem?_getD,List.getElem?_eq_getElem hlt2]
   rfl
  have e2:encR (rmR l fl) ⟨2*i+1,t,f⟩=[int t,int f,int fl[i]]:=by
   unfold encR rmR
   dsimp only
   rw [if_neg (by omega),show (2*i+1) / 2=i from by omega,List.getD_eq_getElem?_getD,List.getElem?_eq_getElem hlt2]
   rfl
  refine Ad9 ?_
  refine A6 (.q 0 (.q 1 (.q 2 (.q 3 (.q 4 (.q 5 (.q 6 (.q 7 (.q 8 (.q 9 (.q 10 (.q 11 (.q 12 (.q 13 (.q 14 (.q 15 (.q 16 (.q 17 (.q 18 (.q 19 (.q 20 (.q 21 (.q 22 (.q 23 (.q 24 (.l 25 .b .nil)))))))))))))))))))))))))) [] rfl (by kernel_rfl) selZ ?_
  refine Aan ?_;refine G4 ?_;refine Agk ?_;refine Ado ?_;refine Ado ?_;refine Adj ?_;refine D9 ?_;refine CV ?_;refine BB ?_;refine CF ?_;refine' FW rfl _ rfl rfl _ _
  rotate_left
  ·exact E5 (encR_len _) (a:=⟨2*i,f,t⟩) (2*i) rfl (Nat.zero_add _) (by rw [e1]; rfl) (by rw [e1]; exact oneZ) rfl takeZ (by omega)
  ·rintro _ _ ⟨_,rfl⟩ w hw; exact hw.sel selZ
  rintro _ _ ⟨rfl,rfl⟩;refine A7 ?_
  skip
  refine A6 (.q 0 (.q 1 (.q 2 (.q 3 (.q 4 (.q 5 (.q 6 (.q 7 (.q 8 (.q 9 (.q 10 (.q 11 (.q 12 (.q 13 (.q 14 (.q 15 (.q 16 (.q 17 (.q 18 (.q 19 (.l 20 .b .nil))))))))))))))))))))) [] rfl (by kernel_rfl) selZ ?_
  refine Aan ?_;refine G4 ?_;refine zd_inc ?_;refine Ado ?_;refine Agk ?_;refine Adj ?_;refine CV ?_;refine BB ?_;refine CF ?_;refine' FW rfl _ rfl rfl _ _
  rotate_left
  ·exact E5 (encR_len _) (a:=⟨2*i+1,t,f⟩) (2*i+1) rfl (Nat.zero_add _) (by rw [e2]; rfl) (by rw [e2]; exact oneZ) rfl takeZ (by rw [List.length_set]; omega)
  ·rintro _ _ ⟨_,rfl⟩ w hw; exact hw.sel selZ
  rintro _ _ ⟨rfl,rfl⟩;refine A7 ?_;refine Aa2 ?_
  refine AT (i+1) (by omega) (by omega) covZ ?_
  rw [← hst];exact selZ
 ·obtain rfl:i=l.length:=by omega
  rw [fillR_end];refine Aci ?_;refine Aca ?_;exact AO (res1 rfl rfl) rsubZ selZ ⟨_,⟨b,rfl,rfl⟩,rfl⟩
theorem refPath_spec (ρ:PH) (v:Value) (n s t:Nat) (ls:List Lk) (rm:Nat→Int) (hv:SlE (encR rm) 3 ρ v ls) (hls:∀ x∈ls,x.f<n∧x.t<n) (hat:atPl ls) (hn:n≤2000) (hl:ls.length≤40000) (hs:s<n) (ht:t<n) :
  Makes Tryz.prog (fv 166) [int n,v,int s,int t] [ρ] (fun r σ=>∃ D pv,IsDist n t (opn ls rm) D∧r=.tuple #[pv,int (rmin rm (pathD (nxt ls rm D) D s))]∧OwnS 3 1 pv (pathD (nxt ls rm D) D s).length ((ksOf (pathD (nxt ls rm D) D s)).map int) σ):=by
 have hv2:=hv
 obtain ⟨q,c,rfl,hr⟩:=hv.val (encR_len rm)
 have hE:∀ x,opn ls rm x→x.f<n∧x.t<n:=fun x hx=>hls x hx.1
 refine spec_in (cap:=[]) Tryz.func166 rfl rfl Tryz.ntmps166 rfl envZ (fun N β=>?_)
 refine BZ ?_;refine Ad5 ?_;refine Aev ?_;refine BV (refDistances_spec ρ _ n t ls rm hv2 hls hn hl ht) rfl rfl rdZ rfl rfl ?_;rintro _ ρD ⟨bD,D,rfl,rfl,hD⟩
 have hDl:=hD.len
 have hlow:=hD.low s hs
 by_cases hneg:D.getD s 0 = -1
 ·refine AD ?_
  refine AE ?_;refine Aav ?_;refine Adf ?_;refine CQ ?_;refine Acg ?_;refine Aal ?_;refine AO (res2 rfl rfl rfl) rsubZ selZ ⟨emp,⟨D,.slice none 0 0,hD,?_,?_⟩,rfl⟩
  ·rw [pathD_end (by omega)]; rfl
  ·rw [pathD_end (by omega)]; exact OwnS.nil _ _
 refine Aaa ?_;refine Aav ?_;refine Adf ?_;refine Adu ?_;refine Aai ?_;refine Aff ?_;refine Aaa ?_;refine AM ?_
 have hub:=hD.lt hE ht hs
 refine BA [0,1,2,3,10] ((([]:List Lk),s),(.slice none 0 0,emp)) (X:=(List Lk × Nat) × (Value × PH))
  (fun x=>x.1.2<n∧0≤D.getD x.1.2 0∧pathD (nxt ls rm D) D s=x.1.1 ++ pathD (nxt ls rm D) D x.1.2∧OwnS 3 1 x.2.1 x.1.1.length ((ksOf x.1.1).map int) x.2.2∧x.1.1.length+(D.getD x.1.2 0).toNat≤n)
  (fun x=>[(11,x.2.1),(12,int (rmin rm x.1.1)),(13,int x.1.2)]) (fun x=>[sng bD (.cells (ints D) 3 (0,0)),x.2.2]) (fun x=>(D.getD x.1.2 0).toNat)
  pickZ ⟨hs,by dsimp only; omega,rfl,OwnS.nil _ _,by dsimp only [List.length_nil]; omega⟩ covZ selZ ?_
 rintro ⟨⟨pre,w⟩,⟨pv,ρp⟩⟩ ⟨hw,hd0,hpre,hP,hln⟩
 dsimp only at hw hd0 hpre hP hln ⊢
 by_cases hwt:w=t
 ·refine AC ?_
  refine Aay ?_;refine BK ?_;refine Aa7 ?_;refine Aay ?_;refine Aal ?_;refine AO (res2 rfl rfl rfl) rsubZ selZ ⟨ρp,⟨D,pv,hD,?_,?_⟩,rfl⟩
  ·rw [hpre,pathD_end (by rw [hwt,hD.at0]; omega),List.append_nil]
  ·rw [hpre,pathD_end (by rw [hwt,hD.at0]; omega),List.append_nil]; exact hP
 have hdw:0<D.getD w 0:=by
  by_cases h0:D.getD w 0=0
  ·exact absurd (hD.zero w hw h0) hwt
  ·omega
 obtain ⟨x0,hx0,hx0f,hx0o,hx0d⟩:=nxt_some hls hD hw hdw
 obtain ⟨i0,hi0,hp0,hno⟩:=find_at hx0
 have hk0:=hat i0 x0 hi0
 have hi0l:i0<ls.length:=(List.getElem?_eq_some_iff.1 hi0).1
 have hx0n:=hls x0 hx0o.1
 have hwub:=hD.lt hE ht hw
 obtain ⟨pb,pc,rfl⟩:∃ p c,pv=.slice p pre.length c:=SlAt.cap hP.at
 refine Aav ?_;refine Afx ?_;refine Ae8 ?_;refine Aai ?_;refine Aap ?_
 refine BA [0,1,2,3,10,11,12,13] (0:Nat) (fun i=>i≤i0) (fun i=>[(14,int i)]) (fun _=>[sng bD (.cells (ints D) 3 (0,0)),ρp]) (fun i=>i0-i) pickZ (by omega) covZ selZ ?_
 intro i hi
 have hlt:i<ls.length:=by omega
 have hx:=List.getElem?_eq_getElem hlt
 obtain ⟨b1,o1,rfl,g0,g1,g2⟩:=lrRow hr hx
 have hxn:=hls ls[i] (List.getElem_mem hlt)
 have hxlo:=hD.low ls[i].t hxn.2
 have hxub:=hD.lt hE ht hxn.2
 by_cases hii:i=i0
 ·subst hii
  rw [hx] at hi0
  obtain rfl:=Option.some.inj hi0
  have hrp:=hx0o.2
  refine Acp ?_
  refine A6 P10Z [] rfl (by kernel_rfl) selZ ?_
  refine Ado ?_;refine DZ ?_;refine Agj ?_;refine AI ?_;refine EV ?_;refine BM ?_;refine Aan ?_;refine Ado ?_;refine Ady ?_;refine Aan ?_;refine Ady ?_;refine D9 ?_;refine EV ?_;refine BM ?_;refine A7 ?_
  have hsn:=rmin_snoc rm pre ls[i]
  have hksn:(ksOf (pre ++ [ls[i]])).map int=(ksOf pre).map int ++ [int (i:Int)]:=by simp [ksOf,hk0]
  have hfin:∀ (q9:Value) (ρ3:PH),OwnS 3 1 q9 (pre.length+1) ((ksOf pre).map int ++ [int (i:Int)]) ρ3→OwnS 3 1 q9 (pre ++ [ls[i]]).length ((ksOf (pre ++ [ls[i]])).map int) ρ3:=fun q9 ρ3 h=>by
   rw [hksn,List.length_append]; exact h
  by_cases hup:pre=[]∨rm ls[i].k<rmin rm pre
  ·rw [if_pos hup] at hsn
   by_cases hpn:pre.length=0
   ·refine AK rfl ?_
    refine A8 rfl ?_;refine Abg ?_;refine CQ ?_;refine Abs ?_;refine Abx ?_;refine Aag ?_;refine Ac3 ?_;refine Acf ?_;refine Ae4 ?_;refine AZ ?_; rintro _ _ ⟨b,rfl,rfl⟩
    refine BH (BI (by_:=8) (s:=1) (news:=[int (i:Int)]) rfl rfl rfl rfl rfl rfl rfl hP takeZ (cells_own memZ) rfl oneZ (by omega) (by simp only [maxLen]; omega) (by omega)) rfl rfl rfl ?_
    rintro q9 _ ⟨ρ3,hQ3,rfl⟩;refine Ahg ?_;refine Acf ?_;refine Aaa ?_;refine A2 ?_
    refine AT ((pre ++ [ls[i]],ls[i].t),(q9,ρ3)) ⟨hx0n.2,by dsimp only; omega,?_,hfin q9 ρ3 hQ3,?_⟩ (by dsimp only; omega) ?_ selZ
    ·dsimp only
     rw [hpre,pathD_step hx0 hdw hx0d,List.append_assoc]; rfl
    ·dsimp only
     rw [List.length_append,List.length_singleton]; omega
    ·dsimp only
     rw [hsn];exact covZ
   ·have hup2:rm ls[i].k<rmin rm pre:=by
     rcases hup with h|h
     ·rw [h] at hpn; simp at hpn
     ·exact h
    refine Aa3 ?_;refine Abg ?_;refine CE ?_;refine Afd ?_;refine BD ?_;refine AN ?_;refine Aag ?_;refine Ac3 ?_;refine Acf ?_;refine Ae4 ?_;refine AZ ?_; rintro _ _ ⟨b,rfl,rfl⟩
    refine BH (BI (by_:=8) (s:=1) (news:=[int (i:Int)]) rfl rfl rfl rfl rfl rfl rfl hP takeZ (cells_own memZ) rfl oneZ (by omega) (by simp only [maxLen]; omega) (by omega)) rfl rfl rfl ?_
    rintro q9 _ ⟨ρ3,hQ3,rfl⟩;refine Ahg ?_;refine Acf ?_;refine Aaa ?_;refine A2 ?_
    refine AT ((pre ++ [ls[i]],ls[i].t),(q9,ρ3)) ⟨hx0n.2,by dsimp only; omega,?_,hfin q9 ρ3 hQ3,?_⟩ (by dsimp only; omega) ?_ selZ
    ·dsimp only
     rw [hpre,pathD_step hx0 hdw hx0d,List.append_assoc]; rfl
    ·dsimp only
     rw [List.length_append,List.length_singleton]; omega
    ·dsimp only
     rw [hsn];exact covZ
  ·rw [if_neg hup] at hsn
   simp only [not_or] at hup
   have hpn:pre.length≠0:=fun h=>hup.1 (List.eq_nil_of_length_eq_zero h)
   have hup2:=hup.2
   refine Aa3 ?_;refine Abg ?_;refine CE ?_;refine Afd ?_;refine A0 ?_;refine Abn ?_;refine Aay ?_;refine AZ ?_; rintro _ _ ⟨b,rfl,rfl⟩
   refine BH (BI (by_:=8) (s:=1) (news:=[int (i:Int)]) rfl rfl rfl rfl rfl rfl rfl hP takeZ (cells_own memZ) rfl oneZ (by omega) (by simp only [maxLen]; omega) (by omega)) rfl rfl rfl ?_
   rintro q9 _ ⟨ρ3,hQ3,rfl⟩;refine Ahg ?_;refine Acf ?_;refine Aaa ?_;refine A2 ?_
   refine AT ((pre ++ [ls[i]],ls[i].t),(q9,ρ3)) ⟨hx0n.2,by dsimp only; omega,?_,hfin q9 ρ3 hQ3,?_⟩ (by dsimp only; omega) ?_ selZ
   ·dsimp only
    rw [hpre,pathD_step hx0 hdw hx0d,List.append_assoc]; rfl
   ·dsimp only
    rw [List.length_append,List.length_singleton]; omega
   ·dsimp only
    rw [hsn];exact covZ
 ·have hnoi:=hno i ls[i] (by omega) hx
  by_cases h1:0<rm ls[i].k
  ·by_cases h2:ls[i].f=w
   ·have h3:D.getD ls[i].t 0≠D.getD w 0-1:=fun h=>by
     rw [decide_eq_true h1,decide_eq_true h2] at hnoi;unfold near at hnoi;rw [decide_eq_true h] at hnoi
     simp at hnoi
    refine Acp ?_
    refine A6 P10Z [] rfl (by kernel_rfl) selZ ?_
    refine Ado ?_;refine DZ ?_;refine Agj ?_;refine AI ?_;refine EV ?_;refine BM ?_;refine Aan ?_;refine Ado ?_;refine Ady ?_;refine Aan ?_;refine Ady ?_;refine D9 ?_;refine GR ?_;refine BM ?_;refine Ab5 ?_;refine Ae8 ?_;refine Ae7 ?_;refine A2 ?_
    exact AT (i+1) (by omega) (by omega) covZ selZ
   ·refine AC ?_
    refine AC ?_
    refine A6 P10Z [] rfl (by kernel_rfl) selZ ?_
    refine Ado ?_;refine DZ ?_;refine Agj ?_;refine AI ?_;refine GR ?_;refine BM ?_;refine Ac2 ?_;refine Abb ?_;refine Aae ?_;refine Adg ?_;refine Ae8 ?_;refine Ae7 ?_;refine A2 ?_
    exact AT (i+1) (by omega) (by omega) covZ selZ
  ·refine AC ?_
   refine AC ?_
   refine A6 P10Z [] rfl (by kernel_rfl) selZ ?_
   refine Ado ?_;refine ES ?_;refine AI ?_;refine Abb ?_;refine Aae ?_;refine AS rfl rfl rfl rfl rfl ?_;refine BG ?_;refine Ac2 ?_;refine Abb ?_;refine Aae ?_;refine Adg ?_;refine Ae8 ?_;refine Ae7 ?_;refine A2 ?_
   exact AT (i+1) (by omega) (by omega) covZ selZ
end Go.Proofs.YtjehnjhkcmobcaaGreat
