/- Texts of this proof, one after the other; no conditions. -/
import Derived.Lib.RowBridge
import Derived.Test.YtjehnjhkcmobcaaGreatRows
import Derived.Test.YtjehnjhkcmobcaaGreatWB7
import Derived.Test.YtjehnjhkcmobcaaGreatWB4
import Derived.Test.YtjehnjhkcmobcaaGreatWB3
import Derived.Test.YtjehnjhkcmobcaaGreatWB5
import Derived.Test.YtjehnjhkcmobcaaGreatWB1
import Derived.Test.YtjehnjhkcmobcaaGreatWB6
set_option linter.all false
/- A map that sums what is noted at times. No conditions. -/
namespace Go.Eng
theorem mem_mset {k v:Int}:∀ {m:List (Int × Int)},(m.map (·.1)).Nodup→∀ a b:Int,(a,b)∈mset k v m↔(a=k∧b=v)∨(a≠k∧(a,b)∈m)
  | [],_,a,b=>by simp [mset]
  | (c,w)::m,h,a,b=>by
    have h2:=List.nodup_cons.1 h
    unfold mset
    split
    · rename_i hk
      subst hk
      have hno:∀ b,(k,b)∉m:=fun b hb=>h2.1 (List.mem_map.2 ⟨_,hb,rfl⟩)
      rw [List.mem_cons,List.mem_cons,Prod.mk.injEq,Prod.mk.injEq]
      constructor
      · rintro (⟨rfl,rfl⟩|hm)
        · exact .inl ⟨rfl,rfl⟩
        · refine .inr ⟨fun e=>hno b (e ▸ hm),.inr hm⟩
      · rintro (⟨rfl,rfl⟩|⟨e,⟨rfl,_⟩|hm⟩)
        · exact .inl ⟨rfl,rfl⟩
        · exact absurd rfl e
        · exact .inr hm
    · rename_i hk
      rw [List.mem_cons,mem_mset h2.2,List.mem_cons,Prod.mk.injEq]
      constructor
      · rintro (⟨rfl,rfl⟩|⟨rfl,rfl⟩|⟨e,hm⟩)
        · exact .inr ⟨fun e=>hk e.symm,.inl ⟨rfl,rfl⟩⟩
        · exact .inl ⟨rfl,rfl⟩
        · exact .inr ⟨e,.inr hm⟩
      · rintro (⟨rfl,rfl⟩|⟨e,⟨rfl,rfl⟩|hm⟩)
        · exact .inr (.inl ⟨rfl,rfl⟩)
        · exact .inl ⟨rfl,rfl⟩
        · exact .inr (.inr ⟨e,hm⟩)
theorem mset_keys {k v:Int}:∀ (m:List (Int × Int)),(mset k v m).map (·.1)=if k∈m.map (·.1) then m.map (·.1) else m.map (·.1) ++ [k]
  | []=>by simp [mset]
  | (c,w)::m=>by
    unfold mset
    split
    · rename_i hk
      subst hk
      simp
    · rename_i hk
      rw [List.map_cons,mset_keys m,List.map_cons]
      by_cases hm:k∈m.map (·.1)
      · rw [if_pos hm,if_pos (List.mem_cons_of_mem _ hm)]
      · rw [if_neg hm,if_neg (by rw [List.mem_cons,not_or]; exact ⟨hk,hm⟩)]
        rfl
theorem mset_nodup {k v:Int} {m:List (Int × Int)} (h:(m.map (·.1)).Nodup):((mset k v m).map (·.1)).Nodup:=by
  rw [mset_keys]
  split
  · exact h
  · rename_i hk
    rw [List.nodup_append]
    refine ⟨h,by simp,fun a ha b hb=>?_⟩
    rw [List.mem_singleton] at hb;subst hb
    intro e
    exact hk (e ▸ ha)
theorem mget_none {k:Int}:∀ {m:List (Int × Int)},k∉m.map (·.1)→mget k m=none
  | [],_=>rfl
  | (c,w)::m,h=>by
    rw [List.map_cons,List.mem_cons,not_or] at h
    have ih:=mget_none h.2
    unfold mget at ih ⊢;unfold midx;rw [if_neg h.1]
    simp at ih ⊢
    exact ih
theorem mget_some {k v:Int}:∀ {m:List (Int × Int)},(m.map (·.1)).Nodup→(k,v)∈m→mget k m=some v
  | [],_,h=>by simp at h
  | (c,w)::m,hn,h=>by
    have h2:=List.nodup_cons.1 hn
    unfold mget midx;rw [List.mem_cons,Prod.mk.injEq] at h
    split
    · rename_i hk
      subst hk
      rcases h with ⟨_,rfl⟩|h
      · rfl
      · exact absurd (List.mem_map.2 ⟨_,h,rfl⟩) h2.1
    · rename_i hk
      rcases h with ⟨rfl,_⟩|h
      · exact absurd rfl hk
      · have ih:=mget_some h2.2 h
        unfold mget at ih;rw [Option.map_map];exact ih
def atS (E:List (Int × Int)) (t:Int):Int:=Go.Step.lsum (fun e:Int × Int=>if e.1=t then e.2 else 0) E
structure EvM (E m:List (Int × Int)):Prop where
  nd:(m.map (·.1)).Nodup
  mem:∀ a b:Int,(a,b)∈m↔a∈E.map (·.1)∧b=atS E a
theorem EvM.nil:EvM [] []:=⟨by simp,by simp⟩
theorem atS_snoc (E:List (Int × Int)) (t d a:Int):atS (E ++ [(t,d)]) a=atS E a+if t=a then d else 0:=by
  unfold atS;rw [Go.Step.lsum_append]
  simp [Go.Step.lsum]
theorem atS_none {E:List (Int × Int)} {t:Int} (h:t∉E.map (·.1)):atS E t=0:=by
  unfold atS
  rw [Go.Step.lsum_congr (g:=fun _=>0) (fun e he=>by rw [if_neg (fun hh=>h (List.mem_map.2 ⟨e,he,hh⟩))]),Go.Step.lsum_zero]
theorem EvM.get {E m:List (Int × Int)} (h:EvM E m) (t:Int):(mget t m).getD 0=atS E t:=by
  by_cases ht:t∈E.map (·.1)
  · rw [mget_some h.nd ((h.mem t _).2 ⟨ht,rfl⟩)]
    rfl
  · rw [mget_none (fun hm=>by
      obtain ⟨⟨a,b⟩,hab,e⟩:=List.mem_map.1 hm
      dsimp only at e
      subst e
      exact ht ((h.mem _ _).1 hab).1),atS_none ht]
    rfl
theorem EvM.note {E m:List (Int × Int)} (h:EvM E m) (t d:Int):EvM (E ++ [(t,d)]) (mset t (atS E t+d) m):=by
  refine ⟨mset_nodup h.nd,fun a b=>?_⟩
  rw [mem_mset h.nd,h.mem,List.map_append,List.mem_append,atS_snoc];simp only [List.map_cons,List.map_nil,List.mem_singleton]
  constructor
  · rintro (⟨rfl,rfl⟩|⟨e,h1,rfl⟩)
    · exact ⟨.inr rfl,by rw [if_pos rfl]⟩
    · exact ⟨.inl h1,by rw [if_neg (fun hh=>e hh.symm)]; omega⟩
  · rintro ⟨h1,rfl⟩
    by_cases e:a=t
    · subst e
      exact .inl ⟨rfl,by rw [if_pos rfl]⟩
    · rcases h1 with h1|h1
      · exact .inr ⟨e,h1,by rw [if_neg (fun hh=>e hh.symm)]; omega⟩
      · exact absurd h1 e
theorem EvM.times {E m done:List (Int × Int)} (h:EvM E m) (hp:done.Perm m):(sortd ((done.filter (fun e=>decide (e.2≠0))).map (·.1))).Pairwise (· < ·)∧∀ t,t∈sortd ((done.filter (fun e=>decide (e.2≠0))).map (·.1))↔atS E t≠0:=by
  have hnd:((done.filter (fun e=>decide (e.2≠0))).map (·.1)).Nodup:=by
    have h1:(done.map (·.1)).Nodup:=(hp.map _).nodup_iff.2 h.nd
    exact h1.sublist (List.filter_sublist.map _)
  have hle:(sortd ((done.filter (fun e=>decide (e.2≠0))).map (·.1))).Pairwise (· ≤ ·):=by
    have:=List.pairwise_mergeSort (le:=fun x y:Int=>decide (x≤y)) (by intro a b c h1 h2; simp at *; omega) (by intro a b; simp; omega) ((done.filter (fun e=>decide (e.2≠0))).map (·.1))
    exact this.imp (fun h=>by simpa using h)
  have hn2:(sortd ((done.filter (fun e=>decide (e.2≠0))).map (·.1))).Nodup:=(List.mergeSort_perm _ _).nodup_iff.2 hnd
  refine ⟨(hle.and hn2).imp (fun h=>by omega),fun t=>?_⟩
  rw [List.mem_mergeSort,List.mem_map]
  constructor
  · rintro ⟨⟨a,b⟩,he,rfl⟩
    obtain ⟨h1,h2⟩:=List.mem_filter.1 he
    rw [decide_eq_true_eq] at h2
    have:=((h.mem a b).1 (hp.mem_iff.1 h1)).2
    rw [← this];exact h2
  · intro h0
    have ht:t∈E.map (·.1):=Decidable.byContradiction (fun hh=>h0 (atS_none hh))
    exact ⟨(t,atS E t),List.mem_filter.2 ⟨hp.mem_iff.2 ((h.mem _ _).2 ⟨ht,rfl⟩),decide_eq_true h0⟩,rfl⟩
end Go.Eng
namespace Go.Step
def evE (cs:List Ct) (n:Int) (l:List Sh):List (Int × Int):=l.flatMap (fun x=>(if (ctOf cs x).f=n then [(x.t,-x.n)] else []) ++ (if (ctOf cs x).t=n then [(arrOf cs x,x.n)] else []))
theorem evE_at (cs:List Ct) (n:Int) (l:List Sh) (t:Int):Go.Eng.atS (evE cs n l) t=chgS cs n t l:=by
  unfold Go.Eng.atS evE chgS
  induction l with
  | nil=>rfl
  | cons x l ih =>
    rw [List.flatMap_cons,lsum_append,ih];simp only [lsum]
    congr 1
    rw [lsum_append];unfold chg1
    by_cases c1:(ctOf cs x).f=n <;> by_cases c2:(ctOf cs x).t=n <;> simp [c1,c2,lsum] <;> (try split) <;> (try split) <;> omega
theorem evE_next {cs:List Ct} {n:Int} {l:List Sh} {k:Nat} {x:Sh} (h:l[k]?=some x):evE cs n (l.take (k+1))=(evE cs n (l.take k) ++ (if (ctOf cs x).f=n then [(x.t,-x.n)] else [])) ++ (if (ctOf cs x).t=n then [(arrOf cs x,x.n)] else []):=by
  obtain ⟨hk,rfl⟩:=List.getElem?_eq_some_iff.1 h
  unfold evE;rw [List.take_succ_eq_append_getElem hk,List.flatMap_append,List.append_assoc]
  simp
end Go.Step
namespace Go.Proofs.YtjehnjhkcmobcaaGreat
open Go.Eng Go.Step
set_option maxRecDepth 100000
set_option maxHeartbeats 64000000
def ShB (cs:List Ct) (x:Sh):Prop:=∃ c,cs[x.c.toNat]?=some c∧ctOf cs x=c∧(0≤x.c∧x.c<(cs.length:Int))∧(0≤x.t∧x.t≤1099511627776)∧(1≤x.n∧x.n≤1000)∧(1≤c.g∧c.g≤1048576)
theorem ShB.n {cs:List Ct} {x:Sh} (h:ShB cs x):0≤x.n∧x.n≤1000:=by
 obtain ⟨_,_,_,_,_,h,_⟩:=h
 omega
theorem changes_spec {ρ τ σ υ:PH} (ω:PH) {pq pc pb ph:Option Addr} {kq kc kb kh:Nat} {qs:List Int} {cs:List Ct} {bs:List Bk} {hs:List Hd} (hT:TbAt ρ τ σ υ pq pc pb ph kq kc kb kh qs cs bs hs) (v:Value) (l:List Sh) (n:Int) (hv:ShAt ω v l) (hll:l.length≤1000000) (hok:∀ x∈l,ShB cs x) :
  Eng.Spec Tryz.prog (fv 83) [.agg #[.slice pq qs.length kq,.slice pc cs.length kc,.slice pb bs.length kb,.slice ph hs.length kh],v,int n] [ρ,τ,σ,υ,ω] [] (fun r H'=>∃ bm m,r=.tuple #[.map (some bm),.bool (decide (netS cs n l=0))]∧H'=[sng bm (mapO m)]∧EvM (evE cs n l) m):=by
 obtain ⟨q,cc,rfl,hr⟩:=hv.val encX_len
 have hrc:=hT.rc
 refine spec_in (cap:=[]) Tryz.func83 rfl rfl Tryz.ntmps83 rfl envZ (fun N β=>?_)
 refine Aa ?_;refine BH (BO rfl) rfl rfl rfl ?_;rintro _ _ ⟨b1,rfl,rfl⟩;refine AW (ρ:=sng b1 _) takeZ ?_
 have ct:=rdB b1 29 [.slice pq qs.length kq,.slice pc cs.length kc,.slice pb bs.length kb,.slice ph hs.length kh]
 have ct0:=rdC ct 0
 have ct1:=rdC ct 1
 have ct2:=rdC ct 2
 have ct3:=rdC ct 3
 have ctp:=rdQ (xs:=[_,_]) ct
 refine Aal ?_;refine Aa ?_
 focus ((refine' BH _ rfl rfl rfl _; rotate_left; (exact ER); rintro _ _ ⟨b,rfl,rfl⟩))
 refine Aaa ?_;refine Ad6 ?_
 revert b; intro bm
 refine BA [2,3,8,14,15] (X:=Nat × List (Int × Int)) (0,[]) (fun x=>x.1≤l.length∧EvM (evE cs n (l.take x.1)) x.2) (fun x=>[(16,int x.1),(9,int (netS cs n (l.take x.1)))]) (fun x=>[sng bm (mapO x.2)]) (fun x=>l.length-x.1) pickZ ⟨by dsimp only; omega,EvM.nil⟩ covZ selZ ?_
 rintro ⟨k,m⟩ ⟨hk,hE⟩
 dsimp only at hk hE ⊢
 by_cases hlt:k<l.length
 rotate_left
 ·have hke:k=l.length:=by omega
  subst hke;rw [List.take_length] at hE ⊢
  by_cases hz:netS cs n l=0
  ·rw [decide_eq_true hz,hz]
   refine Acd ?_;refine Aay ?_;refine CQ ?_;refine Aal ?_;exact AO (res2 rfl rfl rfl) rsubZ selZ ⟨_,_,rfl,rfl,hE⟩
  ·rw [decide_eq_false hz]
   have hnb:=netS_bd cs n l (fun z hz=>(hok z hz).n)
   generalize netS cs n l=z at hz hnb
   refine Acd ?_;refine Aay ?_;refine CE ?_;refine Aal ?_;exact AO (res2 rfl rfl rfl) rsubZ selZ ⟨_,_,rfl,rfl,hE⟩
 have hx:=List.getElem?_eq_getElem hlt
 obtain ⟨y,y1,y2,y3,y4,y5,y6⟩:=hok _ (List.getElem_mem hlt)
 have hen:=evE_next (cs:=cs) (n:=n) hx
 have hns:=netS_snoc cs n hx
 have hnb:=netS_bd cs n (l.take k) (fun z hz=>(hok z (List.mem_of_mem_take hz)).n)
 have hcb:=fun t=>chgS_bd cs n t (l.take k) (fun z hz=>(hok z (List.mem_of_mem_take hz)).n)
 have hlk:(l.take k).length≤1000000:=by rw [List.length_take]; omega
 obtain ⟨b6,o6,rfl,hrx,_⟩:=shRow hr hx
 generalize l[k]=x at hx y1 y2 y3 y4 y5 hen hns hrx
 obtain ⟨i,hi⟩:=Int.eq_ofNat_of_zero_le y3.1
 rw [hi,Int.toNat_natCast] at y1
 obtain ⟨b9,o9,ec,hrd9⟩:=ctRow hrc y1
 have harr:arrOf cs x=x.t+1+y.g:=by unfold arrOf; rw [y2]
 unfold net1 at hns;rw [y2,harr] at hen;rw [y2] at hns
 obtain ⟨xc,xt,xn⟩:=x
 dsimp only at hi y3 y4 y5 hen hns hrx
 subst hi;subst ec
 by_cases d1:y.f=n
 ·by_cases d2:y.t=n
  ·have c1:y.f=n:=by assumption
   have c2:y.t=n:=by assumption
   rw [if_pos c1,if_pos c2] at hen hns
   have g1:(mget xt m).getD 0=atS (evE cs n (l.take k)) xt:=hE.get xt
   have b1:=hcb xt
   rw [← evE_at] at b1
   have b2:=hcb (xt+1+y.g)
   rw [← evE_at] at b2
   have hE1:=hE.note xt (-xn)
   have e2:=atS_snoc (evE cs n (l.take k)) xt (-xn) (xt+1+y.g)
   rw [if_neg (by omega)] at e2
   have hE2:=hE1.note (xt+1+y.g) xn
   have g2:=hE1.get (xt+1+y.g)
   refine Ac4 ?_;refine A4 ?_; rintro _ _ ⟨b,rfl,rfl⟩;refine AY ?_; rintro _ _ ⟨rfl,rfl⟩;refine AE ?_;refine Aeu ?_;refine A4 ?_; rintro _ _ ⟨b,rfl,rfl⟩;refine AY ?_; rintro _ _ ⟨rfl,rfl⟩;refine Aat ?_;refine Aey ?_;refine Ac0 ?_;refine Aad ?_;refine CW (DH (k:=xt) (l:=m) rfl rfl rfl rfl rfl (mapAt_own memZ)) rfl rfl rfl ?_;rw [g1];refine Aad ?_;refine CP ?_
   rw [show atS (evE cs n (l.take k)) xt-xn=atS (evE cs n (l.take k)) xt + -xn by omega]
   refine CI (DG (k:=xt) (v:=atS (evE cs n (l.take k)) xt + -xn) (l:=m) rfl rfl rfl rfl rfl takeZ) rfl rfl ?_;rintro _ _ ⟨rfl,rfl⟩;refine Afj ?_;refine Aaj ?_;refine CP ?_;refine Aaa ?_;refine Aey ?_;refine Ac0 ?_;refine Agm ?_;refine Agm ?_;refine CW (DH (k:=xt+1+y.g) (l:=mset xt (atS (evE cs n (l.take k)) xt + -xn) m) rfl rfl rfl rfl rfl (mapAt_own memZ)) rfl rfl rfl ?_;rw [g2];rw [e2,Int.add_zero];refine Agm ?_;refine CI (DG (k:=xt+1+y.g) (v:=atS (evE cs n (l.take k)) (xt+1+y.g)+xn) (l:=mset xt (atS (evE cs n (l.take k)) xt + -xn) m) rfl rfl rfl rfl rfl takeZ) rfl rfl ?_;rintro _ _ ⟨rfl,rfl⟩;refine Afj ?_;refine Aaj ?_;refine Adv ?_;refine Abf ?_;rw [e2,Int.add_zero] at hE2
   refine AT (k+1,_) ⟨by dsimp only; omega,by dsimp only; rw [hen]; exact hE2⟩ (by dsimp only; omega) ?_ selZ
   dsimp only
   rw [hns,show netS cs n (l.take k)+(xn-xn)=netS cs n (l.take k)-xn+xn by omega]
   exact covZ
  ·have c1:y.f=n:=by assumption
   have c2:¬ y.t=n:=by assumption
   rw [if_pos c1,if_neg c2] at hen hns
   have g1:(mget xt m).getD 0=atS (evE cs n (l.take k)) xt:=hE.get xt
   have b1:=hcb xt
   rw [← evE_at] at b1
   have b2:=hcb (xt+1+y.g)
   rw [← evE_at] at b2
   have hE1:=hE.note xt (-xn)
   have e2:=atS_snoc (evE cs n (l.take k)) xt (-xn) (xt+1+y.g)
   rw [if_neg (by omega)] at e2
   refine Ac4 ?_;refine A4 ?_; rintro _ _ ⟨b,rfl,rfl⟩;refine AY ?_; rintro _ _ ⟨rfl,rfl⟩;refine AE ?_;refine Aeu ?_;refine A4 ?_; rintro _ _ ⟨b,rfl,rfl⟩;refine AY ?_; rintro _ _ ⟨rfl,rfl⟩;refine Aat ?_;refine Aey ?_;refine Ac0 ?_;refine Aad ?_;refine CW (DH (k:=xt) (l:=m) rfl rfl rfl rfl rfl (mapAt_own memZ)) rfl rfl rfl ?_;rw [g1];refine Aad ?_;refine CP ?_
   rw [show atS (evE cs n (l.take k)) xt-xn=atS (evE cs n (l.take k)) xt + -xn by omega]
   refine CI (DG (k:=xt) (v:=atS (evE cs n (l.take k)) xt + -xn) (l:=m) rfl rfl rfl rfl rfl takeZ) rfl rfl ?_;rintro _ _ ⟨rfl,rfl⟩;refine Afj ?_;refine Aaj ?_;refine CP ?_;refine Aaa ?_;refine Af3 ?_;refine Abf ?_
   refine AT (k+1,_) ⟨by dsimp only; omega,by dsimp only; rw [hen]; rw [List.append_nil]; exact hE1⟩ (by dsimp only; omega) ?_ selZ
   dsimp only
   rw [hns,show netS cs n (l.take k)+(0-xn)=netS cs n (l.take k)-xn by omega]
   exact covZ
 ·by_cases d2:y.t=n
  ·have c1:¬ y.f=n:=by assumption
   have c2:y.t=n:=by assumption
   rw [if_neg c1,if_pos c2] at hen hns
   have g1:(mget xt m).getD 0=atS (evE cs n (l.take k)) xt:=hE.get xt
   have b1:=hcb xt
   rw [← evE_at] at b1
   have b2:=hcb (xt+1+y.g)
   rw [← evE_at] at b2
   have hE1:=hE
   have hE2:=hE1.note (xt+1+y.g) xn
   have g2:=hE1.get (xt+1+y.g)
   refine Ac4 ?_;refine A4 ?_; rintro _ _ ⟨b,rfl,rfl⟩;refine AY ?_; rintro _ _ ⟨rfl,rfl⟩;refine AE ?_;refine Aeu ?_;refine A4 ?_; rintro _ _ ⟨b,rfl,rfl⟩;refine AY ?_; rintro _ _ ⟨rfl,rfl⟩;refine Aat ?_;refine Af3 ?_;refine Aey ?_;refine Ac0 ?_;refine Agm ?_;refine Agm ?_;refine CW (DH (k:=xt+1+y.g) (l:=m) rfl rfl rfl rfl rfl (mapAt_own memZ)) rfl rfl rfl ?_;rw [g2];refine Agm ?_;refine CI (DG (k:=xt+1+y.g) (v:=atS (evE cs n (l.take k)) (xt+1+y.g)+xn) (l:=m) rfl rfl rfl rfl rfl takeZ) rfl rfl ?_;rintro _ _ ⟨rfl,rfl⟩;refine Afj ?_;refine Aaj ?_;refine Adv ?_;refine Abf ?_
   refine AT (k+1,_) ⟨by dsimp only; omega,by dsimp only; rw [hen]; rw [List.append_nil]; exact hE2⟩ (by dsimp only; omega) ?_ selZ
   dsimp only
   rw [hns,show netS cs n (l.take k)+(xn-0)=netS cs n (l.take k)+xn by omega]
   exact covZ
  ·have c1:¬ y.f=n:=by assumption
   have c2:¬ y.t=n:=by assumption
   rw [if_neg c1,if_neg c2] at hen hns
   have g1:(mget xt m).getD 0=atS (evE cs n (l.take k)) xt:=hE.get xt
   have b1:=hcb xt
   rw [← evE_at] at b1
   have b2:=hcb (xt+1+y.g)
   rw [← evE_at] at b2
   have hE1:=hE
   refine Ac4 ?_;refine A4 ?_; rintro _ _ ⟨b,rfl,rfl⟩;refine AY ?_; rintro _ _ ⟨rfl,rfl⟩;refine AE ?_;refine Aeu ?_;refine A4 ?_; rintro _ _ ⟨b,rfl,rfl⟩;refine AY ?_; rintro _ _ ⟨rfl,rfl⟩;refine Aat ?_;refine Af3 ?_;refine Af3 ?_;refine Abf ?_
   refine AT (k+1,_) ⟨by dsimp only; omega,by dsimp only; rw [hen]; rw [List.append_nil,List.append_nil]; exact hE1⟩ (by dsimp only; omega) ?_ selZ
   dsimp only
   rw [hns,show netS cs n (l.take k)+(0-0)=netS cs n (l.take k) by omega]
   exact covZ
end Go.Proofs.YtjehnjhkcmobcaaGreat
namespace Go.Step
section
variable {qs:List Int} {cs:List Ct} {bs:List Bk} {hs:List Hd} {l:List Sh} {R bs':List Bk} {hs':List Hd}
theorem bks_strict (h0:chkB qs cs bs=0) (hE:firstE (rsvE cs bs l) l.length=0) (rn:R.Nodup) (rm:∀ b,b∈R↔IsRun (ticksS l) b) (pb:bs'.Perm (bs ++ R)) (hp:bs'.Pairwise (fun x y=>¬ cmpBk y x<0)) :
    bs'.Pairwise (fun x y=>cmpBk x y<0):=by
  obtain ⟨a1,a2⟩:=chkB_ok h0
  obtain ⟨f1,_⟩:=rsv_facts hE
  have hok:∀ y∈bs',okBk cs y:=fun y hy=>by
    rcases List.mem_append.1 (pb.mem_iff.1 hy) with hy|hy
    · exact bkE_ok a2 y hy
    · exact run_ok (fun x hx=>(f1 x hx).1) ((rm y).1 hy)
  have hdis:∀ x∈bs,x∉R:=fun x hx hr=>by
    obtain ⟨_,_,_,_,k1,_⟩:=bkE_ok a2 x hx
    obtain ⟨z,hz,e1,e2⟩:=mem_ticks.1 (((rm x).1 hr).2.2.1 x.a (Int.le_refl _) k1)
    have:=(f1 z hz).2
    rw [e1,e2,bookedB_iff.2 ⟨x,hx,rfl,Int.le_refl _,k1⟩] at this
    simp at this
  have hbn:bs.Nodup:=by
    have hpa:=bks_apart a2
    refine hpa.imp_of_mem (fun {x y} hx hy hxy e=>?_)
    subst e
    obtain ⟨_,_,_,_,k1,_⟩:=bkE_ok a2 x hx
    omega
  have hnd:bs'.Nodup:=pb.nodup_iff.2 (List.nodup_append.2 ⟨hbn,rn,fun x hx y hy e=>hdis x hx (e ▸ hy)⟩)
  refine (hp.and hnd).imp_of_mem (fun {x y} hx hy hxy=>?_)
  obtain ⟨g1,g2⟩:=hxy
  rw [cmpBk_lt] at g1 ⊢
  by_cases hc:x.c=y.c∧x.a=y.a
  · obtain ⟨_,_,_,_,k1,_⟩:=hok x hx
    obtain ⟨_,_,_,_,k2,_⟩:=hok y hy
    exact absurd (rsv_same a2 (fun x hx=>(f1 x hx).2) rm (pb.mem_iff.1 hx) (pb.mem_iff.1 hy) hc.1 (t:=y.a) (by omega) (by omega) (Int.le_refl _) k2) g2
  · omega
theorem hds_sort {a:List Hd} (h:a.Pairwise (fun x y=>¬ cmpHd y x<0)):SortH a:=
  h.imp (fun {x y} h=>by have:=cmpHd_neg x y; omega)
theorem rsv_exists (h0:chkB qs cs bs=0) (hE:firstE (rsvE cs bs l) l.length=0):∃ R bs1 hs1,RsvOK qs cs bs hs l R bs1 hs1:=by
  obtain ⟨f1,f2⟩:=rsv_facts hE
  obtain ⟨R,rn,rm⟩:=runs_exist (ticks_nodup f2)
  have p1:=List.pairwise_mergeSort (le:=fun x y:Bk=>decide (¬ cmpBk y x<0)) (by
    intro a b c h1 h2
    simp only [decide_eq_true_eq,cmpBk_lt] at *
    omega) (by
    intro a b
    simp only [Bool.or_eq_true,decide_eq_true_eq,cmpBk_lt]
    omega) (bs ++ R)
  have p2:=List.pairwise_mergeSort (le:=fun x y:Hd=>decide (¬ cmpHd y x<0)) (by
    intro a b c h1 h2
    simp only [decide_eq_true_eq] at *
    have e1:=cmpHd_neg a b
    have e2:=cmpHd_neg b c
    have e3:=cmpHd_neg a c
    have:=cmpHd_trans (x:=a) (y:=b) (z:=c) (by omega) (by omega)
    omega) (by
    intro a b
    simp only [Bool.or_eq_true,decide_eq_true_eq]
    have e1:=cmpHd_neg a b
    omega) (hs ++ holdsA cs l qs.length)
  have q1:=List.mergeSort_perm (bs ++ R) (fun x y:Bk=>decide (¬ cmpBk y x<0))
  have q2:=List.mergeSort_perm (hs ++ holdsA cs l qs.length) (fun x y:Hd=>decide (¬ cmpHd y x<0))
  exact ⟨R,_,_,⟨rn,rm,q1,bks_strict h0 hE rn rm q1 (p1.imp (fun h=>of_decide_eq_true h)),q2,hds_sort (p2.imp (fun h=>of_decide_eq_true h))⟩⟩
end
def TruncH (m:Nat) (O T:List Hd) (many:Bool):Prop:=(many=false∧O=T∧m+O.length≤512)∨(many=true∧512<m+O.length∧O.length≤513∧O.length≤T.length)
theorem TruncH.nil {m:Nat} (h:m≤512):TruncH m [] [] false:=.inl ⟨rfl,rfl,by simpa using h⟩
theorem TruncH.push {m:Nat} {O T:List Hd} (x:Hd) (h:TruncH m O T false):TruncH m (O ++ [x]) (T ++ [x]) (decide (512<m+(O.length+1))):=by
  rcases h with ⟨_,rfl,h1⟩|⟨h,_⟩
  · by_cases c:512<m+(O.length+1)
    · rw [decide_eq_true c]
      refine .inr ⟨rfl,?_,?_,?_⟩ <;> rw [List.length_append,List.length_singleton] <;> omega
    · rw [decide_eq_false c]
      refine .inl ⟨rfl,rfl,?_⟩;rw [List.length_append,List.length_singleton];omega
  · simp at h
theorem TruncH.len {m:Nat} {O T:List Hd} {b:Bool} (h:TruncH m O T b):O.length≤513:=by
  rcases h with ⟨_,rfl,h1⟩|⟨_,h1,h2,h3⟩ <;> omega
theorem TruncH.short {m:Nat} {O T:List Hd} (h:TruncH m O T false):O.length≤512:=by
  rcases h with ⟨_,rfl,h1⟩|⟨h,_⟩
  · omega
  · simp at h
theorem pieces_snoc (n a b s:Int) (k:Nat):pieces n a b s (k+1)=pieces n a b s k ++ [⟨n,a,b,min (s-65536*k) 65536,0⟩]:=by
  unfold pieces;rw [List.range_succ,List.map_append]
  rfl
theorem pieces_zero (n a b s:Int):pieces n a b s 0=[]:=rfl
theorem pieceN_end {s:Int} {k:Nat} (hk:k≤pieceN s) (h:¬ 0<s-65536*k):k=pieceN s:=by
  unfold pieceN at *;omega
theorem pieceN_lt {s:Int} {k:Nat} (h:0<s-65536*k):k+1≤pieceN s:=by
  unfold pieceN;omega
def holdsT (n:Int) (L:List ((Int × Int) × Int)):List Hd:=L.flatMap (fun p=>pieces n p.1.1 p.1.2 p.2 (pieceN p.2))
theorem holdsT_snoc (n:Int) (L:List ((Int × Int) × Int)) (k:Nat) (h:k<L.length):holdsT n (L.take (k+1))=holdsT n (L.take k) ++ pieces n L[k].1.1 L[k].1.2 L[k].2 (pieceN L[k].2):=by
  unfold holdsT;rw [List.take_succ_eq_append_getElem h,List.flatMap_append]
  simp
theorem holdsA_even {cs:List Ct} {l:List Sh} {k:Nat} (h:netS cs k l=0):holdsA cs l (k+1)=holdsA cs l k ++ holdsT k (spL (lvN cs k l)):=by
  show holdsA cs l k ++ _=_
  rw [if_pos h]
  rfl
theorem pieces_len (n a b s:Int) (k:Nat):(pieces n a b s k).length=k:=by
  unfold pieces;rw [List.length_map,List.length_range]
theorem TruncH.more {m:Nat} {O T T':List Hd} (h:TruncH m O T true) (hl:T.length≤T'.length):TruncH m O T' true:=by
  rcases h with ⟨h,_⟩|⟨_,h1,h2,h3⟩
  · simp at h
  · exact .inr ⟨rfl,h1,h2,by omega⟩
theorem holdsA_odd {cs:List Ct} {l:List Sh} {k:Nat} (h:netS cs k l≠0):holdsA cs l (k+1)=holdsA cs l k:=by
  show holdsA cs l k ++ _=_
  rw [if_neg h,List.append_nil]
end Go.Step
namespace Go.Step
structure An where
  acc:Bool
  vol:Int
  ss:List Sh
  c:Cu
def PlanA (qs:List Int) (cs:List Ct) (bs:List Bk) (hs:List Hd) (d:Dm) (a:An):Prop:=PlanOK qs cs bs hs d a.acc a.vol a.ss a.c
def MxS (qs:List Int) (cs:List Ct):List Bk→List Hd→List Dm→List An→List Bk→List Hd→Prop
  | bs,hs,[],an,bs',hs'=>an=[]∧bs'=bs∧hs'=hs
  | bs,hs,d::ds,an,bs',hs'=>∃ a as1 bs1 hs1,an=a::as1∧validT qs cs bs hs d=true∧PlanA qs cs bs hs d a∧RsvR qs cs bs hs a.ss 0 bs1 hs1∧MxS qs cs bs1 hs1 ds as1 bs' hs'
section
variable {qs:List Int} {cs:List Ct}
theorem PlanA.uniq {bs:List Bk} {hs:List Hd} {d:Dm} {a b:An} (h1:PlanA qs cs bs hs d a) (h2:PlanA qs cs bs hs d b):a=b:=by
  obtain ⟨a1,a2,a3,a4⟩:=a
  obtain ⟨b1,b2,b3,b4⟩:=b
  obtain ⟨e1,e2,e3,e4⟩:=PlanOK.uniq h1 h2
  dsimp only at e1 e2 e3 e4
  rw [e1,e2,e3,e4]
theorem MxS.uniq:∀ {ds:List Dm} {bs:List Bk} {hs:List Hd} {an an':List An} {b b':List Bk} {h h':List Hd},MxS qs cs bs hs ds an b h→MxS qs cs bs hs ds an' b' h'→an=an'∧b=b'∧h=h'
  | [],_,_,_,_,_,_,_,_,⟨x1,x2,x3⟩,⟨y1,y2,y3⟩=>⟨by rw [x1,y1],by rw [x2,y2],by rw [x3,y3]⟩
  | d::ds,_,_,_,_,_,_,_,_,⟨a,as1,b1,h1,e,_,p,r,s⟩,⟨a',as2,b2,h2,e',_,p',r',s'⟩=>by
    subst e;subst e'
    obtain rfl:=p.uniq p'
    obtain ⟨_,rfl,rfl⟩:=r.uniq r'
    obtain ⟨rfl,rfl,rfl⟩:=MxS.uniq s s'
    exact ⟨rfl,rfl,rfl⟩
theorem MxS.snoc {d:Dm} {a:An}:∀ {ds:List Dm} {bs:List Bk} {hs:List Hd} {an:List An} {b b':List Bk} {h h':List Hd},MxS qs cs bs hs ds an b h→validT qs cs b h d=true→PlanA qs cs b h d a→RsvR qs cs b h a.ss 0 b' h'→MxS qs cs bs hs (ds ++ [d]) (an ++ [a]) b' h'
  | [],_,_,_,_,_,_,_,⟨x1,x2,x3⟩,hv,p,r=>by
    subst x1;subst x2;subst x3;exact ⟨a,[],_,_,rfl,hv,p,r,rfl,rfl,rfl⟩
  | d'::ds,_,_,_,_,_,_,_,⟨a',as1,b1,h1,e,v,p',r',s⟩,hv,p,r=>by
    subst e;exact ⟨a',as1 ++ [a],b1,h1,rfl,v,p',r',MxS.snoc s hv p r⟩
theorem MxS.len:∀ {ds:List Dm} {bs:List Bk} {hs:List Hd} {an:List An} {b:List Bk} {h:List Hd},MxS qs cs bs hs ds an b h→an.length=ds.length
  | [],_,_,_,_,_,⟨x1,_,_⟩=>by rw [x1]; rfl
  | d::ds,_,_,_,_,_,⟨a,as1,b1,h1,e,v,p,r,s⟩=>by
    rw [e,List.length_cons,List.length_cons,MxS.len s]
theorem MxS.at:∀ {k:Nat} {ds:List Dm} {bs:List Bk} {hs:List Hd} {an:List An} {b:List Bk} {h:List Hd} {d:Dm},MxS qs cs bs hs ds an b h→ds[k]?=some d →
    ∃ as1 b1 h1 a b2 h2,MxS qs cs bs hs (ds.take k) as1 b1 h1∧validT qs cs b1 h1 d=true∧PlanA qs cs b1 h1 d a∧RsvR qs cs b1 h1 a.ss 0 b2 h2∧an[k]?=some a:=by
  intro k
  induction k with
  | zero =>
    intro ds bs hs an b h d hS hd
    match ds,hS with
    | [],_=>simp at hd
    | d'::ds,⟨a,as1,b1,h1,e,v,p,r,s⟩ =>
      simp at hd
      subst hd;subst e;exact ⟨[],bs,hs,a,b1,h1,⟨rfl,rfl,rfl⟩,v,p,r,rfl⟩
  | succ k ih =>
    intro ds bs hs an b h d hS hd
    match ds,hS with
    | [],_=>simp at hd
    | d'::ds,⟨a,as1,b1,h1,e,v,p,r,s⟩ =>
      rw [List.getElem?_cons_succ] at hd
      obtain ⟨as2,b3,h3,a3,b4,h4,s3,v3,p3,r3,g3⟩:=ih s hd
      subst e
      exact ⟨a::as2,b3,h3,a3,b4,h4,⟨a,as2,b1,h1,rfl,v,p,r,s3⟩,v3,p3,r3,by rw [List.getElem?_cons_succ]; exact g3⟩
def MtxR (qs:List Int) (cs:List Ct) (bs:List Bk) (hs:List Hd) (ds:List Dm) (an:List An) (e:Int):Prop:=
  (e=0∧∃ b h,MxS qs cs bs hs ds an b h) ∨
  (e≠0∧an=[]∧∃ k d b1 h1 as1,ds[k]?=some d∧MxS qs cs bs hs (ds.take k) as1 b1 h1∧((validT qs cs b1 h1 d=false∧e=1)∨(validT qs cs b1 h1 d=true∧∃ a b2 h2,PlanA qs cs b1 h1 d a∧RsvR qs cs b1 h1 a.ss e b2 h2)))
variable {bs:List Bk} {hs:List Hd}
theorem mtx_stop {ds ds':List Dm} {as1 as2:List An} {b1 b:List Bk} {h1 h:List Hd} {k:Nat} {d:Dm} {e:Int} (he:e≠0) (hd:ds[k]?=some d) (hs1:MxS qs cs bs hs (ds.take k) as1 b1 h1) (hf:(validT qs cs b1 h1 d=false∧e=1)∨(validT qs cs b1 h1 d=true∧∃ a b2 h2,PlanA qs cs b1 h1 d a∧RsvR qs cs b1 h1 a.ss e b2 h2))
    (h2:MxS qs cs bs hs ds' as2 b h) (h3:ds'[k]?=some d) (h4:ds'.take k=ds.take k):False:=by
  obtain ⟨as3,b3,h3',a3,b4,h4',s3,v3,p3,r3,_⟩:=MxS.at h2 h3
  rw [h4] at s3
  obtain ⟨_,rfl,rfl⟩:=hs1.uniq s3
  rcases hf with ⟨hf,_⟩|⟨_,a,b2,h2',p,r⟩
  · rw [v3] at hf; simp at hf
  · obtain rfl:=p.uniq p3
    exact he (r.uniq r3).1
theorem MtxR.uniq {ds:List Dm} {an an':List An} {e e':Int} (h1:MtxR qs cs bs hs ds an e) (h2:MtxR qs cs bs hs ds an' e'):e=e'∧an=an':=by
  rcases h1 with ⟨rfl,b,h,s⟩|⟨he,rfl,k,d,b1,h1,as1,hd,s,hf⟩ <;> rcases h2 with ⟨rfl,b',h',s'⟩|⟨he',rfl,k',d',b1',h1',as1',hd',s',hf'⟩
  · exact ⟨rfl,(s.uniq s').1⟩
  · exact (mtx_stop he' hd' s' hf' s hd' rfl).elim
  · exact (mtx_stop he hd s hf s' hd rfl).elim
  · rcases Nat.lt_trichotomy k k' with hk|hk|hk
    · exact (mtx_stop he hd s hf s' (by rw [List.getElem?_take_of_lt hk]; exact hd) (by rw [List.take_take,Nat.min_eq_left (by omega)])).elim
    · subst hk
      rw [hd] at hd'
      obtain rfl:=Option.some.inj hd'
      obtain ⟨_,rfl,rfl⟩:=s.uniq s'
      refine ⟨?_,rfl⟩
      rcases hf with ⟨v,rfl⟩|⟨v,a,b2,h2,p,r⟩ <;> rcases hf' with ⟨v',rfl⟩|⟨v',a',b2',h2',p',r'⟩
      · rfl
      · rw [v] at v'; simp at v'
      · rw [v] at v'; simp at v'
      · obtain rfl:=p.uniq p'
        exact (r.uniq r').1
    · exact (mtx_stop he' hd' s' hf' s (by rw [List.getElem?_take_of_lt hk]; exact hd') (by rw [List.take_take,Nat.min_eq_left (by omega)])).elim
theorem ticks_at {l:List Sh} {j:Nat} {x:Sh} (h:l[j]?=some x):(ticksS l)[j]?=some (x.c,x.t):=by
  unfold ticksS;rw [List.getElem?_map,h]
  rfl
end
end Go.Step
namespace Go.Step
theorem not_take {α:Type} {L:List α} {k:Nat} {y z:α} (h:L[k]?=some y) (hI:z∉L.take k) (hne:z≠y):z∉L.take (k+1):=by
  obtain ⟨hk,e⟩:=List.getElem?_eq_some_iff.1 h
  rw [List.take_succ_eq_append_getElem hk,List.mem_append,e];rintro (h|h)
  · exact hI h
  · exact hne (by simpa using h)
theorem haveS_snoc (cs:List Ct) (n t:Int) {l:List Sh} {k:Nat} {x:Sh} (h:l[k]?=some x):haveS cs n t (l.take (k+1))=haveS cs n t (l.take k)+have1 cs n t x:=by
  obtain ⟨hk,rfl⟩:=List.getElem?_eq_some_iff.1 h
  unfold haveS;rw [List.take_succ_eq_append_getElem hk,lsum_append]
  simp [lsum]
theorem any_not {α:Type} {p:α→Bool} {l:List α} {k:Nat} {x:α} (h:l[k]?=some x) (hI:(l.take k).any p=false) (hp:p x=false):(l.take (k+1)).any p=false:=by
  obtain ⟨hk,e⟩:=List.getElem?_eq_some_iff.1 h
  rw [List.take_succ_eq_append_getElem hk,List.any_append,hI,e]
  simp [hp]
structure TmsI (E O A:List Int):Prop where
  sa:SA O
  mem:∀ t,(t∈O∨t∈A)↔t∈E
  le:∀ x∈O,∀ y∈A,x≤y
theorem TmsI.start {E A:List Int} (h:∀ t,t∈A↔t∈E):TmsI E [] A:=⟨List.Pairwise.nil,fun t=>by simp [h t],by simp⟩
theorem TmsI.step {E O A:List Int} (h:TmsI E O A) {k:Nat} {m:Int} (hk:A[k]?=some m) (hm:∀ y∈A,m≤y):TmsI E (nextT O m) (A.take k ++ A.drop (k+1)):=by
  obtain ⟨hl,e⟩:=List.getElem?_eq_some_iff.1 hk
  have hA:A=A.take k ++ m::A.drop (k+1):=by rw [← e,← List.drop_eq_getElem_cons hl,List.take_append_drop]
  have hmA:∀ t,t∈A↔t=m∨t∈A.take k ++ A.drop (k+1):=fun t=>by
    conv=>lhs; rw [hA]
    simp only [List.mem_append,List.mem_cons]
    constructor
    · rintro (h|h|h)
      · exact .inr (.inl h)
      · exact .inl h
      · exact .inr (.inr h)
    · rintro (h|h|h)
      · exact .inr (.inl h)
      · exact .inl h
      · exact .inr (.inr h)
  obtain ⟨n1,n2⟩:=nextT_ok h.sa (fun x hx=>h.le x hx m (List.mem_of_getElem? hk))
  refine ⟨n1,fun t=>?_,fun x hx y hy=>?_⟩
  · rw [n2,← h.mem,hmA t]
    constructor
    · rintro ((h|h)|h)
      · exact .inl h
      · exact .inr (.inl h)
      · exact .inr (.inr h)
    · rintro (h|h|h)
      · exact .inl (.inl h)
      · exact .inl (.inr h)
      · exact .inr h
  · have hyA:=(hmA y).2 (.inr hy)
    rcases (n2 x).1 hx with h1|rfl
    · exact h.le x h1 y hyA
    · exact hm y hyA
theorem TmsI.done {cs:List Ct} {n:Int} {l:List Sh} {O:List Int} (h:TmsI (evsN cs n l) O []):O=evtN cs n l:=by
  obtain ⟨h1,h2⟩:=evtN_sa cs n l
  exact h.sa.unique h1 (fun x=>by rw [h2 x,← h.mem]; simp)
theorem evs_next (cs:List Ct) (n:Int) {l:List Sh} {k:Nat} {x:Sh} (h:l[k]?=some x) {A:List Int} (hA:∀ t,t∈A↔t∈evsN cs n (l.take k)) :
    ∀ t,t∈A ++ ((if (ctOf cs x).t=n then [arrOf cs x] else []) ++ (if (ctOf cs x).f=n then [x.t] else []))↔t∈evsN cs n (l.take (k+1)):=fun t=>by
  rw [evsN_snoc cs n h,List.mem_append,List.mem_append,List.mem_append,List.mem_append,hA t]
  constructor
  · rintro (h|h|h)
    · exact .inl h
    · exact .inr (.inr h)
    · exact .inr (.inl h)
  · rintro (h|h|h)
    · exact .inl h
    · exact .inr (.inr h)
    · exact .inr (.inl h)
structure BksI (l:List Sh) (i:Nat) (O:List Bk):Prop where
  nd:O.Nodup
  mem:∀ b,b∈O↔IsRun (ticksS l) b∧(b.c,b.a)∈(ticksS l).take i
  len:O.length≤i
theorem BksI.start (l:List Sh):BksI l 0 []:=⟨List.nodup_nil,fun b=>by simp,Nat.le_refl _⟩
theorem mem_take_next {α:Type} {L:List α} {k:Nat} {y z:α} (h:L[k]?=some y):z∈L.take (k+1)↔z∈L.take k∨z=y:=by
  obtain ⟨hk,e⟩:=List.getElem?_eq_some_iff.1 h
  rw [List.take_succ_eq_append_getElem hk,List.mem_append,e,List.mem_singleton]
theorem BksI.skip {l:List Sh} {i:Nat} {O:List Bk} {c t:Int} (h:BksI l i O) (hx:(ticksS l)[i]?=some (c,t)) (hp:(c,t-1)∈ticksS l):BksI l (i+1) O:=by
  refine ⟨h.nd,fun b=>?_,by have:=h.len; omega⟩
  rw [h.mem,mem_take_next hx]
  constructor
  · rintro ⟨h1,h2⟩
    exact ⟨h1,.inl h2⟩
  · rintro ⟨h1,h2|h2⟩
    · exact ⟨h1,h2⟩
    · obtain ⟨e1,e2⟩:=Prod.mk.inj h2
      exact absurd (by rw [e1,e2]; exact hp) h1.2.2.2.1
theorem BksI.push {l:List Sh} {i:Nat} {O:List Bk} {c t e:Int} (h:BksI l i O) (hnd:(ticksS l).Nodup) (hx:(ticksS l)[i]?=some (c,t)) (hr:IsRun (ticksS l) ⟨c,t,e,0⟩):BksI l (i+1) (O ++ [⟨c,t,e,0⟩]):=by
  have hnew:(c,t)∉(ticksS l).take i:=fun hm=>by
    obtain ⟨hl,e1⟩:=List.getElem?_eq_some_iff.1 hx
    have e2:ticksS l=(ticksS l).take i ++ (c,t)::(ticksS l).drop (i+1):=by rw [← e1,← List.drop_eq_getElem_cons hl,List.take_append_drop]
    rw [e2,List.nodup_append] at hnd;exact hnd.2.2 _ hm _ (List.mem_cons_self ..) rfl
  refine ⟨List.nodup_append.2 ⟨h.nd,by simp,fun x hx y hy e=>?_⟩,fun b=>?_,by have:=h.len; rw [List.length_append,List.length_singleton]; omega⟩
  · simp at hy
    subst hy;subst e;exact hnew ((h.mem _).1 hx).2
  · rw [List.mem_append,h.mem,List.mem_singleton,mem_take_next hx]
    constructor
    · rintro (⟨h1,h2⟩|rfl)
      · exact ⟨h1,.inl h2⟩
      · exact ⟨hr,.inr rfl⟩
    · rintro ⟨h1,h2|h2⟩
      · exact .inl ⟨h1,h2⟩
      · obtain ⟨e1,e2⟩:=Prod.mk.inj h2
        refine .inr (IsRun.same h1 hr e1 (t:=t) (by omega) (by have:=h1.2.1; omega) (Int.le_refl _) hr.2.1)
theorem BksI.all {l:List Sh} {O:List Bk} (h:BksI l l.length O):O.Nodup∧∀ b,b∈O↔IsRun (ticksS l) b:=by
  refine ⟨h.nd,fun b=>?_⟩
  rw [h.mem,List.take_of_length_le (by unfold ticksS; rw [List.length_map]; exact Nat.le_refl _)]
  exact ⟨fun h=>h.1,fun h=>⟨h,h.2.2.1 b.a (Int.le_refl _) h.2.1⟩⟩
def nxtF (F:Int→Int) (v:Int):List Int→Int
  | []=>0
  | y::ys=>if F y=v then nxtF F v ys else y
def sp2 (F:Int→Int):Int→List Int→List ((Int × Int) × Int)
  | _,[]=>[]
  | c,x::xs=>(if F x≠c∧0<F x then [((x,nxtF F (F x) xs),F x)] else []) ++ sp2 F (F x) xs
theorem comb_head {F:Int→Int}:∀ {xs:List Int} {v:Int} {y:Lv} {g:List Lv},comb F v xs=y::g→y.a=nxtF F v xs
  | [],v,y,g,h=>by simp [comb] at h
  | x::xs,v,y,g,h=>by
    simp only [comb] at h;unfold nxtF
    split at h
    · rename_i hne
      rw [if_neg hne];simp only [List.cons.injEq] at h;rw [← h.1]
    · rename_i he
      have he:=Classical.not_not.1 he
      rw [if_pos he];rw [he] at h;exact comb_head h
theorem comb_none {F:Int→Int}:∀ {xs:List Int} {v:Int},comb F v xs=[]→∀ y∈xs,F y=v
  | [],v,_=>by simp
  | x::xs,v,h=>by
    simp only [comb] at h
    split at h
    · simp at h
    · rename_i he
      have he:=Classical.not_not.1 he
      intro y hy
      rcases List.mem_cons.1 hy with rfl|hy
      · exact he
      · rw [he] at h
        exact comb_none h y hy
theorem comb_vals {F:Int→Int}:∀ {xs:List Int} {v:Int},∀ t∈xs,F t=v∨∃ y∈comb F v xs,y.v=F t
  | [],v,t,h=>by simp at h
  | x::xs,v,t,h=>by
    simp only [comb]
    split
    · rename_i hne
      rcases List.mem_cons.1 h with rfl|h
      · exact .inr ⟨_,List.mem_cons_self ..,rfl⟩
      · rcases comb_vals (v:=F x) t h with e|⟨y,hy,e⟩
        · exact .inr ⟨_,List.mem_cons_self ..,e.symm⟩
        · exact .inr ⟨y,List.mem_cons_of_mem _ hy,e⟩
    · rename_i he
      have he:=Classical.not_not.1 he
      rcases List.mem_cons.1 h with rfl|h
      · exact .inl he
      · rw [he]
        exact comb_vals t h
theorem sp2_spL {F:Int→Int}:∀ {ts:List Int} {c:Int},(∀ z,ts.getLast?=some z→F z=0)→spL (comb F c ts)=sp2 F c ts
  | [],c,_=>by simp [comb,spL,sp2]
  | x::xs,c,h=>by
    have hl:∀ z,xs.getLast?=some z→F z=0:=fun z hz=>h z (by rw [List.getLast?_cons,hz]; rfl)
    have ih:=sp2_spL (c:=F x) hl
    simp only [comb,sp2]
    by_cases hne:F x≠c
    · rw [if_pos hne]
      cases hg:comb F (F x) xs with
      | nil =>
        rw [hg] at ih
        have h0:F x=0:=by
          cases xs with
          | nil=>exact h x rfl
          | cons z zs =>
            have hz:=hl ((z::zs).getLast (by simp)) (List.getLast?_eq_some_getLast (by simp))
            rw [← comb_none hg _ (List.getLast_mem (by simp))]
            exact hz
        rw [if_neg (fun hh=>by omega),List.nil_append,← ih]
        rfl
      | cons y g =>
        rw [hg] at ih
        have hya:=comb_head hg
        rw [← ih]
        conv=>lhs; unfold spL
        rw [hya]
        by_cases hv:0<F x
        · rw [if_pos hv,if_pos ⟨hne,hv⟩]
        · rw [if_neg hv,if_neg (fun hh=>hv hh.2)]
    · have he:=Classical.not_not.1 hne
      rw [if_neg hne,if_neg (fun hh=>hh.1 he),List.nil_append]
      exact ih
theorem neg54 {cs:List Ct} {n:Int} {l:List Sh} (hz:netS cs n l=0):negN cs n l=true↔∃ t∈evtN cs n l,haveS cs n t l<0:=by
  unfold negN;rw [decide_eq_true hz,Bool.true_and,List.any_eq_true]
  constructor
  · rintro ⟨y,hy,h⟩
    have h1:=((lvN_ok cs n l).2.1 y).1 hy
    have h2:y.a∈evsN cs n l:=Classical.not_not.1 (fun h=>h1.2 (chg_evs h))
    exact ⟨y.a,((evtN_sa cs n l).2 _).2 h2,by rw [← h1.1]; exact of_decide_eq_true h⟩
  · rintro ⟨t,ht,h⟩
    rcases comb_vals (F:=fun t=>haveS cs n t l) (v:=0) t ht with e|⟨y,hy,e⟩
    · omega
    · exact ⟨y,hy,decide_eq_true (by omega)⟩
theorem evt_last {cs:List Ct} {n:Int} {l:List Sh} {z:Int} (h:(evtN cs n l).getLast?=some z):haveS cs n z l=netS cs n l:=by
  obtain ⟨h1,h2⟩:=evtN_sa cs n l
  refine haveS_late (fun u hu=>?_)
  obtain ⟨i,hi,e⟩:=List.getElem_of_mem ((h2 u).2 hu)
  have hl:(evtN cs n l)[(evtN cs n l).length-1]?=some z:=by rw [← List.getLast?_eq_getElem?]; exact h
  obtain ⟨hk,e2⟩:=List.getElem?_eq_some_iff.1 hl
  rw [← e,← e2]
  rcases Nat.lt_or_ge i ((evtN cs n l).length-1) with h3|h3
  · have:=(List.pairwise_iff_getElem.1 h1) i _ hi hk h3
    omega
  · have:i=(evtN cs n l).length-1:=by omega
    subst this;exact Int.le_refl _
theorem evt_nil {cs:List Ct} {n:Int} {l:List Sh} (h:evtN cs n l=[]):netS cs n l=0∧lvN cs n l=[]:=by
  have h2:∀ u,u∉evsN cs n l:=fun u hu=>by
    have:=((evtN_sa cs n l).2 u).2 hu
    rw [h] at this
    simp at this
  constructor
  · rw [← haveS_late (t:=0) (fun u hu=>absurd hu (h2 u))]
    exact haveS_early (fun u hu=>absurd hu (h2 u))
  · unfold lvN
    rw [h]
    rfl
theorem evs_len (cs:List Ct) (n:Int):∀ l:List Sh,(evsN cs n l).length≤2*l.length
  | []=>by simp [evsN]
  | x::l=>by
    have ih:=evs_len cs n l
    have e:evsN cs n (x::l)=((if (ctOf cs x).f=n then [x.t] else []) ++ (if (ctOf cs x).t=n then [arrOf cs x] else [])) ++ evsN cs n l:=rfl
    rw [e,List.length_append,List.length_append,List.length_cons]
    have h1:(if (ctOf cs x).f=n then [x.t] else []).length≤1:=by split <;> simp
    have h2:(if (ctOf cs x).t=n then [arrOf cs x] else []).length≤1:=by split <;> simp
    omega
theorem nodup_le {a b:List Int} (hn:a.Nodup) (h:∀ x∈a,x∈b):a.length≤b.length:=by
  induction a generalizing b with
  | nil=>simp
  | cons x a ih =>
    obtain ⟨h1,h2⟩:=List.nodup_cons.1 hn
    have hx:=h x (by simp)
    have:=ih h2 (b:=b.erase x) (fun y hy=>(List.mem_erase_of_ne (fun e=>h1 (by rw [← e]; exact hy))).2 (h y (by simp [hy])))
    rw [List.length_erase_of_mem hx] at this
    have:=List.length_pos_of_mem hx
    simp only [List.length_cons];omega
theorem evt_len (cs:List Ct) (n:Int) (l:List Sh):(evtN cs n l).length≤2*l.length:=by
  obtain ⟨h1,h2⟩:=evtN_sa cs n l
  exact Nat.le_trans (nodup_le (h1.imp (fun h=>by omega)) (fun x hx=>(h2 x).1 hx)) (evs_len cs n l)
theorem sp2_step {F:Int→Int} {T:List Int} {i:Nat} {x c:Int} (h:T[i]?=some x):sp2 F c (T.drop i)=(if F x≠c∧0<F x then [((x,nxtF F (F x) (T.drop (i+1))),F x)] else []) ++ sp2 F (F x) (T.drop (i+1)):=by
  obtain ⟨hi,e⟩:=List.getElem?_eq_some_iff.1 h
  rw [List.drop_eq_getElem_cons hi,e]
  rfl
theorem nxt_step {F:Int→Int} {T:List Int} {k:Nat} {y v:Int} (h:T[k]?=some y):nxtF F v (T.drop k)=if F y=v then nxtF F v (T.drop (k+1)) else y:=by
  obtain ⟨hi,e⟩:=List.getElem?_eq_some_iff.1 h
  rw [List.drop_eq_getElem_cons hi,e]
  rfl
end Go.Step
namespace Go.Eng
variable {C:Cx} {D:List Deferred} {R H:List PH} {L:Env} {K:List It}
theorem C3 {ps ls done:List Nat} {i:Nat} {rest:Pl} {all:Array Oper} {t T:TypeId} {x y:Operand} {ty:TypeId} {pos:String} {aft:Array Edge} {g:Option (Nat × Bool)} {b:Nat} {c:Array Value} {vs:List Value} {H':List PH} (h:DJ C D R [] (sng b (.cells vs.toArray T (0,0))::H') L all (i::done) ps (i::ls) rest K) (ho:all[i]?=some ⟨none,.store t x y,ty,pos,aft,g⟩:=by exact rfl) (h1:evalE L x=some (.pointer (some ⟨b,0,none⟩)):=by exact rfl) (h2:evalE L y=some (.agg vs.toArray):=by exact rfl) (h3:Take (sng b (.cells c T (0,0))) H H':=by exact takeZ) (h4:∀ v∈vs,v.oneCell'=true:=by (repeat (first|exact (fun v hv=>absurd hv List.not_mem_nil)|(refine List.forall_mem_cons.2 ⟨?_,?_⟩; (focus (first|exact rfl|assumption))))); first|done|fail) (h5:szP C.P t=some vs.length:=by exact rfl) (h6:c.size=vs.length:=by exact rfl) (hg:wantE all L ⟨none,.store t x y,ty,pos,aft,g⟩=some true:=by exact rfl):DJ C D R [] H L all done ps ls (.l i .b rest) K:=
  CF (FW ho (DV h1 h2 h3 h4 h5 h6) hg rfl (fun _ _ ⟨_,e⟩ w hw=>by subst e; exact hw.sel Sel.nil) (fun _ _ ⟨_,e⟩=>by subst e; exact h))
end Go.Eng
namespace Go.Proofs.YtjehnjhkcmobcaaGreat
open Go.Eng Go.Step
set_option maxRecDepth 100000
set_option maxHeartbeats 64000000
theorem has_spec (ω:PH) (v:Value) (l:List Sh) (c t:Int) (hv:ShAt ω v l) (hll:l.length≤1000000):Ans Tryz.prog (fv 116) [v,int c,int t] [ω] (fun r=>r=.bool (decide ((c,t)∈ticksS l))):=by
 obtain ⟨q,cc,rfl,hr⟩:=hv.val encX_len
 refine spec_in (cap:=[]) Tryz.func116 rfl rfl Tryz.ntmps116 rfl envZ (fun N β=>?_)
 refine Af5 ?_
 refine BA [0,1,2] (0:Nat) (fun k=>k≤l.length∧(c,t)∉(ticksS l).take k) (fun k=>[(7,int k)]) (fun _=>[]) (fun k=>l.length-k) pickZ ⟨by omega,by simp⟩ covZ selZ ?_
 rintro k ⟨hk,hI⟩
 by_cases hlt:k<l.length
 rotate_left
 ·have e:(ticksS l).take k=ticksS l:=List.take_of_length_le (by unfold ticksS; rw [List.length_map]; omega)
  rw [e] at hI;rw [decide_eq_false hI];refine Aha ?_;exact A3 ⟨rfl,rfl⟩
 have hx:=List.getElem?_eq_getElem hlt
 have htk:=ticks_at hx
 obtain ⟨b6,o6,rfl,hrx,x0,x1,x2⟩:=shRow hr hx
 generalize l[k]=x at hx hrx x0 x1 x2 htk
 obtain ⟨xc,xt,xn⟩:=x
 dsimp only at hrx x0 x1 x2 htk
 by_cases h1:xc=c
 ·by_cases h2:xt=t
  ·have hm:(c,t)∈ticksS l:=by rw [← h1,← h2]; exact List.mem_of_getElem? htk
   rw [decide_eq_true hm];refine Af6 ?_;refine CQ ?_;refine Afd ?_;refine CQ ?_;refine AR ?_;refine Aba ?_;exact A3 ⟨rfl,rfl⟩
  ·refine AC ?_
   refine Aea ?_;refine Aa9 ?_;refine Aay ?_;refine Aer ?_;refine CQ ?_;refine Afd ?_;refine CE ?_;refine Agq ?_
   exact AT (k+1) ⟨by omega,not_take htk hI (fun e=>h2 (Prod.mk.inj e).2.symm)⟩ (by omega) covZ selZ
 ·refine AC ?_
  refine Aea ?_;refine Aa9 ?_;refine Aay ?_;refine Aer ?_;refine CE ?_;refine Abs ?_;refine Afs ?_
  exact AT (k+1) ⟨by omega,not_take htk hI (fun e=>h1 (Prod.mk.inj e).1.symm)⟩ (by omega) covZ selZ
theorem stored54_spec (ρ τ ω:PH) (pq pc:Option Addr) (kq kc:Nat) (qs:List Int) (cs:List Ct) (hc:CtAt τ (.slice pc cs.length kc) cs) (v:Value) (l:List Sh) (n t:Int) (hv:ShAt ω v l) (hll:l.length≤1000000) (hok:∀ x∈l,ShB cs x) :
  Ans Tryz.prog (fv 115) [.agg #[.slice pq qs.length kq,.slice pc cs.length kc],v,int n,int t] [τ,ω] (fun r=>r=int (haveS cs n t l)):=by
 obtain ⟨q,cc,rfl,hr⟩:=hv.val encX_len
 have hrc:=rowN encC_len hc
 refine spec_in (cap:=[]) Tryz.func115 rfl rfl Tryz.ntmps115 rfl envZ (fun N β=>?_)
 refine Aa ?_;refine BH (BO rfl) rfl rfl rfl ?_;rintro _ _ ⟨b4,rfl,rfl⟩;refine AW (ρ:=sng b4 _) takeZ ?_
 have cp:=rdB b4 25 [.slice pq qs.length kq,.slice pc cs.length kc]
 have cp0:=rdC cp 0
 have cp1:=rdC cp 1
 refine Aaa ?_;refine Af5 ?_
 refine BA [1,2,3,4] (0:Nat) (fun k=>k≤l.length) (fun k=>[(10,int k),(9,int (haveS cs n t (l.take k)))]) (fun _=>[]) (fun k=>l.length-k) pickZ (by omega) covZ selZ ?_
 rintro k hk
 by_cases hlt:k<l.length
 rotate_left
 ·rw [List.take_of_length_le (by omega)]
  refine Aci ?_;refine Aca ?_;exact A3 ⟨rfl,rfl⟩
 have hx:=List.getElem?_eq_getElem hlt
 obtain ⟨y,y1,y2,y3,y4,y5,y6⟩:=hok _ (List.getElem_mem hlt)
 have hsn:=haveS_snoc cs n t hx
 have hbd:=haveS_bd cs n t (l.take k) (fun z hz=>(hok z (List.mem_of_mem_take hz)).n)
 have hlk:(l.take k).length≤1000000:=by rw [List.length_take]; omega
 obtain ⟨b6,o6,rfl,hrx,x0,x1,x2⟩:=shRow hr hx
 generalize l[k]=x at hx y1 y2 y3 y4 y5 hsn hrx x0 x1 x2
 obtain ⟨i,hi⟩:=Int.eq_ofNat_of_zero_le y3.1
 rw [hi,Int.toNat_natCast] at y1
 obtain ⟨b9,o9,ec,hrd9⟩:=ctRow hrc y1
 have harr:arrOf cs x=x.t+1+y.g:=by unfold arrOf; rw [y2]
 unfold have1 at hsn;rw [y2,harr] at hsn
 obtain ⟨xc,xt,xn⟩:=x
 dsimp only at hi y3 y4 y5 hsn hrx x0 x1 x2
 subst hi;subst ec;refine Ad9 ?_
 refine DR (X:=Nat) [1,2,3,4,9,10] (fun _=>True) (fun x=>[(11,.pointer (some ⟨x,0,none⟩))]) (fun x=>[sng x (.cells #[int y.f,int y.t,int y.s,int y.e,int y.r,int y.g,int y.l] 114 (0,0))]) pickZ ?_ ?_
 ·refine A6 (.q 0 (.q 1 (.q 2 (.q 3 (.q 4 (.q 5 (.q 6 (.q 7 (.q 8 (.l 9 .e (.l 10 .b .nil))))))))))) [] rfl (by kernel_rfl) Sel.nil ?_
  refine Aau ?_;refine Agk ?_;refine BB ?_;refine BJ ?_;refine C5 ?_; rintro _ _ ⟨b,rfl,rfl⟩
  focus ((refine C3 ?_))
  refine A7 ?_;exact B5 _ trivial covZ selZ
 rintro b11 _
 dsimp only
 rcases (show (y.t=n∧xt+1+y.g≤t)∨(y.t=n∧¬ xt+1+y.g≤t)∨(¬ y.t=n) by omega) with ⟨a1,a2⟩|⟨a1,a2⟩|a1
 ·rcases (show (y.f=n∧xt≤t)∨(y.f=n∧¬ xt≤t)∨(¬ y.f=n) by omega) with ⟨c1,c2⟩|⟨c1,c2⟩|c1
  ·rw [if_pos ⟨a1,a2⟩,if_pos ⟨c1,c2⟩] at hsn
   refine Acp ?_
   refine A6 P4Z [] rfl (by kernel_rfl) selZ ?_
   refine Acl ?_;refine Ag3 ?_;refine Ag4 ?_;refine AI ?_;refine ES ?_;refine Adg ?_;refine Af7 ?_;refine Adv ?_;refine Aey ?_;refine Afd ?_;refine C9 ?_;refine Aez ?_;refine Af7 ?_;refine CP ?_;refine Adb ?_
   refine AT (k+1) (by omega) (by omega) ?_ selZ
   rw [hsn,show haveS cs n t (l.take k)+(xn-xn)=haveS cs n t (l.take k)+xn-xn by omega]
   exact covZ
  ·omega
  ·rw [if_pos ⟨a1,a2⟩,if_neg (fun h=>c1 h.1)] at hsn
   refine Acp ?_
   refine A6 P4Z [] rfl (by kernel_rfl) selZ ?_
   refine Acl ?_;refine Ag3 ?_;refine Ag4 ?_;refine AI ?_;refine ES ?_;refine Adg ?_;refine Af7 ?_;refine Adv ?_;refine Ach ?_;refine CE ?_;refine Abs ?_;refine Afs ?_
   refine AT (k+1) (by omega) (by omega) ?_ selZ
   rw [hsn,show haveS cs n t (l.take k)+(xn-0)=haveS cs n t (l.take k)+xn by omega]
   exact covZ
 ·rcases (show (y.f=n∧xt≤t)∨(y.f=n∧¬ xt≤t)∨(¬ y.f=n) by omega) with ⟨c1,c2⟩|⟨c1,c2⟩|c1
  ·rw [if_neg (fun h=>a2 h.2),if_pos ⟨c1,c2⟩] at hsn
   refine Acp ?_
   refine A6 P4Z [] rfl (by kernel_rfl) selZ ?_
   refine Acl ?_;refine Ag3 ?_;refine Ag4 ?_;refine AI ?_;refine DZ ?_;refine Agl ?_;refine Aey ?_;refine Afd ?_;refine C9 ?_;refine Aez ?_;refine Af7 ?_;refine CP ?_;refine Adb ?_
   refine AT (k+1) (by omega) (by omega) ?_ selZ
   rw [hsn,show haveS cs n t (l.take k)+(0-xn)=haveS cs n t (l.take k)-xn by omega]
   exact covZ
  ·rw [if_neg (fun h=>a2 h.2),if_neg (fun h=>c2 h.2)] at hsn
   refine Acp ?_
   refine A6 P4Z [] rfl (by kernel_rfl) selZ ?_
   refine Acl ?_;refine Ag3 ?_;refine Ag4 ?_;refine AI ?_;refine DZ ?_;refine Agl ?_;refine Aey ?_;refine Afd ?_;refine DB ?_;refine Agq ?_
   refine AT (k+1) (by omega) (by omega) ?_ selZ
   rw [hsn,show haveS cs n t (l.take k)+(0-0)=haveS cs n t (l.take k) by omega]
   exact covZ
  ·rw [if_neg (fun h=>a2 h.2),if_neg (fun h=>c1 h.1)] at hsn
   refine Acp ?_
   refine A6 P4Z [] rfl (by kernel_rfl) selZ ?_
   refine Acl ?_;refine Ag3 ?_;refine Ag4 ?_;refine AI ?_;refine DZ ?_;refine Agl ?_;refine Ach ?_;refine CE ?_;refine Abs ?_;refine Afs ?_
   refine AT (k+1) (by omega) (by omega) ?_ selZ
   rw [hsn,show haveS cs n t (l.take k)+(0-0)=haveS cs n t (l.take k) by omega]
   exact covZ
 ·rcases (show (y.f=n∧xt≤t)∨(y.f=n∧¬ xt≤t)∨(¬ y.f=n) by omega) with ⟨c1,c2⟩|⟨c1,c2⟩|c1
  ·rw [if_neg (fun h=>a1 h.1),if_pos ⟨c1,c2⟩] at hsn
   refine Acp ?_
   refine A6 P4Z [] rfl (by kernel_rfl) selZ ?_
   refine Acl ?_;refine C7 ?_;refine Af8 ?_;refine Ad ?_;refine Ab8 ?_;refine Aey ?_;refine Afd ?_;refine C9 ?_;refine Aez ?_;refine Af7 ?_;refine CP ?_;refine Adb ?_
   refine AT (k+1) (by omega) (by omega) ?_ selZ
   rw [hsn,show haveS cs n t (l.take k)+(0-xn)=haveS cs n t (l.take k)-xn by omega]
   exact covZ
  ·rw [if_neg (fun h=>a1 h.1),if_neg (fun h=>c2 h.2)] at hsn
   refine Acp ?_
   refine A6 P4Z [] rfl (by kernel_rfl) selZ ?_
   refine Acl ?_;refine C7 ?_;refine Af8 ?_;refine Ad ?_;refine Ab8 ?_;refine Aey ?_;refine Afd ?_;refine DB ?_;refine Agq ?_
   refine AT (k+1) (by omega) (by omega) ?_ selZ
   rw [hsn,show haveS cs n t (l.take k)+(0-0)=haveS cs n t (l.take k) by omega]
   exact covZ
  ·rw [if_neg (fun h=>a1 h.1),if_neg (fun h=>c1 h.1)] at hsn
   refine Acp ?_
   refine A6 P4Z [] rfl (by kernel_rfl) selZ ?_
   refine Acl ?_;refine C7 ?_;refine Af8 ?_;refine Ad ?_;refine Ab8 ?_;refine Ach ?_;refine CE ?_;refine Abs ?_;refine Afs ?_
   refine AT (k+1) (by omega) (by omega) ?_ selZ
   rw [hsn,show haveS cs n t (l.take k)+(0-0)=haveS cs n t (l.take k) by omega]
   exact covZ
theorem checkSh54_spec {ρ τ σ υ:PH} (ω:PH) {pq pc pb ph:Option Addr} {kq kc kb kh:Nat} {qs:List Int} {cs:List Ct} {bs:List Bk} {hs:List Hd} (hT:TbAt ρ τ σ υ pq pc pb ph kq kc kb kh qs cs bs hs) (v:Value) (l:List Sh) (hv:ShAt ω v l) (hll:l.length≤1000000) (hbl:bs.length≤1000) :
  Ans Tryz.prog (fv 50) [.agg #[.slice pq qs.length kq,.slice pc cs.length kc,.slice pb bs.length kb,.slice ph hs.length kh],v] [ρ,τ,σ,υ,ω] (fun r=>r=int (firstE (rsvE cs bs l) l.length)):=by
 obtain ⟨q,cc,rfl,hr⟩:=hv.val encX_len
 have hrc:=hT.rc
 refine spec_in (cap:=[]) Tryz.func50 rfl rfl Tryz.ntmps50 rfl envZ (fun N β=>?_)
 refine Aa ?_;refine BH (BO rfl) rfl rfl rfl ?_;rintro _ _ ⟨b1,rfl,rfl⟩;refine AW (ρ:=sng b1 _) takeZ ?_
 have ct:=rdB b1 29 [.slice pq qs.length kq,.slice pc cs.length kc,.slice pb bs.length kb,.slice ph hs.length kh]
 have ct0:=rdC ct 0
 have ct1:=rdC ct 1
 have ct2:=rdC ct 2
 have ct3:=rdC ct 3
 have ctp:=rdQ (xs:=[_,_]) ct
 refine Adt ?_
 refine BA [1,2] (0:Nat) (fun k=>k≤l.length∧firstE (rsvE cs bs l) k=0) (fun k=>[(5,int k)]) (fun _=>[]) (fun k=>l.length-k) pickZ ⟨by omega,rfl⟩ covZ selZ ?_
 rintro k ⟨hk,hI⟩
 by_cases hlt:k<l.length
 rotate_left
 ·have hke:k=l.length:=by omega
  subst hke;refine Aha ?_
  exact AO (res1 rfl rfl) rsubZ selZ ⟨rfl,by rw [hI]⟩
 have hx:=List.getElem?_eq_getElem hlt
 have hE:=rsvE_at (cs:=cs) (bs:=bs) hx
 obtain ⟨b6,o6,rfl,hrx,x0,x1,x2⟩:=shRow hr hx
 generalize l[k]=x at hx hrx x0 x1 x2 hE
 clear x0 x1 x2
 have hhit:=fun (e:Int) (he:e≠0) (hE:rsvE cs bs l k=e)=>(firstE_hit hI (by rw [hE]; exact he) _ hlt).trans hE
 have hbad:∀ e:Int,e≠0→rsv1 cs x=e→firstE (rsvE cs bs l) l.length=e:=fun e he h=>hhit e he (by rw [hE,if_pos (by rw [h]; exact he),h])
 have hr0:rsv1 cs x=if x.c<0∨(cs.length:Int)≤x.c then 2 else match cs[x.c.toNat]? with
  | none=>2
  | some c=>if x.t<c.s∨c.e≤x.t∨x.n<1∨c.r<x.n then 2 else 0:=rfl
 obtain ⟨xc,xt,xn⟩:=x
 dsimp only at hrx hr0 hE
 refine Ac7 ?_;refine Abm ?_;refine A4 ?_; rintro _ _ ⟨b,rfl,rfl⟩;refine AY ?_; rintro _ _ ⟨rfl,rfl⟩;refine Af9 ?_
 revert b; intro b7
 by_cases h0:xc<0
 ·have hh:=hbad 2 (by decide) (by rw [hr0,if_pos (.inl h0)])
  rw [hh];refine BD ?_;refine Abs ?_;refine Abx ?_;refine Aba ?_;exact A3 ⟨rfl,rfl⟩
 by_cases h1:(cs.length:Int)≤xc
 ·have hh:=hbad 2 (by decide) (by rw [hr0,if_pos (.inr h1)])
  rw [hh];refine Adk ?_;refine Acx ?_;refine CX ?_;refine Aeo ?_;exact A3 ⟨rfl,rfl⟩
 obtain ⟨i,hi⟩:=Int.eq_ofNat_of_zero_le (show 0≤xc by omega)
 have hil:i<cs.length:=by omega
 have hy:=List.getElem?_eq_getElem hil
 have hr1:rsv1 cs ⟨xc,xt,xn⟩=if xt<cs[i].s∨cs[i].e≤xt∨xn<1∨cs[i].r<xn then 2 else 0:=by
  rw [hr0,if_neg (by omega),hi,Int.toNat_natCast,hy]
 obtain ⟨b9,o9,ec,hrd9⟩:=ctRow hrc hy
 generalize cs[i]=y at hy hr1 hrd9
 subst hi;subst ec
 by_cases h2:xt<y.s∨y.e≤xt∨xn<1∨y.r<xn
 ·rw [if_pos h2] at hr1
  rw [hbad 2 (by decide) hr1]
  by_cases k1:xt<y.s
  ·refine A0 ?_
   refine Aaj ?_;refine Agb ?_;refine A4 ?_; rintro _ _ ⟨b,rfl,rfl⟩;refine AY ?_; rintro _ _ ⟨rfl,rfl⟩;refine Afg ?_;refine BD ?_;refine Ad2 ?_;refine Acq ?_;refine Aft ?_;exact A3 ⟨rfl,rfl⟩
  by_cases k2:y.e≤xt
  ·refine A0 ?_
   refine Aaj ?_;refine Agb ?_;refine A4 ?_; rintro _ _ ⟨b,rfl,rfl⟩;refine AY ?_; rintro _ _ ⟨rfl,rfl⟩;refine Ahe ?_;refine CX ?_;refine AN ?_;refine Acq ?_;refine Aft ?_;exact A3 ⟨rfl,rfl⟩
  by_cases k3:xn<1
  ·refine A0 ?_
   refine Aaj ?_;refine Agb ?_;refine A4 ?_; rintro _ _ ⟨b,rfl,rfl⟩;refine AY ?_; rintro _ _ ⟨rfl,rfl⟩;refine Ahe ?_;refine Ab7 ?_;refine BD ?_;refine AN ?_;refine Aft ?_;exact A3 ⟨rfl,rfl⟩
  have k4:y.r<xn:=by omega
  refine Adk ?_;refine Agb ?_;refine A4 ?_; rintro _ _ ⟨b,rfl,rfl⟩;refine AY ?_; rintro _ _ ⟨rfl,rfl⟩;refine Ahe ?_;refine Ahc ?_;refine Aad ?_;refine Ag0 ?_;exact A3 ⟨rfl,rfl⟩
 rw [if_neg h2] at hr1
 rw [if_neg (fun hh=>hh hr1)] at hE
 have k1:¬ xt<y.s:=by omega
 have k2:¬ y.e≤xt:=by omega
 have k3:¬ xn<1:=by omega
 have k4:¬ y.r<xn:=by omega
 refine Adk ?_;refine Agb ?_;refine A4 ?_; rintro _ _ ⟨b,rfl,rfl⟩;refine AY ?_; rintro _ _ ⟨rfl,rfl⟩;refine Ahe ?_;refine Ahc ?_;refine Aad ?_;refine Aei ?_;refine Acv ?_
 revert b; intro b8
 skip
 refine BA [1,2,5,6] (0:Nat) (fun j=>j≤k∧(l.take j).any (sameSl ⟨i,xt,xn⟩)=false) (fun j=>[(8,int j)]) (fun _=>[sng b7 (.cells #[int (i:Int),int xt,int xn] 62 (0,0))]) (fun j=>k-j) pickZ ⟨by omega,rfl⟩ covZ selZ ?_
 rintro j ⟨hj,hJ⟩
 by_cases hjl:j<k
 ·have hz:=List.getElem?_eq_getElem (show j<l.length by omega)
  obtain ⟨b10,o10,ez,hrz,z0,z1,z2⟩:=shRow hr hz
  have hzm:l[j]∈l.take k:=List.mem_take_iff_getElem.2 ⟨j,by omega,rfl⟩
  simp only [Option.some.injEq,Addr.mk.injEq,and_true] at ez
  obtain ⟨rfl,rfl⟩:=ez
  generalize l[j]=w at hz hrz z0 z1 z2 hzm
  obtain ⟨wc,wt,wn⟩:=w
  dsimp only at hrz z0 z1 z2
  by_cases g1:wc=(i:Int)
  ·by_cases g2:wt=xt
   ·have hany:(l.take k).any (sameSl ⟨i,xt,xn⟩)=true:=List.any_eq_true.2 ⟨_,hzm,by unfold sameSl; exact decide_eq_true ⟨g1.symm,g2.symm⟩⟩
    rw [hany,Bool.true_or,if_pos rfl] at hE
    rw [hhit 14 (by decide) hE]
    refine Aav ?_;refine Agi ?_
    refine A6 P5Z [] rfl (by kernel_rfl) selZ ?_
    refine Ab1 ?_;refine Adq ?_;refine Ag3 ?_;refine Aau ?_;refine DP ?_;refine Agr ?_;exact A3 ⟨rfl,rfl⟩
   ·refine AC ?_
    refine Aay ?_;refine Agi ?_
    refine A6 P5Z [] rfl (by kernel_rfl) selZ ?_
    refine Ab1 ?_;refine Adq ?_;refine Ag3 ?_;refine Aau ?_;refine C7 ?_;refine BG ?_;refine Aee ?_
    exact AT (j+1) ⟨by omega,any_not hz hJ (decide_eq_false (fun h=>g2 h.2.symm))⟩ (by omega) covZ selZ
  ·refine AC ?_
   refine Aay ?_;refine Agi ?_
   refine A6 P5Z [] rfl (by kernel_rfl) selZ ?_
   refine Ab1 ?_;refine Adq ?_;refine C7 ?_;refine Ac2 ?_;refine BM ?_;refine Aee ?_
   exact AT (j+1) ⟨by omega,any_not hz hJ (decide_eq_false (fun h=>g1 h.1.symm))⟩ (by omega) covZ selZ
 have hje:j=k:=by omega
 rw [hje] at hJ;rw [hJ,Bool.false_or] at hE
 have hbz:=refBusy_spec σ _ bs (i:Int) hT.hb hbl
 refine Aav ?_;refine Abv ?_;refine Ab4 ?_;refine BV hbz rfl rfl rdZ rfl rfl ?_;rintro w χb hOb
 have hSb:SlE encS 2 χb w (busyL bs i):=hOb.at
 obtain ⟨pw,kw,rfl⟩:=hOb.form
 have hbll:=busyL_len bs i
 have hrb:=rowN encS_len hSb
 refine Aaa ?_;refine Abw ?_
 refine BA [1,2,5,6,9] (0:Nat) (fun j=>j≤(busyL bs i).length∧((busyL bs i).take j).any (fun s=>decide (s.1≤xt) && decide (xt<s.2))=false) (fun j=>[(10,int j)]) (fun _=>[sng b7 (.cells #[int (i:Int),int xt,int xn] 62 (0,0)),χb]) (fun j=>(busyL bs i).length-j) pickZ ⟨by omega,rfl⟩ covZ selZ ?_
 rintro m ⟨hm,hM⟩
 by_cases hml:m<(busyL bs i).length
 ·have hs:=List.getElem?_eq_getElem hml
  obtain ⟨b12,o12,rfl,hrs,s0,s1⟩:=spRow hrb hs
  have hsm:=List.getElem_mem hml
  generalize (busyL bs i)[m]=s at hs hrs s0 s1 hsm
  obtain ⟨sa,sb⟩:=s
  dsimp only at hrs s0 s1
  by_cases g1:sa≤xt
  ·by_cases g2:xt<sb
   ·have hbk:bookedB bs i xt=true:=List.any_eq_true.2 ⟨_,hsm,by simp [g1,g2]⟩
    rw [hbk,if_pos rfl] at hE
    rw [hhit 14 (by decide) hE]
    refine Ad9 ?_
    refine A6 P5Z [] rfl (by kernel_rfl) selZ ?_
    refine Ab1 ?_;refine Adq ?_;refine ES ?_;refine Afy ?_;refine Ado ?_;refine D6 ?_;refine Agr ?_;exact A3 ⟨rfl,rfl⟩
   ·refine AC ?_
    refine Aea ?_;refine Agi ?_
    refine A6 P5Z [] rfl (by kernel_rfl) selZ ?_
    refine Ab1 ?_;refine Adq ?_;refine ES ?_;refine Afy ?_;refine Ado ?_;refine DK ?_;refine BG ?_;refine Aee ?_
    exact AT (m+1) ⟨by omega,any_not hs hM (by simp [g2])⟩ (by omega) covZ selZ
  ·refine AC ?_
   refine Aea ?_;refine Agi ?_
   refine A6 P5Z [] rfl (by kernel_rfl) selZ ?_
   refine Ab1 ?_;refine Adq ?_;refine DZ ?_;refine Ac2 ?_;refine BM ?_;refine Aee ?_
   exact AT (m+1) ⟨by omega,any_not hs hM (by simp [g1])⟩ (by omega) covZ selZ
 have hbk:bookedB bs i xt=false:=by
  rw [List.take_of_length_le (by omega)] at hM
  exact hM
 rw [hbk,if_neg (by simp)] at hE
 refine Aci ?_;refine Aa2 ?_
 exact AT (k+1) ⟨by omega,firstE_ok hI hE⟩ (by omega) covZ selZ
end Go.Proofs.YtjehnjhkcmobcaaGreat
namespace Go.Proofs.YtjehnjhkcmobcaaGreat
open Go.Eng Go.Flow
set_option maxRecDepth 100000
set_option maxHeartbeats 64000000
def encA (a:Arc):List Value:=[int a.f,int a.t,int a.c]
theorem encA_len (a:Arc):(encA a).length=3:=rfl
abbrev ArcsAt (ρ:PH) (v:Value) (l:List Arc):Prop:=SlE encA 3 ρ v l
theorem arcRow {ρ:PH} {p:Option Addr} {l:List Arc} (h:RowsE encA 3 ρ p l) {i:Nat} {x:Arc} (hx:l[i]?=some x) :
  ∃ b o,p=some ⟨b,o,none⟩∧RdN ρ b (o+i*3) [int x.f,int x.t,int x.c]∧rdc ρ b (o+i*3)=some (int x.f)∧rdc ρ b (o+i*3+1)=some (int x.t)∧rdc ρ b (o+i*3+2)=some (int x.c):=by
 obtain ⟨b,o,e,hr⟩:=h i x hx
 exact ⟨b,o,e,hr,hr.get0,hr.get (j:=1) rfl,hr.get (j:=2) rfl⟩
theorem inside_spec (k n:Int):Ans Tryz.prog (fv 124) [int k,int n] [] (fun v=>(v=.bool true∧0≤k∧k<n)∨(v=.bool false∧(k<0∨n≤k))):=by
 refine spec_in (cap:=[]) Tryz.func124 rfl rfl Tryz.ntmps124 rfl envZ (fun N β=>?_)
 repeat' (first
  | (refine AB ?_)
  | (refine AD ?_)
  | (refine AR ?_)
  | (refine AN ?_)
  | (refine AC ?_)
  | (refine AA ?_)
  | (refine AE ?_)
  | (refine AH rfl rfl rfl ?_)
  | (focus ((refine CU rfl rfl (cmp_lt _ _) rfl rfl (fun h=>?_) (fun h=>?_))))
  | (focus ((refine CU rfl rfl (cmp_le _ _) rfl rfl (fun h=>?_) (fun h=>?_))))
  | fail)
 all_goals refine AO (res1 rfl rfl) rsubZ selZ ⟨rfl,?_⟩
 ·exact .inl ⟨rfl,by omega⟩
 ·exact .inr ⟨rfl,by omega⟩
 ·exact .inr ⟨rfl,by omega⟩
theorem ends_spec (n s t:Int):Ans Tryz.prog (fv 63) [int n,int s,int t] [] (fun v=>v=int (if okEnds n s t then 0 else 2)):=by
 refine spec_in (cap:=[]) Tryz.func63 rfl rfl Tryz.ntmps63 rfl envZ (fun N β=>?_)
 repeat' (first
  | (refine AB ?_)
  | (refine AD ?_)
  | (refine AR ?_)
  | (refine AN ?_)
  | (refine BN ?_)
  | (refine AC ?_)
  | (refine AA ?_)
  | (refine AE ?_)
  | (refine AJ ?_)
  | (refine AL rfl ?_)
  | (refine AK rfl ?_)
  | (refine AH rfl rfl rfl ?_)
  | (focus ((refine BC (inside_spec _ _) rfl rfl rdZ rfl rfl ?_; rintro v (⟨rfl,h⟩|⟨rfl,h⟩))))
  | (focus ((refine CU rfl rfl (cmp_eq _ _) rfl rfl (fun h=>?_) (fun h=>?_))))
  | fail)
 all_goals refine AO (res1 rfl rfl) rsubZ selZ ⟨rfl,?_⟩
 all_goals first|rw [if_pos (by unfold okEnds; rw [decide_eq_true_eq]; omega)]|rw [if_neg (by unfold okEnds; rw [decide_eq_true_eq]; omega)]
theorem check1_spec (b:Nat) (T:TypeId) (n:Int) (a:Arc):Ans Tryz.prog (.func (.func 123) #[] #[.pointer (some ⟨b,0,none⟩)]) [.agg (encA a).toArray] [sng b (.cells #[int n] T (0,0))] (fun v=>v=.bool (!okArc n a)):=by
 refine spec_in (cap:=[.pointer (some ⟨b,0,none⟩)]) Tryz.func123 rfl rfl Tryz.ntmps123 rfl envZ (fun N β=>?_)
 have hb:rdc (sng b (.cells #[int n] T (0,0))) b 0=some (int n):=by rw [rdc_sng]; rfl
 unfold encA
 repeat' (first
  | (refine AB ?_)
  | (refine AD ?_)
  | (refine AF ?_)
  | (refine AG ?_)
  | (refine AR ?_)
  | (refine AN ?_)
  | (refine BN ?_)
  | (refine AC ?_)
  | (refine AA ?_)
  | (refine AE ?_)
  | (refine AH rfl rfl rfl ?_)
  | (focus ((refine BC (inside_spec _ _) rfl rfl rdZ rfl rfl ?_; rintro v (⟨rfl,h⟩|⟨rfl,h⟩))))
  | (refine CO ?_; rintro _ _ ⟨b,rfl,rfl⟩)
  | (focus ((refine CU rfl rfl (cmp_eq _ _) rfl rfl (fun h=>?_) (fun h=>?_))))
  | (focus ((refine CU rfl rfl (cmp_lt _ _) rfl rfl (fun h=>?_) (fun h=>?_))))
  | fail)
 all_goals refine AO (res1 rfl rfl) rsubZ selZ ⟨rfl,?_⟩
 all_goals first
  | (rw [show okArc n a=true from by unfold okArc; rw [decide_eq_true_eq]; omega]; rfl)
  | (rw [show okArc n a=false from by unfold okArc; rw [decide_eq_false_iff_not]; omega]; rfl)
def idxOf {α:Type} (p:α→Bool) (l:List α):Int:=match l.findIdx? p with
 | some i=>i
 | none=>-1
theorem idxOf_ge {α:Type} (p:α→Bool) (l:List α):(0≤idxOf p l↔l.any p=true):=by
 unfold idxOf
 cases h:l.findIdx? p with
 | none =>
  rw [List.findIdx?_eq_none_iff] at h
  simp; exact h
 | some i =>
  have:=List.findIdx?_isSome (xs:=l) (p:=p)
  rw [h] at this
  simp at this ⊢
  exact this
theorem indexArc_spec (ρ:PH) (v f:Value) (R1:List PH) (l:List Arc) (p:Arc→Bool) (hv:ArcsAt ρ v l) (hl:l.length≤1000000) (hf:∀ a∈l,Ans Tryz.prog f [.agg (encA a).toArray] R1 (fun u=>u=.bool (p a))) :
  Ans Tryz.prog (fv 173) [v,f] (ρ::R1) (fun u=>u=int (idxOf p l)):=by
 obtain ⟨q,c,rfl,hr⟩:=hv.val encA_len
 refine spec_in (cap:=[]) Tryz.func173 rfl rfl Tryz.ntmps173 rfl envZ (fun N β=>?_)
 refine Ad6 ?_
 refine BA [0,1,6,7] (0:Nat) (fun k=>k≤l.length∧∀ x∈l.take k,p x=false) (fun k=>[(8,int k)]) (fun _=>[]) (fun k=>l.length-k) pickZ ⟨by omega,by simp⟩ covZ selZ ?_
 rintro k ⟨hk,hno⟩
 by_cases hlt:k<l.length
 ·have hx:=List.getElem?_eq_getElem hlt
  obtain ⟨b,o,rfl,hA,h0,h1,h2⟩:=arcRow hr hx
  have hfa:=hf l[k] (List.getElem_mem hlt)
  unfold encA at hfa;refine Ac6 ?_;refine Abr ?_;refine Aao ?_;refine Abm ?_
  refine BC (hfa.rsub (R':=R1) (fun _ h=>h)) rfl rfl ?_ rfl rfl ?_
  ·intro σ hσ; left; simp [hσ]
  rintro u rfl;refine AE ?_
  refine jk_if rfl (fun hp=>?_) (fun hp=>?_)
  ·refine AC ?_
   refine Ade ?_;refine Aaa ?_;refine AO (res1 rfl rfl) ?_ selZ ⟨rfl,?_⟩
   ·intro σ hσ; exact hσ
   ·have:l.findIdx? p=some k:=by
     rw [List.findIdx?_eq_some_iff_getElem]
     refine ⟨hlt,hp,fun j hj=>?_⟩
     have:=hno l[j] (List.mem_take_iff_getElem.2 ⟨j,by omega,rfl⟩)
     simp [this]
    unfold idxOf; rw [this]
  ·refine AJ ?_
   refine Abf ?_
   refine AT (k+1) ⟨by omega,fun x hx'=>?_⟩ (by omega) covZ selZ
   rw [List.take_succ_eq_append_getElem hlt] at hx'
   rcases List.mem_append.1 hx' with hx'|hx'
   ·exact hno x hx'
   ·rw [List.mem_singleton.1 hx']; exact hp
 ·refine AC ?_
  refine Afw ?_;refine Aai ?_;refine AO (res1 rfl rfl) ?_ selZ ⟨rfl,?_⟩
  ·intro σ hσ; exact hσ
  ·have hkl:k=l.length:=by omega
   subst hkl;rw [List.take_length] at hno
   have:l.findIdx? p=none:=by rw [List.findIdx?_eq_none_iff]; exact hno
   unfold idxOf; rw [this]
theorem containsArc_spec (ρ:PH) (v f:Value) (R1:List PH) (l:List Arc) (p:Arc→Bool) (hv:ArcsAt ρ v l) (hl:l.length≤1000000) (hf:∀ a∈l,Ans Tryz.prog f [.agg (encA a).toArray] R1 (fun u=>u=.bool (p a))) :
  Ans Tryz.prog (fv 122) [v,f] (ρ::R1) (fun u=>u=.bool (l.any p)):=by
 refine spec_in (cap:=[]) Tryz.func122 rfl rfl Tryz.ntmps122 rfl envZ (fun N β=>?_)
 refine Aai ?_;refine Aay ?_;refine BC (indexArc_spec ρ v f R1 l p hv hl hf) rfl rfl ?_ rfl rfl ?_
 ·intro σ hσ; left; simp at hσ ⊢; right; exact hσ
 rintro u rfl
 have hi:=idxOf_ge p l
 by_cases hc:0≤idxOf p l
 all_goals
  repeat' (first
   | (refine AD ?_)
   | (refine CX ?_)
   | (refine BP ?_)
   | (refine AE ?_)
   | fail)
  refine AO (res1 rfl rfl) (by intro σ hσ; exact hσ) selZ ⟨rfl,?_⟩
 ·rw [hi.1 hc]
 ·have:l.any p=false:=by
   cases h:l.any p with
   | false=>rfl
   | true=>exact absurd (hi.2 h) hc
  rw [this]
theorem check_spec (ρ:PH) (v:Value) (n:Int) (l:List Arc) (hv:ArcsAt ρ v l) (hl:l.length≤1000000) :
  Ans Tryz.prog (fv 62) [int n,v] [ρ] (fun u=>u=int (chk n l)):=by
 obtain ⟨q,c,rfl,hr⟩:=hv.val encA_len
 refine spec_in (cap:=[]) Tryz.func62 rfl rfl Tryz.ntmps62 rfl envZ (fun N β=>?_)
 repeat' (first
  | (refine AB ?_)
  | (refine AD ?_)
  | (refine AF ?_)
  | (refine AR ?_)
  | (refine AN ?_)
  | (refine AU ?_)
  | (refine CL ?_)
  | (refine AC ?_)
  | (refine AA ?_)
  | (refine AE ?_)
  | (refine AJ ?_)
  | (refine AL rfl ?_)
  | (refine AK rfl ?_)
  | (refine AH rfl rfl rfl ?_)
  | (focus ((refine BC (containsArc_spec ρ _ _ [_] l (fun a=>!okArc n a) hv hl (fun a _=>check1_spec _ _ n a)) rfl rfl rdZ rfl rfl ?_; rintro u rfl)))
  | (refine E8 ?_; rintro _ _ ⟨b,rfl,rfl⟩)
  | (focus ((refine CU rfl rfl (cmp_lt _ _) rfl rfl (fun h=>?_) (fun h=>?_))))
  | (focus ((refine jk_if rfl (fun h=>?_) (fun h=>?_))))
  | fail)
 all_goals refine AO (res1 rfl rfl) rsubZ selZ ⟨rfl,?_⟩
 all_goals unfold chk
 ·rw [if_pos (by omega)]
 ·rw [if_neg (by omega),if_pos (by omega)]
 ·rw [if_neg (by omega),if_pos (by omega)]
 ·rename_i h
  rw [if_neg (by omega),if_neg (by omega),if_neg (fun h2=>?_)]
  simp only [List.all_eq_true,List.any_eq_true,Bool.not_eq_true'] at h h2
  obtain ⟨x,hx,e⟩:=h
  rw [h2 x hx] at e
  simp at e
 ·rename_i h
  rw [if_neg (by omega),if_neg (by omega),if_pos ?_]
  rw [List.all_eq_true];rw [List.any_eq_false] at h
  intro x hx
  simpa using h x hx
theorem refCheck_spec (ρ:PH) (v:Value) (n:Int) (l:List Arc) (hv:ArcsAt ρ v l) (hl:l.length≤1000000) :
  Ans Tryz.prog (fv 199) [int n,v] [ρ] (fun u=>u=int (chk n l)):=by
 obtain ⟨q,c,rfl,hr⟩:=hv.val encA_len
 refine spec_in (cap:=[]) Tryz.func199 rfl rfl Tryz.ntmps199 rfl envZ (fun N β=>?_)
 by_cases c1:n<0
 ·refine AC ?_
  refine AA ?_;refine Adz ?_;refine BD ?_;refine Aba ?_
  exact AO (res1 rfl rfl) rsubZ selZ ⟨rfl,by unfold chk; rw [if_pos c1]⟩
 by_cases c2:2000<n∨20000<l.length
 ·have hchk:chk n l=4:=by unfold chk; rw [if_neg c1,if_pos c2]
  repeat' (first
   | (refine AB ?_)
   | (refine AD ?_)
   | (refine AR ?_)
   | (refine AN ?_)
   | (refine AU ?_)
   | (refine A0 ?_)
   | (refine CT ?_)
   | (refine AC ?_)
   | (refine AA ?_)
   | (refine AE ?_)
   | (refine AJ ?_)
   | (refine AL rfl ?_)
   | (refine AK rfl ?_)
   | (refine AH rfl rfl rfl ?_)
   | (focus ((refine CU rfl rfl (cmp_lt _ _) rfl rfl (fun h=>?_) (fun h=>?_))))
   | fail)
  all_goals exact AO (res1 rfl rfl) rsubZ selZ ⟨rfl,by rw [hchk]⟩
 refine Aff ?_;refine Aeb ?_;refine Aah ?_;refine B7 ?_;refine Aao ?_;refine AU ?_;refine Aei ?_;refine Acv ?_
 refine BA [0,1] (0:Nat) (fun k=>k≤l.length∧∀ x∈l.take k,okArc n x=true) (fun k=>[(5,int k)]) (fun _=>[]) (fun k=>l.length-k) pickZ ⟨by omega,by simp⟩ covZ selZ ?_
 rintro k ⟨hk,hno⟩
 by_cases hlt:k<l.length
 ·have hx:=List.getElem?_eq_getElem hlt
  obtain ⟨b,o,rfl,hA,h0,h1,h2⟩:=arcRow hr hx
  by_cases hok:okArc n l[k]=true
  ·have hok':=hok
   unfold okArc at hok';rw [decide_eq_true_eq] at hok'
   obtain ⟨g1,g2,g3,g4,g5,g6,g7⟩:=hok'
   refine Ac7 ?_;refine Abm ?_;refine A4 ?_; rintro _ _ ⟨b,rfl,rfl⟩;refine AY ?_; rintro _ _ ⟨rfl,rfl⟩;refine AE ?_;refine Aas ?_;refine Afu ?_;refine Ahf ?_;refine Acc ?_;refine Aei ?_;refine Aa2 ?_
   refine AT (k+1) ⟨by omega,fun x hx'=>?_⟩ (by omega) covZ selZ
   rw [List.take_succ_eq_append_getElem hlt] at hx'
   rcases List.mem_append.1 hx' with hx'|hx'
   ·exact hno x hx'
   ·rw [List.mem_singleton.1 hx']; exact hok
  ·have hok':=hok
   unfold okArc at hok';rw [decide_eq_true_eq] at hok'
   have hchk:chk n l=2:=by
    unfold chk;rw [if_neg c1,if_neg c2,if_neg]
    intro h
    rw [List.all_eq_true] at h;exact hok (h l[k] (List.getElem_mem hlt))
   repeat' (first
    | (refine AB ?_)
    | (refine AD ?_)
    | (refine AF ?_)
    | (refine AG ?_)
    | (refine A5 ?_)
    | (refine AR ?_)
    | (refine AN ?_)
    | (refine AU ?_)
    | (refine BD ?_)
    | (refine CT ?_)
    | (refine AV ?_)
    | (refine AC ?_)
    | (refine AA ?_)
    | (refine AE ?_)
    | (refine AM ?_)
    | (refine AJ ?_)
    | (refine AL rfl ?_)
    | (refine AH rfl rfl rfl ?_)
    | (refine A4 ?_; rintro _ _ ⟨b,rfl,rfl⟩)
    | (refine AY ?_; rintro _ _ ⟨rfl,rfl⟩)
    | (focus ((refine CU rfl rfl (cmp_eq _ _) rfl rfl (fun h=>?_) (fun h=>?_))))
    | (focus ((refine CU rfl rfl (cmp_lt _ _) rfl rfl (fun h=>?_) (fun h=>?_))))
    | (focus ((refine CU rfl rfl (cmp_le _ _) rfl rfl (fun h=>?_) (fun h=>?_))))
    | fail)
   all_goals first
    | (exfalso; omega)
    | exact AO (res1 rfl rfl) rsubZ selZ ⟨rfl,by rw [hchk]⟩
 ·refine AC ?_
  refine Aea ?_;refine Abv ?_;refine Aai ?_;refine AO (res1 rfl rfl) rsubZ selZ ⟨rfl,?_⟩
  have hkl:k=l.length:=by omega
  subst hkl;rw [List.take_length] at hno;unfold chk
  rw [if_neg c1,if_neg c2,if_pos (by rw [List.all_eq_true]; exact hno)]
theorem refEnds_spec (ρ:PH) (v:Value) (n s t:Int) (l:List Arc) (hv:ArcsAt ρ v l) (hl:l.length≤1000000) :
  Ans Tryz.prog (fv 198) [int n,v,int s,int t] [ρ] (fun u=>u=int (if chk n l≠0 then chk n l else if okEnds n s t then 0 else 2)):=by
 refine spec_in (cap:=[]) Tryz.func198 rfl rfl Tryz.ntmps198 rfl envZ (fun N β=>?_)
 repeat' (first
  | (refine AB ?_)
  | (refine AD ?_)
  | (refine AR ?_)
  | (refine AN ?_)
  | (refine AC ?_)
  | (refine AA ?_)
  | (refine AE ?_)
  | (refine AJ ?_)
  | (refine AL rfl ?_)
  | (refine AK rfl ?_)
  | (refine AH rfl rfl rfl ?_)
  | (focus ((refine BC (refCheck_spec ρ v n l hv hl) rfl rfl rdZ rfl rfl ?_; rintro u rfl)))
  | (focus ((refine CU rfl rfl (cmp_eq _ _) rfl rfl (fun h=>?_) (fun h=>?_))))
  | (focus ((refine CU rfl rfl (cmp_ne _ _) rfl rfl (fun h=>?_) (fun h=>?_))))
  | (focus ((refine CU rfl rfl (cmp_lt _ _) rfl rfl (fun h=>?_) (fun h=>?_))))
  | (focus ((refine CU rfl rfl (cmp_le _ _) rfl rfl (fun h=>?_) (fun h=>?_))))
  | fail)
 all_goals refine AO (res1 rfl rfl) rsubZ selZ ⟨rfl,?_⟩
 ·rw [if_pos (by assumption)]
 all_goals rw [if_neg (by assumption)]
 all_goals first
  | rw [if_pos (by unfold okEnds; rw [decide_eq_true_eq]; omega)]
  | rw [if_neg (by unfold okEnds; rw [decide_eq_true_eq]; omega)]
theorem value_spec (ρ σ:PH) (v u:Value) (s:Int) (l:List Arc) (fl:List Int) (hv:ArcsAt ρ v l) (hu:IntsAt σ u fl) (hl:l.length≤20000) (hfl:fl.length=l.length) (hs:small fl) :
  Ans Tryz.prog (fv 121) [v,u,int s] [ρ,σ] (fun r=>r=int (fval s l fl)):=by
 obtain ⟨q,c,rfl,hr⟩:=hv.val encA_len
 obtain ⟨q2,c2,rfl,hr2⟩:=hu.val Eng.encI_len
 refine spec_in (cap:=[]) Tryz.func121 rfl rfl Tryz.ntmps121 rfl envZ (fun N β=>?_)
 refine Agn ?_
 refine BA [0,1,2,10,11] ((0,0):Nat × Int) (fun x=>x.1≤l.length∧x.2=fval s (l.take x.1) (fl.take x.1)) (fun x=>[(7,int x.2),(12,int x.1)]) (fun _=>[]) (fun x=>l.length-x.1) pickZ ⟨by simp,by simp [fval]⟩ covZ selZ ?_
 rintro ⟨k,y⟩ ⟨hk,hy⟩;simp only at hk hy
 by_cases hlt:k<l.length
 ·have hx:=List.getElem?_eq_getElem hlt
  obtain ⟨b,o,rfl,hA,h0,h1,h2⟩:=arcRow hr hx
  have hx2:=List.getElem?_eq_getElem (show k<fl.length by omega)
  obtain ⟨b2,o2,rfl,g0⟩:=hr2.int hx2
  have hbd:=fval_bd s (l.take k) (fl.take k) (small_take hs k)
  have hlen:(fl.take k).length=k:=by simp; omega
  rw [← hy,hlen] at hbd
  have hx3:=hs fl[k] (List.getElem_mem _)
  have hstep:fval s (l.take (k+1)) (fl.take (k+1))=y+((if l[k].f=s then fl[k] else 0)-(if l[k].t=s then fl[k] else 0)):=by
   rw [take_snoc' hlt,take_snoc' (show k<fl.length by omega),fval_snoc _ _ _ _ _ (by simp; omega),hy]
  repeat' (first
   | (refine AB ?_)
   | (refine AD ?_)
   | (refine AF ?_)
   | (refine AG ?_)
   | (refine BT ?_)
   | (refine A5 ?_)
   | (refine A9 ?_)
   | (refine BD ?_)
   | (refine CB ?_)
   | (refine CP ?_)
   | (refine AV ?_)
   | (refine AC ?_)
   | (refine AA ?_)
   | (refine AE ?_)
   | (refine AM ?_)
   | (refine A2 ?_)
   | (refine AJ ?_)
   | (refine AL rfl ?_)
   | (refine AK rfl ?_)
   | (refine A4 ?_; rintro _ _ ⟨b,rfl,rfl⟩)
   | (refine AY ?_; rintro _ _ ⟨rfl,rfl⟩)
   | (focus ((refine CU rfl rfl (cmp_eq _ _) rfl rfl (fun h=>?_) (fun h=>?_))))
   | fail)
  all_goals refine AT (k+1,_) ⟨by simp only; omega,?_⟩ (by simp only; omega) covZ selZ
  all_goals simp only
  all_goals rw [hstep]
  all_goals (repeat (first|rw [if_pos (by assumption)]|rw [if_neg (by assumption)]))
  all_goals omega
 ·refine AC ?_
  refine Afw ?_;refine Aca ?_;refine AO (res1 rfl rfl) rsubZ selZ ⟨rfl,?_⟩
  rw [hy,List.take_of_length_le (by omega),List.take_of_length_le (by omega)]
theorem capacity_spec (ρ:PH) (v:Value) (n b cp:Nat) (T:TypeId) (l:List Arc) (m:List Bool) (hv:ArcsAt ρ v l) (hl:l.length≤20000) (hok:∀ a∈l,okArc n a=true) (hm:m.length=n) :
  Ans Tryz.prog (fv 66) [v,.slice (some ⟨b,0,none⟩) n cp] [ρ,sng b (.cells (bools m) T (0,0))] (fun r=>r=int (capOf (fun j=>m.getD j false) l)):=by
 obtain ⟨q,c,rfl,hr⟩:=hv.val encA_len
 refine spec_in (cap:=[]) Tryz.func66 rfl rfl Tryz.ntmps66 rfl envZ (fun N β=>?_)
 refine Agn ?_
 refine BA [0,1,8,9] ((0,0):Nat × Int) (fun x=>x.1≤l.length∧x.2=capOf (fun j=>m.getD j false) (l.take x.1)) (fun x=>[(5,int x.2),(10,int x.1)]) (fun _=>[]) (fun x=>l.length-x.1) pickZ ⟨by simp,by simp [capOf]⟩ covZ selZ ?_
 rintro ⟨k,y⟩ ⟨hk,hy⟩;simp only at hk hy
 by_cases hlt:k<l.length
 ·have hx:=List.getElem?_eq_getElem hlt
  obtain ⟨b',o,rfl,hA,h0,h1,h2⟩:=arcRow hr hx
  have hbd:=capOf_bd n (fun j=>m.getD j false) (l.take k) (fun a ha=>hok a (List.mem_of_mem_take ha))
  have hlen:(l.take k).length=k:=by simp; omega
  rw [← hy,hlen] at hbd
  obtain ⟨g1,g2,g3,g4,g5,g6,g7⟩:=okArc_iff.1 (hok l[k] (List.getElem_mem hlt))
  have hstep:capOf (fun j=>m.getD j false) (l.take (k+1))=y+(if m.getD l[k].f.toNat false=true∧m.getD l[k].t.toNat false=false then l[k].c else 0):=by
   rw [take_snoc' hlt,capOf_snoc,hy]
  obtain ⟨f,hf⟩:=Int.eq_ofNat_of_zero_le g1
  obtain ⟨t,ht⟩:=Int.eq_ofNat_of_zero_le g3
  rw [hf,ht] at hA hstep;rw [hf] at g2;rw [ht] at g4
  have e1:m[f]?=some (m.getD f false):=by
   have:f<m.length:=by omega
   simp [this]
  have e2:m[t]?=some (m.getD t false):=by
   have:t<m.length:=by omega
   simp [this]
  simp only [Int.toNat_natCast] at hstep
  cases c1:m.getD f false with
  | false =>
   rw [c1] at e1
   rw [if_neg (by rw [c1]; simp),Int.add_zero] at hstep
   refine Ac4 ?_;refine A4 ?_; rintro _ _ ⟨b,rfl,rfl⟩;refine AY ?_; rintro _ _ ⟨rfl,rfl⟩;refine Aej ?_;refine Aad ?_;refine Adf ?_;refine Adh ?_;refine Abn ?_;refine Abf ?_
   exact AT (k+1,_) ⟨by simp only; omega,hstep.symm⟩ (by simp only; omega) covZ selZ
  | true =>
   rw [c1] at e1
   cases c2:m.getD t false with
   | false =>
    rw [c2] at e2;rw [if_pos ⟨c1,c2⟩] at hstep;refine Ac4 ?_;refine A4 ?_; rintro _ _ ⟨b,rfl,rfl⟩;refine AY ?_; rintro _ _ ⟨rfl,rfl⟩;refine Aej ?_;refine Aad ?_;refine Afn ?_;refine Aaj ?_;refine Adf ?_;refine BN ?_;refine Aez ?_;refine AA ?_;refine Aaj ?_;refine Adv ?_;refine Abf ?_
    exact AT (k+1,_) ⟨by simp only; omega,hstep.symm⟩ (by simp only; omega) covZ selZ
   | true =>
    rw [c2] at e2
    rw [if_neg (by rw [c2]; simp),Int.add_zero] at hstep
    refine Ac4 ?_;refine A4 ?_; rintro _ _ ⟨b,rfl,rfl⟩;refine AY ?_; rintro _ _ ⟨rfl,rfl⟩;refine Aej ?_;refine Aad ?_;refine Afn ?_;refine Aaj ?_;refine Adf ?_;refine BN ?_;refine Aem ?_;refine Abf ?_
    exact AT (k+1,_) ⟨by simp only; omega,hstep.symm⟩ (by simp only; omega) covZ selZ
 ·refine AC ?_
  refine Afw ?_;refine Aca ?_;refine AO (res1 rfl rfl) rsubZ selZ ⟨rfl,?_⟩
  rw [hy,List.take_of_length_le (by omega)]
def encL (x:Lk):List Value:=[int x.k,int x.f,int x.t]
theorem encL_len (x:Lk):(encL x).length=3:=rfl
theorem lkRow {ρ:PH} {p:Option Addr} {l:List Lk} (h:RowsE encL 3 ρ p l) {i:Nat} {x:Lk} (hx:l[i]?=some x) :
  ∃ b o,p=some ⟨b,o,none⟩∧RdN ρ b (o+i*3) [int x.k,int x.f,int x.t]:=by
 obtain ⟨b,o,e,hr⟩:=h i x hx
 exact ⟨b,o,e,hr⟩
def openL (rm:Nat→Int) (l:List Lk):List Lk:=l.filter (fun x=>decide (0<rm x.k))
theorem openL_snoc (rm:Nat→Int) (l:List Lk) (x:Lk):openL rm (l ++ [x])=openL rm l ++ (if 0<rm x.k then [x] else []):=by
 unfold openL;rw [List.filter_append]
 by_cases h:0<rm x.k <;> simp [h]
theorem openL_take {rm:Nat→Int} {l:List Lk} {k:Nat} (h:k<l.length) (hp:0<rm l[k].k):(openL rm l)[(openL rm (l.take k)).length]?=some l[k]:=by
 have e:l=l.take k ++ (l[k]::l.drop (k+1)):=by
  rw [← List.drop_eq_getElem_cons h,List.take_append_drop]
 conv=>lhs; rw [e]
 unfold openL
 rw [List.filter_append,List.getElem?_append_right (by simp)]
 have:List.filter (fun x=>decide (0<rm x.k)) (l[k]::l.drop (k+1))=l[k]::List.filter (fun x=>decide (0<rm x.k)) (l.drop (k+1)):=by
  rw [List.filter_cons,if_pos (by simpa using hp)]
 rw [this]
 have hl:(List.take k (List.take k l ++ l[k]::List.drop (k+1) l))=List.take k l:=by rw [← e]
 rw [hl]
 simp
theorem open_spec (g l:Value) (hl1:l.oneCell'=true) (hg1:g.oneCell'=true) :
  Eng.Spec Tryz.prog (fv 65) [g,l] [] [] (fun v H'=>∃ bl bg,v=.func (.func 126) #[] #[.pointer (some ⟨bl,0,none⟩),.pointer (some ⟨bg,0,none⟩)] ∧
   H'=[sng bl (.cells #[l] 129 (0,0)),sng bg (.cells #[g] 122 (0,0))]):=by
 refine spec_in (cap:=[]) Tryz.func65 rfl rfl Tryz.ntmps65 rfl envZ (fun N β=>?_)
 refine Aa ?_;refine BH (D5 rfl hg1) rfl rfl rfl ?_;rintro _ _ ⟨bg,rfl,rfl⟩;refine BH (D5 rfl hl1) rfl rfl rfl ?_;rintro _ _ ⟨bl,rfl,rfl⟩;refine Afa ?_;refine CL ?_;refine Aaa ?_;exact AO (res1 rfl rfl) rsubZ selZ ⟨bl,bg,rfl,rfl⟩
theorem open_iter (γ:PH) (gb bl bg:Nat) (lv room:Value) (ls:List Lk) (rm:Nat→Int) (Rr:List PH) (hls:SlE encL 3 γ lv ls) (hlen:ls.length≤1000000) (hroom:rdc γ gb 2=some room)
  (hrm:∀ x∈ls,Ans Tryz.prog room [int x.k] Rr (fun v=>v=int (rm x.k))) :
  Iter Tryz.prog (.func (.func 126) #[] #[.pointer (some ⟨bl,0,none⟩),.pointer (some ⟨bg,0,none⟩)])
   ([sng bl (.cells #[lv] 129 (0,0)),sng bg (.cells #[.pointer (some ⟨gb,0,none⟩)] 122 (0,0)),γ] ++ Rr) ((openL rm ls).map (fun x=>[.agg (encL x).toArray])):=by
 intro y S Own Inv Stop Ry hy hyl σ0 h0
 obtain ⟨yl,rfl⟩:=hyl
 obtain ⟨p,c,rfl,hr⟩:=hls.val encL_len
 have bx61_3:=rdB bl 129 [.slice p ls.length c]
 have c1:=rdC bx61_3 0
 have bx62_3:=rdB bg 122 [.pointer (some ⟨gb,0,none⟩)]
 have c2:=rdC bx62_3 0
 simp only [List.cons_append,List.nil_append]
 refine spec_in (cap:=[.pointer (some ⟨bl,0,none⟩),.pointer (some ⟨bg,0,none⟩)]) Tryz.func126 rfl rfl Tryz.ntmps126 rfl envZ (fun N β=>?_)
 refine Acz ?_;refine Afl ?_
 refine BA [0,1,2,6,7] ((0,σ0):Nat × S) (fun x=>x.1≤ls.length∧Inv (openL rm (ls.take x.1)).length x.2) (fun x=>[(8,int x.1)]) (fun x=>Own x.2) (fun x=>ls.length-x.1) pickZ ⟨by simp,by simpa [openL] using h0⟩ covZ Sel.refl ?_
 rintro ⟨k,σ⟩ ⟨hk,hI⟩;simp only at hk hI
 by_cases hlt:k<ls.length
 ·obtain ⟨b',o,rfl,hA⟩:=lkRow hr (List.getElem?_eq_getElem hlt)
  have hrk:=hrm ls[k] (List.getElem_mem hlt)
  have hsn:=openL_snoc rm (ls.take k) ls[k]
  rw [← take_snoc' hlt] at hsn;refine Ac4 ?_;refine A4 ?_; rintro _ _ ⟨b,rfl,rfl⟩;refine AY ?_; rintro _ _ ⟨rfl,rfl⟩;refine Aat ?_
  by_cases hp:0<rm ls[k].k
  ·have hget:=openL_take hlt hp
   have hyk:=hy (openL rm (ls.take k)).length σ [.agg (encL ls[k]).toArray] (by rw [List.getElem?_map,hget]; rfl) hI
   rw [if_pos hp] at hsn
   refine A6 (.q 0 (.q 1 (.q 2 (.q 3 (.q 4 (.q 5 (.l 6 .e (.q 7 (.q 8 (.q 9 (.q 10 (.l 11 .b (.q 12 (.q 13 .nil)))))))))))))) [] rfl (by kernel_rfl) Sel.nil ?_
   refine AQ ?_;refine BE ?_;refine Adl ?_
   refine CF (CC rfl hrk rfl rfl (fun τ hτ=>.inl (by simp [hτ])) rfl rfl ?_)
   rintro _ rfl;refine DY ?_;refine Aan ?_;refine BJ ?_
   refine CF (EQ rfl hyk rfl rfl (Takes.skip Takes.all) (fun τ hτ=>.inl (by simp [hτ])) rfl rfl (fun _ _ _ w hw=>hw.sel Sel.nil) ?_)
   rintro v H' ⟨σ',rfl,⟨rfl,hI'⟩|⟨rfl,hS⟩⟩
   ·refine C8 ?_
    refine Agl ?_;refine Abf ?_
    refine AT (k+1,σ') ⟨by simp only; omega,?_⟩ (by simp only; omega) covZ Sel.left
    simp only;rw [hsn]
    simpa using hI'
   ·refine C8 ?_
    refine Adg ?_
    exact AO (res0 rfl) (fun _ h=>h) Sel.left ⟨σ',rfl,.inr hS⟩
  ·rw [if_neg hp,List.append_nil] at hsn
   refine A6 (.q 0 (.q 1 (.q 2 (.q 3 (.q 4 (.q 5 (.l 6 .e (.q 7 (.q 8 (.q 9 (.q 10 (.q 11 (.q 12 (.q 13 .nil)))))))))))))) [] rfl (by kernel_rfl) Sel.nil ?_
   refine AQ ?_;refine BE ?_;refine Adl ?_
   refine CF (CC rfl hrk rfl rfl (fun τ hτ=>.inl (by simp [hτ])) rfl rfl ?_)
   rintro _ rfl;refine DL ?_;refine AI ?_;refine Abb ?_;refine Ag2 ?_;refine Abf ?_
   refine AT (k+1,σ) ⟨by simp only; omega,?_⟩ (by simp only; omega) covZ (Sel.skip Sel.refl)
   simp only;rw [hsn]; exact hI
 ·refine AC ?_
  refine Afw ?_
  refine C6 (res0 rfl) (fun _ h=>h) Sel.refl ⟨σ,rfl,.inl ?_⟩
  rw [List.take_of_length_le (by omega)] at hI
  simpa using hI
theorem next_spec (bq:Nat) (qv:Value) (x:Value) (k:Nat) (xs:List Value) (ρq:PH) (hq:OwnO 3 1 qv (k+1) (x::xs) ρq) :
  Eng.Spec Tryz.prog (.func (.func 177) #[] #[.pointer (some ⟨bq,0,none⟩)]) [] [] [sng bq (.cells #[qv] 22 (0,0)),ρq]
   (fun v H'=>v=x∧∃ qv',OwnO 3 1 qv' k xs ρq∧qv'.oneCell'=true∧H'=[sng bq (.cells #[qv'] 22 (0,0)),ρq]):=by
 obtain ⟨b,o,cap,rfl,h0,h1⟩:=hq.head
 refine spec_in (cap:=[.pointer (some ⟨bq,0,none⟩)]) Tryz.func177 rfl rfl Tryz.ntmps177 rfl envZ (fun N β=>?_)
 refine Aai ?_;refine Acz ?_;refine HK ?_;refine AF ?_;refine Aaa ?_;refine Acz ?_
 focus ((refine' CW _ rfl rfl rfl _; rotate_left; (apply FB (i:=1); exact rfl; exact rfl; exact rfl; exact rfl; omega)))
 refine BS ?_; rintro _ _ ⟨rfl,rfl⟩;refine AE ?_;refine Aca ?_;exact AO (res1 rfl rfl) rsubZ selZ ⟨rfl,_,h1,rfl,rfl⟩
structure GAt (γ:PH) (gb n:Nat) (outs ins:Nat→List Lk) (room:Value):Prop where
 o:∃ ob c,rdc γ gb 0=some (.slice (some ⟨ob,0,none⟩) n c)∧∀ v,v<n→∃ lv,rdc γ ob v=some lv∧SlE encL 3 γ lv (outs v)
 i:∃ ib c,rdc γ gb 1=some (.slice (some ⟨ib,0,none⟩) n c)∧∀ v,v<n→∃ lv,rdc γ ib v=some lv∧SlE encL 3 γ lv (ins v)
 r:rdc γ gb 2=some room
structure GOk (n:Nat) (outs ins:Nat→List Lk):Prop where
 n1:n≤2000
 len:∀ v,(outs v).length≤40000∧(ins v).length≤40000
 inT:∀ v x,v<n→x∈ins v→x.t=v∧x.f<n∧x.k≤40000
 outF:∀ v x,v<n→x∈outs v→x.f=v∧x.t<n∧x.k≤40000
 same:∀ x:Lk,x.f<n→x.t<n→(x∈outs x.f↔x∈ins x.t)
def opens (n:Nat) (ins:Nat→List Lk) (rm:Nat→Int) (x:Lk):Prop:=x.t<n∧x∈ins x.t∧0<rm x.k
theorem opens_lt {n:Nat} {outs ins:Nat→List Lk} {rm:Nat→Int} (h:GOk n outs ins) (x:Lk) (hx:opens n ins rm x):x.f<n∧x.t<n:=⟨(h.inT x.t x hx.1 hx.2.1).2.1,hx.1⟩
def qInts (q:List Nat):List Value:=q.map (fun (v:Nat)=>int (v:Int))
theorem fillL (n k:Nat) (h:k<n):(List.replicate k (-1:Int) ++ List.replicate (n-k) 0).set k (-1)=List.replicate (k+1) (-1) ++ List.replicate (n-(k+1)) 0:=by
 rw [List.set_append_right _ _ (by simp)]
 simp only [List.length_replicate,Nat.sub_self]
 obtain ⟨m,hm⟩:∃ m,n-k=m+1:=⟨n-k-1,by omega⟩
 rw [hm,List.replicate_succ,List.set_cons_zero,show n-(k+1)=m from by omega,List.replicate_succ',List.append_assoc]
 rfl
theorem SlE.one {α:Type} {enc:α→List Value} {s:Nat} {ρ:PH} {v:Value} {l:List α} (h:SlE enc s ρ v l):v.oneCell'=true:=by
 obtain ⟨b,c,rfl⟩:=SlAt.cap h
 rfl
theorem distances_spec (γ:PH) (gb n t:Nat) (outs ins:Nat→List Lk) (room:Value) (rm:Nat→Int) (Rr:List PH) (hG:GAt γ gb n outs ins room) (hO:GOk n outs ins) (ht:t<n)
  (hrm:∀ v x,v<n→x∈ins v→Ans Tryz.prog room [int x.k] Rr (fun v=>v=int (rm x.k))) :
  Makes Tryz.prog (fv 130) [.pointer (some ⟨gb,0,none⟩),int t] (γ::Rr) (fun v ρ=>∃ b D,v=.slice (some ⟨b,0,none⟩) n n∧ρ=sng b (.cells (ints D) 3 (0,0))∧IsDist n t (opens n ins rm) D):=by
 have hn:=hO.n1
 obtain ⟨ob,oc,ho,_⟩:=hG.o
 obtain ⟨ib,ic,hi,hil⟩:=hG.i
 refine spec_in (cap:=[]) Tryz.func130 rfl rfl Tryz.ntmps130 rfl envZ (fun N β=>?_)
 refine BZ ?_;refine Aai ?_;refine Aac ?_;refine Af0 ?_;refine AU ?_;refine DX ?_; rintro _ _ ⟨b,rfl,rfl⟩;refine CK ?_; rintro _ _ ⟨b,rfl,rfl⟩;refine BS ?_; rintro _ _ ⟨rfl,rfl⟩;refine Aat ?_;refine Acz ?_;refine Afl ?_
 rename_i bd
 revert b; intro bo
 rw [show List.replicate n (0:Int)=List.replicate 0 (-1) ++ List.replicate (n-0) 0 from by simp]
 refine BA [0,1,5,17,18] (0:Nat) (fun k=>k≤n) (fun k=>[(19,int k)]) (fun k=>[sng bo (.cells #[.slice (some ⟨bd,0,none⟩) n n] 22 (0,0)),sng bd (.cells (ints (List.replicate k (-1) ++ List.replicate (n-k) 0)) 3 (0,0)),emp]) (fun k=>n-k) pickZ (by omega) covZ selZ ?_
 intro k hk
 have hfl:(List.replicate k (-1:Int) ++ List.replicate (n-k) 0).length=n:=by simp; omega
 by_cases hlt:k<n
 ·have hf:=fillL n k hlt
  refine Abk ?_;refine Aca ?_;refine AA ?_;refine Abq ?_;refine BR ?_;refine DA ?_; rintro _ _ ⟨rfl,rfl⟩;refine Ae9 ?_
  refine AT (k+1) (by omega) (by omega) covZ ?_
  rw [← hf];exact selZ
 obtain rfl:k=n:=by omega
 rw [Nat.sub_self,List.replicate_zero,List.append_nil] at hfl ⊢;refine Acd ?_;refine Aex ?_;refine BR ?_;refine DA ?_; rintro _ _ ⟨rfl,rfl⟩;refine Aej ?_;refine AZ ?_; rintro _ _ ⟨b,rfl,rfl⟩;refine CK ?_; rintro _ _ ⟨b,rfl,rfl⟩;refine BS ?_; rintro _ _ ⟨rfl,rfl⟩;refine AE ?_;refine Aa ?_;refine CL ?_;refine Aaa ?_;refine Aap ?_
 rename_i bi
 revert b; intro bq
 have hq0:OwnO 3 1 (.slice (some ⟨bi,0,none⟩) 1 1) 1 [int t] (sng bi (.cells [int (t:Int)].toArray 3 (0,0))):=OwnS.ownO (n:=1) rfl (by simp [maxLen])
 refine EL [0,1,5,7,8] ((((List.replicate k (-1)).set t 0,[t]),(.slice (some ⟨bi,0,none⟩) 1 1,sng bi (.cells [int (t:Int)].toArray 3 (0,0)))),([],emp)) (X:=((List Int × List Nat) × (Value × PH)) × (List Nat × PH))
  (fun x=>x.2.1.map mk) (fun x=>BInv k t (opens k ins rm) x.1.1.1 x.1.1.2∧OwnO 3 1 x.1.2.1 x.1.1.2.length (qInts x.1.1.2) x.1.2.2∧x.1.1.2.length+unl x.1.1.1≤k∧(∀ u,u<k→x.1.1.1.getD u 0+unl x.1.1.1≤(k:Int))∧MkIn x.2.2 x.2.1)
  (fun _=>[]) (fun x=>[sng bo (.cells #[.slice (some ⟨bd,0,none⟩) k k] 22 (0,0)),sng bd (.cells (ints x.1.1.1) 3 (0,0)),sng bq (.cells #[x.1.2.1] 22 (0,0)),x.1.2.2,x.2.2]) (fun x=>2*unl x.1.1.1+x.1.1.2.length)
  pickZ rfl ⟨BInv.start ht,hq0,by have:=unl_start ht; simp only [List.length_singleton]; omega,fun u hu=>by have:=unl_start ht; dsimp only; rw [getD_set (by rw [List.length_replicate]; exact ht),getD_rep hu]; split <;> omega,MkIn.nil⟩ covZ selZ ?_
 rintro ⟨⟨⟨D,q⟩,⟨qv,ρq⟩⟩,⟨ms,μ⟩⟩ ⟨hB,hQ,hql,hub,hM⟩
 dsimp only at hB hQ hql hub hM ⊢
 cases q with
 | nil =>
  have hQ':OwnO 3 1 qv 0 [] ρq:=hQ
  obtain ⟨_,b1,o1,cap1,cur1,rfl,rfl,_⟩:=hQ'
  have hdist:=hB.dist (opens_lt hO)
  refine AC ?_;refine Acz ?_;refine AU ?_;refine B7 ?_;refine Aa7 ?_;refine Acz ?_;refine Aaa ?_;exact EJ hM takeZ (res1 rfl rfl) rsubZ selZ ⟨_,⟨bd,D,rfl,rfl,hdist⟩,rfl⟩
 | cons v q =>
  have hQ':OwnO 3 1 qv (q.length+1) (int v::qInts q) ρq:=hQ
  have hV0:=hB.take
  have hvn:=hV0.vn
  obtain ⟨lv,hlv,hls⟩:=hil v hvn
  have hnx:=next_spec bq qv (int v) q.length (qInts q) ρq hQ'
  obtain ⟨b1,o1,cap1,rfl,_,_⟩:=hQ'.head
  simp only [List.length_cons] at hql;refine AC ?_;refine Acz ?_;refine AU ?_;refine CT ?_;refine Aag ?_;refine Ae8 ?_;refine Aac ?_;refine BL hnx rfl rfl takesZ rdZ rfl rfl ?_;rintro _ _ ⟨rfl,qv1,hQ1,hq1,rfl⟩;simp only [List.cons_append,List.nil_append];refine CK ?_; rintro _ _ ⟨b,rfl,rfl⟩;refine BS ?_; rintro _ _ ⟨rfl,rfl⟩;refine Aat ?_
  revert b; intro b9
  refine A6 (.q 0 (.q 1 (.q 2 (.q 3 (.q 4 (.q 5 (.q 6 (.q 7 (.l 8 .e .nil))))))))) [] rfl (by kernel_rfl) selZ ?_
  refine Aan ?_;refine Aec ?_;refine AQ ?_;refine Ady ?_;refine CF (BU rfl (open_spec _ _ (SlE.one hls) rfl) rfl rfl rdZ rfl rfl ?_);rintro _ _ ⟨bl,bg,rfl,rfl⟩;simp only [List.cons_append,List.nil_append];refine A7 ?_;refine AW (ρ:=sng bl _) takeZ ?_;refine AW (ρ:=sng bg _) takeZ ?_;refine AW (ρ:=sng b9 _) takeZ ?_
  have bx232_3:=rdB b9 3 [int (v:Int)]
  have hvl:=rdC bx232_3 0
  refine AM ?_
  refine D4 (gf:=126) (cap:=[.pointer (some ⟨bl,0,none⟩),.pointer (some ⟨bg,0,none⟩)]) (ps:=[46]) (X:=(List Int × List Nat) × (Value × PH)) rfl Tryz.func126 rfl rfl
   (open_iter γ gb bl bg lv room (ins v) rm Rr hls (by have:=(hO.len v).2; omega) hG.r (fun x hx=>hrm v x hvn hx)) ?_
   (fun i x=>VInv k t (opens k ins rm) x.1.1 v x.1.2 ((openL rm (ins v)).take i)∧OwnO 3 1 x.2.1 x.1.2.length (qInts x.1.2) x.2.2∧x.1.2.length+unl x.1.1+1≤k∧(∀ u,u<k→x.1.1.getD u 0+unl x.1.1≤(k:Int))∧2*unl x.1.1+x.1.2.length≤2*unl D+q.length)
   (fun x=>[sng bo (.cells #[.slice (some ⟨bd,0,none⟩) k k] 22 (0,0)),sng bd (.cells (ints x.1.1) 3 (0,0)),sng bq (.cells #[x.2.1] 22 (0,0)),x.2.2])
   (fun _ _=>False) ((D,q),(qv1,ρq)) rfl takesZ ⟨by simpa using hV0,hQ1,by simp only; omega,hub,by simp only; omega⟩ ?_ ?_ ?_
  ·intro σ hσ
   simp only [List.cons_append,List.nil_append,List.mem_cons] at hσ ⊢
   rcases hσ with h|h|h|h <;> simp [h]
  ·rintro l r i ⟨⟨D1,q1⟩,⟨qv2,ρ2⟩⟩ vs hvs ⟨hV,hQ2,hlq,hub2,hms⟩ hps has hbd hst hpe hfr
   dsimp only at hV hQ2 hlq hub2 hms ⊢
   obtain ⟨st,pe,fnn,tm,prm,asg,bdy,df⟩:=r
   simp only at hps has hbd hst hpe hfr;subst hps has hbd hst hpe;rw [List.getElem?_map] at hvs
   obtain ⟨x,hx,rfl⟩:=Option.map_eq_some_iff.1 hvs
   have hlt:i<(openL rm (ins v)).length:=(List.getElem?_eq_some_iff.1 hx).1
   have hxe:(openL rm (ins v))[i]=x:=(List.getElem?_eq_some_iff.1 hx).2
   have hxm:x∈openL rm (ins v):=List.mem_of_getElem? hx
   have hxi:x∈ins v∧0<rm x.k:=by unfold openL at hxm; simpa using hxm
   obtain ⟨hxt,hxf,hxk⟩:=hO.inT v x hvn hxi.1
   have htk:(openL rm (ins v)).take (i+1)=(openL rm (ins v)).take i ++ [x]:=by rw [take_snoc' hlt,hxe]
   have hDl:D1.length=k:=hV.len
   have hv0:=hV.v0
   have hvub:=hub2 v hvn
   refine yield_spec hfr rfl (by intro p hp; simp at hp; omega) putiZ (fun N' β'=>?_)
   unfold encL;refine AA ?_;refine A4 ?_; rintro _ _ ⟨b,rfl,rfl⟩;refine AY ?_; rintro _ _ ⟨rfl,rfl⟩;refine Ag9 ?_;refine DW takeZ rfl ?_
   by_cases hneg:D1.getD x.f 0<0
   ·have hE:opens k ins rm x:=⟨by omega,by rw [hxt]; exact hxi.1,hxi.2⟩
    have hp:=hV.push hE hxf hxt hneg
    have hu:=unl_set (D:=D1) (i:=x.f) (x:=D1.getD v 0+1) (by omega) hneg (by omega)
    refine AM ?_;refine Acz ?_;refine Aad ?_;refine Adf ?_;refine BD ?_;refine Aag ?_;refine AC ?_
    refine A6 (.q 0 (.q 1 (.q 2 (.q 3 (.q 4 (.q 5 (.q 6 (.q 7 (.q 8 (.l 9 .b .nil)))))))))) [] rfl (by kernel_rfl) selZ ?_
    refine AQ ?_;refine Aau ?_;refine AQ ?_;refine AQ ?_;refine Ady ?_;refine CY ?_;refine CM ?_;refine D7 ?_; rintro _ _ ⟨rfl,rfl⟩;refine A7 ?_;refine AA ?_;refine AF ?_;refine Aad ?_;refine AZ ?_; rintro _ _ ⟨b,rfl,rfl⟩
    refine' BH (FE (by_:=8) (s:=1) (news:=[int (x.f:Int)]) rfl rfl rfl rfl rfl rfl rfl hQ2 takeZ (cells_own memZ) rfl oneZ (by simp only [maxLen]; omega) (by omega)) rfl rfl rfl _
    rintro q9 _ ⟨ρ3,hQ3,rfl⟩
    have hq9:q9.oneCell'=true:=by obtain ⟨_,_,_,_,_,rfl,_⟩:=hQ3; rfl
    have hQ4:OwnO 3 1 q9 (q1 ++ [x.f]).length (qInts (q1 ++ [x.f])) ρ3:=by
     have:qInts (q1 ++ [x.f])=qInts q1 ++ [int (x.f:Int)]:=by simp [qInts]
     rw [this,List.length_append];exact hQ3
    refine BS ?_; rintro _ _ ⟨rfl,rfl⟩;refine Agz ?_;refine CH takeZ rsubZ selZ ⟨((D1.set x.f (D1.getD v 0+1),q1 ++ [x.f]),(q9,ρ3)),.inl ⟨rfl,⟨?_,hQ4,?_,?_,?_⟩,rfl⟩⟩
    ·dsimp only
     rw [htk];exact hp
    ·dsimp only
     rw [List.length_append,List.length_singleton]; omega
    ·intro u hu'
     dsimp only
     have:=hub2 u hu'
     rw [getD_set (by omega)]
     split <;> omega
    ·dsimp only
     rw [List.length_append,List.length_singleton]; omega
   ·refine AM ?_
    refine Acz ?_;refine Aad ?_;refine Adf ?_;refine Aeb ?_;refine A2 ?_;refine CH takeZ rsubZ selZ ⟨((D1,q1),(qv2,ρ2)),.inl ⟨rfl,⟨?_,hQ2,hlq,hub2,hms⟩,rfl⟩⟩;simp only;rw [htk]
    exact hV.seen (by omega)
  ·rintro b2 ⟨⟨D1,q1⟩,⟨qv2,ρ2⟩⟩ ⟨hV,hQ2,hlq,hub2,hms⟩
   dsimp only at hV hQ2 hlq hub2 hms ⊢
   simp only [List.cons_append,List.nil_append]
   refine EK (R':=β::γ::Rr) (by intro σ hσ; simp at hσ ⊢; rcases hσ with h|h|h <;> simp [h]) ?_
   refine DT (b:=b2) takeZ (μ:=μ) takeZ hM ?_
   intro μ2 hM2
   refine A2 ?_;refine A2 ?_
   refine EC (((D1,q1),(qv2,ρ2)),(b2::ms,μ2)) rfl ⟨hV.done (opens_lt hO) (fun x hx hxt=>?_),hQ2,by simp only; omega,hub2,hM2⟩ (by simp only [List.length_cons]; omega) covZ selZ
   have hmem:x∈openL rm (ins v):=by
    unfold openL;rw [List.mem_filter]
    have:=hx.2.1
    rw [hxt] at this
    exact ⟨this,by simpa using hx.2.2⟩
   simpa [List.length_map] using hmem
  ·rintro _ _ _ h; exact h.elim
def ksOf (p:List Lk):List Int:=p.map (fun (x:Lk)=>(x.k:Int))
def nxO (outs:Nat→List Lk) (rm:Nat→Int) (D:List Int) (v:Nat):Option Lk:=(openL rm (outs v)).find? (near D v)
theorem nxO_some {n t:Nat} {outs ins:Nat→List Lk} {rm:Nat→Int} {D:List Int} (hO:GOk n outs ins) (hD:IsDist n t (opens n ins rm) D) {v:Nat} (hv:v<n) (hd:0<D.getD v 0) :
  ∃ x,nxO outs rm D v=some x∧x.f=v∧x.t<n∧x.k≤40000∧D.getD x.t 0=D.getD v 0-1∧opens n ins rm x:=by
 obtain ⟨y,hy,hyf,hyt⟩:=hD.step v hv hd
 have hyn:=opens_lt hO y hy
 have hyo:y∈outs v:=by
  have:=(hO.same y hyn.1 hyn.2).2 hy.2.1
  rwa [hyf] at this
 have hmem:y∈openL rm (outs v):=by
  unfold openL;rw [List.mem_filter]
  exact ⟨hyo,by simpa using hy.2.2⟩
 cases e:nxO outs rm D v with
 | none =>
  unfold nxO at e;rw [List.find?_eq_none] at e
  exact absurd (by unfold near; rw [hyt]; simp) (e y hmem)
 | some x =>
  have hm:=List.mem_of_find?_eq_some e
  have hp:=List.find?_some e
  unfold openL at hm;rw [List.mem_filter] at hm
  obtain ⟨h1,h2,h3⟩:=hO.outF v x hv hm.1
  refine ⟨x,rfl,h1,h2,h3,by simpa [near] using hp,h2,(hO.same x (by omega) h2).1 (by rw [h1]; exact hm.1),by simpa using hm.2⟩
theorem path_spec (γ:PH) (gb n s t:Nat) (outs ins:Nat→List Lk) (room:Value) (rm:Nat→Int) (Rr:List PH) (hG:GAt γ gb n outs ins room) (hO:GOk n outs ins) (hs:s<n) (ht:t<n)
  (hrm:∀ v x,v<n→x∈ins v→Ans Tryz.prog room [int x.k] Rr (fun v=>v=int (rm x.k))) :
  Makes Tryz.prog (fv 76) [.pointer (some ⟨gb,0,none⟩),int s,int t] (γ::Rr) (fun v ρ=>∃ D pv,IsDist n t (opens n ins rm) D∧v=.tuple #[pv,.bool (decide (0≤D.getD s 0))] ∧
   OwnS 3 1 pv (pathD (nxO outs rm D) D s).length ((ksOf (pathD (nxO outs rm D) D s)).map int) ρ):=by
 have hn:=hO.n1
 obtain ⟨ob,oc,ho,hol⟩:=hG.o
 refine spec_in (cap:=[]) Tryz.func76 rfl rfl Tryz.ntmps76 rfl envZ (fun N β=>?_)
 refine BZ ?_;refine Ad5 ?_;refine Aay ?_;refine BV (distances_spec γ gb n t outs ins room rm Rr hG hO ht hrm) rfl rfl rdZ rfl rfl ?_;rintro _ ρD ⟨bD,D,rfl,rfl,hD⟩
 have hDl:=hD.len
 refine CK ?_; rintro _ _ ⟨b,rfl,rfl⟩;refine BS ?_; rintro _ _ ⟨rfl,rfl⟩;refine Aat ?_;refine Aex ?_;refine Adf ?_
 revert b; intro b8
 by_cases hneg:D.getD s 0<0
 ·refine BD ?_
  refine Acg ?_;refine Aal ?_;refine AO (res2 rfl rfl rfl) rsubZ selZ ⟨emp,⟨D,.slice none 0 0,hD,?_,?_⟩,rfl⟩
  ·rw [show decide (0≤D.getD s 0)=false from decide_eq_false (by omega)]
  ·rw [pathD_end (by omega)]
   exact OwnS.nil _ _
 refine Aeb ?_;refine Aa ?_;refine CK ?_; rintro _ _ ⟨b,rfl,rfl⟩;refine AE ?_;refine Aah ?_;refine CK ?_; rintro _ _ ⟨b,rfl,rfl⟩;refine BS ?_; rintro _ _ ⟨rfl,rfl⟩;refine AE ?_;refine AM ?_
 rename_i b9
 revert b; intro b10
 refine AW (ρ:=sng b8 _) takeZ ?_;refine AW (ρ:=sng bD _) takeZ ?_
 have bx99_3:=rdB b8 22 [.slice (some ⟨bD,0,none⟩) n n]
 have c8:=rdC bx99_3 0
 have hub:=hD.lt (opens_lt hO) ht hs
 refine BZ ?_
 refine EL [0,1,2,8,9] (((([]:List Lk),s),((.slice none 0 0,emp),b10)),([],emp)) (X:=((List Lk × Nat) × ((Value × PH) × Nat)) × (List Nat × PH))
  (fun x=>x.2.1.map mk) (fun x=>x.1.1.2<n∧0≤D.getD x.1.1.2 0∧pathD (nxO outs rm D) D s=x.1.1.1 ++ pathD (nxO outs rm D) D x.1.1.2∧OwnS 3 1 x.1.2.1.1 x.1.1.1.length ((ksOf x.1.1.1).map int) x.1.2.1.2∧x.1.1.1.length+(D.getD x.1.1.2 0).toNat≤n∧MkIn x.2.2 x.2.1)
  (fun x=>[(10,.pointer (some ⟨x.1.2.2,0,none⟩))]) (fun x=>[sng x.1.2.2 (.cells #[int (x.1.1.2:Int)] 3 (0,0)),sng b9 (.cells #[x.1.2.1.1] 22 (0,0)),x.1.2.1.2,x.2.2]) (fun x=>(D.getD x.1.1.2 0).toNat)
  pickZ rfl ⟨hs,by dsimp only; omega,rfl,OwnS.nil _ _,by dsimp only [List.length_nil]; omega,MkIn.nil⟩ covZ selZ ?_
 rintro ⟨⟨⟨pre,v⟩,⟨⟨pv,ρp⟩,bv⟩⟩,⟨ms,μ⟩⟩ ⟨hv,hd0,hpre,hP,hln,hM⟩
 dsimp only at hv hd0 hpre hP hln hM ⊢
 by_cases hvt:v=t
 ·refine AC ?_
  refine Aex ?_;refine BK ?_;refine Aa7 ?_;refine Acz ?_;refine Aal ?_;refine EJ hM takeZ (res2 rfl rfl rfl) rsubZ selZ ⟨ρp,⟨D,pv,hD,?_,?_⟩,rfl⟩
  ·rw [show decide (0≤D.getD s 0)=true from decide_eq_true (by omega)]
   rfl
  ·rw [hpre,pathD_end (by rw [hvt,hD.at0]; omega),List.append_nil]
   exact hP
 ·have hdv:0<D.getD v 0:=by
   by_cases h0:D.getD v 0=0
   ·exact absurd (hD.zero v hv h0) hvt
   ·omega
  obtain ⟨x0,hx0,hx0f,hx0t,hx0k,hx0d,_⟩:=nxO_some hO hD hv hdv
  obtain ⟨lv,hlv,hls⟩:=hol v hv
  refine AC ?_;refine Aex ?_;refine CJ ?_;refine Aa1 ?_;refine AC ?_
  refine A6 (.q 0 (.q 1 (.q 2 (.q 3 (.q 4 (.q 5 (.q 6 (.q 7 (.l 8 .e .nil))))))))) [] rfl (by kernel_rfl) selZ ?_
  refine Aan ?_;refine Aec ?_;refine AQ ?_;refine Ady ?_;refine CF (BU rfl (open_spec _ _ (SlE.one hls) rfl) rfl rfl rdZ rfl rfl ?_);rintro _ _ ⟨bl,bg,rfl,rfl⟩;simp only [List.cons_append,List.nil_append];refine A7 ?_;refine AW (ρ:=sng bl _) takeZ ?_;refine AW (ρ:=sng bg _) takeZ ?_;refine AM ?_
  refine D4 (gf:=126) (cap:=[.pointer (some ⟨bl,0,none⟩),.pointer (some ⟨bg,0,none⟩)]) (ps:=[33]) (X:=(Value × PH) × Nat) rfl Tryz.func126 rfl rfl
   (open_iter γ gb bl bg lv room (outs v) rm Rr hls (by have:=(hO.len v).1; omega) hG.r (fun x hx=>by
    obtain ⟨h1,h2,_⟩:=hO.outF v x hv hx
    exact hrm x.t x h2 ((hO.same x (by omega) h2).1 (by rw [h1]; exact hx)))) ?_
   (fun i x=>x=((pv,ρp),v)∧∀ y∈(openL rm (outs v)).take i,near D v y=false)
   (fun x=>[sng bv (.cells #[int (x.2:Int)] 3 (0,0)),sng b9 (.cells #[x.1.1] 22 (0,0)),x.1.2])
   (fun c x=>c=.exit 2∧x.2=x0.t∧OwnS 3 1 x.1.1 (pre ++ [x0]).length ((ksOf (pre ++ [x0])).map int) x.1.2) ((pv,ρp),v) rfl takesZ ⟨rfl,by simp⟩ ?_ ?_ ?_
  ·intro σ hσ
   simp only [List.cons_append,List.nil_append,List.mem_cons] at hσ ⊢
   rcases hσ with h|h|h|h <;> simp [h]
  ·rintro l r i x' vs hvs ⟨rfl,hno⟩ hps has hbd hst hpe hfr
   dsimp only at hno ⊢
   obtain ⟨st,pe,fnn,tm,prm,asg,bdy,df⟩:=r
   simp only at hps has hbd hst hpe hfr;subst hps has hbd hst hpe;rw [List.getElem?_map] at hvs
   obtain ⟨x,hx,rfl⟩:=Option.map_eq_some_iff.1 hvs
   have hlt:i<(openL rm (outs v)).length:=(List.getElem?_eq_some_iff.1 hx).1
   have hxe:(openL rm (outs v))[i]=x:=(List.getElem?_eq_some_iff.1 hx).2
   have hxm:x∈openL rm (outs v):=List.mem_of_getElem? hx
   have hxi:x∈outs v∧0<rm x.k:=by unfold openL at hxm; simpa using hxm
   obtain ⟨hxf,hxt,hxk⟩:=hO.outF v x hv hxi.1
   have htk:(openL rm (outs v)).take (i+1)=(openL rm (outs v)).take i ++ [x]:=by rw [take_snoc' hlt,hxe]
   have hvub:=hD.lt (opens_lt hO) ht hv
   have hxlo:=hD.low x.t hxt
   have hxub:=hD.lt (opens_lt hO) ht hxt
   refine yield_spec hfr rfl (by intro p hp; simp at hp; omega) putiZ (fun N' β'=>?_)
   unfold encL;refine AA ?_;refine A4 ?_; rintro _ _ ⟨b,rfl,rfl⟩;refine AY ?_; rintro _ _ ⟨rfl,rfl⟩;refine Ag9 ?_;refine DW takeZ rfl ?_;refine AM ?_;refine AC ?_
   refine A6 P6Z [] rfl (by kernel_rfl) selZ ?_
   by_cases hnr:D.getD x.t 0=D.getD v 0-1
   ·have hfx:nxO outs rm D v=some x:=find_of_take hx (by unfold near; rw [hnr]; simp) hno
    obtain rfl:x0=x:=by rw [hfx] at hx0; exact (Option.some.inj hx0).symm
    refine AQ ?_;refine Aau ?_;refine Ady ?_;refine AQ ?_;refine AQ ?_;refine Ady ?_;refine D9 ?_;refine DP ?_;refine Ab5 ?_;refine AC ?_
    have hpv:pv.oneCell'=true:=SlE.one (ownInts (e:=3) (l:=ksOf pre) (ρ:=ρp) (by rw [show (ksOf pre).length=pre.length from by simp [ksOf]]; exact hP))
    refine A6 (.q 0 (.q 1 (.q 2 (.p 5 (.p 6 (.l 3 .e (.l 4 .b (.l 7 .b (.l 8 .b .nil))))))))) [sng b (.cells #[int (x0.k:Int),int (x0.f:Int),int (x0.t:Int)] 135 (0,0))] rfl (by kernel_rfl) selZ ?_
    refine AQ ?_;refine Aau ?_;refine GH ?_;refine GG ?_;refine BF ?_; rintro _ _ ⟨b,rfl,rfl⟩;refine CF ?_;refine' a_b rfl _ rfl rfl rfl _ _
    rotate_left
    ·exact BI (by_:=8) (s:=1) (news:=[int (x0.k:Int)]) rfl rfl rfl rfl rfl rfl rfl hP takeZ (cells_own memZ) rfl oneZ (by omega) (by simp only [maxLen]; omega) (by omega)
    ·rintro _ _ ⟨_,_,rfl⟩ w hw; exact hw.sel selZ
    rintro q9 _ ⟨ρ3,hQ3,rfl⟩
    have hQ4:OwnS 3 1 q9 (pre ++ [x0]).length ((ksOf (pre ++ [x0])).map int) ρ3:=by
     have:(ksOf (pre ++ [x0])).map int=(ksOf pre).map int ++ [int (x0.k:Int)]:=by simp [ksOf]
     rw [this,List.length_append];exact hQ3
    have hq9:q9.oneCell'=true:=SlE.one (ownInts (e:=3) (l:=ksOf (pre ++ [x0])) (ρ:=ρ3) (by rw [show (ksOf (pre ++ [x0])).length=(pre ++ [x0]).length from by simp [ksOf]]; exact hQ4))
    refine D0 ?_; rintro _ _ ⟨rfl,rfl⟩;refine D0 ?_; rintro _ _ ⟨rfl,rfl⟩;refine A7 ?_
    skip
    exact FD rfl takeZ rsubZ selZ ⟨((q9,ρ3),x0.t),.inr ⟨rfl,.exit 2,⟨rfl,rfl,hQ4⟩,rfl⟩⟩
   ·refine AQ ?_
    refine Aau ?_;refine Ady ?_;refine AQ ?_;refine AQ ?_;refine Ady ?_;refine D9 ?_;refine C7 ?_;refine Ab8 ?_;refine A2 ?_;refine CH takeZ rsubZ selZ ⟨((pv,ρp),v),.inl ⟨rfl,⟨rfl,?_⟩,rfl⟩⟩;rw [htk]
    intro y hy
    rcases List.mem_append.1 hy with hy|hy
    ·exact hno y hy
    ·rw [List.mem_singleton.1 hy]
     exact decide_eq_false hnr
  ·rintro b2 x' ⟨rfl,hno⟩
   exfalso
   have hm:=List.mem_of_find?_eq_some hx0
   have hp:=List.find?_some hx0
   rw [hno x0 (by simpa [List.length_map] using hm)] at hp
   simp at hp
  ·rintro b2 c ⟨⟨pv2,ρ2⟩,v2⟩ ⟨rfl,hv2,hP2⟩
   dsimp only at hv2 hP2 ⊢
   subst hv2;simp only [List.cons_append,List.nil_append]
   refine EK (R':=sng bD (.cells (ints D) 3 (0,0))::sng b8 (.cells #[.slice (some ⟨bD,0,none⟩) n n] 22 (0,0))::β::γ::Rr) (by intro σ hσ; simp at hσ ⊢; rcases hσ with h|h|h|h|h <;> simp [h]) ?_
   refine DT (b:=b2) takeZ (μ:=μ) takeZ hM ?_
   intro μ2 hM2
   refine A8 rfl ?_;refine A2 ?_;refine Acz ?_;refine Afj ?_;refine CK ?_; rintro _ _ ⟨b,rfl,rfl⟩;refine BS ?_; rintro _ _ ⟨rfl,rfl⟩;refine AE ?_
   refine EC (((pre ++ [x0],x0.t),((pv2,ρ2),b)),(b2::ms,μ2)) rfl ⟨hx0t,by dsimp only; omega,?_,hP2,?_,hM2⟩ (by dsimp only; omega) covZ selZ
   ·dsimp only
    rw [hpre,pathD_step hx0 hdv hx0d,List.append_assoc]; rfl
   ·dsimp only
    rw [List.length_append,List.length_singleton]; omega
end Go.Proofs.YtjehnjhkcmobcaaGreat
