/- Texts of this proof, one after the other; no conditions. -/
import Derived.Test.YtjehnjhkcmobcaaGreatWB5
import Derived.Test.YtjehnjhkcmobcaaGreatWB1
set_option linter.all false
/- Free spans of contacts, and their ticks. No program in sight. No conditions. -/
namespace Go.Step
theorem bks_apart {cs:List Ct} {l:List Bk} (h:firstE (bkE cs l) l.length=0):l.Pairwise (fun x y=>x.c<y.c∨(x.c=y.c∧x.b≤y.a)):=by
  have hok:=bkE_ok h
  have hlt:∀ x∈l,x.a<x.b:=fun x hx=>by
    obtain ⟨_,c,_,_,h2,_⟩:=hok x hx
    exact h2
  have hstep:∀ i,(hi:i+1<l.length)→l[i].c<l[i+1].c∨(l[i].c=l[i+1].c∧l[i].b≤l[i+1].a):=fun i hi=>by
    have h2:=firstE_zero h (i+1) hi
    rw [bkE_at (List.getElem?_eq_getElem hi)] at h2
    split at h2
    · omega
    rw [if_neg (by omega)] at h2
    rw [Nat.add_sub_cancel,List.getD_eq_getElem?_getD,List.getElem?_eq_getElem (by omega),Option.getD_some] at h2
    unfold bk2E at h2
    split at h2
    · omega
    rename_i h3
    split at h2
    · omega
    rename_i h4
    have h5:=(cmpBk_lt _ _).1 (Decidable.not_not.1 h3)
    omega
  rw [List.pairwise_iff_getElem]
  intro i j hi hj hij
  obtain ⟨k,rfl⟩:∃ k,j=i+1+k:=⟨j-i-1,by omega⟩
  induction k with
  | zero=>exact hstep i hj
  | succ k ih =>
    have h1:=ih (by omega) (by omega)
    have h2:=hstep (i+1+k) (by omega)
    have h3:=hlt _ (List.getElem_mem (show i+1+k<l.length by omega))
    have e:i+1+(k+1)=i+1+k+1:=by omega
    simp only [e];omega
theorem busy_apart {cs:List Ct} {l:List Bk} (h:firstE (bkE cs l) l.length=0) (c:Int):(busyL l c).Pairwise (fun x y=>x.2≤y.1):=by
  unfold busyL;rw [List.pairwise_map]
  refine ((bks_apart h).filter _).imp_of_mem (fun {x y} hx hy hxy=>?_)
  have h1:=of_decide_eq_true (List.mem_filter.1 hx).2
  have h2:=of_decide_eq_true (List.mem_filter.1 hy).2
  dsimp only
  omega
theorem busy_in {cs:List Ct} {l:List Bk} (h:firstE (bkE cs l) l.length=0) {i:Nat} {c:Ct} (hc:cs[i]?=some c):∀ x∈busyL l i,c.s≤x.1∧x.1<x.2∧x.2≤c.e:=fun x hx=>by
  unfold busyL at hx
  obtain ⟨y,hy,rfl⟩:=List.mem_map.1 hx
  obtain ⟨hy1,hy2⟩:=List.mem_filter.1 hy
  have h2:=of_decide_eq_true hy2
  obtain ⟨_,c',e,h3⟩:=bkE_ok h y hy1
  rw [h2,Int.toNat_natCast,hc] at e
  obtain rfl:=Option.some.inj e
  exact h3
def gapsP (e:Int):Int→List (Int × Int)→List (Int × Int)
  | a,[]=>if a<e then [(a,e)] else []
  | a,x::l=>(if a<x.1 then [(a,x.1)] else []) ++ gapsP e x.2 l
theorem gapsP_len (e:Int):∀ (l:List (Int × Int)) (a:Int),(gapsP e a l).length≤l.length+1
  | [],a=>by unfold gapsP; split <;> simp
  | x::l,a=>by
    have:=gapsP_len e l x.2
    unfold gapsP;rw [List.length_append,List.length_cons]
    split <;> simp <;> omega
theorem gapsP_ok {e:Int}:∀ {l:List (Int × Int)} {a:Int},(∀ x∈l,a≤x.1∧x.1<x.2∧x.2≤e)→l.Pairwise (fun x y=>x.2≤y.1)→NormI (gapsP e a l)∧(∀ z∈gapsP e a l,a≤z.1∧z.2≤e)∧∀ t,memI (gapsP e a l) t=(decide (a≤t∧t<e) && !(memI l t))
  | [],a,_,_=>by
    unfold gapsP
    by_cases h:a<e
    · rw [if_pos h]
      refine ⟨NormI.nil.cons h (by simp),fun z hz=>?_,fun t=>?_⟩
      · rw [List.mem_singleton.1 hz]
        exact ⟨Int.le_refl _,Int.le_refl _⟩
      · simp [memI,inSp]
    · rw [if_neg h]
      refine ⟨NormI.nil,by simp,fun t=>?_⟩
      rw [decide_eq_false (by omega)]
      simp [memI]
  | x::l,a,hb,hp=>by
    obtain ⟨p1,p2⟩:=List.pairwise_cons.1 hp
    obtain ⟨h1,h2,h3⟩:=hb x (by simp)
    obtain ⟨k1,k2,k3⟩:=gapsP_ok (e:=e) (l:=l) (a:=x.2) (fun y hy=>⟨p1 y hy,(hb y (by simp [hy])).2⟩) p2
    unfold gapsP
    have hm:∀ t,memI l t=true→x.2≤t:=fun t ht=>by
      obtain ⟨y,hy,h4,_⟩:=memI_iff.1 ht
      have:=p1 y hy
      omega
    have hx:∀ t,inSp t x=decide (x.1≤t∧t<x.2):=fun t=>by rw [Bool.eq_iff_iff,inSp_iff,decide_eq_true_eq]
    by_cases h:a<x.1
    · rw [if_pos h,List.singleton_append]
      refine ⟨k1.cons h (fun z hz=>?_),fun z hz=>?_,fun t=>?_⟩
      · have:=k2 z hz
        dsimp only
        omega
      · rcases List.mem_cons.1 hz with rfl|hz
        · dsimp only; omega
        · have:=k2 z hz; omega
      · rw [memI_cons,memI_cons,k3,hx]
        have e1:inSp t (a,x.1)=decide (a≤t∧t<x.1):=by rw [Bool.eq_iff_iff,inSp_iff,decide_eq_true_eq]
        rw [e1]
        have hmt:=hm t
        cases hml:memI l t with
        | true =>
          have:=hmt hml
          rw [decide_eq_false (show ¬ (a≤t∧t<x.1) by omega)]
          simp
        | false =>
          simp only [Bool.not_false,Bool.and_true,Bool.or_false];rw [Bool.eq_iff_iff];simp only [Bool.or_eq_true,Bool.and_eq_true,decide_eq_true_eq,Bool.not_eq_true',decide_eq_false_iff_not];omega
    · rw [if_neg h,List.nil_append]
      refine ⟨k1,fun z hz=>by have:=k2 z hz; omega,fun t=>?_⟩
      rw [memI_cons,k3,hx]
      have hmt:=hm t
      cases hml:memI l t with
      | true =>
        have:=hmt hml
        simp
      | false =>
        simp only [Bool.not_false,Bool.and_true,Bool.or_false];rw [Bool.eq_iff_iff];simp only [Bool.and_eq_true,decide_eq_true_eq,Bool.not_eq_true',decide_eq_false_iff_not];omega
def freeC (cs:List Ct) (bs:List Bk) (i:Nat):List (Int × Int):=match cs[i]? with
  | some c=>gapsP c.e c.s (busyL bs i)
  | none=>[]
theorem freeC_ok {cs:List Ct} {bs:List Bk} (h:firstE (bkE cs bs) bs.length=0) {i:Nat} {c:Ct} (hc:cs[i]?=some c):NormI (freeC cs bs i)∧(∀ z∈freeC cs bs i,c.s≤z.1∧z.2≤c.e)∧∀ t,memI (freeC cs bs i) t=(decide (c.s≤t∧t<c.e) && !(bookedB bs i t)):=by
  have hf:freeC cs bs i=gapsP c.e c.s (busyL bs i):=by unfold freeC; rw [hc]
  rw [hf];exact gapsP_ok (busy_in h hc) (busy_apart h i)
def rngI (a b:Int):List Int:=(List.range (b-a).toNat).map (fun k:Nat=>a+k)
theorem mem_rngI {a b t:Int}:t∈rngI a b↔a≤t∧t<b:=by
  unfold rngI;rw [List.mem_map]
  constructor
  · rintro ⟨k,hk,rfl⟩
    rw [List.mem_range] at hk;omega
  · rintro ⟨h1,h2⟩
    exact ⟨(t-a).toNat,by rw [List.mem_range]; omega,by omega⟩
theorem rngI_asc (a b:Int):(rngI a b).Pairwise (· < ·):=by
  unfold rngI;rw [List.pairwise_map]
  exact List.pairwise_lt_range.imp (fun {x y} h=>by omega)
theorem rngI_len (a b:Int):(rngI a b).length=(b-a).toNat:=by simp [rngI]
theorem rngI_nil {a b:Int} (h:b≤a):rngI a b=[]:=by
  unfold rngI
  rw [show (b-a).toNat=0 by omega]
  rfl
theorem rngI_get {a b:Int} {k:Nat} (h:(k:Int)<b-a):(rngI a b)[k]?=some (a+k):=by
  unfold rngI
  rw [List.getElem?_map,List.getElem?_range (by omega)]
  rfl
theorem rngI_snoc {a b:Int} (h:a≤b):rngI a (b+1)=rngI a b ++ [b]:=by
  unfold rngI
  rw [show (b+1-a).toNat=(b-a).toNat+1 by omega,List.range_succ,List.map_append]
  congr 1
  simp
  omega
theorem asc_ext:∀ {a b:List Int},a.Pairwise (· < ·)→b.Pairwise (· < ·)→(∀ t,t∈a↔t∈b)→a=b
  | [],[],_,_,_=>rfl
  | [],y::b,_,_,h=>by have:=(h y).2 (by simp); simp at this
  | x::a,[],_,_,h=>by have:=(h x).1 (by simp); simp at this
  | x::a,y::b,ha,hb,h=>by
    obtain ⟨a1,a2⟩:=List.pairwise_cons.1 ha
    obtain ⟨b1,b2⟩:=List.pairwise_cons.1 hb
    have e:x=y:=by
      have h1:=(h x).1 (by simp)
      have h2:=(h y).2 (by simp)
      rcases List.mem_cons.1 h1 with h1|h1
      · exact h1
      · rcases List.mem_cons.1 h2 with h2|h2
        · exact h2.symm
        · have:=b1 x h1
          have:=a1 y h2
          omega
    subst e
    congr 1
    refine asc_ext a2 b2 (fun t=>⟨fun ht=>?_,fun ht=>?_⟩)
    · have h1:=(h t).1 (by simp [ht])
      rcases List.mem_cons.1 h1 with rfl|h1
      · have:=a1 t ht; omega
      · exact h1
    · have h1:=(h t).2 (by simp [ht])
      rcases List.mem_cons.1 h1 with rfl|h1
      · have:=b1 t ht; omega
      · exact h1
def tickS (r e g:Int) (x:Int × Int):List Int:=rngI (max x.1 r) (min x.2 (e-g))
def tickL (r e g:Int) (l:List (Int × Int)):List Int:=l.flatMap (tickS r e g)
theorem mem_tickL {r e g t:Int} {l:List (Int × Int)}:t∈tickL r e g l↔memI l t=true∧r≤t∧t+g<e:=by
  unfold tickL tickS;rw [List.mem_flatMap,memI_iff]
  constructor
  · rintro ⟨x,hx,h⟩
    rw [mem_rngI] at h
    exact ⟨⟨x,hx,by omega,by omega⟩,by omega,by omega⟩
  · rintro ⟨⟨x,hx,h1,h2⟩,h3,h4⟩
    exact ⟨x,hx,by rw [mem_rngI]; omega⟩
theorem tickL_asc {r e g:Int}:∀ {l:List (Int × Int)},NormI l→(tickL r e g l).Pairwise (· < ·)
  | [],_=>.nil
  | x::l,h=>by
    have ih:=tickL_asc (r:=r) (e:=e) (g:=g) h.tail
    show (tickS r e g x ++ tickL r e g l).Pairwise (· < ·)
    rw [List.pairwise_append]
    refine ⟨rngI_asc _ _,ih,fun a ha b hb=>?_⟩
    have h1:=(mem_tickL.1 hb).1
    have h2:=memI_lo2 h h1
    unfold tickS at ha;rw [mem_rngI] at ha;omega
end Go.Step
namespace Go.Step
theorem stored_none {n t:Int}:∀ {l:List Hd},(∀ g∈l,g.n=n→¬ (g.a≤t∧t<g.b))→stored l n t=0
  | [],_=>rfl
  | h::l,hh=>by
    unfold stored
    rw [stored_none (fun g hg=>hh g (by simp [hg])),if_neg (fun hc=>hh h (by simp) hc.1 hc.2)]
    rfl
theorem fits_all {l:List Hd} {nq:Nat} (hok:∀ h∈l,okHd nq h) {n Q t:Int} (hQ:0≤Q) (hf:∀ h∈l,h.n=n→stored l n h.a≤Q):stored l n t≤Q:=by
  rcases last_active (n:=n) (t:=t) l with h|⟨h,hm,hn,ha,hlast⟩
  · rw [stored_none h]; exact hQ
  · refine Int.le_trans (stored_mono (s:=h.a) (fun g hg=>⟨?_,fun h1 h2 h3=>⟨hlast g hg h1 h2 h3,by omega⟩⟩)) (hf h hm hn)
    have:=(hok g hg).2.2.1
    omega
theorem fit_of {qs:List Int} {cs:List Ct} {hs:List Hd} (h:chkH qs cs hs=0):fitB qs hs=true:=by
  unfold chkH at h
  split at h
  · omega
  split at h
  · omega
  split at h
  · rename_i h1; exact absurd h h1
  split at h
  · assumption
  · omega
theorem room_nonneg {qs:List Int} {hs:List Hd} (hquo:∀ (j:Nat) (q:Int),qs[j]?=some q→0≤q∧q≤1073741824) (hok:∀ h∈hs,okHd qs.length h) (hfit:fitB qs hs=true) (d:Dm) (n:Nat) (hn:n<qs.length) (t:Int):0≤roomT qs hs d n t:=by
  unfold roomT
  split
  · omega
  have hx:=List.getElem?_eq_getElem hn
  have hq:=hquo n _ hx
  rw [Int.toNat_natCast,List.getD_eq_getElem?_getD,hx,Option.getD_some]
  have hf:=List.all_eq_true.1 hfit
  have:=fits_all (n:=(n:Int)) (t:=t) hok hq.1 (fun h hh hn'=>by
    have h2:=of_decide_eq_true (hf h hh)
    rw [hn',Int.toNat_natCast,List.getD_eq_getElem?_getD,hx,Option.getD_some] at h2
    exact h2)
  omega
def SetsC (c:Cu):Prop:=∀ l∈c,chkI l=0∧l.length≤500
theorem norm_in {l:Iv} (h:NormI l) {lo hi:Int}:(∀ t,memI l t=true→lo≤t∧t<hi)→∀ x∈l,lo≤x.1∧x.2≤hi:=fun hm x hx=>by
  have h1:=h.1 x hx
  have a:=hm x.1 (memI_iff.2 ⟨x,hx,by omega,h1⟩)
  have b:=hm (x.2-1) (memI_iff.2 ⟨x,hx,by omega,by omega⟩)
  omega
end Go.Step
namespace Go.Flow
structure Arc where
  f:Int
  t:Int
  c:Int
  deriving DecidableEq,Inhabited
def okArc (n:Int) (a:Arc):Bool:=decide (0≤a.f∧a.f<n∧0≤a.t∧a.t<n∧a.f≠a.t∧0≤a.c∧a.c≤1099511627776)
def chk (n:Int) (l:List Arc):Int:=if n<0 then 2 else if 2000<n∨20000<l.length then 4 else if l.all (okArc n) then 0 else 2
def okEnds (n s t:Int):Bool:=decide (0≤s∧s<n∧0≤t∧t<n∧s≠t)
theorem okArc_iff {n:Int} {a:Arc}:okArc n a=true↔(0≤a.f∧a.f<n∧0≤a.t∧a.t<n∧a.f≠a.t∧0≤a.c∧a.c≤1099511627776):=by unfold okArc; rw [decide_eq_true_eq]
theorem okEnds_iff {n s t:Int}:okEnds n s t=true↔(0≤s∧s<n∧0≤t∧t<n∧s≠t):=by unfold okEnds; rw [decide_eq_true_eq]
theorem chk_ok {n:Int} {l:List Arc} (h:chk n l=0):0≤n∧n≤2000∧l.length≤20000∧∀ a∈l,okArc n a=true:=by
  unfold chk at h
  split at h
  · simp at h
  · split at h
    · simp at h
    · split at h
      · rename_i h3
        rw [List.all_eq_true] at h3
        exact ⟨by omega,by omega,by omega,h3⟩
      · simp at h
def fval (v:Int):List Arc→List Int→Int
  | a::l,x::fl=>((if a.f=v then x else 0)-(if a.t=v then x else 0))+fval v l fl
  | _,_=>0
theorem fval_snoc (v:Int) (a:Arc) (x:Int):∀ (l:List Arc) (fl:List Int),l.length=fl.length→fval v (l ++ [a]) (fl ++ [x])=fval v l fl+((if a.f=v then x else 0)-(if a.t=v then x else 0))
  | [],[],_=>by simp [fval]
  | b::l,y::fl,h=>by
    simp only [List.cons_append,fval]
    rw [fval_snoc v a x l fl (by simpa using h)]
    omega
def small (fl:List Int):Prop:=∀ x∈fl,-1099511627776≤x∧x≤1099511627776
theorem fval_bd (v:Int):∀ (l:List Arc) (fl:List Int),small fl → -(1099511627776*(2*fl.length))≤fval v l fl∧fval v l fl≤1099511627776*(2*fl.length)
  | [],[],_=>by simp [fval]
  | [],_::_,_=>by simp [fval]; omega
  | _::_,[],_=>by simp [fval]
  | a::l,x::fl,h=>by
    have ih:=fval_bd v l fl (fun y hy=>h y (by simp [hy]))
    have hx:=h x (by simp)
    simp only [fval,List.length_cons]
    split <;> split <;> omega
theorem small_take {fl:List Int} (h:small fl) (k:Nat):small (fl.take k):=fun x hx=>h x (List.mem_of_mem_take hx)
theorem take_snoc' {α:Type} {l:List α} {k:Nat} (h:k<l.length):l.take (k+1)=l.take k ++ [l[k]]:=List.take_succ_eq_append_getElem h
def netL (n:Nat) (l:List Arc) (fl:List Int):List Int:=(List.range n).map (fun (v:Nat)=>fval (v:Int) l fl)
theorem netL_len (n:Nat) (l:List Arc) (fl:List Int):(netL n l fl).length=n:=by simp [netL]
theorem netL_get {n:Nat} {l:List Arc} {fl:List Int} {v:Nat} (h:v<n):(netL n l fl).getD v 0=fval (v:Int) l fl:=by simp [netL,h]
theorem netL_nil (n:Nat):netL n [] []=List.replicate n 0:=by
  apply List.ext_getElem
  · simp [netL]
  · intro i h1 h2; simp [netL,fval]
def negL (l:List Int):List Int:=l.map (fun x=>-x)
theorem negL_len (l:List Int):(negL l).length=l.length:=by simp [negL]
theorem negL_get {l:List Int} {v:Nat} (h:v<l.length):(negL l).getD v 0 = -(l.getD v 0):=by simp [negL,h]
theorem netL_snoc {n:Nat} {l:List Arc} {fl:List Int} {a:Arc} {x:Int} {f t:Nat} (hl:l.length=fl.length) (hf:a.f=f) (ht:a.t=t) (hne:f≠t) :
    netL n (l ++ [a]) (fl ++ [x])=((netL n l fl).set f (fval f l fl+x)).set t (fval t l fl-x):=by
  apply List.ext_getElem
  · simp [netL]
  · intro i h1 h2
    simp only [netL,List.length_map,List.length_range] at h1
    have e:(netL n (l ++ [a]) (fl ++ [x]))[i]'(by simp [netL]; exact h1)=fval (i:Int) l fl+((if a.f=(i:Int) then x else 0)-(if a.t=(i:Int) then x else 0)):=by
      simp only [netL,List.getElem_map,List.getElem_range]; exact fval_snoc _ a x l fl hl
    rw [e,hf,ht];simp only [List.getElem_set]
    by_cases c1:t=i
    · subst c1
      rw [if_pos rfl,if_neg (by omega),if_pos rfl]; omega
    · rw [if_neg c1]
      by_cases c2:f=i
      · subst c2
        rw [if_pos rfl,if_pos rfl,if_neg (by omega)]; omega
      · rw [if_neg c2,if_neg (by omega),if_neg (by omega)]
        simp [netL]
theorem negL_set (l:List Int) (i:Nat) (x:Int):negL (l.set i x)=(negL l).set i (-x):=by simp [negL,List.map_set]
def inCap:List Arc→List Int→Bool
  | a::l,x::fl=>decide (0≤x∧x≤a.c) && inCap l fl
  | _,_=>true
theorem inCap_snoc (a:Arc) (x:Int):∀ (l:List Arc) (fl:List Int),l.length=fl.length→inCap (l ++ [a]) (fl ++ [x])=(inCap l fl && decide (0≤x∧x≤a.c))
  | [],[],_=>by simp [inCap]
  | b::l,y::fl,h=>by
    simp only [List.cons_append,inCap]
    rw [inCap_snoc a x l fl (by simpa using h),Bool.and_assoc]
theorem inCap_get:∀ (l:List Arc) (fl:List Int),inCap l fl=true→∀ (i:Nat) (a:Arc) (x:Int),l[i]?=some a→fl[i]?=some x→0≤x∧x≤a.c
  | [],_,_,i,a,x,h1,_=>by simp at h1
  | _::_,[],_,i,a,x,_,h2=>by simp at h2
  | b::l,y::fl,h,i,a,x,h1,h2=>by
    simp only [inCap,Bool.and_eq_true,decide_eq_true_eq] at h
    cases i with
    | zero=>simp at h1 h2; subst h1; subst h2; exact h.1
    | succ i=>simp at h1 h2; exact inCap_get l fl h.2 i a x h1 h2
theorem inCap_small {n:Int}:∀ (l:List Arc) (fl:List Int),l.length=fl.length→inCap l fl=true→(∀ a∈l,okArc n a=true)→small fl
  | [],[],_,_,_=>fun x hx=>by simp at hx
  | a::l,y::fl,hl,h,hok=>fun x hx=>by
    simp only [inCap,Bool.and_eq_true,decide_eq_true_eq] at h
    have ha:=okArc_iff.1 (hok a (by simp))
    simp at hx
    rcases hx with rfl|hx
    · omega
    · exact inCap_small l fl (by simpa using hl) h.2 (fun b hb=>hok b (by simp [hb])) x hx
def balanced (n:Nat) (l:List Arc) (fl:List Int) (s t:Int):Bool:=(List.range n).all (fun (v:Nat)=>decide ((v:Int)=s∨(v:Int)=t∨fval (v:Int) l fl=0))
def valueSpec (n:Int) (l:List Arc) (fl:List Int) (s t:Int):Int × Int:=
  if chk n l≠0 then (0,chk n l) else if okEnds n s t=false then (0,2) else if fl.length≠l.length then (0,10) else if inCap l fl=false then (0,2)
  else if balanced n.toNat l fl s t=false then (0,24) else (fval s l fl,0)
def capOf (p:Nat→Bool):List Arc→Int
  | []=>0
  | a::l=>(if p a.f.toNat=true∧p a.t.toNat=false then a.c else 0)+capOf p l
theorem capOf_snoc (p:Nat→Bool) (a:Arc):∀ l:List Arc,capOf p (l ++ [a])=capOf p l+(if p a.f.toNat=true∧p a.t.toNat=false then a.c else 0)
  | []=>by simp [capOf]
  | b::l=>by simp only [List.cons_append,capOf]; rw [capOf_snoc p a l]; omega
theorem capOf_bd (n:Int) (p:Nat→Bool):∀ l:List Arc,(∀ a∈l,okArc n a=true)→0≤capOf p l∧capOf p l≤1099511627776*l.length
  | [],_=>by simp [capOf]
  | a::l,h=>by
    have ih:=capOf_bd n p l (fun b hb=>h b (by simp [hb]))
    have ha:=okArc_iff.1 (h a (by simp))
    simp only [capOf,List.length_cons]
    split <;> omega
def sideChk (n:Int):Option Int→List Int→Int
  | _,[]=>0
  | prev,v::r=>if v<0∨n≤v then 2 else if (match prev with|some p=>decide (v≤p)|none=>false)=true then 9 else sideChk n (some v) r
def prevAt (l:List Int) (k:Nat):Option Int:=match k with
  | 0=>none
  | k+1=>l[k]?
def capacitySpec (n:Int) (l:List Arc) (side:List Int):Int × Int:=
  if chk n l≠0 then (0,chk n l) else if sideChk n none side≠0 then (0,sideChk n none side) else (capOf (fun j=>decide ((j:Int)∈side)) l,0)
theorem sideChk_step {n:Int} {side:List Int} {k:Nat} (h:k<side.length) (h1:0≤side[k]) (h2:side[k]<n) (h3:∀ p,prevAt side k=some p→p<side[k]) :
    sideChk n (prevAt side k) (side.drop k)=sideChk n (prevAt side (k+1)) (side.drop (k+1)):=by
  rw [List.drop_eq_getElem_cons h];simp only [sideChk]
  rw [if_neg (by omega),if_neg]
  · simp [prevAt,h]
  · cases hp:prevAt side k with
    | none=>simp
    | some p=>have:=h3 p hp; simp; omega
theorem sideChk_two {n:Int} {side:List Int} {k:Nat} (p:Option Int) (h:k<side.length) (h1:side[k]<0∨n≤side[k]):sideChk n p (side.drop k)=2:=by
  rw [List.drop_eq_getElem_cons h];simp only [sideChk];rw [if_pos h1]
theorem sideChk_nine {n:Int} {side:List Int} {k:Nat} {p:Int} (h:k<side.length) (h1:0≤side[k]) (h2:side[k]<n) (hp:prevAt side k=some p) (h3:side[k]≤p):sideChk n (prevAt side k) (side.drop k)=9:=by
  rw [List.drop_eq_getElem_cons h];simp only [sideChk]
  rw [if_neg (by omega),if_pos (by rw [hp]; simp [h3])]
def marksOf (n:Nat) (side:List Int):List Bool:=(List.range n).map (fun (j:Nat)=>decide ((j:Int)∈side))
theorem marksOf_len (n:Nat) (side:List Int):(marksOf n side).length=n:=by simp [marksOf]
theorem marksOf_get {n:Nat} {side:List Int} {j:Nat} (h:j<n):(marksOf n side)[j]?=some (decide ((j:Int)∈side)):=by simp [marksOf,h]
theorem marksOf_nil (n:Nat):marksOf n []=List.replicate n false:=by
  apply List.ext_getElem
  · simp [marksOf]
  · intro i h1 h2; simp [marksOf]
theorem marksOf_snoc {n:Nat} {side:List Int} {v:Nat}:marksOf n (side ++ [(v:Int)])=(marksOf n side).set v true:=by
  apply List.ext_getElem
  · simp [marksOf]
  · intro i h1 h2
    simp only [List.getElem_set]
    by_cases e:v=i
    · subst e; simp [marksOf]
    · rw [if_neg e]
      have:¬ (i:Int)=(v:Int):=by omega
      simp [marksOf,this]
end Go.Flow
namespace Go.Flow
def leastR (rm:Nat→Int) (p:List Lk):Int:=p.foldl (fun m x=>min m (rm x.k)) 1099511627776
theorem leastR_snoc (rm:Nat→Int) (p:List Lk) (x:Lk):leastR rm (p ++ [x])=min (leastR rm p) (rm x.k):=by simp [leastR]
def rmR (l:List Arc) (fl:List Int) (k:Nat):Int:=if k % 2=0 then (l.getD (k / 2) default).c-fl.getD (k / 2) 0 else fl.getD (k / 2) 0
def outsOf (ls:List Lk) (v:Nat):List Lk:=ls.filter (fun x=>decide (x.f=v))
def insOf (ls:List Lk) (v:Nat):List Lk:=ls.filter (fun x=>decide (x.t=v))
theorem outsOf_snoc (ls:List Lk) (x:Lk) (v:Nat):outsOf (ls ++ [x]) v=outsOf ls v ++ (if x.f=v then [x] else []):=by
  unfold outsOf; rw [List.filter_append]; by_cases h:x.f=v <;> simp [h]
theorem insOf_snoc (ls:List Lk) (x:Lk) (v:Nat):insOf (ls ++ [x]) v=insOf ls v ++ (if x.t=v then [x] else []):=by
  unfold insOf; rw [List.filter_append]; by_cases h:x.t=v <;> simp [h]
theorem filter_le {α:Type} (p:α→Bool) (l:List α) {m:Nat} (h:l.length≤m):(l.filter p).length≤m:=Nat.le_trans (List.length_filter_le p l) h
def rlFrom:Nat→List Arc→List Lk
  | _,[]=>[]
  | i,a::l=>⟨2*i,a.f.toNat,a.t.toNat⟩::⟨2*i+1,a.t.toNat,a.f.toNat⟩::rlFrom (i+1) l
def rlinks (l:List Arc):List Lk:=rlFrom 0 l
theorem rlFrom_snoc (a:Arc):∀ (l:List Arc) (i:Nat),rlFrom i (l ++ [a])=rlFrom i l ++ [(⟨2*(i+l.length),a.f.toNat,a.t.toNat⟩:Lk),⟨2*(i+l.length)+1,a.t.toNat,a.f.toNat⟩]
  | [],i=>by simp [rlFrom]
  | b::l,i=>by
    simp only [List.cons_append,rlFrom];rw [rlFrom_snoc a l (i+1)];simp only [List.length_cons,List.cons_append]
    rw [show i+1+l.length=i+(l.length+1) from by omega]
theorem rlinks_snoc (l:List Arc) (a:Arc):rlinks (l ++ [a])=rlinks l ++ [(⟨2*l.length,a.f.toNat,a.t.toNat⟩:Lk),⟨2*l.length+1,a.t.toNat,a.f.toNat⟩]:=by
  unfold rlinks; rw [rlFrom_snoc]; simp
theorem rlFrom_len:∀ (l:List Arc) (i:Nat),(rlFrom i l).length=2*l.length
  | [],_=>rfl
  | a::l,i=>by simp [rlFrom,rlFrom_len l (i+1)]; omega
theorem rlinks_len (l:List Arc):(rlinks l).length=2*l.length:=rlFrom_len l 0
theorem rlFrom_mem {n:Nat}:∀ (l:List Arc) (i:Nat),(∀ a∈l,okArc n a=true)→∀ x∈rlFrom i l,x.f<n∧x.t<n∧x.k<2*(i+l.length)
  | [],_,_,x,hx=>by simp [rlFrom] at hx
  | a::l,i,hok,x,hx=>by
    have ha:=okArc_iff.1 (hok a (by simp))
    simp only [rlFrom,List.mem_cons,List.length_cons] at hx ⊢
    rcases hx with rfl|rfl|hx
    · exact ⟨by simp only; omega,by simp only; omega,by simp only; omega⟩
    · exact ⟨by simp only; omega,by simp only; omega,by simp only; omega⟩
    · have:=rlFrom_mem l (i+1) (fun b hb=>hok b (by simp [hb])) x hx
      exact ⟨this.1,this.2.1,by omega⟩
theorem rlinks_mem {n:Nat} {l:List Arc} (hok:∀ a∈l,okArc n a=true) {x:Lk} (hx:x∈rlinks l):x.f<n∧x.t<n∧x.k<2*l.length:=by
  have:=rlFrom_mem l 0 hok x hx
  simpa using this
end Go.Flow
namespace Go.Flow
def opn (ls:List Lk) (rm:Nat→Int) (x:Lk):Prop:=x∈ls∧0<rm x.k
inductive Chn (E:Lk→Prop):Nat→List Lk→Nat→Prop
  | nil {v:Nat}:Chn E v [] v
  | cons {x:Lk} {v:Nat} {p:List Lk} {u:Nat}:x.f=v→E x→Chn E x.t p u→Chn E v (x::p) u
theorem Chn.mono {E E':Lk→Prop} (h:∀ x,E x→E' x) {v u:Nat} {p:List Lk} (hc:Chn E v p u):Chn E' v p u:=by
  induction hc with
  | nil=>exact .nil
  | cons h1 h2 _ ih=>exact .cons h1 (h _ h2) ih
theorem Chn.all {E:Lk→Prop} {v u:Nat} {p:List Lk} (hc:Chn E v p u):∀ x∈p,E x:=by
  induction hc with
  | nil=>simp
  | cons _ h2 _ ih=>intro y hy; simp at hy; rcases hy with rfl|hy; exact h2; exact ih y hy
section
variable {n t:Nat} {ls:List Lk} {rm:Nat→Int} {D:List Int}
theorem nxt_some (hls:∀ x∈ls,x.f<n∧x.t<n) (hD:IsDist n t (opn ls rm) D) {v:Nat} (hv:v<n) (hd:0<D.getD v 0) :
    ∃ x,nxt ls rm D v=some x∧x.f=v∧opn ls rm x∧D.getD x.t 0=D.getD v 0-1:=by
  obtain ⟨y,hy,hyf,hyt⟩:=hD.step v hv hd
  cases e:nxt ls rm D v with
  | none =>
    unfold nxt at e;rw [List.find?_eq_none] at e
    have:=e y hy.1
    exact absurd (by rw [Bool.and_eq_true,Bool.and_eq_true,decide_eq_true_eq,decide_eq_true_eq,near,decide_eq_true_eq]; exact ⟨⟨hy.2,hyf⟩,hyt⟩) this
  | some x =>
    have hm:=List.mem_of_find?_eq_some e
    have hp:=List.find?_some e
    simp only [Bool.and_eq_true,decide_eq_true_eq,near] at hp;exact ⟨x,rfl,hp.1.2,⟨hm,hp.1.1⟩,hp.2⟩
theorem path_chn (hls:∀ x∈ls,x.f<n∧x.t<n) (hD:IsDist n t (opn ls rm) D):∀ (k:Nat) (v:Nat),v<n→D.getD v 0=(k:Int) →
    Chn (fun x=>opn ls rm x∧D.getD x.t 0=D.getD x.f 0-1∧D.getD x.f 0≤k) v (pathD (nxt ls rm D) D v) t:=by
  intro k
  induction k with
  | zero =>
    intro v hv h
    have:=hD.zero v hv h
    subst this
    rw [pathD_end (by omega)]
    exact .nil
  | succ k ih =>
    intro v hv h
    obtain ⟨x,hx,hf,ho,hn⟩:=nxt_some hls hD hv (by omega)
    rw [pathD_step hx (by omega) hn]
    have h2:=ih x.t (hls x ho.1).2 (by rw [hn,h]; omega)
    exact .cons hf ⟨ho,by rw [hf]; exact hn,by rw [hf]; omega⟩ (h2.mono (fun y hy=>⟨hy.1,hy.2.1,by have:=hy.2.2; omega⟩))
theorem path_sorted (hls:∀ x∈ls,x.f<n∧x.t<n) (hD:IsDist n t (opn ls rm) D):∀ (k:Nat) (v:Nat),v<n→D.getD v 0=(k:Int) →
    (pathD (nxt ls rm D) D v).Pairwise (fun x y=>D.getD y.f 0<D.getD x.f 0):=by
  intro k
  induction k with
  | zero =>
    intro v hv h
    rw [pathD_end (by omega)]
    exact List.Pairwise.nil
  | succ k ih =>
    intro v hv h
    obtain ⟨x,hx,hf,ho,hn⟩:=nxt_some hls hD hv (by omega)
    rw [pathD_step hx (by omega) hn]
    have hxt:=(hls x ho.1).2
    refine List.pairwise_cons.2 ⟨fun y hy=>?_,ih x.t hxt (by rw [hn,h]; omega)⟩
    have:=((path_chn hls hD k x.t hxt (by rw [hn,h]; omega)).all y hy).2.2
    rw [hf]; omega
end
/-! ### links of the residual graph -/
theorem rlFrom_iff {x:Lk}:∀ (l:List Arc) (i:Nat),x∈rlFrom i l↔∃ j a,l[j]?=some a∧(x=⟨2*(i+j),a.f.toNat,a.t.toNat⟩∨x=⟨2*(i+j)+1,a.t.toNat,a.f.toNat⟩)
  | [],i=>by simp [rlFrom]
  | a::l,i=>by
    simp only [rlFrom,List.mem_cons];rw [rlFrom_iff l (i+1)]
    constructor
    · rintro (rfl|rfl|⟨j,b,h1,h2⟩)
      · exact ⟨0,a,rfl,.inl rfl⟩
      · exact ⟨0,a,rfl,.inr rfl⟩
      · refine ⟨j+1,b,by simpa using h1,?_⟩
        rw [show i+(j+1)=i+1+j from by omega]; exact h2
    · rintro ⟨j,b,h1,h2⟩
      cases j with
      | zero => simp at h1; subst h1; rcases h2 with h2|h2
                · exact .inl h2
                · exact .inr (.inl h2)
      | succ j =>
        refine .inr (.inr ⟨j,b,by simpa using h1,?_⟩)
        rw [show i+1+j=i+(j+1) from by omega]; exact h2
theorem rlinks_iff {l:List Arc} {x:Lk}:x∈rlinks l↔∃ j a,l[j]?=some a∧(x=⟨2*j,a.f.toNat,a.t.toNat⟩∨x=⟨2*j+1,a.t.toNat,a.f.toNat⟩):=by
  unfold rlinks;rw [rlFrom_iff];simp only [Nat.zero_add]
theorem rlFrom_get:∀ (l:List Arc) (i j:Nat) (a:Arc),l[j]?=some a→(rlFrom i l)[2*j]?=some ⟨2*(i+j),a.f.toNat,a.t.toNat⟩∧(rlFrom i l)[2*j+1]?=some ⟨2*(i+j)+1,a.t.toNat,a.f.toNat⟩
  | [],i,j,a,h=>by simp at h
  | b::l,i,j,a,h=>by
    cases j with
    | zero=>simp at h; subst h; simp [rlFrom]
    | succ j =>
      have:=rlFrom_get l (i+1) j a (by simpa using h)
      rw [show 2*(j+1)=2*j+1+1 from by omega]
      simp only [rlFrom,List.getElem?_cons_succ]
      rw [show i+(j+1)=i+1+j from by omega]
      exact this
theorem rlinks_get {l:List Arc} {k:Nat} (h:k<2*l.length):∃ x,(rlinks l)[k]?=some x∧x.k=k:=by
  have hlt:k / 2<l.length:=by omega
  have:=rlFrom_get l 0 (k / 2) l[k / 2] (List.getElem?_eq_getElem hlt)
  unfold rlinks
  by_cases hp:k % 2=0
  · refine ⟨_,by rw [show k=2*(k / 2) from by omega]; exact this.1,?_⟩
    dsimp only; omega
  · refine ⟨_,by rw [show k=2*(k / 2)+1 from by omega]; exact this.2,?_⟩
    dsimp only; omega
theorem fval_set (v:Int):∀ (l:List Arc) (fl:List Int) (i:Nat) (a:Arc) (y:Int),l[i]?=some a→l.length=fl.length →
    fval v l (fl.set i y)=fval v l fl+((if a.f=v then y-fl.getD i 0 else 0)-(if a.t=v then y-fl.getD i 0 else 0))
  | [],_,i,a,y,h,_=>by simp at h
  | b::l,[],i,a,y,_,h=>by simp at h
  | b::l,x::fl,i,a,y,h,hl=>by
    cases i with
    | zero =>
      simp at h; subst h
      simp only [List.set_cons_zero,fval,List.getD_cons_zero]
      split <;> split <;> omega
    | succ i =>
      simp only [List.set_cons_succ,fval,List.getD_cons_succ]
      rw [fval_set v l fl i a y (by simpa using h) (by simpa using hl)]
      omega
theorem inCap_set:∀ (l:List Arc) (fl:List Int) (i:Nat) (a:Arc) (y:Int),l[i]?=some a→inCap l fl=true→0≤y→y≤a.c→inCap l (fl.set i y)=true
  | [],_,i,a,y,h,_,_,_=>by simp at h
  | b::l,[],i,a,y,_,h,_,_=>by simp [inCap]
  | b::l,x::fl,i,a,y,h,hc,h1,h2=>by
    simp only [inCap,Bool.and_eq_true,decide_eq_true_eq] at hc
    cases i with
    | zero =>
      simp at h; subst h
      simp only [List.set_cons_zero,inCap,Bool.and_eq_true,decide_eq_true_eq];exact ⟨⟨h1,h2⟩,hc.2⟩
    | succ i =>
      simp only [List.set_cons_succ,inCap,Bool.and_eq_true,decide_eq_true_eq]
      exact ⟨hc.1,inCap_set l fl i a y (by simpa using h) hc.2 h1 h2⟩
def augR (room:Int) (fl:List Int) (x:Lk):List Int:=fl.set (x.k / 2) (if x.k % 2=0 then fl.getD (x.k / 2) 0+room else fl.getD (x.k / 2) 0-room)
def augAll (room:Int) (fl:List Int) (p:List Lk):List Int:=p.foldl (augR room) fl
theorem augR_len (room:Int) (fl:List Int) (x:Lk):(augR room fl x).length=fl.length:=by simp [augR]
theorem augAll_len (room:Int):∀ (p:List Lk) (fl:List Int),(augAll room fl p).length=fl.length
  | [],fl=>rfl
  | x::p,fl=>by
    have:=augAll_len room p (augR room fl x)
    rw [augR_len] at this;exact this
theorem getD_set' {l:List Int} {i j:Nat} {x:Int} (h:i≠j):(l.set i x).getD j 0=l.getD j 0:=by
  rw [List.getD_eq_getElem?_getD,List.getElem?_set_ne h,← List.getD_eq_getElem?_getD]
theorem augR_ok {n:Nat} {l:List Arc} {fl:List Int} {x:Lk} {room:Int} (hok:∀ a∈l,okArc n a=true) (hl:l.length=fl.length) (hc:inCap l fl=true) (hx:x∈rlinks l) (h0:0≤room) (hr:room≤rmR l fl x.k) :
    inCap l (augR room fl x)=true∧(∀ v:Nat,fval v l (augR room fl x)=fval v l fl+((if x.f=v then room else 0)-(if x.t=v then room else 0)))∧∀ k,k / 2≠x.k / 2→rmR l (augR room fl x) k=rmR l fl k:=by
  obtain ⟨j,a,ha,hxe⟩:=rlinks_iff.1 hx
  have hjl:j<l.length:=(List.getElem?_eq_some_iff.1 ha).1
  have hfj:fl[j]?=some (fl.getD j 0):=by simp [List.getD_eq_getElem?_getD,show j<fl.length by omega]
  have hlj:l.getD j default=a:=by simp [List.getD_eq_getElem?_getD,ha]
  have hin:=inCap_get l fl hc j a _ ha hfj
  obtain ⟨g1,g2,g3,g4,g5,g6,g7⟩:=okArc_iff.1 (hok a (List.mem_of_getElem? ha))
  have hrest:∀ k,k / 2≠x.k / 2→rmR l (augR room fl x) k=rmR l fl k:=fun k hk=>by
    unfold rmR augR;rw [getD_set' (Ne.symm hk)]
  refine ⟨?_,?_,hrest⟩
  · rcases hxe with rfl|rfl
    · unfold rmR at hr
      unfold augR
      dsimp only at hr ⊢
      rw [show 2*j / 2=j from by omega,if_pos (by omega),hlj] at hr
      rw [show 2*j / 2=j from by omega,if_pos (by omega)]
      exact inCap_set l fl j a _ ha hc (by omega) (by omega)
    · unfold rmR at hr
      unfold augR
      dsimp only at hr ⊢
      rw [show (2*j+1) / 2=j from by omega,if_neg (by omega)] at hr
      rw [show (2*j+1) / 2=j from by omega,if_neg (by omega)]
      exact inCap_set l fl j a _ ha hc (by omega) (by omega)
  · intro v
    rcases hxe with rfl|rfl
    · unfold augR
      dsimp only
      rw [show 2*j / 2=j from by omega,if_pos (by omega),fval_set v l fl j a _ ha hl]
      have e1:(a.f=(v:Int))↔(a.f.toNat=v):=by omega
      have e2:(a.t=(v:Int))↔(a.t.toNat=v):=by omega
      simp only [e1,e2]
      split <;> split <;> omega
    · unfold augR
      dsimp only
      rw [show (2*j+1) / 2=j from by omega,if_neg (by omega),fval_set v l fl j a _ ha hl]
      have e1:(a.f=(v:Int))↔(a.f.toNat=v):=by omega
      have e2:(a.t=(v:Int))↔(a.t.toNat=v):=by omega
      simp only [e1,e2]
      split <;> split <;> omega
theorem augAll_ok {n:Nat} {l:List Arc} {room:Int} (hok:∀ a∈l,okArc n a=true) (h0:0≤room) {E:Lk→Prop} (hE:∀ x,E x→x∈rlinks l) {u w:Nat} {p:List Lk} (hp:Chn E u p w) :
    ∀ (fl:List Int),l.length=fl.length→inCap l fl=true→p.Pairwise (fun x y=>x.k / 2≠y.k / 2)→(∀ x∈p,room≤rmR l fl x.k) →
    inCap l (augAll room fl p)=true∧∀ v:Nat,fval v l (augAll room fl p)=fval v l fl+((if u=v then room else 0)-(if w=v then room else 0)):=by
  induction hp with
  | nil=>intro fl _ hc _ _; exact ⟨hc,fun v=>by simp [augAll]⟩
  | @cons x u p w hf hx _ ih =>
    intro fl hl hc hpw hr
    rw [List.pairwise_cons] at hpw
    obtain ⟨s1,s2,s3⟩:=augR_ok hok hl hc (hE x hx) h0 (hr x (by simp))
    obtain ⟨r1,r2⟩:=ih (augR room fl x) (by rw [augR_len]; exact hl) s1 hpw.2 (fun y hy=>by rw [s3 y.k (Ne.symm (hpw.1 y hy))]; exact hr y (by simp [hy]))
    refine ⟨r1,fun v=>?_⟩
    have:=r2 v
    rw [s2 v] at this
    show fval v l (augAll room (augR room fl x) p)=_
    rw [this,hf]
    split <;> split <;> split <;> omega
theorem leastR_le (rm:Nat→Int):∀ (p:List Lk) (m:Int),p.foldl (fun m x=>min m (rm x.k)) m≤m∧∀ x∈p,p.foldl (fun m x=>min m (rm x.k)) m≤rm x.k
  | [],m=>by simp
  | y::p,m=>by
    have ih:=leastR_le rm p (min m (rm y.k))
    refine ⟨by simp only [List.foldl_cons]; omega,fun x hx=>?_⟩
    simp only [List.foldl_cons]
    simp at hx
    rcases hx with rfl|hx
    · omega
    · exact ih.2 x hx
theorem leastR_pos (rm:Nat→Int):∀ (p:List Lk) (m:Int),0<m→(∀ x∈p,0<rm x.k)→0<p.foldl (fun m x=>min m (rm x.k)) m
  | [],m,h,_=>by simpa using h
  | y::p,m,h,hp=>by
    simp only [List.foldl_cons]
    exact leastR_pos rm p _ (by have:=hp y (by simp); omega) (fun x hx=>hp x (by simp [hx]))
structure Flw (n:Nat) (l:List Arc) (s t:Nat) (fl:List Int):Prop where
  len:l.length=fl.length
  cap:inCap l fl=true
  bal:∀ v:Nat,v<n→v≠s→v≠t→fval v l fl=0
section
variable {n s t:Nat} {l:List Arc}
theorem rl_lt (hok:∀ a∈l,okArc n a=true):∀ x∈rlinks l,x.f<n∧x.t<n:=fun _ hx=>⟨(rlinks_mem hok hx).1,(rlinks_mem hok hx).2.1⟩
abbrev rE (l:List Arc) (fl:List Int):Lk→Prop:=opn (rlinks l) (rmR l fl)
abbrev rP (l:List Arc) (fl:List Int) (D:List Int) (s:Nat):List Lk:=pathD (nxt (rlinks l) (rmR l fl) D) D s
abbrev rNext (l:List Arc) (fl:List Int) (D:List Int) (s:Nat):List Int:=augAll (leastR (rmR l fl) (rP l fl D s)) fl (rP l fl D s)
theorem rP_arcs (hok:∀ a∈l,okArc n a=true) (hs:s<n) {fl D:List Int} (hD:IsDist n t (rE l fl) D) (h0:0≤D.getD s 0):(rP l fl D s).Pairwise (fun x y=>x.k / 2≠y.k / 2):=by
  obtain ⟨k,hk⟩:=Int.eq_ofNat_of_zero_le h0
  have hp:=path_sorted (rl_lt hok) hD k s hs hk
  have hc:=(path_chn (rl_lt hok) hD k s hs hk).all
  refine List.Pairwise.imp_of_mem (fun {x y} hx hy hxy e=>?_) hp
  obtain ⟨i,a,ha,hxe⟩:=rlinks_iff.1 (hc x hx).1.1
  obtain ⟨j,b,hb,hye⟩:=rlinks_iff.1 (hc y hy).1.1
  have dx:=(hc x hx).2.1
  have dy:=(hc y hy).2.1
  have hij:i=j:=by rcases hxe with rfl|rfl <;> rcases hye with rfl|rfl <;> (dsimp only at e; omega)
  subst hij;rw [ha] at hb
  obtain rfl:=Option.some.inj hb
  rcases hxe with rfl|rfl <;> rcases hye with rfl|rfl <;> (dsimp only at hxy dx dy; omega)
theorem rNext_ok (hok:∀ a∈l,okArc n a=true) (hs:s<n) (hst:s≠t) {fl D:List Int} (hf:Flw n l s t fl) (hD:IsDist n t (rE l fl) D) (h0:0≤D.getD s 0) :
    Flw n l s t (rNext l fl D s)∧0<leastR (rmR l fl) (rP l fl D s)∧fval s l (rNext l fl D s)=fval s l fl+leastR (rmR l fl) (rP l fl D s):=by
  obtain ⟨k,hk⟩:=Int.eq_ofNat_of_zero_le h0
  have hch:=path_chn (rl_lt hok) hD k s hs hk
  have hpos:0<leastR (rmR l fl) (rP l fl D s):=leastR_pos _ _ _ (by omega) (fun x hx=>(hch.all x hx).1.2)
  obtain ⟨r1,r2⟩:=augAll_ok hok (Int.le_of_lt hpos) (E:=fun x=>rE l fl x∧D.getD x.t 0=D.getD x.f 0-1∧D.getD x.f 0≤k) (fun x hx=>hx.1.1) hch fl hf.len hf.cap (rP_arcs hok hs hD h0) (fun x hx=>(leastR_le _ _ _).2 x hx)
  refine ⟨⟨by rw [augAll_len]; exact hf.len,r1,fun v hv h1 h2=>?_⟩,hpos,?_⟩
  · rw [r2 v,if_neg (Ne.symm h1),if_neg (Ne.symm h2),hf.bal v hv h1 h2]; rfl
  · rw [r2 s,if_pos rfl,if_neg (Ne.symm hst)]; omega
end
inductive RunR (n:Nat) (l:List Arc) (s t:Nat):List Int→List Int→Prop
  | done {fl D:List Int}:IsDist n t (rE l fl) D→D.getD s 0<0→RunR n l s t fl fl
  | step {fl D F:List Int}:IsDist n t (rE l fl) D→0≤D.getD s 0→RunR n l s t (rNext l fl D s) F→RunR n l s t fl F
theorem RunR.uniq {n s t:Nat} {l:List Arc} (hok:∀ a∈l,okArc n a=true) {fl F G:List Int} (h1:RunR n l s t fl F) (h2:RunR n l s t fl G):F=G:=by
  have hE:∀ fl x,rE l fl x→x.f<n∧x.t<n:=fun fl x hx=>rl_lt hok x hx.1
  induction h1 generalizing G with
  | done hD hn =>
    cases h2 with
    | done=>rfl
    | step hD2 h0 _=>rw [hD.uniq (hE _) hD2] at hn; omega
  | step hD h0 _ ih =>
    cases h2 with
    | done hD2 hn=>rw [hD.uniq (hE _) hD2] at h0; omega
    | step hD2 _ hr=>rw [hD.uniq (hE _) hD2] at ih; exact ih hr
theorem RunR.flw {n s t:Nat} {l:List Arc} (hok:∀ a∈l,okArc n a=true) (hs:s<n) (hst:s≠t) {fl F:List Int} (h:RunR n l s t fl F):Flw n l s t fl→Flw n l s t F∧∃ D,IsDist n t (rE l F) D∧D.getD s 0<0:=by
  induction h with
  | done hD hn=>intro hf; exact ⟨hf,_,hD,hn⟩
  | step hD h0 _ ih=>intro hf; exact ih (rNext_ok hok hs hst hf hD h0).1
theorem fval_zeros (v:Int):∀ (l:List Arc),fval v l (List.replicate l.length 0)=0
  | []=>rfl
  | a::l=>by simp only [List.length_cons,List.replicate_succ,fval]; rw [fval_zeros v l]; split <;> split <;> rfl
theorem inCap_zeros {n:Nat}:∀ (l:List Arc),(∀ a∈l,okArc n a=true)→inCap l (List.replicate l.length 0)=true
  | [],_=>rfl
  | a::l,h=>by
    have ha:=okArc_iff.1 (h a (by simp))
    simp only [List.length_cons,List.replicate_succ,inCap,Bool.and_eq_true,decide_eq_true_eq]
    exact ⟨⟨by omega,by omega⟩,inCap_zeros l (fun b hb=>h b (by simp [hb]))⟩
theorem flw_zeros {n s t:Nat} {l:List Arc} (hok:∀ a∈l,okArc n a=true):Flw n l s t (List.replicate l.length 0):=⟨by simp,inCap_zeros l hok,fun v _ _ _=>fval_zeros v l⟩
end Go.Flow
namespace Go.Flow
theorem opens_eq {n:Nat} {ls:List Lk} (hls:∀ x∈ls,x.f<n∧x.t<n) (rm:Nat→Int):(fun x=>x.t<n∧x∈insOf ls x.t∧0<rm x.k)=opn ls rm:=by
  funext x
  apply propext
  unfold opn insOf;rw [List.mem_filter]
  constructor
  · rintro ⟨_,⟨h,_⟩,h2⟩; exact ⟨h,h2⟩
  · rintro ⟨h,h2⟩; exact ⟨(hls x h).2,⟨h,by simp⟩,h2⟩
theorem nxt_eq (ls:List Lk) (rm:Nat→Int) (D:List Int):(fun v=>((outsOf ls v).filter (fun x=>decide (0<rm x.k))).find? (near D v))=nxt ls rm D:=by
  funext v
  unfold nxt outsOf;rw [find_filter,find_filter]
  congr 1
  funext x
  rw [← Bool.and_assoc,Bool.and_comm (decide (x.f=v))]
theorem Chn.take {E:Lk→Prop} {v u:Nat} {p:List Lk} (hc:Chn E v p u):∀ i,∃ w,Chn E v (p.take i) w:=by
  induction hc with
  | nil=>intro i; exact ⟨_,by simpa using Chn.nil⟩
  | cons h1 h2 _ ih =>
    intro i
    cases i with
    | zero=>exact ⟨_,by simpa using Chn.nil⟩
    | succ i=>obtain ⟨w,hw⟩:=ih i; exact ⟨w,.cons h1 h2 hw⟩
theorem rTake_cap {n s t:Nat} {l:List Arc} (hok:∀ a∈l,okArc n a=true) (hs:s<n) {fl D:List Int} (hf:Flw n l s t fl) (hD:IsDist n t (rE l fl) D) (h0:0≤D.getD s 0) (i:Nat) :
    inCap l (augAll (leastR (rmR l fl) (rP l fl D s)) fl ((rP l fl D s).take i))=true:=by
  obtain ⟨k,hk⟩:=Int.eq_ofNat_of_zero_le h0
  have hch:=path_chn (rl_lt hok) hD k s hs hk
  have hpos:0<leastR (rmR l fl) (rP l fl D s):=leastR_pos _ _ _ (by omega) (fun x hx=>(hch.all x hx).1.2)
  obtain ⟨w,hw⟩:=hch.take i
  exact (augAll_ok hok (Int.le_of_lt hpos) (E:=fun x=>rE l fl x∧D.getD x.t 0=D.getD x.f 0-1∧D.getD x.f 0≤k) (fun x hx=>hx.1.1) hw fl hf.len hf.cap ((rP_arcs hok hs hD h0).sublist (List.take_sublist _ _)) (fun x hx=>(leastR_le _ _ _).2 x (List.mem_of_mem_take hx))).1
theorem augAll_snoc (room:Int) (fl:List Int) (p:List Lk) (x:Lk):augAll room fl (p ++ [x])=augR room (augAll room fl p) x:=by simp [augAll]
theorem path_len {n t:Nat} {ls:List Lk} {rm:Nat→Int} {D:List Int} (hls:∀ x∈ls,x.f<n∧x.t<n) (hD:IsDist n t (opn ls rm) D):∀ (k:Nat) (v:Nat),v<n→D.getD v 0=(k:Int)→(pathD (nxt ls rm D) D v).length=k:=by
  intro k
  induction k with
  | zero=>intro v hv h; rw [pathD_end (by omega)]; rfl
  | succ k ih =>
    intro v hv h
    obtain ⟨x,hx,hf,ho,hn⟩:=nxt_some hls hD hv (by omega)
    rw [pathD_step hx (by omega) hn,List.length_cons,ih x.t (hls x ho.1).2 (by rw [hn,h]; omega)]
end Go.Flow
namespace Go.Flow
def sumTo (g:Nat→Int):Nat→Int
  | 0=>0
  | n+1=>sumTo g n+g n
theorem sumTo_add (g h:Nat→Int):∀ n,sumTo (fun v=>g v+h v) n=sumTo g n+sumTo h n
  | 0=>rfl
  | n+1=>by simp only [sumTo]; rw [sumTo_add g h n]; omega
theorem sumTo_congr {g h:Nat→Int}:∀ n,(∀ v,v<n→g v=h v)→sumTo g n=sumTo h n
  | 0,_=>rfl
  | n+1,e=>by simp only [sumTo]; rw [sumTo_congr n (fun v hv=>e v (by omega)),e n (by omega)]
theorem sumTo_zero {g:Nat→Int}:∀ n,(∀ v,v<n→g v=0)→sumTo g n=0
  | 0,_=>rfl
  | n+1,e=>by simp only [sumTo]; rw [sumTo_zero n (fun v hv=>e v (by omega)),e n (by omega)]; rfl
theorem sumTo_one {g:Nat→Int} {k:Nat}:∀ n,k<n→(∀ v,v<n→v≠k→g v=0)→sumTo g n=g k
  | 0,h,_=>by omega
  | n+1,h,e=>by
    simp only [sumTo]
    by_cases hk:k=n
    · subst hk
      rw [sumTo_zero k (fun v hv=>e v (by omega) (by omega))]; omega
    · rw [sumTo_one n (by omega) (fun v hv hne=>e v (by omega) hne),e n (by omega) (by omega)]; omega
def netB (B:Nat→Bool):List Arc→List Int→Int
  | a::l,x::fl=>((if B a.f.toNat=true then x else 0)-(if B a.t.toNat=true then x else 0))+netB B l fl
  | _,_=>0
theorem netB_eq {n:Nat} (B:Nat→Bool):∀ (l:List Arc) (fl:List Int),(∀ a∈l,okArc n a=true)→sumTo (fun v=>if B v=true then fval v l fl else 0) n=netB B l fl
  | [],fl,_=>by
    rw [sumTo_zero n (fun v _=>by simp [fval])]; rfl
  | a::l,[],_=>by
    rw [sumTo_zero n (fun v _=>by simp [fval])]; rfl
  | a::l,x::fl,h=>by
    obtain ⟨g1,g2,g3,g4,_⟩:=okArc_iff.1 (h a (by simp))
    have ih:=netB_eq B l fl (fun b hb=>h b (by simp [hb]))
    simp only [netB];rw [← ih]
    have e1:sumTo (fun v=>if B v=true then (if a.f=(v:Int) then x else 0) else 0) n=if B a.f.toNat=true then x else 0:=by
      rw [sumTo_one (k:=a.f.toNat) n (by omega) (fun v _ hne=>by rw [if_neg (show ¬ a.f=(v:Int) by omega)]; split <;> rfl)]
      rw [if_pos (show a.f=((a.f.toNat:Nat):Int) by omega)]
    have e2:sumTo (fun v=>if B v=true then (if a.t=(v:Int) then -x else 0) else 0) n=if B a.t.toNat=true then -x else 0:=by
      rw [sumTo_one (k:=a.t.toNat) n (by omega) (fun v _ hne=>by rw [if_neg (show ¬ a.t=(v:Int) by omega)]; split <;> rfl)]
      rw [if_pos (show a.t=((a.t.toNat:Nat):Int) by omega)]
    have e3:sumTo (fun v=>if B v=true then fval v (a::l) (x::fl) else 0) n=sumTo (fun v=>((if B v=true then (if a.f=(v:Int) then x else 0) else 0)+(if B v=true then (if a.t=(v:Int) then -x else 0) else 0))+(if B v=true then fval v l fl else 0)) n:=by
      apply sumTo_congr
      intro v _
      simp only [fval]
      repeat' split
      all_goals omega
    rw [e3,sumTo_add,sumTo_add,e1,e2]
    repeat' split
    all_goals omega
section
variable {n s t:Nat} {l:List Arc} {fl:List Int} {B:Nat→Bool}
theorem Flw.net (hok:∀ a∈l,okArc n a=true) (hf:Flw n l s t fl) (hs:s<n) (h1:B s=true) (h2:B t=false):netB B l fl=fval s l fl:=by
  rw [← netB_eq B l fl hok,sumTo_one (k:=s) n hs (fun v hv hne=>?_)]
  · rw [if_pos h1]
  · split
    · rename_i hb
      exact hf.bal v hv hne (fun e=>by subst e; rw [h2] at hb; simp at hb)
    · rfl
end
def tight (B:Nat→Bool) (l:List Arc) (fl:List Int):Prop:=
  ∀ (i:Nat) (a:Arc) (x:Int),l[i]?=some a→fl[i]?=some x→(B a.f.toNat=true→B a.t.toNat=false→x=a.c)∧(B a.f.toNat=false→B a.t.toNat=true→x=0)
theorem net_le (B:Nat→Bool):∀ (l:List Arc) (fl:List Int),l.length=fl.length→inCap l fl=true→(∀ a∈l,0≤a.c)→netB B l fl≤capOf B l∧(netB B l fl=capOf B l↔tight B l fl)
  | [],[],_,_,_=>⟨by simp [netB,capOf],by simp [netB,capOf,tight]⟩
  | a::l,x::fl,hl,h,h0=>by
    simp only [inCap,Bool.and_eq_true,decide_eq_true_eq] at h
    obtain ⟨ih1,ih2⟩:=net_le B l fl (by simpa using hl) h.2 (fun b hb=>h0 b (by simp [hb]))
    have ha:=h0 a (by simp)
    simp only [netB,capOf]
    have hstep:tight B (a::l) (x::fl)↔(((B a.f.toNat=true→B a.t.toNat=false→x=a.c)∧(B a.f.toNat=false→B a.t.toNat=true→x=0))∧tight B l fl):=by
      constructor
      · intro ht
        exact ⟨ht 0 a x rfl rfl,fun i b y hb hy=>ht (i+1) b y (by simpa using hb) (by simpa using hy)⟩
      · rintro ⟨h1,h2⟩ i b y hb hy
        cases i with
        | zero=>simp at hb hy; subst hb; subst hy; exact h1
        | succ i=>exact h2 i b y (by simpa using hb) (by simpa using hy)
    rw [hstep,← ih2]
    cases hB1:B a.f.toNat <;> cases hB2:B a.t.toNat <;> simp <;> omega
inductive Rch (E:Lk→Prop) (s:Nat):Nat→Prop
  | refl:Rch E s s
  | step {x:Lk}:Rch E s x.f→E x→Rch E s x.t
theorem Rch.far {n s t:Nat} {E:Lk→Prop} {D:List Int} (hD:IsDist n t E D) (hs:D.getD s 0<0) {v:Nat} (h:Rch E s v):D.getD v 0<0:=by
  induction h with
  | refl=>exact hs
  | @step x _ hx ih =>
    apply Classical.byContradiction
    intro hc
    have:=(hD.link x hx (by omega)).1
    omega
theorem Rch.sub {E:Lk→Prop} {s:Nat} {B:Nat→Bool} (hs:B s=true) (hcl:∀ x,E x→B x.f=true→B x.t=true) {v:Nat} (h:Rch E s v):B v=true:=by
  induction h with
  | refl=>exact hs
  | step _ hx ih=>exact hcl _ hx ih
section
variable {n s t:Nat} {l:List Arc} {fl:List Int} {B:Nat→Bool}
theorem tight_iff (hl:l.length=fl.length) (hc:inCap l fl=true):tight B l fl↔∀ x,rE l fl x→B x.f=true→B x.t=true:=by
  have hgl:∀ (i:Nat) (a:Arc),l[i]?=some a→l.getD i default=a∧∃ x,fl[i]?=some x∧fl.getD i 0=x:=fun i a ha=>by
    have hi:i<l.length:=(List.getElem?_eq_some_iff.1 ha).1
    have hi2:i<fl.length:=by omega
    refine ⟨by simp [List.getD_eq_getElem?_getD,ha],fl[i],List.getElem?_eq_getElem hi2,by simp [List.getD_eq_getElem?_getD,hi2]⟩
  constructor
  · rintro ht x ⟨hx,hr⟩ hB
    obtain ⟨i,a,ha,hxe⟩:=rlinks_iff.1 hx
    obtain ⟨e1,y,hy,e2⟩:=hgl i a ha
    obtain ⟨t1,t2⟩:=ht i a y ha hy
    have hin:=inCap_get l fl hc i a y ha hy
    unfold rmR at hr
    rcases hxe with rfl|rfl
    · dsimp only at hr hB ⊢
      rw [if_pos (by omega),show 2*i / 2=i from by omega,e1,e2] at hr
      cases hb:B a.t.toNat with
      | true=>rfl
      | false=>have:=t1 hB hb; omega
    · dsimp only at hr hB ⊢
      rw [if_neg (by omega),show (2*i+1) / 2=i from by omega,e2] at hr
      cases hb:B a.f.toNat with
      | true=>rfl
      | false=>have:=t2 hb hB; omega
  · intro h i a y ha hy
    obtain ⟨e1,y',hy',e2⟩:=hgl i a ha
    rw [hy] at hy'
    obtain rfl:=Option.some.inj hy'
    have hin:=inCap_get l fl hc i a y ha hy
    constructor
    · intro h1 h2
      have:=h ⟨2*i,a.f.toNat,a.t.toNat⟩
      apply Classical.byContradiction
      intro hne
      have h3:=this ⟨rlinks_iff.2 ⟨i,a,ha,.inl rfl⟩,by unfold rmR; dsimp only; rw [if_pos (by omega),show 2*i / 2=i from by omega,e1,e2]; omega⟩ h1
      dsimp only at h3
      rw [h2] at h3; simp at h3
    · intro h1 h2
      have:=h ⟨2*i+1,a.t.toNat,a.f.toNat⟩
      apply Classical.byContradiction
      intro hne
      have h3:=this ⟨rlinks_iff.2 ⟨i,a,ha,.inr rfl⟩,by unfold rmR; dsimp only; rw [if_neg (by omega),show (2*i+1) / 2=i from by omega,e2]; omega⟩ h2
      dsimp only at h3
      rw [h1] at h3; simp at h3
theorem ok_cap (hok:∀ a∈l,okArc n a=true):∀ a∈l,0≤a.c:=fun a ha=>by have:=okArc_iff.1 (hok a ha); omega
theorem Flw.le_cap (hok:∀ a∈l,okArc n a=true) (hf:Flw n l s t fl) (hs:s<n) (h1:B s=true) (h2:B t=false):fval s l fl≤capOf B l:=by
  rw [← hf.net hok hs h1 h2];exact (net_le B l fl hf.len hf.cap (ok_cap hok)).1
def IsReach (n:Nat) (E:Lk→Prop) (s:Nat) (B:Nat→Bool):Prop:=∀ v,v<n→(B v=true↔Rch E s v)
theorem IsReach.closed {E:Lk→Prop} (hE:∀ x,E x→x.f<n∧x.t<n) (h:IsReach n E s B):∀ x,E x→B x.f=true→B x.t=true:=
  fun x hx hb=>(h x.t (hE x hx).2).2 (.step ((h x.f (hE x hx).1).1 hb) hx)
theorem run_cut (hok:∀ a∈l,okArc n a=true) (hs:s<n) (ht:t<n) (hst:s≠t) (hr:RunR n l s t (List.replicate l.length 0) fl) (hB:IsReach n (rE l fl) s B) :
    Flw n l s t fl∧B s=true∧B t=false∧fval s l fl=capOf B l:=by
  obtain ⟨hf,D,hD,hn⟩:=hr.flw hok hs hst (flw_zeros hok)
  have hE:∀ x,rE l fl x→x.f<n∧x.t<n:=fun x hx=>rl_lt hok x hx.1
  have b1:B s=true:=(hB s hs).2 .refl
  have b2:B t=false:=by
    cases hb:B t with
    | false=>rfl
    | true =>
      have:=((hB t ht).1 hb).far hD hn
      rw [hD.at0] at this; omega
  refine ⟨hf,b1,b2,?_⟩;rw [← hf.net hok hs b1 b2];exact (net_le B l fl hf.len hf.cap (ok_cap hok)).2.2 ((tight_iff hf.len hf.cap).2 (hB.closed hE))
end
theorem exists_reach (n:Nat) (E:Lk→Prop) (s:Nat):∃ B,IsReach n E s B:=by
  refine ⟨fun v=>open Classical in decide (Rch E s v),fun v _=>?_⟩
  simp
end Go.Flow
namespace Go.Step
open Go.Flow (capOf chk okArc okArc_iff)
abbrev Arc:=Go.Flow.Arc
structure VOk (qs:List Int) (cs:List Ct) (bs:List Bk) (hs:List Hd) (d:Dm):Prop where
  ct:∀ c∈cs,(0≤c.f∧c.f<qs.length)∧(0≤c.t∧c.t<qs.length)∧(0≤c.s∧c.s<c.e∧c.e≤1099511627776)∧(1≤c.r∧c.r≤1000)∧(1≤c.g∧c.g≤1048576)
  nb:bs.length≤512
  bk:firstE (bkE cs bs) bs.length=0
  hd:∀ x∈hs,okHd qs.length x
  nh:hs.length≤512
  fit:fitB qs hs=true
  nq:1≤qs.length∧qs.length≤16
  quo:∀ (j:Nat) (q:Int),qs[j]?=some q→0≤q∧q≤1073741824
  dm:okDm qs.length d
  nc:cs.length≤64
def wd (d:Dm):Int:=d.e-d.r+1
def vtx (d:Dm) (n t:Int):Int:=n*wd d+(t-d.r)
theorem vtx_div {d:Dm} {n t:Int} (h1:d.r≤t) (h2:t≤d.e):vtx d n t / wd d=n:=by
  unfold vtx
  have hw:wd d≠0:=by unfold wd; omega
  rw [Int.add_comm,Int.add_mul_ediv_right _ _ hw,Int.ediv_eq_zero_of_lt (by omega) (by unfold wd; omega),Int.zero_add]
theorem vtx_mod {d:Dm} {n t:Int} (h1:d.r≤t) (h2:t≤d.e):vtx d n t % wd d=t-d.r:=by
  unfold vtx
  rw [Int.add_comm,Int.add_mul_emod_self_right,Int.emod_eq_of_lt (by omega) (by unfold wd; omega)]
theorem vtx_inj {d:Dm} {n t m u:Int} (h1:d.r≤t) (h2:t≤d.e) (h3:d.r≤u) (h4:u≤d.e) (h:vtx d n t=vtx d m u):n=m∧t=u:=by
  have a:=vtx_div (n:=n) h1 h2
  have b:=vtx_mod (n:=n) h1 h2
  rw [h] at a b;rw [vtx_div h3 h4] at a;rw [vtx_mod h3 h4] at b;omega
theorem vtx_next (d:Dm) (n t:Int):vtx d n (t+1)=vtx d n t+1:=by unfold vtx; omega
theorem vtx_lt {d:Dm} {n t:Int} {N:Nat} (h1:0≤n) (h2:n<N) (h3:d.r≤t) (h4:t≤d.e):0≤vtx d n t∧vtx d n t<N*wd d:=by
  have hw:0≤wd d:=by unfold wd; omega
  have a:=Int.mul_nonneg h1 hw
  have b:=Int.mul_le_mul_of_nonneg_right (show n+1≤(N:Int) by omega) hw
  rw [Int.add_mul,Int.one_mul] at b;unfold vtx
  have e:wd d=d.e-d.r+1:=rfl
  omega
theorem vtx_of {d:Dm} {v:Int} {N:Nat} (hw:0<wd d) (h1:0≤v) (h2:v<N*wd d):(0≤v / wd d∧v / wd d<N)∧(d.r≤d.r+v % wd d∧d.r+v % wd d≤d.e)∧vtx d (v / wd d) (d.r+v % wd d)=v:=by
  have a:=Int.ediv_nonneg h1 (Int.le_of_lt hw)
  have b:=Int.ediv_lt_of_lt_mul hw h2
  have c:=Int.emod_nonneg v (Int.ne_of_gt hw)
  have e:=Int.emod_lt_of_pos v hw
  have f:=Int.mul_ediv_add_emod v (wd d)
  refine ⟨⟨a,b⟩,⟨by omega,by unfold wd at *; omega⟩,?_⟩
  unfold vtx;rw [Int.mul_comm];omega
structure EA where
  a:Arc
  c:Int
  t:Int
deriving DecidableEq
def waitN (qs:List Int) (hs:List Hd) (d:Dm) (n:Int):List EA:=(rngI d.r d.e).map (fun t=>⟨⟨vtx d n t,vtx d n (t+1),roomT qs hs d n t⟩,-1,t⟩)
def waitA (qs:List Int) (hs:List Hd) (d:Dm):Nat→List EA
  | 0=>[]
  | n+1=>waitA qs hs d n ++ waitN qs hs d n
def conE (d:Dm) (c:Ct) (i t:Int):EA:=⟨⟨vtx d c.f t,vtx d c.t (t+1+c.g),c.r⟩,i,t⟩
def conN (cs:List Ct) (bs:List Bk) (d:Dm) (i:Nat):List EA:=match cs[i]? with
  | none=>[]
  | some c=>(tickL d.r d.e c.g (freeC cs bs i)).map (conE d c i)
def conA (cs:List Ct) (bs:List Bk) (d:Dm):Nat→List EA
  | 0=>[]
  | i+1=>conA cs bs d i ++ conN cs bs d i
def arcsE (qs:List Int) (cs:List Ct) (bs:List Bk) (hs:List Hd) (d:Dm):List EA:=waitA qs hs d qs.length ++ conA cs bs d cs.length
def arcsG (qs:List Int) (cs:List Ct) (bs:List Bk) (hs:List Hd) (d:Dm):List Arc:=(arcsE qs cs bs hs d).map (fun x=>x.a)
theorem mem_waitA {qs:List Int} {hs:List Hd} {d:Dm} {x:EA}:∀ {m:Nat},x∈waitA qs hs d m↔∃ n:Nat,n<m∧∃ t,d.r≤t∧t<d.e∧x=⟨⟨vtx d n t,vtx d n (t+1),roomT qs hs d n t⟩,-1,t⟩
  | 0=>by simp [waitA]
  | m+1=>by
    unfold waitA;rw [List.mem_append,mem_waitA (m:=m)];unfold waitN;rw [List.mem_map]
    constructor
    · rintro (⟨n,h1,h2⟩|⟨t,h1,rfl⟩)
      · exact ⟨n,by omega,h2⟩
      · rw [mem_rngI] at h1
        exact ⟨m,by omega,t,h1.1,h1.2,rfl⟩
    · rintro ⟨n,h1,t,h2,h3,rfl⟩
      by_cases h:n<m
      · exact .inl ⟨n,h,t,h2,h3,rfl⟩
      · obtain rfl:n=m:=by omega
        exact .inr ⟨t,by rw [mem_rngI]; exact ⟨h2,h3⟩,rfl⟩
theorem mem_conA {cs:List Ct} {bs:List Bk} {d:Dm} {x:EA}:∀ {m:Nat},x∈conA cs bs d m↔∃ i:Nat,i<m∧∃ c t,cs[i]?=some c∧memI (freeC cs bs i) t=true∧d.r≤t∧t+c.g<d.e∧x=conE d c i t
  | 0=>by simp [conA]
  | m+1=>by
    unfold conA;rw [List.mem_append,mem_conA (m:=m)]
    have key:x∈conN cs bs d m↔∃ c t,cs[m]?=some c∧memI (freeC cs bs m) t=true∧d.r≤t∧t+c.g<d.e∧x=conE d c m t:=by
      unfold conN
      cases e:cs[m]? with
      | none=>simp
      | some c =>
        simp only [List.mem_map,mem_tickL,Option.some.injEq]
        constructor
        · rintro ⟨t,⟨h1,h2,h3⟩,rfl⟩
          exact ⟨c,t,rfl,h1,h2,h3,rfl⟩
        · rintro ⟨c',t,rfl,h1,h2,h3,rfl⟩
          exact ⟨t,⟨h1,h2,h3⟩,rfl⟩
    rw [key]
    constructor
    · rintro (⟨i,h1,h2⟩|h)
      · exact ⟨i,by omega,h2⟩
      · exact ⟨m,by omega,h⟩
    · rintro ⟨i,h1,h2⟩
      by_cases h:i<m
      · exact .inl ⟨i,h,h2⟩
      · obtain rfl:i=m:=by omega
        exact .inr h2
section
variable {qs:List Int} {cs:List Ct} {bs:List Bk} {hs:List Hd} {d:Dm}
theorem VOk.room (h:VOk qs cs bs hs d) (n:Nat) (hn:n<qs.length) (t:Int):0≤roomT qs hs d n t∧roomT qs hs d n t≤1099511627776:=by
  refine ⟨room_nonneg h.quo h.hd h.fit d n hn t,?_⟩;unfold roomT
  split
  · omega
  have h1:=stored_bd (n:=(n:Int)) (t:=t) h.hd
  have hx:=List.getElem?_eq_getElem hn
  have hq:=h.quo n _ hx
  rw [Int.toNat_natCast,List.getD_eq_getElem?_getD,hx,Option.getD_some];omega
theorem VOk.free (h:VOk qs cs bs hs d) {i:Nat} {c:Ct} (hc:cs[i]?=some c):NormI (freeC cs bs i)∧(∀ z∈freeC cs bs i,c.s≤z.1∧z.2≤c.e)∧∀ t,memI (freeC cs bs i) t=(decide (c.s≤t∧t<c.e) && !(bookedB bs i t)):=freeC_ok h.bk hc
inductive ArcIs (qs:List Int) (cs:List Ct) (bs:List Bk) (hs:List Hd) (d:Dm):EA→Prop
  | wait {n:Nat} {t:Int}:n<qs.length→d.r≤t→t<d.e→ArcIs qs cs bs hs d ⟨⟨vtx d n t,vtx d n (t+1),roomT qs hs d n t⟩,-1,t⟩
  | con {i:Nat} {c:Ct} {t:Int}:cs[i]?=some c→d.r≤t→c.s≤t→t<c.e→t+1+c.g≤d.e→bookedB bs i t=false→ArcIs qs cs bs hs d (conE d c i t)
theorem VOk.arc (h:VOk qs cs bs hs d) {x:EA}:x∈arcsE qs cs bs hs d↔ArcIs qs cs bs hs d x:=by
  unfold arcsE;rw [List.mem_append,mem_waitA,mem_conA]
  constructor
  · rintro (⟨n,h1,t,h2,h3,rfl⟩|⟨i,h1,c,t,hc,hm,h2,h3,rfl⟩)
    · exact .wait h1 h2 h3
    · rw [(h.free hc).2.2 t,Bool.and_eq_true,decide_eq_true_eq,Bool.not_eq_true'] at hm
      exact .con hc h2 hm.1.1 hm.1.2 (by omega) hm.2
  · rintro (⟨h1,h2,h3⟩|⟨hc,h1,h2,h3,h4,h5⟩)
    · exact .inl ⟨_,h1,_,h2,h3,rfl⟩
    · refine .inr ⟨_,(List.getElem?_eq_some_iff.1 hc).1,_,_,hc,?_,h1,by omega,rfl⟩
      rw [(h.free hc).2.2,h5,decide_eq_true ⟨h2,h3⟩]
      rfl
def vsN (qs:List Int) (d:Dm):Int:=qs.length*wd d
theorem VOk.wd (h:VOk qs cs bs hs d):2≤Go.Step.wd d∧Go.Step.wd d≤101:=by
  have:=h.dm.2.2.2.2
  unfold Go.Step.wd;omega
theorem VOk.vs (h:VOk qs cs bs hs d):0≤vsN qs d∧vsN qs d≤1616:=by
  have h1:=h.wd
  have h2:=h.nq
  unfold vsN
  refine ⟨Int.mul_nonneg (by omega) (by omega),?_⟩
  exact Int.le_trans (Int.mul_le_mul (show ((qs.length:Nat):Int)≤16 by omega) h1.2 (by omega) (by omega)) (by omega)
theorem VOk.ok (h:VOk qs cs bs hs d):∀ a∈arcsG qs cs bs hs d,okArc (vsN qs d) a=true:=fun a ha=>by
  obtain ⟨x,hx,rfl⟩:=List.mem_map.1 ha
  have hw:=h.wd
  unfold wd at hw;rw [okArc_iff]
  cases h.arc.1 hx with
  | @wait n t h1 h2 h3 =>
    have a:=vtx_lt (d:=d) (n:=n) (t:=t) (N:=qs.length) (by omega) (by omega) h2 (by omega)
    have b:=vtx_lt (d:=d) (n:=n) (t:=t+1) (N:=qs.length) (by omega) (by omega) (by omega) (by omega)
    have c:=vtx_next d n t
    have r:=h.room n h1 t
    unfold vsN
    dsimp only
    omega
  | @con i c t hc h1 h2 h3 h4 h5 =>
    have k:=h.ct c (List.mem_of_getElem? hc)
    have a:=vtx_lt (d:=d) (n:=c.f) (t:=t) (N:=qs.length) k.1.1 k.1.2 h1 (by omega)
    have b:=vtx_lt (d:=d) (n:=c.t) (t:=t+1+c.g) (N:=qs.length) k.2.1.1 k.2.1.2 (by omega) h4
    have ne:vtx d c.f t≠vtx d c.t (t+1+c.g):=fun e=>by
      have:=vtx_inj h1 (by omega) (by omega) h4 e
      omega
    unfold vsN conE
    dsimp only
    omega
theorem waitN_len (qs:List Int) (hs:List Hd) (d:Dm) (n:Int):(waitN qs hs d n).length=(d.e-d.r).toNat:=by unfold waitN; rw [List.length_map,rngI_len]
theorem waitA_len (qs:List Int) (hs:List Hd) (d:Dm):∀ m,(waitA qs hs d m).length=m*(d.e-d.r).toNat
  | 0=>by simp [waitA]
  | m+1=>by unfold waitA; rw [List.length_append,waitA_len qs hs d m,waitN_len,Nat.add_mul,Nat.one_mul]
theorem tickL_all {r e g:Int} {l:List (Int × Int)} (h:NormI l) (hg:0≤g):tickL r e g l=(rngI r e).filter (fun t=>memI l t && decide (t+g<e)):=by
  refine asc_ext (tickL_asc h) ((rngI_asc _ _).filter _) (fun t=>?_)
  rw [mem_tickL,List.mem_filter,mem_rngI,Bool.and_eq_true,decide_eq_true_eq]
  constructor
  · rintro ⟨h1,h2,h3⟩
    exact ⟨by omega,h1,h3⟩
  · rintro ⟨h1,h2,h3⟩
    exact ⟨h2,by omega,h3⟩
theorem VOk.conN_len (h:VOk qs cs bs hs d) (i:Nat):(conN cs bs d i).length≤(d.e-d.r).toNat:=by
  unfold conN
  cases e:cs[i]? with
  | none=>simp
  | some c =>
    have k:=h.ct c (List.mem_of_getElem? e)
    simp only [List.length_map]
    rw [tickL_all (h.free e).1 (by omega)]
    exact Nat.le_trans (List.length_filter_le _ _) (by rw [rngI_len]; exact Nat.le_refl _)
theorem VOk.conA_len (h:VOk qs cs bs hs d):∀ m,(conA cs bs d m).length≤m*(d.e-d.r).toNat
  | 0=>by simp [conA]
  | m+1=>by
    have h1:=h.conA_len m
    have h2:=h.conN_len m
    unfold conA;rw [List.length_append,Nat.add_mul,Nat.one_mul];omega
theorem VOk.len (h:VOk qs cs bs hs d):(arcsE qs cs bs hs d).length≤8000:=by
  have h1:=waitA_len qs hs d qs.length
  have h2:=h.conA_len cs.length
  have h3:=h.dm.2.2.2.2
  have h4:(d.e-d.r).toNat≤100:=by omega
  have a:=Nat.mul_le_mul h.nq.2 h4
  have b:=Nat.mul_le_mul h.nc h4
  unfold arcsE;rw [List.length_append];omega
theorem VOk.chk (h:VOk qs cs bs hs d):chk (vsN qs d) (arcsG qs cs bs hs d)=0:=by
  have h1:=h.vs
  have h2:=h.len
  unfold Go.Flow.chk
  rw [if_neg (by omega),if_neg (by unfold arcsG; rw [List.length_map]; omega),if_pos (List.all_eq_true.2 h.ok)]
theorem VOk.ends (h:VOk qs cs bs hs d):Go.Flow.okEnds (vsN qs d) (vtx d d.s d.r) (vtx d d.d d.e)=true:=by
  have hw:=h.wd
  unfold wd at hw
  obtain ⟨h1,h2,h3,_,h4⟩:=h.dm
  have a:=vtx_lt (d:=d) (n:=d.s) (t:=d.r) (N:=qs.length) h1.1 h1.2 (by omega) (by omega)
  have b:=vtx_lt (d:=d) (n:=d.d) (t:=d.e) (N:=qs.length) h2.1 h2.2 (by omega) (by omega)
  rw [Go.Flow.okEnds_iff];unfold vsN
  refine ⟨a.1,a.2,b.1,b.2,fun e=>?_⟩
  have:=vtx_inj (by omega) (by omega) (by omega) (by omega) e
  omega
/-! sums over lists -/
def lsum {α:Type} (f:α→Int):List α→Int
  | []=>0
  | x::l=>f x+lsum f l
theorem lsum_append {α:Type} (f:α→Int) (a b:List α):lsum f (a ++ b)=lsum f a+lsum f b:=by
  induction a with
  | nil=>simp [lsum]
  | cons x a ih=>simp only [List.cons_append,lsum,ih]; omega
theorem lsum_map {α β:Type} (f:β→Int) (g:α→β) (l:List α):lsum f (l.map g)=lsum (fun x=>f (g x)) l:=by
  induction l with
  | nil=>rfl
  | cons x l ih=>simp only [List.map_cons,lsum,ih]
theorem lsum_congr {α:Type} {f g:α→Int} {l:List α} (h:∀ x∈l,f x=g x):lsum f l=lsum g l:=by
  induction l with
  | nil=>rfl
  | cons x l ih=>simp only [lsum]; rw [h x (by simp),ih (fun y hy=>h y (by simp [hy]))]
theorem lsum_filter {α:Type} (f:α→Int) (p:α→Bool) (l:List α):lsum f (l.filter p)=lsum (fun x=>if p x=true then f x else 0) l:=by
  induction l with
  | nil=>rfl
  | cons x l ih =>
    rw [List.filter_cons]
    by_cases h:p x=true
    · rw [if_pos h]; simp only [lsum,ih,if_pos h]
    · rw [if_neg h]; simp only [lsum,ih,if_neg h]; omega
theorem lsum_range (f:Int→Int) (a:Int):∀ m:Nat,lsum f ((List.range m).map (fun k:Nat=>a+k))=sumT f a m
  | 0=>rfl
  | m+1=>by
    rw [List.range_succ,List.map_append,lsum_append,lsum_range f a m]
    simp [lsum,sumT]
theorem lsum_rngI (f:Int→Int) (a b:Int):lsum f (rngI a b)=sumU f a b:=by unfold rngI sumU; exact lsum_range f a _
theorem lsum_zero {α:Type} (l:List α):lsum (fun _:α=>(0:Int)) l=0:=by
  induction l with
  | nil=>rfl
  | cons x l ih=>simp only [lsum,ih]; omega
theorem lsum_add {α:Type} (f g:α→Int) (l:List α):lsum (fun x=>f x+g x) l=lsum f l+lsum g l:=by
  induction l with
  | nil=>rfl
  | cons x l ih=>simp only [lsum,ih]; omega
theorem capOf_lsum (p:Nat→Bool) (l:List Arc):capOf p l=lsum (fun a=>if p a.f.toNat=true∧p a.t.toNat=false then a.c else 0) l:=by
  induction l with
  | nil=>rfl
  | cons a l ih=>simp only [capOf,lsum,ih]
/-! the capacity of a set of nodes at times -/
def waitB (qs:List Int) (hs:List Hd) (d:Dm) (B:Int→Int→Bool) (n t:Int):Int:=if (B n t && !B n (t+1))=true then roomT qs hs d n t else 0
def conB (cs:List Ct) (bs:List Bk) (d:Dm) (B:Int→Int→Bool) (i t:Int):Int:=match cs[i.toNat]? with
  | none=>0
  | some x=>if x.s≤t∧t<x.e∧t+1+x.g≤d.e∧bookedB bs i t=false∧(B x.f t && !B x.t (t+1+x.g))=true then x.r else 0
def capB (qs:List Int) (cs:List Ct) (bs:List Bk) (hs:List Hd) (d:Dm) (B:Int→Int→Bool):Int:=
  sumT (fun n=>sumU (waitB qs hs d B n) d.r d.e) 0 qs.length+sumT (fun i=>sumU (conB cs bs d B i) d.r d.e) 0 cs.length
theorem lsum_waitA (f:EA→Int) (qs:List Int) (hs:List Hd) (d:Dm):∀ m:Nat,lsum f (waitA qs hs d m)=sumT (fun n=>sumU (fun t=>f ⟨⟨vtx d n t,vtx d n (t+1),roomT qs hs d n t⟩,-1,t⟩) d.r d.e) 0 m
  | 0=>rfl
  | m+1=>by
    unfold waitA;rw [lsum_append,lsum_waitA f qs hs d m];unfold waitN;rw [lsum_map,lsum_rngI]
    show _=sumT _ 0 m+_
    rw [Int.zero_add]
theorem VOk.lsum_conN (h:VOk qs cs bs hs d) (f:EA→Int) (i:Nat) {c:Ct} (hc:cs[i]?=some c):lsum f (conN cs bs d i)=sumU (fun t=>if c.s≤t∧t<c.e∧t+1+c.g≤d.e∧bookedB bs i t=false then f (conE d c i t) else 0) d.r d.e:=by
  have k:=h.ct c (List.mem_of_getElem? hc)
  obtain ⟨n1,_,n3⟩:=h.free hc
  unfold conN;rw [hc];simp only
  rw [lsum_map,tickL_all n1 (by omega),lsum_filter,lsum_rngI]
  congr 1
  funext t
  rw [n3]
  by_cases hb:bookedB bs i t=false
  · by_cases h1:c.s≤t∧t<c.e∧t+1+c.g≤d.e
    · have hl:(decide (c.s≤t∧t<c.e) && !bookedB bs (↑i) t && decide (t+c.g<d.e))=true:=by
        rw [hb,decide_eq_true (show c.s≤t∧t<c.e by omega),decide_eq_true (show t+c.g<d.e by omega)]
        rfl
      rw [if_pos hl,if_pos ⟨h1.1,h1.2.1,h1.2.2,hb⟩]
    · rw [if_neg (show ¬ (decide (c.s≤t∧t<c.e) && !bookedB bs (↑i) t && decide (t+c.g<d.e))=true by
          rw [Bool.and_eq_true,Bool.and_eq_true,decide_eq_true_eq,decide_eq_true_eq]
          omega),if_neg (show ¬ (c.s≤t∧t<c.e∧t+1+c.g≤d.e∧bookedB bs i t=false) from fun h2=>h1 ⟨h2.1,h2.2.1,h2.2.2.1⟩)]
  · rw [if_neg (show ¬ (decide (c.s≤t∧t<c.e) && !bookedB bs (↑i) t && decide (t+c.g<d.e))=true by
        rw [Bool.and_eq_true,Bool.and_eq_true,Bool.not_eq_true']
        exact fun h2=>hb h2.1.2),if_neg (show ¬ (c.s≤t∧t<c.e∧t+1+c.g≤d.e∧bookedB bs i t=false) from fun h2=>hb h2.2.2.2)]
theorem capB_eq (h:VOk qs cs bs hs d) (p:Nat→Bool):capOf p (arcsG qs cs bs hs d)=capB qs cs bs hs d (fun n t=>p (vtx d n t).toNat):=by
  have hcond:∀ a b:Bool,(a=true∧b=false)↔(a && !b)=true:=by decide
  unfold arcsG;rw [capOf_lsum,lsum_map];unfold arcsE;rw [lsum_append,lsum_waitA];unfold capB
  congr 1
  · refine sumT_congr (fun k hk=>?_)
    congr 1
    funext t
    unfold waitB;simp only [hcond]
  · have:∀ m,m≤cs.length→lsum (fun x:EA=>if p x.a.f.toNat=true∧p x.a.t.toNat=false then x.a.c else 0) (conA cs bs d m)=sumT (fun i=>sumU (conB cs bs d (fun n t=>p (vtx d n t).toNat) i) d.r d.e) 0 m:=by
      intro m
      induction m with
      | zero=>intro _; rfl
      | succ m ih =>
        intro hm
        have hx:=List.getElem?_eq_getElem (show m<cs.length by omega)
        unfold conA
        rw [lsum_append,ih (by omega),h.lsum_conN _ m hx]
        show _=sumT _ 0 m+_
        congr 1
        rw [Int.zero_add]
        congr 1
        funext t
        unfold conB;rw [Int.toNat_natCast,hx];simp only [conE,hcond]
        by_cases h1:cs[m].s≤t∧t<cs[m].e∧t+1+cs[m].g≤d.e∧bookedB bs m t=false
        · rw [if_pos h1]
          by_cases h2:(p (vtx d cs[m].f t).toNat && !p (vtx d cs[m].t (t+1+cs[m].g)).toNat)=true
          · rw [if_pos h2,if_pos ⟨h1.1,h1.2.1,h1.2.2.1,h1.2.2.2,h2⟩]
          · rw [if_neg h2,if_neg (fun h3=>h2 h3.2.2.2.2)]
        · rw [if_neg h1,if_neg (fun h3=>h1 ⟨h3.1,h3.2.1,h3.2.2.1,h3.2.2.2.1⟩)]
    exact this _ (Nat.le_refl _)
end
end Go.Step
namespace Go.Step
open Go.Flow (Flw fval netB netB_eq inCap sumTo sumTo_zero sumTo_one okArc_iff)
def shipsF:List EA→List Int→List Sh
  | x::L,y::fl=>(if 0≤x.c∧0<y then [⟨x.c,x.t,y⟩] else []) ++ shipsF L fl
  | _,_=>[]
section
variable {qs:List Int} {cs:List Ct} {bs:List Bk} {hs:List Hd} {d:Dm}
def bq (d:Dm) (P:Int→Int→Bool) (v:Nat):Bool:=P ((v:Int) / wd d) (d.r+(v:Int) % wd d)
theorem bq_vtx {d:Dm} {P:Int→Int→Bool} {n t:Int} (h0:0≤n) (h1:d.r≤t) (h2:t≤d.e):bq d P (vtx d n t).toNat=P n t:=by
  have hp:0≤vtx d n t:=by
    unfold vtx
    have:=Int.mul_nonneg h0 (show 0≤wd d by unfold wd; omega)
    omega
  unfold bq;rw [Int.toNat_of_nonneg hp,vtx_div h1 h2,vtx_mod h1 h2]
  congr 1
  omega
end
end Go.Step
namespace Go.Flow
def plFrom:Nat→List Arc→List Lk
  | _,[]=>[]
  | i,a::l=>⟨i,a.f.toNat,a.t.toNat⟩::plFrom (i+1) l
def plinks (l:List Arc):List Lk:=plFrom 0 l
theorem plFrom_snoc (a:Arc):∀ (l:List Arc) (i:Nat),plFrom i (l ++ [a])=plFrom i l ++ [(⟨i+l.length,a.f.toNat,a.t.toNat⟩:Lk)]
  | [],i=>by simp [plFrom]
  | b::l,i=>by
    simp only [List.cons_append,plFrom];rw [plFrom_snoc a l (i+1)];simp only [List.length_cons]
    rw [show i+1+l.length=i+(l.length+1) from by omega]
theorem plinks_snoc (l:List Arc) (a:Arc):plinks (l ++ [a])=plinks l ++ [(⟨l.length,a.f.toNat,a.t.toNat⟩:Lk)]:=by
  unfold plinks; rw [plFrom_snoc]; simp
theorem plFrom_len:∀ (l:List Arc) (i:Nat),(plFrom i l).length=l.length
  | [],_=>rfl
  | a::l,i=>by simp [plFrom,plFrom_len l (i+1)]
theorem plinks_len (l:List Arc):(plinks l).length=l.length:=plFrom_len l 0
theorem plFrom_get:∀ (l:List Arc) (i j:Nat),(plFrom i l)[j]?=(l[j]?).map (fun a=>(⟨i+j,a.f.toNat,a.t.toNat⟩:Lk))
  | [],i,j=>by simp [plFrom]
  | b::l,i,j=>by
    cases j with
    | zero=>simp [plFrom]
    | succ j =>
      simp only [plFrom,List.getElem?_cons_succ]
      rw [plFrom_get l (i+1) j,show i+1+j=i+(j+1) from by omega]
theorem plinks_get (l:List Arc) (j:Nat):(plinks l)[j]?=(l[j]?).map (fun a=>(⟨j,a.f.toNat,a.t.toNat⟩:Lk)):=by
  unfold plinks; rw [plFrom_get]; simp
theorem plinks_iff {l:List Arc} {x:Lk}:x∈plinks l↔∃ j a,l[j]?=some a∧x=⟨j,a.f.toNat,a.t.toNat⟩:=by
  rw [List.mem_iff_getElem?]
  constructor
  · rintro ⟨j,hj⟩
    rw [plinks_get,Option.map_eq_some_iff] at hj
    obtain ⟨a,ha,rfl⟩:=hj
    exact ⟨j,a,ha,rfl⟩
  · rintro ⟨j,a,ha,rfl⟩
    exact ⟨j,by rw [plinks_get,ha]; rfl⟩
theorem pl_lt {n:Nat} {l:List Arc} (hok:∀ a∈l,okArc n a=true):∀ x∈plinks l,x.f<n∧x.t<n:=fun x hx=>by
  obtain ⟨j,a,ha,rfl⟩:=plinks_iff.1 hx
  have:=okArc_iff.1 (hok a (List.mem_of_getElem? ha))
  dsimp only; omega
theorem pl_k {l:List Arc} {x:Lk} (hx:x∈plinks l):x.k<l.length:=by
  obtain ⟨j,a,ha,rfl⟩:=plinks_iff.1 hx
  exact (List.getElem?_eq_some_iff.1 ha).1
def rmP (rest:List Int) (k:Nat):Int:=rest.getD k 0
def subP (room:Int) (rest:List Int) (x:Lk):List Int:=rest.set x.k (rest.getD x.k 0-room)
def subAll (room:Int) (rest:List Int) (p:List Lk):List Int:=p.foldl (subP room) rest
theorem subP_len (room:Int) (rest:List Int) (x:Lk):(subP room rest x).length=rest.length:=by simp [subP]
theorem subAll_len (room:Int):∀ (p:List Lk) (rest:List Int),(subAll room rest p).length=rest.length
  | [],rest=>rfl
  | x::p,rest=>by
    have:=subAll_len room p (subP room rest x)
    rw [subP_len] at this;exact this
theorem subAll_snoc (room:Int) (fl:List Int) (p:List Lk) (x:Lk):subAll room fl (p ++ [x])=subP room (subAll room fl p) x:=by simp [subAll]
theorem subP_ok {n:Nat} {l:List Arc} {fl:List Int} {x:Lk} {room:Int} (hok:∀ a∈l,okArc n a=true) (hl:l.length=fl.length) (hc:inCap l fl=true) (hx:x∈plinks l) (h0:0≤room) (hr:room≤rmP fl x.k) :
    inCap l (subP room fl x)=true∧(∀ v:Nat,fval v l (subP room fl x)=fval v l fl-((if x.f=v then room else 0)-(if x.t=v then room else 0)))∧∀ k,k≠x.k→rmP (subP room fl x) k=rmP fl k:=by
  obtain ⟨j,a,ha,rfl⟩:=plinks_iff.1 hx
  have hjl:j<l.length:=(List.getElem?_eq_some_iff.1 ha).1
  have hfj:fl[j]?=some (fl.getD j 0):=by simp [List.getD_eq_getElem?_getD,show j<fl.length by omega]
  have hin:=inCap_get l fl hc j a _ ha hfj
  obtain ⟨g1,g2,g3,g4,g5,g6,g7⟩:=okArc_iff.1 (hok a (List.mem_of_getElem? ha))
  unfold rmP at hr
  dsimp only at hr
  refine ⟨?_,?_,fun k hk=>?_⟩
  · unfold subP
    exact inCap_set l fl j a _ ha hc (by dsimp only; omega) (by dsimp only; omega)
  · intro v
    unfold subP
    dsimp only
    rw [fval_set v l fl j a _ ha hl]
    have e1:(a.f=(v:Int))↔(a.f.toNat=v):=by omega
    have e2:(a.t=(v:Int))↔(a.t.toNat=v):=by omega
    simp only [e1,e2]
    split <;> split <;> omega
  · unfold rmP subP
    exact getD_set' (Ne.symm hk)
theorem subAll_ok {n:Nat} {l:List Arc} {room:Int} (hok:∀ a∈l,okArc n a=true) (h0:0≤room) {E:Lk→Prop} (hE:∀ x,E x→x∈plinks l) {u w:Nat} {p:List Lk} (hp:Chn E u p w) :
    ∀ (fl:List Int),l.length=fl.length→inCap l fl=true→p.Pairwise (fun x y=>x.k≠y.k)→(∀ x∈p,room≤rmP fl x.k) →
    inCap l (subAll room fl p)=true∧∀ v:Nat,fval v l (subAll room fl p)=fval v l fl-((if u=v then room else 0)-(if w=v then room else 0)):=by
  induction hp with
  | nil=>intro fl _ hc _ _; exact ⟨hc,fun v=>by simp [subAll]⟩
  | @cons x u p w hf hx _ ih =>
    intro fl hl hc hpw hr
    rw [List.pairwise_cons] at hpw
    obtain ⟨s1,s2,s3⟩:=subP_ok hok hl hc (hE x hx) h0 (hr x (by simp))
    obtain ⟨r1,r2⟩:=ih (subP room fl x) (by rw [subP_len]; exact hl) s1 hpw.2 (fun y hy=>by rw [s3 y.k (Ne.symm (hpw.1 y hy))]; exact hr y (by simp [hy]))
    refine ⟨r1,fun v=>?_⟩
    have:=r2 v
    rw [s2 v] at this
    show fval v l (subAll room (subP room fl x) p)=_
    rw [this,hf]
    split <;> split <;> split <;> omega
abbrev pE (l:List Arc) (fl:List Int):Lk→Prop:=opn (plinks l) (rmP fl)
abbrev pP (l:List Arc) (fl:List Int) (D:List Int) (s:Nat):List Lk:=pathD (nxt (plinks l) (rmP fl) D) D s
abbrev pRoom (l:List Arc) (fl:List Int) (D:List Int) (s:Nat):Int:=leastR (rmP fl) (pP l fl D s)
abbrev pNext (l:List Arc) (fl:List Int) (D:List Int) (s:Nat):List Int:=subAll (pRoom l fl D s) fl (pP l fl D s)
section
variable {n s t:Nat} {l:List Arc}
theorem pP_arcs (hok:∀ a∈l,okArc n a=true) (hs:s<n) {fl D:List Int} (hD:IsDist n t (pE l fl) D) (h0:0≤D.getD s 0):(pP l fl D s).Pairwise (fun x y=>x.k≠y.k):=by
  obtain ⟨k,hk⟩:=Int.eq_ofNat_of_zero_le h0
  have hp:=path_sorted (pl_lt hok) hD k s hs hk
  have hc:=(path_chn (pl_lt hok) hD k s hs hk).all
  refine List.Pairwise.imp_of_mem (fun {x y} hx hy hxy e=>?_) hp
  obtain ⟨i,a,ha,rfl⟩:=plinks_iff.1 (hc x hx).1.1
  obtain ⟨j,b,hb,rfl⟩:=plinks_iff.1 (hc y hy).1.1
  dsimp only at e hxy
  subst e;rw [ha] at hb
  obtain rfl:=Option.some.inj hb
  omega
theorem pNext_ok (hok:∀ a∈l,okArc n a=true) (hs:s<n) (hst:s≠t) {fl D:List Int} (hf:Flw n l s t fl) (hD:IsDist n t (pE l fl) D) (h0:0≤D.getD s 0) :
    Flw n l s t (pNext l fl D s)∧0<pRoom l fl D s∧fval s l (pNext l fl D s)=fval s l fl-pRoom l fl D s:=by
  obtain ⟨k,hk⟩:=Int.eq_ofNat_of_zero_le h0
  have hch:=path_chn (pl_lt hok) hD k s hs hk
  have hpos:0<pRoom l fl D s:=leastR_pos _ _ _ (by omega) (fun x hx=>(hch.all x hx).1.2)
  obtain ⟨r1,r2⟩:=subAll_ok hok (Int.le_of_lt hpos) (E:=fun x=>pE l fl x∧D.getD x.t 0=D.getD x.f 0-1∧D.getD x.f 0≤k) (fun x hx=>hx.1.1) hch fl hf.len hf.cap (pP_arcs hok hs hD h0) (fun x hx=>(leastR_le _ _ _).2 x hx)
  refine ⟨⟨by rw [subAll_len]; exact hf.len,r1,fun v hv h1 h2=>?_⟩,hpos,?_⟩
  · rw [r2 v,if_neg (Ne.symm h1),if_neg (Ne.symm h2),hf.bal v hv h1 h2]; rfl
  · rw [r2 s,if_pos rfl,if_neg (Ne.symm hst)]; omega
theorem pTake_cap (hok:∀ a∈l,okArc n a=true) (hs:s<n) {fl D:List Int} (hf:Flw n l s t fl) (hD:IsDist n t (pE l fl) D) (h0:0≤D.getD s 0) (i:Nat) :
    inCap l (subAll (pRoom l fl D s) fl ((pP l fl D s).take i))=true:=by
  obtain ⟨k,hk⟩:=Int.eq_ofNat_of_zero_le h0
  have hch:=path_chn (pl_lt hok) hD k s hs hk
  have hpos:0<pRoom l fl D s:=leastR_pos _ _ _ (by omega) (fun x hx=>(hch.all x hx).1.2)
  obtain ⟨w,hw⟩:=hch.take i
  exact (subAll_ok hok (Int.le_of_lt hpos) (E:=fun x=>pE l fl x∧D.getD x.t 0=D.getD x.f 0-1∧D.getD x.f 0≤k) (fun x hx=>hx.1.1) hw fl hf.len hf.cap ((pP_arcs hok hs hD h0).sublist (List.take_sublist _ _)) (fun x hx=>(leastR_le _ _ _).2 x (List.mem_of_mem_take hx))).1
end
inductive RunP (n:Nat) (l:List Arc) (s t:Nat):List Int→List (List Lk × Int)→List Int→Prop
  | done {fl D:List Int}:IsDist n t (pE l fl) D→D.getD s 0<0→RunP n l s t fl [] fl
  | step {fl D r:List Int} {ps:List (List Lk × Int)}:IsDist n t (pE l fl) D→0≤D.getD s 0→RunP n l s t (pNext l fl D s) ps r→RunP n l s t fl ((pP l fl D s,pRoom l fl D s)::ps) r
theorem RunP.uniq {n s t:Nat} {l:List Arc} (hok:∀ a∈l,okArc n a=true) {fl F G:List Int} {ps qs:List (List Lk × Int)} (h1:RunP n l s t fl ps F) (h2:RunP n l s t fl qs G):ps=qs∧F=G:=by
  have hE:∀ fl x,pE l fl x→x.f<n∧x.t<n:=fun fl x hx=>pl_lt hok x hx.1
  induction h1 generalizing G qs with
  | done hD hn =>
    cases h2 with
    | done=>exact ⟨rfl,rfl⟩
    | step hD2 h0 _=>rw [hD.uniq (hE _) hD2] at hn; omega
  | step hD h0 _ ih =>
    cases h2 with
    | done hD2 hn=>rw [hD.uniq (hE _) hD2] at h0; omega
    | step hD2 _ hr =>
      have e:=hD.uniq (hE _) hD2
      subst e
      obtain ⟨e1,e2⟩:=ih hr
      exact ⟨by rw [e1],e2⟩
section
variable {n s t:Nat} {l:List Arc}
theorem net_le0 (B:Nat→Bool):∀ (l:List Arc) (fl:List Int),inCap l fl=true→(∀ (i:Nat) (a:Arc) (x:Int),l[i]?=some a→fl[i]?=some x→B a.f.toNat=true→B a.t.toNat=false→x=0)→netB B l fl≤0
  | [],_,_,_=>by simp [netB]
  | _::_,[],_,_=>by simp [netB]
  | a::l,x::fl,h,hz=>by
    simp only [inCap,Bool.and_eq_true,decide_eq_true_eq] at h
    have ih:=net_le0 B l fl h.2 (fun i b y hb hy=>hz (i+1) b y (by simpa using hb) (by simpa using hy))
    have h0:=hz 0 a x rfl rfl
    simp only [netB]
    cases hB1:B a.f.toNat <;> cases hB2:B a.t.toNat <;> simp <;> first|omega|(have:=h0 hB1 hB2; omega)
theorem rest_le0 (hok:∀ a∈l,okArc n a=true) (hs:s<n) (ht:t<n) {fl D:List Int} (hf:Flw n l s t fl) (hD:IsDist n t (pE l fl) D) (hn:D.getD s 0<0):fval s l fl≤0:=by
  obtain ⟨B,hB⟩:=exists_reach n (pE l fl) s
  have hE:∀ x,pE l fl x→x.f<n∧x.t<n:=fun x hx=>pl_lt hok x hx.1
  have b1:B s=true:=(hB s hs).2 .refl
  have b2:B t=false:=by
    cases hb:B t with
    | false=>rfl
    | true =>
      have:=((hB t ht).1 hb).far hD hn
      rw [hD.at0] at this; omega
  rw [← hf.net hok hs b1 b2]
  refine net_le0 B l fl hf.cap (fun i a x ha hx h1 h2=>?_)
  have hin:=inCap_get l fl hf.cap i a x ha hx
  apply Classical.byContradiction
  intro hne
  have:=hB.closed hE ⟨i,a.f.toNat,a.t.toNat⟩ ⟨plinks_iff.2 ⟨i,a,ha,rfl⟩,by unfold rmP; dsimp only; rw [List.getD_eq_getElem?_getD,hx]; simp only [Option.getD_some]; omega⟩ h1
  dsimp only at this
  rw [h2] at this; simp at this
end
/-! ### a greater capacity -/
/-! ### arcs turned round,arcs in the opposite order -/
def turnA (a:Arc):Arc:=⟨a.t,a.f,a.c⟩
/-! ### differences of flows -/
def diffL (a b:List Int):List Int:=List.zipWith (· - ·) a b
theorem diffL_len {a b:List Int} (h:a.length=b.length):(diffL a b).length=a.length:=by simp [diffL,h]
theorem fval_diff (v:Int):∀ (l:List Arc) (a b:List Int),a.length=b.length→fval v l (diffL a b)=fval v l a-fval v l b
  | [],[],[],_=>by simp [fval]
  | [],_::_,_::_,_=>by simp [fval]
  | _::_,[],[],_=>by simp [fval,diffL]
  | c::l,x::a,y::b,h=>by
    have:=fval_diff v l a b (by simpa using h)
    simp only [diffL,List.zipWith_cons_cons,fval] at this ⊢;rw [this]
    split <;> split <;> omega
theorem diffL_get {a b:List Int} {i:Nat} (h:i<a.length) (h2:i<b.length):(diffL a b).getD i 0=a.getD i 0-b.getD i 0:=by
  rw [List.getD_eq_getElem?_getD,List.getD_eq_getElem?_getD,List.getD_eq_getElem?_getD,diffL,List.getElem?_zipWith,List.getElem?_eq_getElem h,List.getElem?_eq_getElem h2]
  rfl
theorem diffL_set {a b:List Int} {i:Nat} (x:Int) (h:i<a.length) (h2:i<b.length):(diffL a b).set i ((diffL a b).getD i 0+x)=diffL a (b.set i (b.getD i 0-x)):=by
  rw [diffL_get h h2]
  apply List.ext_getElem
  · simp [diffL]
  · intro j h1 h3
    simp only [diffL,List.getElem_set,List.getElem_zipWith]
    split
    · rename_i e; subst e
      simp [List.getD_eq_getElem?_getD,h,h2]; omega
    · rfl
theorem diffL_self:∀ (a:List Int),diffL a a=List.replicate a.length 0
  | []=>rfl
  | x::a=>by
    have:=diffL_self a
    simp only [diffL] at this ⊢;rw [List.zipWith_cons_cons,this,List.length_cons,List.replicate_succ,Int.sub_self]
end Go.Flow
namespace Go.Step
open Go.Flow (Flw fval inCap okArc okArc_iff)
section
variable {qs:List Int} {cs:List Ct} {bs:List Bk} {hs:List Hd} {d:Dm}
end
end Go.Step
namespace Go.Step
def singI (d:Dm) (n:Int) (side:List Int):Iv:=(side.filter (fun v=>decide (v / wd d=n))).map (fun v=>(d.r+v % wd d,d.r+v % wd d+1))
def sideI (d:Dm) (side:List Int) (n:Int):Iv:=insAll [] (singI d n side)
theorem singI_next (d:Dm) (n:Int) {side:List Int} {k:Nat} (h:k<side.length):singI d n (side.take (k+1))=singI d n (side.take k) ++ (if side[k] / wd d=n then [(d.r+side[k] % wd d,d.r+side[k] % wd d+1)] else []):=by
  unfold singI;rw [List.take_succ_eq_append_getElem h,List.filter_append,List.map_append]
  congr 1
  by_cases hc:side[k] / wd d=n
  · simp [hc]
  · simp [hc]
theorem sideI_next (d:Dm) (n:Int) {side:List Int} {k:Nat} (h:k<side.length):sideI d (side.take (k+1)) n=if side[k] / wd d=n then insI (sideI d (side.take k) n) (d.r+side[k] % wd d,d.r+side[k] % wd d+1) else sideI d (side.take k) n:=by
  unfold sideI;rw [singI_next d n h];unfold insAll;rw [List.foldl_append]
  split <;> rfl
theorem singI_ok (d:Dm) (n:Int) (side:List Int):∀ x∈singI d n side,x.2=x.1+1:=fun x hx=>by
  unfold singI at hx
  obtain ⟨v,_,rfl⟩:=List.mem_map.1 hx
  rfl
theorem mem_singI {d:Dm} {n t:Int} {side:List Int}:memI (singI d n side) t=true↔∃ v∈side,v / wd d=n∧d.r+v % wd d=t:=by
  rw [memI_iff];unfold singI
  constructor
  · rintro ⟨x,hx,h1,h2⟩
    obtain ⟨v,hv,rfl⟩:=List.mem_map.1 hx
    obtain ⟨h3,h4⟩:=List.mem_filter.1 hv
    exact ⟨v,h3,of_decide_eq_true h4,by dsimp only at h1 h2; omega⟩
  · rintro ⟨v,hv,h1,h2⟩
    exact ⟨_,List.mem_map.2 ⟨v,List.mem_filter.2 ⟨hv,decide_eq_true h1⟩,rfl⟩,by dsimp only; omega,by dsimp only; omega⟩
theorem sideI_ok (d:Dm) (side:List Int) (n:Int):NormI (sideI d side n)∧(∀ t,memI (sideI d side n) t=true↔∃ v∈side,v / wd d=n∧d.r+v % wd d=t)∧(sideI d side n).length≤side.length:=by
  obtain ⟨h1,h2,h3⟩:=insAll_ok (a:=[]) (b:=singI d n side) NormI.nil (fun x hx=>by have:=singI_ok d n side x hx; omega)
  refine ⟨h1,fun t=>?_,?_⟩
  · unfold sideI
    rw [h2,show memI [] t=false from rfl,Bool.false_or]
    exact mem_singI
  · have:(singI d n side).length≤side.length:=by
      unfold singI;rw [List.length_map];exact List.length_filter_le _ _
    unfold sideI
    simp at h3
    omega
theorem sideI_in {d:Dm} (hw:d.r≤d.e) (side:List Int) (n:Int):∀ x∈sideI d side n,d.r≤x.1∧x.2≤d.e+1:=norm_in (sideI_ok d side n).1 (fun t ht=>by
  obtain ⟨v,_,_,h⟩:=((sideI_ok d side n).2.1 t).1 ht
  have a:=Int.emod_nonneg v (show wd d≠0 by unfold wd; omega)
  have b:=Int.emod_lt_of_pos v (show 0<wd d by unfold wd; omega)
  unfold wd at *
  omega)
def sidesC (d:Dm) (nq:Nat) (side:List Int):Cu:=(List.range nq).map (fun n:Nat=>sideI d side n)
section
variable {qs:List Int} {cs:List Ct} {bs:List Bk} {hs:List Hd} {d:Dm}
theorem capB_congr (h:VOk qs cs bs hs d) {B C:Int→Int→Bool} (hB:∀ n t:Int,0≤n→n<(qs.length:Int)→d.r≤t→t≤d.e→B n t=C n t):capB qs cs bs hs d B=capB qs cs bs hs d C:=by
  unfold capB
  congr 1
  · refine sumT_congr (fun k hk=>?_)
    rw [← lsum_rngI,← lsum_rngI]
    refine lsum_congr (fun t ht=>?_)
    rw [mem_rngI] at ht;unfold waitB
    rw [hB _ t (by omega) (by omega) (by omega) (by omega),hB _ (t+1) (by omega) (by omega) (by omega) (by omega)]
  · refine sumT_congr (fun k hk=>?_)
    rw [← lsum_rngI,← lsum_rngI]
    refine lsum_congr (fun t ht=>?_)
    rw [mem_rngI] at ht;unfold conB;rw [Int.zero_add,Int.toNat_natCast,List.getElem?_eq_getElem hk]
    have k1:=h.ct _ (List.getElem_mem hk)
    generalize cs[k]=x at k1
    dsimp only
    by_cases hx:t+1+x.g≤d.e
    · rw [hB _ t k1.1.1 k1.1.2 (by omega) (by omega),hB _ (t+1+x.g) k1.2.1.1 k1.2.1.2 (by omega) hx]
    · rw [if_neg (fun h2=>hx h2.2.2.1),if_neg (fun h2=>hx h2.2.2.1)]
end
end Go.Step
namespace Go.Step
open Go.Flow
variable {qs:List Int} {cs:List Ct} {bs:List Bk} {hs:List Hd} {d:Dm}
theorem shipsF_append:∀ {A B:List EA} {f g:List Int},A.length=f.length→shipsF (A ++ B) (f ++ g)=shipsF A f ++ shipsF B g
  | [],_,[],_,_=>rfl
  | [],_,_::_,_,h=>by simp at h
  | _::_,_,[],_,h=>by simp at h
  | x::A,B,y::f,g,h=>by
    simp only [List.cons_append,shipsF]
    rw [shipsF_append (by simpa using h),List.append_assoc]
theorem shipsF_next {L:List EA} {fl:List Int} (h:fl.length=L.length) {i:Nat} {x:EA} {y:Int} (hx:L[i]?=some x) (hy:fl[i]?=some y) :
    shipsF (L.take (i+1)) (fl.take (i+1))=shipsF (L.take i) (fl.take i) ++ (if 0≤x.c∧0<y then [⟨x.c,x.t,y⟩] else []):=by
  rw [List.take_add_one,List.take_add_one,hx,hy]
  rw [shipsF_append (by rw [List.length_take,List.length_take,h])]
  simp [shipsF]
theorem shipsF_len:∀ (L:List EA) (fl:List Int),(shipsF L fl).length≤L.length
  | [],_=>by simp [shipsF]
  | _::_,[]=>by simp [shipsF]
  | x::L,y::fl=>by
    have:=shipsF_len L fl
    simp only [shipsF,List.length_append,List.length_cons]
    split <;> simp <;> omega
def shipsE (qs:List Int) (cs:List Ct) (bs:List Bk) (hs:List Hd) (d:Dm) (fl:List Int):Int:=
  if validT qs cs bs hs d=true then (valueSpec (vsN qs d) (arcsG qs cs bs hs d) fl (vtx d d.s d.r) (vtx d d.d d.e)).2 else 1
def shipsR (qs:List Int) (cs:List Ct) (bs:List Bk) (hs:List Hd) (d:Dm) (fl:List Int):List Sh:=
  if shipsE qs cs bs hs d fl=0 then shipsF (arcsE qs cs bs hs d) fl else []
theorem shipsE_len {fl:List Int} (hv:validT qs cs bs hs d=true) (h:shipsE qs cs bs hs d fl=0):fl.length=(arcsE qs cs bs hs d).length:=by
  unfold shipsE at h;rw [if_pos hv] at h;unfold valueSpec at h
  split at h
  · rename_i hc; exact absurd h hc
  split at h
  · simp at h
  split at h
  · simp at h
  · rename_i hl
    have:(arcsG qs cs bs hs d).length=(arcsE qs cs bs hs d).length:=by unfold arcsG; rw [List.length_map]
    have hl':fl.length=(arcsG qs cs bs hs d).length:=by
      apply Classical.byContradiction
      intro hne
      exact hl hne
    omega
def sidesE (qs:List Int) (cs:List Ct) (bs:List Bk) (hs:List Hd) (d:Dm) (side:List Int):Int:=
  if validT qs cs bs hs d=true then (capacitySpec (vsN qs d) (arcsG qs cs bs hs d) side).2 else 1
theorem sideChk_in {n:Int}:∀ {l:List Int} {p:Option Int},sideChk n p l=0→∀ v∈l,0≤v∧v<n
  | [],_,_=>by simp
  | v::l,p,h=>by
    unfold sideChk at h
    split at h
    · simp at h
    rename_i hv
    have h0:sideChk n (some v) l=0:=by
      split at h
      · split at h
        · simp at h
        · exact h
      · simpa using h
    intro u hu
    rcases List.mem_cons.1 hu with rfl|hu
    · omega
    · exact sideChk_in h0 u hu
theorem sidesE_in {side:List Int} (hv:validT qs cs bs hs d=true) (h:sidesE qs cs bs hs d side=0):∀ v∈side,0≤v∧v<vsN qs d:=by
  unfold sidesE at h;rw [if_pos hv] at h;unfold capacitySpec at h
  split at h
  · rename_i hc; exact absurd h hc
  split at h
  · rename_i hc; exact absurd h hc
  · rename_i hc
    exact sideChk_in (p:=none) (by omega)
theorem sideI_one {a:Iv} (ha:NormI a) (t:Int):combI (fun x y=>x || y) a [(t,t+1)]=insI a (t,t+1):=by
  have h:=unionI_eq (a:=a) (b:=[(t,t+1)]) ha (NormI.nil.cons (by dsimp only; omega) (by simp))
  exact h.symm
theorem sidesC_nil (d:Dm) (nq:Nat):sidesC d nq []=List.replicate nq []:=by
  unfold sidesC
  apply List.ext_getElem?
  intro i
  rw [List.getElem?_map,List.getElem?_replicate]
  by_cases h:i<nq
  · rw [List.getElem?_range h,if_pos h]; rfl
  · rw [List.getElem?_eq_none (by simp; omega),if_neg h]; rfl
theorem sidesC_next (d:Dm) (nq:Nat) {side:List Int} {k:Nat} (h:k<side.length) {n:Nat} (hn:side[k] / wd d=n) :
    sidesC d nq (side.take (k+1))=(sidesC d nq (side.take k)).set n (insI (sideI d (side.take k) n) (d.r+side[k] % wd d,d.r+side[k] % wd d+1)):=by
  unfold sidesC
  apply List.ext_getElem?
  intro i
  rw [List.getElem?_set,List.getElem?_map,List.getElem?_map,List.length_map,List.length_range]
  by_cases hi:i<nq
  · rw [List.getElem?_range hi]
    simp only [Option.map_some];rw [sideI_next d _ h]
    by_cases he:n=i
    · subst he
      rw [if_pos hn,if_pos rfl,if_pos hi]
    · rw [if_neg (by omega),if_neg he]
  · rw [List.getElem?_eq_none (by simp; omega)]
    by_cases he:n=i
    · rw [if_pos he,if_neg (by omega)]; rfl
    · rw [if_neg he]; rfl
theorem sidesC_len (d:Dm) (nq:Nat) (side:List Int):(sidesC d nq side).length=nq:=by simp [sidesC]
end Go.Step
namespace Go.Step
open Go.Flow (Flw fval okArc okEnds_iff)
variable {qs:List Int} {cs:List Ct} {bs:List Bk} {hs:List Hd} {d:Dm}
theorem shipsE_flow (h:VOk qs cs bs hs d) (hv:validT qs cs bs hs d=true) {fl:List Int} {N S T:Nat} (hN:vsN qs d=N) (hS:vtx d d.s d.r=S) (hT:vtx d d.d d.e=T) (hf:Flw N (arcsG qs cs bs hs d) S T fl):shipsE qs cs bs hs d fl=0:=by
  unfold shipsE;rw [if_pos hv,hN,hS,hT]
  have h1:=h.chk
  have h2:=h.ends
  rw [hN] at h1 h2;rw [hS,hT] at h2;unfold Go.Flow.valueSpec
  rw [if_neg (fun h=>h h1),if_neg (by rw [h2]; simp),if_neg (fun h=>h hf.len.symm),if_neg (by rw [hf.cap]; simp),if_neg]
  have hb:Go.Flow.balanced (N:Int).toNat (arcsG qs cs bs hs d) fl S T=true:=by
    unfold Go.Flow.balanced;rw [List.all_eq_true]
    intro v hv
    rw [decide_eq_true_eq]
    have hv':v<N:=by simpa using hv
    by_cases c1:v=S
    · exact .inl (by omega)
    · by_cases c2:v=T
      · exact .inr (.inl (by omega))
      · exact .inr (.inr (hf.bal v hv' c1 c2))
  rw [hb]
  simp
end Go.Step
namespace Go.Flow
def bget (B:List Bool) (v:Nat):Bool:=B.getD v false
theorem bget_set {B:List Bool} {i j:Nat} {x:Bool} (hi:i<B.length):bget (B.set i x) j=if i=j then x else bget B j:=by
  unfold bget;rw [List.getD_eq_getElem?_getD,List.getD_eq_getElem?_getD,List.getElem?_set]
  split
  · rename_i h; subst h; simp [hi]
  · rfl
theorem bget_rep (n v:Nat):bget (List.replicate n false) v=false:=by
  unfold bget;rw [List.getD_eq_getElem?_getD,List.getElem?_replicate]
  split <;> rfl
theorem bget_some {B:List Bool} {v:Nat} (h:v<B.length):B[v]?=some (bget B v):=by simp [bget,h]
structure RInv (n s:Nat) (E:Lk→Prop) (B:List Bool) (q:List Nat):Prop where
  len:B.length=n
  src:bget B s=true
  snd:∀ v,v<n→bget B v=true→Rch E s v
  qn:∀ v∈q,v<n∧bget B v=true
  cl:∀ u,u<n→bget B u=true→u∉q→∀ x,E x→x.f=u→bget B x.t=true
structure RVInv (n s:Nat) (E:Lk→Prop) (B:List Bool) (v:Nat) (q:List Nat) (pre:List Lk):Prop where
  len:B.length=n
  src:bget B s=true
  snd:∀ v,v<n→bget B v=true→Rch E s v
  vn:v<n
  v0:bget B v=true
  qn:∀ v∈q,v<n∧bget B v=true
  cl:∀ u,u<n→bget B u=true→u∉q→u≠v→∀ x,E x→x.f=u→bget B x.t=true
  pre0:∀ x∈pre,bget B x.t=true
section
variable {n s:Nat} {E:Lk→Prop} {B:List Bool}
theorem RInv.start (hs:s<n):RInv n s E ((List.replicate n false).set s true) [s]:=by
  have hg:∀ v,bget ((List.replicate n false).set s true) v=true→v=s:=fun v h=>by
    rw [bget_set (by simpa using hs),bget_rep] at h
    split at h
    · rename_i e; exact e.symm
    · simp at h
  refine ⟨by simp,by rw [bget_set (by simpa using hs)]; simp,fun v _ h=>by rw [hg v h]; exact .refl,fun v hv=>?_,fun u _ h hq=>?_⟩
  · simp at hv; subst hv
    exact ⟨hs,by rw [bget_set (by simpa using hs)]; simp⟩
  · exact absurd (by rw [hg u h]; simp) hq
theorem RInv.take {v:Nat} {q:List Nat} (h:RInv n s E B (v::q)):RVInv n s E B v q []:=
  ⟨h.len,h.src,h.snd,(h.qn v (by simp)).1,(h.qn v (by simp)).2,fun u hu=>h.qn u (by simp [hu]),fun u hu hb hq hne=>h.cl u hu hb (by simp [hq,hne]),by simp⟩
theorem RVInv.seen {v:Nat} {q:List Nat} {pre:List Lk} {x:Lk} (h:RVInv n s E B v q pre) (hx:bget B x.t=true):RVInv n s E B v q (pre ++ [x]):=
  ⟨h.len,h.src,h.snd,h.vn,h.v0,h.qn,h.cl,fun y hy=>by
    rcases List.mem_append.1 hy with hy|hy
    · exact h.pre0 y hy
    · rw [List.mem_singleton.1 hy]; exact hx⟩
theorem RVInv.push {v:Nat} {q:List Nat} {pre:List Lk} {x:Lk} (h:RVInv n s E B v q pre) (hE:E x) (hxt:x.t<n) (hxf:x.f=v):RVInv n s E (B.set x.t true) v (q ++ [x.t]) (pre ++ [x]):=by
  have hl:x.t<B.length:=by rw [h.len]; exact hxt
  have hg:∀ u,bget B u=true→bget (B.set x.t true) u=true:=fun u hu=>by rw [bget_set hl]; split <;> simp [hu]
  refine ⟨by simp [h.len],hg _ h.src,fun u hu hb=>?_,h.vn,hg _ h.v0,fun u hu=>?_,fun u hu hb hq hne y hy hyf=>?_,fun y hy=>?_⟩
  · rw [bget_set hl] at hb
    split at hb
    · rename_i e; rw [← e]
      exact .step (by rw [hxf]; exact h.snd v h.vn h.v0) hE
    · exact h.snd u hu hb
  · rcases List.mem_append.1 hu with hu|hu
    · exact ⟨(h.qn u hu).1,hg _ (h.qn u hu).2⟩
    · rw [List.mem_singleton.1 hu]
      exact ⟨hxt,by rw [bget_set hl]; simp⟩
  · simp only [List.mem_append,List.mem_singleton,not_or] at hq
    rw [bget_set hl] at hb
    split at hb
    · rename_i e; exact absurd e.symm hq.2
    · exact hg _ (h.cl u hu hb hq.1 hne y hy hyf)
  · rcases List.mem_append.1 hy with hy|hy
    · exact hg _ (h.pre0 y hy)
    · rw [List.mem_singleton.1 hy,bget_set hl]; simp
theorem RVInv.done {v:Nat} {q:List Nat} {pre:List Lk} (h:RVInv n s E B v q pre) (hall:∀ x,E x→x.f=v→x∈pre):RInv n s E B q:=
  ⟨h.len,h.src,h.snd,h.qn,fun u hu hb hq x hx hxf=>by
    by_cases e:u=v
    · subst e; exact h.pre0 x (hall x hx hxf)
    · exact h.cl u hu hb hq e x hx hxf⟩
theorem RInv.reach (hE:∀ x,E x→x.f<n∧x.t<n) (hs:s<n) (h:RInv n s E B []):IsReach n E s (bget B):=by
  intro v hv
  refine ⟨h.snd v hv,fun hr=>?_⟩
  exact hr.sub h.src (fun x hx hb=>h.cl x.f (hE x hx).1 hb (by simp) x hx rfl)
end
def unm (B:List Bool):Nat:=(B.filter (fun b=>!b)).length
theorem unm_set:∀ {B:List Bool} {i:Nat},i<B.length→bget B i=false→unm (B.set i true)+1=unm B
  | [],i,h,_=>by simp at h
  | b::B,0,h,hb=>by
    simp [bget] at hb; subst hb
    simp [unm]
  | b::B,i+1,h,hb=>by
    have:=unm_set (B:=B) (i:=i) (by simpa using h) (by simpa [bget] using hb)
    unfold unm at this ⊢
    cases b <;> simp <;> omega
def sideOf (B:List Bool) (k:Nat):List Int:=((List.range k).filter (fun v=>bget B v)).map (fun (v:Nat)=>(v:Int))
theorem sideOf_succ (B:List Bool) (k:Nat):sideOf B (k+1)=sideOf B k ++ (if bget B k=true then [(k:Int)] else []):=by
  unfold sideOf;rw [List.range_succ,List.filter_append,List.map_append]
  congr 1
  cases h:bget B k <;> simp [h]
theorem sideOf_len (B:List Bool) (k:Nat):(sideOf B k).length≤k:=by
  unfold sideOf;rw [List.length_map]
  have:=List.length_filter_le (fun v=>bget B v) (List.range k)
  simpa using this
theorem mem_sideOf {B:List Bool} {k:Nat} {x:Int}:x∈sideOf B k↔∃ v:Nat,x=v∧v<k∧bget B v=true:=by
  unfold sideOf;rw [List.mem_map]
  constructor
  · rintro ⟨v,hv,rfl⟩
    rw [List.mem_filter] at hv
    exact ⟨v,rfl,by simpa using hv.1,hv.2⟩
  · rintro ⟨v,rfl,h1,h2⟩
    exact ⟨v,by rw [List.mem_filter]; exact ⟨by simpa using h1,h2⟩,rfl⟩
theorem capOf_congr {n:Nat} {p q:Nat→Bool} (h:∀ v,v<n→p v=q v):∀ l:List Arc,(∀ a∈l,okArc n a=true)→capOf p l=capOf q l
  | [],_=>rfl
  | a::l,hok=>by
    obtain ⟨g1,g2,g3,g4,_⟩:=okArc_iff.1 (hok a (by simp))
    simp only [capOf]
    rw [capOf_congr h l (fun b hb=>hok b (by simp [hb])),h a.f.toNat (by omega),h a.t.toNat (by omega)]
def maxErr (n:Int) (l:List Arc) (s t:Int):Int:=if chk n l≠0 then chk n l else if okEnds n s t=true then 0 else 2
def MaxOK (n:Int) (l:List Arc) (s t:Int) (F:List Int) (m e:Int):Prop:=
  (maxErr n l s t≠0∧e=maxErr n l s t∧F=[]∧m=0) ∨
  (maxErr n l s t=0∧e=0∧RunR n.toNat l s.toNat t.toNat (List.replicate l.length 0) F∧m=fval s l F)
def CutOK (n:Int) (l:List Arc) (s t:Int) (side:List Int) (c e:Int):Prop:=
  (maxErr n l s t≠0∧e=maxErr n l s t∧side=[]∧c=0) ∨
  (maxErr n l s t=0∧e=0∧∃ F B,RunR n.toNat l s.toNat t.toNat (List.replicate l.length 0) F∧IsReach n.toNat (rE l F) s.toNat (bget B)∧side=sideOf B n.toNat∧c=capOf (bget B) l)
structure Good (n:Int) (l:List Arc) (s t:Int) (n' s' t':Nat):Prop where
  en:n=n'
  es:s=s'
  et:t=t'
  sn:s'<n'
  tn:t'<n'
  ne:s'≠t'
  n2:n'≤2000
  l2:l.length≤20000
  ok:∀ a∈l,okArc n' a=true
  chk:Flow.chk n l=0
  ends:okEnds n s t=true
theorem maxErr_good {n s t:Int} {l:List Arc} (h:maxErr n l s t=0):∃ n' s' t':Nat,Good n l s t n' s' t':=by
  unfold maxErr at h
  split at h
  · rename_i h1; exact absurd h h1
  · rename_i h1
    split at h
    · rename_i h2
      have hc:Flow.chk n l=0:=by omega
      obtain ⟨a1,a2,a3,a4⟩:=chk_ok hc
      obtain ⟨b1,b2,b3,b4,b5⟩:=okEnds_iff.1 h2
      refine ⟨n.toNat,s.toNat,t.toNat,⟨by omega,by omega,by omega,by omega,by omega,by omega,by omega,a3,?_,hc,h2⟩⟩
      have e:((n.toNat:Nat):Int)=n:=by omega
      rw [e]; exact a4
    · simp at h
theorem MaxOK.uniq {n s t:Int} {l:List Arc} {F G:List Int} {m k e f:Int} (h1:MaxOK n l s t F m e) (h2:MaxOK n l s t G k f):F=G∧m=k∧e=f:=by
  rcases h1 with ⟨a1,a2,a3,a4⟩|⟨a1,a2,a3,a4⟩ <;> rcases h2 with ⟨b1,b2,b3,b4⟩|⟨b1,b2,b3,b4⟩
  · exact ⟨by rw [a3,b3],by rw [a4,b4],by rw [a2,b2]⟩
  · exact absurd b1 a1
  · exact absurd a1 b1
  · obtain ⟨n',s',t',g⟩:=maxErr_good a1
    obtain ⟨rfl,rfl,rfl⟩:=And.intro g.en (And.intro g.es g.et)
    simp only [Int.toNat_natCast] at a3 b3
    have e:=a3.uniq g.ok b3
    subst e
    exact ⟨rfl,by rw [a4,b4],by rw [a2,b2]⟩
theorem sideOf_congr {B C:List Bool} {n:Nat} (h:∀ v,v<n→bget B v=bget C v):sideOf B n=sideOf C n:=by
  unfold sideOf
  congr 1
  apply List.filter_congr
  intro v hv
  exact h v (by simpa using hv)
theorem reach_uniq {n s:Nat} {E:Lk→Prop} {p q:Nat→Bool} (h1:IsReach n E s p) (h2:IsReach n E s q):∀ v,v<n→p v=q v:=fun v hv=>by
  have a:=h1 v hv
  have b:=h2 v hv
  cases e1:p v <;> cases e2:q v <;> simp_all
theorem CutOK.uniq {n s t:Int} {l:List Arc} {F G:List Int} {m k e f:Int} (h1:CutOK n l s t F m e) (h2:CutOK n l s t G k f):F=G∧m=k∧e=f:=by
  rcases h1 with ⟨a1,a2,a3,a4⟩|⟨a1,a2,F1,B1,r1,i1,d1,c1⟩ <;> rcases h2 with ⟨b1,b2,b3,b4⟩|⟨b1,b2,F2,B2,r2,i2,d2,c2⟩
  · exact ⟨by rw [a3,b3],by rw [a4,b4],by rw [a2,b2]⟩
  · exact absurd b1 a1
  · exact absurd a1 b1
  · obtain ⟨n',s',t',g⟩:=maxErr_good a1
    obtain ⟨rfl,rfl,rfl⟩:=And.intro g.en (And.intro g.es g.et)
    simp only [Int.toNat_natCast] at *
    have e:=r1.uniq g.ok r2
    subst e
    have hb:=reach_uniq i1 i2
    exact ⟨by rw [d1,d2]; exact sideOf_congr hb,by rw [c1,c2]; exact capOf_congr hb l g.ok,by rw [a2,b2]⟩
end Go.Flow
namespace Go.Flow
theorem unm_rep (n:Nat):unm (List.replicate n false)=n:=by
  unfold unm;rw [List.filter_replicate]
  simp
theorem unm_start {n s:Nat} (hs:s<n):unm ((List.replicate n false).set s true)+1=n:=by
  have:=unm_set (B:=List.replicate n false) (i:=s) (by simpa using hs) (bget_rep n s)
  rw [unm_rep] at this;exact this
end Go.Flow
namespace Go.Step
open Go.Flow (Flw fval okArc okArc_iff okEnds_iff capOf MaxOK maxErr RunR run_cut exists_reach)
section
variable {qs:List Int} {cs:List Ct} {bs:List Bk} {hs:List Hd} {d:Dm}
def MaxN (qs:List Int) (cs:List Ct) (bs:List Bk) (hs:List Hd) (d:Dm) (F:List Int) (m e:Int):Prop:=MaxOK (vsN qs d) (arcsG qs cs bs hs d) (vtx d d.s d.r) (vtx d d.d d.e) F m e
theorem max_err (h:VOk qs cs bs hs d):maxErr (vsN qs d) (arcsG qs cs bs hs d) (vtx d d.s d.r) (vtx d d.d d.e)=0:=by
  unfold maxErr;rw [h.chk,h.ends]
  rfl
theorem max_cut (h:VOk qs cs bs hs d) {F:List Int} {m e:Int} (hm:MaxN qs cs bs hs d F m e):e=0∧∃ N S T:Nat,vsN qs d=N∧vtx d d.s d.r=S∧vtx d d.d d.e=T∧Flw N (arcsG qs cs bs hs d) S T F∧m=fval S (arcsG qs cs bs hs d) F ∧
    ∃ P:Int→Int→Bool,P d.s d.r=true∧P d.d d.e=false∧m=capB qs cs bs hs d P:=by
  have hends:=okEnds_iff.1 h.ends
  obtain ⟨N,hN⟩:∃ N:Nat,vsN qs d=N:=⟨(vsN qs d).toNat,by omega⟩
  obtain ⟨S,hS⟩:∃ N:Nat,vtx d d.s d.r=N:=⟨(vtx d d.s d.r).toNat,by omega⟩
  obtain ⟨T,hT⟩:∃ N:Nat,vtx d d.d d.e=N:=⟨(vtx d d.d d.e).toNat,by omega⟩
  have hok:=h.ok
  unfold MaxN at hm
  have he:=max_err h
  rw [hN] at hok;rw [hN,hS,hT] at hm hends he
  rcases hm with ⟨a1,_⟩|⟨_,a2,a3,a4⟩
  · exact absurd he a1
  simp only [Int.toNat_natCast] at a3
  obtain ⟨B,hB⟩:=exists_reach N (Go.Flow.rE (arcsG qs cs bs hs d) F) S
  obtain ⟨f1,f2,f3,f4⟩:=run_cut hok (by omega) (by omega) (by omega) a3 hB
  refine ⟨a2,N,S,T,hN,hS,hT,f1,a4,fun n t=>B (vtx d n t).toNat,by show B (vtx d d.s d.r).toNat=true; rw [hS]; exact f2,by show B (vtx d d.d d.e).toNat=false; rw [hT]; exact f3,?_⟩
  rw [a4,f4,capB_eq h]
theorem flow_le_cap (h:VOk qs cs bs hs d) {fl:List Int} {N S T:Nat} (hN:vsN qs d=N) (hS:vtx d d.s d.r=S) (hT:vtx d d.d d.e=T) (hf:Flw N (arcsG qs cs bs hs d) S T fl) {P:Int→Int→Bool} (h1:P d.s d.r=true) (h2:P d.d d.e=false):fval S (arcsG qs cs bs hs d) fl≤capB qs cs bs hs d P:=by
  have hdm:=h.dm
  unfold okDm at hdm
  have hok:=h.ok
  have hends:=okEnds_iff.1 h.ends
  rw [hN] at hok
  have b1:bq d P S=true:=by
    have:=bq_vtx (d:=d) (P:=P) (n:=d.s) (t:=d.r) hdm.1.1 (by omega) (by omega)
    rw [hS,Int.toNat_natCast] at this;rw [this]; exact h1
  have b2:bq d P T=false:=by
    have:=bq_vtx (d:=d) (P:=P) (n:=d.d) (t:=d.e) hdm.2.1.1 (by omega) (by omega)
    rw [hT,Int.toNat_natCast] at this;rw [this]; exact h2
  have:=hf.le_cap hok (by omega) b1 b2
  rw [capB_eq h] at this
  rwa [capB_congr h (C:=P) (fun n t g0 g1 g2 g3=>bq_vtx g0 g2 g3)] at this
theorem lsum_le {α:Type} {f g:α→Int} {l:List α} (h:∀ x∈l,f x≤g x):lsum f l≤lsum g l:=by
  induction l with
  | nil=>exact Int.le_refl _
  | cons x l ih=>have:=h x (by simp); have:=ih (fun y hy=>h y (by simp [hy])); simp only [lsum]; omega
theorem lsum_nonneg {α:Type} {f:α→Int} {l:List α} (h:∀ x∈l,0≤f x):0≤lsum f l:=by
  have:=lsum_le (f:=fun _=>0) h
  rwa [lsum_zero] at this
theorem lsum_mem {α:Type} {f:α→Int} {l:List α} (h:∀ x∈l,0≤f x) {x:α} (hx:x∈l):f x≤lsum f l:=by
  induction l with
  | nil=>simp at hx
  | cons y l ih =>
    have h1:=h y (by simp)
    have h2:=lsum_nonneg (f:=f) (l:=l) (fun z hz=>h z (by simp [hz]))
    simp only [lsum]
    rcases List.mem_cons.1 hx with rfl|hx
    · omega
    · have:=ih (fun z hz=>h z (by simp [hz])) hx
      omega
theorem waitB_nonneg (h:VOk qs cs bs hs d) (P:Int→Int→Bool) {n:Nat} (hn:n<qs.length) (t:Int):0≤waitB qs hs d P n t:=by
  unfold waitB
  have:=h.room n hn t
  split <;> omega
theorem conB_nonneg (h:VOk qs cs bs hs d) (P:Int→Int→Bool) {i:Nat} (hi:i<cs.length) (t:Int):0≤conB cs bs d P i t∧conB cs bs d P i t≤1000:=by
  unfold conB;rw [Int.toNat_natCast,List.getElem?_eq_getElem hi]
  have:=(h.ct _ (List.getElem_mem hi)).2.2.2.1
  dsimp only
  split <;> omega
theorem capB_wait_le (h:VOk qs cs bs hs d) (P:Int→Int→Bool) {n:Nat} (hn:n<qs.length) {t:Int} (h1:d.r≤t) (h2:t<d.e):waitB qs hs d P n t≤capB qs cs bs hs d P:=by
  have hw:∀ k:Nat,k<qs.length→0≤sumU (waitB qs hs d P k) d.r d.e:=fun k hk=>by
    rw [← lsum_rngI]
    exact lsum_nonneg (fun t _=>waitB_nonneg h P hk t)
  have hc:0≤sumT (fun i=>sumU (conB cs bs d P i) d.r d.e) 0 cs.length:=by
    rw [← lsum_range]
    refine lsum_nonneg (fun i hi=>?_)
    obtain ⟨k,hk,rfl⟩:=List.mem_map.1 hi
    rw [List.mem_range] at hk;rw [← lsum_rngI,Int.zero_add]
    exact lsum_nonneg (fun t _=>(conB_nonneg h P hk t).1)
  have h3:sumU (waitB qs hs d P n) d.r d.e≤sumT (fun n=>sumU (waitB qs hs d P n) d.r d.e) 0 qs.length:=by
    rw [← lsum_range]
    refine lsum_mem (f:=fun n=>sumU (waitB qs hs d P n) d.r d.e) (fun i hi=>?_) (List.mem_map.2 ⟨n,List.mem_range.2 hn,by omega⟩)
    obtain ⟨k,hk,rfl⟩:=List.mem_map.1 hi
    rw [List.mem_range] at hk
    have:=hw k hk
    rwa [Int.zero_add]
  have h4:waitB qs hs d P n t≤sumU (waitB qs hs d P n) d.r d.e:=by
    rw [← lsum_rngI]
    exact lsum_mem (f:=waitB qs hs d P n) (fun u _=>waitB_nonneg h P hn u) (mem_rngI.2 ⟨h1,h2⟩)
  unfold capB;omega
end
end Go.Step
namespace Go.Step
open Go.Flow (sideChk capacitySpec)
theorem sideChk_asc {n:Int}:∀ {l:List Int} {p:Option Int},sideChk n p l=0→l.Pairwise (· < ·)∧∀ q,p=some q→∀ v∈l,q<v
  | [],_,_=>by simp
  | v::l,p,h=>by
    unfold sideChk at h
    split at h
    · simp at h
    have hp:(∀ q,p=some q→q<v)∧sideChk n (some v) l=0:=by
      split at h
      · rename_i q
        split at h
        · simp at h
        · rename_i hq
          simp at hq
          exact ⟨fun q' e=>by simp at e; omega,h⟩
      · exact ⟨fun q' e=>by simp at e,by simpa using h⟩
    obtain ⟨i1,i2⟩:=sideChk_asc hp.2
    refine ⟨List.pairwise_cons.2 ⟨fun a ha=>i2 v rfl a ha,i1⟩,fun q e u hu=>?_⟩
    have:=hp.1 q e
    rcases List.mem_cons.1 hu with rfl|hu
    · exact this
    · have:=i2 v rfl u hu
      omega
variable {qs:List Int} {cs:List Ct} {bs:List Bk} {hs:List Hd} {d:Dm}
theorem sidesE_asc {side:List Int} (hv:validT qs cs bs hs d=true) (h:sidesE qs cs bs hs d side=0):side.Pairwise (· < ·):=by
  unfold sidesE at h;rw [if_pos hv] at h;unfold capacitySpec at h
  split at h
  · rename_i hc; exact absurd h hc
  split at h
  · rename_i hc; exact absurd h hc
  · rename_i hc
    exact (sideChk_asc (p:=none) (n:=vsN qs d) (by omega)).1
end Go.Step
namespace Go.Step
theorem norm_len:∀ {l:Iv} {a b:Int},NormI l→(∀ x∈l,a≤x.1∧x.2≤b)→(l.length:Int)≤max 0 (b-a)
  | [],a,b,_,_=>by simp only [List.length_nil]; omega
  | x::l,a,b,h,hb=>by
    have h1:=hb x (by simp)
    have h2:=h.1 x (by simp)
    have hp:=List.pairwise_cons.1 h.2
    have ih:=norm_len (l:=l) (a:=x.2+1) (b:=b) ⟨fun y hy=>h.1 y (by simp [hy]),hp.2⟩ (fun y hy=>by
      have h3:=hp.1 y hy
      have h4:=hb y (by simp [hy])
      exact ⟨by omega,h4.2⟩)
    rw [List.length_cons];omega
theorem asc_len:∀ {l:List Int} {a b:Int},l.Pairwise (· < ·)→(∀ x∈l,a≤x∧x<b)→(l.length:Int)≤max 0 (b-a)
  | [],a,b,_,_=>by simp only [List.length_nil]; omega
  | x::l,a,b,h,hb=>by
    have h1:=hb x (by simp)
    have hp:=List.pairwise_cons.1 h
    have ih:=asc_len (l:=l) (a:=x+1) (b:=b) hp.2 (fun y hy=>by
      have h3:=hp.1 y hy
      have h4:=hb y (by simp [hy])
      exact ⟨by omega,h4.2⟩)
    rw [List.length_cons];omega
section
variable {qs:List Int} {cs:List Ct} {bs:List Bk} {hs:List Hd} {d:Dm}
theorem sideI_small (h:VOk qs cs bs hs d) (side:List Int) (n:Int):(sideI d side n).length≤102:=by
  have hdm:=h.dm
  unfold okDm at hdm
  have:=norm_len (sideI_ok d side n).1 (sideI_in (d:=d) (by omega) side n)
  omega
theorem sideI_chk (h:VOk qs cs bs hs d) (side:List Int) (n:Int):chkI (sideI d side n)=0:=by
  have hdm:=h.dm
  unfold okDm at hdm
  have h1:=(sideI_ok d side n).1
  have h2:=sideI_small h side n
  refine chkI_of (by omega) h1 (fun x hx=>?_)
  have a:=sideI_in (d:=d) (by omega) side n x hx
  have b:=h1.1 x hx
  exact ⟨b,by omega,by omega⟩
theorem singI_small (h:VOk qs cs bs hs d) {side:List Int} (ha:side.Pairwise (· < ·)) (n:Int):(singI d n side).length≤102:=by
  have hdm:=h.dm
  unfold okDm at hdm
  have hw:0<wd d:=by unfold wd; omega
  have hw2:wd d≤101:=h.wd.2
  unfold singI;rw [List.length_map]
  have:=asc_len (l:=side.filter (fun v=>decide (v / wd d=n))) (a:=n*wd d) (b:=n*wd d+wd d) (ha.filter _) (fun v hv=>by
    have h1:=of_decide_eq_true (List.mem_filter.1 hv).2
    have a:=Int.emod_nonneg v (Int.ne_of_gt hw)
    have b:=Int.emod_lt_of_pos v hw
    have c:=Int.mul_ediv_add_emod v (wd d)
    rw [h1,Int.mul_comm] at c
    omega)
  omega
end
end Go.Step
