/- Texts of this proof, one after the other; no conditions. -/
import Derived.Test.YtnijkofdlepfjaaGreatWA
import Derived.Lib.SlicesCompact
import Derived.Sort.OwnSortedInts
import Derived.Sort.EveryDepth
import Derived.Lib.RowBridge
import Derived.Shelf.Slices.In.SortNone
import Derived.Lib.AppendZerosOnto
import Derived.Lib.Overlaps
import Derived.Test.YtnijkofdlepfjaaGreatWB3
import Derived.Test.YtnijkofdlepfjaaGreatWB2
set_option linter.all false
namespace Go.Step
open Go.Lib
abbrev SA (l:List Int):Prop:=l.Pairwise (· < ·)
theorem SA.unique:∀ {l m:List Int},SA l->SA m->(∀ x,x∈l↔x∈m)->l=m
  | [],[],_,_,_=>rfl
  | [],y::m,_,_,h=>by have:=(h y).2 (by simp); simp at this
  | x::l,[],_,_,h=>by have:=(h x).1 (by simp); simp at this
  | x::l,y::m,h1,h2,h=>by
    have p1:=aW.1 h1
    have p2:=aW.1 h2
    have hxy:x=y:=by
      have a:=(h x).1 (by simp)
      have b:=(h y).2 (by simp)
      simp at a b
      rcases a with a|a
      · exact a
      · rcases b with b|b
        · exact b.symm
        · have:=p2.1 x a; have:=p1.1 y b; omega
    subst hxy
    rw [SA.unique p1.2 p2.2 (fun z=>?_)]
    constructor
    · intro hz
      have:=(h z).1 (by simp [hz])
      simp at this
      rcases this with rfl|this
      · have:=p1.1 z hz; omega
      · exact this
    · intro hz
      have:=(h z).2 (by simp [hz])
      simp at this
      rcases this with rfl|this
      · have:=p2.1 z hz; omega
      · exact this
theorem aBq {d:Array Int} (hs:∀ i j,i<=j->j<d.size->d[i]! <= d[j]!):∀ m,m<=d.size->SA (compactUpTo d m)/\(∀ x,x∈compactUpTo d m↔∃ j,j<m/\d[j]! = x)
  | 0,_=>by simp [compactUpTo]
  | m+1,hm=>by
    obtain ⟨h1,h2⟩:=aBq hs m (by omega)
    rw [compactUpTo_succ]
    by_cases hk:keeps d m=true
    · rw [if_pos hk]
      have hlt:∀ x∈compactUpTo d m,x<d[m]!:=by
        intro x hx
        obtain ⟨j,hj,rfl⟩:=(h2 x).1 hx
        simp only [keeps,decide_eq_true_eq] at hk
        have a:=hs j (m-1) (by omega) (by omega)
        have b:=hs (m-1) m (by omega) (by omega)
        rcases hk with hk|hk
        · omega
        · have:d[m-1]! ≠ d[m]!:=fun e=>hk e.symm
          omega
      refine ⟨cC.2 ⟨h1,by simp,fun x hx y hy=>by simp at hy; subst hy; exact hlt x hx⟩,fun x=>?_⟩
      rw [aM,h2]
      constructor
      · rintro (⟨j,hj,e⟩|hx)
        · exact ⟨j,by omega,e⟩
        · simp at hx; exact ⟨m,by omega,hx.symm⟩
      · rintro ⟨j,hj,e⟩
        by_cases hjm:j=m
        · subst hjm; right; simp [e]
        · left; exact ⟨j,by omega,e⟩
    · rw [if_neg hk,bX]
      simp only [keeps,decide_eq_true_eq,not_or] at hk
      refine ⟨h1,fun x=>?_⟩
      rw [h2]
      constructor
      · rintro ⟨j,hj,e⟩; exact ⟨j,by omega,e⟩
      · rintro ⟨j,hj,e⟩
        by_cases hjm:j=m
        · subst hjm
          exact ⟨j-1,by omega,by have:=Classical.not_not.1 hk.2; omega⟩
        · exact ⟨j,by omega,e⟩
theorem aLj {l:List Int} (h:l.Pairwise (· <= ·)):SA (compact l)/\∀ x,x∈compact l↔x∈l:=by
  have hs:∀ i j,i<=j->j<l.toArray.size->l.toArray[i]! <= l.toArray[j]!:=by
    intro i j hij hj
    simp only [dN] at hj
    rw [getElem!_pos l.toArray i (by simp; omega),getElem!_pos l.toArray j (by simpa using hj)]
    simp only [List.getElem_toArray]
    rcases dP i j with h1|h1
    · exact aZ.1 h i j (by omega) hj h1
    · have:i=j:=by omega
      subst this; exact cH _
  obtain ⟨h1,h2⟩:=aBq hs l.length (by simp)
  refine ⟨h1,fun x=>?_⟩
  show x∈compactUpTo l.toArray l.length↔_
  rw [h2,List.mem_iff_getElem]
  constructor
  · rintro ⟨j,hj,e⟩
    refine ⟨j,hj,?_⟩
    rw [getElem!_pos l.toArray j (by simpa using hj)] at e
    simpa using e
  · rintro ⟨j,hj,e⟩
    refine ⟨j,hj,?_⟩
    rw [getElem!_pos l.toArray j (by simpa using hj)]
    simpa using e
def kJ (F:Int->Int) (last:Int):List Int->List Lv
  | []=>[]
  | t::ts=>if F t≠last then ⟨t,F t⟩::kJ F (F t) ts else kJ F (F t) ts
theorem yX (F:Int->Int):∀ (ts us:List Int) (last:Int),kJ F last (ts ++ us)=kJ F last ts ++ kJ F (if ts=[] then last else F (ts.getLastD 0)) us
  | [],us,last=>rfl
  | t::ts,us,last=>by
    have ih:=yX F ts us (F t)
    have e:(if ts=[] then F t else F (ts.getLastD 0))=F ((t::ts).getLastD 0):=by
      cases ts with
      | nil=>rfl
      | cons u ts=>simp [List.getLastD]
    rw [e] at ih;simp only [aG,kJ]
    rw [ih,if_neg (by simp:¬ (t::ts=[]))]
    split <;> rfl
theorem vM (F:Int->Int):∀ (ts:List Int) (last:Int),(kJ F last ts).length<=ts.length
  | [],_=>by simp [kJ]
  | t::ts,last=>by
    have:=vM F ts (F t)
    simp only [kJ]
    split <;> simp <;> omega
def okV (v:Int):Prop:=-1125899906842624<=v/\v<=1125899906842624
theorem aBr {F:Int->Int}:∀ {ts:List Int} {pa pv:Int},SA ts->(∀ t∈ts,pa<t/\0<=t/\t<=1099511627776/\okV (F t))->aOv pa pv (kJ F pv ts)=0
  | [],_,_,_,_=>rfl
  | t::ts,pa,pv,hs,h=>by
    have p:=aW.1 hs
    have ht:=h t (by simp)
    have hr:∀ q:Int,q<=t->∀ u∈ts,q<u/\0<=u/\u<=1099511627776/\okV (F u):=fun q hq u hu=>by
      have:=p.1 u hu
      have:=h u (by simp [hu])
      exact ⟨by omega,this.2⟩
    simp only [kJ];unfold okV at ht
    split
    · rename_i hne
      simp only [aOv]
      rw [if_neg (by unfold aSo; dsimp only; omega),if_neg (by omega)]
      exact aBr p.2 (hr t (cH _))
    · rename_i he
      have he:F t=pv:=Classical.not_not.1 he
      rw [he]
      exact aBr p.2 (hr pa (by omega))
def tv (F:Int->Int) (cur:Int):List Int->Int->Int
  | [],_=>cur
  | x::xs,t=>if x<=t then tv F (F x) xs t else cur
theorem aF2 {F:Int->Int}:∀ {ts:List Int} {last p:Int},(∀ x∈ts,p<x)->∀ l∈kJ F last ts,p<l.a
  | [],_,_,_,l,hl=>by simp [kJ] at hl
  | t::ts,last,p,h,l,hl=>by
    simp only [kJ] at hl
    split at hl
    · simp at hl
      rcases hl with rfl|hl
      · exact h t (by simp)
      · exact aF2 (fun x hx=>h x (by simp [hx])) l hl
    · exact aF2 (fun x hx=>h x (by simp [hx])) l hl
theorem aBs {F:Int->Int} {t:Int}:∀ {ts:List Int} {cur:Int},SA ts->vat cur (kJ F cur ts) t=tv F cur ts t
  | [],_,_=>rfl
  | x::xs,cur,hs=>by
    have p:=aW.1 hs
    simp only [tv]
    by_cases hx:x<=t
    · rw [if_pos hx]
      simp only [kJ]
      split
      · simp only [vat]; rw [if_pos hx]; exact aBs p.2
      · rename_i he
        have he:F x=cur:=Classical.not_not.1 he
        rw [← he]; exact aBs p.2
    · rw [if_neg hx]
      refine aI3 _ _ _ (fun l hl=>?_)
      have hm:l∈kJ F cur (x::xs):=List.mem_of_mem_head? (by simpa using hl)
      have:=aF2 (p:=x-1) (fun y hy=>by
        simp at hy
        rcases hy with rfl|hy
        · omega
        · have:=p.1 y hy; omega) l hm
      omega
theorem aV6 {F:Int->Int}:∀ {ts:List Int} {p t:Int},SA ts->(∀ x∈ts,p<x)->p<=t->(∀ a b:Int,p<=a->a<=b->(∀ y∈ts,¬ (a<y/\y<=b))->F b=F a)->tv F (F p) ts t=F t
  | [],p,t,_,_,ht,H=>(H p t (cH _) ht (by simp)).symm
  | x::xs,p,t,hs,hp,ht,H=>by
    have q:=aW.1 hs
    have hpx:=hp x (by simp)
    simp only [tv]
    by_cases hx:x<=t
    · rw [if_pos hx]
      refine aV6 q.2 q.1 hx (fun a b h1 h2 h3=>H a b (by omega) h2 (fun y hy=>?_))
      simp at hy
      rcases hy with rfl|hy
      · omega
      · exact h3 y hy
    · rw [if_neg hx]
      refine (H p t (cH _) ht (fun y hy=>?_)).symm
      simp at hy
      rcases hy with rfl|hy
      · omega
      · have:=q.1 y hy; omega
end Go.Step
namespace Go.Step
structure Hd where
  n:Int
  a:Int
  b:Int
  s:Int
  k:Int
deriving DecidableEq
def lN (nq:Nat) (h:Hd):Prop:=(0<=h.n/\h.n<nq)/\(0<=h.a/\h.a<h.b/\h.b<=1099511627776)/\(1<=h.s/\h.s<=65536)/\(0<=h.k/\h.k<=1152921504606846976)
instance (nq:Nat) (h:Hd):Decidable (lN nq h):=inferInstanceAs (Decidable (_/\_))
def gZ (a b:Int):Int:=if a<b then -1 else if b<a then 1 else 0
def orI:List Int->Int
  | []=>0
  | x::l=>if x≠0 then x else orI l
def mY (x y:Hd):Int:=orI [gZ x.n y.n,gZ x.a y.a,gZ x.b y.b,gZ x.k y.k,gZ x.s y.s]
def stored (l:List Hd) (n t:Int):Int:=match l with
  | []=>0
  | h::l=>(if h.n=n/\h.a<=t/\t<h.b then h.s else 0)+stored l n t
def lK (l:List Hd) (n t:Int):Int:=match l with
  | []=>0
  | h::l=>(if h.n=n then (if h.a=t then h.s else 0)-(if h.b=t then h.s else 0) else 0)+lK l n t
theorem rH {n p t:Int} (hpt:p<t):∀ {l:List Hd},(∀ h∈l,h.n=n->(h.a<=p\/t<=h.a)/\(h.b<=p\/t<=h.b)/\h.a<h.b)->stored l n t=stored l n p+lK l n t
  | [],_=>rfl
  | h::l,H=>by
    have ih:=rH hpt (l:=l) (fun x hx=>H x (by simp [hx]))
    have h0:=H h (by simp)
    simp only [stored,lK,ih]
    by_cases hn:h.n=n
    · have:=h0 hn
      simp only [hn,true_and,if_true]
      split <;> split <;> split <;> split <;> omega
    · simp only [hn,false_and,if_false]
      omega
theorem nO {n t:Int}:∀ {l:List Hd},(∀ h∈l,h.n=n->t<h.a)->stored l n t=0
  | [],_=>rfl
  | h::l,H=>by
    have ih:=nO (l:=l) (fun x hx=>H x (by simp [hx]))
    have h0:=H h (by simp)
    simp only [stored,ih]
    by_cases hn:h.n=n
    · have:=h0 hn
      rw [if_neg (by omega)]; rfl
    · rw [if_neg (by omega)]; rfl
theorem sK {n t:Int} {nq:Nat}:∀ {l:List Hd},(∀ h∈l,lN nq h)->0<=stored l n t/\stored l n t<=65536*l.length
  | [],_=>by simp [stored]
  | h::l,H=>by
    have ih:=sK (n:=n) (t:=t) (l:=l) (fun x hx=>H x (by simp [hx]))
    have h0:=(H h (by simp)).2.2.1
    simp only [stored,aS,Int.natCast_add,Int.mul_add]
    split <;> omega
theorem aI5 {n t:Int} {nq:Nat}:∀ {l:List Hd},(∀ h∈l,lN nq h) -> -(65536*(l.length:Int))<=lK l n t/\lK l n t<=65536*l.length
  | [],_=>by simp [lK]
  | h::l,H=>by
    have ih:=aI5 (n:=n) (t:=t) (l:=l) (fun x hx=>H x (by simp [hx]))
    have h0:=(H h (by simp)).2.2.1
    have h1:=(H h (by simp)).2.1
    simp only [lK,aS,Int.natCast_add,Int.mul_add]
    split
    · split <;> split <;> omega
    · omega
def tmH (l:List Hd) (n:Int):List Int:=l.flatMap (fun h=>if h.n=n then [h.a,h.b] else [])
theorem lE {l:List Hd} {n x:Int}:x∈tmH l n↔∃ h∈l,h.n=n/\(x=h.a\/x=h.b):=by
  unfold tmH;rw [dB]
  constructor
  · rintro ⟨h,hm,hx⟩
    by_cases hn:h.n=n
    · rw [if_pos hn] at hx
      exact ⟨h,hm,hn,by simpa using hx⟩
    · rw [if_neg hn] at hx; simp at hx
  · rintro ⟨h,hm,hn,hx⟩
    exact ⟨h,hm,by rw [if_pos hn]; simpa using hx⟩
def hts (l:List Hd) (n:Int):List Int:=Lib.compact ((tmH l n).mergeSort fun x y=>decide (x<=y))
theorem xK (l:List Hd) (n:Int):SA (hts l n)/\∀ x,x∈hts l n↔x∈tmH l n:=by
  have hp:((tmH l n).mergeSort fun x y=>decide (x<=y)).Pairwise (· <= ·):=by
    have:=List.pairwise_mergeSort (le:=fun x y:Int=>decide (x<=y)) (by intro a b c h1 h2; simp at *; omega) (by intro a b; simp; omega) (tmH l n)
    exact this.imp (fun h=>by simpa using h)
  obtain ⟨h1,h2⟩:=aLj hp
  exact ⟨h1,fun x=>by unfold hts; rw [h2 x,List.mem_mergeSort]⟩
def lvH (l:List Hd) (n:Int):List Lv:=kJ (stored l n) 0 (hts l n)
def oL (F:Int->Int) (ts:List Int) (k:Nat):Int:=if k=0 then 0 else F (ts.getD (k-1) 0)
theorem aOw (F:Int->Int) {ts:List Int} {k:Nat} {t:Int} (h:ts[k]?=some t):kJ F 0 (ts.take (k+1))=kJ F 0 (ts.take k) ++ (if F t=oL F ts k then [] else [⟨t,F t⟩]):=by
  obtain ⟨hk,rfl⟩:=aC.1 h
  rw [aV hk,yX]
  congr 1
  have e:(if ts.take k=[] then (0:Int) else F ((ts.take k).getLastD 0))=oL F ts k:=by
    unfold oL
    by_cases h0:k=0
    · subst h0; simp
    · have hne:ts.take k≠[]:=by
        intro hh
        have:=congrArg List.length hh
        rw [aL,cW] at this;omega
      rw [if_neg hne,if_neg h0]
      congr 1
      rw [List.getLastD_eq_getLast?,eD,aL,dU (by omega),cJ (by omega)]
      rw [aI]
  rw [e]
  by_cases hc:F ts[k]=oL F ts k
  · rw [if_pos hc]; simp only [kJ]; rw [if_neg (fun h=>h hc)]
  · rw [if_neg hc]; simp only [kJ]; rw [if_pos hc]
end Go.Step
namespace Go.Proofs.YtnijkofdlepfjaaGreat
open Go.Eng Go.Step
set_option maxRecDepth 100000
set_option maxHeartbeats 64000000
theorem aLk (a:Int):Ans Tryz.prog (fv 125) [int a] [] (fun r=>r=.bool false):=by
 refine A8 Tryz.func125 Tryz.ntmps125 fun N β=>?_
 refine Aea ?_;refine BN ?_;refine Aaa ?_;exact AV ⟨rfl,rfl⟩
theorem gO (a b:Int):Ans Tryz.prog (fv 62) [int a,int b] [] (fun r=>r=int (gZ a b)):=by
 refine A8 Tryz.func62 Tryz.ntmps62 fun N β=>?_
 repeat' (first
  | (refine AB ?_)
  | (refine AD ?_)
  | (refine AC ?_)
  | (refine AA ?_)
  | (refine AE ?_)
  | (refine AK ?_)
  | (refine AQ rfl ?_)
  | (refine AJ rfl ?_)
  | (focus ((refine BT (aLk _) rfl rfl rdZ rfl rfl ?_; rintro _ rfl)))
  | (focus ((refine DR rfl rfl (aAm _ _) rfl rfl (fun h=>?_) (fun h=>?_))))
  | fail)
 all_goals (refine A2 (qR rfl rfl) fQ fK ⟨rfl,?_⟩; unfold gZ; (repeat' split) <;> first|rfl|(exfalso; omega))
theorem aSq (x:Int) (l:List Int):orI (x::l)=if x≠0 then x else orI l:=rfl
theorem sL (ρ:PH) (v:Value) (l:List Int) (hv:gC ρ v l) (hl:l.length<=1000):Ans Tryz.prog (fv 61) [v] [ρ] (fun r=>r=int (orI l)):=by
 obtain ⟨q,c,rfl,hr⟩:=hv.val Eng.encI_len
 refine A8 Tryz.func61 Tryz.ntmps61 fun N β=>?_
 refine Aam ?_;refine Adf ?_
 refine BE [3,6,7] (0:Nat) (fun k=>k<=l.length/\orI l=orI (l.drop k)) (fun k=>[(8,int k)]) (fun _=>[]) (fun k=>l.length-k) fT ⟨by omega,rfl⟩ fP fK ?_
 rintro k ⟨hk,hI⟩
 by_cases hlt:k<l.length
 ·have hx:=aA hlt
  obtain ⟨b1,o1,rfl,g1⟩:=hr.int hx
  rw [bU hlt] at hI
  generalize l[k]=x at g1 hI
  rw [aSq] at hI
  by_cases h0:x=0
  ·rw [if_neg (by omega)] at hI
   refine Aeo ?_;refine Adz ?_;refine Abn ?_;refine Aa3 ?_
   exact AZ (k+1) ⟨by omega,hI⟩ (by omega) fP fK
  ·rw [if_pos h0] at hI
   rw [hI];refine Aeo ?_;refine Adz ?_;refine C5 ?_;refine Acu ?_;exact AV ⟨rfl,rfl⟩
 ·rw [hI,cE (by omega)]
  refine Abp ?_;refine Aa5 ?_;exact AV ⟨rfl,rfl⟩
def hY (h:Hd):List Value:=[int h.n,int h.a,int h.b,int h.s,int h.k]
theorem gM (h:Hd):(hY h).length=5:=rfl
abbrev HdAt (ρ:PH) (v:Value) (l:List Hd):Prop:=SlE hY 5 ρ v l
theorem hdRow {ρ:PH} {p:Option Addr} {l:List Hd} (h:nH hY 5 ρ p l) {i:Nat} {x:Hd} (hx:l[i]?=some x) :
  ∃ b o,p=some ⟨b,o,none⟩/\RdN ρ b (o+i*5) [int x.n,int x.a,int x.b,int x.s,int x.k]:=h i x hx
theorem aF3 (x y:Hd):Ans Tryz.prog (fv 175) [.agg #[int x.n,int x.a,int x.b,int x.s,int x.k],.agg #[int y.n,int y.a,int y.b,int y.s,int y.k]] [] (fun r=>r=int (mY x y)):=by
 refine A8 Tryz.func175 Tryz.ntmps175 fun N β=>?_
 refine Aa ?_
 refine B8 fun b=>?_
 refine B8 fun b=>?_
 refine Aba ?_
 refine A9 (.q 0 (.q 1 (.q 2 (.q 3 (.q 5 (.q 6 (.q 7 (.q 8 (.q 10 (.q 11 (.q 12 (.q 13 (.q 15 (.q 16 (.q 17 (.q 18 (.q 20 (.q 21 (.q 22 (.q 23 (.l 4 .e (.l 9 .e (.l 14 .e (.l 19 .e (.l 24 .e (.l 25 .e (.l 26 .e (.q 27 .nil)))))))))))))))))))))))))))) [] rfl (by kernel_rfl) fK ?_
 refine Aeq ?_;refine Aeq ?_;refine Abj ?_
 focus ((refine BZ (BQ rfl (gO _ _) rfl rfl rdZ rfl rfl ?_); rintro _ rfl))
 focus ((refine BZ (BQ rfl (gO _ _) rfl rfl rdZ rfl rfl ?_); rintro _ rfl))
 focus ((refine BZ (BQ rfl (gO _ _) rfl rfl rdZ rfl rfl ?_); rintro _ rfl))
 focus ((refine BZ (BQ rfl (gO _ _) rfl rfl rdZ rfl rfl ?_); rintro _ rfl))
 focus ((refine BZ (BQ rfl (gO _ _) rfl rfl rdZ rfl rfl ?_); rintro _ rfl))
 refine BY fun b=>?_
 revert b; intro bo
 refine BZ (BQ rfl (sL (sng bo _) _ [gZ x.n y.n,gZ x.a y.a,gZ x.b y.b,gZ x.k y.k,gZ x.s y.s] (oI Eng.encI_len) (by simp)) rfl rfl rdZ rfl rfl ?_)
 rintro _ rfl;refine Ac ?_
 skip
 exact AV ⟨rfl,rfl⟩
theorem aF4 (v w:Value) (ρ:PH) (qs:List Int) (kq:Nat) (pq:Option Addr) (h:Hd) (hv:v=.slice pq qs.length kq) (h1:w.oneCell'=true):Ans Tryz.prog (fv 174) [.agg #[v,w],.agg #[int h.n,int h.a,int h.b,int h.s,int h.k]] [] (fun r=>r=.bool (decide (lN qs.length h))):=by
 subst hv
 refine A8 Tryz.func174 Tryz.ntmps174 fun N β=>?_
 repeat' (first
  | (refine AB ?_)
  | (refine AD ?_)
  | (refine AF ?_)
  | (refine AG ?_)
  | (refine AY ?_)
  | (refine AT ?_)
  | (refine A6 ?_)
  | (refine AC ?_)
  | (refine AA ?_)
  | (refine AE ?_)
  | (refine AL rfl rfl rfl ?_)
  | (refine B8 fun b=>?_)
  | (focus ((refine DR rfl rfl (aAm _ _) rfl rfl (fun h=>?_) (fun h=>?_))))
  | (focus ((refine DR rfl rfl (aKj _ _) rfl rfl (fun h=>?_) (fun h=>?_))))
  | fail)
 all_goals (refine A2 (qR rfl rfl) fQ fK ⟨rfl,?_⟩; congr 1; unfold lN; first|exact (decide_eq_false (by omega)).symm|exact (decide_eq_true (by omega)).symm|(apply decide_eq_decide.2; omega))
end Go.Proofs.YtnijkofdlepfjaaGreat
namespace Go.Step
open Go.Eng
theorem aEd (k v x:Int):∀ m:List (Int × Int),mC x (nM k v m)=if x=k then some v else mC x m
  | []=>by
    unfold mC nM pZ
    by_cases h:x=k
    · simp [h]
    · simp [h,pZ]
  | (a,w)::m=>by
    have ih:=aEd k v x m
    unfold mC at ih ⊢
    by_cases hk:k=a
    · subst hk
      simp only [nM,if_true,pZ]
      by_cases h:x=k <;> simp [h]
    · simp only [nM,if_neg hk,pZ]
      by_cases h:x=a
      · subst h
        simp [Ne.symm hk]
      · simp only [if_neg h,Option.map_map]
        have e:((fun p:Nat × Int=>p.2) ∘ fun p:Nat × Int=>(p.1+1,p.2))=fun p=>p.2:=rfl
        rw [e];exact ih
def oM (m:List (Int × Int)) (T:List Int) (t:Int):List Int:=if mC t m=none then T ++ [t] else T
structure aF5 (D:Int->Int) (T:List Int) (m:List (Int × Int)):Prop where
  get:∀ t,mC t m=if t∈T then some (D t) else none
  out:∀ t,t∉T->D t=0
  nd:T.Pairwise (· ≠ ·)
theorem aF5.zero:aF5 (fun _=>0) [] []:=⟨fun t=>rfl,fun _ _=>rfl,List.Pairwise.nil⟩
theorem aF5.val {D:Int->Int} {T:List Int} {m:List (Int × Int)} (h:aF5 D T m) (t:Int):(mC t m).getD 0=D t:=by
  rw [h.get t]
  split
  · rfl
  · rename_i hn; rw [h.out t hn]; rfl
theorem aF5.step {D:Int->Int} {T:List Int} {m:List (Int × Int)} (h:aF5 D T m) (t d:Int):aF5 (fun x=>D x+if x=t then d else 0) (oM m T t) (nM t ((mC t m).getD 0+d) m)/\(∀ x,x∈oM m T t↔x∈T\/x=t)/\(oM m T t).length<=T.length+1:=by
  have hm:∀ x,x∈oM m T t↔x∈T\/x=t:=fun x=>by
    unfold oM;rw [h.get t]
    by_cases ht:t∈T
    · rw [if_pos ht,if_neg (by simp)]
      constructor
      · exact .inl
      · rintro (h|rfl) <;> assumption
    · rw [if_neg ht,if_pos rfl]; simp
  refine ⟨⟨fun x=>?_,fun x hx=>?_,?_⟩,hm,?_⟩
  · rw [aEd,h.val,h.get x]
    by_cases hx:x=t
    · subst hx
      rw [if_pos rfl,if_pos ((hm x).2 (.inr rfl))]; simp
    · rw [if_neg hx]
      by_cases hT:x∈T
      · rw [if_pos hT,if_pos ((hm x).2 (.inl hT))]; simp [hx]
      · rw [if_neg hT,if_neg (fun hh=>by rcases (hm x).1 hh with h|h <;> contradiction)]
  · have hx1:x∉T:=fun hh=>hx ((hm x).2 (.inl hh))
    have hx2:x≠t:=fun hh=>hx ((hm x).2 (.inr hh))
    rw [h.out x hx1,if_neg hx2]; rfl
  · unfold oM
    rw [h.get t]
    by_cases ht:t∈T
    · rw [if_pos ht,if_neg (by simp)]; exact h.nd
    · rw [if_neg ht,if_pos rfl]
      refine cC.2 ⟨h.nd,by simp,fun a ha b hb=>?_⟩
      simp at hb; subst hb
      intro e; subst e; exact ht ha
  · unfold oM
    split <;> simp
theorem uC (n x:Int) (h:Hd):∀ l:List Hd,lK (l ++ [h]) n x=lK l n x+if h.n=n then (if h.a=x then h.s else 0)-(if h.b=x then h.s else 0) else 0
  | []=>by simp [lK]
  | g::l=>by
    have ih:=uC n x h l
    simp only [aG,lK,ih];omega
theorem aI6 (n x:Int) (h:Hd) (l:List Hd):x∈tmH (l ++ [h]) n↔x∈tmH l n\/(h.n=n/\(x=h.a\/x=h.b)):=by
  rw [lE,lE]
  constructor
  · rintro ⟨g,hg,k⟩
    rcases aM.1 hg with hg|hg
    · exact .inl ⟨g,hg,k⟩
    · simp at hg; subst hg; exact .inr k
  · rintro (⟨g,hg,k⟩|k)
    · exact ⟨g,by simp [hg],k⟩
    · exact ⟨h,by simp,k⟩
structure xL (l:List Hd) (n:Int) (T:List Int) (m:List (Int × Int)):Prop where
  d:aF5 (lK l n) T m
  mem:∀ x,x∈T↔x∈tmH l n
  len:T.length<=2*l.length
theorem xL.zero (n:Int):xL [] n [] []:=⟨aF5.zero,fun x=>by simp [tmH],by simp⟩
theorem xL.skip {l:List Hd} {n:Int} {T:List Int} {m:List (Int × Int)} {h:Hd} (H:xL l n T m) (hn:h.n≠n):xL (l ++ [h]) n T m:=by
  refine ⟨?_,fun x=>?_,by have:=H.len; simp; omega⟩
  · have e:lK (l ++ [h]) n=lK l n:=by funext x; rw [uC,if_neg hn]; omega
    rw [e]; exact H.d
  · rw [aI6,H.mem x]; simp [hn]
theorem xL.note {l:List Hd} {n:Int} {T:List Int} {m:List (Int × Int)} {h:Hd} (H:xL l n T m) (hn:h.n=n) :
    let m1:=nM h.a ((mC h.a m).getD 0+h.s) m
    let T1:=oM m T h.a
    xL (l ++ [h]) n (oM m1 T1 h.b) (nM h.b ((mC h.b m1).getD 0 + -h.s) m1):=by
  intro m1 T1
  obtain ⟨d1,e1,l1⟩:=H.d.step h.a h.s
  obtain ⟨d2,e2,l2⟩:=d1.step h.b (-h.s)
  refine ⟨?_,fun x=>?_,?_⟩
  · have e:lK (l ++ [h]) n=fun x=>(fun x=>lK l n x+if x=h.a then h.s else 0) x+if x=h.b then -h.s else 0:=by
      funext x
      rw [uC,if_pos hn]
      dsimp only
      by_cases ha:h.a=x <;> by_cases hb:h.b=x
      · rw [if_pos ha,if_pos hb,if_pos ha.symm,if_pos hb.symm]; omega
      · rw [if_pos ha,if_neg hb,if_pos ha.symm,if_neg (fun e=>hb e.symm)]; omega
      · rw [if_neg ha,if_pos hb,if_neg (fun e=>ha e.symm),if_pos hb.symm]; omega
      · rw [if_neg ha,if_neg hb,if_neg (fun e=>ha e.symm),if_neg (fun e=>hb e.symm)]; omega
    rw [e]; exact d2
  · rw [e2,e1,aI6,H.mem x]
    constructor
    · rintro ((h|h)|h)
      · exact .inl h
      · exact .inr ⟨hn,.inl h⟩
      · exact .inr ⟨hn,.inr h⟩
    · rintro (h|⟨_,h|h⟩)
      · exact .inl (.inl h)
      · exact .inl (.inr h)
      · exact .inr h
  · have:=H.len
    show (oM (nM h.a ((mC h.a m).getD 0+h.s) m) (oM m T h.a) h.b).length<=_
    rw [aB,bM]; omega
theorem xL.sorted {l:List Hd} {n:Int} {T:List Int} {m:List (Int × Int)} (H:xL l n T m):(T.mergeSort fun x y=>decide (x<=y))=hts l n:=by
  obtain ⟨h1,h2⟩:=xK l n
  have hp:(T.mergeSort fun x y=>decide (x<=y)).Pairwise (· <= ·):=by
    have:=List.pairwise_mergeSort (le:=fun x y:Int=>decide (x<=y)) (by intro a b c h1 h2; simp at *; omega) (by intro a b; simp; omega) T
    exact this.imp (fun h=>by simpa using h)
  have hn:(T.mergeSort fun x y=>decide (x<=y)).Pairwise (· ≠ ·):=(List.mergeSort_perm T _).symm.pairwise H.d.nd (fun h=>Ne.symm h)
  refine SA.unique ?_ h1 (fun x=>?_)
  · exact (hp.and hn).imp (fun ⟨a,b⟩=>by omega)
  · rw [List.mem_mergeSort,h2 x,H.mem x]
def oD (f:List Lv):Int:=f.foldl (fun n x=>max n x.v) 0
theorem aLl {f:List Lv} {k:Nat} {x:Lv} (h:f[k]?=some x):oD (f.take (k+1))=max (oD (f.take k)) x.v:=by
  obtain ⟨hk,rfl⟩:=aC.1 h
  unfold oD;rw [aV hk,List.foldl_append]; rfl
theorem SA.gap {ts:List Int} (h:SA ts) {k:Nat} (hk:k<ts.length) {x:Int} (hx:x∈ts):(0<k/\x<=ts.getD (k-1) 0)\/ts[k]<=x:=by
  obtain ⟨j,hj,rfl⟩:=bB hx
  have hp:=aZ.1 h
  by_cases hjk:j<k
  · left
    refine ⟨by omega,?_⟩
    rw [aI,aA (by omega:k-1<ts.length)]
    by_cases e:j=k-1
    · subst e; simp
    · have:=hp j (k-1) hj (by omega) (by omega)
      simp; omega
  · right
    by_cases e:j=k
    · subst e; omega
    · have:=hp k j hk hj (by omega)
      omega
theorem aI7 {l:List Hd} {n:Int} {nq:Nat} (hok:∀ h∈l,lN nq h) {k:Nat} (hk:k<(hts l n).length):stored l n (hts l n)[k]=oL (stored l n) (hts l n) k+lK l n (hts l n)[k]:=by
  obtain ⟨h1,h2⟩:=xK l n
  have hmem:∀ h∈l,h.n=n->h.a∈hts l n/\h.b∈hts l n:=fun h hl hn=>⟨(h2 _).2 (lE.2 ⟨h,hl,hn,.inl rfl⟩),(h2 _).2 (lE.2 ⟨h,hl,hn,.inr rfl⟩)⟩
  by_cases h0:k=0
  · subst h0
    have e:stored l n (-1)=0:=nO (fun h hl hn=>by have:=(hok h hl).2.1; omega)
    have ht:(-1:Int)<(hts l n)[0]:=by
      obtain ⟨h,hl,hn,hx⟩:=lE.1 ((h2 _).1 (cP hk))
      have:=(hok h hl).2.1
      rcases hx with hx|hx <;> omega
    have:=rH ht (l:=l) (n:=n) (fun h hl hn=>by
      have hv:=(hok h hl).2.1
      obtain ⟨ma,mb⟩:=hmem h hl hn
      rcases h1.gap hk ma with g|g
      · omega
      · rcases h1.gap hk mb with g2|g2
        · omega
        · omega)
    rw [this,e]; unfold oL; rw [if_pos rfl]
  · have hk1:k-1<(hts l n).length:=by omega
    have hlt:(hts l n)[k-1]<(hts l n)[k]:=aZ.1 h1 (k-1) k hk1 hk (by omega)
    have hd:(hts l n).getD (k-1) 0=(hts l n)[k-1]:=by rw [aI,aA hk1]; rfl
    unfold oL;rw [if_neg h0,hd]
    refine rH hlt (fun h hl hn=>?_)
    have hv:=(hok h hl).2.1
    obtain ⟨ma,mb⟩:=hmem h hl hn
    have g:=h1.gap hk ma
    have g2:=h1.gap hk mb
    rw [hd] at g g2;omega
theorem aUr (l:List Hd) (n:Int) {T:List Int} {m:List (Int × Int)} (H:xL l n T m):(hts l n).length<=2*l.length:=by
  rw [← H.sorted,fD]; exact H.len
end Go.Step
namespace Go.Proofs.YtnijkofdlepfjaaGreat
open Go.Eng Go.Step
set_option maxRecDepth 100000
set_option maxHeartbeats 64000000
theorem aEe (bm bt b:Nat) (m:List (Int × Int)) (T:List Int) (u:Value) (σ:PH) (t d:Int) (hO:fS 3 1 u T.length (T.flatMap Eng.encI) σ) (hT:T.length<=100000) (hd:-4611686018427387904<=(mC t m).getD 0+d/\(mC t m).getD 0+d<=4611686018427387904) :
  Eng.Spec Tryz.prog (.func (.func 220) #[] #[.pointer (some ⟨bm,0,none⟩),.pointer (some ⟨bt,0,none⟩)]) [int t,int d] [] [sng bm (.cells #[.map (some b)] 330 (0,0)),sng b (oB m),sng bt (.cells #[u] 22 (0,0)),σ]
   (fun r H'=>r=.tuple #[]/\∃ u' σ',fS 3 1 u' (oM m T t).length ((oM m T t).flatMap Eng.encI) σ'/\H'=[sng bm (.cells #[.map (some b)] 330 (0,0)),sng b (oB (nM t ((mC t m).getD 0+d) m)),sng bt (.cells #[u'] 22 (0,0)),σ']):=by
 obtain ⟨pu,cu,rfl⟩:=qO.cap hO.at
 refine CU [.pointer (some ⟨bm,0,none⟩),.pointer (some ⟨bt,0,none⟩)] Tryz.func220 Tryz.ntmps220 fun N β=>?_
 unfold oM
 cases hm:mC t m with
 | some w =>
  rw [hm] at hd
  rw [if_neg (by simp)]
  refine Ac5 ?_;refine AB ?_
  focus ((refine' CN _ rfl rfl rfl _; rotate_left; (apply EX (l:=m); exact rfl; exact rfl; exact rfl; exact rfl; exact rfl; exact sJ gN); rw [hm]))
  refine Ab7 ?_;refine Aab ?_;refine Acn ?_;refine AA ?_;refine AF ?_;refine AB ?_
  focus ((refine' CN _ rfl rfl rfl _; rotate_left; (apply D3 (l:=m); exact rfl; exact rfl; exact rfl; exact rfl; exact rfl; exact sJ gN); rw [hm]))
  refine AB ?_;refine CF ?_
  focus ((refine' CY _ rfl rfl _; rotate_left; (apply EI (l:=m); exact rfl; exact rfl; exact rfl; exact rfl; exact rfl; exact fL); rintro _ _ ⟨rfl,rfl⟩))
  refine AE ?_;exact BJ (gY rfl) fQ fK ⟨rfl,_,_,hO,rfl⟩
 | none =>
  rw [hm] at hd;rw [if_pos rfl];refine Ac5 ?_;refine AB ?_
  focus ((refine' CN _ rfl rfl rfl _; rotate_left; (apply EX (l:=m); exact rfl; exact rfl; exact rfl; exact rfl; exact rfl; exact sJ gN); rw [hm]))
  refine Ab7 ?_;refine Aab ?_;refine Aei ?_;refine AA ?_;refine AF ?_;refine AB ?_
  refine BW fun b=>?_
  refine CR (CA (by_:=8) (s:=1) (news:=[int t]) rfl rfl rfl rfl rfl rfl rfl hO fL (fR gN) rfl iF (by omega) (by simp only [maxLen]; omega) (by omega)) rfl rfl rfl ?_
  rintro u1 _ ⟨σ1,hO1,rfl⟩
  have hu1:u1.oneCell'=true:=by obtain ⟨p,c,rfl⟩:=qO.cap hO1.at; rfl
  refine Abx ?_;refine AA ?_;refine AF ?_;refine AB ?_
  focus ((refine' CN _ rfl rfl rfl _; rotate_left; (apply D3 (l:=m); exact rfl; exact rfl; exact rfl; exact rfl; exact rfl; exact sJ gN); rw [hm]))
  refine AB ?_;refine CF ?_
  focus ((refine' CY _ rfl rfl _; rotate_left; (apply EI (l:=m); exact rfl; exact rfl; exact rfl; exact rfl; exact rfl; exact fL); rintro _ _ ⟨rfl,rfl⟩))
  refine AE ?_;refine BJ (gY rfl) fQ fK ⟨rfl,u1,σ1,?_,rfl⟩;rw [aB,aX];exact hO1
end Go.Proofs.YtnijkofdlepfjaaGreat
namespace Go.Eng
open Go.Sort
theorem zW {P : Program} {f : FuncId} {fn : Func} {c : Code} {args : List Value} {w : World} {R : Value -> World -> Prop} (hf : P.funcs[f]? = some fn) (hb : fn.body = some c) (hname : (fn.name == "runtime.NumGoroutine") = false)
    (h : Calls P f args.toArray w (fun e w' => ∃ v, e = .returned v /\ R v w')) : kG P (fv f) args w R := by
  unfold kG
  have hrun : ((do let d ← Deferred.ofValue (fv f) args.toArray; invoke d.target d.args : Sem Next).run P w) = .ok (.enter f args.toArray) w := by
    have hname' : ¬ fn.name = "runtime.NumGoroutine" := by simpa using hname
    simp [Deferred.ofValue, invoke, callFunc, program, Sem.run, bind, Sem.bind, pure, hf, hb, hname']
  rw [hrun];exact callsIn_wide.2 h
abbrev pJ (l : List Int) : List Int := l.mergeSort fun x y => decide (x <= y)
theorem aV7 (l : List Int) : l.flatMap encI = l.map (Value.int .i64) := by induction l <;> simp_all [encI]
theorem aSr {P : Program} {f : FuncId} {fn : Func} {c : Code} (hf : P.funcs[f]? = some fn) (hb : fn.body = some c) (hname : (fn.name == "runtime.NumGoroutine") = false)
    (hany : ∀ (blk cap : Nat) (zs : List Int) (w : World), Holds (Value.int .i64) w blk 0 zs.toArray -> blk < w.heap.size -> zs.length < 4611686018427387904 ->
      Calls P f #[.slice (some ⟨blk, 0, none⟩) zs.length cap] w (fun e w' => e = .returned (.tuple #[]) /\ ∃ n os, w' = grow (putRow (Value.int .i64) (Sort.ahead w n) blk 0 (pJ zs).toArray) os))
    (hnone : ∀ (p : Option Addr) (cap : Nat) (w : World), Calls P f #[.slice p 0 cap] w (fun e w' => e = .returned (.tuple #[]) /\ w' = w))
    {e : TypeId} {σ : PH} {v : Value} {l : List Int} (hO : fS e 1 v l.length (l.flatMap encI) σ) (hl : l.length < 4611686018427387904) :
    Spec P (fv f) [v] [] [σ] (fun r H' => r = .tuple #[] /\ ∃ σ', fS e 1 v (pJ l).length ((pJ l).flatMap encI) σ' /\ H' = [σ']) := by
  have hsl : (pJ l).length = l.length := fD ..
  intro N w hs
  obtain ⟨β, hsat, hup⟩ := lG hs
  rcases hO.block with ⟨rfl, rfl, rfl⟩ | ⟨b, cap, cur, rfl, rfl, h1, h2, h3, h4⟩
  · refine zW hf hb hname (Calls.mono (hnone none 0 w) ?_)
    rintro _ _ ⟨rfl, rfl⟩
    exact ⟨_, rfl, [emp], ⟨rfl, emp, by simpa [pJ] using fS.nil e 1, rfl⟩, hup _ _ hsat⟩
  · have hg : w.heap[b]? = some (.cells cur e (0, 0)) := hs.own .here
    have hblt : b < w.heap.size := (bP.1 hg).1
    rw [fJ, aV7] at h4;rw [fJ] at h3
    have hH : Holds (Value.int .i64) w b 0 l.toArray := by
      intro j hj
      simp only [dN] at hj
      have hj' : (cur.toList.take l.length)[j]? = some (Value.int .i64 l[j]) := by rw [h4, aY, aA hj]; rfl
      rw [cJ hj, eL] at hj';refine ⟨?_, ?_⟩
      · rw [cell_of_row w b _ cur e (0, 0) hg, bZ, hj']
        simp [hj]
      · simp [World.frozen?, hg]
    refine zW hf hb hname (Calls.mono (hany b cap l w hH hblt hl) ?_);rintro _ _ ⟨rfl, n, os, rfl⟩
    have hheap : (grow (putRow (Value.int .i64) (Sort.ahead w n) b 0 (pJ l).toArray) os).heap = (w.heap.modify b (onCells (putCells (Value.int .i64) 0 (pJ l).toArray))) ++ os := rfl
    refine ⟨_, rfl, [sng b (.cells (putCells (Value.int .i64) 0 (pJ l).toArray cur) e (0, 0))], ⟨rfl, _, ⟨by rw [kT encI_len], .inr ⟨b, cap, _, by rw [hsl], rfl, by omega, h2, ?_, ?_⟩⟩, rfl⟩, ?_⟩
    · simp [putCells, h3]
    · rw [aV7, fJ]
      exact take_putCellsI cur (pJ l) (by rw [hsl, h3]; exact h1)
    · refine ⟨⟨?_, rfl, rfl, rfl, Nat.le_add_right _ _⟩, fun k hk hno => ?_, fun ρ hρ => ?_, by simp, fun ρ hρ k hk => ?_⟩
      · rw [hheap]; simp
      · have hne : k ≠ b := fun e => by
          subst e
          have := hno (sng k (.cells cur e (0, 0))) (by simp)
          simp [jT] at this
        rw [hheap, cR (by simpa using hk), dR, if_neg (Ne.symm hne)]
      · simp at hρ; subst hρ
        intro k o hk
        obtain ⟨rfl, rfl⟩ := oW hk
        rw [hheap, cR (by simpa using hblt), dR, if_pos rfl, hg]
        rfl
      · simp at hρ; subst hρ
        left
        refine ⟨sng b (.cells cur e (0, 0)), by simp, ?_⟩
        cases hks : sng b (Obj.cells (putCells (Value.int .i64) 0 (pJ l).toArray cur) e (0, 0)) k with
        | none => exact absurd hks hk
        | some o =>
          obtain ⟨rfl, _⟩ := oW hks
          simp [jT]

end Go.Eng
namespace Go.Proofs
open Go.Shelf
def Tryz.laysSort_ren:Go.Shelf.Ren:=⟨fun|189=>221|125=>124|257=>266|128=>188|129=>189|294=>285|295=>286|296=>287|297=>288|298=>289|299=>290|216=>291|300=>292|301=>293|328=>300|329=>243|330=>244|331=>301|332=>302|215=>125|343=>304|n=>n,fun|28=>22|3=>3|46=>235|0=>0|51=>304|53=>306|4=>4|183=>298|182=>297|131=>112|5=>5|9=>9|218=>346|222=>350|228=>382|229=>383|n=>n,fun|n=>n⟩
theorem Tryz.laysSort:Go.Proofs.Lays.n189 Tryz.prog Tryz.laysSort_ren:={
 mixed:=by kernel_rfl
 f125:=Go.Eng.lzZ Tryz.func124
 f128:=Go.Eng.lzZ Tryz.func188
 f129:=Go.Eng.lzZ Tryz.func189
 f189:=Go.Eng.lzZ Tryz.func221
 f215:=Go.Eng.lzZ Tryz.func125
 f216:=Go.Eng.lzZ Tryz.func291
 f257:=Go.Eng.lzZ Tryz.func266
 f294:=Go.Eng.lzZ Tryz.func285
 f295:=Go.Eng.lzZ Tryz.func286
 f296:=Go.Eng.lzZ Tryz.func287
 f297:=Go.Eng.lzZ Tryz.func288
 f298:=Go.Eng.lzZ Tryz.func289
 f299:=Go.Eng.lzZ Tryz.func290
 f300:=Go.Eng.lzZ Tryz.func292
 f301:=Go.Eng.lzZ Tryz.func293
 f328:=Go.Eng.lzZ Tryz.func300
 f329:=Go.Eng.lzZ Tryz.func243
 f330:=Go.Eng.lzZ Tryz.func244
 f331:=Go.Eng.lzZ Tryz.func301
 f332:=Go.Eng.lzZ Tryz.func302
 f343:=Go.Eng.lzZ Tryz.func304
 t0:=Tryz.underlying0
 a0:=Tryz.isAgg0
 z0:=Tryz.sizeOf0
 v0:=Tryz.zeroValue0
 t3:=Tryz.underlying3
 a3:=Tryz.isAgg3
 z3:=Tryz.sizeOf3
 v3:=Tryz.zeroValue3
 t4:=Tryz.underlying4
 a4:=Tryz.isAgg4
 z4:=Tryz.sizeOf4
 v4:=Tryz.zeroValue4
 t5:=Tryz.underlying5
 a5:=Tryz.isAgg5
 z5:=Tryz.sizeOf5
 v5:=Tryz.zeroValue5
 t9:=Tryz.underlying9
 a9:=Tryz.isAgg9
 z9:=Tryz.sizeOf9
 v9:=Tryz.zeroValue9
 t28:=Tryz.underlying22
 a28:=Tryz.isAgg22
 z28:=Tryz.sizeOf22
 v28:=Tryz.zeroValue22
 t46:=Tryz.underlying235
 a46:=Tryz.isAgg235
 z46:=Tryz.sizeOf235
 v46:=Tryz.zeroValue235
 t51:=Tryz.underlying304
 a51:=Tryz.isAgg304
 z51:=Tryz.sizeOf304
 v51:=Tryz.zeroValue304
 t53:=Tryz.underlying306
 a53:=Tryz.isAgg306
 z53:=Tryz.sizeOf306
 v53:=Tryz.zeroValue306
 t131:=Tryz.underlying112
 a131:=Tryz.isAgg112
 z131:=Tryz.sizeOf112
 v131:=Tryz.zeroValue112
 t182:=Tryz.underlying297
 a182:=Tryz.isAgg297
 z182:=Tryz.sizeOf297
 v182:=Tryz.zeroValue297
 t183:=Tryz.underlying298
 a183:=Tryz.isAgg298
 z183:=Tryz.sizeOf298
 v183:=Tryz.zeroValue298
 t218:=Tryz.underlying346
 a218:=Tryz.isAgg346
 z218:=Tryz.sizeOf346
 v218:=Tryz.zeroValue346
 t222:=Tryz.underlying350
 a222:=Tryz.isAgg350
 z222:=Tryz.sizeOf350
 v222:=Tryz.zeroValue350
 t228:=Tryz.underlying382
 a228:=Tryz.isAgg382
 z228:=Tryz.sizeOf382
 v228:=Tryz.zeroValue382
 t229:=Tryz.underlying383
 a229:=Tryz.isAgg383
 z229:=Tryz.sizeOf383
 v229:=Tryz.zeroValue383 }
end Go.Proofs
namespace Go.Proofs.YtnijkofdlepfjaaGreat
open Go.Eng Go.Step
set_option maxRecDepth 100000
set_option maxHeartbeats 64000000
theorem aLm (σ:PH) (v:Value) (l:List Int) (hO:fS 3 1 v l.length (l.flatMap Eng.encI) σ) (hl:l.length<=1000000) :
  Eng.Spec Tryz.prog (fv 221) [v] [] [σ] (fun r H'=>r=.tuple #[]/\∃ σ',fS 3 1 v (pJ l).length ((pJ l).flatMap Eng.encI) σ'/\H'=[σ']):=
 aSr (f:=221) Tryz.func221 rfl rfl
  (fun blk cap zs w hH hb hl=>calls_of_every_depth (fun D=>Go.Proofs.AnyS.slices_Sort_int_alone Tryz.laysSort D blk 0 cap zs w hH hb hl))
  (fun p cap w=>calls_of_every_depth (fun D=>Go.Proofs.AnyS.slices_Sort_int_none_alone Tryz.laysSort D p cap w)) hO (by omega)
def aSs (l:Lv):List Value:=[int l.a,int l.v]
theorem aI8 (l:Lv):(aSs l).length=2:=rfl
abbrev LvAt (ρ:PH) (v:Value) (f:List Lv):Prop:=SlE aSs 2 ρ v f
theorem yY (ρ:PH) (v:Value) (l:List Hd) (n:Int) (nq:Nat) (hv:HdAt ρ v l) (hok:∀ h∈l,lN nq h) (hl:l.length<=600) :
  jM Tryz.prog (fv 169) [v,int n] [ρ] (fun r σ=>fS 283 2 r (lvH l n).length ((lvH l n).flatMap aSs) σ):=by
 obtain ⟨q,c,rfl,hr⟩:=hv.val gM
 refine A8 Tryz.func169 Tryz.ntmps169 fun N β=>?_
 refine B9 ?_;refine B9 ?_;refine Aam ?_;refine Aa ?_
 focus ((refine' CR _ rfl rfl rfl _; rotate_left; (exact FZ); rintro _ _ ⟨bb,rfl,rfl⟩))
 refine B5 fun b=>?_
 refine Abx ?_;refine Aa ?_
 refine B5 fun b=>?_
 refine AE ?_;refine Adj ?_;refine Abv ?_;refine Abh ?_
 revert b; intro bt
 revert b; intro bm
 refine BE [1,5,6,7,16,17] (X:=Nat × (List (Int × Int) × (List Int × (Value × PH)))) (0,([],([],(.slice none 0 0,emp)))) (fun x=>x.1<=l.length/\xL (l.take x.1) n x.2.2.1 x.2.1/\fS 3 1 x.2.2.2.1 x.2.2.1.length (x.2.2.1.flatMap Eng.encI) x.2.2.2.2) (fun x=>[(18,int x.1)]) (fun x=>[sng bm (.cells #[.map (some bb)] 330 (0,0)),sng bb (oB x.2.1),sng bt (.cells #[x.2.2.2.1] 22 (0,0)),x.2.2.2.2,emp]) (fun x=>l.length-x.1)
  fT ⟨by dsimp only; omega,xL.zero n,fS.nil _ _⟩ fP fK ?_
 rintro ⟨k,m,T,u,σ⟩ ⟨hk,hI,hO⟩
 dsimp only at hk hI hO ⊢
 by_cases hlt:k<l.length
 ·have hx:=aA hlt
  have hh:=hok _ (cP hlt)
  obtain ⟨b2,o2,rfl,hrd⟩:=hdRow hr hx
  have htk:l.take (k+1)=l.take k ++ [l[k]]:=aV hlt
  have hTl:=hI.len
  rw [aL,dU hk] at hTl
  have hdb:∀ t,-39321600<=lK (l.take k) n t/\lK (l.take k) n t<=39321600:=fun t=>by
   have:=aI5 (n:=n) (t:=t) (l:=l.take k) (fun h hm=>hok h (List.mem_of_mem_take hm))
   rw [aL,dU hk] at this;omega
  obtain ⟨hh1,hh2,hh3,hh4⟩:=hh
  generalize l[k]=h at hrd htk hh1 hh2 hh3 hh4
  by_cases hn:h.n=n
  ·have hI2:=hI.note hn
   rw [← htk] at hI2
   obtain ⟨d1,_,l1⟩:=hI.d.step h.a h.s
   have hv1:=hI.d.val h.a
   have hv2:=d1.val h.b
   have b1:=hdb h.a
   have b2':=hdb h.b
   have r1:-4611686018427387904<=(mC h.a m).getD 0+h.s/\(mC h.a m).getD 0+h.s<=4611686018427387904:=by rw [hv1]; omega
   have r2:-4611686018427387904<=(mC h.b (nM h.a ((mC h.a m).getD 0+h.s) m)).getD 0 + -h.s/\(mC h.b (nM h.a ((mC h.a m).getD 0+h.s) m)).getD 0 + -h.s<=4611686018427387904:=by
    rw [hv2]
    split <;> omega
   refine Ab2 ?_
   refine A3 fun b=>?_
   refine Aer ?_;refine Aej ?_;refine Aab ?_;refine Ad0 ?_
   refine BG (aEe bm bt bb m T u σ h.a h.s hO (by omega) r1) rfl rfl fU (fun τ hτ=>by simp at hτ) rfl rfl ?_
   rintro _ _ ⟨rfl,u1,σ1,hO1,rfl⟩;refine AE ?_;refine AA ?_;refine Abf ?_;refine aW4 ?_
   refine BG (aEe bm bt bb _ _ u1 σ1 h.b (-h.s) hO1 (by omega) r2) rfl rfl fU (fun τ hτ=>by simp at hτ) rfl rfl ?_
   rintro _ _ ⟨rfl,u2,σ2,hO2,rfl⟩;refine AE ?_;refine Aa3 ?_
   exact AZ (k+1,(_,(_,(u2,σ2)))) ⟨by dsimp only; omega,hI2,hO2⟩ (by dsimp only; omega) fP fK
  ·have hI2:=hI.skip hn
   rw [← htk] at hI2;refine Ab2 ?_
   refine A3 fun b=>?_
   refine Aer ?_;refine B3 ?_;refine Ace ?_
   exact AZ (k+1,(m,(T,(u,σ)))) ⟨by dsimp only; omega,hI2,hO⟩ (by dsimp only; omega) fP fK
 have hke:k=l.length:=by omega
 subst hke;rw [bJ] at hI
 have hTl:=hI.len
 have hs:=hI.sorted
 have htl:=aUr l n hI
 obtain ⟨pu,cu,rfl⟩:=qO.cap hO.at
 refine Abp ?_;refine Abb ?_
 refine BG (aLm σ _ T hO (by omega)) rfl rfl fU (fun τ hτ=>by simp at hτ) rfl rfl ?_
 rintro _ _ ⟨rfl,σs,hS,rfl⟩
 have hSd:pJ T=hts l n:=hs
 rw [hSd] at hS
 have htl2:T.length=(hts l n).length:=by rw [← hSd,fD]
 rw [htl2] at hS
 have hNs:gC σs _ (Step.hts l n):=hS.at
 obtain ⟨_,_,e,hrs⟩:=hNs.val Eng.encI_len
 simp only [aN] at e
 obtain ⟨rfl,_,rfl⟩:=e
 have hsb:∀ t,0<=Step.stored l n t/\Step.stored l n t<=39321600:=fun t=>by
  have:=sK (n:=n) (t:=t) hok
  omega
 have hnx:=@aI7 l n nq hok
 have hget:=hI.d.val
 unfold lvH;rw [htl2]
 generalize Step.hts l n=ts at hS htl2 hNs hrs hnx htl
 refine AW (ρ:=sng bm (.cells #[.map (some bb)] 330 (0,0))) fL ?_
 have bx293_3:=rdB bm 330 [.map (some bb)]
 have cm:=rdC bx293_3 0
 refine AW (ρ:=sng bb (oB m)) fL ?_;refine AW (ρ:=σs) fL ?_;refine AE ?_;refine Aam ?_;refine Aam ?_;refine Ac5 ?_;refine Abh ?_
 refine BE [5,42,43] (X:=Nat × (Value × PH)) (0,(.slice none 0 0,emp)) (fun x=>x.1<=ts.length/\fS 283 2 x.2.1 (kJ (Step.stored l n) 0 (ts.take x.1)).length ((kJ (Step.stored l n) 0 (ts.take x.1)).flatMap aSs) x.2.2) (fun x=>[(44,int x.1),(10,x.2.1),(11,int (oL (Step.stored l n) ts x.1))]) (fun x=>[x.2.2]) (fun x=>ts.length-x.1)
  fT ⟨by dsimp only; omega,fS.nil _ _⟩ fP fK ?_
 rintro ⟨k,u,σ'⟩ ⟨hk',hO'⟩
 dsimp only at hk' hO' ⊢
 by_cases hlt':k<ts.length
 ·have hx:=aA hlt'
  obtain ⟨b2,o2,rfl,g1⟩:=hrs.int hx
  have hsn:=aOw (Step.stored l n) hx
  have hnk:=hnx hlt'
  have hpn:oL (Step.stored l n) ts (k+1)=Step.stored l n ts[k]:=by
   unfold oL
   rw [if_neg (by omega),aI,Nat.add_sub_cancel,hx]; rfl
  have hp1:0<=oL (Step.stored l n) ts k/\oL (Step.stored l n) ts k<=39321600:=by
   unfold oL
   split
   ·omega
   ·exact hsb _
  generalize ts[k]=t at g1 hsn hnk hpn
  have hg:=hget t
  have hst:=hsb t
  have hcl:=vM (Step.stored l n) (ts.take k) 0
  rw [aL,dU hk'] at hcl
  generalize oL (Step.stored l n) ts k=p at hsn hnk hp1
  obtain ⟨pu',cu',rfl⟩:=qO.cap hO'.at
  by_cases hz:lK l n t=0
  ·rw [if_pos (by omega),bX] at hsn
   refine Aeo ?_;refine Aba ?_;refine Abb ?_;refine AB ?_
   focus ((refine' CN _ rfl rfl rfl _; rotate_left; (apply D3 (l:=m); exact rfl; exact rfl; exact rfl; exact rfl; exact rfl; exact aBo gN); rw [hg]))
   refine Aej ?_;refine Aeb ?_
   refine AZ (k+1,(_,σ')) ⟨by dsimp only; omega,by dsimp only; rw [hsn]; exact hO'⟩ (by dsimp only; omega) ?_ fK
   dsimp only
   rw [hpn,show Step.stored l n t=p by omega]
   exact fP
  ·rw [if_neg (by omega)] at hsn
   refine Aeo ?_;refine Aba ?_;refine Abb ?_;refine AB ?_
   focus ((refine' CN _ rfl rfl rfl _; rotate_left; (apply D3 (l:=m); exact rfl; exact rfl; exact rfl; exact rfl; exact rfl; exact aBo gN); rw [hg]))
   refine Acy ?_;refine Aab ?_;refine AF ?_;refine AB ?_
   focus ((refine' CN _ rfl rfl rfl _; rotate_left; (apply D3 (l:=m); exact rfl; exact rfl; exact rfl; exact rfl; exact rfl; exact aBo gN); rw [hg]))
   refine CF ?_;refine Aaa ?_;refine AA ?_;refine Abm ?_;refine CB ?_
   refine BW fun b=>?_
   rw [← hnk]
   refine CR (CA (by_:=16) (s:=2) (news:=[int t,int (Step.stored l n t)]) rfl rfl rfl rfl rfl rfl rfl hO' fL (fR gN) rfl iF (by omega) (by simp only [maxLen]; omega) (by omega)) rfl rfl rfl ?_
   rintro u1 _ ⟨σ1,hO1,rfl⟩;refine Aaa ?_;refine Aa3 ?_
   refine AZ (k+1,(u1,σ1)) ⟨by dsimp only; omega,?_⟩ (by dsimp only; omega) ?_ fK
   ·dsimp only
    rw [hsn,aB,aX];exact hO1
   ·dsimp only
    rw [hpn];exact fP
 ·have hke:k=ts.length:=by omega
  subst hke;rw [bJ] at hO';refine Abp ?_;refine Aa5 ?_;exact AV ⟨σ',hO',rfl⟩
theorem aV8 {ρ:PH} {p:Option Addr} {l:List Lv} (h:nH aSs 2 ρ p l) {i:Nat} {x:Lv} (hx:l[i]?=some x) :
  ∃ b o,p=some ⟨b,o,none⟩/\RdN ρ b (o+i*2) [int x.a,int x.v]/\rdc ρ b (o+i*2)=some (int x.a)/\rdc ρ b (o+i*2+1)=some (int x.v):=by
 obtain ⟨b,o,e,hr⟩:=h i x hx
 exact ⟨b,o,e,hr,hr.get0,hr.get (j:=1) rfl⟩
theorem aOx (ρ:PH) (v:Value) (f:List Lv) (hv:LvAt ρ v f) (hl:f.length<=9223372036854775807):Ans Tryz.prog (fv 176) [v] [ρ] (fun r=>r=int (oD f)):=by
 obtain ⟨q,c,rfl,hr⟩:=hv.val aI8
 refine A8 Tryz.func176 Tryz.ntmps176 fun N β=>?_
 refine Aam ?_;refine Adf ?_
 refine BE [6,7] (0:Nat) (fun k=>k<=f.length) (fun k=>[(8,int k),(3,int (oD (f.take k)))]) (fun _=>[]) (fun k=>f.length-k) fT (by omega) fP fK ?_
 intro k hk
 by_cases hlt:k<f.length
 ·have hx:=aA hlt
  obtain ⟨b1,o1,rfl,hrd,_,_⟩:=aV8 hr hx
  have hm:=aLl hx
  generalize f[k]=x at hrd hm
  refine Ab2 ?_
  refine A3 fun b=>?_
  refine Aa6 ?_;refine AA ?_;refine Aas ?_;refine EN ?_;refine Aaa ?_;refine Aa3 ?_
  refine AZ (k+1) (by omega) (by omega) ?_ fK
  rw [hm];exact fP
 ·have hke:k=f.length:=by omega
  subst hke;rw [bJ];refine Abp ?_;refine Aa5 ?_;exact AV ⟨rfl,rfl⟩
theorem aSt {ρ:PH} {p:Option Addr} {l:List Hd} (h:nH hY 5 ρ p l) {i:Nat} {x:Hd} (hx:l[i]?=some x) :
  ∃ b o,p=some ⟨b,o,none⟩/\RdN ρ b (o+i*5) [int x.n,int x.a,int x.b,int x.s,int x.k]/\rdc ρ b (o+i*5)=some (int x.n)/\rdc ρ b (o+i*5+1)=some (int x.a)/\rdc ρ b (o+i*5+2)=some (int x.b)/\rdc ρ b (o+i*5+3)=some (int x.s)/\rdc ρ b (o+i*5+4)=some (int x.k):=by
 obtain ⟨b,o,e,hr⟩:=h i x hx
 exact ⟨b,o,e,hr,hr.get0,hr.get (j:=1) rfl,hr.get (j:=2) rfl,hr.get (j:=3) rfl,hr.get (j:=4) rfl⟩
theorem zX (n:Int):∀ l:List Hd,(tmH l n).length<=2*l.length
 | []=>by simp [tmH]
 | h::l=>by
  have ih:=zX n l
  unfold tmH at ih ⊢;rw [cU,aB,aS]
  split
  ·simp only [aS,cW]; omega
  ·simp only [cW]; omega
theorem aSu:∀ {out f:List Int},SA out->(∀ x∈out,x∈f)->out.length<=f.length
 | [],_,_,_=>by simp
 | a::out,f,h,hm=>by
  have h2:=aW.1 h
  have ih:=aSu (out:=out) (f:=f.erase a) h2.2 (fun x hx=>by
   have:=h2.1 x hx
   exact (List.mem_erase_of_ne (by omega)).2 (hm x (by simp [hx])))
  rw [List.length_erase_of_mem (hm a (by simp))] at ih
  have:=List.length_pos_of_mem (hm a (by simp))
  rw [aS]; omega
theorem aSv (l:List Hd) (n:Int):(hts l n).length<=2*l.length:=by
 obtain ⟨h1,h2⟩:=xK l n
 have:=aSu h1 (fun x hx=>(h2 x).1 hx)
 have:=zX n l
 omega
end Go.Proofs.YtnijkofdlepfjaaGreat
namespace Go.Step
theorem rI (a b:Int):gZ a b = -gZ b a:=by
  unfold gZ
  by_cases h1:a<b
  · rw [if_pos h1,if_neg (by omega),if_pos h1]
  · rw [if_neg h1]
    by_cases h2:b<a
    · rw [if_pos h2,if_pos h2]; rfl
    · rw [if_neg h2,if_neg h2,if_neg h1]; rfl
theorem aNa:∀ l:List Int,orI (l.map (fun x=>-x)) = -orI l
  | []=>rfl
  | x::l=>by
    have ih:=aNa l
    simp only [dK,orI]
    by_cases h:x=0
    · subst h; simp [ih]
    · rw [if_pos h,if_pos (by omega)]
theorem xM (x y:Hd):mY x y = -mY y x:=by
  unfold mY;rw [← aNa];simp only [dK,List.map_nil];rw [rI x.n,rI x.a,rI x.b,rI x.k,rI x.s]
def hdE (nq:Nat) (l:List Hd) (i:Nat):Int:=match l[i]? with
  | some h=>if ¬ lN nq h then 2 else if 0<i/\0<mY (l.getD (i-1) h) h then 9 else 0
  | none=>0
theorem aLn {nq:Nat} {l:List Hd} {i:Nat} {h:Hd} (e:l[i]?=some h):hdE nq l i=if ¬ lN nq h then 2 else if 0<i/\0<mY (l.getD (i-1) h) h then 9 else 0:=by unfold hdE; rw [e]
def vN (qs:List Int) (l:List Hd):Bool:=l.all (fun h=>decide (stored l h.n h.a<=qs.getD h.n.toNat 0))
def sX (qs:List Int) (cs:List Ct) (l:List Hd):Int:=
  if gD qs cs≠0 then 1 else if 512<l.length then 4 else if gK (hdE qs.length l) l.length≠0 then gK (hdE qs.length l) l.length else if vN qs l then 0 else 15
theorem aLo {nq:Nat} {l:List Hd} {m:Nat} (h:gK (hdE nq l) m=0):∀ x∈l.take m,lN nq x:=fun x hx=>by
  obtain ⟨i,hi,rfl⟩:=bB hx
  rw [aL] at hi
  have h2:=jO h i (by omega)
  rw [List.getElem_take]
  rw [aLn (aA (by omega:i<l.length))] at h2
  by_cases hc:lN nq l[i]
  · exact hc
  · rw [if_pos hc] at h2; omega
theorem aSw {f:List Lv} {Q:Int} (hQ:0<=Q):oD f<=Q↔∀ x∈f,x.v<=Q:=by
  have h:∀ (f:List Lv) (a:Int),f.foldl (fun n x=>max n x.v) a<=Q↔a<=Q/\∀ x∈f,x.v<=Q:=by
    intro f
    induction f with
    | nil=>intro a; simp
    | cons y f ih =>
      intro a
      rw [eZ,ih]
      constructor
      · rintro ⟨h1,h2⟩
        refine ⟨by omega,fun x hx=>?_⟩
        rcases aE.1 hx with rfl|hx
        · omega
        · exact h2 x hx
      · rintro ⟨h1,h2⟩
        have:=h2 y (by simp)
        exact ⟨by omega,fun x hx=>h2 x (by simp [hx])⟩
  unfold oD;rw [h f 0]
  exact ⟨fun h=>h.2,fun h=>⟨hQ,h⟩⟩
theorem zY {F:Int->Int} {Q:Int}:∀ {ts:List Int} {last:Int},last<=Q->((∀ x∈kJ F last ts,x.v<=Q)↔∀ t∈ts,F t<=Q)
  | [],last,_=>by simp [kJ]
  | t::ts,last,h=>by
    by_cases hc:F t=last
    · have e:kJ F last (t::ts)=kJ F (F t) ts:=by simp only [kJ]; rw [if_neg (fun hh=>hh hc)]
      rw [e,zY (by omega)]
      constructor
      · intro hh x hx
        rcases aE.1 hx with rfl|hx
        · omega
        · exact hh x hx
      · exact fun hh x hx=>hh x (by simp [hx])
    · have e:kJ F last (t::ts)=⟨t,F t⟩::kJ F (F t) ts:=by simp only [kJ]; rw [if_pos hc]
      rw [e]
      constructor
      · intro hh
        have h1:=hh ⟨t,F t⟩ (by simp)
        dsimp only at h1
        have h2:=(zY (F:=F) (ts:=ts) h1).1 (fun x hx=>hh x (by simp [hx]))
        intro x hx
        rcases aE.1 hx with rfl|hx
        · exact h1
        · exact h2 x hx
      · intro hh
        have h1:=hh t (by simp)
        have h2:=(zY (F:=F) (ts:=ts) h1).2 (fun x hx=>hh x (by simp [hx]))
        intro x hx
        rcases aE.1 hx with rfl|hx
        · exact h1
        · exact h2 x hx
theorem rJ {n t s:Int}:∀ {l:List Hd},(∀ g∈l,0<=g.s/\(g.n=n->g.a<=t->t<g.b->g.a<=s/\s<g.b))->stored l n t<=stored l n s
  | [],_=>by simp [stored]
  | g::l,H=>by
    have ih:=rJ (l:=l) (fun x hx=>H x (by simp [hx]))
    obtain ⟨h1,h2⟩:=H g (by simp)
    simp only [stored]
    by_cases c:g.n=n/\g.a<=t/\t<g.b
    · have:=h2 c.1 c.2.1 c.2.2
      rw [if_pos c,if_pos ⟨c.1,this⟩]; omega
    · rw [if_neg c]; split <;> omega
theorem yZ {n t:Int}:∀ (l:List Hd),(∀ g∈l,g.n=n->¬ (g.a<=t/\t<g.b))\/∃ h∈l,h.n=n/\h.a<=t/\∀ g∈l,g.n=n->g.a<=t->t<g.b->g.a<=h.a
  | []=>.inl (by simp)
  | g::l=>by
    rcases yZ (n:=n) (t:=t) l with h|⟨h,hl,h1,h2,h3⟩
    · by_cases c:g.n=n/\g.a<=t/\t<g.b
      · refine .inr ⟨g,by simp,c.1,c.2.1,fun x hx k1 k2 k3=>?_⟩
        rcases aE.1 hx with rfl|hx
        · exact cH _
        · exact absurd ⟨k2,k3⟩ (h x hx k1)
      · refine .inl (fun x hx k1 k2=>?_)
        rcases aE.1 hx with rfl|hx
        · exact c ⟨k1,k2⟩
        · exact h x hx k1 k2
    · by_cases c:(g.n=n/\g.a<=t/\t<g.b)/\h.a<g.a
      · refine .inr ⟨g,by simp,c.1.1,c.1.2.1,fun x hx k1 k2 k3=>?_⟩
        rcases aE.1 hx with rfl|hx
        · exact cH _
        · have:=h3 x hx k1 k2 k3; omega
      · refine .inr ⟨h,by simp [hl],h1,h2,fun x hx k1 k2 k3=>?_⟩
        rcases aE.1 hx with rfl|hx
        · omega
        · exact h3 x hx k1 k2 k3
theorem aEf {l:List Hd} {n Q:Int} {nq:Nat} (hok:∀ h∈l,lN nq h) (hQ:0<=Q):oD (lvH l n)<=Q↔∀ h∈l,h.n=n->stored l n h.a<=Q:=by
  unfold lvH;rw [aSw hQ,zY hQ]
  obtain ⟨h1,h2⟩:=xK l n
  constructor
  · exact fun H h hl hn=>H _ ((h2 _).2 (lE.2 ⟨h,hl,hn,.inl rfl⟩))
  · intro H t ht
    rcases yZ (n:=n) (t:=t) l with c|⟨h,hl,k1,k2,k3⟩
    · have:stored l n t<=stored l n (-1):=rJ (fun g hg=>⟨by have:=(hok g hg).2.2.1; omega,fun a b d=>absurd ⟨b,d⟩ (c g hg a)⟩)
      have e0:stored l n (-1)=0:=nO (fun h hl hn=>by have:=(hok h hl).2.1; omega)
      omega
    · have:stored l n t<=stored l n h.a:=rJ (fun g hg=>⟨by have:=(hok g hg).2.2.1; omega,fun a b d=>⟨k3 g hg a b d,by omega⟩⟩)
      have:=H h hl k1
      omega
end Go.Step
namespace Go.Proofs.YtnijkofdlepfjaaGreat
open Go.Eng Go.Step
set_option maxRecDepth 100000
set_option maxHeartbeats 64000000
theorem xN {qs:List Int} {cs:List Ct} (h:gD qs cs=0):(1<=qs.length/\qs.length<=16)/\∀ (j:Nat) (q:Int),qs[j]?=some q->0<=q/\q<=1073741824:=by
 unfold gD at h
 split at h
 ·omega
 ·rename_i hl
  split at h
  ·rename_i h2; exact absurd h h2
  ·rename_i h2
   have h3:gK (aF0 qs) qs.length=0:=Decidable.not_not.1 h2
   refine ⟨by omega,fun j q hj=>?_⟩
   have:=jO h3 j (aC.1 hj).1
   rw [aM9 hj] at this
   split at this <;> omega
theorem aUs {qs:List Int} {l:List Hd} (hok:∀ h∈l,lN qs.length h) (hq:∀ (j:Nat) (q:Int),qs[j]?=some q->0<=q/\q<=1073741824) (H:∀ (j:Nat) (q:Int),qs[j]?=some q->oD (lvH l j)<=q):vN qs l=true:=
 dA.2 (fun h hm=>decide_eq_true (by
  have hn:=(hok h hm).1
  obtain ⟨nn,hnn⟩:=dZ hn.1
  have hx:=aA (show nn<qs.length by omega)
  have:=(aEf hok (hq nn _ hx).1).1 (H nn _ hx) h hm hnn
  rw [hnn,cL,aI,hx]
  exact this))
theorem aUt {qs:List Int} {l:List Hd} (hok:∀ h∈l,lN qs.length h) {j:Nat} {q:Int} (hj:qs[j]?=some q) (hq:0<=q) (H:q<oD (lvH l j)):vN qs l=false:=by
 cases hf:vN qs l with
 | false=>rfl
 | true =>
  exfalso
  have:oD (lvH l j)<=q:=(aEf hok hq).2 (fun h hm hn=>by
   have:=of_decide_eq_true (dA.1 hf h hm)
   rw [hn,cL,aI,hj] at this
   exact this)
  omega
theorem zZ (l:List Hd) (n:Int):(lvH l n).length<=2*l.length:=by
 have:=vM (Step.stored l n) (hts l n) 0
 have:=aSv l n
 unfold lvH; omega
theorem vO (ρ τ σ:PH) (pq pc:Option Addr) (kq kc:Nat) (qs:List Int) (cs:List Ct) (v:Value) (l:List Hd) (hq:gC ρ (.slice pq qs.length kq) qs) (hc:jW τ (.slice pc cs.length kc) cs) (hcap:cs.length<=kc) (lq:qs.length<=9223372036854775807) (lc:cs.length<=9223372036854775807) (hv:HdAt σ v l) (hl:l.length<=9223372036854775807) :
  Ans Tryz.prog (fv 109) [.agg #[.slice pq qs.length kq,.slice pc cs.length kc],v] [ρ,τ,σ] (fun r=>r=int (sX qs cs l)):=by
 have hv2:=hv
 obtain ⟨q,c,rfl,hr⟩:=hv.val gM
 obtain ⟨_,_,e,hrq⟩:=hq.val Eng.encI_len
 simp only [aN] at e
 obtain ⟨rfl,_,rfl⟩:=e
 refine A8 Tryz.func109 Tryz.ntmps109 fun N β=>?_
 refine Aa ?_
 refine BF fun b1 bx55=>?_
 have c1:RdN (sng b1 (.cells #[.slice pq qs.length kq,.slice pc cs.length kc] 25 (0,0))) b1 0 [.slice pq qs.length kq,.slice pc cs.length kc]:=fun j u hu=>by rw [kE,bZ]; simpa using hu
 have c10:=rdC bx55 0
 refine Aba ?_;refine Aar ?_;refine A5 (iD ρ τ pq pc kq kc qs cs hq hc hcap lq lc) ?_;unfold sX
 by_cases hp:gD qs cs=0
 rotate_left
 ·rw [if_pos hp]
  generalize gD qs cs=z at hp
  refine C5 ?_;refine Ab6 ?_;exact AV ⟨rfl,rfl⟩
 obtain ⟨hql,hquo⟩:=xN hp
 rw [if_neg (fun h=>h hp),hp]
 by_cases hbig:512<l.length
 ·rw [if_pos hbig]
  refine Adp ?_;refine A6 ?_;refine C1 ?_;refine Ab6 ?_;exact AV ⟨rfl,rfl⟩
 rw [if_neg hbig];refine Adp ?_;refine Ade ?_;refine Aai ?_;refine Aag ?_;refine Abh ?_
 refine BE [1,2,15,16] (0:Nat) (fun k=>k<=l.length/\gK (hdE qs.length l) k=0) (fun k=>[(17,int k)]) (fun _=>[]) (fun k=>l.length-k) fT ⟨by omega,rfl⟩ fP fK ?_
 rintro k ⟨hk,hI⟩
 by_cases hlt:k<l.length
 ·have hx:=aA hlt
  obtain ⟨b2,o2,rfl,hrd,_⟩:=aSt hr hx
  have hE:=aLn (nq:=qs.length) hx
  generalize l[k]=h at hrd hE
  have hva:=aF4 (.slice pq qs.length kq) (.slice pc cs.length kc) ρ qs kq pq h rfl rfl
  refine Aa8 ?_;refine Aab ?_;refine Aa9 ?_
  refine A3 fun b=>?_
  refine AD ?_;refine Adb ?_;refine Abs ?_
  revert b; intro b6
  refine A5 hva ?_
  by_cases hok:lN qs.length h
  rotate_left
  ·rw [if_pos hok] at hE
   have hh:=jF hI (by rw [hE]; decide) _ hlt
   rw [if_pos (by rw [hh,hE]; decide),hh,hE,decide_eq_false hok]
   refine BX ?_;refine Ab6 ?_;exact AV ⟨rfl,rfl⟩
  rw [if_neg (fun hh=>hh hok)] at hE
  rw [decide_eq_true hok];refine Acn ?_;refine AC ?_
  by_cases h0:k=0
  ·subst h0
   rw [if_neg (by omega)] at hE
   refine A9 P0Z [sng b6 _] rfl (by kernel_rfl) fK ?_
   refine AP ?_;refine DO ?_;refine Adq ?_;refine BS ?_;refine Ach ?_;refine Aa3 ?_
   exact AZ (0+1) ⟨by omega,lJ hI hE⟩ (by omega) fP fK
  ·have hlt':k-1<l.length:=by omega
   have hx':=aA hlt'
   obtain ⟨_,_,e,hrd',_⟩:=aSt hr hx'
   simp only [aD,eI,and_true] at e
   obtain ⟨rfl,rfl⟩:=e
   rw [aI,hx',cO] at hE
   generalize l[k-1]=g at hrd' hE
   have hle:=aF3 g h
   generalize mY g h=z at hle hE
   refine A9 (.q 0 (.q 1 (.q 2 (.q 3 (.q 4 (.q 5 (.q 6 (.q 7 (.q 8 (.l 9 .e (.q 10 (.q 11 .nil)))))))))))) [sng b6 _] rfl (by kernel_rfl) fK ?_
   refine AP ?_;refine FE ?_;refine Adc ?_;refine CE ?_;refine Abl ?_;refine A7 ?_;refine BZ (BQ rfl hle rfl rfl rdZ rfl rfl ?_);rintro _ rfl
   by_cases hc9:0<z
   ·rw [if_pos (by omega)] at hE
    have hh:=jF hI (by rw [hE]; decide) _ hlt
    rw [if_pos (by rw [hh,hE]; decide),hh,hE]
    refine FE ?_;refine BU ?_;refine Acc ?_;refine Aam ?_;exact AV ⟨rfl,rfl⟩
   ·rw [if_neg (by omega)] at hE
    refine DO ?_;refine BU ?_;refine Ach ?_;refine Aa3 ?_
    exact AZ (k+1) ⟨by omega,lJ hI hE⟩ (by omega) fP fK
 have hke:k=l.length:=by omega
 subst hke
 have hok:=aLo hI
 rw [bJ] at hok
 rw [if_neg (by rw [hI]; simp)]
 clear hI hk hlt;refine Abp ?_;refine AC ?_;refine Aan ?_;refine Abh ?_
 refine BE [1,40,41] (0:Nat) (fun k=>k<=qs.length/\∀ (j:Nat) (q:Int),j<k->qs[j]?=some q->oD (lvH l j)<=q) (fun k=>[(42,int k)]) (fun _=>[]) (fun k=>qs.length-k) fT ⟨by omega,fun j q h=>by omega⟩ fP fK ?_
 rintro k ⟨hk,hI⟩
 by_cases hlt:k<qs.length
 ·have hx:=aA hlt
  obtain ⟨b2,o2,rfl,g1⟩:=hrq.int hx
  have hq0:=hquo k _ hx
  have hbad:=@aUt qs l hok k _ hx hq0.1
  have hnext:oD (lvH l k)<=qs[k]->∀ (j:Nat) (q:Int),j<k+1->qs[j]?=some q->oD (lvH l j)<=q:=fun hle j q hj hjq=>by
   by_cases e:j=k
   ·subst e; rw [hx] at hjq; injection hjq with hjq; rw [← hjq]; exact hle
   ·exact hI j q (by omega) hjq
  generalize qs[k]=qv at g1 hbad hnext
  refine Aa8 ?_;refine Aab ?_;refine Ac9 ?_;refine Aaq ?_;refine Aaw ?_
  refine B4 (yY σ _ l k qs.length hv2 hok (by omega)) rfl rfl rdZ rfl rfl ?_
  rintro ul σl hOl
  have hL:LvAt σl ul (lvH l k):=hOl.at
  have hll:=zZ l k
  refine A5 (aOx σl ul (lvH l k) hL (by omega)) ?_
  generalize oD (lvH l k)=mv at hbad hnext
  by_cases hcq:qv<mv
  ·rw [hbad hcq]
   refine AB ?_;refine C1 ?_;refine Ab6 ?_;exact AV ⟨rfl,rfl⟩
  ·have hn2:=hnext (by omega)
   refine AB ?_;refine B7 ?_;refine Ace ?_
   exact AZ (k+1) ⟨by omega,hn2⟩ (by omega) fP fK
 have hke:k=qs.length:=by omega
 subst hke
 rw [aUs hok hquo (fun j q hj=>hI j q (aC.1 hj).1 hj)]
 refine Aep ?_;exact AV ⟨rfl,rfl⟩
end Go.Proofs.YtnijkofdlepfjaaGreat
namespace Go.Step
def frA (Q s:Int) (st:Int × List (Int × Int)) (t v:Int):Int × List (Int × Int):=
  if Q-v<s then (-1,if 0<=st.1/\st.1<t then st.2 ++ [(st.1,t)] else st.2) else (if st.1<0 then t else st.1,st.2)
def frL (Q s:Int) (st:Int × List (Int × Int)) (x:Lv):Int × List (Int × Int):=if x.a<1099511627776 then frA Q s st x.a x.v else st
def aLp (st:Int × List (Int × Int)):List (Int × Int):=if 0<=st.1/\st.1<1099511627776 then st.2 ++ [(st.1,1099511627776)] else st.2
def jH (Q s:Int) (f:List Lv):List (Int × Int):=aLp (f.foldl (frL Q s) (frA Q s (-1,[]) 0 0))
theorem aNb (Q s:Int) (st:Int × List (Int × Int)) (t v:Int):(frA Q s st t v).2.length<=st.2.length+1:=by
  unfold frA
  split
  · dsimp only; split <;> simp
  · dsimp only; omega
theorem aUu (Q s:Int) (st:Int × List (Int × Int)) (x:Lv):(frL Q s st x).2.length<=st.2.length+1:=by
  unfold frL
  split
  · exact aNb ..
  · omega
def frS (Q s:Int) (f:List Lv) (k:Nat):Int × List (Int × Int):=(f.take k).foldl (frL Q s) (frA Q s (-1,[]) 0 0)
theorem aI9 (Q s:Int) {f:List Lv} {k:Nat} {x:Lv} (h:f[k]?=some x):frS Q s f (k+1)=frL Q s (frS Q s f k) x:=by
  obtain ⟨hk,rfl⟩:=aC.1 h
  unfold frS;rw [aV hk,List.foldl_append]; rfl
theorem aF6 (Q s:Int) (f:List Lv):∀ k,(frS Q s f k).2.length<=k+1
  | 0=>by
    have:=aNb Q s (-1,[]) 0 0
    unfold frS; simpa using this
  | k+1=>by
    have ih:=aF6 Q s f k
    by_cases h:k<f.length
    · rw [aI9 Q s (aA h)]
      have:=aUu Q s (frS Q s f k) f[k]
      omega
    · have e:frS Q s f (k+1)=frS Q s f k:=by unfold frS; rw [bV (by omega),bV (by omega)]
      rw [e]; omega
theorem aBt {F:Int->Int}:∀ {ts:List Int} {last:Int} {x:Lv},x∈kJ F last ts->x.v=F x.a/\x.a∈ts
  | [],_,x,h=>by simp [kJ] at h
  | t::ts,last,x,h=>by
    simp only [kJ] at h
    split at h
    · rcases aE.1 h with rfl|h
      · exact ⟨rfl,by simp⟩
      · have:=aBt h
        exact ⟨this.1,by simp [this.2]⟩
    · have:=aBt h
      exact ⟨this.1,by simp [this.2]⟩
theorem aW5 {l:List Hd} {n:Int} {nq:Nat} (hok:∀ h∈l,lN nq h) (hl:l.length<=600):aOv (-1) 0 (lvH l n)=0:=by
  unfold lvH
  obtain ⟨h1,h2⟩:=xK l n
  refine aBr h1 (fun t ht=>?_)
  obtain ⟨h,hm,_,hx⟩:=lE.1 ((h2 t).1 ht)
  have hv:=(hok h hm).2.1
  have hb:=sK (n:=n) (t:=t) hok
  unfold okV
  rcases hx with rfl|rfl <;> omega
theorem aUv {l:List Hd} {n:Int} {nq:Nat} (hok:∀ h∈l,lN nq h) (hl:l.length<=600):aI4 (-1) (lvH l n):=(aI2 _ _ _ (aW5 hok hl)).t
def kO (qs:List Int) (cs:List Ct) (l:List Hd) (n s:Int):List (Int × Int) × Int:=
  if sX qs cs l≠0 then ([],1) else if n<0\/(qs.length:Int)<=n\/s<1\/65536<s then ([],2) else (jH (qs.getD n.toNat 0) s (lvH l n),0)
end Go.Step
namespace Go.Eng
section
variable {C:Cx} {D:List Deferred} {R H:List PH} {L:Env} {K:List It}
variable {dst:Option Tmp} {ty:TypeId} {pos:String} {aft:Array Edge} {g:Option (Nat × Bool)}
theorem fS.cells_at {e:TypeId} {s n b cap:Nat} {xs:List Value} {ρ:PH} (h:fS e s (.slice (some ⟨b,0,none⟩) n cap) n xs ρ):∃ cur,ρ=sng b (.cells cur e (0,0))/\n<=cap/\cap<=maxLen/\cur.size=cap*s/\cur.toList.take (n*s)=xs:=by
  obtain ⟨_,⟨h1,_⟩|⟨b',cap',cur,h1,rfl,h2,h3,h4,h5⟩⟩:=h
  · simp at h1
  · simp only [aN,aD,eI,and_true,true_and] at h1
    obtain ⟨rfl,rfl⟩:=h1
    exact ⟨cur,rfl,h2,h3,h4,h5⟩
theorem FQ {x:Operand} {t e:TypeId} {s by_:Nat} {z:Value} {b n cap m c2:Nat} {xs:List Value} {ρ:PH} {H':List PH}
    (hx:fM L x=some (.slice (oH (some ⟨b,0,none⟩) cap n s) m c2)) (ht:mT C.P t=some e) (hs:szP C.P e=some s) (hz:kD C.P e=some z) (hb:nC C.P e=some by_) (hzs:z.cells.size=s) (hz1:∀ u∈z.cells.toList,u.oneCell'=true)
    (hown:fS e s (.slice (some ⟨b,0,none⟩) n cap) n xs ρ) (htk:gU ρ H H') (hm:0<m) (hnm:n+m<=cap) :
    iX C R H L ⟨dst,.call ⟨.builtin .clear,#[x],#[t]⟩,ty,pos,aft,g⟩ (fun u H2=>u=.tuple #[]/\∃ ρ',fS e s (.slice (some ⟨b,0,none⟩) n cap) n xs ρ'/\H2=ρ'::H'):=by
  refine ⟨fun a w hxx hsat next Q hnx=>?_⟩
  have hxl:xs.length=n*s:=hown.1
  obtain ⟨cur,rfl,hnc,hcm,hcs,htk2⟩:=hown.cells_at
  obtain ⟨ti,hi,rfl,hiz,rfl⟩:=nK hs hz hb
  have htu:=jU ht
  have e1:=hxx x (by simp [Op.operands,Call.operands]) _ hx
  have hg:w.heap[b]?=some (.cells cur e (0,0)):=hsat.own htk
  have hcut:oH (some ⟨b,0,none⟩) cap n ti.size=some ⟨b,n*ti.size,none⟩:=by
    unfold oH
    rw [if_neg (by omega)]
    simp [aBi]
  have hle3:(n+m)*ti.size<=cap*ti.size:=dG _ hnm
  have hzl:(Builtin.zeroCells z.cells m).toList.length=m*ti.size:=by rw [cI,size_zeroCells,hzs]
  have hone:∀ v∈(Builtin.zeroCells z.cells m).toList,v.oneCell'=true:=by
    intro v hv
    simp only [Builtin.zeroCells,dF,bE] at hv
    obtain ⟨q,hq,rfl⟩:=hv
    have h0:0<z.cells.size:=by
      rcases dC z.cells.size with h|h
      · simp [h] at hq
      · exact h
    have hlt:q % z.cells.size<z.cells.size:=Nat.mod_lt _ h0
    rw [getElem!_pos z.cells _ hlt]
    exact hz1 _ (by simp)
  have hst:=run_storeCells_at C.P b (n*ti.size) e (Builtin.zeroCells z.cells m).toList 0 cur w hg (by rw [hzl,hcs,eO,← cZ]; exact hle3) hone
  have hm0:m≠0:=by omega
  have hr:(Builtin.clear_ #[t] ty #[.slice (some ⟨b,n*ti.size,none⟩) m c2]).run C.P w=.ok (.tuple #[]) (w.setRow b (cur.toList.take (n*ti.size+0) ++ (Builtin.zeroCells z.cells m).toList ++ cur.toList.drop (n*ti.size+0+(Builtin.zeroCells z.cells m).toList.length)).toArray):=by
    obtain ⟨m',rfl⟩:∃ m',m=m'+1:=⟨m-1,by omega⟩
    simp [Builtin.clear_,run_underlying htu,zeroValue,typeInfo,hi,hiz]
    simpa using congrArg (fun r=>r.andThen fun _ w'=>Result.ok (Value.tuple #[]) w') hst
  rw [hcut] at e1
  generalize hnew:(cur.toList.take (n*ti.size+0) ++ (Builtin.zeroCells z.cells m).toList ++ cur.toList.drop (n*ti.size+0+(Builtin.zeroCells z.cells m).toList.length)).toArray=new at hr
  have hexec:(execOp a.eval ⟨dst,.call ⟨.builtin .clear,#[x],#[t]⟩,ty,pos,aft,g⟩).run C.P w=.ok (.value (.tuple #[])) (w.setRow b new):=by
    simp [execOp,resolve,e1,invoke,builtin,hr]
  refine iR (by intro c; simp) hexec (hnx _ _ _ ⟨rfl,_,⟨hxl,.inr ⟨b,cap,new,rfl,rfl,hnc,hcm,?_,?_⟩⟩,rfl⟩ (hsat.turn htk ?_ (setRow_heap w b cur _ e _ hg) (fun k hk=>setRow_other w b k _ hk)))
  · rw [← hnew]
    simp only [dN,aB,aL,cB,cI] at hzl ⊢;rw [cZ] at hle3;omega
  · rw [← hnew]
    simp only;rw [eO,htk2,aR,← hxl];exact List.take_left
  · simp
end
section
variable {C:Cx} {D:List Deferred} {R H:List PH} {L:Env} {K:List It}
variable {dst:Option Tmp} {ty:TypeId} {pos:String} {aft:Array Edge} {g:Option (Nat × Bool)}
end
theorem rdN_sng {b:Nat} {vs:List Value} {t:TypeId} {fr:Nat × Nat}:RdN (sng b (.cells vs.toArray t fr)) b 0 vs:=fun j v hv=>by
  rw [kE,bZ]
  simpa using hv
end Go.Eng
namespace Go.Step
open Go.Eng
def leH (x y:Hd):Prop:=x.n<y.n\/(x.n=y.n/\(x.a<y.a\/(x.a=y.a/\(x.b<y.b\/(x.b=y.b/\(x.k<y.k\/(x.k=y.k/\x.s<=y.s)))))))
theorem aLq (a b:Int):(a<b/\gZ a b = -1)\/(a=b/\gZ a b=0)\/(b<a/\gZ a b=1):=by
  unfold gZ
  by_cases h:a<b
  · exact .inl ⟨h,by rw [if_pos h]⟩
  · by_cases h2:b<a
    · exact .inr (.inr ⟨h2,by rw [if_neg h,if_pos h2]⟩)
    · exact .inr (.inl ⟨by omega,by rw [if_neg h,if_neg h2]⟩)
theorem nP (a b:Int) (l:List Int):(a<b/\orI (gZ a b::l) = -1)\/(a=b/\orI (gZ a b::l)=orI l)\/(b<a/\orI (gZ a b::l)=1):=by
  have e:orI (gZ a b::l)=if gZ a b≠0 then gZ a b else orI l:=rfl
  rcases aLq a b with ⟨h1,h2⟩|⟨h1,h2⟩|⟨h1,h2⟩
  · exact .inl ⟨h1,by rw [e,h2]; rfl⟩
  · exact .inr (.inl ⟨h1,by rw [e,h2]; rfl⟩)
  · exact .inr (.inr ⟨h1,by rw [e,h2]; rfl⟩)
theorem aBu (x y:Hd):mY x y<=0↔leH x y:=by
  unfold mY leH
  rcases nP x.n y.n [gZ x.a y.a,gZ x.b y.b,gZ x.k y.k,gZ x.s y.s] with ⟨h1,e⟩|⟨h1,e⟩|⟨h1,e⟩
  · rw [e]; omega
  · rw [e]
    rcases nP x.a y.a [gZ x.b y.b,gZ x.k y.k,gZ x.s y.s] with ⟨h2,e⟩|⟨h2,e⟩|⟨h2,e⟩
    · rw [e]; omega
    · rw [e]
      rcases nP x.b y.b [gZ x.k y.k,gZ x.s y.s] with ⟨h3,e⟩|⟨h3,e⟩|⟨h3,e⟩
      · rw [e]; omega
      · rw [e]
        rcases nP x.k y.k [gZ x.s y.s] with ⟨h4,e⟩|⟨h4,e⟩|⟨h4,e⟩
        · rw [e]; omega
        · rw [e]
          rcases nP x.s y.s [] with ⟨h5,e⟩|⟨h5,e⟩|⟨h5,e⟩
          · rw [e]; omega
          · rw [e]; simp only [orI]; omega
          · rw [e]; omega
        · rw [e]; omega
      · rw [e]; omega
    · rw [e]; omega
  · rw [e]; omega
theorem aJa {x y z:Hd} (h1:mY x y<=0) (h2:mY y z<=0):mY x z<=0:=by
  rw [aBu] at *;unfold leH at *;omega
theorem aLr {x y:Hd} (h:mY x y=0):x=y:=by
  have h1:=(aBu x y).1 (by omega)
  have h2:=(aBu y x).1 (by have:=xM x y; omega)
  unfold leH at *
  obtain ⟨a,b,c,d,e⟩:=x
  obtain ⟨a',b',c',d',e'⟩:=y
  simp only [Hd.mk.injEq] at *;omega
abbrev nJ (l:List Hd):Prop:=l.Pairwise (fun x y=>mY x y<=0)
theorem aJb {nq:Nat} {l:List Hd} (hok:∀ x∈l,lN nq x) (hs:nJ l):gK (hdE nq l) l.length=0:=by
  refine uA (fun k hk=>?_)
  rw [aLn (aA hk),if_neg (by simpa using hok _ (cP hk))]
  refine if_neg (fun ⟨h0,h1⟩=>?_)
  have e:l.getD (k-1) l[k]=l[k-1]:=by simp [aI,aA (by omega:k-1<l.length)]
  rw [e] at h1
  have:=aZ.1 hs (k-1) k (by omega) hk (by omega)
  omega
theorem aC7 (a b:List Hd) (n t:Int):stored (a ++ b) n t=stored a n t+stored b n t:=by
  induction a with
  | nil=>simp [stored]
  | cons h a ih=>simp only [aG,stored,ih]; omega
theorem vP {qs:List Int} {l:List Hd}:vN qs l=true↔∀ h∈l,stored l h.n h.a<=qs.getD h.n.toNat 0:=by
  unfold vN;rw [dA]
  simp
end Go.Step
namespace Go.Step
def Cov (l:List (Int × Int)) (t:Int):Prop:=∃ s∈l,s.1<=t/\t<s.2
structure rK (lo a:Int) (l:List (Int × Int)):Prop where
  ok:∀ s∈l,lo<=s.1/\s.1<s.2/\s.2<=a
  sep:l.Pairwise (fun s t=>s.2<t.1)
theorem aNc {lo a:Int} {l:List (Int × Int)} (h:rK lo a l) {x y:Int} (hxy:x<y) (hc:∀ t,x<=t->t<y->Cov l t):∃ s∈l,s.1<=x/\y<=s.2:=by
  obtain ⟨s,hs,h1,h2⟩:=hc x (cH _) hxy
  by_cases hy:y<=s.2
  · exact ⟨s,hs,h1,hy⟩
  · obtain ⟨u,hu,k1,k2⟩:=hc s.2 (by omega) (by omega)
    have hsu:s=u\/s.2<u.1\/u.2<s.1:=by
      obtain ⟨i,hi,rfl⟩:=bB hs
      obtain ⟨j,hj,rfl⟩:=bB hu
      have:=aZ.1 h.sep
      by_cases e:i=j
      · subst e; exact .inl rfl
      · by_cases e2:i<j
        · exact .inr (.inl (this i j hi hj e2))
        · exact .inr (.inr (this j i hj hi (by omega)))
    have:=h.ok s hs
    rcases hsu with rfl|h|h <;> omega
structure aOy (Q s:Int) (G:Int->Int) (T v:Int) (st:Int × List (Int × Int)):Prop where
  ap:rK 0 T st.2
  fr:st.1 = -1\/(0<=st.1/\st.1<=T/\∀ u∈st.2,u.2<st.1)
  cov:∀ t,0<=t->t<T->((Cov st.2 t\/(0<=st.1/\st.1<=t))↔G t+s<=Q)
  now:0<=st.1↔v+s<=Q
theorem aJc (l:List (Int × Int)) (x:Int × Int) (t:Int):Cov (l ++ [x]) t↔Cov l t\/(x.1<=t/\t<x.2):=by
  unfold Cov
  constructor
  · rintro ⟨s,hs,h⟩
    rcases aM.1 hs with hs|hs
    · exact .inl ⟨s,hs,h⟩
    · simp only [bI] at hs; subst hs; exact .inr h
  · rintro (⟨s,hs,h⟩|h)
    · exact ⟨s,by simp [hs],h⟩
    · exact ⟨x,by simp,h⟩
theorem aBv {T T':Int} {l:List (Int × Int)} {x:Int × Int} (h:rK 0 T l) (hT:T<=T') (hx:0<=x.1/\x.1<x.2/\x.2<=T') (hs:∀ u∈l,u.2<x.1):rK 0 T' (l ++ [x]):=by
  refine ⟨fun s hm=>?_,cC.2 ⟨h.sep,by simp,fun a ha b hb=>?_⟩⟩
  · rcases aM.1 hm with hm|hm
    · have:=h.ok s hm; omega
    · simp only [bI] at hm; subst hm; exact hx
  · simp only [bI] at hb; subst hb; exact hs a ha
theorem qB {T T':Int} {l:List (Int × Int)} (h:rK 0 T l) (hT:T<=T'):rK 0 T' l:=⟨fun s hm=>by have:=h.ok s hm; omega,h.sep⟩
theorem aOy.step {Q s:Int} {G:Int->Int} {T v:Int} {st:Int × List (Int × Int)} (h:aOy Q s G T v st) {T' v':Int} (h0:0<=T) (hT:T<T'\/(T=T'/\st.2=[])) (hG:∀ t,T<=t->t<T'->G t=v):aOy Q s G T' v' (frA Q s st T' v'):=by
  have hle:T<=T':=by omega
  obtain ⟨fr,out⟩:=st
  obtain ⟨hap,hfr,hcov,hnow⟩:=h
  dsimp only at hap hfr hcov hnow hT
  unfold frA
  by_cases hc:Q-v'<s
  · rw [if_pos hc]
    dsimp only
    by_cases ho:0<=fr/\fr<T'
    · rw [if_pos ho]
      have hsep:∀ u∈out,u.2<fr:=by rcases hfr with h|h; omega; exact h.2.2
      refine ⟨aBv hap hle ⟨ho.1,ho.2,cH _⟩ hsep,.inl rfl,fun t ht ht2=>?_,by constructor <;> intro h <;> omega⟩
      dsimp only
      rw [aJc]
      dsimp only
      by_cases c:t<T
      · have:=hcov t ht c
        rw [← this]
        constructor
        · rintro ((h|h)|h)
          · exact .inl h
          · exact .inr ⟨ho.1,h.1⟩
          · omega
        · rintro (h|h)
          · exact .inl (.inl h)
          · exact .inl (.inr ⟨h.2,ht2⟩)
      · rw [hG t (by omega) ht2]
        have:=hnow.1 ho.1
        constructor
        · intro _; exact this
        · intro _
          refine .inl (.inr ⟨?_,ht2⟩)
          rcases hfr with h|h <;> omega
    · rw [if_neg ho]
      refine ⟨qB hap hle,.inl rfl,fun t ht ht2=>?_,by constructor <;> intro h <;> dsimp only at * <;> omega⟩
      dsimp only
      by_cases c:t<T
      · rw [← hcov t ht c]
        constructor
        · rintro (h|h)
          · exact .inl h
          · omega
        · rintro (h|h)
          · exact .inl h
          · omega
      · rw [hG t (by omega) ht2]
        constructor
        · rintro (⟨u,hu,h⟩|h)
          · have:=hap.ok u hu; omega
          · omega
        · intro h
          have:=hnow.2 h
          exact absurd ⟨this,by rcases hfr with k|k <;> omega⟩ ho
  · rw [if_neg hc]
    dsimp only
    by_cases ho:fr<0
    · rw [if_pos ho]
      refine ⟨qB hap hle,.inr ⟨by dsimp only; omega,cH _,fun u hu=>?_⟩,fun t ht ht2=>?_,by constructor <;> intro h <;> dsimp only at * <;> omega⟩
      · dsimp only at hu ⊢
        have:=hap.ok u hu
        rcases hT with h|h
        · omega
        · rw [h.2] at hu; simp at hu
      · dsimp only
        by_cases c:t<T
        · rw [← hcov t ht c]
          constructor
          · rintro (h|h)
            · exact .inl h
            · omega
          · rintro (h|h)
            · exact .inl h
            · omega
        · rw [hG t (by omega) ht2]
          constructor
          · rintro (⟨u,hu,h⟩|h)
            · have:=hap.ok u hu; omega
            · omega
          · intro h
            have:=hnow.2 h; omega
    · rw [if_neg ho]
      have hf:0<=fr/\fr<=T/\∀ u∈out,u.2<fr:=by
        rcases hfr with h|h
        · omega
        · exact h
      refine ⟨qB hap hle,.inr ⟨hf.1,by dsimp only; omega,hf.2.2⟩,fun t ht ht2=>?_,by constructor <;> intro h <;> dsimp only at * <;> omega⟩
      dsimp only
      by_cases c:t<T
      · exact hcov t ht c
      · rw [hG t (by omega) ht2]
        have:=hnow.1 hf.1
        constructor
        · intro _; exact this
        · intro _; exact .inr ⟨hf.1,by omega⟩
theorem aOy.fin {Q s:Int} {G:Int->Int} {T v:Int} {st:Int × List (Int × Int)} (h:aOy Q s G T v st) (h0:0<=T) (hT:T<=1099511627776) (hG:∀ t,T<=t->t<1099511627776->G t=v) :
    rK 0 1099511627776 (aLp st)/\∀ t,0<=t->t<1099511627776->(Cov (aLp st) t↔G t+s<=Q):=by
  obtain ⟨fr,out⟩:=st
  obtain ⟨hap,hfr,hcov,hnow⟩:=h
  dsimp only at hap hfr hcov hnow
  unfold aLp
  dsimp only
  by_cases ho:0<=fr/\fr<1099511627776
  · rw [if_pos ho]
    have hf:fr<=T/\∀ u∈out,u.2<fr:=by rcases hfr with h|h; omega; exact h.2
    refine ⟨aBv hap hT ⟨ho.1,ho.2,cH _⟩ hf.2,fun t ht ht2=>?_⟩
    rw [aJc]
    dsimp only
    by_cases c:t<T
    · rw [← hcov t ht c]
      constructor
      · rintro (h|h)
        · exact .inl h
        · exact .inr ⟨ho.1,h.1⟩
      · rintro (h|h)
        · exact .inl h
        · exact .inr ⟨h.2,ht2⟩
    · rw [hG t (by omega) ht2]
      have:=hnow.1 ho.1
      constructor
      · intro _; exact this
      · intro _; exact .inr ⟨by omega,ht2⟩
  · rw [if_neg ho]
    refine ⟨qB hap hT,fun t ht ht2=>?_⟩
    by_cases c:t<T
    · rw [← hcov t ht c]
      constructor
      · exact fun h=>.inl h
      · rintro (h|h)
        · exact h
        · omega
    · rw [hG t (by omega) ht2]
      constructor
      · rintro ⟨u,hu,h⟩
        have:=hap.ok u hu; omega
      · intro h
        have:=hnow.2 h
        exact absurd ⟨this,by rcases hfr with k|k <;> omega⟩ ho
theorem aBw {Q s:Int} {G:Int->Int}:∀ {f:List Lv} {p T v:Int} {st:Int × List (Int × Int)},aI4 p f->aOy Q s G T v st->0<=T->T<=1099511627776->(T=p\/(p = -1/\T=0/\st.2=[]))->(∀ t,T<=t->G t=vat v f t) ->
    rK 0 1099511627776 (aLp (f.foldl (frL Q s) st))/\∀ t,0<=t->t<1099511627776->(Cov (aLp (f.foldl (frL Q s) st)) t↔G t+s<=Q)
  | [],p,T,v,st,_,h,h0,h1,_,hG=>h.fin h0 h1 (fun t ht _=>hG t ht)
  | x::f,p,T,v,st,hA,h,h0,h1,hp,hG=>by
    have hxa:p<x.a/\x.a<=1099511627776:=hA.gt x (by simp)
    have hA2:aI4 x.a f:=hA.2.2
    have hv1:∀ t,T<=t->t<x.a->G t=v:=fun t ht h2=>by
      rw [hG t ht]
      exact aI3 (x::f) v t (fun l hl=>by simp at hl; subst hl; exact h2)
    rw [eZ]
    by_cases c:x.a<1099511627776
    · have e:frL Q s st x=frA Q s st x.a x.v:=by unfold frL; rw [if_pos c]
      rw [e]
      refine aBw (p:=x.a) (T:=x.a) (v:=x.v) hA2 (h.step h0 (by rcases hp with h|⟨h,k,m⟩; exact .inl (by omega); exact if c:T<x.a then .inl c else .inr ⟨by omega,m⟩) hv1) (by omega) hxa.2 (.inl rfl) (fun t ht=>?_)
      rw [hG t (by omega)]
      have:=uB [x] f v t (by simpa using ht)
      rw [List.singleton_append] at this
      have e2:vat v [x] t=x.v:=aSp [] x v t (by simp) ht
      rw [this,e2]
    · have e:frL Q s st x=st:=by unfold frL; rw [if_neg c]
      have hf:f=[]:=by
        cases f with
        | nil=>rfl
        | cons y f=>have:=hA2.gt y (by simp); omega
      subst hf;rw [e]
      exact h.fin h0 h1 (fun t ht h2=>hv1 t ht (by omega))
theorem aLs {Q s:Int} {f:List Lv} (hA:aI4 (-1) f):rK 0 1099511627776 (jH Q s f)/\∀ t,0<=t->t<1099511627776->(Cov (jH Q s f) t↔val f t+s<=Q):=by
  unfold jH
  refine aBw (G:=val f) (p:=-1) (T:=0) (v:=0) hA ?_ (by omega) (by omega) ?_ (fun t _=>rfl)
  · unfold frA
    by_cases c:Q-0<s
    · rw [if_pos c]
      exact ⟨⟨by simp,by simp⟩,.inl rfl,fun t h1 h2=>by omega,by constructor <;> intro h <;> dsimp only at * <;> omega⟩
    · rw [if_neg c]
      exact ⟨⟨by simp,by simp⟩,.inr ⟨by simp,by simp,by simp⟩,fun t h1 h2=>by omega,by constructor <;> intro h <;> simp at * <;> omega⟩
  · refine .inr ⟨rfl,rfl,?_⟩
    unfold frA
    by_cases c:Q-0<s
    · rw [if_pos c]; rfl
    · rw [if_neg c]
theorem vQ {n a b:Int} (hab:a<=b):∀ {l:List Hd},(∀ y∈tmH l n,¬ (a<y/\y<=b))->stored l n b=stored l n a
  | [],_=>rfl
  | h::l,H=>by
    have ih:=vQ hab (l:=l) (fun y hy=>H y (by
      obtain ⟨g,hg,k⟩:=lE.1 hy
      exact lE.2 ⟨g,by simp [hg],k⟩))
    simp only [stored,ih]
    by_cases hn:h.n=n
    · have h1:=H h.a (lE.2 ⟨h,by simp,hn,.inl rfl⟩)
      have h2:=H h.b (lE.2 ⟨h,by simp,hn,.inr rfl⟩)
      simp only [hn,true_and]
      split <;> split <;> omega
    · simp only [hn,false_and,if_false]
theorem aUw {l:List Hd} {n:Int} {nq:Nat} (hok:∀ h∈l,lN nq h) {t:Int} (ht:-1<=t):val (lvH l n) t=stored l n t:=by
  obtain ⟨h1,h2⟩:=xK l n
  have e0:stored l n (-1)=0:=nO (fun h hl hn=>by have:=(hok h hl).2.1; omega)
  unfold lvH val;rw [aBs h1]
  have:=aV6 (F:=stored l n) (p:=-1) (t:=t) h1 (fun x hx=>by
    obtain ⟨h,hl,_,hx⟩:=lE.1 ((h2 x).1 hx)
    have:=(hok h hl).2.1
    omega) ht (fun a b _ hab hy=>vQ hab (fun y hm=>hy y ((h2 y).2 hm)))
  rw [e0] at this;exact this
theorem oE {l:List Hd} {n Q s:Int} {nq:Nat} (hok:∀ h∈l,lN nq h) (hl:l.length<=600):rK 0 1099511627776 (jH Q s (lvH l n))/\∀ t,0<=t->t<1099511627776->(Cov (jH Q s (lvH l n)) t↔stored l n t+s<=Q):=by
  obtain ⟨h1,h2⟩:=aLs (Q:=Q) (s:=s) (aUv (n:=n) hok hl)
  refine ⟨h1,fun t ht ht2=>?_⟩
  rw [h2 t ht ht2,aUw hok (by omega)]
theorem aUx {qs:List Int} {cs:List Ct} {l:List Hd} (hp:gD qs cs=0) (hl:l.length<=512) (hok:∀ x∈l,lN qs.length x) (hs:nJ l) (hf:vN qs l=true):sX qs cs l=0:=by
  unfold sX
  rw [if_neg (by simpa using hp),if_neg (by omega),if_neg (by simpa using aJb hok hs),if_pos hf]
structure Bk where
  c:Int
  a:Int
  b:Int
  k:Int
deriving DecidableEq
def aF7 (cs:List Ct) (x:Bk):Prop:=(0<=x.c/\x.c<cs.length/\0<=x.k/\x.k<=1152921504606846976)/\∃ c,cs[x.c.toNat]?=some c/\c.s<=x.a/\x.a<x.b/\x.b<=c.e
def rL (cs:List Ct) (x:Bk):Bool:=decide (0<=x.c/\x.c<cs.length/\0<=x.k/\x.k<=1152921504606846976) && (match cs[x.c.toNat]? with
  | some c=>decide (c.s<=x.a/\x.a<x.b/\x.b<=c.e)
  | none=>false)
theorem aEg (cs:List Ct) (x:Bk):rL cs x=true↔aF7 cs x:=by
  unfold rL aF7;rw [aJ,decide_eq_true_iff]
  cases h:cs[x.c.toNat]? with
  | none=>simp
  | some c=>simp
def qM (x y:Bk):Int:=orI [gZ x.c y.c,gZ x.a y.a]
theorem aBx (x y:Bk):qM x y<0↔x.c<y.c\/(x.c=y.c/\x.a<y.a):=by
  unfold qM
  rcases nP x.c y.c [gZ x.a y.a] with ⟨h1,e⟩|⟨h1,e⟩|⟨h1,e⟩
  · rw [e]; omega
  · rw [e]
    rcases nP x.a y.a [] with ⟨h2,e⟩|⟨h2,e⟩|⟨h2,e⟩
    · rw [e]; omega
    · rw [e]; simp only [orI]; omega
    · rw [e]; omega
  · rw [e]; omega
def aSx (p x:Bk):Int:=if ¬ qM p x<0 then 9 else if p.c=x.c/\x.a<p.b then 14 else 0
def bkE (cs:List Ct) (l:List Bk) (i:Nat):Int:=match l[i]? with
  | some x=>if rL cs x=false then 2 else if i=0 then 0 else aSx (l.getD (i-1) x) x
  | none=>0
theorem aF8 {cs:List Ct} {l:List Bk} {i:Nat} {x:Bk} (e:l[i]?=some x):bkE cs l i=if rL cs x=false then 2 else if i=0 then 0 else aSx (l.getD (i-1) x) x:=by unfold bkE; rw [e]
def sZ (qs:List Int) (cs:List Ct) (l:List Bk):Int:=
  if gD qs cs≠0 then 1 else if 512<l.length then 4 else gK (bkE cs l) l.length
def aC8 (qs:List Int) (cs:List Ct) (bs:List Bk) (hs:List Hd):Int:=
  if gD qs cs≠0 then gD qs cs else if sZ qs cs bs≠0 then sZ qs cs bs else sX qs cs hs
def kK (l:List Bk) (c:Int):List (Int × Int):=(l.filter (fun x=>decide (x.c=c))).map (fun x=>(x.a,x.b))
theorem aLt (c:Int) {l:List Bk} {k:Nat} {x:Bk} (h:l[k]?=some x):kK (l.take (k+1)) c=kK (l.take k) c ++ (if x.c=c then [(x.a,x.b)] else []):=by
  obtain ⟨hk,rfl⟩:=aC.1 h
  unfold kK;rw [aV hk,dW,cX]
  congr 1
  by_cases e:l[k].c=c
  · simp [e]
  · simp [e]
theorem xO (l:List Bk) (c:Int):(kK l c).length<=l.length:=by
  unfold kK;rw [aU];exact cD _ _
def vR (l:List Bk) (c t:Int):Bool:=(kK l c).any (fun x=>decide (x.1<=t) && decide (t<x.2))
theorem aLu {cs:List Ct} {l:List Bk} (h:gK (bkE cs l) l.length=0):∀ x∈l,aF7 cs x:=fun x hx=>by
  obtain ⟨i,hi,rfl⟩:=bB hx
  have h2:=jO h i hi
  rw [aF8 (aA hi)] at h2
  cases hc:rL cs l[i] with
  | true=>exact (aEg _ _).1 hc
  | false=>rw [if_pos hc] at h2; omega
theorem jQ {qs:List Int} {cs:List Ct} {bs:List Bk} {hs:List Hd} (h:aC8 qs cs bs hs=0):gD qs cs=0/\sZ qs cs bs=0/\sX qs cs hs=0:=by
  unfold aC8 at h
  by_cases h1:gD qs cs=0
  · rw [if_neg (by simpa using h1)] at h
    by_cases h2:sZ qs cs bs=0
    · rw [if_neg (by simpa using h2)] at h
      exact ⟨h1,h2,h⟩
    · rw [if_pos h2] at h; exact absurd h h2
  · rw [if_pos h1] at h; exact absurd h h1
theorem qC {qs:List Int} {cs:List Ct} {bs:List Bk} (h:sZ qs cs bs=0):bs.length<=512/\gK (bkE cs bs) bs.length=0:=by
  unfold sZ at h
  by_cases h1:gD qs cs=0
  · rw [if_neg (by simpa using h1)] at h
    by_cases h2:512<bs.length
    · rw [if_pos h2] at h; omega
    · rw [if_neg h2] at h; exact ⟨by omega,h⟩
  · rw [if_pos h1] at h; omega
end Go.Step
