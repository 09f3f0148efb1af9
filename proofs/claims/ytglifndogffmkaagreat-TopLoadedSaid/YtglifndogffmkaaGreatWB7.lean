/- Texts of this proof, one after the other; no conditions. -/
import Derived.Lib.RowBridge
import Derived.Laws.Externs
import Derived.Test.YtglifndogffmkaaGreatWB6
import Derived.Test.YtglifndogffmkaaGreatWB4
import Derived.Test.YtglifndogffmkaaGreatWB3
import Derived.Test.YtglifndogffmkaaGreatWB1
import Derived.Test.YtglifndogffmkaaGreatWB2
import Derived.Test.YtglifndogffmkaaGreatWB5
set_option linter.all false
/- What Paths hands back. No program in sight. No conditions. -/
namespace Go.Flow
def PathsOK (n:Int) (l:List Arc) (fl:List Int) (s t:Int) (ps:List (List Lk × Int)) (e:Int):Prop:=
  ((valueSpec n l fl s t).2≠0∧e=(valueSpec n l fl s t).2∧ps=[]) ∨
  ((valueSpec n l fl s t).2=0∧e=0∧∃ r,RunP n.toNat l s.toNat t.toNat fl ps r)
theorem value_good {n s t:Int} {l:List Arc} {fl:List Int} (h:(valueSpec n l fl s t).2=0):∃ n' s' t':Nat,Good n l s t n' s' t'∧Flw n' l s' t' fl∧(valueSpec n l fl s t).1=fval s l fl:=by
  obtain ⟨n',s',t',g,hF,hv⟩:=value_flw (F:=fl) (v:=(valueSpec n l fl s t).1) (by rw [← h])
  exact ⟨n',s',t',g,hF,hv⟩
theorem PathsOK.uniq {n s t e f:Int} {l:List Arc} {fl:List Int} {ps qs:List (List Lk × Int)} (h1:PathsOK n l fl s t ps e) (h2:PathsOK n l fl s t qs f):ps=qs∧e=f:=by
  rcases h1 with ⟨a1,a2,a3⟩|⟨a1,a2,r1,a3⟩ <;> rcases h2 with ⟨b1,b2,b3⟩|⟨b1,b2,r2,b3⟩
  · exact ⟨by rw [a3,b3],by rw [a2,b2]⟩
  · exact absurd b1 a1
  · exact absurd a1 b1
  · obtain ⟨n',s',t',g,_,_⟩:=value_good a1
    obtain ⟨rfl,rfl,rfl⟩:=And.intro g.en (And.intro g.es g.et)
    simp only [Int.toNat_natCast] at a3 b3
    exact ⟨(a3.uniq g.ok b3).1,by rw [a2,b2]⟩
theorem RunP.cons {n s t:Nat} {l:List Arc} {fl r:List Int} {p:List Lk × Int} {ps:List (List Lk × Int)} (h:RunP n l s t fl (p::ps) r) :
    ∃ D,IsDist n t (pE l fl) D∧0≤D.getD s 0∧p.1=pP l fl D s∧p.2=pRoom l fl D s∧RunP n l s t (pNext l fl D s) ps r:=by
  cases h with
  | step hD h0 hr=>exact ⟨_,hD,h0,rfl,rfl,hr⟩
theorem RunP.nil {n s t:Nat} {l:List Arc} {fl r:List Int} (h:RunP n l s t fl [] r):r=fl∧∃ D,IsDist n t (pE l fl) D∧D.getD s 0<0:=by
  cases h with
  | done hD hn=>exact ⟨rfl,_,hD,hn⟩
end Go.Flow
namespace Go.Flow
/-! ### each path uses up an arc -/
def npos (l:List Int):Nat:=l.countP (fun x=>decide (0<x))
theorem npos_le:∀ (a b:List Int),a.length=b.length→(∀ k:Nat,b.getD k 0≤a.getD k 0)→npos b≤npos a
  | [],[],_,_=>Nat.le_refl _
  | x::a,y::b,hl,h=>by
    have ih:=npos_le a b (by simpa using hl) (fun k=>by simpa using h (k+1))
    have h0:=h 0
    simp only [List.getD_cons_zero] at h0;unfold npos at ih ⊢;simp only [List.countP_cons]
    by_cases h1:0<y
    · rw [if_pos (by simpa using h1),if_pos (by simp; omega)]; omega
    · rw [if_neg (by simpa using h1)]; omega
theorem npos_lt:∀ (a b:List Int),a.length=b.length→(∀ k:Nat,b.getD k 0≤a.getD k 0)→∀ j:Nat,0<a.getD j 0→b.getD j 0≤0→npos b+1≤npos a
  | [],[],_,_,j,h1,_=>by simp at h1
  | x::a,y::b,hl,h,0,h1,h2=>by
    have ih:=npos_le a b (by simpa using hl) (fun k=>by simpa using h (k+1))
    simp only [List.getD_cons_zero] at h1 h2;unfold npos at ih ⊢;simp only [List.countP_cons]
    rw [if_neg (by simp; omega),if_pos (by simpa using h1)]; omega
  | x::a,y::b,hl,h,j+1,h1,h2=>by
    have ih:=npos_lt a b (by simpa using hl) (fun k=>by simpa using h (k+1)) j (by simpa using h1) (by simpa using h2)
    have h0:=h 0
    simp only [List.getD_cons_zero] at h0;unfold npos at ih ⊢;simp only [List.countP_cons]
    by_cases h3:0<y
    · rw [if_pos (by simpa using h3),if_pos (by simp; omega)]; omega
    · rw [if_neg (by simpa using h3)]; omega
theorem subP_le {room:Int} (h0:0≤room) (rest:List Int) (x:Lk) (k:Nat):(subP room rest x).getD k 0≤rest.getD k 0:=by
  unfold subP
  by_cases e:x.k=k
  · subst e
    by_cases hl:x.k<rest.length
    · rw [getD_set hl,if_pos rfl]; omega
    · rw [List.set_eq_of_length_le (by omega)]; exact Int.le_refl _
  · rw [getD_set' e]; exact Int.le_refl _
theorem subAll_le {room:Int} (h0:0≤room):∀ (p:List Lk) (rest:List Int) (k:Nat),(subAll room rest p).getD k 0≤rest.getD k 0
  | [],rest,k=>Int.le_refl _
  | x::p,rest,k=>Int.le_trans (subAll_le h0 p (subP room rest x) k) (subP_le h0 rest x k)
theorem subAll_used {room:Int} (h0:0≤room):∀ (p:List Lk) (rest:List Int) (x:Lk),x∈p→x.k<rest.length→(subAll room rest p).getD x.k 0≤rest.getD x.k 0-room
  | [],rest,x,hx,_=>by simp at hx
  | y::p,rest,x,hx,hl=>by
    simp at hx
    rcases hx with rfl|hx
    · refine Int.le_trans (subAll_le h0 p (subP room rest x) x.k) ?_
      unfold subP;rw [getD_set hl,if_pos rfl]; exact Int.le_refl _
    · have:=subAll_used h0 p (subP room rest y) x hx (by rw [subP_len]; exact hl)
      have:=subP_le h0 rest y x.k
      show (subAll room (subP room rest y) p).getD x.k 0≤_
      omega
theorem least_attained (rm:Nat→Int):∀ (p:List Lk) (m:Int),p.foldl (fun m x=>min m (rm x.k)) m=m∨∃ x∈p,rm x.k=p.foldl (fun m x=>min m (rm x.k)) m
  | [],m=>.inl rfl
  | y::p,m=>by
    simp only [List.foldl_cons]
    rcases least_attained rm p (min m (rm y.k)) with h|⟨x,hx,h⟩
    · rw [h]
      by_cases hc:m≤rm y.k
      · left; omega
      · right; exact ⟨y,by simp,by omega⟩
    · right; exact ⟨x,by simp [hx],h⟩
theorem pNext_pos {n s t:Nat} {l:List Arc} (hok:∀ a∈l,okArc n a=true) (hs:s<n) (hst:s≠t) {fl D:List Int} (hf:Flw n l s t fl) (hD:IsDist n t (pE l fl) D) (h0:0≤D.getD s 0):npos (pNext l fl D s)+1≤npos fl:=by
  obtain ⟨k,hk⟩:=Int.eq_ofNat_of_zero_le h0
  have hch:=path_chn (pl_lt hok) hD k s hs hk
  have hlen:(pP l fl D s).length=k:=path_len (pl_lt hok) hD k s hs hk
  have hpos:=(pNext_ok hok hs hst hf hD h0).2.1
  have hk0:k≠0:=fun e=>by
    subst e
    exact hst (hD.zero s hs (by omega))
  have hatt:∃ x∈pP l fl D s,rmP fl x.k=pRoom l fl D s:=by
    rcases least_attained (rmP fl) (pP l fl D s) 1099511627776 with h|h
    · have hne:pP l fl D s≠[]:=fun e=>by rw [e] at hlen; simp at hlen; omega
      obtain ⟨x,p,hxp⟩:=List.exists_cons_of_ne_nil hne
      refine ⟨x,by rw [hxp]; simp,?_⟩
      have hle:=(leastR_le (rmP fl) (pP l fl D s) 1099511627776).2 x (by rw [hxp]; simp)
      have hxP:x∈pP l fl D s:=by rw [hxp]; simp
      have hxm:=(hch.all x hxP).1.1
      obtain ⟨j,a,ha,rfl⟩:=plinks_iff.1 hxm
      have hjl:j<l.length:=(List.getElem?_eq_some_iff.1 ha).1
      have hfj:fl[j]?=some (fl.getD j 0):=by have:=hf.len; simp [List.getD_eq_getElem?_getD,show j<fl.length by omega]
      have hin:=inCap_get l fl hf.cap j a _ ha hfj
      have hka:=okArc_iff.1 (hok a (List.mem_of_getElem? ha))
      show fl.getD j 0=_
      have h9:pRoom l fl D s=1099511627776:=h
      have h10:pRoom l fl D s≤fl.getD j 0:=hle
      omega
    · exact h
  obtain ⟨x,hx,hxr⟩:=hatt
  have hxk:x.k<fl.length:=by rw [← hf.len]; exact pl_k (hch.all x hx).1.1
  refine npos_lt fl _ (by rw [subAll_len]) (fun k=>subAll_le (Int.le_of_lt hpos) _ _ k) x.k ?_ ?_
  · have h2:fl.getD x.k 0=pRoom l fl D s:=hxr
    rw [h2]; exact hpos
  · have h1:=subAll_used (Int.le_of_lt hpos) (pP l fl D s) fl x hx hxk
    have h2:fl.getD x.k 0=pRoom l fl D s:=hxr
    rw [h2,Int.sub_self] at h1;exact h1
end Go.Flow
namespace Go.Flow
theorem RunP.small {n s t:Nat} {l:List Arc} (hok:∀ a∈l,okArc n a=true) (hs:s<n) (ht:t<n) (hst:s≠t) {fl r:List Int} {ps:List (List Lk × Int)} (h:RunP n l s t fl ps r):Flw n l s t fl→ps.length≤npos fl∧∀ p∈ps,p.1.length≤n:=by
  induction h with
  | done=>intro _; simp
  | @step fl D r ps hD h0 _ ih =>
    intro hf
    obtain ⟨hN1,_,_⟩:=pNext_ok hok hs hst hf hD h0
    have hp:=pNext_pos hok hs hst hf hD h0
    obtain ⟨i1,i2⟩:=ih hN1
    refine ⟨by simp only [List.length_cons]; omega,fun p hp=>?_⟩
    simp at hp
    rcases hp with rfl|hp
    · obtain ⟨k,hk⟩:=Int.eq_ofNat_of_zero_le h0
      have h3:(pP l fl D s).length=k:=path_len (pl_lt hok) hD k s hs hk
      have h2:=hD.lt (fun x hx=>pl_lt hok x hx.1) ht hs
      dsimp only
      omega
    · exact i2 p hp
end Go.Flow
namespace Go.Flow
def addP (m:Int) (part:List Int) (x:Lk):List Int:=part.set x.k (part.getD x.k 0+m)
def addAll (m:Int) (part:List Int) (p:List Lk):List Int:=p.foldl (addP m) part
def addMany (qs:List (List Lk × Int)) (part:List Int):List Int:=qs.foldl (fun part q=>addAll q.2 part q.1) part
def quotaL:List (List Lk × Int)→Int→List (List Lk × Int)
  | [],_=>[]
  | p::ps,v=>(p.1,min v p.2)::quotaL ps (v-min v p.2)
theorem RunP.pos {n s t:Nat} {l:List Arc} (hok:∀ a∈l,okArc n a=true) (hs:s<n) (hst:s≠t) {fl r:List Int} {ps:List (List Lk × Int)} (h:RunP n l s t fl ps r):Flw n l s t fl→∀ p∈ps,0<p.2:=by
  induction h with
  | done=>intro _ p hp; simp at hp
  | step hD h0 _ ih =>
    intro hf p hp
    have:=pNext_ok hok hs hst hf hD h0
    simp only [List.mem_cons] at hp
    rcases hp with rfl|hp
    · exact this.2.1
    · exact ih this.1 p hp
section
variable {n s t:Nat} {l:List Arc}
end
end Go.Flow
namespace Go.Step
open Go.Flow (MaxOK PathsOK Flw fval addMany quotaL RunP okEnds_iff)
abbrev PathL:=List (List Go.Flow.Lk × Int)
def partF (qs:List Int) (cs:List Ct) (bs:List Bk) (hs:List Hd) (d:Dm) (ps:PathL):List Int:=addMany (quotaL ps d.v) (List.replicate (arcsG qs cs bs hs d).length 0)
def PathN (qs:List Int) (cs:List Ct) (bs:List Bk) (hs:List Hd) (d:Dm) (F:List Int) (ps:PathL) (e:Int):Prop:=PathsOK (vsN qs d) (arcsG qs cs bs hs d) F (vtx d d.s d.r) (vtx d d.d d.e) ps e
def PlanOK (qs:List Int) (cs:List Ct) (bs:List Bk) (hs:List Hd) (d:Dm) (acc:Bool) (vol:Int) (ss:List Sh) (c:Cu):Prop:=
  ∃ F m,MaxN qs cs bs hs d F m 0∧((m<d.v∧acc=false∧vol=m∧ss=[]∧∃ side k,CutN qs cs bs hs d side k 0∧c=sidesC d qs.length side) ∨
    (d.v≤m∧acc=true∧vol=d.v∧c=[]∧∃ ps,PathN qs cs bs hs d F ps 0∧ss=shipsF (arcsE qs cs bs hs d) (partF qs cs bs hs d ps)))
variable {qs:List Int} {cs:List Ct} {bs:List Bk} {hs:List Hd} {d:Dm}
theorem MaxN.uniq {F G:List Int} {m k e f:Int} (h1:MaxN qs cs bs hs d F m e) (h2:MaxN qs cs bs hs d G k f):F=G∧m=k∧e=f:=MaxOK.uniq h1 h2
theorem PlanOK.uniq {acc acc':Bool} {vol vol':Int} {ss ss':List Sh} {c c':Cu} (h1:PlanOK qs cs bs hs d acc vol ss c) (h2:PlanOK qs cs bs hs d acc' vol' ss' c'):acc=acc'∧vol=vol'∧ss=ss'∧c=c':=by
  obtain ⟨F,m,hm,h1⟩:=h1
  obtain ⟨G,k,hk,h2⟩:=h2
  obtain ⟨rfl,rfl,_⟩:=hm.uniq hk
  rcases h1 with ⟨a1,a2,a3,a4,s1,k1,a5,a6⟩|⟨a1,a2,a3,a4,p1,a5,a6⟩ <;> rcases h2 with ⟨b1,b2,b3,b4,s2,k2,b5,b6⟩|⟨b1,b2,b3,b4,p2,b5,b6⟩
  · have:=(Go.Flow.CutOK.uniq a5 b5).1
    exact ⟨by rw [a2,b2],by rw [a3,b3],by rw [a4,b4],by rw [a6,b6,this]⟩
  · omega
  · omega
  · have:=(Go.Flow.PathsOK.uniq a5 b5).1
    exact ⟨by rw [a2,b2],by rw [a3,b3],by rw [a6,b6,this],by rw [a4,b4]⟩
end Go.Step
namespace Go.Step
open Go.Flow (Flw fval)
variable {qs:List Int} {cs:List Ct} {bs:List Bk} {hs:List Hd} {d:Dm}
end Go.Step
namespace Go.Step
/-! sums -/
/-! one shipment -/
section
variable (cs:List Ct) (d:Dm) (P:Int→Int→Bool)
variable {cs d P}
/-! the ends -/
/-! the waits -/
/-! the contacts -/
end
section
variable {qs:List Int} {cs:List Ct} {bs:List Bk} {hs:List Hd} {d:Dm}
end
end Go.Step
namespace Go.Step
section
variable {qs:List Int} {cs:List Ct} {bs bs':List Bk} {hs hs':List Hd} {d:Dm}
end
end Go.Step
namespace Go.Step
def net1 (cs:List Ct) (n:Int) (x:Sh):Int:=(if (ctOf cs x).t=n then x.n else 0)-(if (ctOf cs x).f=n then x.n else 0)
def netS (cs:List Ct) (n:Int) (l:List Sh):Int:=lsum (net1 cs n) l
section
variable {qs:List Int} {cs:List Ct} {bs:List Bk} {hs:List Hd} {d:Dm}
end
end Go.Step
namespace Go.Step
def have1 (cs:List Ct) (n t:Int) (x:Sh):Int:=(if (ctOf cs x).t=n∧arrOf cs x≤t then x.n else 0)-(if (ctOf cs x).f=n∧x.t≤t then x.n else 0)
def haveS (cs:List Ct) (n t:Int) (l:List Sh):Int:=lsum (have1 cs n t) l
def evsN (cs:List Ct) (n:Int) (l:List Sh):List Int:=l.flatMap (fun x=>(if (ctOf cs x).f=n then [x.t] else []) ++ (if (ctOf cs x).t=n then [arrOf cs x] else []))
def evtN (cs:List Ct) (n:Int) (l:List Sh):List Int:=Lib.compact ((evsN cs n l).mergeSort fun x y=>decide (x≤y))
theorem evtN_sa (cs:List Ct) (n:Int) (l:List Sh):SA (evtN cs n l)∧∀ t,t∈evtN cs n l↔t∈evsN cs n l:=by
  have hp:((evsN cs n l).mergeSort fun x y=>decide (x≤y)).Pairwise (· ≤ ·):=by
    have:=List.pairwise_mergeSort (le:=fun x y:Int=>decide (x≤y)) (by intro a b c h1 h2; simp at *; omega) (by intro a b; simp; omega) (evsN cs n l)
    exact this.imp (fun h=>by simpa using h)
  obtain ⟨h1,h2⟩:=compact_sa hp
  exact ⟨h1,fun x=>by unfold evtN; rw [h2 x,List.mem_mergeSort]⟩
def lvN (cs:List Ct) (n:Int) (l:List Sh):List Lv:=comb (fun t=>haveS cs n t l) 0 (evtN cs n l)
def spL:List Lv→List ((Int × Int) × Int)
  | x::y::f=>(if 0<x.v then [((x.a,y.a),x.v)] else []) ++ spL (y::f)
  | _=>[]
def pieces (n a b s:Int) (k:Nat):List Hd:=(List.range k).map (fun i:Nat=>⟨n,a,b,min (s-65536*i) 65536,0⟩)
def pieceN (s:Int):Nat:=((s+65535) / 65536).toNat
def holdsN (cs:List Ct) (n:Int) (l:List Sh):List Hd:=(spL (lvN cs n l)).flatMap (fun p=>pieces n p.1.1 p.1.2 p.2 (pieceN p.2))
def holdsA (cs:List Ct) (l:List Sh):Nat→List Hd
  | 0=>[]
  | k+1=>holdsA cs l k ++ (if netS cs k l=0 then holdsN cs k l else [])
def negN (cs:List Ct) (n:Int) (l:List Sh):Bool:=decide (netS cs n l=0) && (lvN cs n l).any (fun y=>decide (y.v<0))
end Go.Step
namespace Go.Step
def IsRun (K:List (Int × Int)) (b:Bk):Prop:=b.k=0∧b.a<b.b∧(∀ t,b.a≤t→t<b.b→(b.c,t)∈K)∧(b.c,b.a-1)∉K∧(b.c,b.b)∉K
theorem IsRun.same {K:List (Int × Int)} {x y:Bk} (hx:IsRun K x) (hy:IsRun K y) (hc:x.c=y.c) {t:Int} (h1:x.a≤t) (h2:t<x.b) (h3:y.a≤t) (h4:t<y.b):x=y:=by
  obtain ⟨a1,a2,a3,a4,a5⟩:=hx
  obtain ⟨b1,b2,b3,b4,b5⟩:=hy
  have e1:x.a=y.a:=by
    rcases Int.lt_trichotomy x.a y.a with h|h|h
    · exact absurd (hc ▸ a3 (y.a-1) (by omega) (by omega)) b4
    · exact h
    · exact absurd (hc ▸ b3 (x.a-1) (by omega) (by omega):(x.c,x.a-1)∈K) a4
  have e2:x.b=y.b:=by
    rcases Int.lt_trichotomy x.b y.b with h|h|h
    · exact absurd (hc ▸ b3 x.b (by omega) h:(x.c,x.b)∈K) a5
    · exact h
    · exact absurd (hc ▸ a3 y.b (by omega) h) b5
  obtain ⟨xc,xa,xb,xk⟩:=x
  obtain ⟨yc,ya,yb,yk⟩:=y
  dsimp only at *
  subst hc e1 e2 a1 b1
  rfl
def addT (out:List Bk) (x:Int × Int):List Bk:=match out.getLast? with
  | some b=>if b.c=x.1∧b.b=x.2 then out.dropLast ++ [⟨b.c,b.a,b.b+1,b.k⟩] else out ++ [⟨x.1,x.2,x.2+1,0⟩]
  | none=>[⟨x.1,x.2,x.2+1,0⟩]
abbrev lexT (x y:Int × Int):Prop:=x.1<y.1∨(x.1=y.1∧x.2<y.2)
structure RunsOf (K:List (Int × Int)) (out:List Bk):Prop where
  p:out.Pairwise (fun x y=>x.c<y.c∨(x.c=y.c∧x.b<y.a))
  q:∀ b∈out,b.a<b.b∧b.k=0
  r:∀ c t,(c,t)∈K↔∃ b∈out,b.c=c∧b.a≤t∧t<b.b
theorem RunsOf.add {K:List (Int × Int)} {out:List Bk} (h:RunsOf K out) {x:Int × Int} (hx:∀ y∈K,lexT y x):RunsOf (K ++ [x]) (addT out x):=by
  obtain ⟨xc,xt⟩:=x
  have hold:∀ b∈out,b.c<xc∨(b.c=xc∧b.b≤xt):=fun b hb=>by
    have h1:=h.q b hb
    have:=hx (b.c,b.b-1) ((h.r _ _).2 ⟨b,hb,rfl,by omega,by omega⟩)
    unfold lexT at this
    dsimp only at this
    omega
  unfold addT
  cases hl:out.getLast? with
  | none =>
    have:out=[]:=by simpa using hl
    subst this
    refine ⟨List.pairwise_singleton _ _,fun b hb=>?_,fun c t=>?_⟩
    · rw [List.mem_singleton] at hb; subst hb; dsimp only; omega
    · rw [List.mem_append,h.r,List.mem_singleton,Prod.mk.injEq]
      constructor
      · rintro (⟨b,hb,_⟩|⟨rfl,rfl⟩)
        · simp at hb
        · exact ⟨_,List.mem_singleton.2 rfl,rfl,by dsimp only; omega,by dsimp only; omega⟩
      · rintro ⟨b,hb,h1,h2,h3⟩
        rw [List.mem_singleton] at hb;subst hb
        dsimp only at h1 h2 h3
        exact .inr ⟨h1.symm,by omega⟩
  | some b =>
    obtain ⟨pre,rfl⟩:∃ pre,out=pre ++ [b]:=by
      have hne:out≠[]:=by intro hh; rw [hh] at hl; simp at hl
      refine ⟨out.dropLast,?_⟩
      have h1:=List.dropLast_concat_getLast hne
      rw [List.getLast?_eq_some_getLast hne] at hl;rw [← Option.some.inj hl];exact h1.symm
    dsimp only
    have hp:=List.pairwise_append.1 h.p
    split
    · rename_i hc
      rw [List.dropLast_concat]
      refine ⟨List.pairwise_append.2 ⟨hp.1,List.pairwise_singleton _ _,fun y hy z hz=>?_⟩,fun y hy=>?_,fun c t=>?_⟩
      · rw [List.mem_singleton] at hz
        subst hz
        exact hp.2.2 y hy b (by simp)
      · rcases List.mem_append.1 hy with hy|hy
        · exact h.q y (by simp [hy])
        · rw [List.mem_singleton] at hy
          subst hy
          have:=h.q b (by simp)
          dsimp only
          omega
      · rw [List.mem_append,h.r,List.mem_singleton,Prod.mk.injEq]
        constructor
        · rintro (⟨y,hy,h1,h2,h3⟩|⟨rfl,rfl⟩)
          · rcases List.mem_append.1 hy with hy|hy
            · exact ⟨y,by simp [hy],h1,h2,h3⟩
            · rw [List.mem_singleton] at hy
              subst hy
              exact ⟨_,List.mem_append.2 (.inr (List.mem_singleton.2 rfl)),h1,h2,by dsimp only; omega⟩
          · have:=h.q b (by simp)
            exact ⟨_,List.mem_append.2 (.inr (List.mem_singleton.2 rfl)),hc.1,by dsimp only; omega,by dsimp only; omega⟩
        · rintro ⟨y,hy,h1,h2,h3⟩
          rcases List.mem_append.1 hy with hy|hy
          · exact .inl ⟨y,by simp [hy],h1,h2,h3⟩
          · rw [List.mem_singleton] at hy
            subst hy
            dsimp only at h1 h2 h3
            by_cases ht:t<b.b
            · exact .inl ⟨b,by simp,h1,h2,ht⟩
            · exact .inr ⟨by omega,by omega⟩
    · rename_i hc
      refine ⟨List.pairwise_append.2 ⟨h.p,List.pairwise_singleton _ _,fun y hy z hz=>?_⟩,fun y hy=>?_,fun c t=>?_⟩
      · rw [List.mem_singleton] at hz
        subst hz
        dsimp only
        have h1:=hold y hy
        rcases List.mem_append.1 hy with hy2|hy2
        · have h2:=hp.2.2 y hy2 b (by simp)
          have h3:=hold b (by simp)
          have h4:=h.q b (by simp)
          omega
        · rw [List.mem_singleton] at hy2
          subst hy2;omega
      · rcases List.mem_append.1 hy with hy|hy
        · exact h.q y hy
        · rw [List.mem_singleton] at hy
          subst hy
          dsimp only
          omega
      · rw [List.mem_append,h.r,List.mem_singleton,Prod.mk.injEq]
        constructor
        · rintro (⟨y,hy,h1,h2,h3⟩|⟨rfl,rfl⟩)
          · exact ⟨y,List.mem_append.2 (.inl hy),h1,h2,h3⟩
          · exact ⟨_,List.mem_append.2 (.inr (List.mem_singleton.2 rfl)),rfl,by dsimp only; omega,by dsimp only; omega⟩
        · rintro ⟨y,hy,h1,h2,h3⟩
          rcases List.mem_append.1 hy with hy|hy
          · exact .inl ⟨y,hy,h1,h2,h3⟩
          · rw [List.mem_singleton] at hy
            subst hy
            dsimp only at h1 h2 h3
            exact .inr ⟨h1.symm,by omega⟩
end Go.Step
namespace Go.Step
open Go.Eng (insL insL_len)
theorem bookedB_iff {l:List Bk} {c t:Int}:bookedB l c t=true↔∃ y∈l,y.c=c∧y.a≤t∧t<y.b:=by
  unfold bookedB busyL;rw [List.any_eq_true]
  constructor
  · rintro ⟨s,hs,h⟩
    obtain ⟨y,hy,rfl⟩:=List.mem_map.1 hs
    rw [List.mem_filter,decide_eq_true_eq] at hy;rw [Bool.and_eq_true,decide_eq_true_eq,decide_eq_true_eq] at h;exact ⟨y,hy.1,hy.2,h⟩
  · rintro ⟨y,hy,hc,h1,h2⟩
    refine ⟨(y.a,y.b),List.mem_map.2 ⟨y,List.mem_filter.2 ⟨hy,decide_eq_true hc⟩,rfl⟩,?_⟩;rw [Bool.and_eq_true,decide_eq_true_eq,decide_eq_true_eq];exact ⟨h1,h2⟩
theorem bks_of {cs:List Ct} {l:List Bk} (hok:∀ y∈l,okBk cs y) (hp:l.Pairwise (fun x y=>x.c<y.c∨(x.c=y.c∧x.b≤y.a))):firstE (bkE cs l) l.length=0:=by
  refine firstE_all (fun k hk=>?_)
  rw [bkE_at (List.getElem?_eq_getElem hk),if_neg (by rw [(okBkB_iff cs _).2 (hok _ (List.getElem_mem hk))]; simp)]
  by_cases h0:k=0
  · rw [if_pos h0]
  rw [if_neg h0,List.getD_eq_getElem?_getD,List.getElem?_eq_getElem (show k-1<l.length by omega),Option.getD_some]
  have h1:=List.pairwise_iff_getElem.1 hp (k-1) k (by omega) hk (by omega)
  obtain ⟨_,c,_,_,h2,_⟩:=hok _ (List.getElem_mem (show k-1<l.length by omega))
  unfold bk2E
  rw [if_neg (fun h=>h ((cmpBk_lt _ _).2 (by omega))),if_neg (by omega)]
end Go.Step
namespace Go.Step
theorem chkH_parts {qs:List Int} {cs:List Ct} {l:List Hd} (h:chkH qs cs l=0):chkPl qs cs=0∧l.length≤512∧firstE (hdE qs.length l) l.length=0∧fitB qs l=true:=by
  unfold chkH at h
  split at h
  · omega
  rename_i h1
  split at h
  · omega
  rename_i h2
  split at h
  · omega
  rename_i h3
  split at h
  · rename_i h4
    exact ⟨by omega,by omega,by omega,h4⟩
  · omega
section
variable {qs:List Int} {cs:List Ct} {bs:List Bk} {hs:List Hd} {d:Dm} {F F':List Int} {m m' e e':Int}
end
end Go.Step
namespace Go.Step
def ticksS (l:List Sh):List (Int × Int):=l.map (fun x=>(x.c,x.t))
def rsv1 (cs:List Ct) (x:Sh):Int:=
  if x.c<0∨(cs.length:Int)≤x.c then 2 else match cs[x.c.toNat]? with
    | none=>2
    | some c=>if x.t<c.s∨c.e≤x.t∨x.n<1∨c.r<x.n then 2 else 0
def rsvE (cs:List Ct) (bs:List Bk) (l:List Sh) (i:Nat):Int:=match l[i]? with
  | none=>0
  | some x=>if rsv1 cs x≠0 then rsv1 cs x else if (l.take i).any (sameSl x) || bookedB bs x.c x.t then 14 else 0
structure RsvOK (qs:List Int) (cs:List Ct) (bs:List Bk) (hs:List Hd) (l:List Sh) (R bs':List Bk) (hs':List Hd):Prop where
  rn:R.Nodup
  rm:∀ b,b∈R↔IsRun (ticksS l) b
  pb:bs'.Perm (bs ++ R)
  sb:bs'.Pairwise (fun x y=>cmpBk x y<0)
  ph:hs'.Perm (hs ++ holdsA cs l qs.length)
  sh:SortH hs'
section
variable {qs:List Int} {cs:List Ct} {bs:List Bk} {hs:List Hd} {l:List Sh} {R bs':List Bk} {hs':List Hd}
theorem stored_perm {a b:List Hd} (h:a.Perm b) (n t:Int):stored a n t=stored b n t:=by
  induction h with
  | nil=>rfl
  | cons x _ ih=>simp only [stored,ih]
  | swap x y l=>simp only [stored]; omega
  | trans _ _ h1 h2=>exact h1.trans h2
end
section
variable {qs:List Int} {cs:List Ct} {bs:List Bk} {hs:List Hd} {d:Dm} {l:List Sh} {v:Int}
end
end Go.Step
namespace Go.Step
section
variable {qs:List Int} {cs:List Ct} {bs:List Bk} {hs:List Hd} {l:List Sh}
theorem perm_sorted {α:Type} {r:α→α→Prop} (anti:∀ x y,r x y→r y x→x=y):∀ {a b:List α},a.Perm b→a.Pairwise r→b.Pairwise r→a=b
  | [],b,h,_,_=>(List.nil_perm.1 h).symm
  | x::a,[],h,_,_=>by have:=h.length_eq; simp at this
  | x::a,y::b,h,ha,hb=>by
    obtain ⟨a1,a2⟩:=List.pairwise_cons.1 ha
    obtain ⟨b1,b2⟩:=List.pairwise_cons.1 hb
    have e:x=y:=by
      have h1:x∈y::b:=h.mem_iff.1 (by simp)
      have h2:y∈x::a:=h.mem_iff.2 (by simp)
      rcases List.mem_cons.1 h1 with h1|h1
      · exact h1
      · rcases List.mem_cons.1 h2 with h2|h2
        · exact h2.symm
        · exact anti _ _ (a1 y h2) (b1 x h1)
    subst e;rw [perm_sorted anti ((List.perm_cons x).1 h) a2 b2]
theorem RsvOK.uniq {R R' bs1 bs2:List Bk} {hs1 hs2:List Hd} (h1:RsvOK qs cs bs hs l R bs1 hs1) (h2:RsvOK qs cs bs hs l R' bs2 hs2):bs1=bs2∧hs1=hs2:=by
  have hR:R.Perm R':=(List.perm_ext_iff_of_nodup h1.rn h2.rn).2 (fun b=>by rw [h1.rm,h2.rm])
  refine ⟨perm_sorted (r:=fun x y=>cmpBk x y<0) (fun x y a b=>?_) (h1.pb.trans ((hR.append_left bs).trans h2.pb.symm)) h1.sb h2.sb,perm_sorted (r:=fun x y=>cmpHd x y≤0) (fun x y a b=>?_) (h1.ph.trans h2.ph.symm) h1.sh h2.sh⟩
  · have:=(cmpBk_lt x y).1 a
    have:=(cmpBk_lt y x).1 b
    omega
  · exact cmpHd_anti (by have:=cmpHd_neg x y; omega)
def negA (cs:List Ct) (nq:Nat) (l:List Sh):Prop:=∃ n:Nat,n<nq∧negN cs n l=true
def RsvR (qs:List Int) (cs:List Ct) (bs:List Bk) (hs:List Hd) (l:List Sh) (e:Int) (bs':List Bk) (hs':List Hd):Prop:=
  (chkT qs cs bs hs≠0∧e=1∧bs'=[]∧hs'=[]) ∨
  (chkT qs cs bs hs=0∧((firstE (rsvE cs bs l) l.length≠0∧e=firstE (rsvE cs bs l) l.length∧bs'=[]∧hs'=[]) ∨
   (firstE (rsvE cs bs l) l.length=0∧((negA cs qs.length l∧e=24∧bs'=[]∧hs'=[]) ∨
    (¬ negA cs qs.length l∧∃ R bs1 hs1,RsvOK qs cs bs hs l R bs1 hs1 ∧
      ((¬ (bs1.length≤512∧hs1.length≤512)∧e=4∧bs'=[]∧hs'=[])∨((bs1.length≤512∧hs1.length≤512) ∧
        ((chkH qs cs hs1≠0∧e=15∧bs'=[]∧hs'=[])∨(chkH qs cs hs1=0∧e=0∧bs'=bs1∧hs'=hs1)))))))))
theorem RsvR.uniq {e1 e2:Int} {bs1 bs2:List Bk} {hs1 hs2:List Hd} (h1:RsvR qs cs bs hs l e1 bs1 hs1) (h2:RsvR qs cs bs hs l e2 bs2 hs2):e1=e2∧bs1=bs2∧hs1=hs2:=by
  rcases h1 with ⟨a,rfl,rfl,rfl⟩|⟨a,h1⟩ <;> rcases h2 with ⟨b,rfl,rfl,rfl⟩|⟨b,h2⟩
  · exact ⟨rfl,rfl,rfl⟩
  · exact absurd b a
  · exact absurd a b
  rcases h1 with ⟨a,rfl,rfl,rfl⟩|⟨a,h1⟩ <;> rcases h2 with ⟨b,rfl,rfl,rfl⟩|⟨b,h2⟩
  · exact ⟨rfl,rfl,rfl⟩
  · exact absurd b a
  · exact absurd a b
  rcases h1 with ⟨a,rfl,rfl,rfl⟩|⟨a,h1⟩ <;> rcases h2 with ⟨b,rfl,rfl,rfl⟩|⟨b,h2⟩
  · exact ⟨rfl,rfl,rfl⟩
  · exact absurd a b
  · exact absurd b a
  obtain ⟨R,x1,y1,k1,h1⟩:=h1
  obtain ⟨R',x2,y2,k2,h2⟩:=h2
  obtain ⟨rfl,rfl⟩:=k1.uniq k2
  rcases h1 with ⟨a,rfl,rfl,rfl⟩|⟨a,h1⟩ <;> rcases h2 with ⟨b,rfl,rfl,rfl⟩|⟨b,h2⟩
  · exact ⟨rfl,rfl,rfl⟩
  · exact absurd b a
  · exact absurd a b
  rcases h1 with ⟨u,rfl,rfl,rfl⟩|⟨u,rfl,rfl,rfl⟩ <;> rcases h2 with ⟨w,rfl,rfl,rfl⟩|⟨w,rfl,rfl,rfl⟩
  · exact ⟨rfl,rfl,rfl⟩
  · exact absurd w u
  · exact absurd u w
  · exact ⟨rfl,rfl,rfl⟩
end
section
variable {qs:List Int} {cs:List Ct} {bs:List Bk} {hs:List Hd} {d:Dm} {l:List Sh} {v:Int}
end
end Go.Step
namespace Go.Step
end Go.Step
namespace Go.Step
section
variable {qs:List Int} {cs:List Ct} {bs:List Bk} {hs:List Hd} {l:List Sh} {R bs':List Bk} {hs':List Hd}
end
def TruncH (m:Nat) (O T:List Hd) (many:Bool):Prop:=(many=false∧O=T∧m+O.length≤512)∨(many=true∧512<m+O.length∧O.length≤513∧O.length≤T.length)
theorem TruncH.nil {m:Nat} (h:m≤512):TruncH m [] [] false:=.inl ⟨rfl,rfl,by simpa using h⟩
theorem TruncH.app {m:Nat} {O T:List Hd} (x:List Hd) (h:TruncH m O T true):TruncH m O (T ++ x) true:=by
  rcases h with ⟨h,_⟩|⟨_,h1,h2,h3⟩
  · simp at h
  · exact .inr ⟨rfl,h1,h2,by rw [List.length_append]; omega⟩
theorem TruncH.push {m:Nat} {O T:List Hd} (x:Hd) (h:TruncH m O T false):TruncH m (O ++ [x]) (T ++ [x]) (decide (512<m+(O.length+1))):=by
  rcases h with ⟨_,rfl,h1⟩|⟨h,_⟩
  · by_cases c:512<m+(O.length+1)
    · rw [decide_eq_true c]
      refine .inr ⟨rfl,?_,?_,?_⟩ <;> rw [List.length_append,List.length_singleton] <;> omega
    · rw [decide_eq_false c]
      refine .inl ⟨rfl,rfl,?_⟩;rw [List.length_append,List.length_singleton];omega
  · simp at h
theorem TruncH.len {m:Nat} {O T:List Hd} {b:Bool} (h:TruncH m O T b):O.length≤513:=by
  rcases h with ⟨_,rfl,h1⟩|⟨_,h1,h2,h3⟩ <;> omega
theorem TruncH.more {m:Nat} {O T T':List Hd} (h:TruncH m O T true) (hl:T.length≤T'.length):TruncH m O T' true:=by
  rcases h with ⟨h,_⟩|⟨_,h1,h2,h3⟩
  · simp at h
  · exact .inr ⟨rfl,h1,h2,by omega⟩
end Go.Step
namespace Go.Step
structure An where
  acc:Bool
  vol:Int
  ss:List Sh
  c:Cu
def PlanA (qs:List Int) (cs:List Ct) (bs:List Bk) (hs:List Hd) (d:Dm) (a:An):Prop:=PlanOK qs cs bs hs d a.acc a.vol a.ss a.c
def MxS (qs:List Int) (cs:List Ct):List Bk→List Hd→List Dm→List An→List Bk→List Hd→Prop
  | bs,hs,[],an,bs',hs'=>an=[]∧bs'=bs∧hs'=hs
  | bs,hs,d::ds,an,bs',hs'=>∃ a as1 bs1 hs1,an=a::as1∧validT qs cs bs hs d=true∧PlanA qs cs bs hs d a∧RsvR qs cs bs hs a.ss 0 bs1 hs1∧MxS qs cs bs1 hs1 ds as1 bs' hs'
section
variable {qs:List Int} {cs:List Ct}
theorem PlanA.uniq {bs:List Bk} {hs:List Hd} {d:Dm} {a b:An} (h1:PlanA qs cs bs hs d a) (h2:PlanA qs cs bs hs d b):a=b:=by
  obtain ⟨a1,a2,a3,a4⟩:=a
  obtain ⟨b1,b2,b3,b4⟩:=b
  obtain ⟨e1,e2,e3,e4⟩:=PlanOK.uniq h1 h2
  dsimp only at e1 e2 e3 e4
  rw [e1,e2,e3,e4]
theorem MxS.uniq:∀ {ds:List Dm} {bs:List Bk} {hs:List Hd} {an an':List An} {b b':List Bk} {h h':List Hd},MxS qs cs bs hs ds an b h→MxS qs cs bs hs ds an' b' h'→an=an'∧b=b'∧h=h'
  | [],_,_,_,_,_,_,_,_,⟨x1,x2,x3⟩,⟨y1,y2,y3⟩=>⟨by rw [x1,y1],by rw [x2,y2],by rw [x3,y3]⟩
  | d::ds,_,_,_,_,_,_,_,_,⟨a,as1,b1,h1,e,_,p,r,s⟩,⟨a',as2,b2,h2,e',_,p',r',s'⟩=>by
    subst e;subst e'
    obtain rfl:=p.uniq p'
    obtain ⟨_,rfl,rfl⟩:=r.uniq r'
    obtain ⟨rfl,rfl,rfl⟩:=MxS.uniq s s'
    exact ⟨rfl,rfl,rfl⟩
theorem MxS.snoc {d:Dm} {a:An}:∀ {ds:List Dm} {bs:List Bk} {hs:List Hd} {an:List An} {b b':List Bk} {h h':List Hd},MxS qs cs bs hs ds an b h→validT qs cs b h d=true→PlanA qs cs b h d a→RsvR qs cs b h a.ss 0 b' h'→MxS qs cs bs hs (ds ++ [d]) (an ++ [a]) b' h'
  | [],_,_,_,_,_,_,_,⟨x1,x2,x3⟩,hv,p,r=>by
    subst x1;subst x2;subst x3;exact ⟨a,[],_,_,rfl,hv,p,r,rfl,rfl,rfl⟩
  | d'::ds,_,_,_,_,_,_,_,⟨a',as1,b1,h1,e,v,p',r',s⟩,hv,p,r=>by
    subst e;exact ⟨a',as1 ++ [a],b1,h1,rfl,v,p',r',MxS.snoc s hv p r⟩
theorem MxS.len:∀ {ds:List Dm} {bs:List Bk} {hs:List Hd} {an:List An} {b:List Bk} {h:List Hd},MxS qs cs bs hs ds an b h→an.length=ds.length
  | [],_,_,_,_,_,⟨x1,_,_⟩=>by rw [x1]; rfl
  | d::ds,_,_,_,_,_,⟨a,as1,b1,h1,e,v,p,r,s⟩=>by
    rw [e,List.length_cons,List.length_cons,MxS.len s]
theorem MxS.take (k:Nat):∀ {ds:List Dm} {bs:List Bk} {hs:List Hd} {an:List An} {b:List Bk} {h:List Hd},MxS qs cs bs hs ds an b h→∃ b' h',MxS qs cs bs hs (ds.take k) (an.take k) b' h':=by
  induction k with
  | zero=>intro ds bs hs an b h _; exact ⟨bs,hs,by rw [List.take_zero]; exact ⟨List.take_zero,rfl,rfl⟩⟩
  | succ k ih =>
    intro ds bs hs an b h hS
    match ds,hS with
    | [],⟨x1,_,_⟩=>exact ⟨bs,hs,by subst x1; exact ⟨rfl,rfl,rfl⟩⟩
    | d::ds,⟨a,as1,b1,h1,e,v,p,r,s⟩ =>
      obtain ⟨b',h',s'⟩:=ih s
      subst e;exact ⟨b',h',a,_,b1,h1,rfl,v,p,r,s'⟩
theorem MxS.at:∀ {k:Nat} {ds:List Dm} {bs:List Bk} {hs:List Hd} {an:List An} {b:List Bk} {h:List Hd} {d:Dm},MxS qs cs bs hs ds an b h→ds[k]?=some d →
    ∃ as1 b1 h1 a b2 h2,MxS qs cs bs hs (ds.take k) as1 b1 h1∧validT qs cs b1 h1 d=true∧PlanA qs cs b1 h1 d a∧RsvR qs cs b1 h1 a.ss 0 b2 h2∧an[k]?=some a:=by
  intro k
  induction k with
  | zero =>
    intro ds bs hs an b h d hS hd
    match ds,hS with
    | [],_=>simp at hd
    | d'::ds,⟨a,as1,b1,h1,e,v,p,r,s⟩ =>
      simp at hd
      subst hd;subst e;exact ⟨[],bs,hs,a,b1,h1,⟨rfl,rfl,rfl⟩,v,p,r,rfl⟩
  | succ k ih =>
    intro ds bs hs an b h d hS hd
    match ds,hS with
    | [],_=>simp at hd
    | d'::ds,⟨a,as1,b1,h1,e,v,p,r,s⟩ =>
      rw [List.getElem?_cons_succ] at hd
      obtain ⟨as2,b3,h3,a3,b4,h4,s3,v3,p3,r3,g3⟩:=ih s hd
      subst e
      exact ⟨a::as2,b3,h3,a3,b4,h4,⟨a,as2,b1,h1,rfl,v,p,r,s3⟩,v3,p3,r3,by rw [List.getElem?_cons_succ]; exact g3⟩
def MtxR (qs:List Int) (cs:List Ct) (bs:List Bk) (hs:List Hd) (ds:List Dm) (an:List An) (e:Int):Prop:=
  (e=0∧∃ b h,MxS qs cs bs hs ds an b h) ∨
  (e≠0∧an=[]∧∃ k d b1 h1 as1,ds[k]?=some d∧MxS qs cs bs hs (ds.take k) as1 b1 h1∧((validT qs cs b1 h1 d=false∧e=1)∨(validT qs cs b1 h1 d=true∧∃ a b2 h2,PlanA qs cs b1 h1 d a∧RsvR qs cs b1 h1 a.ss e b2 h2)))
variable {bs:List Bk} {hs:List Hd}
theorem mtx_stop {ds ds':List Dm} {as1 as2:List An} {b1 b:List Bk} {h1 h:List Hd} {k:Nat} {d:Dm} {e:Int} (he:e≠0) (hd:ds[k]?=some d) (hs1:MxS qs cs bs hs (ds.take k) as1 b1 h1) (hf:(validT qs cs b1 h1 d=false∧e=1)∨(validT qs cs b1 h1 d=true∧∃ a b2 h2,PlanA qs cs b1 h1 d a∧RsvR qs cs b1 h1 a.ss e b2 h2))
    (h2:MxS qs cs bs hs ds' as2 b h) (h3:ds'[k]?=some d) (h4:ds'.take k=ds.take k):False:=by
  obtain ⟨as3,b3,h3',a3,b4,h4',s3,v3,p3,r3,_⟩:=MxS.at h2 h3
  rw [h4] at s3
  obtain ⟨_,rfl,rfl⟩:=hs1.uniq s3
  rcases hf with ⟨hf,_⟩|⟨_,a,b2,h2',p,r⟩
  · rw [v3] at hf; simp at hf
  · obtain rfl:=p.uniq p3
    exact he (r.uniq r3).1
theorem MtxR.uniq {ds:List Dm} {an an':List An} {e e':Int} (h1:MtxR qs cs bs hs ds an e) (h2:MtxR qs cs bs hs ds an' e'):e=e'∧an=an':=by
  rcases h1 with ⟨rfl,b,h,s⟩|⟨he,rfl,k,d,b1,h1,as1,hd,s,hf⟩ <;> rcases h2 with ⟨rfl,b',h',s'⟩|⟨he',rfl,k',d',b1',h1',as1',hd',s',hf'⟩
  · exact ⟨rfl,(s.uniq s').1⟩
  · exact (mtx_stop he' hd' s' hf' s hd' rfl).elim
  · exact (mtx_stop he hd s hf s' hd rfl).elim
  · rcases Nat.lt_trichotomy k k' with hk|hk|hk
    · exact (mtx_stop he hd s hf s' (by rw [List.getElem?_take_of_lt hk]; exact hd) (by rw [List.take_take,Nat.min_eq_left (by omega)])).elim
    · subst hk
      rw [hd] at hd'
      obtain rfl:=Option.some.inj hd'
      obtain ⟨_,rfl,rfl⟩:=s.uniq s'
      refine ⟨?_,rfl⟩
      rcases hf with ⟨v,rfl⟩|⟨v,a,b2,h2,p,r⟩ <;> rcases hf' with ⟨v',rfl⟩|⟨v',a',b2',h2',p',r'⟩
      · rfl
      · rw [v] at v'; simp at v'
      · rw [v] at v'; simp at v'
      · obtain rfl:=p.uniq p'
        exact (r.uniq r').1
    · exact (mtx_stop he' hd' s' hf' s (by rw [List.getElem?_take_of_lt hk]; exact hd') (by rw [List.take_take,Nat.min_eq_left (by omega)])).elim
end
end Go.Step
namespace Go.Step
structure TmsI (E O A:List Int):Prop where
  sa:SA O
  mem:∀ t,(t∈O∨t∈A)↔t∈E
  le:∀ x∈O,∀ y∈A,x≤y
theorem TmsI.start {E A:List Int} (h:∀ t,t∈A↔t∈E):TmsI E [] A:=⟨List.Pairwise.nil,fun t=>by simp [h t],by simp⟩
theorem TmsI.step {E O A:List Int} (h:TmsI E O A) {k:Nat} {m:Int} (hk:A[k]?=some m) (hm:∀ y∈A,m≤y):TmsI E (nextT O m) (A.take k ++ A.drop (k+1)):=by
  obtain ⟨hl,e⟩:=List.getElem?_eq_some_iff.1 hk
  have hA:A=A.take k ++ m::A.drop (k+1):=by rw [← e,← List.drop_eq_getElem_cons hl,List.take_append_drop]
  have hmA:∀ t,t∈A↔t=m∨t∈A.take k ++ A.drop (k+1):=fun t=>by
    conv=>lhs; rw [hA]
    simp only [List.mem_append,List.mem_cons]
    constructor
    · rintro (h|h|h)
      · exact .inr (.inl h)
      · exact .inl h
      · exact .inr (.inr h)
    · rintro (h|h|h)
      · exact .inr (.inl h)
      · exact .inl h
      · exact .inr (.inr h)
  obtain ⟨n1,n2⟩:=nextT_ok h.sa (fun x hx=>h.le x hx m (List.mem_of_getElem? hk))
  refine ⟨n1,fun t=>?_,fun x hx y hy=>?_⟩
  · rw [n2,← h.mem,hmA t]
    constructor
    · rintro ((h|h)|h)
      · exact .inl h
      · exact .inr (.inl h)
      · exact .inr (.inr h)
    · rintro (h|h|h)
      · exact .inl (.inl h)
      · exact .inl (.inr h)
      · exact .inr h
  · have hyA:=(hmA y).2 (.inr hy)
    rcases (n2 x).1 hx with h1|rfl
    · exact h.le x h1 y hyA
    · exact hm y hyA
theorem TmsI.done {cs:List Ct} {n:Int} {l:List Sh} {O:List Int} (h:TmsI (evsN cs n l) O []):O=evtN cs n l:=by
  obtain ⟨h1,h2⟩:=evtN_sa cs n l
  exact h.sa.unique h1 (fun x=>by rw [h2 x,← h.mem]; simp)
structure BksI (l:List Sh) (i:Nat) (O:List Bk):Prop where
  nd:O.Nodup
  mem:∀ b,b∈O↔IsRun (ticksS l) b∧(b.c,b.a)∈(ticksS l).take i
  len:O.length≤i
theorem BksI.start (l:List Sh):BksI l 0 []:=⟨List.nodup_nil,fun b=>by simp,Nat.le_refl _⟩
theorem mem_take_next {α:Type} {L:List α} {k:Nat} {y z:α} (h:L[k]?=some y):z∈L.take (k+1)↔z∈L.take k∨z=y:=by
  obtain ⟨hk,e⟩:=List.getElem?_eq_some_iff.1 h
  rw [List.take_succ_eq_append_getElem hk,List.mem_append,e,List.mem_singleton]
theorem BksI.skip {l:List Sh} {i:Nat} {O:List Bk} {c t:Int} (h:BksI l i O) (hx:(ticksS l)[i]?=some (c,t)) (hp:(c,t-1)∈ticksS l):BksI l (i+1) O:=by
  refine ⟨h.nd,fun b=>?_,by have:=h.len; omega⟩
  rw [h.mem,mem_take_next hx]
  constructor
  · rintro ⟨h1,h2⟩
    exact ⟨h1,.inl h2⟩
  · rintro ⟨h1,h2|h2⟩
    · exact ⟨h1,h2⟩
    · obtain ⟨e1,e2⟩:=Prod.mk.inj h2
      exact absurd (by rw [e1,e2]; exact hp) h1.2.2.2.1
theorem BksI.push {l:List Sh} {i:Nat} {O:List Bk} {c t e:Int} (h:BksI l i O) (hnd:(ticksS l).Nodup) (hx:(ticksS l)[i]?=some (c,t)) (hr:IsRun (ticksS l) ⟨c,t,e,0⟩):BksI l (i+1) (O ++ [⟨c,t,e,0⟩]):=by
  have hnew:(c,t)∉(ticksS l).take i:=fun hm=>by
    obtain ⟨hl,e1⟩:=List.getElem?_eq_some_iff.1 hx
    have e2:ticksS l=(ticksS l).take i ++ (c,t)::(ticksS l).drop (i+1):=by rw [← e1,← List.drop_eq_getElem_cons hl,List.take_append_drop]
    rw [e2,List.nodup_append] at hnd;exact hnd.2.2 _ hm _ (List.mem_cons_self ..) rfl
  refine ⟨List.nodup_append.2 ⟨h.nd,by simp,fun x hx y hy e=>?_⟩,fun b=>?_,by have:=h.len; rw [List.length_append,List.length_singleton]; omega⟩
  · simp at hy
    subst hy;subst e;exact hnew ((h.mem _).1 hx).2
  · rw [List.mem_append,h.mem,List.mem_singleton,mem_take_next hx]
    constructor
    · rintro (⟨h1,h2⟩|rfl)
      · exact ⟨h1,.inl h2⟩
      · exact ⟨hr,.inr rfl⟩
    · rintro ⟨h1,h2|h2⟩
      · exact .inl ⟨h1,h2⟩
      · obtain ⟨e1,e2⟩:=Prod.mk.inj h2
        refine .inr (IsRun.same h1 hr e1 (t:=t) (by omega) (by have:=h1.2.1; omega) (Int.le_refl _) hr.2.1)
theorem BksI.all {l:List Sh} {O:List Bk} (h:BksI l l.length O):O.Nodup∧∀ b,b∈O↔IsRun (ticksS l) b:=by
  refine ⟨h.nd,fun b=>?_⟩
  rw [h.mem,List.take_of_length_le (by unfold ticksS; rw [List.length_map]; exact Nat.le_refl _)]
  exact ⟨fun h=>h.1,fun h=>⟨h,h.2.2.1 b.a (Int.le_refl _) h.2.1⟩⟩
end Go.Step
namespace Go.Step
theorem stored_ge0 {l:List Hd} (h:∀ x∈l,0≤x.s) (n t:Int):0≤stored l n t:=by
  induction l with
  | nil=>simp [stored]
  | cons x l ih =>
    have h1:=h x (by simp)
    have h2:=ih (fun y hy=>h y (by simp [hy]))
    unfold stored
    split <;> omega
theorem fit_sub {qs:List Int} {A M B:List Hd} (hp:M.Perm (A ++ B)) (hB:∀ x∈B,0≤x.s) (hf:fitB qs M=true):fitB qs A=true:=by
  rw [fitB_iff] at hf ⊢
  intro h hh
  have h1:=hf h (hp.mem_iff.2 (List.mem_append.2 (.inl hh)))
  rw [stored_perm hp,stored_append] at h1
  have:=stored_ge0 hB h.n h.a
  omega
structure AddI (qs:List Int) (cs:List Ct) (hs more:List Hd) (i:Nat) (L:List Hd):Prop where
  pm:L.Perm (hs ++ more.take i)
  st:SortH L
  ck:chkH qs cs L=0
theorem AddI.start {qs:List Int} {cs:List Ct} {hs more:List Hd} (h:chkH qs cs hs=0):AddI qs cs hs more 0 hs:=
  ⟨by simp,sortH_of (chkH_parts h).2.2.1,h⟩
theorem AddI.step {qs:List Int} {cs:List Ct} {hs more L:List Hd} {i:Nat} {x:Hd} (h:AddI qs cs hs more i L) (hx:more[i]?=some x) (hlen:hs.length+more.length≤512) (hsz:∀ y∈more,0≤y.s) :
    (addR qs cs L x=(insH L x,0)∧AddI qs cs hs more (i+1) (insH L x))∨((addR qs cs L x).2≠0∧(addR qs cs L x).1=[]∧∀ M:List Hd,M.Perm (hs ++ more)→chkH qs cs M≠0):=by
  obtain ⟨hi,e⟩:=List.getElem?_eq_some_iff.1 hx
  have hLl:L.length=hs.length+i:=by
    rw [h.pm.length_eq,List.length_append,List.length_take];omega
  obtain ⟨p1,p2,p3,p4⟩:=chkH_parts h.ck
  have hLok:∀ y∈L,okHd qs.length y:=fun y hy=>hdE_ok p3 y (by rwa [List.take_length])
  have htk:more.take (i+1)=more.take i ++ [x]:=by rw [List.take_succ_eq_append_getElem hi,e]
  have hmr:more=more.take i ++ (x::more.drop (i+1)):=by rw [← e,← List.drop_eq_getElem_cons hi,List.take_append_drop]
  by_cases hok:okHd qs.length x
  rotate_left
  · right
    have ea:addR qs cs L x=([],2):=by
      unfold addR
      rw [if_neg (by rw [h.ck]; simp),if_pos hok]
    refine ⟨by rw [ea]; decide,by rw [ea],fun M hM hc=>?_⟩
    obtain ⟨_,_,c3,_⟩:=chkH_parts hc
    refine hok (hdE_ok c3 x ?_);rw [List.take_length];exact hM.mem_iff.2 (List.mem_append.2 (.inr (List.mem_of_getElem? hx)))
  have hpi:(insH L x).Perm (hs ++ more.take (i+1)):=by
    rw [htk,← List.append_assoc];exact (insH_perm L x).trans ((List.Perm.cons x h.pm).trans (List.perm_append_singleton x _).symm)
  have hil:(insH L x).length=L.length+1:=by rw [(insH_perm L x).length_eq,List.length_cons]
  by_cases hf:fitB qs (insH L x)=true
  · left
    refine ⟨?_,hpi,insH_sort h.st x,chkH_of p1 (by omega) (fun y hy=>?_) (insH_sort h.st x) hf⟩
    · unfold addR
      rw [if_neg (by rw [h.ck]; simp),if_neg (by simpa using hok),if_neg (by omega),if_pos hf]
    · rcases List.mem_cons.1 ((insH_perm L x).mem_iff.1 hy) with rfl|hy
      · exact hok
      · exact hLok y hy
  · right
    have ea:addR qs cs L x=([],15):=by
      unfold addR
      rw [if_neg (by rw [h.ck]; simp),if_neg (by simpa using hok),if_neg (by omega),if_neg hf]
    refine ⟨by rw [ea]; decide,by rw [ea],fun M hM hc=>hf ?_⟩
    refine fit_sub (B:=more.drop (i+1)) ?_ (fun y hy=>hsz y (List.mem_of_mem_drop hy)) (chkH_parts hc).2.2.2
    have h1:(hs ++ more).Perm ((hs ++ more.take (i+1)) ++ more.drop (i+1)):=by
      rw [List.append_assoc,List.take_append_drop]
    exact hM.trans (h1.trans (hpi.symm.append_right _))
theorem AddI.end {qs:List Int} {cs:List Ct} {hs more L:List Hd} (h:AddI qs cs hs more more.length L):L.Perm (hs ++ more)∧SortH L∧chkH qs cs L=0:=
  ⟨by have:=h.pm; rwa [List.take_length] at this,h.st,h.ck⟩
end Go.Step
namespace Go.Step
structure Tk where
  k:Int
  q:Rq
  hops:List Hp
def ctAt (cs:List Ct) (i:Int):Ct:=cs.getD i.toNat ⟨0,0,0,0,0,0,0⟩
theorem ctAt_of {cs:List Ct} {k:Nat} {c:Ct} (h:cs[k]?=some c):ctAt cs (k:Int)=c:=by
  unfold ctAt; rw [Int.toNat_natCast,List.getD_eq_getElem?_getD,h]; rfl
def leaveC (cs:List Ct) (q:Rq) (h:Hp):Int:=if q.cus then h.e+2*(ctAt cs h.c).g else h.e
def HopOK (cs:List Ct) (q:Rq) (n t:Int) (h:Hp) (k:Nat) (c:Ct):Prop:=cs[k]?=some c∧h.c=k∧c.f=n∧n≠q.dst∧t≤h.b∧c.s≤h.b∧h.e≤c.e∧h.e=h.b+durC c q.size∧h.a=h.e+c.g
def Chain (cs:List Ct) (q:Rq):Int→Int→List Hp→Prop
  | n,_,[]=>n=q.dst
  | n,t,h::l=>(∃ (k:Nat) (c:Ct),HopOK cs q n t h k c)∧Chain cs q (ctAt cs h.c).t h.a l
def plcs (cs:List Ct):Int→Int→List Hp→List ((Int × Int) × Hp)
  | _,_,[]=>[]
  | n,t,h::l=>((n,t),h)::plcs cs (ctAt cs h.c).t h.a l
theorem plcs_len (cs:List Ct):∀ (l:List Hp) (n t:Int),(plcs cs n t l).length=l.length
  | [],_,_=>rfl
  | h::l,n,t=>by simp [plcs,plcs_len cs l]
theorem plcs_ok {cs:List Ct} {q:Rq}:∀ {l:List Hp} {n t:Int},Chain cs q n t l→∀ (i:Nat) (x:(Int × Int) × Hp),(plcs cs n t l)[i]?=some x→∃ k c,HopOK cs q x.1.1 x.1.2 x.2 k c
  | [],_,_,_,i,x,hx=>by simp [plcs] at hx
  | h::l,n,t,⟨hh,hc⟩,0,x,hx=>by simp [plcs] at hx; subst hx; exact hh
  | h::l,n,t,⟨hh,hc⟩,i+1,x,hx=>plcs_ok hc i x (by simpa [plcs] using hx)
theorem chain_last {cs:List Ct} {q:Rq}:∀ {l:List Hp} {n t:Int} {h:Hp},Chain cs q n t l→l.getLast?=some h→∃ (k:Nat) (c:Ct),cs[k]?=some c∧h.c=k∧c.t=q.dst
  | [],_,_,_,_,hl=>by simp at hl
  | [g],n,t,h,⟨⟨k,c,hh⟩,hc⟩,hl=>by
    simp at hl
    subst hl;refine ⟨k,c,hh.1,hh.2.1,?_⟩
    have:(ctAt cs g.c).t=q.dst:=hc
    rw [hh.2.1,ctAt_of hh.1] at this;exact this
  | g::g'::l,n,t,h,⟨_,hc⟩,hl=>chain_last hc (by rw [List.getLast?_cons_cons] at hl; exact hl)
structure RouOK (cs:List Ct) (q:Rq) (l:List Hp):Prop where
  ne:l≠[]
  len:l.length≤1000
  ch:Chain cs q q.src q.rdy l
  ar:∀ h,l.getLast?=some h→h.a≤q.dln
def holdsW (cs:List Ct) (q:Rq) (k:Int):Int→Int→List Hp→List Hd
  | _,_,[]=>[]
  | n,f,h::l=>⟨n,f,leaveC cs q h,q.size,k⟩::holdsW cs q k (ctAt cs h.c).t h.b l
def bkOf (k:Int) (h:Hp):Bk:=⟨h.c,h.b,h.e,k⟩
def bksT (x:Tk):List Bk:=x.hops.map (bkOf x.k)
def hdsT (cs:List Ct) (x:Tk):List Hd:=holdsW cs x.q x.k x.q.src x.q.rdy x.hops
def rawB (T:List Tk):List Bk:=T.flatMap bksT
def rawH (cs:List Ct) (T:List Tk):List Hd:=T.flatMap (hdsT cs)
def apB (x y:Bk):Prop:=x.c=y.c→x.b≤y.a∨y.b≤x.a
theorem apB_symm {x y:Bk} (h:apB x y):apB y x:=fun e=>(h e.symm).symm
structure LgOK (qs:List Int) (cs:List Ct) (T:List Tk):Prop where
  pl:chkPl qs cs=0
  tk:∀ x∈T,okRq qs.length x.q∧RouOK cs x.q x.hops
  num:∀ (i:Nat) x,T[i]?=some x→x.k=(i:Int)+1
  len:T.length≤4
  nb:(rawB T).length≤512
  nh:(rawH cs T).length≤512
  ap:(rawB T).Pairwise apB
  fit:fitB qs (rawH cs T)=true
def BkW (l:List Bk):Prop:=l.Pairwise (fun x y=>cmpBk x y≤0)
theorem cmpBk_le (x y:Bk):cmpBk x y≤0↔x.c<y.c∨(x.c=y.c∧x.a≤y.a):=by
  unfold cmpBk
  rcases orI_cmp x.c y.c [cmpI x.a y.a] with ⟨h1,e⟩|⟨h1,e⟩|⟨h1,e⟩
  · rw [e]; omega
  · rw [e]
    rcases orI_cmp x.a y.a [] with ⟨h2,e⟩|⟨h2,e⟩|⟨h2,e⟩
    · rw [e]; omega
    · rw [e]; simp only [orI]; omega
    · rw [e]; omega
  · rw [e]; omega
theorem durC_pos {c:Ct} {s:Int} (hc:chkCt c=0) (hs:1≤s∧s≤65536):1≤durC c s∧durC c s≤40000000:=⟨(durC_bd hc hs).1,(durC_bd hc hs).2.1⟩
theorem chkCt_g {c:Ct} (h:chkCt c=0):1≤c.g∧c.g≤1048576∧0≤c.s∧c.s<c.e∧c.e≤1099511627776-2*c.g∧0≤c.f∧0≤c.t:=by
  unfold chkCt at h
  split at h
  · omega
  · rename_i hk
    split at h
    · omega
    · split at h
      · omega
      · unfold okCt at hk
        omega
section
variable {qs:List Int} {cs:List Ct} {q:Rq}
theorem chain_bks (hp:chkPl qs cs=0) (hq:1≤q.size∧q.size≤65536) {k:Int} (hk:0≤k∧k≤1152921504606846976):∀ {l:List Hp} {n t:Int},Chain cs q n t l→∀ y∈l.map (bkOf k),okBk cs y
  | [],_,_,_,y,hy=>by cases hy
  | h::l,n,t,⟨⟨i,c,h1,h2,h3,h4,h5,h6,h7,h8,h9⟩,hc⟩,y,hy=>by
    rw [List.map_cons] at hy
    rcases List.mem_cons.1 hy with rfl|hy
    · have hck:=(chkPl_ct hp (List.mem_of_getElem? h1)).1
      have hd:=durC_pos (s:=q.size) hck hq
      have hl:=(List.getElem?_eq_some_iff.1 h1).1
      refine ⟨⟨?_,?_,hk.1,hk.2⟩,c,?_,h6,?_,h7⟩
      · show 0≤h.c; omega
      · show h.c<cs.length; omega
      · show cs[h.c.toNat]?=some c; rw [h2,Int.toNat_natCast]; exact h1
      · show h.b<h.e; omega
    · exact chain_bks hp hq hk hc y hy
theorem chain_hds (hp:chkPl qs cs=0) (hq:1≤q.size∧q.size≤65536) {k:Int} (hk:0≤k∧k≤1152921504606846976):∀ {l:List Hp} {n t f:Int},Chain cs q n t l→0≤f∧f≤t→∀ y∈holdsW cs q k n f l,okHd qs.length y
  | [],_,_,_,_,_,y,hy=>by cases hy
  | h::l,n,t,f,⟨⟨i,c,h1,h2,h3,h4,h5,h6,h7,h8,h9⟩,hc⟩,hf,y,hy=>by
    have hck:=(chkPl_ct hp (List.mem_of_getElem? h1))
    have hd:=durC_pos (s:=q.size) hck.1 hq
    have hg:=chkCt_g hck.1
    unfold holdsW at hy
    rcases List.mem_cons.1 hy with rfl|hy
    · have hlv:h.e≤leaveC cs q h∧leaveC cs q h≤h.e+2*c.g:=by
        unfold leaveC; rw [h2,ctAt_of h1]; split <;> omega
      refine ⟨⟨?_,?_⟩,⟨hf.1,?_,?_⟩,hq,hk⟩ <;> dsimp only <;> omega
    · exact chain_hds hp hq hk hc (by omega) y hy
theorem rou_bks (hp:chkPl qs cs=0) {x:Tk} (hq:okRq qs.length x.q) (hr:RouOK cs x.q x.hops) (hk:0≤x.k∧x.k≤1152921504606846976):∀ y∈bksT x,okBk cs y:=chain_bks hp ⟨hq.2.2.1.1,hq.2.2.1.2.1⟩ hk hr.ch
theorem rou_hds (hp:chkPl qs cs=0) {x:Tk} (hq:okRq qs.length x.q) (hr:RouOK cs x.q x.hops) (hk:0≤x.k∧x.k≤1152921504606846976):∀ y∈hdsT cs x,okHd qs.length y:=chain_hds hp ⟨hq.2.2.1.1,hq.2.2.1.2.1⟩ hk hr.ch ⟨hq.2.2.1.2.2.1,Int.le_refl _⟩
theorem LgOK.kb {T:List Tk} (h:LgOK qs cs T):∀ x∈T,1≤x.k∧x.k≤4:=fun x hx=>by
  obtain ⟨i,hi,rfl⟩:=List.getElem_of_mem hx
  have:=h.num i _ (List.getElem?_eq_getElem hi)
  have:=h.len
  omega
theorem LgOK.okB {T:List Tk} (h:LgOK qs cs T):∀ y∈rawB T,okBk cs y:=fun y hy=>by
  obtain ⟨x,hx,hy⟩:=List.mem_flatMap.1 hy
  have:=h.kb x hx
  exact rou_bks h.pl (h.tk x hx).1 (h.tk x hx).2 (by omega) y hy
theorem LgOK.okH {T:List Tk} (h:LgOK qs cs T):∀ y∈rawH cs T,okHd qs.length y:=fun y hy=>by
  obtain ⟨x,hx,hy⟩:=List.mem_flatMap.1 hy
  have:=h.kb x hx
  exact rou_hds h.pl (h.tk x hx).1 (h.tk x hx).2 (by omega) y hy
theorem fitB_perm {a b:List Hd} (h:a.Perm b) (hf:fitB qs a=true):fitB qs b=true:=by
  rw [fitB_iff] at hf ⊢
  intro x hx
  rw [← stored_perm h];exact hf x (h.mem_iff.2 hx)
theorem LgOK.tab {T:List Tk} (h:LgOK qs cs T) {bs:List Bk} {hs:List Hd} (pb:bs.Perm (rawB T)) (sb:BkW bs) (ph:hs.Perm (rawH cs T)) (sh:SortH hs):chkT qs cs bs hs=0:=by
  have okb:∀ y∈bs,okBk cs y:=fun y hy=>h.okB y (pb.mem_iff.1 hy)
  have okh:∀ y∈hs,okHd qs.length y:=fun y hy=>h.okH y (ph.mem_iff.1 hy)
  have hap:bs.Pairwise apB:=(pb.pairwise_iff (fun h=>apB_symm h)).2 h.ap
  have hB:chkB qs cs bs=0:=by
    unfold chkB
    rw [if_neg (by simp [h.pl]),if_neg (by rw [pb.length_eq]; have:=h.nb; omega)]
    refine bks_of okb ?_
    refine List.Pairwise.imp_of_mem (fun {x y} hx hy hxy=>?_) (List.pairwise_and_iff.2 ⟨sb,hap⟩)
    obtain ⟨h1,h2⟩:=hxy
    obtain ⟨_,c1,_,_,hlx,_⟩:=okb x hx
    obtain ⟨_,c2,_,_,hly,_⟩:=okb y hy
    rcases (cmpBk_le x y).1 h1 with h1|⟨h1,h3⟩
    · exact .inl h1
    · refine .inr ⟨h1,?_⟩
      rcases h2 h1 with h2|h2 <;> omega
  have hH:chkH qs cs hs=0:=chkH_of h.pl (by rw [ph.length_eq]; exact h.nh) okh sh (fitB_perm ph.symm h.fit)
  unfold chkT
  rw [if_neg (by simp [h.pl]),if_neg (by simp [hB])]
  exact hH
theorem LgOK.zero (hp:chkPl qs cs=0):LgOK qs cs []:=
  ⟨hp,fun x hx=>(by cases hx),fun i x hx=>(by simp at hx),by simp,by simp [rawB],by simp [rawH],.nil,by simp [rawH,fitB]⟩
/-! what is stored at any time fits,if it fits where holds begin -/
theorem storedL_mono {n t s:Int}:∀ {l:List Hd},(∀ x∈l,0≤x.s)→(∀ x∈l,x.n=n→x.a≤t→t<x.b→x.a≤s∧s<x.b)→stored l n t≤stored l n s
  | [],_,_=>Int.le_refl _
  | h::l,hz,H=>by
    have ih:=storedL_mono (l:=l) (fun x hx=>hz x (by simp [hx])) (fun x hx=>H x (by simp [hx]))
    have h0:=hz h (by simp)
    have h1:=H h (by simp)
    unfold stored
    by_cases c:h.n=n∧h.a≤t∧t<h.b
    · have:=h1 c.1 c.2.1 c.2.2
      rw [if_pos c,if_pos ⟨c.1,this⟩]; omega
    · rw [if_neg c]; split <;> omega
theorem storedL_none {n t:Int}:∀ {l:List Hd},(∀ x∈l,¬ (x.n=n∧x.a≤t∧t<x.b))→stored l n t=0
  | [],_=>rfl
  | h::l,H=>by
    unfold stored
    rw [if_neg (H h (by simp)),storedL_none (fun x hx=>H x (by simp [hx]))]; rfl
theorem last_begin {n t:Int}:∀ (l:List Hd),(∀ x∈l,¬ (x.n=n∧x.a≤t∧t<x.b))∨∃ h∈l,(h.n=n∧h.a≤t∧t<h.b)∧∀ x∈l,x.n=n∧x.a≤t∧t<x.b→x.a≤h.a
  | []=>.inl (fun x hx=>by cases hx)
  | y::l=>by
    rcases last_begin (n:=n) (t:=t) l with h|⟨h,hh,h1,h2⟩
    · by_cases c:y.n=n∧y.a≤t∧t<y.b
      · refine .inr ⟨y,by simp,c,fun x hx hc=>?_⟩
        rcases List.mem_cons.1 hx with rfl|hx
        · exact Int.le_refl _
        · exact absurd hc (h x hx)
      · refine .inl (fun x hx=>?_)
        rcases List.mem_cons.1 hx with rfl|hx
        · exact c
        · exact h x hx
    · by_cases c:(y.n=n∧y.a≤t∧t<y.b)∧h.a≤y.a
      · refine .inr ⟨y,by simp,c.1,fun x hx hc=>?_⟩
        rcases List.mem_cons.1 hx with rfl|hx
        · exact Int.le_refl _
        · have:=h2 x hx hc; omega
      · refine .inr ⟨h,by simp [hh],h1,fun x hx hc=>?_⟩
        rcases List.mem_cons.1 hx with rfl|hx
        · have:¬ h.a≤x.a:=fun h=>c ⟨hc,h⟩
          omega
        · exact h2 x hx hc
theorem fit_any {l:List Hd} (hz:∀ x∈l,0≤x.s) (hf:fitB qs l=true) {n t:Int} (hn:0≤qs.getD n.toNat 0):stored l n t≤qs.getD n.toNat 0:=by
  rcases last_begin (n:=n) (t:=t) l with h|⟨h,hh,h1,h2⟩
  · rw [storedL_none h]; exact hn
  · have h3:=fitB_iff.1 hf h hh
    rw [h1.1] at h3
    refine Int.le_trans (storedL_mono hz (fun x hx e1 e2 e3=>?_)) h3
    have:=h2 x hx ⟨e1,e2,e3⟩
    omega
end
end Go.Step
namespace Go.Eng
variable {C:Cx} {D:List Deferred} {R H:List PH} {L:Env} {K:List It}
theorem resC1 {fn:Func} {N:Bs} {M:Nat} {P:Program} {t b1:Nat} {T:TypeId} {v1:Value} (hr:fn.results = #[.cell t T]) (ht:look L t=some (.pointer (some ⟨b1,0,none⟩))) (a1:aggP P T=some false)
    (c1:Cell N R H b1 0 v1):∀ a w,Frm M L a→Sat N R H w→(results fn a.tmps).run P w=.ok v1 w:=by
  intro a w hf hs
  have e1:a.tmps[t]?.getD undef=.pointer (some ⟨b1,0,none⟩):=by simpa using hf.get t _ ht
  simp [results,hr,e1,loadVar,run_isAgg a1,c1 w hs,asAddr]
end Go.Eng
namespace Go.Proofs.YtglifndogffmkaaGreat
open Go.Eng Go.Step
set_option maxRecDepth 100000
set_option maxHeartbeats 64000000
theorem tlFits0_spec (c:Ct) (b s:Int) (hc:chkCt c=0) (hs:1≤s∧s≤65536) (h1:c.s≤b) (h2:b+durC c s≤c.e):Ans Tryz.prog (fv 268) [.agg #[int c.f,int c.t,int c.s,int c.e,int c.r,int c.g,int c.l],int b,int s] [] (fun r=>r=.bool true):=by
 have hdu:=dur0_spec c s hc hs
 have hd:=durC_pos hc hs
 have hg:=chkCt_g hc
 refine spec_in (cap:=[]) Tryz.func268 rfl rfl Tryz.ntmps268 rfl envZ (fun N β=>?_)
 refine Aa ?_;refine BH (BI rfl) rfl rfl rfl ?_;rintro _ _ ⟨b2,rfl,rfl⟩;refine AQ (ρ:=sng b2 _) takeZ ?_
 have cb:=rdB b2 61 [int c.f,int c.t,int c.s,int c.e,int c.r,int c.g,int c.l]
 have cb2:=rdC cb 2
 have cb3:=rdC cb 3
 refine Aaj ?_
 refine BD (.q 0 (.q 1 (.q 2 (.q 3 (.q 4 (.q 5 (.q 6 (.q 7 (.q 8 (.q 9 (.l 10 .e (.q 11 (.q 12 (.q 13 (.q 14 .nil))))))))))))))) [] rfl (by kernel_rfl) selZ ?_
 refine AM ?_;refine Aak ?_;refine GE ?_;refine Aar ?_;refine Aak ?_;refine A8 ?_;refine AM ?_;refine B4 (BP rfl hdu rfl rfl rdZ rfl rfl ?_);rintro _ rfl;refine D5 ?_;refine GD ?_;refine BN ?_;refine Acr ?_
 skip
 exact A3 ⟨rfl,rfl⟩
theorem tlFits_spec (c:Ct) (b s:Int) (hc:chkCt c=0) (hs:1≤s∧s≤65536) (h1:c.s≤b) (h2:b+durC c s≤c.e):Ans Tryz.prog (fv 244) [.agg #[int c.f,int c.t,int c.s,int c.e,int c.r,int c.g,int c.l],int b,int s] [] (fun r=>r=.bool true):=by
 have hck:=chk98_spec c s hc hs
 have hfi:=tlFits0_spec c b s hc hs h1 h2
 refine spec_in (cap:=[]) Tryz.func244 rfl rfl Tryz.ntmps244 rfl envZ (fun N β=>?_)
 refine Aa ?_;refine BH (BI rfl) rfl rfl rfl ?_;rintro _ _ ⟨b2,rfl,rfl⟩;refine AQ (ρ:=sng b2 _) takeZ ?_
 have cb:=rdB b2 61 [int c.f,int c.t,int c.s,int c.e,int c.r,int c.g,int c.l]
 refine Aaa ?_;refine Aas ?_;refine AB ?_;refine AZ hck rfl rfl rdZ rfl rfl ?_;rintro _ rfl;refine CO ?_;refine AB ?_;refine AK ?_;refine Aal ?_;refine AZ hfi rfl rfl rdZ rfl rfl ?_;rintro _ rfl;refine Adj ?_;exact A3 ⟨rfl,rfl⟩
section
variable {ρ τ:PH} {pq pc:Option Addr} {kq kc:Nat} {qs:List Int} {cs:List Ct} {q:Rq}
theorem tlHop_spec (hq:IntsAt ρ (.slice pq qs.length kq) qs) (hc:CtAt τ (.slice pc cs.length kc) cs) (hcap:cs.length≤kc) (lq:qs.length≤9223372036854775807) (lc:cs.length≤9223372036854775807) (hp:chkPl qs cs=0) (hs:1≤q.size∧q.size≤65536) {i:Nat} {c:Ct} (hi:cs[i]?=some c) (t0:Int) (hb:0≤t0∧t0≤1099511627776) :
  Ans Tryz.prog (fv 245) [.agg #[.slice pq qs.length kq,.slice pc cs.length kc],.agg #[int q.src,int q.dst,int q.size,int q.rdy,int q.dln,int q.pri,.bool q.cus],int (i:Int),int t0] [τ] (fun r=>r=.agg #[int (i:Int),int t0,int (t0+durC c q.size),int (t0+durC c q.size+c.g)]):=by
 have hck:=(chkPl_ct hp).2 c (List.mem_of_getElem? hi)
 have hdu:=dur_spec c q.size hck.1 hs
 have hd:=durC_pos hck.1 hs
 have hg:=chkCt_g hck.1
 have hil:=(List.getElem?_eq_some_iff.1 hi).1
 obtain ⟨_,_,e,hrc⟩:=hc.val encC_len
 simp only [Value.slice.injEq] at e
 obtain ⟨rfl,_,rfl⟩:=e
 obtain ⟨bq,oq,rfl,hrd⟩:=ctRow hrc hi
 refine spec_in (cap:=[]) Tryz.func245 rfl rfl Tryz.ntmps245 rfl envZ (fun N β=>?_)
 refine Aa ?_;refine BH (BI rfl) rfl rfl rfl ?_;rintro _ _ ⟨b4,rfl,rfl⟩;refine BH (BI rfl) rfl rfl rfl ?_;rintro _ _ ⟨b5,rfl,rfl⟩;refine BH (CH rfl) rfl rfl rfl ?_;rintro _ _ ⟨b8,rfl,rfl⟩;refine AQ (ρ:=sng b4 _) takeZ ?_;refine AQ (ρ:=sng b5 _) takeZ ?_
 have bx102_3:=rdB b4 25 [.slice pq qs.length kq,.slice (some ⟨bq,oq,none⟩) cs.length kc]
 have cp1:=rdC bx102_3 1
 have bx103_3:=rdB b5 28 [int q.src,int q.dst,int q.size,int q.rdy,int q.dln,int q.pri,.bool q.cus]
 have cr2:=rdC bx103_3 2
 refine Aca ?_;refine AB ?_;refine Abb ?_;refine A4 ?_; rintro _ _ ⟨b,rfl,rfl⟩;refine AW ?_; rintro _ _ ⟨rfl,rfl⟩;refine AE ?_;refine Aas ?_;refine Aae ?_
 revert b; intro b
 refine AZ hdu rfl rfl rdZ rfl rfl ?_;rintro _ rfl;refine Abv ?_;refine Ab ?_;refine Aag ?_;refine Aal ?_;refine BY ?_;refine Aal ?_;refine BY ?_;refine Aae ?_;refine BY ?_;refine B0 ?_;refine AW ?_; rintro _ _ ⟨rfl,rfl⟩;refine AE ?_;exact AT (resS1 (b1:=b8) (T:=127) (v1:=[int (i:Int),int t0,int (t0+durC c q.size),int (t0+durC c q.size+c.g)]) rfl rfl rfl rfl (cells_own memZ)) rsubZ selZ ⟨rfl,rfl⟩
theorem tlChkHop_spec (hq:IntsAt ρ (.slice pq qs.length kq) qs) (hc:CtAt τ (.slice pc cs.length kc) cs) (hcap:cs.length≤kc) (lq:qs.length≤9223372036854775807) (lc:cs.length≤9223372036854775807) (hp:chkPl qs cs=0) (hs:1≤q.size∧q.size≤65536) {n0 t0:Int} {h:Hp} {k:Nat} {c:Ct} (hh:HopOK cs q n0 t0 h k c) :
  Ans Tryz.prog (fv 193) [.agg #[.slice pq qs.length kq,.slice pc cs.length kc],.agg #[int q.src,int q.dst,int q.size,int q.rdy,int q.dln,int q.pri,.bool q.cus],.agg #[int n0,int t0],.agg #[int h.c,int h.b,int h.e,int h.a]] [τ] (fun r=>r=int 0):=by
 obtain ⟨hi,h2,h3,h4,h5,h6,h7,h8,h9⟩:=hh
 have hck:=(chkPl_ct hp).2 c (List.mem_of_getElem? hi)
 have hg:=chkCt_g hck.1
 obtain ⟨hc0,hb0,he0,ha0⟩:=h
 dsimp only at h2 h3 h4 h5 h6 h7 h8 h9 ⊢
 subst h2 h8 h9
 have hfi:=tlFits_spec c hb0 q.size hck.1 hs h6 (by omega)
 have hro:=tlHop_spec hq hc hcap lq lc hp hs hi hb0 ⟨by omega,by have:=durC_pos hck.1 hs; omega⟩
 have hil:=(List.getElem?_eq_some_iff.1 hi).1
 obtain ⟨_,_,e,hrc⟩:=hc.val encC_len
 simp only [Value.slice.injEq] at e
 obtain ⟨rfl,_,rfl⟩:=e
 obtain ⟨bq,oq,rfl,hrd⟩:=ctRow hrc hi
 refine spec_in (cap:=[]) Tryz.func193 rfl rfl Tryz.ntmps193 rfl envZ (fun N β=>?_)
 refine Aa ?_;refine BH (BI rfl) rfl rfl rfl ?_;rintro _ _ ⟨b4,rfl,rfl⟩;refine BH (BI rfl) rfl rfl rfl ?_;rintro _ _ ⟨b5,rfl,rfl⟩;refine BH (BI rfl) rfl rfl rfl ?_;rintro _ _ ⟨b6,rfl,rfl⟩;refine BH (BI rfl) rfl rfl rfl ?_;rintro _ _ ⟨b7,rfl,rfl⟩;refine AQ (ρ:=sng b4 _) takeZ ?_;refine AQ (ρ:=sng b5 _) takeZ ?_;refine AQ (ρ:=sng b6 _) takeZ ?_;refine AQ (ρ:=sng b7 _) takeZ ?_
 have cp:=rdB b4 25 [.slice pq qs.length kq,.slice (some ⟨bq,oq,none⟩) cs.length kc]
 have cp1:=rdC cp 1
 have cr:=rdB b5 28 [int q.src,int q.dst,int q.size,int q.rdy,int q.dln,int q.pri,.bool q.cus]
 have cr1:=rdC cr 1
 have cr2:=rdC cr 2
 have bx181_3:=rdB b6 305 [int n0,int t0]
 have cl0:=rdC bx181_3 0
 have cl1:=rdC bx181_3 1
 have ch:=rdB b7 127 [int (k:Int),int hb0,int (hb0+durC c q.size),int (hb0+durC c q.size+c.g)]
 have ch0:=rdC ch 0
 have ch1:=rdC ch 1
 refine Aaj ?_;refine Aan ?_;refine A7 ?_;refine Abu ?_;refine BC ?_;refine CM ?_;refine Ab3 ?_;refine Adq ?_;refine Abb ?_;refine A4 ?_; rintro _ _ ⟨b,rfl,rfl⟩;refine AW ?_; rintro _ _ ⟨rfl,rfl⟩;refine Aam ?_;refine AL ?_;refine Adq ?_;refine BO ?_;refine Abu ?_;refine CA ?_;refine Acl ?_;refine AI rfl ?_;refine Adq ?_;refine A7 ?_;refine Aaa ?_;refine AI rfl ?_;refine Aas ?_;refine Aae ?_;refine Aae ?_
 revert b; intro b9
 refine AZ hfi rfl rfl rdZ rfl rfl ?_;rintro _ rfl;refine B6 ?_;refine Aaa ?_;refine AI rfl ?_;refine AC ?_
 refine BD (.q 0 (.q 1 (.q 2 (.q 3 (.q 4 (.q 5 (.q 6 (.l 7 .e (.q 8 (.q 9 .nil)))))))))) [] rfl (by kernel_rfl) selZ ?_
 refine A8 ?_;refine A8 ?_;refine A8 ?_;refine Abf ?_;refine B4 (BP rfl hro rfl rfl rdZ rfl rfl ?_);rintro _ rfl
 focus ((refine' CQ rfl _ rfl rfl rfl rfl _; rotate_left; (apply q_neS [(k:Int),hb0,hb0+durC c q.size,hb0+durC c q.size+c.g] [(k:Int),hb0,hb0+durC c q.size,hb0+durC c q.size+c.g] (n:=4); exact rfl; exact rfl; kernel_rfl; kernel_rfl; kernel_rfl; exact rfl; exact rfl)))
 refine Acr ?_
 rw [show (!decide ([(k:Int),hb0,hb0+durC c q.size,hb0+durC c q.size+c.g]=[(k:Int),hb0,hb0+durC c q.size,hb0+durC c q.size+c.g]))=false by simp]
 skip
 refine AI rfl ?_;refine AJ ?_;refine A6 ?_;refine Aaq ?_;exact A3 ⟨rfl,rfl⟩
end
end Go.Proofs.YtglifndogffmkaaGreat
namespace Go.Proofs.YtglifndogffmkaaGreat
open Go.Eng Go.Step
set_option maxRecDepth 100000
set_option maxHeartbeats 64000000
theorem tlPlaces_spec {pq pc:Option Addr} {kq kc:Nat} {qs:List Int} {cs:List Ct} {q:Rq} (pv:Option Addr) (nv cv:Nat):Eng.Spec Tryz.prog (fv 192) [.agg #[.slice pq qs.length kq,.slice pc cs.length kc],.agg #[int q.src,int q.dst,int q.size,int q.rdy,int q.dln,int q.pri,.bool q.cus],.slice pv nv cv] [] [] (fun r H'=>∃ c1 c2 c3,r=.func (.func 243) #[] #[.pointer (some ⟨c1,0,none⟩),.pointer (some ⟨c2,0,none⟩),.pointer (some ⟨c3,0,none⟩)]∧H'=[sng c2 (.cells #[.slice pv nv cv] 90 (0,0)),sng c1 (.cells #[int q.src,int q.dst,int q.size,int q.rdy,int q.dln,int q.pri,.bool q.cus] 28 (0,0)),sng c3 (.cells #[.slice pq qs.length kq,.slice pc cs.length kc] 25 (0,0))]):=by
 refine spec_in (cap:=[]) Tryz.func192 rfl rfl Tryz.ntmps192 rfl envZ (fun N β=>?_)
 refine Aa ?_;refine BH (BI rfl) rfl rfl rfl ?_;rintro _ _ ⟨c3,rfl,rfl⟩;refine BH (BI rfl) rfl rfl rfl ?_;rintro _ _ ⟨c1,rfl,rfl⟩;refine BH (DP rfl rfl) rfl rfl rfl ?_;rintro _ _ ⟨c2,rfl,rfl⟩;refine Adm ?_;refine B3 ?_;refine Aaa ?_;exact AT (res1 rfl rfl) rsubZ selZ ⟨c1,c2,c3,rfl,rfl⟩
theorem tlPlaces_iter {ρ τ:PH} {pq pc:Option Addr} {kq kc:Nat} {qs:List Int} {cs:List Ct} {q:Rq} {lam:PH} (hq:IntsAt ρ (.slice pq qs.length kq) qs) (hc:CtAt τ (.slice pc cs.length kc) cs) (hcap:cs.length≤kc) (lq:qs.length≤9223372036854775807) (lc:cs.length≤9223372036854775807) (hp:chkPl qs cs=0) {pv:Option Addr} {cv:Nat} {l:List Hp} (hv:SlE encHp 4 lam (.slice pv l.length cv) l) (hl:l.length≤1000) (hch:Chain cs q q.src q.rdy l) (c1 c2 c3:Nat) :
  Iter Tryz.prog (.func (.func 243) #[] #[.pointer (some ⟨c1,0,none⟩),.pointer (some ⟨c2,0,none⟩),.pointer (some ⟨c3,0,none⟩)]) [sng c1 (.cells #[int q.src,int q.dst,int q.size,int q.rdy,int q.dln,int q.pri,.bool q.cus] 28 (0,0)),sng c2 (.cells #[.slice pv l.length cv] 90 (0,0)),sng c3 (.cells #[.slice pq qs.length kq,.slice pc cs.length kc] 25 (0,0)),τ,lam] ((plcs cs q.src q.rdy l).map (fun x=>[.agg #[int x.1.1,int x.1.2],.agg (encHp x.2).toArray])):=by
 intro y S Own Inv Stop Ry hy hyl σ0 hI0
 obtain ⟨yl,rfl⟩:=hyl
 obtain ⟨_,_,e,hrv⟩:=SlE.val encHp_len hv
 simp only [Value.slice.injEq] at e
 obtain ⟨rfl,_,rfl⟩:=e
 obtain ⟨_,_,e,hrc⟩:=hc.val encC_len
 simp only [Value.slice.injEq] at e
 obtain ⟨rfl,_,rfl⟩:=e
 have bx41_3:=rdB c1 28 [int q.src,int q.dst,int q.size,int q.rdy,int q.dln,int q.pri,.bool q.cus]
 have f0:=rdC bx41_3 0
 have f3:=rdC bx41_3 3
 have bx43_3:=rdB c2 90 [.slice pv l.length cv]
 have g0:=rdC bx43_3 0
 have bx44_3:=rdB c3 25 [.slice pq qs.length kq,.slice pc cs.length kc]
 have p1:=rdC bx44_3 1
 simp only [List.cons_append,List.nil_append]
 refine spec_in (cap:=[.pointer (some ⟨c1,0,none⟩),.pointer (some ⟨c2,0,none⟩),.pointer (some ⟨c3,0,none⟩)]) Tryz.func243 rfl rfl Tryz.ntmps243 rfl envZ (fun N β=>?_)
 refine Adq ?_;refine B0 ?_;refine A4 ?_; rintro _ _ ⟨b,rfl,rfl⟩;refine AW ?_; rintro _ _ ⟨rfl,rfl⟩;refine Ac3 ?_;refine Abk ?_
 revert b; intro b5
 refine BF [0,1,2,3,5,13,14] (X:=(Nat × (Int × Int)) × S) ((0,(q.src,q.rdy)),σ0) (fun z=>z.1.1≤l.length∧(plcs cs q.src q.rdy l).drop z.1.1=plcs cs z.1.2.1 z.1.2.2 (l.drop z.1.1)∧Chain cs q z.1.2.1 z.1.2.2 (l.drop z.1.1)∧Inv z.1.1 z.2) (fun z=>[(15,int (z.1.1:Int))]) (fun z=>sng b5 (.cells #[int z.1.2.1,int z.1.2.2] 305 (0,0))::Own z.2) (fun z=>l.length-z.1.1) pickZ ⟨Nat.zero_le _,rfl,hch,hI0⟩ covZ Sel.refl ?_
 rintro ⟨⟨k,⟨n1,t1⟩⟩,σ1⟩ ⟨hk,hd,hcn,hI⟩
 dsimp only at hk hd hcn hI ⊢
 by_cases hlt:k<l.length
 rotate_left
 ·have hke:k=l.length:=by omega
  subst hke;refine Abl ?_
  refine A9 (res0 rfl) (fun _ h=>h) (Sel.skip Sel.refl) ⟨σ1,rfl,.inl ?_⟩
  rw [List.length_map,plcs_len];exact hI
 have hdk:l.drop k=l[k]::l.drop (k+1):=List.drop_eq_getElem_cons hlt
 rw [hdk] at hd hcn
 have hx:=List.getElem?_eq_getElem hlt
 obtain ⟨bl,ol,rfl,hrd⟩:=hrv k _ hx
 generalize l[k]=h at hd hcn hx hrd
 obtain ⟨⟨i,c,hh⟩,hcn⟩:=hcn
 have hi:=hh.1
 have hil:=(List.getElem?_eq_some_iff.1 hi).1
 have hcc:(ctAt cs h.c).t=c.t:=by rw [hh.2.1,ctAt_of hi]
 rw [hcc] at hcn
 obtain ⟨bq,oq,rfl,hrq⟩:=ctRow hrc hi
 have q1:rdc τ bq (oq+i*7+1)=some (int c.t):=hrq.get (j:=1) rfl
 have hat:(plcs cs q.src q.rdy l)[k]?=some ((n1,t1),h):=by
  have e:((plcs cs q.src q.rdy l).drop k)[0]?=some ((n1,t1),h):=by rw [hd]; rfl
  rw [List.getElem?_drop] at e
  simpa using e
 have hd2:(plcs cs q.src q.rdy l).drop (k+1)=plcs cs c.t h.a (l.drop (k+1)):=by
  rw [← List.drop_drop,hd,← hcc]; rfl
 have hya:=hy _ σ1 [.agg #[int n1,int t1],.agg (encHp h).toArray] (by rw [List.getElem?_map,hat]; rfl) hI
 have hhc:=hh.2.1
 obtain ⟨hc0,hb0,he0,ha0⟩:=h
 dsimp only at hhc hcn hd2
 subst hhc
 have hrd:RdN lam bl (ol+k*4) [int (i:Int),int hb0,int he0,int ha0]:=hrd
 refine Ab2 ?_;refine A4 ?_; rintro _ _ ⟨b,rfl,rfl⟩;refine AW ?_; rintro _ _ ⟨rfl,rfl⟩;refine Aam ?_;refine Aab ?_;refine AK ?_;refine AK ?_
 revert b; intro b7
 refine AQ (ρ:=sng b7 _) takeZ ?_
 have mw:=rdB b7 127 [int (i:Int),int hb0,int he0,int ha0]
 have m0:=rdC mw 0
 have m3:=rdC mw 3
 skip
 refine BA hya rfl rfl (Takes.skip Takes.all) (fun τ hτ=>.inl (by simp [hτ])) rfl rfl ?_
 rintro _ H' ⟨σ3,rfl,⟨rfl,hI3⟩|⟨rfl,hSt⟩⟩
 ·refine DC (H':=_::Own σ3) (List.perm_append_comm (l₂:=[_])) ?_
  refine B6 ?_;refine Aay ?_;refine A7 ?_;refine AV ?_;refine Abu ?_;refine BC ?_;refine CM ?_;refine Ab3 ?_
  refine BD (.q 0 (.q 1 (.q 2 (.q 3 (.q 4 (.q 5 (.q 6 (.q 7 (.q 8 (.q 9 (.l 10 .b .nil))))))))))) [] rfl (by kernel_rfl) Sel.nil ?_
  refine Abf ?_;refine BB ?_;refine Abr ?_;refine Aak ?_;refine EZ ?_;refine B4 ?_;refine' DQ rfl _ rfl rfl _ _
  rotate_left
  ·apply C7; exact rfl; exact rfl; exact takeZ; exact oneZ; exact rfl; exact rfl
  ·rintro _ _ ⟨_,rfl⟩ w hw; exact hw.sel Sel.nil
  rintro _ _ ⟨rfl,rfl⟩;refine BE ?_;refine Aa3 ?_;refine BS ?_
  exact AY ((k+1,(c.t,ha0)),σ3) ⟨by dsimp only; omega,hd2,hcn,hI3⟩ (by dsimp only; omega) covZ (Sel.cons .here Sel.refl)
 ·refine DC (H':=_::Own σ3) (List.perm_append_comm (l₂:=[_])) ?_
  refine B6 ?_;refine Abd ?_;refine A2 ?_;refine Ab5 ?_;refine Aaf ?_;refine Ac4 ?_
  exact AT (res0 rfl) (fun _ h=>List.mem_cons_of_mem _ h) (Sel.skip Sel.refl) ⟨σ3,rfl,.inr hSt⟩
theorem tlRouCheck_spec {ρ τ:PH} {pq pc:Option Addr} {kq kc:Nat} {qs:List Int} {cs:List Ct} {q:Rq} {lam:PH} (hq:IntsAt ρ (.slice pq qs.length kq) qs) (hc:CtAt τ (.slice pc cs.length kc) cs) (hcap:cs.length≤kc) (lq:qs.length≤9223372036854775807) (lc:cs.length≤9223372036854775807) (hp:chkPl qs cs=0) (ho:okRq qs.length q) {pv:Option Addr} {cv:Nat} {l:List Hp} (hv:SlE encHp 4 lam (.slice pv l.length cv) l) (hr:RouOK cs q l) :
  Ans Tryz.prog (fv 132) [.agg #[.slice pq qs.length kq,.slice pc cs.length kc],.agg #[int q.src,int q.dst,int q.size,int q.rdy,int q.dln,int q.pri,.bool q.cus],.slice pv l.length cv] [ρ,τ,lam] (fun r=>r=int 0):=by
 obtain ⟨hne,hlen,hch,har⟩:=hr
 have hs:1≤q.size∧q.size≤65536:=⟨ho.2.2.1.1,ho.2.2.1.2.1⟩
 have hcr:=creq_spec (q:=q) hq hc hcap lq lc hp ho
 have hpl:=tlPlaces_spec (pq:=pq) (pc:=pc) (kq:=kq) (kc:=kc) (qs:=qs) (cs:=cs) (q:=q) pv l.length cv
 have hit:=fun c1 c2 c3=>tlPlaces_iter hq hc hcap lq lc hp hv hlen hch c1 c2 c3
 have hck:=fun {n0 t0:Int} {h:Hp} {k:Nat} {c:Ct} (hh:HopOK cs q n0 t0 h k c)=>tlChkHop_spec hq hc hcap lq lc hp hs hh
 have hl0:0<l.length:=List.length_pos_iff.2 hne
 have hlast:l.getLast?=some l[l.length-1]:=by rw [List.getLast?_eq_getElem?,List.getElem?_eq_getElem]
 obtain ⟨kl,cl,e1,e2,e3⟩:=chain_last hch hlast
 have hdl:=har _ hlast
 have hil:=(List.getElem?_eq_some_iff.1 e1).1
 have hxl:=List.getElem?_eq_getElem (show l.length-1<l.length by omega)
 have hok:=plcs_ok hch
 generalize plcs cs q.src q.rdy l=X at hit hok
 obtain ⟨_,_,e,hrv⟩:=SlE.val encHp_len hv
 simp only [Value.slice.injEq] at e
 obtain ⟨rfl,_,rfl⟩:=e
 obtain ⟨_,_,e,hrc⟩:=hc.val encC_len
 simp only [Value.slice.injEq] at e
 obtain ⟨rfl,_,rfl⟩:=e
 obtain ⟨bl,ol,rfl,hrl⟩:=hrv _ _ hxl
 obtain ⟨bq,oq,rfl,hrq⟩:=ctRow hrc e1
 have q1:rdc τ bq (oq+kl*7+1)=some (int cl.t):=hrq.get (j:=1) rfl
 generalize l[l.length-1]=h at e2 hdl hrl
 obtain ⟨hc0,hb0,he0,ha0⟩:=h
 dsimp only at e2 hdl
 subst e2
 have hrl:RdN lam bl (ol+(l.length-1)*4) [int (kl:Int),int hb0,int he0,int ha0]:=hrl
 refine spec_in (cap:=[]) Tryz.func132 rfl rfl Tryz.ntmps132 rfl envZ (fun N β=>?_)
 refine Aa ?_;refine BH (BI rfl) rfl rfl rfl ?_;rintro _ _ ⟨b3,rfl,rfl⟩;refine BH (BI rfl) rfl rfl rfl ?_;rintro _ _ ⟨b4,rfl,rfl⟩;refine BH (DD rfl rfl) rfl rfl rfl ?_;rintro _ _ ⟨b6,rfl,rfl⟩;refine AQ (ρ:=sng b3 _) takeZ ?_;refine AQ (ρ:=sng b4 _) takeZ ?_
 have cp:=rdB b3 25 [.slice pq qs.length kq,.slice (some ⟨bq,oq,none⟩) cs.length kc]
 have cp1:=rdC cp 1
 have cr:=rdB b4 28 [int q.src,int q.dst,int q.size,int q.rdy,int q.dln,int q.pri,.bool q.cus]
 have cr1:=rdC cr 1
 have cr4:=rdC cr 4
 refine Aam ?_;refine Ac ?_;refine AZ hcr rfl rfl rdZ rfl rfl ?_;rintro _ rfl;refine BO ?_;refine Ab6 ?_;refine BC ?_;refine CA ?_;refine Ab6 ?_;refine Acq ?_;refine Aa6 ?_;refine Ac ?_;refine AB ?_;refine BA hpl rfl rfl takesZ rdZ rfl rfl ?_;rintro _ _ ⟨c1,c2,c3,rfl,rfl⟩;simp only [List.cons_append,List.nil_append];refine AQ (ρ:=sng c2 _) takeZ ?_;refine AQ (ρ:=sng c1 _) takeZ ?_;refine AQ (ρ:=sng c3 _) takeZ ?_;refine Adi ?_
 refine DF (gf:=243) (cap:=[.pointer (some ⟨c1,0,none⟩),.pointer (some ⟨c2,0,none⟩),.pointer (some ⟨c3,0,none⟩)]) (ps:=[25,26]) (X:=Unit) rfl Tryz.func243 rfl rfl
  (hit c1 c2 c3) ?_ (fun _ _=>True) (fun _=>[]) (fun _ _=>False) () rfl takesZ trivial ?_ ?_ ?_
 ·intro σ' hσ
  simp only [List.mem_cons,List.not_mem_nil,or_false] at hσ ⊢
  rcases hσ with h|h|h|h|h <;> simp [h]
 ·rintro lo r j _ vs hvs _ hps has hbd hst hpe hfr
  obtain ⟨st,pe,fnn,tm,prm,asg,bdy,df⟩:=r
  simp only at hps has hbd hst hpe hfr;subst hps has hbd hst hpe;rw [List.getElem?_map] at hvs
  obtain ⟨x,hx,rfl⟩:=Option.map_eq_some_iff.1 hvs
  obtain ⟨k,c,hh⟩:=hok j x hx
  have hc1:=hck hh
  refine yield_spec hfr rfl (by intro p hp; simp at hp; omega) putiZ (fun N' β'=>?_)
  obtain ⟨⟨n1,t1⟩,⟨xc,xb,xe,xa⟩⟩:=x
  dsimp only at hc1 ⊢
  unfold encHp
  dsimp only
  refine Aa ?_;refine BH (CH rfl) rfl rfl rfl ?_;rintro _ _ ⟨b7,rfl,rfl⟩;refine AW ?_; rintro _ _ ⟨rfl,rfl⟩;refine AE ?_;refine AA ?_;refine A4 ?_; rintro _ _ ⟨b,rfl,rfl⟩;refine AW ?_; rintro _ _ ⟨rfl,rfl⟩;refine AE ?_
  revert b; intro b8
  refine C5 rfl rfl ?_;refine DE takeZ rfl ?_;refine AQ (ρ:=sng b7 _) takeZ ?_;refine AQ (ρ:=sng b8 _) takeZ ?_
  have w7:=rdB b7 305 [int n1,int t1]
  have w8:=rdB b8 127 [int xc,int xb,int xe,int xa]
  refine AL ?_;refine Ac ?_;refine AK ?_;refine AK ?_;refine AZ hc1 rfl rfl rdZ rfl rfl ?_;rintro _ rfl;refine Acx ?_;refine Aai ?_;refine A6 ?_;exact B9 takeZ rsubZ selZ ⟨(),.inl ⟨rfl,trivial,rfl⟩⟩
 ·rintro bm _ _
  simp only [List.cons_append,List.nil_append];refine A6 ?_;refine Aag ?_;refine BC ?_;refine B7 ?_;refine Abb ?_;refine A4 ?_; rintro _ _ ⟨b,rfl,rfl⟩;refine AW ?_; rintro _ _ ⟨rfl,rfl⟩;refine Aam ?_;refine AC ?_
  revert b; intro b10
  refine AQ (ρ:=sng b10 _) takeZ ?_
  have bx360_3:=rdB b10 127 [int (kl:Int),int hb0,int he0,int ha0]
  have z0:=rdC bx360_3 0
  have z3:=rdC bx360_3 3
  refine BD (.q 0 (.q 1 (.q 2 (.q 3 (.q 4 (.q 5 (.q 6 (.q 7 (.q 8 (.q 9 .nil)))))))))) [] rfl (by kernel_rfl) selZ ?_
  refine Abf ?_;refine BB ?_;refine Abr ?_;refine Aak ?_;refine FD ?_;refine Abn ?_;refine Aat ?_;refine Adq ?_;refine BW ?_;refine Aai ?_;refine Aa ?_;refine BM ?_; rintro _ _ ⟨rfl,rfl⟩;refine AE ?_;exact E8 (Marks.cons takeZ .nil) (resC1 (b1:=b6) (T:=37) (v1:=int 0) rfl rfl rfl (cell_own memZ rfl)) rsubZ selZ ⟨rfl,rfl⟩
 ·rintro bm cc o' hf
  exact hf.elim
end Go.Proofs.YtglifndogffmkaaGreat
namespace Go.Sym
variable {α:Type}
structure Cmp (cmp:α→α→Int):Prop where
  trans:∀ {x y z},cmp x y≤0→cmp y z≤0→cmp x z≤0
  tot:∀ {x y},¬ cmp y x<0→cmp x y≤0
abbrev Srt (cmp:α→α→Int) (l:List α):Prop:=l.Pairwise (fun x y=>cmp x y≤0)
theorem swap_eq (A B C:List α) (x y:α):((A ++ x::B ++ y::C).set A.length y).set (A.length+B.length+1) x=A ++ y::B ++ x::C:=by
  have e1:(A ++ x::B ++ y::C).set A.length y=A ++ y::B ++ y::C:=by
    rw [List.append_assoc,List.set_append_right _ _ (Nat.le_refl _),Nat.sub_self,List.append_assoc]
    rfl
  rw [e1,List.set_append_right _ _ (by simp; omega)]
  have:A.length+B.length+1-(A ++ y::B).length=0:=by simp; omega
  rw [this]
  rfl
theorem swap_eq' (A B C:List α) (x y:α):((A ++ x::B ++ y::C).set (A.length+B.length+1) x).set A.length y=A ++ y::B ++ x::C:=by
  rw [List.set_comm _ _ (by omega)]
  exact swap_eq A B C x y
theorem swap1_eq (A C:List α) (x y:α):((A ++ x::y::C).set A.length y).set (A.length+1) x=A ++ y::x::C:=by
  have:=swap_eq A [] C x y
  simpa using this
theorem swap1_eq' (A C:List α) (x y:α):((A ++ x::y::C).set (A.length+1) x).set A.length y=A ++ y::x::C:=by
  have:=swap_eq' A [] C x y
  simpa using this
section
variable {cmp:α→α→Int} (hc:Cmp cmp)
include hc
theorem srt_two {A B:List α} (hA:Srt cmp A) (hB:Srt cmp B) (h:∀ x,A.getLast?=some x→∀ y,B.head?=some y→cmp x y≤0):Srt cmp (A ++ B):=by
  refine List.pairwise_append.2 ⟨hA,hB,fun x hx y hy=>?_⟩
  obtain ⟨A',a,rfl⟩:∃ A' a,A=A' ++ [a]:=by
    rcases List.eq_nil_or_concat A with rfl|⟨A',a,rfl⟩
    · cases hx
    · exact ⟨A',a,by simp⟩
  cases B with
  | nil=>cases hy
  | cons b B =>
    have h1:=h a (by simp) b (by simp)
    have h2:cmp x b≤0:=by
      rcases List.mem_append.1 hx with hx|hx
      · exact hc.trans ((List.pairwise_append.1 hA).2.2 x hx a (by simp)) h1
      · simp at hx; subst hx; exact h1
    rcases List.mem_cons.1 hy with rfl|hy
    · exact h2
    · exact hc.trans h2 ((List.pairwise_cons.1 hB).1 y hy)
theorem srt_ins {A B:List α} {e:α} (h:Srt cmp (A ++ B)) (h1:∀ x,A.getLast?=some x→cmp x e≤0) (h2:∀ y,B.head?=some y→cmp e y≤0):Srt cmp (A ++ e::B):=by
  obtain ⟨hA,hB,hAB⟩:=List.pairwise_append.1 h
  have hE:Srt cmp (e::B):=by
    have:=srt_two hc (A:=[e]) (by simp) hB (fun x hx y hy=>by simp at hx; subst hx; exact h2 y hy)
    exact this
  exact srt_two hc hA hE (fun x hx y hy=>by simp at hy; subst hy; exact h1 x hx)
theorem sym_ok {U V:List α} (hU:Srt cmp U) (hV:Srt cmp V) {h s:Nat} (hsu:s≤U.length) (hsh:s≤h) (hhv:h≤V.length+s)
    (c1:∀ x y,0<s→U[s-1]?=some x→V[h-s]?=some y→cmp x y≤0) (c2:∀ x y,s<h→V[h-s-1]?=some x→U[s]?=some y→cmp x y≤0) :
    ∀ x∈U.take s ++ V.take (h-s),∀ y∈U.drop s ++ V.drop (h-s),cmp x y≤0:=by
  have sp:∀ {W:List α} {k:Nat},Srt cmp W→∀ x∈W.take k,∀ y∈W.drop k,cmp x y≤0:=fun {W k} hW=>by
    rw [← List.take_append_drop k W] at hW;exact (List.pairwise_append.1 hW).2.2
  have lo:∀ {W:List α} {k:Nat} {x:α},Srt cmp W→x∈W.take k→∃ z,W[k-1]?=some z∧0<k∧(k-1<W.length→(x=z∨cmp x z≤0))∨W.length<k:=fun {W k x} hW hx=>by
    rcases Nat.lt_or_ge W.length k with hk|hk
    · exact ⟨x,.inr hk⟩
    · obtain ⟨i,hi,rfl⟩:=List.getElem_of_mem hx
      rw [List.length_take] at hi
      have h0:k-1<W.length:=by omega
      refine ⟨W[k-1],.inl ⟨List.getElem?_eq_getElem h0,by omega,fun _=>?_⟩⟩
      rw [List.getElem_take]
      by_cases e:i=k-1
      · subst e; exact .inl rfl
      · exact .inr (List.pairwise_iff_getElem.1 hW i (k-1) (by omega) h0 (by omega))
  have hi:∀ {W:List α} {k:Nat} {y:α},Srt cmp W→y∈W.drop k→∃ z,W[k]?=some z∧(y=z∨cmp z y≤0):=fun {W k y} hW hy=>by
    obtain ⟨i,hi,rfl⟩:=List.getElem_of_mem hy
    rw [List.length_drop] at hi
    have h0:k<W.length:=by omega
    refine ⟨W[k],List.getElem?_eq_getElem h0,?_⟩;rw [List.getElem_drop]
    by_cases e:i=0
    · subst e; exact .inl rfl
    · exact .inr (List.pairwise_iff_getElem.1 hW k (k+i) h0 (by omega) (by omega))
  intro x hx y hy
  rcases List.mem_append.1 hx with hx|hx <;> rcases List.mem_append.1 hy with hy|hy
  · exact sp hU x hx y hy
  · obtain ⟨z,hz|hz⟩:=lo hU hx
    · obtain ⟨z1,z2,z3⟩:=hz
      obtain ⟨u,u1,u2⟩:=hi hV hy
      have h1:=c1 z u z2 z1 u1
      have h2:cmp x u≤0:=by
        rcases z3 (by omega) with rfl|h3
        · exact h1
        · exact hc.trans h3 h1
      rcases u2 with rfl|u2
      · exact h2
      · exact hc.trans h2 u2
    · omega
  · obtain ⟨z,hz|hz⟩:=lo hV hx
    · obtain ⟨z1,z2,z3⟩:=hz
      obtain ⟨u,u1,u2⟩:=hi hU hy
      have h1:=c2 z u (by omega) z1 u1
      have h2:cmp x u≤0:=by
        rcases z3 (by omega) with rfl|h3
        · exact h1
        · exact hc.trans h3 h1
      rcases u2 with rfl|u2
      · exact h2
      · exact hc.trans h2 u2
    · omega
  · exact sp hV x hx y hy
theorem srt_halves {A B A' B':List α} (hA:Srt cmp A') (hB:Srt cmp B') (pA:A'.Perm A) (pB:B'.Perm B) (h:∀ x∈A,∀ y∈B,cmp x y≤0):Srt cmp (A' ++ B'):=
  List.pairwise_append.2 ⟨hA,hB,fun x hx y hy=>h x (pA.mem_iff.1 hx) y (pB.mem_iff.1 hy)⟩
end
inductive Blk (cmp:α→α→Int) (n:Nat):List α→Prop
  | last {l:List α}:l.length≤n→Srt cmp l→Blk cmp n l
  | cons {u r:List α}:u.length=n→Srt cmp u→Blk cmp n r→Blk cmp n (u ++ r)
def Beg (cmp:α→α→Int) (n:Nat) (D:List α):Prop:=∀ r,Blk cmp n r→Blk cmp n (D ++ r)
theorem Beg.nil {cmp:α→α→Int} {n:Nat}:Beg cmp n []:=fun r h=>h
theorem Beg.snoc {cmp:α→α→Int} {n:Nat} {D u:List α} (h:Beg cmp n D) (hu:u.length=n) (hs:Srt cmp u):Beg cmp n (D ++ u):=fun r hr=>by
  rw [List.append_assoc];exact h _ (.cons hu hs hr)
theorem Beg.done {cmp:α→α→Int} {n:Nat} {D u:List α} (h:Beg cmp n D) (hu:u.length≤n) (hs:Srt cmp u):Blk cmp n (D ++ u):=h u (.last hu hs)
theorem Blk.small {cmp:α→α→Int} {n:Nat} {l:List α} (h:Blk cmp n l) (hl:l.length≤n) (hn:0<n):Srt cmp l:=by
  cases h with
  | last _ h=>exact h
  | @cons u r hu hs hr =>
    rw [List.length_append] at hl
    have:r=[]:=List.length_eq_zero_iff.1 (by omega)
    subst this
    simpa using hs
theorem Blk.two {cmp:α→α→Int} {n:Nat} {l:List α} (h:Blk cmp n l) (hn:0<n) (hl:n<l.length):Srt cmp (l.take n)∧(l.length<2*n→Srt cmp (l.drop n))∧(2*n≤l.length→Srt cmp ((l.drop n).take n)∧Blk cmp n (l.drop (2*n))):=by
  cases h with
  | last h _=>omega
  | @cons u r hu hs hr =>
    have e1:(u ++ r).take n=u:=by rw [← hu,List.take_left']; rfl
    have e2:(u ++ r).drop n=r:=by rw [← hu,List.drop_left']; rfl
    have e3:(u ++ r).drop (2*n)=r.drop n:=by rw [show 2*n=n+n by omega,← List.drop_drop,e2]
    rw [List.length_append] at hl ⊢;rw [e1,e2,e3]
    refine ⟨hs,fun h2=>?_,fun h2=>?_⟩
    · exact hr.small (by omega) hn
    · cases hr with
      | last h3 h4 =>
        have:r.length=n:=by omega
        rw [List.take_of_length_le (by omega),List.drop_of_length_le (by omega)]
        exact ⟨h4,.last (by simp) .nil⟩
      | @cons v r' hv hs' hr' =>
        rw [← hv,List.take_left' rfl,List.drop_left' rfl];rw [hv];exact ⟨hs',hr'⟩
end Go.Sym
namespace Go.Eng
def OwA {α:Type} (enc:α→List Value) (s:Nat) (e:TypeId) (b c n:Nat) (l:List α) (σ:PH):Prop:=l.length=n∧OwnS e s (.slice (some ⟨b,0,none⟩) n c) n (l.flatMap enc) σ
section
variable {α:Type} {enc:α→List Value} {s:Nat} {e:TypeId} {b c n:Nat} {l:List α} {σ:PH}
theorem OwA.row (he:∀ x,(enc x).length=s) (h:OwA enc s e b c n l σ) {i:Nat} {x:α} (hx:l[i]?=some x):RdN σ b (0+i*s) (enc x):=by
  obtain ⟨rfl,h⟩:=h
  have hS:SlE enc s σ (.slice (some ⟨b,0,none⟩) l.length c) l:=h.at
  obtain ⟨p,c',e1,hr⟩:=hS.val he
  simp only [Value.slice.injEq] at e1
  obtain ⟨b',o',e2,h2⟩:=hr i x hx
  rw [← e1.1] at e2;simp only [Option.some.injEq,Addr.mk.injEq,and_true] at e2
  obtain ⟨rfl,rfl⟩:=e2
  exact h2
theorem OwA.at (h:OwA enc s e b c n l σ):SlE enc s σ (.slice (some ⟨b,0,none⟩) n c) l:=by
  obtain ⟨rfl,h⟩:=h
  exact h.at
theorem OwA.cast (h:OwA enc s e b c n l σ) {m:List α} (e':m=l):OwA enc s e b c n m σ:=by subst e'; exact h
variable {C:Cx} {R H:List PH} {L:Env}
theorem CI {dst:Option Tmp} {ty:TypeId} {pos:String} {aft:Array Edge} {g:Option (Nat × Bool)} (he:∀ x,(enc x).length=s) {t:TypeId} {x y:Operand} {o:Nat} {a:α} {H':List PH} (i:Nat)
    (hO:OwA enc s e b c n l σ) (h:evalE L x=some (.pointer (some ⟨b,o,none⟩))) (ho:o=0+i*s) (hv:evalE L y=some (.agg (enc a).toArray)) (h1:∀ v∈enc a,v.oneCell'=true)
    (hn:szP C.P t=some s) (ht:Take σ H H') (hi:i<n) :
    Loud C R H L ⟨dst,.store t x y,ty,pos,aft,g⟩ (fun u H2=>u=undef∧∃ σ',OwA enc s e b c n (l.set i a) σ'∧H2=σ'::H'):=by
  obtain ⟨rfl,hO⟩:=hO
  refine ⟨fun a' w hx hs next Q hn'=>(DS he i hO h (by omega) hv h1 hn ht hi).run a' w hx hs next Q (fun v H2 w' hp hw=>hn' v H2 w' ?_ hw)⟩
  obtain ⟨rfl,ρ',h2,rfl⟩:=hp
  rw [List.length_set] at h2;exact ⟨rfl,ρ',⟨List.length_set ..,h2⟩,rfl⟩
end
end Go.Eng
namespace Go.Sym
variable {α:Type}
theorem at_mid {F G:List α} {x:α} {i:Nat} (hi:i=F.length):(F ++ x::G)[i]?=some x:=by subst hi; simp
theorem at_one {F M G:List α} {x y:α} {i:Nat} (hi:i=F.length):(F ++ x::M ++ y::G)[i]?=some x:=by subst hi; simp
theorem at_nxt {F G:List α} {x y:α} {i:Nat} (hi:i=F.length+1):(F ++ x::y::G)[i]?=some y:=by
  subst hi
  rw [List.getElem?_append_right (by omega)]
  simp
theorem at_two {F M G:List α} {x y:α} {j:Nat} (hj:j=F.length+M.length+1):(F ++ x::M ++ y::G)[j]?=some y:=by
  subst hj
  rw [List.getElem?_append_right (by simp; omega)]
  have:F.length+M.length+1-(F ++ x::M).length=0:=by simp; omega
  rw [this]; rfl
theorem sw_fwd {F G:List α} {x y:α} {i:Nat} (hi:i=F.length):((F ++ x::y::G).set i y).set (i+1) x=F ++ y::x::G:=by subst hi; exact swap1_eq F G x y
theorem sw_bwd {F G:List α} {x y:α} {i j:Nat} (hi:i=F.length) (hj:j=F.length+1):((F ++ x::y::G).set j x).set i y=F ++ y::x::G:=by subst hi hj; exact swap1_eq' F G x y
theorem sw_two {F M G:List α} {x y:α} {i j:Nat} (hi:i=F.length) (hj:j=F.length+M.length+1):((F ++ x::M ++ y::G).set i y).set j x=F ++ y::M ++ x::G:=by subst hi hj; exact swap_eq F M G x y
def swK (P A M B Q:List α) (k:Nat):List α:=P ++ (B.take k ++ A.drop k) ++ M ++ (A.take k ++ B.drop k) ++ Q
theorem swK_zero (P A M B Q:List α):swK P A M B Q 0=P ++ A ++ M ++ B ++ Q:=by simp [swK]
theorem swK_all {P A M B Q:List α} {n:Nat} (hA:A.length=n) (hB:B.length=n):swK P A M B Q n=P ++ B ++ M ++ A ++ Q:=by
  unfold swK
  rw [List.take_of_length_le (by omega),List.take_of_length_le (by omega),List.drop_of_length_le (by omega),List.drop_of_length_le (by omega)]
  simp
theorem swK_step {P A M B Q:List α} {n k:Nat} (hA:A.length=n) (hB:B.length=n) (hk:k<n) :
    ∃ x y F M2 G,swK P A M B Q k=F ++ x::M2 ++ y::G∧swK P A M B Q (k+1)=F ++ y::M2 ++ x::G∧F.length=P.length+k∧F.length+M2.length+1=P.length+n+M.length+k:=by
  have ha:A.drop k=A[k]::A.drop (k+1):=List.drop_eq_getElem_cons (by omega)
  have hb:B.drop k=B[k]::B.drop (k+1):=List.drop_eq_getElem_cons (by omega)
  have ta:A.take (k+1)=A.take k ++ [A[k]]:=List.take_succ_eq_append_getElem (by omega)
  have tb:B.take (k+1)=B.take k ++ [B[k]]:=List.take_succ_eq_append_getElem (by omega)
  refine ⟨A[k],B[k],P ++ B.take k,A.drop (k+1) ++ M ++ A.take k,B.drop (k+1) ++ Q,?_,?_,?_,?_⟩
  · unfold swK; rw [ha,hb]; simp only [List.append_assoc,List.cons_append,List.nil_append]
  · unfold swK; rw [ta,tb]; simp only [List.append_assoc,List.cons_append,List.nil_append]
  · rw [List.length_append,List.length_take]; omega
  · simp only [List.length_append,List.length_take,List.length_drop]; omega
structure RotI (m:Nat) (F D:List α) (i j:Nat):Prop where
  ex:∃ P A B Q,D=P ++ A ++ B ++ Q∧F=P ++ B ++ A ++ Q∧P.length+i=m∧A.length=i∧B.length=j
  pi:0<i
  pj:0<j
theorem RotI.le {m:Nat} {F D:List α} {i j:Nat} (h:RotI m F D i j):i≤m∧m+j≤D.length:=by
  obtain ⟨⟨P,A,B,Q,rfl,rfl,h1,h2,h3⟩,hi,hj⟩:=h
  simp only [List.length_append];omega
theorem RotI.start {P A B Q:List α} {a m b:Nat} (ha:P.length=a) (hm:a+A.length=m) (hb:m+B.length=b) (h1:0<A.length) (h2:0<B.length):RotI m (P ++ B ++ A ++ Q) (P ++ A ++ B ++ Q) (m-a) (b-m):=
  ⟨⟨P,A,B,Q,rfl,rfl,by omega,by omega,by omega⟩,by omega,by omega⟩
theorem RotI.left {m:Nat} {F D:List α} {i j:Nat} (h:RotI m F D i j) (hij:j<i):∃ P A M B Q,D=P ++ A ++ M ++ B ++ Q∧P.length=m-i∧A.length=j∧B.length=j∧P.length+j+M.length=m∧RotI m F (P ++ B ++ M ++ A ++ Q) (i-j) j:=by
  obtain ⟨⟨P,A,B,Q,rfl,rfl,h1,h2,h3⟩,hi,hj⟩:=h
  have hA:A.take j ++ A.drop j=A:=List.take_append_drop j A
  have l1:(A.take j).length=j:=by rw [List.length_take]; omega
  have l2:(A.drop j).length=i-j:=by rw [List.length_drop]; omega
  refine ⟨P,A.take j,A.drop j,B,Q,?_,by omega,l1,h3,by omega,⟨P ++ B,A.drop j,A.take j,Q,by simp,?_,by rw [List.length_append]; omega,l2,l1⟩,by omega,hj⟩
  · conv=>lhs; rw [← hA]
    simp
  · conv=>lhs; rw [← hA]
    simp
theorem RotI.right {m:Nat} {F D:List α} {i j:Nat} (h:RotI m F D i j) (hij:i<j):∃ P A M B Q,D=P ++ A ++ M ++ B ++ Q∧P.length=m-i∧A.length=i∧B.length=i∧P.length+i+M.length=m+j-i∧RotI m F (P ++ B ++ M ++ A ++ Q) i (j-i):=by
  obtain ⟨⟨P,A,B,Q,rfl,rfl,h1,h2,h3⟩,hi,hj⟩:=h
  have hB:B.take (j-i) ++ B.drop (j-i)=B:=List.take_append_drop _ B
  have l1:(B.take (j-i)).length=j-i:=by rw [List.length_take]; omega
  have l2:(B.drop (j-i)).length=i:=by rw [List.length_drop]; omega
  refine ⟨P,A,B.take (j-i),B.drop (j-i),Q,?_,by omega,h2,l2,by omega,⟨P,B.drop (j-i),B.take (j-i),A ++ Q,by simp,?_,by omega,l2,l1⟩,hi,by omega⟩
  · conv=>lhs; rw [← hB]
    simp
  · conv=>lhs; rw [← hB]
    simp
theorem RotI.last {m:Nat} {F D:List α} {i:Nat} (h:RotI m F D i i):∃ P A B Q,D=P ++ A ++ [] ++ B ++ Q∧P.length=m-i∧A.length=i∧B.length=i∧P.length+i=m∧F=P ++ B ++ [] ++ A ++ Q:=by
  obtain ⟨⟨P,A,B,Q,rfl,rfl,h1,h2,h3⟩,hi,hj⟩:=h
  exact ⟨P,A,B,Q,by simp,by omega,h2,h3,h1,by simp⟩
theorem getU {P U V Q:List α} {a i:Nat} {x:α} (ha:P.length=a) (hi:a≤i) (h:U[i-a]?=some x):(P ++ U ++ V ++ Q)[i]?=some x:=by
  have:=(List.getElem?_eq_some_iff.1 h).1
  rw [List.append_assoc,List.append_assoc,List.getElem?_append_right (by omega),ha,List.getElem?_append_left (by omega)]
  exact h
theorem getV {P U V Q:List α} {m i:Nat} {x:α} (ha:P.length+U.length=m) (hi:m≤i) (h:V[i-m]?=some x):(P ++ U ++ V ++ Q)[i]?=some x:=by
  have:=(List.getElem?_eq_some_iff.1 h).1
  rw [List.append_assoc,List.getElem?_append_right (by rw [List.length_append]; omega),List.length_append,ha,List.getElem?_append_left (by omega)]
  exact h
def shF (P:List α) (u:α) (V Q:List α) (k:Nat):List α:=P ++ V.take k ++ u::V.drop k ++ Q
theorem shF_step {P V Q:List α} {u:α} {k:Nat} (hk:k<V.length):∃ y F G,shF P u V Q k=F ++ u::y::G∧shF P u V Q (k+1)=F ++ y::u::G∧F.length=P.length+k:=by
  have hd:V.drop k=V[k]::V.drop (k+1):=List.drop_eq_getElem_cons hk
  have ht:V.take (k+1)=V.take k ++ [V[k]]:=List.take_succ_eq_append_getElem hk
  refine ⟨V[k],P ++ V.take k,V.drop (k+1) ++ Q,?_,?_,?_⟩
  · unfold shF; rw [hd]; simp only [List.append_assoc,List.cons_append,List.nil_append]
  · unfold shF; rw [ht]; simp only [List.append_assoc,List.cons_append,List.nil_append]
  · rw [List.length_append,List.length_take]; omega
theorem shF_perm {P V Q:List α} {u:α} (k:Nat):∃ W,shF P u V Q k=P ++ W ++ Q∧W.Perm (u::V)∧W=V.take k ++ u::V.drop k:=by
  refine ⟨V.take k ++ u::V.drop k,?_,?_,rfl⟩
  · unfold shF; simp only [List.append_assoc,List.cons_append]
  · have:=List.perm_middle (a:=u) (l₁:=V.take k) (l₂:=V.drop k)
    rwa [List.take_append_drop] at this
section
variable {cmp:α→α→Int} (hc:Cmp cmp)
include hc
theorem put_ok {V:List α} {u:α} {k:Nat} (hk:k≤V.length) (hV:Srt cmp V) (h1:∀ y,0<k→V[k-1]?=some y→cmp y u≤0) (h2:∀ y,V[k]?=some y→cmp u y≤0):Srt cmp (V.take k ++ u::V.drop k):=by
  refine srt_ins hc (by rw [List.take_append_drop]; exact hV) (fun x hx=>?_) (fun y hy=>?_)
  · by_cases h0:0<k
    · refine h1 x h0 ?_
      rw [List.getLast?_eq_getElem?,List.length_take,Nat.min_eq_left hk,List.getElem?_take_of_lt (by omega)] at hx
      exact hx
    · have:k=0:=by omega
      subst this; simp at hx
  · rw [List.head?_eq_getElem?,List.getElem?_drop] at hy
    exact h2 y (by simpa using hy)
end
end Go.Sym
namespace Go.Eng
variable {C:Cx} {D:List Deferred} {R H:List PH} {L:Env} {K:List It}
section
variable {dst:Option Tmp} {ty:TypeId} {pos:String} {aft:Array Edge} {g:Option (Nat × Bool)}
theorem wrap_u64 {n:Int} (h:0≤n∧n≤18446744073709551615):IntKind.u64.wrap n=n:=by
  have e:IntKind.u64.wrap n=n % 18446744073709551616:=by
    show (let m:=n % (2 ^ IntKind.u64.bits:Int); if IntKind.u64.signed && m≥(2 ^ (IntKind.u64.bits-1):Int) then m-(2 ^ IntKind.u64.bits:Int) else m)=_
    rfl
  rw [e]; omega
theorem EL {s d:TypeId} {x:Operand} {n:Nat} (h:evalE L x=some (.int .i64 (n:Int))) (hs:(C.P.underlying s).isSome=true) (hd:kindP C.P d=some .u64) (hn:n≤18446744073709551615) :
    Quiet C R H L ⟨dst,.convert s d x,ty,pos,aft,g⟩ (.int .u64 (n:Int)):=E3 h hs hd (wrap_u64 ⟨by omega,by omega⟩)
theorem q_shr {x y:Operand} {xT yT:TypeId} {k k2:IntKind} {m:Int} {s:Nat} (h1:evalE L x=some (.int k m)) (h2:evalE L y=some (.int k2 (s:Int))) (hs:s≤k.bits):Quiet C R H L ⟨dst,.binOp .shr xT x y yT,ty,pos,aft,g⟩ (.int k (m.fdiv (2 ^ s))):=
  ⟨by intro c; simp,fun a w hx _=>by
    have e1:=hx x (by simp [Op.operands]) _ h1
    have e2:=hx y (by simp [Op.operands]) _ h2
    have h0:¬ ((s:Int)<0):=by omega
    have hm:min s k.bits=s:=by omega
    simp [execOp,e1,e2,eqGuard,binOp,Op.shift,h0,hm]⟩
theorem CZ {x y:Operand} {xT yT:TypeId} {k:IntKind} {n:Nat} (h1:evalE L x=some (.int k (n:Int))) (h2:evalE L y=some (.int k 1)) (hs:1≤k.bits):Quiet C R H L ⟨dst,.binOp .shr xT x y yT,ty,pos,aft,g⟩ (.int k ((n / 2:Nat):Int)):=by
  have:=q_shr (C:=C) (R:=R) (H:=H) (dst:=dst) (ty:=ty) (pos:=pos) (aft:=aft) (g:=g) (xT:=xT) (yT:=yT) (s:=1) h1 h2 hs
  have e:(n:Int).fdiv (2 ^ 1)=((n / 2:Nat):Int):=by
    rw [Int.fdiv_eq_ediv_of_nonneg _ (by decide)]; omega
  rwa [e] at this
end
end Go.Eng
namespace Go.Eng
variable {C:Cx} {D:List Deferred} {R H:List PH} {L:Env} {K:List It}
section
variable {dst:Option Tmp} {ty:TypeId} {pos:String} {aft:Array Edge} {g:Option (Nat × Bool)}
end
end Go.Eng
